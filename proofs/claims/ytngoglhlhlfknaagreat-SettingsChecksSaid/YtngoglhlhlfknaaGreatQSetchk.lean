/-
  SettingsChecks returns true for every diagram and every list of relays. No condition.
-/
import Derived.Test.YtngoglhlhlfknaaGreatQ6
import Derived.Test.YtngoglhlhlfknaaGreatRows
namespace Go.Proofs.YtngoglhlhlfknaaGreat.setchk
open Go.ChangeShapes Go.WideShapes Go.ChangeAt Go.RowKit
open Go.Eb Go.Proofs.YtngoglhlhlfknaaGreat.st Go.Proofs.YtngoglhlhlfknaaGreat.se
set_option maxRecDepth 100000

abbrev eC := en2 aSta (aD relsD)
theorem eC_inj : InjT eC := en2_inj aSta_inj (aD_inj relsD_inj)
def okC (a : SSta × List SRel) : Bool := okSta a.1 && (lenOk a.2 && a.2.all okRel)
theorem okC_mk {s : SSta} {l : List SRel} (hs : okSta s = true) (hl : lenOk l = true) (ha : l.all okRel = true) : okC (s, l) = true := by
  unfold okC; simp only [hs, hl, ha]; rfl
theorem okC_un {a : SSta × List SRel} (h : okC a = true) : okSta a.1 = true ∧ lenOk a.2 = true ∧ a.2.all okRel = true := by
  unfold okC at h; simp only [Bool.and_eq_true] at h; exact h
theorem theC_of (s : SSta) (l : List SRel) (d : D) (h1 : DE d (relsD l)) (h2 : DE (relsD l) d) : theT eC [aSta s, .c (.d d)] = (s, l) := by
  have hx : okX eC [aSta s, .c (.d d)] = true := okX_iff.2 ⟨(s, l), .cons (.refl _) (.cons h1 .nil)⟩
  have h := theT_le hx
  have a1 := aSta_inj _ _ (asle_cons h).1
  have a2 := relsD_inj _ _ (h2.trans (ale_c (asle_cons (asle_cons h).2).1))
  exact Prod.ext a1.symm a2.symm
theorem okC_of (s : SSta) (l : List SRel) (d : D) (h1 : DE d (relsD l)) (h2 : DE (relsD l) d) (h : okC (s, l) = true) : okG eC okC [aSta s, .c (.d d)] = true := by
  have hx : okX eC [aSta s, .c (.d d)] = true := okX_iff.2 ⟨(s, l), .cons (.refl _) (.cons h1 .nil)⟩
  unfold okG
  rw [hx, theC_of s l d h1 h2, h]; rfl
/-- both Checks, at a valid diagram -/
noncomputable def chkP (a : SSta × List SRel) : Int × Int := chkRels a.1.bays (namesS a.1) [] 0 a.2
def okV (a : SSta × List SRel) : Bool := okC a && (chkSta a.1 == 0 && cSz a.1)
theorem okV_of {s : SSta} {l : List SRel} (h : okC (s, l) = true) (hz : chkSta s = 0) (hc : cSz s = true) : okV (s, l) = true := by
  unfold okV; rw [h]; simp only [hz, hc]; rfl
theorem okV_un {a : SSta × List SRel} (h : okV a = true) : okC a = true ∧ chkSta a.1 = 0 ∧ cSz a.1 = true := by
  unfold okV at h; simp only [Bool.and_eq_true, beq_iff_eq] at h; exact h
theorem large_le {s : SSta} (h : large s = false) : cSz s = true := by
  unfold large at h
  simp only [Bool.or_eq_false_iff, decide_eq_false_iff_not] at h
  unfold cSz
  simp only [Bool.and_eq_true, decide_eq_true_eq]
  omega
noncomputable def ZCs : KCs where
  okf := okG eC okC
  fi x := fineS (theT eC x).1 (theT eC x).2
  okc := okG eC okV
  ci x := (chkP (theT eC x)).1
  ce x := (chkP (theT eC x)).2
  di x := (chkP (theT eC x)).1
  de x := (chkP (theT eC x)).2
  oks := okG e2R cR2
  sp x := sameR (theT e2R x).1 (theT e2R x).2
  sr x := sameR (theT e2R x).1 (theT e2R x).2
theorem sCs : OrcS Tryz.prog (oCs ZCs) := by
  refine .cons (.p dec0_ok kn.c7k) (.cons (.t' (r := fun (a : SSta × List SRel) => vB (fineS a.1 a.2)) fun a h => cfin a.1 a.2 (okC_un h).1 (okC_un h).2.1 (okC_un h).2.2)
    (.cons (.t' (r := fun (a : SSta × List SRel) => vP (chkP a)) fun a h => ?_) (.cons (.t' (r := fun (a : SSta × List SRel) => vP (chkP a)) fun a h => ?_)
    (.cons (.t' (r := fun (a : SRel × SRel) => vB (sameR a.1 a.2)) fun a h => cSme a.1 a.2 h) (.cons (.t' (r := fun (a : SRel × SRel) => vB (sameR a.1 a.2)) fun a h => cRsm a.1 a.2 h) .nil)))))
  · obtain ⟨h1, h2, h3⟩ := okV_un h
    have := c13c a.1 a.2 (okC_un h1).1 (okC_un h1).2.1 (okC_un h1).2.2
    unfold checkS at this
    have e : (chkSta a.1 != 0) = false := by rw [h2]; rfl
    rw [e] at this
    exact this
  · obtain ⟨h1, h2, h3⟩ := okV_un h
    exact cCk a.1 a.2 h3 (okC_un h1).2.1 (okC_un h1).2.2
theorem lpC (s : SSta) (l : List SRel) (g : Nat) (hl : l.length ≤ 9223372036854775807) (ha : l.all okRel = true) : ∀ (m k : Nat), 1 ≤ k → k ≤ 9000 → l.length - k < m → l.length ≤ 9000 → Lchk_8 ZCs s l g m k = lB true
  | 0, k, _, _, h, _ => by omega
  | m + 1, k, h1, hk9, h, hl9 => by
    have st := stchk_8 ZCs s l g m k
    by_cases hlt : k < l.length
    · have hk' : k - 1 < l.length := by omega
      have w : IntKind.wrap IntKind.i64 ((k : Int) - 1) = ((k - 1 : Nat) : Int) := by rw [wrap_id (by omega) (by omega)]; omega
      have ih := lpC s l g hl ha m (k + 1) (by omega) (by omega) (by omega) hl9
      have r1 : okRel (l.getD k rel0) = true := all_getD ha rfl k
      have a1 : ZCs.oks [aRel (l.getD k rel0), aRel (l.getD (k - 1) rel0)] = true := okG_enc e2R_inj (c := cR2) (l.getD k rel0, l.getD (k - 1) rel0) r1
      have a2 : ZCs.oks [aRel (l.getD k rel0), aRel (l.getD k rel0)] = true := okG_enc e2R_inj (c := cR2) (l.getD k rel0, l.getD k rel0) r1
      have t2 : theT e2R [aRel (l.getD k rel0), aRel (l.getD k rel0)] = (l.getD k rel0, l.getD k rel0) := theT_enc e2R_inj (l.getD k rel0, l.getD k rel0)
      have q1 : (ZCs.sp [aRel (l.getD k rel0), aRel (l.getD (k - 1) rel0)] == ZCs.sr [aRel (l.getD k rel0), aRel (l.getD (k - 1) rel0)]) = true := beq_self_eq_true (sameR (theT e2R [aRel (l.getD k rel0), aRel (l.getD (k - 1) rel0)]).1 (theT e2R [aRel (l.getD k rel0), aRel (l.getD (k - 1) rel0)]).2)
      have q2 : ZCs.sp [aRel (l.getD k rel0), aRel (l.getD k rel0)] = true := by
        show sameR (theT e2R _).1 (theT e2R _).2 = true
        rw [t2]; exact sameR_refl _
      rw [lt1 hlt, w, lt1 hk', ge0 k, ge0 (k - 1), tn, tn, nx hlt hl, a1, a2, q1, q2, ih] at st
      exact st
    · rw [lt0 hlt] at st
      refine Eq.trans st ?_
      rw [cond_false]
      have e1 : (ZCs.ci [aSta s, .c (.d (relsD l))] == ZCs.di [aSta s, .c (.d (relsD l))]) = true := beq_self_eq_true (chkP (theT eC [aSta s, .c (.d (relsD l))])).1
      have e2 : (ZCs.ce [aSta s, .c (.d (relsD l))] == ZCs.de [aSta s, .c (.d (relsD l))]) = true := beq_self_eq_true (chkP (theT eC [aSta s, .c (.d (relsD l))])).2
      rw [e1, e2]
      rfl
theorem cCs (s : SSta) (l : List SRel) (hs : okSta s = true) (hla : lenOk l = true ∧ l.all okRel = true) : CR Tryz.prog 6 [aSta s, .c (.d (relsD l))] [] (vB true) [] := by
  obtain ⟨hl, ha⟩ := hla
  have hc : okC (s, l) = true := okC_mk hs hl ha
  obtain ⟨g, hg⟩ : ∃ g, l.length < g := ⟨l.length + 1, by omega⟩
  refine cr_of sCs.ok Tryz.func6 bchk rfl ((evchk ZCs s l g).trans ?_)
  have t : theT eC [aSta s, .c (.d (relsD l))] = (s, l) := theT_enc eC_inj (s, l)
  have k1 : ZCs.okf [aSta s, .c (.d (relsD l))] = true := okG_enc eC_inj (c := okC) (s, l) hc
  have k2 : ZCs.fi [aSta s, .c (.d (relsD l))] = fineS s l := by dsimp only [ZCs]; rw [t]
  rw [k1, k2]
  cases hf : fineS s l with
  | false => rfl
  | true =>
    unfold fineS at hf
    simp only [Bool.and_eq_true, beq_iff_eq, decide_eq_true_eq, Bool.not_eq_true'] at hf
    obtain ⟨hL, hz, hn, _⟩ := hf
    have k3 : ZCs.okc [aSta s, .c (.d (relsD l))] = true := okG_enc eC_inj (c := okV) (s, l) (okV_of hc hz (large_le hL))
    have e : Lchk_8 ZCs s l g g 1 = lB true := lpC s l g (lenOk_le hl) ha g 1 (by omega) (by omega) (by omega) (by omega)
    rw [k3, e]
    rfl

theorem own : ownKnob Tryz.prog.godebug = none := by kernel_rfl
theorem laidOut : laidOutB Tryz.prog = true := by kernel_rfl
theorem okS : [27, 22, 23, 24, 25, 71, 74, 66, 63, 64, 154, 9, 3, 4, 35, 57, 47, 46, 49, 51, 52, 53, 54, 55, 100, 95, 104, 107].all (okT Tryz.prog [27, 22, 23, 24, 25, 71, 74, 66, 63, 64, 154, 9, 3, 4, 35, 57, 47, 46, 49, 51, 52, 53, 54, 55, 100, 95, 104, 107]) = true := by kernel_rfl

set_option maxRecDepth 100000 in
theorem lifted (os : Os) (started : os.Started) (H : Type) (enc : TypeId × Value → H) :
    ReturnsInHanded {} Tryz.checked os 6 .any (Rows.settingsChecksSpec.pre6 enc Tryz.prog Tryz.f6 Rows.settingsChecksRow.domain false) (Rows.settingsChecksSpec.post enc Tryz.prog Tryz.f6 false true false false) := by
  refine returnsInHanded_of_change (C := Tryz.checked) own started (by kernel_rfl) Tryz.func6
    (ChangeSpec.witness6 (enc := enc) (C := Tryz.checked) false ⟨#[], #[.agg #[.string ⟨#[]⟩, .slice none 0 0, .slice none 0 0, .slice none 0 0, .slice none 0 0], .slice none 0 0], []⟩ 8 (by kernel_rfl) (by kernel_rfl) (by kernel_rfl) (by kernel_rfl)) ?_
  intro W base args ds gs before hval hW hcnd _
  have hW' := hW
  obtain ⟨p, q, hA0, hV, rfl, hfz, hnd⟩ := hW
  have hA : DataW.TrodAll enc Tryz.prog W 0 (fun _ => true) true Tryz.f6.params.toList args.toList ds p := hA0
  rw [Tryz.params6] at hA hval
  have hA1 := hA
  obtain ⟨v0, vs0, d0, ds0, p0, q0, hargs0, rfl, rfl, h0, r0⟩ := trodAll_cons hA
  obtain ⟨v1, vs1, d1, ds1, p1, q1, hargs1, rfl, rfl, h1, r1⟩ := trodAll_cons r0
  obtain ⟨rfl, rfl, rfl⟩ := trodAll_nil r1
  obtain rfl : args = #[v0, v1] := by cases args; simp_all
  obtain ⟨rfl, rfl⟩ := trodVars_none hV
  have f0 : aggT Tryz.prog 27 = some true := by simp [aggT, Tryz.underlying27]
  obtain ⟨e0, a0, hr0, hs0, hk0⟩ := arg_open (β := fun _ => .free) okS (by kernel_rfl) (hval 0 27 v0 rfl rfl) h0
  obtain rfl : a0 = .agg (e0.map .d) := by rcases hk0 with ⟨_, rfl⟩ | ⟨hf, _⟩ <;> first | rfl | (rw [f0] at hf; cases hf)
  obtain ⟨x0, hx0, ho0⟩ := shp_sta hs0
  have f1 : aggT Tryz.prog 35 = some false := by simp [aggT, Tryz.underlying35]
  obtain ⟨e1, a1, hr1, hs1, hk1⟩ := arg_open (β := fun _ => .free) okS (by kernel_rfl) (hval 1 35 v1 rfl rfl) h1
  obtain ⟨y1, rfl, rfl⟩ : ∃ x, e1 = [x] ∧ a1 = .c (.d x) := by rcases hk1 with ⟨hf, _⟩ | ⟨_, h⟩ <;> first | exact h | (rw [f1] at hf; cases hf)
  obtain ⟨z1, x1, hz1, hx1, ho1⟩ := shp_rels hs1
  obtain rfl : y1 = z1 := by simpa using hz1
  have hcalls := calls_of_cr (w := W) (vs := #[v0, v1]) rfl ((cCs x0 x1 ho0 ho1).ge (.cons (ale_of_des hx0) (.cons (ale_d hx1) .nil)) (.refl _)) ⟨rfl, fun i x v hx hv => by
    match i, hx, hv with
    | 0, hx, hv => simp at hx hv; subst hx hv; exact hr0
    | 1, hx, hv => simp at hx hv; subst hx hv; exact hr1
    | i + 2, hx, hv => simp at hx⟩
  refine hcalls.mono fun e W' ⟨he, bel⟩ => ?_
  subst he
  exact ⟨_, rfl, _, _, _, [], _, [], hW', trodAll_mk1 (shut_bool Tryz.underlying4 _), trodAll_stays laidOut bel (by
    intro t ht
    have : t = 27 ∨ t = 35 := by simpa using ht
    rcases this with rfl | rfl <;> exact ⟨by kernel_rfl, of_decide_eq_true (by kernel_rfl)⟩) hA1, rfl, bel.frame _, fun h => by cases h⟩

theorem proved : Rows.SettingsChecksSaid :=
  OpenClaim.holds_of_wide 6 Tryz.f6 rfl rfl rfl rfl rfl rfl rfl ⟨rfl, rfl, rfl, rfl, rfl⟩ rfl rfl rfl rfl rfl (by kernel_rfl) Tryz.func6 (by kernel_rfl)
    (of_decide_eq_true (by kernel_rfl)) (by unfold Func.isWrapper; first | (rw [if_pos (by decide +kernel)]; kernel_rfl) | (rw [if_neg (by decide +kernel)]; exact ⟨rfl, rfl⟩))
    (fun os started H enc _ => lifted os started H enc)

end Go.Proofs.YtngoglhlhlfknaaGreat.setchk
