/-
  SettingsForeign returns true for every diagram, every list of relays and every two numbers. No condition.
-/
import Derived.Test.YtngoglhlhlfknaaGreatRr
import Derived.Test.YtngoglhlhlfknaaGreatOr
import Derived.Test.YtngoglhlhlfknaaGreatKn7
import Derived.Test.YtngoglhlhlfknaaGreatRows
namespace Go.Proofs.YtngoglhlhlfknaaGreat.foreign
open Go.ChangeShapes Go.WideShapes Go.ChangeAt Go.RowKit
open Go.Eb Go.Proofs.YtngoglhlhlfknaaGreat.st Go.Proofs.YtngoglhlhlfknaaGreat.se
set_option maxRecDepth 100000

abbrev eC := en2 aSta (aD relsD)
theorem eC_inj : InjT eC := en2_inj aSta_inj (aD_inj relsD_inj)
def okC (a : SSta × List SRel) : Bool := okSta a.1 && (lenOk a.2 && a.2.all okRel)
theorem okC_mk {s : SSta} {l : List SRel} (hs : okSta s = true) (hl : lenOk l = true) (ha : l.all okRel = true) : okC (s, l) = true := by
  unfold okC; simp only [hs, hl, ha]; rfl
theorem okC_un {a : SSta × List SRel} (h : okC a = true) : okSta a.1 = true ∧ lenOk a.2 = true ∧ a.2.all okRel = true := by
  unfold okC at h; simp only [Bool.and_eq_true] at h; exact h
theorem theC_of (s : SSta) (l : List SRel) (d : D) (h1 : DE d (relsD l)) (h2 : DE (relsD l) d) : theT eC [aSta s, .c (.d d)] = (s, l) := by
  have hx : okX eC [aSta s, .c (.d d)] = true := okX_iff.2 ⟨(s, l), .cons (.refl _) (.cons h1 .nil)⟩
  have h := theT_le hx
  have a1 := aSta_inj _ _ (asle_cons h).1
  have a2 := relsD_inj _ _ (h2.trans (ale_c (asle_cons (asle_cons h).2).1))
  exact Prod.ext a1.symm a2.symm
theorem okC_of (s : SSta) (l : List SRel) (d : D) (h1 : DE d (relsD l)) (h2 : DE (relsD l) d) (h : okC (s, l) = true) : okG eC okC [aSta s, .c (.d d)] = true := by
  have hx : okX eC [aSta s, .c (.d d)] = true := okX_iff.2 ⟨(s, l), .cons (.refl _) (.cons h1 .nil)⟩
  unfold okG
  rw [hx, theC_of s l d h1 h2, h]; rfl
/-- both Checks, at a valid diagram -/
noncomputable def chkP (a : SSta × List SRel) : Int × Int := chkRels a.1.bays (namesS a.1) [] 0 a.2
def okV (a : SSta × List SRel) : Bool := okC a && (chkSta a.1 == 0 && cSz a.1)
theorem okV_of {s : SSta} {l : List SRel} (h : okC (s, l) = true) (hz : chkSta s = 0) (hc : cSz s = true) : okV (s, l) = true := by
  unfold okV; rw [h]; simp only [hz, hc]; rfl
theorem okV_un {a : SSta × List SRel} (h : okV a = true) : okC a = true ∧ chkSta a.1 = 0 ∧ cSz a.1 = true := by
  unfold okV at h; simp only [Bool.and_eq_true, beq_iff_eq] at h; exact h
noncomputable def ZFo : KFo where
  okf := okG eC okC
  fi x := fineS (theT eC x).1 (theT eC x).2
  okc := okG eC okV
  ci x := (chkP (theT eC x)).1
  ce x := (chkP (theT eC x)).2
theorem sFo : OrcS Tryz.prog (oFo ZFo) := by
  refine .cons (.p dec0_ok kn.c7k) (.cons (.t' (r := fun (a : SSta × List SRel) => vB (fineS a.1 a.2)) fun a h => cfin a.1 a.2 (okC_un h).1 (okC_un h).2.1 (okC_un h).2.2)
    (.cons (.t' (r := fun (a : SSta × List SRel) => vP (chkP a)) fun a h => ?_) (.cons (.lt (r := fun (a : SSta × List SRel) => vP (chkP a)) Tryz.func13 b13c (fun _ => rfl) fun a h => ?_) .nil)))
  · obtain ⟨h1, h2, h3⟩ := okV_un h
    exact cCk a.1 a.2 h3 (okC_un h1).2.1 (okC_un h1).2.2
  · obtain ⟨h1, h2, h3⟩ := okV_un h
    have := c13c a.1 a.2 (okC_un h1).1 (okC_un h1).2.1 (okC_un h1).2.2
    unfold checkS at this
    have e : (chkSta a.1 != 0) = false := by rw [h2]; rfl
    rw [e] at this
    exact this
/-- at one place -/
theorem fo_at (s : SSta) (l : List SRel) (k : Nat) (y : SRel) (f : Bool) (hk : k < l.length) (hc : okC (s, l) = true) (hz : chkSta s = 0) (hs : cSz s = true) (h0 : (chkP (s, l)).2 = 0) (hn : y.name = (l.getD k rel0).name) (hd : y.kind = (l.getD k rel0).kind) (hb : y.bay = (l.getD k rel0).bay) (hy : okRel (l.getD k rel0) = true → okRel y = true)
    (he : restErr (l.getD k rel0) = 0 → restErr y = fE f) : foT ZFo s l k (relC y) f = lB true := by
  obtain ⟨d1, d2⟩ := ar_ok l k hk y
  obtain ⟨c1, c2, c3⟩ := okC_un hc
  have hc' : okC (s, l.set k y) = true := by
    refine okC_mk c1 ?_ ?_
    · have := lenOk_le c2
      unfold lenOk
      rw [decide_eq_true (by simp; exact this)]
    · rw [List.all_eq_true] at c3 ⊢
      intro x hx
      rcases List.mem_or_eq_of_mem_set hx with h | h
      · exact c3 x h
      · rw [h]
        exact hy (c3 _ (by simp [List.getD, hk]))
  have hv := okV_of hc' hz hs
  have t : theT eC (arX s l k (relC y)) = (s, l.set k y) := theC_of s _ _ d1 d2
  have q1 : ZFo.okc (arX s l k (relC y)) = true := by
    have hx : okX eC (arX s l k (relC y)) = true := okX_iff.2 ⟨(s, l.set k y), .cons (.refl _) (.cons d1 .nil)⟩
    show (okX eC (arX s l k (relC y)) && okV (theT eC (arX s l k (relC y)))) = true
    rw [hx, t, hv]; rfl
  have key := chk_set s.bays y (fE f) l (namesS s) [] 0 k hk h0 hn hb (fun N B h => add_of hn hd hb he N B h)
  have q2 : ZFo.ci (arX s l k (relC y)) = (chkP (s, l.set k y)).1 := congrArg (fun a => (chkP a).1) t
  have q3 : ZFo.ce (arX s l k (relC y)) = (chkP (s, l.set k y)).2 := congrArg (fun a => (chkP a).2) t
  have e : chkP (s, l.set k y) = if fE f = 0 then (0, 0) else (((0 + k : Nat) : Int), fE f) := key
  unfold foT
  rw [q1, q2, q3, e]
  cases f with
  | false => rfl
  | true =>
    have z : ¬ fE true = 0 := by decide
    rw [if_neg z]
    simp only [cond_true, Bool.not_true, cond_false, Nat.zero_add, beq_self_eq_true]
    rfl
structure XFor where
  s : SSta
  l : List SRel
  p : Int
  q : Int
def okFor (x : XFor) : Bool := okC (x.s, x.l)
theorem shp_for {ds : List D} (h : Shp Tryz.prog 44 ds) : ∃ x : XFor, DEs ds (forC x.s x.l x.p x.q) ∧ okFor x = true := by
  obtain ⟨ps, rfl, hl, hp⟩ := h.struct_inv Tryz.underlying44
  match ps, hl with
  | [p0, p1, p2, p3], _ =>
    obtain ⟨s, h0, hs⟩ := shp_sta (hp 0 _ p0 rfl rfl)
    obtain ⟨d, l, rfl, h1, n1, a1⟩ := shp_rels (hp 1 _ p1 rfl rfl)
    obtain ⟨p, rfl, _⟩ := (hp 2 _ p2 rfl rfl).int_inv Tryz.underlying3
    obtain ⟨q, rfl, _⟩ := (hp 3 _ p3 rfl rfl).int_inv Tryz.underlying3
    exact ⟨⟨s, l, p, q⟩, h0.app (.cons h1 (.refl _)), okC_mk hs n1 a1⟩
theorem large_le {s : SSta} (h : large s = false) : cSz s = true := by
  unfold large at h
  simp only [Bool.or_eq_false_iff, decide_eq_false_iff_not] at h
  unfold cSz
  simp only [Bool.and_eq_true, decide_eq_true_eq]
  omega
theorem cFo (x : XFor) (hx : okFor x = true) : CR Tryz.prog 5 [aFor x.s x.l x.p x.q] [] (vB true) [] := by
  obtain ⟨s, l, p, q⟩ := x
  have hc : okC (s, l) = true := hx
  obtain ⟨c1, c2, c3⟩ := okC_un hc
  refine cr_of sFo.ok Tryz.func5 bfo rfl ((evfo ZFo s l p q 1).trans ?_)
  have t : theT eC [aSta s, .c (.d (relsD l))] = (s, l) := theT_enc eC_inj (s, l)
  have k1 : ZFo.okf [aSta s, .c (.d (relsD l))] = true := okG_enc eC_inj (c := okC) (s, l) hc
  have k2 : ZFo.fi [aSta s, .c (.d (relsD l))] = fineS s l := by dsimp only [ZFo]; rw [t]
  rw [k1, k2]
  cases hf : fineS s l with
  | false => rfl
  | true =>
    unfold fineS at hf
    simp only [Bool.and_eq_true, beq_iff_eq, decide_eq_true_eq, Bool.not_eq_true'] at hf
    obtain ⟨hL, hz, hn, _⟩ := hf
    have hs := large_le hL
    have k3 : ZFo.okc [aSta s, .c (.d (relsD l))] = true := okG_enc eC_inj (c := okV) (s, l) (okV_of hc hz hs)
    have k4 : ZFo.ce [aSta s, .c (.d (relsD l))] = (chkP (s, l)).2 := by dsimp only [ZFo]; rw [t]
    rw [k3, k4]
    cases h0 : ((l.length : Int) == 0) with
    | true => rfl
    | false =>
      cases he : ((chkP (s, l)).2 != 0) with
      | true => rfl
      | false =>
        have hl0 : 0 < l.length := by have : (l.length : Int) ≠ 0 := by simpa using h0
                                      omega
        have h2 : (chkP (s, l)).2 = 0 := by simpa using he
        have gate : ∀ (k : Nat) (j : Int), k < l.length → Lfo_12 ZFo s l p q 1 1 k j = lB true := fun k j hk => by
          rw [stF]
          have b1 : (decide ((0 + l.length) * 472 ≤ 140737488355328) && decide (0 + l.length ≤ 9223372036854775807)) = true := by rw [decide_eq_true (by omega), decide_eq_true (by omega)]; rfl
          have b2 : (decide (0 ≤ (k : Int)) && decide ((k : Int) < ((0 + l.length : Nat) : Int))) = true := by rw [decide_eq_true (by omega), decide_eq_true (by omega)]; rfl
          have tk0 : (k : Int).toNat - 0 = k := by simp
          rw [b1, b2, tk0]
          have a0 := fo_at s l k (m0 (l.getD k rel0)) ((l.getD k rel0).kind != 1) hk hc hz hs h2 rfl rfl rfl (fun h => h) (r0 _)
          have a1 := fo_at s l k (m1 (l.getD k rel0)) ((l.getD k rel0).kind != 2) hk hc hz hs h2 rfl rfl rfl (fun h => h) (r1 _)
          have a2 := fo_at s l k (m2 (l.getD k rel0)) ((l.getD k rel0).kind == 4) hk hc hz hs h2 rfl rfl rfl (fun h => h) (r2 _)
          have a3 := fo_at s l k (m3 (l.getD k rel0)) ((l.getD k rel0).kind != 4) hk hc hz hs h2 rfl rfl rfl (fun h => h) (r3 _)
          rw [a0, a1, a2, a3]
          cases (j == 0) <;> cases (j == 1) <;> cases (j == 2) <;> rfl
        have q1 := Int.tmod_lt_of_pos p (show (0 : Int) < (l.length : Int) by omega)
        have q2 := Int.lt_tmod_of_pos p (show (0 : Int) < (l.length : Int) by omega)
        simp -implicitDefEqProofs only [Bool.not_false, Bool.not_true, cond_true, cond_false]
        cases hd : decide (Int.tmod p (l.length : Int) < 0) with
        | true =>
          have hd' := of_decide_eq_true hd
          have w : IntKind.wrap IntKind.i64 (Int.tmod p (l.length : Int) + (l.length : Int)) = (((Int.tmod p (l.length : Int) + (l.length : Int)).toNat : Nat) : Int) := by rw [wrap_id (by omega) (by omega)]; omega
          rw [w, cond_true]
          exact gate _ _ (by omega)
        | false =>
          have hd' := of_decide_eq_false hd
          have w : Int.tmod p (l.length : Int) = (((Int.tmod p (l.length : Int)).toNat : Nat) : Int) := by omega
          rw [cond_false, w]
          exact gate _ _ (by omega)

theorem own : ownKnob Tryz.prog.godebug = none := by kernel_rfl
theorem laidOut : laidOutB Tryz.prog = true := by kernel_rfl
theorem okS : [44, 27, 22, 23, 24, 25, 71, 74, 66, 63, 64, 154, 9, 3, 4, 35, 57, 47, 46, 49, 51, 52, 53, 54, 55, 100, 95, 104, 107].all (okT Tryz.prog [44, 27, 22, 23, 24, 25, 71, 74, 66, 63, 64, 154, 9, 3, 4, 35, 57, 47, 46, 49, 51, 52, 53, 54, 55, 100, 95, 104, 107]) = true := by kernel_rfl

set_option maxRecDepth 100000 in
theorem lifted (os : Os) (started : os.Started) (H : Type) (enc : TypeId × Value → H) :
    ReturnsInHanded {} Tryz.checked os 5 .any (Rows.settingsForeignSpec.pre6 enc Tryz.prog Tryz.f5 Rows.settingsForeignRow.domain false) (Rows.settingsForeignSpec.post enc Tryz.prog Tryz.f5 false true false false) := by
  refine returnsInHanded_of_change (C := Tryz.checked) own started (by kernel_rfl) Tryz.func5
    (ChangeSpec.witness6 (enc := enc) (C := Tryz.checked) false ⟨#[], #[.agg #[.string ⟨#[]⟩, .slice none 0 0, .slice none 0 0, .slice none 0 0, .slice none 0 0, .slice none 0 0, .int .i64 0, .int .i64 0]], []⟩ 8 (by kernel_rfl) (by kernel_rfl) (by kernel_rfl) (by kernel_rfl)) ?_
  intro W base args ds gs before hval hW hcnd _
  have hW' := hW
  obtain ⟨p, q, hA0, hV, rfl, hfz, hnd⟩ := hW
  have hA : DataW.TrodAll enc Tryz.prog W 0 (fun _ => true) true Tryz.f5.params.toList args.toList ds p := hA0
  rw [Tryz.params5] at hA hval
  have hA1 := hA
  obtain ⟨v0, vs0, d0, ds0, p0, q0, hargs0, rfl, rfl, h0, r0⟩ := trodAll_cons hA
  obtain ⟨rfl, rfl, rfl⟩ := trodAll_nil r0
  obtain rfl : args = #[v0] := by cases args; simp_all
  obtain ⟨rfl, rfl⟩ := trodVars_none hV
  have f0 : aggT Tryz.prog 44 = some true := by simp [aggT, Tryz.underlying44]
  obtain ⟨e0, a0, hr0, hs0, hk0⟩ := arg_open (β := fun _ => .free) okS (by kernel_rfl) (hval 0 44 v0 rfl rfl) h0
  obtain rfl : a0 = .agg (e0.map .d) := by rcases hk0 with ⟨_, rfl⟩ | ⟨hf, _⟩ <;> first | rfl | (rw [f0] at hf; cases hf)
  obtain ⟨x0, hx0, ho0⟩ := shp_for hs0
  have hcalls := calls_of_cr (w := W) (vs := #[v0]) rfl ((cFo x0 ho0).ge (.cons (ale_of_des hx0) .nil) (.refl _)) ⟨rfl, fun i x v hx hv => by
    match i, hx, hv with
    | 0, hx, hv => simp at hx hv; subst hx hv; exact hr0
    | i + 1, hx, hv => simp at hx⟩
  refine hcalls.mono fun e W' ⟨he, bel⟩ => ?_
  subst he
  exact ⟨_, rfl, _, _, _, [], _, [], hW', trodAll_mk1 (shut_bool Tryz.underlying4 _), trodAll_stays laidOut bel (by
    intro t ht
    have : t = 44 := by simpa using ht
    subst this
    exact ⟨by kernel_rfl, of_decide_eq_true (by kernel_rfl)⟩) hA1, rfl, bel.frame _, fun h => by cases h⟩

theorem proved : Rows.SettingsForeignSaid :=
  OpenClaim.holds_of_wide 5 Tryz.f5 rfl rfl rfl rfl rfl rfl rfl ⟨rfl, rfl, rfl, rfl, rfl⟩ rfl rfl rfl rfl rfl (by kernel_rfl) Tryz.func5 (by kernel_rfl)
    (of_decide_eq_true (by kernel_rfl)) (by unfold Func.isWrapper; first | (rw [if_pos (by decide +kernel)]; kernel_rfl) | (rw [if_neg (by decide +kernel)]; exact ⟨rfl, rfl⟩))
    (fun os started H enc _ => lifted os started H enc)

end Go.Proofs.YtngoglhlhlfknaaGreat.foreign
