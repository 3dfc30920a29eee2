/-
  SettingsEncodes returns true for every diagram and every list of relays; its listed variables are tied to the program's text. No condition.
-/
import Derived.Test.YtmnfibmlhmeheaaGreatDoorQ6
import Derived.Test.YtmnfibmlhmeheaaGreatDoorRows
import Derived.Test.YtmnfibmlhmeheaaGreatDoorCards
import Derived.SevenTiedAt
namespace Go.Proofs.YtmnfibmlhmeheaaGreatDoor.setenc
open Go
open Go.ChangeShapes Go.WideShapes Go.ChangeAt Go.RowKit
open Go.Eb Go.Proofs.YtmnfibmlhmeheaaGreatDoor.st Go.Proofs.YtmnfibmlhmeheaaGreatDoor.se Go.Proofs.YtmnfibmlhmeheaaGreatDoor.en
set_option maxRecDepth 100000
open Go.Proofs.YtmnfibmlhmeheaaGreatDoor.ito (own laidL glob_of door_met)
set_option maxRecDepth 100000
abbrev eC := en2 aSta (aD relsD)
theorem eC_inj : InjT eC := en2_inj aSta_inj (aD_inj relsD_inj)
def okC (a : SSta × List SRel) : Bool := okSta a.1 && (lenOk a.2 && a.2.all okRel)
theorem okC_mk {s : SSta} {l : List SRel} (hs : okSta s = true) (hl : lenOk l = true) (ha : l.all okRel = true) : okC (s, l) = true := by
  unfold okC; simp only [hs, hl, ha]; rfl
theorem okC_un {a : SSta × List SRel} (h : okC a = true) : okSta a.1 = true ∧ lenOk a.2 = true ∧ a.2.all okRel = true := by
  unfold okC at h; simp only [Bool.and_eq_true] at h; exact h
theorem large_le {s : SSta} (h : large s = false) : cSz s = true := by
  unfold large at h
  simp only [Bool.or_eq_false_iff, decide_eq_false_iff_not] at h
  unfold cSz
  simp only [Bool.and_eq_true, decide_eq_true_eq]
  omega
noncomputable def chkP (a : SSta × List SRel) : Int × Int := chkRels a.1.bays (namesS a.1) [] 0 a.2
noncomputable def okF (a : SSta × List SRel) : Bool := okC a && fineS a.1 a.2
theorem fine_un {s : SSta} {l : List SRel} (h : fineS s l = true) : large s = false ∧ chkSta s = 0 ∧ l.length ≤ 20 ∧ l.any largeR = false := by
  unfold fineS at h
  simp only [Bool.and_eq_true, Bool.not_eq_true', beq_iff_eq, decide_eq_true_eq] at h
  exact ⟨h.1, h.2.1, h.2.2.1, h.2.2.2⟩
theorem fit_of {a : SSta × List SRel} (h : okF a = true) : (chkP a).2 = 0 → RFit a.1 a.2 := fun e => by
  unfold okF at h
  simp only [Bool.and_eq_true] at h
  obtain ⟨_, _, h3, h4⟩ := fine_un h.2
  exact rfit e h3 h4
theorem encP (a : SSta × List SRel) (h : okF a = true) : CX Tryz.prog 7 (eC a) [] (.c (.d (itemsD (encRO a.1 a.2 (chkP a).2)))) [] := by
  have hf := fit_of h
  unfold okF at h
  simp only [Bool.and_eq_true] at h
  obtain ⟨h1, h2, h3⟩ := okC_un h.1
  obtain ⟨_, g2, _, _⟩ := fine_un h.2
  have hc := c13c a.1 a.2 h1 h2 h3
  unfold checkS at hc
  rw [g2] at hc
  exact cpenS (e := chkP a) hc hf
theorem encR (a : SSta × List SRel) (h : okF a = true) : CX Tryz.prog 8 (eC a) [] (.c (.d (itemsD (encRO a.1 a.2 (chkP a).2)))) [] := by
  have hf := fit_of h
  unfold okF at h
  simp only [Bool.and_eq_true] at h
  obtain ⟨h1, h2, h3⟩ := okC_un h.1
  obtain ⟨g1, _, _, _⟩ := fine_un h.2
  exact crenS (e := chkP a) (cCk a.1 a.2 (large_le g1) h2 h3) hf
noncomputable def okM (x : List AV) : Bool := @decide (CX Tryz.prog 6 x [] (vB true) []) (Classical.propDecidable _)
theorem okM_iff {x : List AV} : okM x = true ↔ CX Tryz.prog 6 x [] (vB true) [] := by unfold okM; simp
noncomputable abbrev O3 : Orc := oSE (okG eC okC) (fun x => fineS (theT eC x).1 (theT eC x).2) (okG eC okF) (fun x => encRO (theT eC x).1 (theT eC x).2 (chkP (theT eC x)).2) okM
theorem s3 : OrcS Tryz.prog O3 :=
  .cons (.p dec0_ok kn.c7k) (.cons (.t' (r := fun (a : SSta × List SRel) => vB (fineS a.1 a.2)) fun a h => cfin a.1 a.2 (okC_un h).1 (okC_un h).2.1 (okC_un h).2.2)
    (.cons (.t' (r := fun (a : SSta × List SRel) => .c (.d (itemsD (encRO a.1 a.2 (chkP a).2)))) fun a h => encP a h) (.cons (.t' (r := fun (a : SSta × List SRel) => .c (.d (itemsD (encRO a.1 a.2 (chkP a).2)))) fun a h => encR a h) (.cons (.g fun x h => okM_iff.1 h) .nil))))
theorem cL (s : SSta) (l : List SRel) (hs : okSta s = true) (hl : lenOk l = true ∧ l.all okRel = true) : CR Tryz.prog 3 [aSta s, .c (.d (relsD l))] [] (vB true) [] := by
  refine cr_of s3.ok Tryz.func3 bsel rfl ((evsel _ _ _ _ _ s l 1).trans ?_)
  have hC := okC_mk hs hl.1 hl.2
  have k1 : okG eC okC [AV.agg (List.map C.d (staC s)), AV.c (C.d (Aac ((53 : Nat)) relC rel0 l))] = true := okG_enc eC_inj (c := okC) (s, l) hC
  have t1 : theT eC [AV.agg (List.map C.d (staC s)), AV.c (C.d (Aac ((53 : Nat)) relC rel0 l))] = (s, l) := theT_enc eC_inj (s, l)
  rw [k1, t1, cond_true]
  cases hf : fineS s l with
  | false => rfl
  | true =>
    have hF : okF (s, l) = true := by unfold okF; rw [hC, hf]; rfl
    have k2 : okG eC okF [AV.agg (List.map C.d (staC s)), AV.c (C.d (Aac ((53 : Nat)) relC rel0 l))] = true := okG_enc eC_inj (c := okF) (s, l) hF
    have k3 : okM [AV.c (C.d (Aac ((4 : Nat)) Aag i0 (encRO s l (chkP (s, l)).2))), AV.c (C.d (Aac ((4 : Nat)) Aag i0 (encRO s l (chkP (s, l)).2)))] = true := okM_iff.2 (same_rel s l _ (fit_of hF))
    rw [k2]
    show (bif !true then _ else bif true then bif true then bif okM [AV.c (C.d (Aac ((4 : Nat)) Aag i0 (encRO s l (chkP (s, l)).2))), AV.c (C.d (Aac ((4 : Nat)) Aag i0 (encRO s l (chkP (s, l)).2)))] then _ else _ else _ else _) = _
    rw [k3]
    rfl
theorem laidOut : laidOutB Tryz.prog = true := by kernel_rfl
theorem okS : [27, 22, 23, 24, 25, 98, 101, 69, 66, 67, 185, 9, 3, 4, 28, 51, 41, 40, 43, 45, 46, 47, 48, 49, 107, 105, 112, 114].all (okT Tryz.prog [27, 22, 23, 24, 25, 98, 101, 69, 66, 67, 185, 9, 3, 4, 28, 51, 41, 40, 43, 45, 46, 47, 48, 49, 107, 105, 112, 114]) = true := by kernel_rfl
set_option maxRecDepth 100000 in
theorem lifted (os : Os) (started : os.Started) (H : Type) (enc : TypeId × Value → H) :
    ReturnsInHanded {} Tryz.checked os 3 .any (fun w args => (Rows.settingsEncodesSpec.pre enc Tryz.prog Tryz.f3 Rows.settingsEncodesRow.domain false w args ∧ laidMetH Tryz.prog laidL w) ∧ sizedMet enc Tryz.prog Tryz.f3 (OpenSpec.ofChange Rows.settingsEncodesSpec) false w args)
      (Rows.settingsEncodesSpec.post enc Tryz.prog Tryz.f3 false true false false) := by
  refine returnsInHanded_of_change_and (C := Tryz.checked) (X := fun w _ => laidMetH Tryz.prog laidL w) (fun _ _ _ hh h => h.of_heap hh) own started (by kernel_rfl) Tryz.func3
    (ChangeSpec.witness_shaped (enc := enc) (C := Tryz.checked) (os := os) (X := fun w _ => laidMetH Tryz.prog laidL w) false (World.doorLaid Tryz.prog 400 os) #[.agg #[.string ⟨#[]⟩, .slice none 0 0, .slice none 0 0, .slice none 0 0, .slice none 0 0], .slice none 0 0] 8 rfl (World.shaped_of_RefB (by kernel_rfl) (by kernel_rfl)) (by kernel_rfl) (by kernel_rfl) (by kernel_rfl) (door_met os _)) ?_
  intro W base args ds gs before hval hW _ _ hL _
  have hW' := hW
  obtain ⟨p, q, hA0, hV, rfl, hfz, hnd⟩ := hW
  have hA : DataW.TrodAll enc Tryz.prog W 0 (fun _ => true) true Tryz.f3.params.toList args.toList ds p := hA0
  rw [Tryz.params3] at hA hval
  have hA1 := hA
  obtain ⟨v0, vs0, d0, ds0, p0, q0, hargs0, rfl, rfl, h0, r0⟩ := trodAll_cons hA
  obtain ⟨v1, vs1, d1, ds1, p1, q1, hargs1, rfl, rfl, h1, r1⟩ := trodAll_cons r0
  obtain ⟨rfl, rfl, rfl⟩ := trodAll_nil r1
  obtain rfl : args = #[v0, v1] := by cases args; simp_all
  obtain ⟨rfl, rfl⟩ := trodVars_none hV
  have f0 : aggT Tryz.prog 27 = some true := by simp [aggT, Tryz.underlying27]
  obtain ⟨e0, a0, hr0, hs0, hk0⟩ := arg_open (β := fun _ => .free) okS (by kernel_rfl) (hval 0 27 v0 rfl rfl) h0
  obtain rfl : a0 = .agg (e0.map .d) := by rcases hk0 with ⟨_, rfl⟩ | ⟨hf, _⟩ <;> first | rfl | (rw [f0] at hf; cases hf)
  obtain ⟨x0, hx0, ho0⟩ := shp_sta hs0
  have f1 : aggT Tryz.prog 28 = some false := by simp [aggT, Tryz.underlying28]
  obtain ⟨e1, a1, hr1, hs1, hk1⟩ := arg_open (β := fun _ => .free) okS (by kernel_rfl) (hval 1 28 v1 rfl rfl) h1
  obtain ⟨y1, rfl, rfl⟩ : ∃ x, e1 = [x] ∧ a1 = .c (.d x) := by rcases hk1 with ⟨hf, _⟩ | ⟨_, h⟩ <;> first | exact h | (rw [f1] at hf; cases hf)
  obtain ⟨z1, x1, hz1, hx1, ho1⟩ := shp_rels hs1
  obtain rfl : y1 = z1 := by simpa using hz1
  have hcalls := calls_of_cr (w := W) (vs := #[v0, v1]) rfl ((cL x0 x1 ho0 ho1).ge (.cons (ale_of_des hx0) (.cons (ale_d hx1) .nil)) (.refl _)) ⟨rfl, fun i x v hx hv => by
    match i, hx, hv with
    | 0, hx, hv => simp at hx hv; subst hx hv; exact hr0
    | 1, hx, hv => simp at hx hv; subst hx hv; exact hr1
    | i + 2, hx, hv => simp at hx⟩ (glob_of hL)
  refine hcalls.mono fun e W' ⟨he, bel⟩ => ?_
  subst he
  exact ⟨_, rfl, _, _, _, [], _, [], hW', trodAll_mk1 (shut_bool Tryz.underlying4 _), trodAll_stays laidOut bel (by
    intro t ht
    have : t = 27 ∨ t = 28 := by simpa using ht
    rcases this with rfl | rfl <;> exact ⟨by kernel_rfl, of_decide_eq_true (by kernel_rfl)⟩) hA1, rfl, bel.frame _, fun h => by cases h⟩
theorem said : Rows.SettingsEncodesSaid :=
  OpenClaim.holds_of_wide 3 Tryz.f3 rfl rfl rfl rfl rfl rfl rfl ⟨rfl, rfl, rfl, rfl, rfl⟩ rfl rfl rfl rfl rfl (by kernel_rfl) Tryz.func3 (by kernel_rfl)
    (of_decide_eq_true (by kernel_rfl)) (by unfold Func.isWrapper; first | (rw [if_pos (by decide +kernel)]; kernel_rfl) | (rw [if_neg (by decide +kernel)]; exact ⟨rfl, rfl⟩))
    (fun os started H enc _ => lifted os started H enc)
theorem proved : Rows.SettingsEncodesCardSaid :=
  Claim7.holds_tied_plain_at .later [] [.data, .data, .data] true (true, "42c5ba68bbad6609569ee4e482ba1c9c57ccf23a216b2d6fab10f25647c9574c") false
    said (fun _ h => by cases h) (by kernel_rfl) (fun _ h => by cases h) settingsEncodes_row_tie rfl ⟨rfl, rfl⟩ (by kernel_rfl) rfl
    (fun f fn hf hfn => by
      have e0 : some f = some 3 := hf.symm.trans (by kernel_rfl)
      obtain rfl := Option.some.inj e0
      obtain rfl : fn = Tryz.f3 := (Option.some.inj (Tryz.func3.symm.trans hfn)).symm
      exact ⟨by kernel_rfl, fun j t ht => by
        rw [Tryz.params3] at ht
        have ht' : t ∈ [27, 28] := List.mem_of_getElem? (by simpa using ht)
        simp only [List.mem_cons, List.not_mem_nil, or_false] at ht'
        rcases ht' with rfl | rfl
        · exact (show Tryz.prog.wantsStandIn 27 = false by kernel_rfl)
        · exact (show Tryz.prog.wantsStandIn 28 = false by kernel_rfl)⟩)
    (by kernel_rfl)
end Go.Proofs.YtmnfibmlhmeheaaGreatDoor.setenc
