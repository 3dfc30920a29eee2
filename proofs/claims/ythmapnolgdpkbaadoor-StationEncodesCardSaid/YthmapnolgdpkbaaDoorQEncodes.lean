/-
  StationEncodes returns true for every diagram; its listed variables are tied to the program's text. No condition.
-/
import Derived.Test.YthmapnolgdpkbaaDoorQ5
import Derived.Test.YthmapnolgdpkbaaDoorRows
import Derived.Test.YthmapnolgdpkbaaDoorCards
import Derived.SevenTiedAt
namespace Go.Proofs.YthmapnolgdpkbaaDoor.encodes
open Go
open Go.ChangeShapes Go.WideShapes Go.ChangeAt Go.RowKit
open Go.Eb Go.Proofs.YthmapnolgdpkbaaDoor.st Go.Proofs.YthmapnolgdpkbaaDoor.de Go.Proofs.YthmapnolgdpkbaaDoor.pe
set_option maxRecDepth 100000
open Go.Proofs.YthmapnolgdpkbaaDoor.ito (own laidL glob_of door_met)
set_option maxRecDepth 100000

abbrev eS := en1 aSta
theorem eS_inj : InjT eS := en1_inj aSta_inj
noncomputable def okM (x : List AV) : Bool := @decide (CX Tryd.prog 8 x [] (vB true) []) (Classical.propDecidable _)
theorem okM_iff {x : List AV} : okM x = true ↔ CX Tryd.prog 8 x [] (vB true) [] := by unfold okM; simp
noncomputable abbrev O3 : Orc := oEL (okG eS okSta) (fun x => large (theT eS x)) (okG eS okSta) (fun x => chkSta (theT eS x)) (okG eS okSta) (fun x => encO (theT eS x)) okM
theorem s3 : OrcS Tryd.prog O3 :=
  .cons (.p dec0_ok kn.c6) (.cons (.t' (r := fun a => vB (large a)) fun a h => c7 a h) (.cons (.t' (r := fun a => vI (chkSta a)) fun a h => c8' a h) (.cons (.t' (r := fun a => .c (.d (itemsD (encO a)))) fun a h => encode_prog a h)
    (.cons (.t' (r := fun a => .c (.d (itemsD (encO a)))) fun a h => encode_ref a h) (.cons (.g fun x h => okM_iff.1 h) .nil)))))
theorem cL (s : SSta) (hs : okSta s = true) : CR Tryd.prog 3 [aSta s] [] (vB true) [] := by
  refine cr_of s3.ok Tryd.func3 benl rfl ((evenl _ _ _ _ _ _ _ s 1).trans ?_)
  have k1 : okG eS okSta [AV.agg (List.map C.d (staC s))] = true := okG_enc eS_inj (c := okSta) s hs
  have t1 : theT eS [AV.agg (List.map C.d (staC s))] = s := theT_enc eS_inj s
  have k2 : okM [AV.c (C.d (listD ((4 : Nat)) icells i0 (encO s))), AV.c (C.d (listD ((4 : Nat)) icells i0 (encO s)))] = true := okM_iff.2 (same_enc s)
  rw [k1, t1, k2, cond_true, cond_true, cond_true, cond_true, cond_true]
  cases large s with
  | true => rfl
  | false =>
    rw [cond_false]
    have e : ((chkSta s == 0) == decide (((encO s).length : Int) > (0 : Int))) = true := by
      unfold encO
      cases h : (chkSta s == 0) with
      | false => rfl
      | true =>
        rw [cond_true, enc_tags, decide_eq_true (by simp)]
        rfl
    rw [e]

theorem laidOut : laidOutB Tryd.prog = true := by kernel_rfl
theorem okS : [27, 22, 23, 24, 25, 50, 53, 44, 41, 42, 104, 9, 3, 4].all (okT Tryd.prog [27, 22, 23, 24, 25, 50, 53, 44, 41, 42, 104, 9, 3, 4]) = true := by kernel_rfl

set_option maxRecDepth 100000 in
theorem lifted (os : Os) (started : os.Started) (H : Type) (enc : TypeId × Value → H) :
    ReturnsInHanded {} Tryd.checked os 3 .any (fun w args => (Rows.stationEncodesSpec.pre enc Tryd.prog Tryd.f3 Rows.stationEncodesRow.domain false w args ∧ laidMetH Tryd.prog laidL w) ∧ sizedMet enc Tryd.prog Tryd.f3 (OpenSpec.ofChange Rows.stationEncodesSpec) false w args)
      (Rows.stationEncodesSpec.post enc Tryd.prog Tryd.f3 false true false false) := by
  refine returnsInHanded_of_change_and (C := Tryd.checked) (X := fun w _ => laidMetH Tryd.prog laidL w) (fun _ _ _ hh h => h.of_heap hh) own started (by kernel_rfl) Tryd.func3
    (ChangeSpec.witness_shaped (enc := enc) (C := Tryd.checked) (os := os) (X := fun w _ => laidMetH Tryd.prog laidL w) false (World.doorLaid Tryd.prog 400 os) #[.agg #[.string ⟨#[]⟩, .slice none 0 0, .slice none 0 0, .slice none 0 0, .slice none 0 0]] 8 rfl (World.shaped_of_RefB (by kernel_rfl) (by kernel_rfl)) (by kernel_rfl) (by kernel_rfl) (by kernel_rfl) (door_met os _)) ?_
  intro W base args ds gs before hval hW _ _ hL _
  have hW' := hW
  obtain ⟨p, q, hA0, hV, rfl, hfz, hnd⟩ := hW
  have hA : DataW.TrodAll enc Tryd.prog W 0 (fun _ => true) true Tryd.f3.params.toList args.toList ds p := hA0
  rw [Tryd.params3] at hA hval
  have hA1 := hA
  obtain ⟨v0, vs0, d0, ds0, p0, q0, hargs0, rfl, rfl, h0, r0⟩ := trodAll_cons hA
  obtain ⟨rfl, rfl, rfl⟩ := trodAll_nil r0
  obtain rfl : args = #[v0] := by cases args; simp_all
  obtain ⟨rfl, rfl⟩ := trodVars_none hV
  have f0 : aggT Tryd.prog 27 = some true := by simp [aggT, Tryd.underlying27]
  obtain ⟨e0, a0, hr0, hs0, hk0⟩ := arg_open (β := fun _ => .free) okS (by kernel_rfl) (hval 0 27 v0 rfl rfl) h0
  obtain rfl : a0 = .agg (e0.map .d) := by rcases hk0 with ⟨_, rfl⟩ | ⟨hf, _⟩ <;> first | rfl | (rw [f0] at hf; cases hf)
  obtain ⟨x0, hx0, ho0⟩ := shp_sta hs0
  have hcalls := calls_of_cr (w := W) (vs := #[v0]) rfl ((cL x0 ho0).ge (.cons (ale_of_des hx0) .nil) (.refl _)) ⟨rfl, fun i x v hx hv => by
    match i, hx, hv with
    | 0, hx, hv => simp at hx hv; subst hx hv; exact hr0
    | i + 1, hx, hv => simp at hx⟩ (glob_of hL)
  refine hcalls.mono fun e W' ⟨he, bel⟩ => ?_
  subst he
  exact ⟨_, rfl, _, _, _, [], _, [], hW', trodAll_mk1 (shut_bool Tryd.underlying4 _), trodAll_stays laidOut bel (by
    intro t ht
    have : t = 27 := by simpa using ht
    subst this
    exact ⟨by kernel_rfl, of_decide_eq_true (by kernel_rfl)⟩) hA1, rfl, bel.frame _, fun h => by cases h⟩

theorem said : Rows.StationEncodesSaid :=
  OpenClaim.holds_of_wide 3 Tryd.f3 rfl rfl rfl rfl rfl rfl rfl ⟨rfl, rfl, rfl, rfl, rfl⟩ rfl rfl rfl rfl rfl (by kernel_rfl) Tryd.func3 (by kernel_rfl)
    (of_decide_eq_true (by kernel_rfl)) (by unfold Func.isWrapper; first | (rw [if_pos (by decide +kernel)]; kernel_rfl) | (rw [if_neg (by decide +kernel)]; exact ⟨rfl, rfl⟩))
    (fun os started H enc _ => lifted os started H enc)
theorem proved : Rows.StationEncodesCardSaid :=
  Claim7.holds_tied_plain_at .later [] [.data, .data, .data] true (true, "aaa3fc61e1ea5b1de0c8233b6033df7220c34c92cd50e080dea110f7a8742b0f") false
    said (fun _ h => by cases h) (by kernel_rfl) (fun _ h => by cases h) stationEncodes_row_tie rfl ⟨rfl, rfl⟩ (by kernel_rfl) rfl
    (fun f fn hf hfn => by
      have e0 : some f = some 3 := hf.symm.trans (by kernel_rfl)
      obtain rfl := Option.some.inj e0
      obtain rfl : fn = Tryd.f3 := (Option.some.inj (Tryd.func3.symm.trans hfn)).symm
      exact ⟨by kernel_rfl, fun j t ht => by
        rw [Tryd.params3] at ht
        have ht' : t ∈ [27] := List.mem_of_getElem? (by simpa using ht)
        simp only [List.mem_cons, List.not_mem_nil, or_false] at ht'
        rcases ht' with rfl
        exact (show Tryd.prog.wantsStandIn 27 = false by kernel_rfl)⟩)
    (by kernel_rfl)

end Go.Proofs.YthmapnolgdpkbaaDoor.encodes
