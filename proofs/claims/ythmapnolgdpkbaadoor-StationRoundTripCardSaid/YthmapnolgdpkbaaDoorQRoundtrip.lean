/-
  StationRoundTrip returns true for every diagram; its listed variables are tied to the program's text. No condition.
-/
import Derived.Test.YthmapnolgdpkbaaDoorQ6
import Derived.Test.YthmapnolgdpkbaaDoorRows
import Derived.Test.YthmapnolgdpkbaaDoorCards
import Derived.SevenTiedAt
namespace Go.Proofs.YthmapnolgdpkbaaDoor.roundtrip
open Go
open Go.ChangeShapes Go.WideShapes Go.ChangeAt Go.RowKit
open Go.Eb Go.Proofs.YthmapnolgdpkbaaDoor.st Go.Proofs.YthmapnolgdpkbaaDoor.de Go.Proofs.YthmapnolgdpkbaaDoor.pe
set_option maxRecDepth 100000
open Go.Proofs.YthmapnolgdpkbaaDoor.ito (own laidL glob_of door_met)
set_option maxRecDepth 100000

abbrev eS := en1 aSta
theorem eS_inj : InjT eS := en1_inj aSta_inj
abbrev eSS := en2 aSta aSta
theorem eSS_inj : InjT eSS := en2_inj aSta_inj aSta_inj
def okB (a : SSta × SSta) : Bool := okSta a.1 && okSta a.2
noncomputable def okD (s : SSta) (x : List AV) : Bool := @decide (CX Tryd.prog 11 x [] (.tup [(true, (staC s).map .d), pI 0, pI 0]) []) (Classical.propDecidable _)
theorem okD_iff {s : SSta} {x : List AV} : okD s x = true ↔ CX Tryd.prog 11 x [] (.tup [(true, (staC s).map .d), pI 0, pI 0]) [] := by unfold okD; simp
noncomputable abbrev O4 (s : SSta) : Orc := oRL (okG eS okSta) (fun x => large (theT eS x)) (okG eS okSta) (fun x => chkSta (theT eS x)) (okG eS okSta) (fun x => encO (theT eS x)) (okD s) (okG eSS okB) (fun x => same (theT eSS x).1 (theT eSS x).2) s
theorem s4 (s : SSta) : OrcS Tryd.prog (O4 s) := by
  refine .cons (.p dec0_ok kn.c6) (.cons (.t' (r := fun a => vB (large a)) fun a h => c7 a h) (.cons (.t' (r := fun a => vI (chkSta a)) fun a h => c8' a h) (.cons (.t' (r := fun a => .c (.d (itemsD (encO a)))) fun a h => encode_prog a h)
    (.cons (.g fun x h => okD_iff.1 h) (.cons (.t' (r := fun (a : SSta × SSta) => vB (same a.1 a.2)) fun a h => ?_) (.cons (.t' (r := fun (a : SSta × SSta) => vB (same a.1 a.2)) fun a h => ?_) .nil))))))
  · unfold okB at h; simp only [Bool.and_eq_true] at h; exact c14 a.1 a.2 h.1 h.2
  · unfold okB at h; simp only [Bool.and_eq_true] at h; exact c13 a.1 a.2 h.1 h.2
theorem cL (s : SSta) (hs : okSta s = true) : CR Tryd.prog 4 [aSta s] [] (vB true) [] := by
  refine cr_of (s4 s).ok Tryd.func4 brtl rfl ((evrtl _ _ _ _ _ _ _ _ _ s 1).trans ?_)
  have k1 : okG eS okSta [AV.agg (List.map C.d (staC s))] = true := okG_enc eS_inj (c := okSta) s hs
  have t1 : theT eS [AV.agg (List.map C.d (staC s))] = s := theT_enc eS_inj s
  have k6 : okG eSS okB [AV.agg (List.map C.d (staC s)), AV.agg (List.map C.d (staC s))] = true := okG_enc eSS_inj (c := okB) (s, s) (by unfold okB; rw [hs]; rfl)
  have t6 : theT eSS [AV.agg (List.map C.d (staC s)), AV.agg (List.map C.d (staC s))] = (s, s) := theT_enc eSS_inj (s, s)
  rw [k1, t1, k6, t6, same_refl, cond_true, cond_true, cond_true, cond_true, cond_true, cond_true]
  cases large s with
  | true => rfl
  | false =>
    rw [cond_false]
    cases hc : (chkSta s != 0) with
    | true => rfl
    | false =>
      rw [cond_false]
      have h0 : chkSta s = 0 := by simpa using hc
      have e : encO s = encSta s := by unfold encO; rw [h0]; rfl
      have k2 : okD s [AV.c (C.d (listD ((4 : Nat)) icells i0 (encO s)))] = true := okD_iff.2 (by rw [e]; exact cdec_enc h0)
      rw [k2, cond_true]

theorem laidOut : laidOutB Tryd.prog = true := by kernel_rfl
theorem okS : [27, 22, 23, 24, 25, 50, 53, 44, 41, 42, 104, 9, 3, 4].all (okT Tryd.prog [27, 22, 23, 24, 25, 50, 53, 44, 41, 42, 104, 9, 3, 4]) = true := by kernel_rfl

set_option maxRecDepth 100000 in
theorem lifted (os : Os) (started : os.Started) (H : Type) (enc : TypeId × Value → H) :
    ReturnsInHanded {} Tryd.checked os 4 .any (fun w args => (Rows.stationRoundTripSpec.pre enc Tryd.prog Tryd.f4 Rows.stationRoundTripRow.domain false w args ∧ laidMetH Tryd.prog laidL w) ∧ sizedMet enc Tryd.prog Tryd.f4 (OpenSpec.ofChange Rows.stationRoundTripSpec) false w args)
      (Rows.stationRoundTripSpec.post enc Tryd.prog Tryd.f4 false true false false) := by
  refine returnsInHanded_of_change_and (C := Tryd.checked) (X := fun w _ => laidMetH Tryd.prog laidL w) (fun _ _ _ hh h => h.of_heap hh) own started (by kernel_rfl) Tryd.func4
    (ChangeSpec.witness_shaped (enc := enc) (C := Tryd.checked) (os := os) (X := fun w _ => laidMetH Tryd.prog laidL w) false (World.doorLaid Tryd.prog 400 os) #[.agg #[.string ⟨#[]⟩, .slice none 0 0, .slice none 0 0, .slice none 0 0, .slice none 0 0]] 8 rfl (World.shaped_of_RefB (by kernel_rfl) (by kernel_rfl)) (by kernel_rfl) (by kernel_rfl) (by kernel_rfl) (door_met os _)) ?_
  intro W base args ds gs before hval hW _ _ hL _
  have hW' := hW
  obtain ⟨p, q, hA0, hV, rfl, hfz, hnd⟩ := hW
  have hA : DataW.TrodAll enc Tryd.prog W 0 (fun _ => true) true Tryd.f4.params.toList args.toList ds p := hA0
  rw [Tryd.params4] at hA hval
  have hA1 := hA
  obtain ⟨v0, vs0, d0, ds0, p0, q0, hargs0, rfl, rfl, h0, r0⟩ := trodAll_cons hA
  obtain ⟨rfl, rfl, rfl⟩ := trodAll_nil r0
  obtain rfl : args = #[v0] := by cases args; simp_all
  obtain ⟨rfl, rfl⟩ := trodVars_none hV
  have f0 : aggT Tryd.prog 27 = some true := by simp [aggT, Tryd.underlying27]
  obtain ⟨e0, a0, hr0, hs0, hk0⟩ := arg_open (β := fun _ => .free) okS (by kernel_rfl) (hval 0 27 v0 rfl rfl) h0
  obtain rfl : a0 = .agg (e0.map .d) := by rcases hk0 with ⟨_, rfl⟩ | ⟨hf, _⟩ <;> first | rfl | (rw [f0] at hf; cases hf)
  obtain ⟨x0, hx0, ho0⟩ := shp_sta hs0
  have hcalls := calls_of_cr (w := W) (vs := #[v0]) rfl ((cL x0 ho0).ge (.cons (ale_of_des hx0) .nil) (.refl _)) ⟨rfl, fun i x v hx hv => by
    match i, hx, hv with
    | 0, hx, hv => simp at hx hv; subst hx hv; exact hr0
    | i + 1, hx, hv => simp at hx⟩ (glob_of hL)
  refine hcalls.mono fun e W' ⟨he, bel⟩ => ?_
  subst he
  exact ⟨_, rfl, _, _, _, [], _, [], hW', trodAll_mk1 (shut_bool Tryd.underlying4 _), trodAll_stays laidOut bel (by
    intro t ht
    have : t = 27 := by simpa using ht
    subst this
    exact ⟨by kernel_rfl, of_decide_eq_true (by kernel_rfl)⟩) hA1, rfl, bel.frame _, fun h => by cases h⟩

theorem said : Rows.StationRoundTripSaid :=
  OpenClaim.holds_of_wide 4 Tryd.f4 rfl rfl rfl rfl rfl rfl rfl ⟨rfl, rfl, rfl, rfl, rfl⟩ rfl rfl rfl rfl rfl (by kernel_rfl) Tryd.func4 (by kernel_rfl)
    (of_decide_eq_true (by kernel_rfl)) (by unfold Func.isWrapper; first | (rw [if_pos (by decide +kernel)]; kernel_rfl) | (rw [if_neg (by decide +kernel)]; exact ⟨rfl, rfl⟩))
    (fun os started H enc _ => lifted os started H enc)
theorem proved : Rows.StationRoundTripCardSaid :=
  Claim7.holds_tied_plain_at .later [] [.data, .data, .data] true (true, "aaa3fc61e1ea5b1de0c8233b6033df7220c34c92cd50e080dea110f7a8742b0f") false
    said (fun _ h => by cases h) (by kernel_rfl) (fun _ h => by cases h) stationRoundTrip_row_tie rfl ⟨rfl, rfl⟩ (by kernel_rfl) rfl
    (fun f fn hf hfn => by
      have e0 : some f = some 4 := hf.symm.trans (by kernel_rfl)
      obtain rfl := Option.some.inj e0
      obtain rfl : fn = Tryd.f4 := (Option.some.inj (Tryd.func4.symm.trans hfn)).symm
      exact ⟨by kernel_rfl, fun j t ht => by
        rw [Tryd.params4] at ht
        have ht' : t ∈ [27] := List.mem_of_getElem? (by simpa using ht)
        simp only [List.mem_cons, List.not_mem_nil, or_false] at ht'
        rcases ht' with rfl
        exact (show Tryd.prog.wantsStandIn 27 = false by kernel_rfl)⟩)
    (by kernel_rfl)

end Go.Proofs.YthmapnolgdpkbaaDoor.roundtrip
