/-
  StationIgnores returns true for every diagram and every two numbers. No condition.
-/
import Derived.Test.YthmapnolgdpkbaaQ6
import Derived.Test.YthmapnolgdpkbaaRows
namespace Go.Proofs.Ythmapnolgdpkbaa.ignores
open Go.ChangeShapes Go.WideShapes Go.ChangeAt Go.RowKit
open Go.Eb Go.Proofs.Ythmapnolgdpkbaa.st Go.Proofs.Ythmapnolgdpkbaa.de
set_option maxRecDepth 100000

abbrev eS := en1 aSta
theorem eS_inj : InjT eS := en1_inj aSta_inj
abbrev eSS := en2 aSta aSta
theorem eSS_inj : InjT eSS := en2_inj aSta_inj aSta_inj
abbrev eW := en2 vI vN
theorem eW_inj : InjT eW := en2_inj vI_inj vN_inj
def okW (a : Int × Nat) : Bool := (decide (-9223372036854775808 ≤ a.1) && decide (a.1 ≤ 9223372036854775807)) && (decide (0 < a.2) && decide (a.2 ≤ 9000))
def okE (s : SSta) : Bool := okSta s && chkSta s == 0
def okB (a : SSta × SSta) : Bool := okSta a.1 && okSta a.2
noncomputable def okD (s : SSta) (x : List AV) : Bool := @decide (CX Try.prog 18 x [] (.tup [(true, (staC s).map .d), pI 0, pI 0]) []) (Classical.propDecidable _)
theorem okD_iff {s : SSta} {x : List AV} : okD s x = true ↔ CX Try.prog 18 x [] (.tup [(true, (staC s).map .d), pI 0, pI 0]) [] := by unfold okD; simp
noncomputable abbrev O5 (s : SSta) : Orc := o5 (okG eS okSta) (fun x => large (theT eS x)) (okG eS okSta) (fun x => chkSta (theT eS x)) (okG eS okE) (fun x => encSta (theT eS x)) (okG eW okW) (fun x => (theT eW x).1 % ((theT eW x).2 : Int)) (okD s) (okG eSS okB) (fun x => same (theT eSS x).1 (theT eSS x).2) s
theorem c8' (s : SSta) (h : okSta s = true) : CX Try.prog 8 [aSta s] [] (vI (chkSta s)) [] := c8 s (okSta_len h).2.2.2.2
theorem s5 (s : SSta) : OrcS Try.prog (O5 s) := by
  refine .cons (.p dec0_ok kn.c6) (.cons (.t' (r := fun a => vB (large a)) fun a h => c7 a h) (.cons (.t' (r := fun a => vI (chkSta a)) fun a h => c8' a h) (.cons (.t' (r := fun a => .c (.d (itemsD (encSta a)))) fun a h => ?_)
    (.cons (.t' (r := fun (a : Int × Nat) => vI (a.1 % (a.2 : Int))) fun a h => ?_) (.cons (.g fun x h => okD_iff.1 h) (.cons (.t' (r := fun (a : SSta × SSta) => vB (same a.1 a.2)) fun a h => ?_) .nil))))))
  · unfold okE at h
    simp only [Bool.and_eq_true] at h
    have h0 : chkSta a = 0 := eq_of_beq h.2
    exact cenc c8' a h.1 h0 (sfit h0)
  · unfold okW at h; simp only [Bool.and_eq_true, decide_eq_true_eq] at h; exact c10 a.1 a.2 h.1 h.2.1 h.2.2
  · unfold okB at h; simp only [Bool.and_eq_true] at h; exact c13 a.1 a.2 h.1 h.2
theorem enc_main (s : SSta) : encSta s = Tg.sta.enc s :: (mainT s).map (Tg.enc s) := by
  rw [main_enc]
  rfl
theorem ins_map (s : SSta) (Z : List Tg) (a : Nat) : List.take a (Z.map (Tg.enc s)) ++ [yO] ++ List.drop a (Z.map (Tg.enc s)) = (Z.take a ++ .oth yO :: Z.drop a).map (Tg.enc s) := by
  rw [List.map_append, List.map_cons, List.map_take, List.map_drop, List.append_assoc]
  rfl
theorem cL (s : SSta) (p q : Int) (hs : okSta s = true) (hp : -9223372036854775808 ≤ p ∧ p ≤ 9223372036854775807) (hq : -9223372036854775808 ≤ q ∧ q ≤ 9223372036854775807) : CR Try.prog 5 [aSta s, vI p, vI q] [] (vB true) [] := by
  refine cr_of (s5 s).ok Try.func5 bign rfl ((evign _ _ _ _ _ _ _ _ _ _ _ s p q 1).trans ?_)
  have k1 : okG eS okSta [AV.agg (List.map C.d (staC s))] = true := okG_enc eS_inj (c := okSta) s hs
  have t1 : theT eS [AV.agg (List.map C.d (staC s))] = s := theT_enc eS_inj s
  rw [k1, cond_true]
  show (bif large (theT eS [AV.agg (List.map C.d (staC s))]) then _ else _) = _
  rw [t1]
  cases hl : large s with
  | true => rfl
  | false =>
    rw [cond_false, cond_true]
    cases hc : (chkSta s != 0) with
    | true => rfl
    | false =>
      rw [cond_false]
      have h0 : chkSta s = 0 := by simpa using hc
      have k2 : okG eS okE [AV.agg (List.map C.d (staC s))] = true := okG_enc eS_inj (c := okE) s (by unfold okE; rw [hs, h0]; rfl)
      rw [k2, cond_true]
      have hm : (encSta s).length = (mainT s).length + 1 := by rw [enc_main]; simp
      have hml := main_len h0
      generalize hn : (mainT s).length = n at hm hml
      have w1 : IntKind.wrap IntKind.i64 (((encSta s).length : Int) + 1) = ((n + 2 : Nat) : Int) := by rw [hm, wrap_id (by omega) (by omega)]; omega
      have w2 : ((encSta s).length : Int) = ((n + 1 : Nat) : Int) := by rw [hm]
      have k3 : okG eW okW [AV.c (C.d (D.v (Value.int IntKind.i64 p))), AV.c (C.d (D.v (Value.int IntKind.i64 ((n + 2 : Nat) : Int))))] = true := okG_enc eW_inj (c := okW) (p, n + 2) (by unfold okW; simp only [Bool.and_eq_true, decide_eq_true_eq]; omega)
      have k4 : okG eW okW [AV.c (C.d (D.v (Value.int IntKind.i64 q))), AV.c (C.d (D.v (Value.int IntKind.i64 ((n + 1 : Nat) : Int))))] = true := okG_enc eW_inj (c := okW) (q, n + 1) (by unfold okW; simp only [Bool.and_eq_true, decide_eq_true_eq]; omega)
      have t3 : theT eW [AV.c (C.d (D.v (Value.int IntKind.i64 p))), AV.c (C.d (D.v (Value.int IntKind.i64 ((n + 2 : Nat) : Int))))] = (p, n + 2) := theT_enc eW_inj (p, n + 2)
      have t4 : theT eW [AV.c (C.d (D.v (Value.int IntKind.i64 q))), AV.c (C.d (D.v (Value.int IntKind.i64 ((n + 1 : Nat) : Int))))] = (q, n + 1) := theT_enc eW_inj (q, n + 1)
      rw [w1, w2, k3, cond_true, k4, cond_true, t3, t4]
      rw [show (decide ((0 : Int) ≤ (1 : Int)) && decide ((1 : Int) ≤ ((n + 1 : Nat) : Int)) && decide (((n + 1 : Nat) : Int) ≤ ((n + 1 : Nat) : Int))) = true by rw [decide_eq_true (by omega), decide_eq_true (by omega), decide_eq_true (by omega)]; rfl, cond_true]
      rw [tn, show Int.toNat (1 : Int) = 1 from rfl, ap1 (show 0 + (n + 1 - 1) ≤ 5000 by omega), cond_true]
      obtain ⟨a, ha⟩ : ∃ a : Nat, p % ((n + 2 : Nat) : Int) = (a : Int) := ⟨(p % ((n + 2 : Nat) : Int)).toNat, by rw [Int.toNat_of_nonneg (Int.emod_nonneg _ (by omega))]⟩
      obtain ⟨b, hb⟩ : ∃ b : Nat, q % ((n + 1 : Nat) : Int) = (b : Int) := ⟨(q % ((n + 1 : Nat) : Int)).toNat, by rw [Int.toNat_of_nonneg (Int.emod_nonneg _ (by omega))]⟩
      have ha' : a < n + 2 := by have := Int.emod_lt_of_pos p (show (0 : Int) < ((n + 2 : Nat) : Int) by omega); omega
      have hb' : b < n + 1 := by have := Int.emod_lt_of_pos q (show (0 : Int) < ((n + 1 : Nat) : Int) by omega); omega
      rw [show (p, n + 2).1 % (((p, n + 2).2 : Nat) : Int) = (a : Int) from ha, show (q, n + 1).1 % (((q, n + 1).2 : Nat) : Int) = (b : Int) from hb]
      have hr0 : RLe icells i0 (encSta s).length (fun i => icells ((encSta s).getD i i0)) (encSta s) := ⟨rfl, fun i hi => .refl _⟩
      have hr1 := rle_zero (g := chunk [] ((3 : Nat) + (1 : Nat))) (rle_drop hr0 (show 1 ≤ (encSta s).length by omega))
      rw [hm] at hr1
      obtain ⟨N, F, hr2, e2⟩ := step9 (okG eS okSta) (fun x => large (theT eS x)) (okG eS okSta) (fun x => chkSta (theT eS x)) (okG eS okE) (fun x => encSta (theT eS x)) (okG eW okW) (fun x => (theT eW x).1 % ((theT eW x).2 : Int)) (okD s) (okG eSS okB) (fun x => same (theT eSS x).1 (theT eSS x).2) s p q 1 0 (encSta s) (congrArg encSta t1) (by omega) (a : Int) b _ _ _ 0 (wordsC [tRelay, tX]) true (by omega) (by omega) hr1
      refine Eq.trans e2 ?_
      obtain ⟨N', F', hr3, e3⟩ := step10 (okG eS okSta) (fun x => large (theT eS x)) (okG eS okSta) (fun x => chkSta (theT eS x)) (okG eS okE) (fun x => encSta (theT eS x)) (okG eW okW) (fun x => (theT eW x).1 % ((theT eW x).2 : Int)) (okD s) (okG eSS okB) (fun x => same (theT eSS x).1 (theT eSS x).2) s p q 1 0 a N F _ (by have := hr2.len; simp [hm] at this; omega) (by have := hr2.len; simp [hm] at this; omega) hr2
      refine Eq.trans e3 ?_
      rw [stign_11]
      -- the list is that of the tags
      have hT : (encSta s).drop 1 = (mainT s).map (Tg.enc s) := by rw [enc_main]; rfl
      have hH : (encSta s).getD 0 i0 = Tg.sta.enc s := by rw [enc_main]; rfl
      have hU : List.take b ((encSta s).drop 1) ++ [(encSta s).getD 0 i0] ++ List.drop b ((encSta s).drop 1) = ((mainT s).take b ++ .sta :: (mainT s).drop b).map (Tg.enc s) := by
        rw [hT, hH]
        simp [List.map_take, List.map_drop]
      rw [hU] at hr3
      rw [ins_map] at hr3
      have hD := cdec_law h0 (List.take_append_drop b (mainT s)) (List.take_append_drop a ((mainT s).take b ++ .sta :: (mainT s).drop b))
      have k5 : okD s [AV.c (C.d (D.sl (4 : Nat) N' F'))] = true := okD_iff.2 (hD.ge (.cons (ale_d hr3.de) .nil) (.refl _))
      rw [k5, cond_true]
      have k6 : okG eSS okB [AV.agg (List.map C.d (staC s)), AV.agg (List.map C.d (staC s))] = true := okG_enc eSS_inj (c := okB) (s, s) (by unfold okB; rw [hs]; rfl)
      have t6 : theT eSS [AV.agg (List.map C.d (staC s)), AV.agg (List.map C.d (staC s))] = (s, s) := theT_enc eSS_inj (s, s)
      rw [k6, cond_true, t6, same_refl]

theorem own : ownKnob Try.prog.godebug = none := by kernel_rfl
theorem laidOut : laidOutB Try.prog = true := by kernel_rfl
theorem okS : [27, 22, 23, 24, 25, 58, 61, 54, 51, 52, 108, 9, 3, 4].all (okT Try.prog [27, 22, 23, 24, 25, 58, 61, 54, 51, 52, 108, 9, 3, 4]) = true := by kernel_rfl

set_option maxRecDepth 100000 in
theorem lifted (os : Os) (started : os.Started) (H : Type) (enc : TypeId × Value → H) :
    ReturnsInHanded {} Try.checked os 5 .any (Rows.stationIgnoresSpec.pre6 enc Try.prog Try.f5 Rows.stationIgnoresRow.domain false) (Rows.stationIgnoresSpec.post enc Try.prog Try.f5 false true false false) := by
  refine returnsInHanded_of_change (C := Try.checked) own started (by kernel_rfl) Try.func5
    (ChangeSpec.witness6 (enc := enc) (C := Try.checked) false ⟨#[], #[.agg #[.string ⟨#[]⟩, .slice none 0 0, .slice none 0 0, .slice none 0 0, .slice none 0 0], .int .i64 0, .int .i64 0], []⟩ 8 (by kernel_rfl) (by kernel_rfl) (by kernel_rfl) (by kernel_rfl)) ?_
  intro W base args ds gs before hval hW hcnd _
  have hW' := hW
  obtain ⟨p, q, hA0, hV, rfl, hfz, hnd⟩ := hW
  have hA : DataW.TrodAll enc Try.prog W 0 (fun _ => true) true Try.f5.params.toList args.toList ds p := hA0
  rw [Try.params5] at hA hval
  have hA1 := hA
  obtain ⟨v0, vs0, d0, ds0, p0, q0, hargs0, rfl, rfl, h0, r0⟩ := trodAll_cons hA
  obtain ⟨v1, vs1, d1, ds1, p1, q1, hargs1, rfl, rfl, h1, r1⟩ := trodAll_cons r0
  obtain ⟨v2, vs2, d2, ds2, p2, q2, hargs2, rfl, rfl, h2, r2⟩ := trodAll_cons r1
  obtain ⟨rfl, rfl, rfl⟩ := trodAll_nil r2
  obtain rfl : args = #[v0, v1, v2] := by cases args; simp_all
  obtain ⟨rfl, rfl⟩ := trodVars_none hV
  have f0 : aggT Try.prog 27 = some true := by simp [aggT, Try.underlying27]
  obtain ⟨e0, a0, hr0, hs0, hk0⟩ := arg_open (β := fun _ => .free) okS (by kernel_rfl) (hval 0 27 v0 rfl rfl) h0
  obtain rfl : a0 = .agg (e0.map .d) := by rcases hk0 with ⟨_, rfl⟩ | ⟨hf, _⟩ <;> first | rfl | (rw [f0] at hf; cases hf)
  obtain ⟨x0, hx0, ho0⟩ := shp_sta hs0
  have f1 : aggT Try.prog 3 = some false := by simp [aggT, Try.underlying3]
  obtain ⟨e1, a1, hr1, hs1, hk1⟩ := arg_open (β := fun _ => .free) okS (by kernel_rfl) (hval 1 3 v1 rfl rfl) h1
  obtain ⟨y1, rfl, rfl⟩ : ∃ x, e1 = [x] ∧ a1 = .c (.d x) := by rcases hk1 with ⟨hf, _⟩ | ⟨_, h⟩ <;> first | exact h | (rw [f1] at hf; cases hf)
  obtain ⟨x1, hx1, ho1⟩ := hs1.int_inv Try.underlying3
  obtain rfl : y1 = .v (.int .i64 x1) := by simpa using hx1
  have f2 : aggT Try.prog 3 = some false := by simp [aggT, Try.underlying3]
  obtain ⟨e2, a2, hr2, hs2, hk2⟩ := arg_open (β := fun _ => .free) okS (by kernel_rfl) (hval 2 3 v2 rfl rfl) h2
  obtain ⟨y2, rfl, rfl⟩ : ∃ x, e2 = [x] ∧ a2 = .c (.d x) := by rcases hk2 with ⟨hf, _⟩ | ⟨_, h⟩ <;> first | exact h | (rw [f2] at hf; cases hf)
  obtain ⟨x2, hx2, ho2⟩ := hs2.int_inv Try.underlying3
  obtain rfl : y2 = .v (.int .i64 x2) := by simpa using hx2
  have hcalls := calls_of_cr (w := W) (vs := #[v0, v1, v2]) rfl ((cL x0 x1 x2 ho0 (int_rng ho1) (int_rng ho2)).ge (.cons (ale_of_des hx0) (.cons (.refl _) (.cons (.refl _) .nil))) (.refl _)) ⟨rfl, fun i x v hx hv => by
    match i, hx, hv with
    | 0, hx, hv => simp at hx hv; subst hx hv; exact hr0
    | 1, hx, hv => simp at hx hv; subst hx hv; exact hr1
    | 2, hx, hv => simp at hx hv; subst hx hv; exact hr2
    | i + 3, hx, hv => simp at hx⟩
  refine hcalls.mono fun e W' ⟨he, bel⟩ => ?_
  subst he
  exact ⟨_, rfl, _, _, _, [], _, [], hW', trodAll_mk1 (shut_bool Try.underlying4 _), trodAll_stays laidOut bel (by
    intro t ht
    have : t = 27 ∨ t = 3 := by simpa using ht
    rcases this with rfl | rfl <;> exact ⟨by kernel_rfl, of_decide_eq_true (by kernel_rfl)⟩) hA1, rfl, bel.frame _, fun h => by cases h⟩

theorem proved : Rows.StationIgnoresSaid :=
  OpenClaim.holds_of_wide 5 Try.f5 rfl rfl rfl rfl rfl rfl rfl ⟨rfl, rfl, rfl, rfl, rfl⟩ rfl rfl rfl rfl rfl (by kernel_rfl) Try.func5 (by kernel_rfl)
    (of_decide_eq_true (by kernel_rfl)) (by unfold Func.isWrapper; first | (rw [if_pos (by decide +kernel)]; kernel_rfl) | (rw [if_neg (by decide +kernel)]; exact ⟨rfl, rfl⟩))
    (fun os started H enc _ => lifted os started H enc)
end Go.Proofs.Ythmapnolgdpkbaa.ignores
