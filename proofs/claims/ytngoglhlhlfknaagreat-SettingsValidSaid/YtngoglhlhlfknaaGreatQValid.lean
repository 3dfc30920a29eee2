/-
  SettingsValid returns true for every diagram and every list of statements. No condition.
-/
import Derived.Test.YtngoglhlhlfknaaGreatQ6
import Derived.Test.YtngoglhlhlfknaaGreatRows
namespace Go.Proofs.YtngoglhlhlfknaaGreat.valid
open Go.ChangeShapes Go.WideShapes Go.ChangeAt Go.RowKit
open Go.Eb Go.Proofs.YtngoglhlhlfknaaGreat.st Go.Proofs.YtngoglhlhlfknaaGreat.se Go.Proofs.YtngoglhlhlfknaaGreat.dr
set_option maxRecDepth 100000
open Go.Proofs.YtngoglhlhlfknaaGreat.wd (numS)
theorem ch_len (N : Nat) : ∀ (l : List It) (d n : Int), dep l < N → 0 ≤ n → n ≤ 600 → (ck.chP l d n).1 = 0 → n + l.length ≤ (ck.chP l d n).2 ∧ ∀ i, i < l.length → (l.getD i i0).kids.length ≤ 600 := by
  induction N with
  | zero => intro l d n h; omega
  | succ N ih =>
    intro l
    induction l with
    | nil => intro d n _ h0 h1 _; simp [ck.chP]
    | cons x r ihr =>
      intro d n hd h0 h1 he
      have hdk : dep x.kids < N := by cases x; simp only [dep, It.kids] at hd ⊢; omega
      have hdr : dep r < N + 1 := by cases x; simp only [dep] at hd; omega
      rw [ck.chP_cons] at he ⊢
      have hw : IntKind.wrap IntKind.i64 (n + 1) = n + 1 := wd.wrap_id (by omega) (by omega)
      rw [hw] at he ⊢
      cases h6 : decide (n + 1 > 600) with
      | true => rw [h6] at he; simp at he
      | false =>
        have hlt : n + 1 ≤ 600 := by simpa using h6
        rw [h6] at he
        cases h4 : decide (d > 4) with
        | true => rw [h4] at he; simp at he
        | false =>
          rw [h4] at he
          cases hc : (ck.ckItem x != 0) with
          | true => rw [hc] at he; simp only [cond_false, cond_true] at he; rw [he] at hc; simp at hc
          | false =>
            rw [hc] at he
            simp only [cond_false] at he ⊢
            cases hk : ((ck.chP x.kids (IntKind.wrap IntKind.i64 (d + 1)) (n + 1)).1 != 0) with
            | true => rw [hk] at he; simp only [cond_true] at he; rw [he] at hk; simp at hk
            | false =>
              rw [hk] at he
              simp only [cond_false] at he ⊢
              have hk0 : (ck.chP x.kids (IntKind.wrap IntKind.i64 (d + 1)) (n + 1)).1 = 0 := by simpa using hk
              obtain ⟨a1, a2⟩ := ih x.kids _ (n + 1) hdk (by omega) (by omega) hk0
              obtain ⟨b1, b2, b3⟩ := (ck.ch_same N x.kids (IntKind.wrap IntKind.i64 (d + 1)) (n + 1) hdk (by omega) (by omega)).2 hk0
              obtain ⟨c1, c2⟩ := ihr d _ hdr b2 b3 he
              refine ⟨by simp only [List.length_cons]; omega, fun i hi => ?_⟩
              cases i with
              | zero => simp only [List.getD_cons_zero]; omega
              | succ i => simp only [List.getD_cons_succ]; exact c2 i (by simpa using hi)
theorem fits_chk {l : List It} (h : ck.chk l = 0) : Fits l := by
  obtain ⟨a, b⟩ := ch_len (dep l + 1) l 0 0 (Nat.lt_succ_self _) (by omega) (by omega) h
  obtain ⟨_, _, c⟩ := (ck.ch_same (dep l + 1) l 0 0 (Nat.lt_succ_self _) (by omega) (by omega)).2 h
  exact ⟨by omega, fun i hi => by have := b i hi; omega⟩
theorem decRs_ok {bays : List SBay} : ∀ l : List It, (∀ x ∈ l, KidsOk x) → (decRs numS bays l).all okRel = true
  | [], _ => rfl
  | x :: t, h => by
    have ih := decRs_ok (bays := bays) t fun y hy => h y (by simp [hy])
    unfold decRs
    cases staW (x.words.getD 0 w0).text with
    | true => exact ih
    | false =>
      obtain ⟨k1, k2⟩ := h x (by simp)
      have : okRel (relOf numS bays x) = true := relOf_ok numS bays x (w := 2000) (by omega) (by omega) fun y hy => by
        obtain ⟨j, hj, e⟩ := List.getElem_of_mem hy
        have hh := k2 j hj
        have e2 : x.kids.getD j i0 = y := by rw [← e, List.getD_eq_getElem?_getD, List.getElem?_eq_getElem hj]; rfl
        rw [e2] at hh
        exact hh.h1
      simp only [cond_false, List.all_cons, this, ih, Bool.and_self]
theorem dec_ok {s : SSta} {l : List It} (hF : Fits l) : lenOk (decX s l).1 = true ∧ (decX s l).1.all okRel = true := by
  unfold decX
  cases (chkSta s != 0) with
  | true => exact ⟨rfl, rfl⟩
  | false =>
    cases hm : mfB l 0 with
    | true => exact ⟨rfl, rfl⟩
    | false =>
      cases ((decE numS s.bays (namesS s) [] l).2 != 0) with
      | true => exact ⟨rfl, rfl⟩
      | false =>
        refine ⟨?_, decRs_ok l fun x hx => ?_⟩
        · show lenOk (decRs numS s.bays l) = true
          unfold lenOk
          have := decRs_len numS s.bays l
          have := hF.len
          exact decide_eq_true (by omega)
        · obtain ⟨j, hj, e⟩ := List.getElem_of_mem hx
          have := (kids_ok hF hm j hj).2
          have e2 : l.getD j i0 = x := by rw [← e, List.getD_eq_getElem?_getD, List.getElem?_eq_getElem hj]; rfl
          rw [e2] at this
          exact this
/-- an error: no relays; none: the relays have no error -/
theorem dec_law {s : SSta} {l : List It} (hz : chkSta s = 0) : ((decX s l).2.2 ≠ 0 → (decX s l).1 = []) ∧ ((decX s l).2.2 = 0 → checkS s (decX s l).1 = (0, 0)) := by
  have h0 : (chkSta s != 0) = false := by rw [hz]; rfl
  unfold decX checkS
  rw [h0]
  simp only [cond_false]
  cases mfB l 0 with
  | true => exact ⟨fun _ => rfl, fun h => by simp at h⟩
  | false =>
    simp only [cond_false]
    cases h3 : ((decE numS s.bays (namesS s) [] l).2 != 0) with
    | true => exact ⟨fun _ => rfl, fun h => by simp only [cond_true] at h; rw [h] at h3; simp at h3⟩
    | false => exact ⟨fun h => absurd rfl h, fun _ => dec_chk numS s.bays l (namesS s) [] 0 (by simpa using h3)⟩
abbrev eC : SSta × List SRel → List AV := en2 aSta (aD relsD)
theorem relsD_inj (a b : List SRel) (h : DE (relsD a) (relsD b)) : a = b := listD_inj relC_inj a b h
theorem eC_inj : InjT eC := en2_inj aSta_inj (aD_inj relsD_inj)
def okC (a : SSta × List SRel) : Bool := okSta a.1 && (lenOk a.2 && a.2.all okRel)
theorem okC_mk {s : SSta} {l : List SRel} (hs : okSta s = true) (hl : lenOk l = true) (ha : l.all okRel = true) : okC (s, l) = true := by
  unfold okC; simp only [hs, hl, ha]; rfl
theorem okC_un {a : SSta × List SRel} (h : okC a = true) : okSta a.1 = true ∧ lenOk a.2 = true ∧ a.2.all okRel = true := by
  unfold okC at h; simp only [Bool.and_eq_true] at h; exact h
abbrev eD : SSta × List It → List AV := en2 aSta (aD itemsD)
theorem eD_inj : InjT eD := en2_inj aSta_inj (aD_inj itD_inj)
def cD (a : SSta × List It) : Bool := okSta a.1 && (okL a.2 && ck.chk a.2 == 0)
noncomputable def dX (x : List AV) : List SRel × Int × Int := decX (theT eD x).1 (theT eD x).2
noncomputable def zV : KV where
  okl := okG eSt okSta
  lg x := large (theT eSt x)
  oks := okG eSt okSta
  chk x := chkSta (theT eSt x)
  okd := okG eL2 fun a => okL a.1
  dp x := ck.deepB (theT eL2 x).1 (theT eL2 x).2
  okc := okG eL1 okL
  ck x := ck.chk (theT eL1 x)
  okD := okG eD cD
  dn x := (dX x).1.length
  df x := fun i => relC ((dX x).1.getD i rel0)
  dl x := (dX x).2.1
  de x := (dX x).2.2
  okk := okG eC okC
  ci x := (checkS (theT eC x).1 (theT eC x).2).1
  ce x := (checkS (theT eC x).1 (theT eC x).2).2
theorem sV : OrcS Tryz.prog (oV zV) := .cons (.p dec0_ok kn.c7k) (.cons (.t' (r := fun a => vB (large a)) fun a h => c7 a h) (.cons (.t' (r := fun a => vI (chkSta a)) fun a h => c8 a (okSta_len h).2.2.2.2)
  (.cons (.t' (r := fun a : List It × Int => vB (ck.deepB a.1 a.2)) fun a h => ck.c17 (dep a.1 + 1) a.1 a.2 (Nat.lt_succ_self _) h) (.cons (.t' (r := fun l : List It => vI (ck.chk l)) fun l h => ck.c18 l h)
  (.cons (.t' (r := fun a : SSta × List It => aDec (decX a.1 a.2)) fun a h => by
    unfold cD at h
    simp only [Bool.and_eq_true, beq_iff_eq] at h
    exact cdec a.1 a.2 h.1 h.2.1 (fits_chk h.2.2)) (.cons (.t' (r := fun (a : SSta × List SRel) => vP (checkS a.1 a.2)) fun a h => c13c a.1 a.2 (okC_un h).1 (okC_un h).2.1 (okC_un h).2.2) .nil))))))
theorem cVal (s : SSta) (l : List It) (hs : okSta s = true) (hL : okL l = true) : CR Tryz.prog 3 [aSta s, .c (.d (itemsD l))] [] (vB true) [] := by
  refine cr_of sV.ok Tryz.func3 bval rfl ((evval zV s l 1).trans ?_)
  have t1 := theT_enc eSt_inj s
  have k1 : zV.okl [aSta s] = true := okG_enc eSt_inj (c := okSta) s hs
  have k2 : zV.lg [aSta s] = large s := congrArg large t1
  have k3 : zV.oks [aSta s] = true := k1
  have k4 : zV.chk [aSta s] = chkSta s := congrArg chkSta t1
  have k5 : zV.okd [.c (.d (listD 4 icells i0 l)), .c (.d (.v (.int .i64 12)))] = true := okG_enc eL2_inj (c := fun a => okL a.1) (l, 12) hL
  have k6 : zV.okc [.c (.d (listD 4 icells i0 l))] = true := okG_enc eL1_inj (c := okL) l hL
  have k7 : zV.ck [.c (.d (listD 4 icells i0 l))] = ck.chk l := congrArg ck.chk (theT_enc eL1_inj l)
  have tD : theT eD [aSta s, .c (.d (listD 4 icells i0 l))] = (s, l) := theT_enc eD_inj (s, l)
  have hX : dX [aSta s, .c (.d (listD 4 icells i0 l))] = decX s l := by unfold dX; rw [tD]
  have k9 : zV.dn [aSta s, .c (.d (listD 4 icells i0 l))] = (decX s l).1.length := by rw [← hX]; rfl
  have k10 : zV.df [aSta s, .c (.d (listD 4 icells i0 l))] = fun i => relC ((decX s l).1.getD i rel0) := by rw [← hX]; rfl
  have k11 : zV.de [aSta s, .c (.d (listD 4 icells i0 l))] = (decX s l).2.2 := by rw [← hX]; rfl
  rw [k1, k2, k3, k4, k5, k6, k7, k9, k10, k11]
  simp only [cond_true]
  cases large s with
  | true => rfl
  | false =>
    cases hz : (chkSta s != 0) with
    | true => rfl
    | false =>
      cases zV.dp [.c (.d (listD 4 icells i0 l)), .c (.d (.v (.int .i64 12)))] with
      | true => rfl
      | false =>
        cases hc : (ck.chk l != 0) with
        | true => rfl
        | false =>
          have hz' : chkSta s = 0 := by simpa using hz
          have hc' : ck.chk l = 0 := by simpa using hc
          have k8 : zV.okD [aSta s, .c (.d (listD 4 icells i0 l))] = true := okG_enc eD_inj (c := cD) (s, l) (by unfold cD; rw [hs, hL, hc']; rfl)
          obtain ⟨o1, o2⟩ := dec_ok (s := s) (fits_chk hc')
          have k12 : zV.okk [aSta s, .c (.d (.sl 53 (decX s l).1.length fun i => relC ((decX s l).1.getD i rel0)))] = true := okG_enc eC_inj (c := okC) (s, (decX s l).1) (okC_mk hs o1 o2)
          have k13 : zV.ce [aSta s, .c (.d (.sl 53 (decX s l).1.length fun i => relC ((decX s l).1.getD i rel0)))] = (checkS s (decX s l).1).2 := by
            generalize (decX s l).1 = rs
            have t : theT eC [aSta s, .c (.d (.sl 53 rs.length fun i => relC (rs.getD i rel0)))] = (s, rs) := theT_enc eC_inj (s, rs)
            dsimp only [zV]
            rw [t]
          rw [k8, k12, k13]
          simp only [cond_true, cond_false]
          obtain ⟨d1, d2⟩ := dec_law (l := l) hz'
          cases he : ((decX s l).2.2 != 0) with
          | true =>
            have := d1 (by simpa using he)
            rw [this]
            rfl
          | false =>
            have h0 : (decX s l).2.2 = 0 := by simpa using he
            rw [d2 h0, h0]
            rfl
theorem own : ownKnob Tryz.prog.godebug = none := by kernel_rfl
theorem laidOut : laidOutB Tryz.prog = true := by kernel_rfl
theorem okS : [27, 22, 23, 24, 25, 71, 74, 66, 63, 64, 154, 9, 3, 4, 28, 79, 77, 86].all (okT Tryz.prog [27, 22, 23, 24, 25, 71, 74, 66, 63, 64, 154, 9, 3, 4, 28, 79, 77, 86]) = true := by kernel_rfl
set_option maxRecDepth 100000 in
theorem lifted (os : Os) (started : os.Started) (H : Type) (enc : TypeId × Value → H) :
    ReturnsInHanded {} Tryz.checked os 3 .any (Rows.settingsValidSpec.pre6 enc Tryz.prog Tryz.f3 Rows.settingsValidRow.domain false) (Rows.settingsValidSpec.post enc Tryz.prog Tryz.f3 false true false false) := by
  refine returnsInHanded_of_change (C := Tryz.checked) own started (by kernel_rfl) Tryz.func3
    (ChangeSpec.witness6 (enc := enc) (C := Tryz.checked) false ⟨#[], #[.agg #[.string ⟨#[]⟩, .slice none 0 0, .slice none 0 0, .slice none 0 0, .slice none 0 0], .slice none 0 0], []⟩ 8 (by kernel_rfl) (by kernel_rfl) (by kernel_rfl) (by kernel_rfl)) ?_
  intro W base args ds gs before hval hW hcnd _
  have hW' := hW
  obtain ⟨p, q, hA0, hV, rfl, hfz, hnd⟩ := hW
  have hA : DataW.TrodAll enc Tryz.prog W 0 (fun _ => true) true Tryz.f3.params.toList args.toList ds p := hA0
  rw [Tryz.params3] at hA hval
  have hA1 := hA
  obtain ⟨v0, vs0, d0, ds0, p0, q0, hargs0, rfl, rfl, h0, r0⟩ := trodAll_cons hA
  obtain ⟨v1, vs1, d1, ds1, p1, q1, hargs1, rfl, rfl, h1, r1⟩ := trodAll_cons r0
  obtain ⟨rfl, rfl, rfl⟩ := trodAll_nil r1
  obtain rfl : args = #[v0, v1] := by cases args; simp_all
  obtain ⟨rfl, rfl⟩ := trodVars_none hV
  have f0 : aggT Tryz.prog 27 = some true := by simp [aggT, Tryz.underlying27]
  obtain ⟨e0, a0, hr0, hs0, hk0⟩ := arg_open (β := fun _ => .free) okS (by kernel_rfl) (hval 0 27 v0 rfl rfl) h0
  obtain rfl : a0 = .agg (e0.map .d) := by rcases hk0 with ⟨_, rfl⟩ | ⟨hf, _⟩ <;> first | rfl | (rw [f0] at hf; cases hf)
  obtain ⟨x0, hx0, ho0⟩ := shp_sta hs0
  have f1 : aggT Tryz.prog 28 = some false := by simp [aggT, Tryz.underlying28]
  obtain ⟨e1, a1, hr1, hs1, hk1⟩ := arg_open (β := fun _ => .free) okS (by kernel_rfl) (hval 1 28 v1 rfl rfl) h1
  obtain ⟨y1, rfl, rfl⟩ : ∃ x, e1 = [x] ∧ a1 = .c (.d x) := by rcases hk1 with ⟨hf, _⟩ | ⟨_, h⟩ <;> first | exact h | (rw [f1] at hf; cases hf)
  obtain ⟨z1, x1, hz1, hx1, ho1⟩ := shp_items hs1
  obtain rfl : y1 = z1 := by simpa using hz1
  have hcalls := calls_of_cr (w := W) (vs := #[v0, v1]) rfl ((cVal x0 x1 ho0 ho1).ge (.cons (ale_of_des hx0) (.cons (ale_d hx1) .nil)) (.refl _)) ⟨rfl, fun i x v hx hv => by
    match i, hx, hv with
    | 0, hx, hv => simp at hx hv; subst hx hv; exact hr0
    | 1, hx, hv => simp at hx hv; subst hx hv; exact hr1
    | i + 2, hx, hv => simp at hx⟩
  refine hcalls.mono fun e W' ⟨he, bel⟩ => ?_
  subst he
  exact ⟨_, rfl, _, _, _, [], _, [], hW', trodAll_mk1 (shut_bool Tryz.underlying4 _), trodAll_stays laidOut bel (by
    intro t ht
    have : t = 27 ∨ t = 28 := by simpa using ht
    rcases this with rfl | rfl <;> exact ⟨by kernel_rfl, of_decide_eq_true (by kernel_rfl)⟩) hA1, rfl, bel.frame _, fun h => by cases h⟩
theorem proved : Rows.SettingsValidSaid :=
  OpenClaim.holds_of_wide 3 Tryz.f3 rfl rfl rfl rfl rfl rfl rfl ⟨rfl, rfl, rfl, rfl, rfl⟩ rfl rfl rfl rfl rfl (by kernel_rfl) Tryz.func3 (by kernel_rfl)
    (of_decide_eq_true (by kernel_rfl)) (by unfold Func.isWrapper; first | (rw [if_pos (by decide +kernel)]; kernel_rfl) | (rw [if_neg (by decide +kernel)]; exact ⟨rfl, rfl⟩))
    (fun os started H enc _ => lifted os started H enc)
end Go.Proofs.YtngoglhlhlfknaaGreat.valid
