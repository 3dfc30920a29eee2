/-
  SettingsPrefixes returns true for every diagram, every list of relays and every number. No condition.
-/
import Derived.Test.YtngoglhlhlfknaaGreatRk
import Derived.Test.YtngoglhlhlfknaaGreatOr
import Derived.Test.YtngoglhlhlfknaaGreatKn7
import Derived.Test.YtngoglhlhlfknaaGreatRows
namespace Go.Proofs.YtngoglhlhlfknaaGreat.prefixes
open Go.ChangeShapes Go.WideShapes Go.ChangeAt Go.RowKit
open Go.Eb Go.Proofs.YtngoglhlhlfknaaGreat.st Go.Proofs.YtngoglhlhlfknaaGreat.se
set_option maxRecDepth 100000

abbrev eC := en2 aSta (aD relsD)
theorem relsD_inj (a b : List SRel) (h : DE (relsD a) (relsD b)) : a = b := listD_inj relC_inj a b h
theorem eC_inj : InjT eC := en2_inj aSta_inj (aD_inj relsD_inj)
def okC (a : SSta × List SRel) : Bool := okSta a.1 && (lenOk a.2 && a.2.all okRel)
theorem okC_mk {s : SSta} {l : List SRel} (hs : okSta s = true) (hl : lenOk l = true) (ha : l.all okRel = true) : okC (s, l) = true := by
  unfold okC; simp only [hs, hl, ha]; rfl
theorem okC_un {a : SSta × List SRel} (h : okC a = true) : okSta a.1 = true ∧ lenOk a.2 = true ∧ a.2.all okRel = true := by
  unfold okC at h; simp only [Bool.and_eq_true] at h; exact h
theorem theC_of (s : SSta) (l : List SRel) (d : D) (h1 : DE d (relsD l)) (h2 : DE (relsD l) d) : theT eC [aSta s, .c (.d d)] = (s, l) := by
  have hx : okX eC [aSta s, .c (.d d)] = true := okX_iff.2 ⟨(s, l), .cons (.refl _) (.cons h1 .nil)⟩
  have h := theT_le hx
  have a1 := aSta_inj _ _ (asle_cons h).1
  have a2 := relsD_inj _ _ (h2.trans (ale_c (asle_cons (asle_cons h).2).1))
  exact Prod.ext a1.symm a2.symm
theorem okC_of (s : SSta) (l : List SRel) (d : D) (h1 : DE d (relsD l)) (h2 : DE (relsD l) d) (h : okC (s, l) = true) : okG eC okC [aSta s, .c (.d d)] = true := by
  have hx : okX eC [aSta s, .c (.d d)] = true := okX_iff.2 ⟨(s, l), .cons (.refl _) (.cons h1 .nil)⟩
  unfold okG
  rw [hx, theC_of s l d h1 h2, h]; rfl
noncomputable def ZX : KX where
  okf := okG eC okC
  fi x := fineS (theT eC x).1 (theT eC x).2
  okc := okG eC okC
  ci x := (checkS (theT eC x).1 (theT eC x).2).1
  ce x := (checkS (theT eC x).1 (theT eC x).2).2
theorem sX : OrcS Tryz.prog (oX ZX) := .cons (.p dec0_ok kn.c7k) (.cons (.t' (r := fun (a : SSta × List SRel) => vB (fineS a.1 a.2)) fun a h => cfin a.1 a.2 (okC_un h).1 (okC_un h).2.1 (okC_un h).2.2)
  (.cons (.t' (r := fun (a : SSta × List SRel) => vP (checkS a.1 a.2)) fun a h => c13c a.1 a.2 (okC_un h).1 (okC_un h).2.1 (okC_un h).2.2) .nil))
abbrev sl (l : List SRel) (K : Int) : D := .sl 53 (K.toNat - ((0 : Nat) : Int).toNat) fun i => relC (l.getD (((0 : Nat) : Int).toNat + i) rel0)
theorem sl_take (l : List SRel) (K : Int) (h0 : 0 ≤ K) (h1 : K ≤ l.length) : DE (sl l K) (relsD (l.take K.toNat)) ∧ DE (relsD (l.take K.toNat)) (sl l K) := by
  have e : K.toNat - ((0 : Nat) : Int).toNat = (l.take K.toNat).length := by simp; omega
  have f : ∀ i, i < (l.take K.toNat).length → relC (l.getD (((0 : Nat) : Int).toNat + i) rel0) = relC ((l.take K.toNat).getD i rel0) := fun i hi => by
    have hi' : i < K.toNat := by simp at hi; omega
    have e0 : ((0 : Nat) : Int).toNat + i = i := by simp
    rw [e0]
    congr 1
    simp only [List.getD_eq_getElem?_getD, List.getElem?_take, hi', if_true]
  unfold sl
  rw [e]
  exact ⟨.sl_eq f, .sl_eq fun i hi => (f i hi).symm⟩
def pxT (oc oc2 : Bool) (ci ce ci2 ce2 K n : Int) : Option (T (AV × Hp)) :=
  bif oc then (bif decide ((0 : Int) ≤ ((0 : Nat) : Int)) && decide (((0 : Nat) : Int) ≤ K) && decide (K ≤ n) then (bif oc2 then (bif ce == 0 then (bif ci2 == 0 then lB (ce2 == 0) else lB false) else (bif decide (ci ≥ K) then (bif ci2 == 0 then lB (ce2 == 0) else lB false) else (bif ci2 == ci then lB (ce2 == ce) else lB false))) else none) else none) else none
theorem pxT_true {ci ce ci2 ce2 K n : Int} (h0 : 0 ≤ K) (h1 : K ≤ n) (a : (ce = 0 ∨ K ≤ ci) → ci2 = 0 ∧ ce2 = 0) (b : ¬ (ce = 0 ∨ K ≤ ci) → ci2 = ci ∧ ce2 = ce) : pxT true true ci ce ci2 ce2 K n = lB true := by
  unfold pxT
  have e1 : decide (((0 : Nat) : Int) ≤ K) = true := decide_eq_true (by simpa using h0)
  rw [e1, decide_eq_true h1]
  by_cases hc : ce = 0
  · obtain ⟨x, y⟩ := a (.inl hc)
    subst hc x y
    rfl
  · have hc' : (ce == 0) = false := by simpa using hc
    rw [hc']
    by_cases hk : K ≤ ci
    · obtain ⟨x, y⟩ := a (.inr hk)
      subst x y
      rw [decide_eq_true (show ci ≥ K from hk)]
      rfl
    · obtain ⟨x, y⟩ := b (fun h => h.elim hc hk)
      subst x y
      rw [decide_eq_false (show ¬ ci2 ≥ K from hk)]
      simp
theorem cPx (s : SSta) (l : List SRel) (k : Int) (hs : okSta s = true) (hla : lenOk l = true ∧ l.all okRel = true) (hk : -9223372036854775808 ≤ k ∧ k ≤ 9223372036854775807) : CR Tryz.prog 4 [aSta s, .c (.d (relsD l)), vI k] [] (vB true) [] := by
  obtain ⟨hl, ha⟩ := hla
  refine cr_of sX.ok Tryz.func4 bpx rfl ((evpx ZX s l k 1).trans ?_)
  have hc : okC (s, l) = true := okC_mk hs hl ha
  have k1 : ZX.okf [aSta s, .c (.d (relsD l))] = true := okG_enc eC_inj (c := okC) (s, l) hc
  have t : theT eC [aSta s, .c (.d (relsD l))] = (s, l) := theT_enc eC_inj (s, l)
  have k2 : ZX.fi [aSta s, .c (.d (relsD l))] = fineS s l := by dsimp only [ZX]; rw [t]
  have tail : ∀ K : Int, 0 ≤ K → K ≤ l.length → chkSta s = 0 → pxT (ZX.okc [aSta s, .c (.d (relsD l))]) (ZX.okc [aSta s, .c (.d (sl l K))]) (ZX.ci [aSta s, .c (.d (relsD l))]) (ZX.ce [aSta s, .c (.d (relsD l))]) (ZX.ci [aSta s, .c (.d (sl l K))]) (ZX.ce [aSta s, .c (.d (sl l K))]) K l.length = lB true := by
    intro K h0 h1 hz
    obtain ⟨d1, d2⟩ := sl_take l K h0 h1
    have q1 : ZX.okc [aSta s, .c (.d (relsD l))] = true := k1
    have hl2 : lenOk (l.take K.toNat) = true := by
      have := lenOk_le hl
      unfold lenOk
      rw [decide_eq_true (by simp; omega)]
    have ha2 : (l.take K.toNat).all okRel = true := by
      rw [List.all_eq_true] at ha ⊢
      exact fun x hx => ha x (List.mem_of_mem_take hx)
    have q2 : ZX.okc [aSta s, .c (.d (sl l K))] = true := okC_of s _ _ d1 d2 (okC_mk hs hl2 ha2)
    have t2 := theC_of s _ _ d1 d2
    have q3 : ZX.ci [aSta s, .c (.d (relsD l))] = (checkS s l).1 := by dsimp only [ZX]; rw [t]
    have q4 : ZX.ce [aSta s, .c (.d (relsD l))] = (checkS s l).2 := by dsimp only [ZX]; rw [t]
    have q5 : ZX.ci [aSta s, .c (.d (sl l K))] = (checkS s (l.take K.toNat)).1 := by dsimp only [ZX]; rw [t2]
    have q6 : ZX.ce [aSta s, .c (.d (sl l K))] = (checkS s (l.take K.toNat)).2 := by dsimp only [ZX]; rw [t2]
    rw [q1, q2, q3, q4, q5, q6]
    have hz' : (chkSta s != 0) = false := by rw [hz]; rfl
    unfold checkS
    rw [hz']
    simp only [cond_false]
    have key := chk_take s.bays l (namesS s) [] 0 K.toNat
    have e : ((0 + K.toNat : Nat) : Int) = K := by omega
    rw [e] at key
    exact pxT_true h0 h1 (fun h => by rw [key.1 h]; exact ⟨rfl, rfl⟩) (fun h => by rw [key.2 h]; exact ⟨rfl, rfl⟩)
  rw [k1, k2]
  cases hf : fineS s l with
  | false => rfl
  | true =>
    unfold fineS at hf
    simp only [Bool.and_eq_true, beq_iff_eq, decide_eq_true_eq] at hf
    obtain ⟨_, hz, hn, _⟩ := hf
    cases h0 : ((l.length : Int) == 0) with
    | true => rfl
    | false =>
      have w0 : IntKind.wrap IntKind.i64 ((l.length : Int) + 1) = (l.length : Int) + 1 := wrap_id (by omega) (by omega)
      have z : (((l.length : Int) + 1) == 0) = false := beq_eq_false_iff_ne.2 (by omega)
      rw [w0, z]
      have r1 := Int.tmod_lt_of_pos k (show (0 : Int) < (l.length : Int) + 1 by omega)
      have r2 := Int.lt_tmod_of_pos k (show (0 : Int) < (l.length : Int) + 1 by omega)
      cases hd : decide (Int.tmod k ((l.length : Int) + 1) < 0) with
      | true =>
        have hd' := of_decide_eq_true hd
        have w1 : IntKind.wrap IntKind.i64 (Int.tmod k ((l.length : Int) + 1) + (l.length : Int)) = Int.tmod k ((l.length : Int) + 1) + (l.length : Int) := wrap_id (by omega) (by omega)
        have w2 : IntKind.wrap IntKind.i64 (Int.tmod k ((l.length : Int) + 1) + (l.length : Int) + 1) = Int.tmod k ((l.length : Int) + 1) + (l.length : Int) + 1 := wrap_id (by omega) (by omega)
        rw [w1, w2]
        exact tail _ (by omega) (by omega) hz
      | false =>
        have hd' := of_decide_eq_false hd
        exact tail _ (by omega) (by omega) hz

theorem own : ownKnob Tryz.prog.godebug = none := by kernel_rfl
theorem laidOut : laidOutB Tryz.prog = true := by kernel_rfl
theorem okS : [27, 22, 23, 24, 25, 71, 74, 66, 63, 64, 154, 9, 3, 4, 35, 57, 47, 46, 49, 51, 52, 53, 54, 55, 100, 95, 104, 107].all (okT Tryz.prog [27, 22, 23, 24, 25, 71, 74, 66, 63, 64, 154, 9, 3, 4, 35, 57, 47, 46, 49, 51, 52, 53, 54, 55, 100, 95, 104, 107]) = true := by kernel_rfl

set_option maxRecDepth 100000 in
theorem lifted (os : Os) (started : os.Started) (H : Type) (enc : TypeId × Value → H) :
    ReturnsInHanded {} Tryz.checked os 4 .any (Rows.settingsPrefixesSpec.pre6 enc Tryz.prog Tryz.f4 Rows.settingsPrefixesRow.domain false) (Rows.settingsPrefixesSpec.post enc Tryz.prog Tryz.f4 false true false false) := by
  refine returnsInHanded_of_change (C := Tryz.checked) own started (by kernel_rfl) Tryz.func4
    (ChangeSpec.witness6 (enc := enc) (C := Tryz.checked) false ⟨#[], #[.agg #[.string ⟨#[]⟩, .slice none 0 0, .slice none 0 0, .slice none 0 0, .slice none 0 0], .slice none 0 0, .int .i64 0], []⟩ 8 (by kernel_rfl) (by kernel_rfl) (by kernel_rfl) (by kernel_rfl)) ?_
  intro W base args ds gs before hval hW hcnd _
  have hW' := hW
  obtain ⟨p, q, hA0, hV, rfl, hfz, hnd⟩ := hW
  have hA : DataW.TrodAll enc Tryz.prog W 0 (fun _ => true) true Tryz.f4.params.toList args.toList ds p := hA0
  rw [Tryz.params4] at hA hval
  have hA1 := hA
  obtain ⟨v0, vs0, d0, ds0, p0, q0, hargs0, rfl, rfl, h0, r0⟩ := trodAll_cons hA
  obtain ⟨v1, vs1, d1, ds1, p1, q1, hargs1, rfl, rfl, h1, r1⟩ := trodAll_cons r0
  obtain ⟨v2, vs2, d2, ds2, p2, q2, hargs2, rfl, rfl, h2, r2⟩ := trodAll_cons r1
  obtain ⟨rfl, rfl, rfl⟩ := trodAll_nil r2
  obtain rfl : args = #[v0, v1, v2] := by cases args; simp_all
  obtain ⟨rfl, rfl⟩ := trodVars_none hV
  have f0 : aggT Tryz.prog 27 = some true := by simp [aggT, Tryz.underlying27]
  obtain ⟨e0, a0, hr0, hs0, hk0⟩ := arg_open (β := fun _ => .free) okS (by kernel_rfl) (hval 0 27 v0 rfl rfl) h0
  obtain rfl : a0 = .agg (e0.map .d) := by rcases hk0 with ⟨_, rfl⟩ | ⟨hf, _⟩ <;> first | rfl | (rw [f0] at hf; cases hf)
  obtain ⟨x0, hx0, ho0⟩ := shp_sta hs0
  have f1 : aggT Tryz.prog 35 = some false := by simp [aggT, Tryz.underlying35]
  obtain ⟨e1, a1, hr1, hs1, hk1⟩ := arg_open (β := fun _ => .free) okS (by kernel_rfl) (hval 1 35 v1 rfl rfl) h1
  obtain ⟨y1, rfl, rfl⟩ : ∃ x, e1 = [x] ∧ a1 = .c (.d x) := by rcases hk1 with ⟨hf, _⟩ | ⟨_, h⟩ <;> first | exact h | (rw [f1] at hf; cases hf)
  obtain ⟨z1, x1, hz1, hx1, ho1⟩ := shp_rels hs1
  obtain rfl : y1 = z1 := by simpa using hz1
  have f2 : aggT Tryz.prog 3 = some false := by simp [aggT, Tryz.underlying3]
  obtain ⟨e2, a2, hr2, hs2, hk2⟩ := arg_open (β := fun _ => .free) okS (by kernel_rfl) (hval 2 3 v2 rfl rfl) h2
  obtain ⟨y2, rfl, rfl⟩ : ∃ x, e2 = [x] ∧ a2 = .c (.d x) := by rcases hk2 with ⟨hf, _⟩ | ⟨_, h⟩ <;> first | exact h | (rw [f2] at hf; cases hf)
  obtain ⟨x2, hx2, ho2⟩ := hs2.int_inv Tryz.underlying3
  obtain rfl : y2 = .v (.int .i64 x2) := by simpa using hx2
  have hcalls := calls_of_cr (w := W) (vs := #[v0, v1, v2]) rfl ((cPx x0 x1 x2 ho0 ho1 (int_rng ho2)).ge (.cons (ale_of_des hx0) (.cons (ale_d hx1) (.cons (.refl _) .nil))) (.refl _)) ⟨rfl, fun i x v hx hv => by
    match i, hx, hv with
    | 0, hx, hv => simp at hx hv; subst hx hv; exact hr0
    | 1, hx, hv => simp at hx hv; subst hx hv; exact hr1
    | 2, hx, hv => simp at hx hv; subst hx hv; exact hr2
    | i + 3, hx, hv => simp at hx⟩
  refine hcalls.mono fun e W' ⟨he, bel⟩ => ?_
  subst he
  exact ⟨_, rfl, _, _, _, [], _, [], hW', trodAll_mk1 (shut_bool Tryz.underlying4 _), trodAll_stays laidOut bel (by
    intro t ht
    have : t = 27 ∨ t = 35 ∨ t = 3 := by simpa using ht
    rcases this with rfl | rfl | rfl <;> exact ⟨by kernel_rfl, of_decide_eq_true (by kernel_rfl)⟩) hA1, rfl, bel.frame _, fun h => by cases h⟩

theorem proved : Rows.SettingsPrefixesSaid :=
  OpenClaim.holds_of_wide 4 Tryz.f4 rfl rfl rfl rfl rfl rfl rfl ⟨rfl, rfl, rfl, rfl, rfl⟩ rfl rfl rfl rfl rfl (by kernel_rfl) Tryz.func4 (by kernel_rfl)
    (of_decide_eq_true (by kernel_rfl)) (by unfold Func.isWrapper; first | (rw [if_pos (by decide +kernel)]; kernel_rfl) | (rw [if_neg (by decide +kernel)]; exact ⟨rfl, rfl⟩))
    (fun os started H enc _ => lifted os started H enc)
end Go.Proofs.YtngoglhlhlfknaaGreat.prefixes
