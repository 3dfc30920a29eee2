/-
  Check of settings: all lists of a relay, their counts, the pure parts: contracts. No condition.
-/
import Derived.Test.YtngoglhlhlfknaaGreatRd
import Derived.Test.YtngoglhlhlfknaaGreatRa
namespace Go.Proofs.YtngoglhlhlfknaaGreat.se
open Go.RowKit Go.Eb Go.Proofs.YtngoglhlhlfknaaGreat.st
set_option maxRecDepth 100000

theorem sWi : OrcS Tryz.prog oWi := .cons (.inl .nil Tryz.func108 (by kernel_rfl)) .nil
theorem cWi (a : Int × Int × Int) : CX Tryz.prog 108 [vI a.1, vI a.2.1, vI a.2.2] [] (vB (within a.1 a.2.1 a.2.2)) [] := by
  refine cx_of (Orc.nil_ok _) Tryz.func108 (by kernel_rfl) rfl ((evWi a.1 a.2.1 a.2.2).trans ?_)
  unfold evWi_v within
  cases decide (a.1 ≥ a.2.1) <;> rfl
theorem sW3 : OrcS Tryz.prog oW3 := .cons (.p dec3_ok cWi) .nil
theorem cEl (a : Bool × Int × Int × Int) : CX Tryz.prog 110 [.agg [.d (dB a.1), .d (dI a.2.1), .d (dI a.2.2.1)], vI a.2.2.2] [] (vB (elOk a.1 a.2.1 a.2.2.1 a.2.2.2)) [] := by
  refine cx_of sW3.ok Tryz.func110 (by kernel_rfl) rfl ((evEl a.1 a.2.1 a.2.2.1 a.2.2.2).trans ?_)
  unfold evEl_v elOk
  cases a.1 <;> cases (a.2.1 == 0) <;> cases (a.2.2.1 == 0) <;> cases within a.2.1 1 16383 <;> rfl
theorem sE3 : OrcS Tryz.prog oE3 := .cons (.p decE_ok cEl) sW3
theorem sZo : OrcS Tryz.prog oZo := .cons (.inl sW3 Tryz.func111 (by kernel_rfl)) sW3
theorem c78 (r : SRel) : CX Tryz.prog 78 [aRel r] [] (vB (ev78_v r)) [] := cx_of sW3.ok Tryz.func78 (by kernel_rfl) rfl (ev78 r)
theorem c79 (r : SRel) : CX Tryz.prog 79 [aRel r] [] (vB (ev79_v r)) [] := cx_of sW3.ok Tryz.func79 (by kernel_rfl) rfl (ev79 r)
theorem c80 (r : SRel) : CX Tryz.prog 80 [aRel r] [] (vB (ev80_v r)) [] := cx_of sW3.ok Tryz.func80 (by kernel_rfl) rfl (ev80 r)
theorem c81 (r : SRel) : CX Tryz.prog 81 [aRel r] [] (vB (ev81_v r)) [] := cx_of sE3.ok Tryz.func81 (by kernel_rfl) rfl (ev81 r)
theorem c82 (r : SRel) : CX Tryz.prog 82 [aRel r] [] (vB (ev82_v r)) [] := cx_of sW3.ok Tryz.func82 (by kernel_rfl) rfl (ev82 r)
theorem c83 (r : SRel) : CX Tryz.prog 83 [aRel r] [] (vB (ev83_v r)) [] := cx_of sZo.ok Tryz.func83 (by kernel_rfl) rfl (ev83 r)

/-! lists -/
def enRu (l : List SRule) : List AV := [.agg [.d (dF 114), .d (dF 116), .d (dF 117)], .c (.d (rulesD l))]
def enSe (l : List SSet) : List AV := [.agg [.d (dF 118), .d (dF 120), .d dNF], .c (.d (setsD l))]
def enPu (l : List SPub) : List AV := [.agg [.d (dF 121), .d (dF 122), .d (dF 123)], .c (.d (pubsD l))]
def enSu (l : List SSub) : List AV := [.agg [.d (dF 124), .d (dF 125), .d dNF], .c (.d (subsD l))]
theorem enRu_inj : InjT enRu := fun a b h => listD_inj ruleC_inj _ _ (ale_c (asle_cons (asle_cons h).2).1)
theorem enSe_inj : InjT enSe := fun a b h => listD_inj setC_inj _ _ (ale_c (asle_cons (asle_cons h).2).1)
theorem enPu_inj : InjT enPu := fun a b h => listD_inj pubC_inj _ _ (ale_c (asle_cons (asle_cons h).2).1)
theorem enSu_inj : InjT enSu := fun a b h => listD_inj subC_inj _ _ (ale_c (asle_cons (asle_cons h).2).1)
noncomputable def eRules (l : List SRule) : Int := listErr ruleOk SRule.name (fun x => textErr x.text) [] l
def eSets (l : List SSet) : Int := listErr setOk SSet.name rest0 [] l
noncomputable def ePubs (l : List SPub) : Int := listErr pubOk SPub.set ev123_v [] l
def eSubs (l : List SSub) : Int := listErr subOk SSub.loc rest0 [] l
def cSe (l : List SSet) : Bool := lenOk l && l.all okSet
noncomputable def eLists (r : SRel) : Int := bif eRules r.rules != 0 then eRules r.rules else bif eSets r.sets != 0 then eSets r.sets else bif ePubs r.pubs != 0 then ePubs r.pubs else eSubs r.subs
theorem s85 : OrcS Tryz.prog (o85 (okG enRu lenOk) (okG enSe cSe) (okG enPu lenOk) (okG enSu lenOk) (fun x => eRules (theT enRu x)) (fun x => eSets (theT enSe x)) (fun x => ePubs (theT enPu x)) fun x => eSubs (theT enSu x)) := by
  refine .cons (.t' (r := fun a => vI (eRules a)) fun a h => c126 a h) (.cons (.t' (r := fun a => vI (eSets a)) fun a h => ?_) (.cons (.t' (r := fun a => vI (ePubs a)) fun a h => c128 a h) (.cons (.t' (r := fun a => vI (eSubs a)) fun a h => c129 a h) .nil)))
  unfold cSe at h
  simp only [Bool.and_eq_true] at h
  exact c127 a h.1 h.2
theorem c85 (r : SRel) (hr : okRel r = true) : CX Tryz.prog 85 [aRel r] [] (vI (eLists r)) [] := by
  refine cx_of s85.ok Tryz.func85 b85 rfl ((ev85 _ _ _ _ _ _ _ _ r 1).trans ?_)
  unfold okRel at hr
  simp only [Bool.and_eq_true] at hr
  obtain ⟨h1, h2, h3, h4, h5⟩ := hr
  have k1 := okG_enc enRu_inj (c := lenOk) r.rules h1
  have k2 := okG_enc enSe_inj (c := cSe) r.sets (by unfold cSe; rw [h2, h5]; rfl)
  have k3 := okG_enc enPu_inj (c := lenOk) r.pubs h3
  have k4 := okG_enc enSu_inj (c := lenOk) r.subs h4
  have t1 := theT_enc enRu_inj r.rules
  have t2 := theT_enc enSe_inj r.sets
  have t3 := theT_enc enPu_inj r.pubs
  have t4 := theT_enc enSu_inj r.subs
  unfold enRu at k1 t1
  unfold enSe at k2 t2
  unfold enPu at k3 t3
  unfold enSu at k4 t4
  unfold enRu enSe enPu enSu
  rw [k1, t1, k2, t2, k3, t3, k4, t4]
  unfold eLists
  simp only [cond_true]
  cases (eRules r.rules != 0) <;> cases (eSets r.sets != 0) <;> cases (ePubs r.pubs != 0) <;> rfl

/-! counts -/
def setBad (x : SSet) : Bool := !(decide (1 ≤ x.sigs.length) && decide (x.sigs.length ≤ 24))
theorem s113 : OrcS Tryz.prog o113 := .cons (.inl sWi Tryz.func112 (by kernel_rfl)) .nil
theorem c141 (l : List SSet) (hl : lenOk l = true) : CX Tryz.prog 141 [.c (.d (setsD l)), .c (.d (dF 112))] [] (vI (idxP setBad 0 l)) [] := by
  obtain ⟨g, hg⟩ : ∃ g, l.length < g := ⟨l.length + 1, by omega⟩
  refine cx_of s113.ok Tryz.func141 b141 rfl ((ev141 l g).trans ?_)
  have := idx_loop (p := setBad) (l := l) (d0 := set0) (L := fun m i => L141_2 l g m i) (fun m k hk => by
    have e1 : ∀ n : Nat, decide ((n : Int) ≥ 1) = decide (1 ≤ n) := fun n => by rw [Bool.eq_iff_iff, decide_eq_true_eq, decide_eq_true_eq]; omega
    have e2 : ∀ n : Nat, decide ((n : Int) ≤ 24) = decide (n ≤ 24) := fun n => by rw [Bool.eq_iff_iff, decide_eq_true_eq, decide_eq_true_eq]; omega
    rw [st141_2, lt1 hk, ge0, tn, nx hk (lenOk_le hl), e1, e2]
    unfold setBad
    simp only [tt, cond_true]
    cases decide (1 ≤ (l.getD k set0).sigs.length) <;> cases decide ((l.getD k set0).sigs.length ≤ 24) <;> rfl) (fun m => by rw [st141_2, lt0 (Nat.lt_irrefl _)]; rfl) g 0 (by omega) (by omega)
  exact this
abbrev eCt := en2 (aD setsD) (eFn 112)
theorem eCt_inj : InjT eCt := en2_inj (aD_inj (listD_inj (sz := 2) (d0 := set0) setC_inj)) (eFn_inj _)
def countsOk (r : SRel) : Bool := decide (r.rules.length ≤ 16) && (decide (r.sets.length ≤ 4) && (decide (r.pubs.length ≤ 4) && (decide (r.subs.length ≤ 24) && !r.sets.any setBad)))
theorem c84 (r : SRel) (hr : okRel r = true) : CX Tryz.prog 84 [aRel r] [] (vB (countsOk r)) [] := by
  have hs : OrcS Tryz.prog (o84 (okG eCt cLen) fun x => idxP setBad 0 (theT eCt x).1) := .cons (.inl (.cons (.t' (r := fun (a : List SSet × Unit) => vI (idxP setBad 0 a.1)) fun a h => c141 a.1 h) .nil) Tryz.func113 (by kernel_rfl)) .nil
  refine cx_of hs.ok Tryz.func84 b84 rfl ((ev84 _ _ r 1).trans ?_)
  unfold okRel at hr
  simp only [Bool.and_eq_true] at hr
  have k := okG_enc eCt_inj (c := cLen) (r.sets, ()) hr.2.1
  have t := theT_enc eCt_inj (r.sets, ())
  simp only [en2, aD, eFn] at k t
  rw [k, t, idxP_ge]
  have e1 : ∀ n : Nat, decide ((n : Int) ≤ 16) = decide (n ≤ 16) := fun n => by rw [Bool.eq_iff_iff, decide_eq_true_eq, decide_eq_true_eq]; omega
  have e2 : ∀ n : Nat, decide ((n : Int) ≤ 4) = decide (n ≤ 4) := fun n => by rw [Bool.eq_iff_iff, decide_eq_true_eq, decide_eq_true_eq]; omega
  have e3 : ∀ n : Nat, decide ((n : Int) ≤ 24) = decide (n ≤ 24) := fun n => by rw [Bool.eq_iff_iff, decide_eq_true_eq, decide_eq_true_eq]; omega
  unfold countsOk
  simp only [e1, e2, e3]
  cases decide (r.rules.length ≤ 16) <;> cases decide (r.sets.length ≤ 4) <;> cases decide (r.pubs.length ≤ 4) <;> cases decide (r.subs.length ≤ 24) <;> rfl
end Go.Proofs.YtngoglhlhlfknaaGreat.se
