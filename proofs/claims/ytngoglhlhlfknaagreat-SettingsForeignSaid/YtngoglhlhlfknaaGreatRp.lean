/-
  Check of settings, the reference: its contract; it is the program's. No condition.
-/
import Derived.Test.YtngoglhlhlfknaaGreatRi
import Derived.Test.YtngoglhlhlfknaaGreatRm
import Derived.Test.YtngoglhlhlfknaaGreatRn
import Derived.Test.YtngoglhlhlfknaaGreatRo
import Derived.Test.YtngoglhlhlfknaaGreatNn
namespace Go.Proofs.YtngoglhlhlfknaaGreat.se
open Go.RowKit Go.Eb Go.Proofs.YtngoglhlhlfknaaGreat.st
set_option maxRecDepth 100000

/-! pure parts -/
theorem cEm (a : Bool × Int × Int × Int) : CX Tryz.prog 132 [.agg [.d (dB a.1), .d (dI a.2.1), .d (dI a.2.2.1)], vI a.2.2.2] [] (vB (elOk a.1 a.2.1 a.2.2.1 a.2.2.2)) [] := by
  have hs : OrcS Tryz.prog oB3 := .cons (.p dec3_ok cBt) .nil
  refine cx_of hs.ok Tryz.func132 (by kernel_rfl) rfl ((evEm a.1 a.2.1 a.2.2.1 a.2.2.2).trans ?_)
  unfold evEm_v elOk
  cases a.1 <;> cases (a.2.1 == 0) <;> cases (a.2.2.1 == 0) <;> cases within a.2.1 1 16383 <;> rfl
theorem sB3 : OrcS Tryz.prog oB3 := .cons (.p dec3_ok cBt) .nil
theorem c88 (r : SRel) : CX Tryz.prog 88 [aRel r] [] (vB (!usedOk r)) [] := by
  have := cx_of sB3.ok Tryz.func88 (by kernel_rfl) rfl (ev88 r)
  rw [foreign_eq] at this
  exact this
theorem c130 (r : SRel) : CX Tryz.prog 130 [aRel r] [] (vB (ev79_v r)) [] := by
  have := cx_of sB3.ok Tryz.func130 (by kernel_rfl) rfl (ev130 r)
  rw [zones_eq] at this
  exact this
theorem c90 (r : SRel) : CX Tryz.prog 90 [aRel r] [] (vB (!ev83_v r)) [] := by
  have := cx_of sB3.ok Tryz.func90 (by kernel_rfl) rfl (ev90 r)
  rw [missing_eq] at this
  exact this
theorem c89 (r : SRel) : CX Tryz.prog 89 [aRel r] [] (vB (ev79_v r && (ev80_v r && (ev81_v r && ev82_v r)))) [] := by
  have hs : OrcS Tryz.prog (oNu (okG eR fun _ => true) fun x => ev79_v (theT eR x)) := .cons (.t' (r := fun a => vB (ev79_v a)) fun a _ => c130 a) (.cons (.p decE_ok cEm) sB3)
  have k := okG_enc eR_inj (c := fun _ => true) r rfl
  have t := theT_enc eR_inj r
  have := cx_of hs.ok Tryz.func89 b89 rfl (g1 _ _ r k)
  have e : ev79_v (theT eR [aRel r]) = ev79_v r := congrArg ev79_v t
  rw [e, nums_eq] at this
  exact this

/-! one -/
abbrev ePl := en3 aSta (aD relsD) aRel
theorem relsD_inj (a b : List SRel) (h : DE (relsD a) (relsD b)) : a = b := listD_inj relC_inj a b h
theorem ePl_inj : InjT ePl := en3_inj aSta_inj (aD_inj relsD_inj) aRel_inj
def cPl (a : SSta × List SRel × SRel) : Bool := lenOk a.1.bays && lenOk a.2.1
def cOu (r : SRel) : Bool := countsOk r && okRel r
def cSz (s : SSta) : Bool := decide (s.buses.length ≤ 900) && (decide (s.lines.length ≤ 900) && (decide (s.srcs.length ≤ 900) && decide (s.bays.length ≤ 900)))
noncomputable def ZOn : KOn where
  okn := okG eSt cSz
  nm x := namesS (theT eSt x)
  oki := ok2
  ix := ix2
  okp := okG ePl cPl
  pl x := placeErr (theT ePl x).1.bays ((theT ePl x).2.1.map SRel.bay) (theT ePl x).2.2
  okr := okG eR okRel
  fo x := !usedOk (theT eR x)
  nu x := ev79_v (theT eR x) && (ev80_v (theT eR x) && (ev81_v (theT eR x) && ev82_v (theT eR x)))
  mi x := !ev83_v (theT eR x)
  ma x := !countsOk (theT eR x)
  oku := okG eR cOu
  ru x := eRules (theT eR x).rules
  li x := refLists (theT eR x)
theorem countsOk_le {r : SRel} (h : countsOk r = true) : r.rules.length ≤ 16 ∧ r.sets.length ≤ 4 ∧ r.pubs.length ≤ 4 ∧ r.subs.length ≤ 24 := by
  unfold countsOk at h
  simp only [Bool.and_eq_true, decide_eq_true_eq] at h
  exact ⟨h.1, h.2.1, h.2.2.1, h.2.2.2.1⟩
theorem sOn : OrcS Tryz.prog (oOn ZOn nameOk) := by
  refine .cons (.p decS_ok c16) (.cons (.t' (r := fun a => .c (.d (busesD (namesS a)))) fun a h => ?_) (.cons (.lt (r := fun (a : List ByteArray × ByteArray) => vI (idxF a.2 0 a.1)) Tryz.func44 bIx (fun _ => rfl) fun a h => c46 a.1 a.2 (lenOk_le h))
    (.cons (.t' (r := fun (a : SSta × List SRel × SRel) => vI (placeErr a.1.bays (a.2.1.map SRel.bay) a.2.2)) fun a h => ?_) (.cons (.t' (r := fun a => vB (!usedOk a)) fun a _ => c88 a) (.cons (.t' (r := fun a => vB (ev79_v a && (ev80_v a && (ev81_v a && ev82_v a)))) fun a _ => c89 a)
    (.cons (.t' (r := fun a => vB (!ev83_v a)) fun a _ => c90 a) (.cons (.t' (r := fun a => vB (!countsOk a)) fun a h => c91 a h) (.cons (.t' (r := fun (a : SRel) => vI (eRules a.rules)) fun a h => ?_) (.cons (.t' (r := fun a => vI (refLists a)) fun a h => ?_) .nil)))))))))
  · unfold cSz at h
    simp only [Bool.and_eq_true, decide_eq_true_eq] at h
    exact cNm a h.1 h.2.1 h.2.2.1 h.2.2.2
  · unfold cPl at h
    simp only [Bool.and_eq_true] at h
    exact c87 a.1 a.2.1 a.2.2 (lenOk_le h.1) h.2
  · unfold cOu at h
    simp only [Bool.and_eq_true] at h
    have := countsOk_le h.1
    exact c92 a (by omega)
  · unfold cOu at h
    simp only [Bool.and_eq_true] at h
    have := countsOk_le h.1
    exact c93 a (by omega) (by omega) (by omega) (okRel_len h.2).2.2.2.2
theorem inB_app (a b : List ByteArray) (s : ByteArray) : inB (a ++ b) s = (inB a s || inB b s) := by unfold inB; rw [List.any_append]
theorem cOn (s : SSta) (b : List SRel) (r : SRel) (hs : cSz s = true) (hb : lenOk b = true) (hr : okRel r = true) :
    CX Tryz.prog 34 [aSta s, .c (.d (relsD b)), aRel r] [] (vI (addErr s.bays (namesS s ++ b.map SRel.name) (b.map SRel.bay) r)) [] := by
  obtain ⟨g, hg⟩ : ∃ g, b.length < g := ⟨b.length + 1, by omega⟩
  have hs' := hs
  unfold cSz at hs'
  simp only [Bool.and_eq_true, decide_eq_true_eq] at hs'
  refine cx_of sOn.ok Tryz.func34 bon7 rfl ((evon7 ZOn nameOk s b r g).trans ?_)
  have k1 : ZOn.okn [aSta s] = true := okG_enc eSt_inj (c := cSz) s hs
  have k2 : ZOn.nm [aSta s] = namesS s := congrArg namesS (theT_enc eSt_inj s)
  have hN : (namesS s).length ≤ 9000 := by unfold namesS; simp; omega
  have k3 : ZOn.oki [.c (.d (busesD (namesS s))), vS r.name] = true := okG_enc eIx_inj (c := cIx) (namesS s, r.name) (by unfold cIx lenOk; rw [decide_eq_true (by simp only; omega)])
  have k4 : ZOn.ix [.c (.d (busesD (namesS s))), vS r.name] = idxF r.name 0 (namesS s) := by
    show idxF (theT eIx _).2 0 (theT eIx _).1 = _
    have t : theT eIx [.c (.d (busesD (namesS s))), vS r.name] = (namesS s, r.name) := theT_enc eIx_inj (namesS s, r.name)
    rw [t]
  have k5 : ZOn.okp [aSta s, .c (.d (relsD b)), aRel r] = true := okG_enc ePl_inj (c := cPl) (s, b, r) (by unfold cPl; rw [hb]; unfold lenOk; rw [decide_eq_true (by simp only; omega)]; rfl)
  have t5 : theT ePl [aSta s, .c (.d (relsD b)), aRel r] = (s, b, r) := theT_enc ePl_inj (s, b, r)
  have k6 : ZOn.pl [aSta s, .c (.d (relsD b)), aRel r] = placeErr s.bays (b.map SRel.bay) r := by dsimp only [ZOn]; rw [t5]
  have k7 : ZOn.okr [aRel r] = true := okG_enc eR_inj (c := okRel) r hr
  have t := theT_enc eR_inj r
  have k8 : ZOn.fo [aRel r] = !usedOk r := congrArg (fun a => !usedOk a) t
  have k9 : ZOn.nu [aRel r] = (ev79_v r && (ev80_v r && (ev81_v r && ev82_v r))) := congrArg (fun a => ev79_v a && (ev80_v a && (ev81_v a && ev82_v a))) t
  have k10 : ZOn.mi [aRel r] = !ev83_v r := congrArg (fun a => !ev83_v a) t
  have k11 : ZOn.ma [aRel r] = !countsOk r := congrArg (fun a => !countsOk a) t
  have k12 : countsOk r = true → ZOn.oku [aRel r] = true := fun h => okG_enc eR_inj (c := cOu) r (by unfold cOu; rw [h, hr]; rfl)
  have k13 : ZOn.ru [aRel r] = eRules r.rules := congrArg (fun a : SRel => eRules a.rules) t
  have k14 : ZOn.li [aRel r] = refLists r := congrArg refLists t
  have fin : Lon7_6 ZOn nameOk s b r g g 0 = bif b.any (fun x => x.name.toList == r.name.toList) then lN 8 else lN (bif placeErr s.bays (b.map SRel.bay) r != 0 then placeErr s.bays (b.map SRel.bay) r else restErr r) := by
    have l1 := anyL_loop (p := fun x : SRel => x.name.toList == r.name.toList) (l := b) (d0 := rel0) (L := fun m i => Lon7_6 ZOn nameOk s b r g m i) (A := lN 8) (B := lN (bif placeErr s.bays (b.map SRel.bay) r != 0 then placeErr s.bays (b.map SRel.bay) r else restErr r)) (fun m k hk => by
      rw [ston7_6, lt1 hk, ge0, tn, nx hk (lenOk_le hb)]; rfl) (fun m => by
      rw [ston7_6, lt0 (Nat.lt_irrefl _), k5, k6, k7, k8, k9, k10, k11, k13, k14]
      unfold restErr
      rw [used_eq]
      cases hp : (placeErr s.bays (b.map SRel.bay) r != 0) with
      | true => rfl
      | false =>
        cases usedOk r with
        | false => rfl
        | true =>
          cases ev79_v r with
          | false => rfl
          | true =>
            cases ev80_v r with
            | false => rfl
            | true =>
              cases ev81_v r with
              | false => rfl
              | true =>
                cases ev82_v r with
                | false => rfl
                | true =>
                  cases ev83_v r with
                  | false => rfl
                  | true =>
                    cases hc : countsOk r with
                    | false => rfl
                    | true =>
                      rw [k12 hc]
                      unfold eLists refLists
                      cases (eRules r.rules != 0) <;> rfl) g 0 (by omega) (by omega)
    have e1 : Lon7_6 ZOn nameOk s b r g g 0 = _ := l1
    rw [e1]
    simp only [List.drop_zero]
  rw [k1, k2, k3, k4, fin, idxF_ge]
  unfold addErr
  rw [inB_app]
  have hb2 : inB (b.map SRel.name) r.name = b.any (fun x => x.name.toList == r.name.toList) := by
    unfold inB
    rw [List.any_map]
    congr 1
    funext x
    rw [strEq']
    rfl
  rw [hb2]
  cases nameOk r.name <;> cases inB (namesS s) r.name <;> cases b.any (fun x => x.name.toList == r.name.toList) <;> rfl

/-! Check -/
theorem ref_chk (s : SSta) : ∀ (l : List SRel) (i : Nat), i ≤ l.length → chkRels s.bays (namesS s ++ (l.take i).map SRel.name) ((l.take i).map SRel.bay) i (l.drop i) =
    if h : i < l.length then (bif addErr s.bays (namesS s ++ (l.take i).map SRel.name) ((l.take i).map SRel.bay) (l.getD i rel0) != 0 then ((i : Int), addErr s.bays (namesS s ++ (l.take i).map SRel.name) ((l.take i).map SRel.bay) (l.getD i rel0))
      else chkRels s.bays (namesS s ++ (l.take (i + 1)).map SRel.name) ((l.take (i + 1)).map SRel.bay) (i + 1) (l.drop (i + 1))) else (0, 0) := fun l i hi => by
  by_cases h : i < l.length
  · rw [dif_pos h, drop_at' (d := rel0) h]
    simp only [chkRels]
    have e : l.take (i + 1) = l.take i ++ [l.getD i rel0] := by
      rw [List.take_succ_eq_append_getElem h]
      simp [List.getD, h]
    rw [e]
    simp only [List.map_append, List.map_cons, List.map_nil, List.append_assoc]
  · rw [dif_neg h, List.drop_of_length_le (by omega)]
    rfl
abbrev tk (l : List SRel) (i : Int) : D := .sl 53 (i.toNat - ((0 : Nat) : Int).toNat) fun j => relC (l.getD (((0 : Nat) : Int).toNat + j) rel0)
theorem tk_take (l : List SRel) (k : Nat) (hk : k ≤ l.length) : DE (tk l k) (relsD (l.take k)) ∧ DE (relsD (l.take k)) (tk l k) := by
  have e : (k : Int).toNat - ((0 : Nat) : Int).toNat = (l.take k).length := by simp; omega
  have f : ∀ i, i < (l.take k).length → relC (l.getD (((0 : Nat) : Int).toNat + i) rel0) = relC ((l.take k).getD i rel0) := fun i hi => by
    have hi' : i < k := by simp at hi; omega
    have e0 : ((0 : Nat) : Int).toNat + i = i := by simp
    rw [e0]
    congr 1
    simp only [List.getD_eq_getElem?_getD, List.getElem?_take, hi', if_true]
  unfold tk
  rw [e]
  exact ⟨.sl_eq f, .sl_eq fun i hi => (f i hi).symm⟩
def cOe (a : SSta × List SRel × SRel) : Bool := cSz a.1 && (lenOk a.2.1 && okRel a.2.2)
theorem cCk (s : SSta) (l : List SRel) (hs : cSz s = true) (hl : lenOk l = true) (ha : l.all okRel = true) : CX Tryz.prog 15 [aSta s, .c (.d (relsD l))] [] (vP (chkRels s.bays (namesS s) [] 0 l)) [] := by
  have hS : OrcS Tryz.prog (oCk (okG ePl cOe) fun x => addErr (theT ePl x).1.bays (namesS (theT ePl x).1 ++ (theT ePl x).2.1.map SRel.name) ((theT ePl x).2.1.map SRel.bay) (theT ePl x).2.2) :=
    .cons (.t' (r := fun (a : SSta × List SRel × SRel) => vI (addErr a.1.bays (namesS a.1 ++ a.2.1.map SRel.name) (a.2.1.map SRel.bay) a.2.2)) fun a h => by
      unfold cOe at h
      simp only [Bool.and_eq_true] at h
      exact cOn a.1 a.2.1 a.2.2 h.1 h.2.1 h.2.2) .nil
  obtain ⟨g, hg⟩ : ∃ g, l.length < g := ⟨l.length + 1, by omega⟩
  refine cx_of hS.ok Tryz.func15 bck7 rfl ((evck7 _ _ s l g).trans ?_)
  have hl' := lenOk_le hl
  have lp : ∀ (m k : Nat), k ≤ l.length → l.length - k < m → Lck7_2 (okG ePl cOe) (fun x => addErr (theT ePl x).1.bays (namesS (theT ePl x).1 ++ (theT ePl x).2.1.map SRel.name) ((theT ePl x).2.1.map SRel.bay) (theT ePl x).2.2) s l g m k =
      some (.leaf (vP (chkRels s.bays (namesS s ++ (l.take k).map SRel.name) ((l.take k).map SRel.bay) k (l.drop k)), [])) := by
    intro m
    induction m with
    | zero => intro k _ h; omega
    | succ m ih =>
      intro k hk h
      rw [stck7_2, ref_chk s l k hk]
      by_cases hlt : k < l.length
      · rw [dif_pos hlt, lt1 hlt, ge0 k, tn, nx hlt hl', ih (k + 1) (by omega) (by omega)]
        have b1 : decide (((0 : Nat) : Int) ≤ (k : Int)) = true := decide_eq_true (by omega)
        have b2 : decide ((k : Int) ≤ (l.length : Int)) = true := decide_eq_true (by omega)
        have b3 : decide ((0 : Int) ≤ ((0 : Nat) : Int)) = true := rfl
        rw [b1, b2, b3]
        obtain ⟨d1, d2⟩ := tk_take l k hk
        have hr : okRel (l.getD k rel0) = true := all_getD ha rfl k
        have a1 : Asle [aSta s, .c (.d (tk l k)), aRel (l.getD k rel0)] (ePl (s, l.take k, l.getD k rel0)) := .cons (.refl _) (.cons d1 (.cons (.refl _) .nil))
        have a2 : Asle (ePl (s, l.take k, l.getD k rel0)) [aSta s, .c (.d (tk l k)), aRel (l.getD k rel0)] := .cons (.refl _) (.cons d2 (.cons (.refl _) .nil))
        have q1 : okG ePl cOe [aSta s, .c (.d (tk l k)), aRel (l.getD k rel0)] = true := okG_of ePl_inj a1 a2 (by
          unfold cOe lenOk
          rw [hs, hr, decide_eq_true (by simp; omega)]; rfl)
        have q2 : theT ePl [aSta s, .c (.d (tk l k)), aRel (l.getD k rel0)] = (s, l.take k, l.getD k rel0) := theT_of ePl_inj a1 a2
        unfold tk at q1 q2
        rw [tn] at q1 q2
        rw [q1, q2]
        simp only [tt, cond_true]
        generalize addErr s.bays (namesS s ++ (l.take k).map SRel.name) ((l.take k).map SRel.bay) (l.getD k rel0) = e
        cases (e != 0) <;> rfl
      · rw [dif_neg hlt, lt0 hlt]
        rfl
  have e := lp g 0 (by omega) (by omega)
  simp only [List.take_zero, List.map_nil, List.append_nil, List.drop_zero] at e
  exact e
end Go.Proofs.YtngoglhlhlfknaaGreat.se
