/-
  Check of settings: lists: contracts. No condition.
-/
import Derived.Test.YtngoglhlhlfknaaGreatZRk
import Derived.Test.YtngoglhlhlfknaaGreatRc
namespace Go.Proofs.YtngoglhlhlfknaaGreat.se
open Go.RowKit Go.Eb Go.Proofs.YtngoglhlhlfknaaGreat.st
set_option maxRecDepth 100000

theorem sN {r : Orc} (h : OrcS Tryz.prog r) : OrcS Tryz.prog (oN nameOk r) := .cons (.p decS_ok c15) h
theorem sW : OrcS Tryz.prog (Orc.cons 108 (inl Tryz.prog Orc.nil na 1 Tryz.f108) Orc.nil) := .cons (.inl .nil Tryz.func108 (by kernel_rfl)) .nil
def eFn (f : FuncId) : Unit → AV := fun _ => .c (.d (dF f))
theorem eFn_inj (f : FuncId) : InjA (eFn f) := fun _ _ _ => rfl
abbrev eBus := aD busesD
theorem eBus_inj : InjA eBus := aD_inj (listD_inj (sz := 1) (d0 := e0) busC_inj)
theorem aRule_inj : InjA aRule := aG_inj ruleC_inj
theorem aSet_inj : InjA aSet := aG_inj setC_inj
theorem aPub_inj : InjA aPub := aG_inj pubC_inj
theorem aSub_inj : InjA aSub := aG_inj subC_inj

/-! words -/
theorem c115 (s : ByteArray) : CX Tryz.prog 115 [vS s] [] (vB (ev115_v s)) [] := cx_of (Orc.nil_ok _) Tryz.func115 (by kernel_rfl) rfl (ev115 s)
theorem c123 (x : SPub) : CX Tryz.prog 123 [aPub x] [] (vI (ev123_v x)) [] := cx_of sW.ok Tryz.func123 (by kernel_rfl) rfl (ev123 x)
theorem lp117 (x : SRule) (g : Nat) (hs : x.text.size ≤ 120) : ∀ (m k : Nat), k ≤ x.text.size → x.text.size - k < m → L117_4 x g m k = lN (bif (x.text.data.toList.drop k).any badByte then 5 else 0)
  | 0, k, _, h => by omega
  | m + 1, k, hk, h => by
    rw [st117_4]
    by_cases hlt : k < x.text.size
    · have hl : k < x.text.data.toList.length := by simpa using hlt
      have ih := lp117 x g hs m (k + 1) (by omega) (by omega)
      rw [drop_at' (d := 0) hl]
      rw [lt1 hlt, ge0, tn, nx hlt (by omega), ih]
      simp only [tt, cond_true, List.any_cons, badByte]
      generalize decide (((x.text.data.toList.getD k 0).toNat : Int) < 32) = a1
      generalize decide (((x.text.data.toList.getD k 0).toNat : Int) > 126) = a2
      generalize (((x.text.data.toList.getD k 0).toNat : Int) == 34) = a3
      cases a1 <;> cases a2 <;> cases a3 <;> rfl
    · rw [lt0 hlt, List.drop_of_length_le (by simp; omega)]
      rfl
theorem c117 (x : SRule) : CX Tryz.prog 117 [aRule x] [] (vI (textErr x.text)) [] := by
  obtain ⟨g, hg⟩ : ∃ g, x.text.size < g := ⟨x.text.size + 1, by omega⟩
  refine cx_of (Orc.nil_ok _) Tryz.func117 b117 rfl ((ev117 x g).trans ?_)
  have e : decide ((x.text.size : Int) > 120) = decide (120 < x.text.size) := by
    rw [Bool.eq_iff_iff, decide_eq_true_eq, decide_eq_true_eq]; omega
  unfold textErr
  rw [e]
  cases h1 : decide (120 < x.text.size) with
  | true => rfl
  | false =>
    have hs : x.text.size ≤ 120 := by simp at h1; omega
    have := lp117 x g hs g 0 (by omega) (by omega)
    simp only [cond_false]
    exact this

/-! names -/
theorem s147 : OrcS Tryz.prog (o147 nameOk) := .cons (.inl (sN .nil) Tryz.func143 (by kernel_rfl)) .nil
theorem c147 (l : List ByteArray) (hl : l.length ≤ 9223372036854775807) : CX Tryz.prog 147 [.c (.d (busesD l)), .c (.d (dF 143))] [] (vI (idxP (fun s => !nameOk s) 0 l)) [] := by
  obtain ⟨g, hg⟩ : ∃ g, l.length < g := ⟨l.length + 1, by omega⟩
  refine cx_of s147.ok Tryz.func147 b147 rfl ((ev147 nameOk l g).trans ?_)
  have := idx_loop (p := fun s => !nameOk s) (l := l) (d0 := e0) (L := fun m i => L147_2 nameOk l g m i) (fun m k hk => by
    rw [st147_2, lt1 hk, ge0, tn, nx hk hl]
    simp only [tt, cond_true]) (fun m => by rw [st147_2, lt0 (Nat.lt_irrefl _)]; rfl) g 0 (by omega) (by omega)
  exact this
abbrev eNm := en2 eBus (eFn 143)
theorem eNm_inj : InjT eNm := en2_inj eBus_inj (eFn_inj _)
def cLen {α β : Type} (a : List α × β) : Bool := lenOk a.1
theorem s142 : OrcS Tryz.prog (o142 (okG eNm cLen) fun x => idxP (fun s => !nameOk s) 0 (theT eNm x).1) :=
  .cons (.inl (.cons (.t' (r := fun (a : List ByteArray × Unit) => vI (idxP (fun s => !nameOk s) 0 a.1)) fun a h => c147 a.1 (lenOk_le h)) .nil) Tryz.func142 (by kernel_rfl)) .nil
theorem anyAll (l : List ByteArray) : (!l.any fun s => !nameOk s) = l.all nameOk := by
  induction l with
  | nil => rfl
  | cons x r ih => simp only [List.any_cons, List.all_cons, Bool.not_or, ih, Bool.not_not]
theorem c119 (l : List ByteArray) (hl : lenOk l = true) : CX Tryz.prog 119 [.c (.d (busesD l))] [] (vB (l.all nameOk)) [] := by
  refine cx_of s142.ok Tryz.func119 b119 rfl ((ev119 _ _ l 1).trans ?_)
  have k := okG_enc eNm_inj (c := cLen) (l, ()) hl
  have t := theT_enc eNm_inj (l, ())
  simp only [en2, aD, eFn] at k t
  rw [k, t, idxP_ge, anyAll]
  rfl

/-! validity -/
noncomputable def ruleOk (x : SRule) : Bool := nameOk x.name && !ev115_v x.name
def setOk (x : SSet) : Bool := nameOk x.name && x.sigs.all nameOk
def pubOk (x : SPub) : Bool := nameOk x.set
def subOk (x : SSub) : Bool := nameOk x.loc && (nameOk x.dev && (nameOk x.set && nameOk x.sig))
theorem c114 (x : SRule) : CX Tryz.prog 114 [aRule x] [] (vB (ruleOk x)) [] := by
  refine cx_of (sN (.cons (.p decS_ok c115) .nil)).ok Tryz.func114 (by kernel_rfl) rfl ((ev114 nameOk ev115_v x).trans ?_)
  unfold ev114_v ruleOk
  cases nameOk x.name <;> rfl
abbrev eB1 := en1 eBus
theorem eB1_inj : InjT eB1 := en1_inj eBus_inj
theorem c118 (x : SSet) (hx : okSet x = true) : CX Tryz.prog 118 [aSet x] [] (vB (setOk x)) [] := by
  refine cx_of (sN (.cons (.t' (enc := eB1) (c := lenOk) (r := fun a => vB (a.all nameOk)) fun a h => c119 a h) .nil)).ok Tryz.func118 b118 rfl ((ev118 nameOk (okG eB1 lenOk) (fun y => (theT eB1 y).all nameOk) x 1).trans ?_)
  have k := okG_enc eB1_inj (c := lenOk) x.sigs hx
  have t := theT_enc eB1_inj x.sigs
  simp only [en1, aD] at k t
  rw [k, t]
  unfold setOk
  cases nameOk x.name <;> rfl
theorem c121 (x : SPub) : CX Tryz.prog 121 [aPub x] [] (vB (pubOk x)) [] := cx_of (sN .nil).ok Tryz.func121 (by kernel_rfl) rfl (ev121 nameOk x)
theorem s124 : OrcS Tryz.prog (o124 nameOk) := .cons (.inl (.cons (.inl (.cons (.inl s147 Tryz.func147 (by kernel_rfl)) .nil) Tryz.func142 (by kernel_rfl)) .nil) Tryz.func119 (by kernel_rfl)) .nil
theorem c124 (x : SSub) : CX Tryz.prog 124 [aSub x] [] (vB (subOk x)) [] := by
  refine cx_of s124.ok Tryz.func124 b124 rfl ((ev124 nameOk x 1).trans ?_)
  unfold subOk
  cases nameOk x.loc <;> cases nameOk x.dev <;> cases nameOk x.set <;> cases nameOk x.sig <;> rfl

/-! lists -/
def c1 {α : Type} (_ : α) : Bool := true
abbrev eRu := en1 aRule
abbrev eSe := en1 aSet
abbrev ePu := en1 aPub
abbrev eSu := en1 aSub
theorem eRu_inj : InjT eRu := en1_inj aRule_inj
theorem eSe_inj : InjT eSe := en1_inj aSet_inj
theorem ePu_inj : InjT ePu := en1_inj aPub_inj
theorem eSu_inj : InjT eSu := en1_inj aSub_inj
theorem assocN (seen : List ByteArray) (s : ByteArray) : boolOf (assoc (mapOf seen) (.string s)) = inB seen s := assoc_mapOf seen s
theorem s126 : OrcS Tryz.prog (o126 (okG eRu c1) (fun x => ruleOk (theT eRu x)) (okG eRu c1) fun x => textErr (theT eRu x).text) :=
  .cons (.t' (r := fun a => vB (ruleOk a)) fun a _ => c114 a) (.cons (.inl .nil Tryz.func116 (by kernel_rfl)) (.cons (.t' (r := fun (a : SRule) => vI (textErr a.text)) fun a _ => c117 a) .nil))
theorem c126 (l : List SRule) (hl : lenOk l = true) : CX Tryz.prog 126 [.agg [.d (dF 114), .d (dF 116), .d (dF 117)], .c (.d (rulesD l))] [] (vI (listErr ruleOk SRule.name (fun x => textErr x.text) [] l)) [] := by
  obtain ⟨g, hg⟩ : ∃ g, l.length < g := ⟨l.length + 1, by omega⟩
  refine cx_of s126.ok Tryz.func126 b126 rfl ((ev126 _ _ _ _ l g).trans ?_)
  have := seen_loop (valid := ruleOk) (key := SRule.name) (rest := fun x => textErr x.text) (l := l) (d0 := rule0) (L := fun m mp i => L126_3 (okG eRu c1) (fun x => ruleOk (theT eRu x)) (okG eRu c1) (fun x => textErr (theT eRu x).text) l g m mp i) (fun m k seen hk => by
    have k1 := okG_enc eRu_inj (c := c1) (l.getD k rule0) rfl
    have t1 := theT_enc eRu_inj (l.getD k rule0)
    simp only [en1] at k1 t1
    rw [st126_3, lt1 hk, ge0, tn, nx hk (lenOk_le hl), k1, t1, assocN, mapOf_app]
    simp only [tt, cond_true]) (fun m mp => by rw [st126_3, lt0 (Nat.lt_irrefl _)]; rfl) g 0 [] (by omega) (by omega)
  exact this
theorem s127 : OrcS Tryz.prog (o127 (okG eSe okSet) fun x => setOk (theT eSe x)) := .cons (.t' (r := fun a => vB (setOk a)) fun a h => c118 a h) (.cons (.inl .nil Tryz.func120 (by kernel_rfl)) .nil)
def rest0 {α : Type} (_ : α) : Int := 0
theorem c127 (l : List SSet) (hl : lenOk l = true) (ha : l.all okSet = true) : CX Tryz.prog 127 [.agg [.d (dF 118), .d (dF 120), .d dNF], .c (.d (setsD l))] [] (vI (listErr setOk SSet.name rest0 [] l)) [] := by
  obtain ⟨g, hg⟩ : ∃ g, l.length < g := ⟨l.length + 1, by omega⟩
  refine cx_of s127.ok Tryz.func127 b127 rfl ((ev127 _ _ l g).trans ?_)
  have := seen_loop (valid := setOk) (key := SSet.name) (rest := rest0) (l := l) (d0 := set0) (L := fun m mp i => L127_3 (okG eSe okSet) (fun x => setOk (theT eSe x)) l g m mp i) (fun m k seen hk => by
    have k1 := okG_enc eSe_inj (c := okSet) (l.getD k set0) (all_getD ha rfl k)
    have t1 := theT_enc eSe_inj (l.getD k set0)
    simp only [en1] at k1 t1
    rw [st127_3, lt1 hk, ge0, tn, nx hk (lenOk_le hl), k1, t1, assocN, mapOf_app]
    simp only [tt, cond_true]
    rfl) (fun m mp => by rw [st127_3, lt0 (Nat.lt_irrefl _)]; rfl) g 0 [] (by omega) (by omega)
  exact this
theorem s128 : OrcS Tryz.prog (o128 (okG ePu c1) (fun x => pubOk (theT ePu x)) (okG ePu c1) fun x => ev123_v (theT ePu x)) :=
  .cons (.t' (r := fun a => vB (pubOk a)) fun a _ => c121 a) (.cons (.inl .nil Tryz.func122 (by kernel_rfl)) (.cons (.t' (r := fun (a : SPub) => vI (ev123_v a)) fun a _ => c123 a) .nil))
theorem c128 (l : List SPub) (hl : lenOk l = true) : CX Tryz.prog 128 [.agg [.d (dF 121), .d (dF 122), .d (dF 123)], .c (.d (pubsD l))] [] (vI (listErr pubOk SPub.set ev123_v [] l)) [] := by
  obtain ⟨g, hg⟩ : ∃ g, l.length < g := ⟨l.length + 1, by omega⟩
  refine cx_of s128.ok Tryz.func128 b128 rfl ((ev128 _ _ _ _ l g).trans ?_)
  have := seen_loop (valid := pubOk) (key := SPub.set) (rest := ev123_v) (l := l) (d0 := pub0) (L := fun m mp i => L128_3 (okG ePu c1) (fun x => pubOk (theT ePu x)) (okG ePu c1) (fun x => ev123_v (theT ePu x)) l g m mp i) (fun m k seen hk => by
    have k1 := okG_enc ePu_inj (c := c1) (l.getD k pub0) rfl
    have t1 := theT_enc ePu_inj (l.getD k pub0)
    simp only [en1] at k1 t1
    rw [st128_3, lt1 hk, ge0, tn, nx hk (lenOk_le hl), k1, t1, assocN, mapOf_app]
    simp only [tt, cond_true]) (fun m mp => by rw [st128_3, lt0 (Nat.lt_irrefl _)]; rfl) g 0 [] (by omega) (by omega)
  exact this
theorem s129 : OrcS Tryz.prog (o129 (okG eSu c1) fun x => subOk (theT eSu x)) := .cons (.t' (r := fun a => vB (subOk a)) fun a _ => c124 a) (.cons (.inl .nil Tryz.func125 (by kernel_rfl)) .nil)
theorem c129 (l : List SSub) (hl : lenOk l = true) : CX Tryz.prog 129 [.agg [.d (dF 124), .d (dF 125), .d dNF], .c (.d (subsD l))] [] (vI (listErr subOk SSub.loc rest0 [] l)) [] := by
  obtain ⟨g, hg⟩ : ∃ g, l.length < g := ⟨l.length + 1, by omega⟩
  refine cx_of s129.ok Tryz.func129 b129 rfl ((ev129 _ _ l g).trans ?_)
  have := seen_loop (valid := subOk) (key := SSub.loc) (rest := rest0) (l := l) (d0 := sub0) (L := fun m mp i => L129_3 (okG eSu c1) (fun x => subOk (theT eSu x)) l g m mp i) (fun m k seen hk => by
    have k1 := okG_enc eSu_inj (c := c1) (l.getD k sub0) rfl
    have t1 := theT_enc eSu_inj (l.getD k sub0)
    simp only [en1] at k1 t1
    rw [st129_3, lt1 hk, ge0, tn, nx hk (lenOk_le hl), k1, t1, assocN, mapOf_app]
    simp only [tt, cond_true]
    rfl) (fun m mp => by rw [st129_3, lt0 (Nat.lt_irrefl _)]; rfl) g 0 [] (by omega) (by omega)
  exact this
end Go.Proofs.YtngoglhlhlfknaaGreat.se
