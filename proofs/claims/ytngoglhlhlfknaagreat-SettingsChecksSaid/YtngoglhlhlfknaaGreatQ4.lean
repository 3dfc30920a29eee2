/-
  An evaluator of Go code on abstract values, proved sound, and what it computes of the functions that the statement reaches (part 4). No condition.
-/
import Derived.Test.YtngoglhlhlfknaaGreatQ3
namespace Go.Proofs.YtngoglhlhlfknaaGreat.se
open Go.RowKit Go.Eb Go.Proofs.YtngoglhlhlfknaaGreat.st
set_option maxRecDepth 100000

theorem sN {r : Orc} (h : OrcS Tryz.prog r) : OrcS Tryz.prog (oN nameOk r) := .cons (.p decS_ok c15) h
theorem sW : OrcS Tryz.prog (Orc.cons 108 (inl Tryz.prog Orc.nil na 1 Tryz.f108) Orc.nil) := .cons (.inl .nil Tryz.func108 (by kernel_rfl)) .nil
def eFn (f : FuncId) : Unit → AV := fun _ => .c (.d (dF f))
theorem eFn_inj (f : FuncId) : InjA (eFn f) := fun _ _ _ => rfl
abbrev eBus := aD busesD
theorem eBus_inj : InjA eBus := aD_inj (listD_inj (sz := 1) (d0 := e0) busC_inj)
theorem aRule_inj : InjA aRule := aG_inj ruleC_inj
theorem aSet_inj : InjA aSet := aG_inj setC_inj
theorem aPub_inj : InjA aPub := aG_inj pubC_inj
theorem aSub_inj : InjA aSub := aG_inj subC_inj

/-! words -/
theorem c115 (s : ByteArray) : CX Tryz.prog 115 [vS s] [] (vB (ev115_v s)) [] := cx_of (Orc.nil_ok _) Tryz.func115 (by kernel_rfl) rfl (ev115 s)
theorem c123 (x : SPub) : CX Tryz.prog 123 [aPub x] [] (vI (ev123_v x)) [] := cx_of sW.ok Tryz.func123 (by kernel_rfl) rfl (ev123 x)
theorem lp117 (x : SRule) (g : Nat) (hs : x.text.size ≤ 120) : ∀ (m k : Nat), k ≤ x.text.size → x.text.size - k < m → L117_4 x g m k = lN (bif (x.text.data.toList.drop k).any badByte then 5 else 0)
  | 0, k, _, h => by omega
  | m + 1, k, hk, h => by
    rw [st117_4]
    by_cases hlt : k < x.text.size
    · have hl : k < x.text.data.toList.length := by simpa using hlt
      have ih := lp117 x g hs m (k + 1) (by omega) (by omega)
      rw [drop_at' (d := 0) hl]
      rw [lt1 hlt, ge0, tn, nx hlt (by omega), ih]
      simp only [tt, cond_true, List.any_cons, badByte]
      generalize decide (((x.text.data.toList.getD k 0).toNat : Int) < 32) = a1
      generalize decide (((x.text.data.toList.getD k 0).toNat : Int) > 126) = a2
      generalize (((x.text.data.toList.getD k 0).toNat : Int) == 34) = a3
      cases a1 <;> cases a2 <;> cases a3 <;> rfl
    · rw [lt0 hlt, List.drop_of_length_le (by simp; omega)]
      rfl
theorem c117 (x : SRule) : CX Tryz.prog 117 [aRule x] [] (vI (textErr x.text)) [] := by
  obtain ⟨g, hg⟩ : ∃ g, x.text.size < g := ⟨x.text.size + 1, by omega⟩
  refine cx_of (Orc.nil_ok _) Tryz.func117 b117 rfl ((ev117 x g).trans ?_)
  have e : decide ((x.text.size : Int) > 120) = decide (120 < x.text.size) := by
    rw [Bool.eq_iff_iff, decide_eq_true_eq, decide_eq_true_eq]; omega
  unfold textErr
  rw [e]
  cases h1 : decide (120 < x.text.size) with
  | true => rfl
  | false =>
    have hs : x.text.size ≤ 120 := by simp at h1; omega
    have := lp117 x g hs g 0 (by omega) (by omega)
    simp only [cond_false]
    exact this

/-! names -/
theorem s147 : OrcS Tryz.prog (o147 nameOk) := .cons (.inl (sN .nil) Tryz.func143 (by kernel_rfl)) .nil
theorem c147 (l : List ByteArray) (hl : l.length ≤ 9223372036854775807) : CX Tryz.prog 147 [.c (.d (busesD l)), .c (.d (dF 143))] [] (vI (idxP (fun s => !nameOk s) 0 l)) [] := by
  obtain ⟨g, hg⟩ : ∃ g, l.length < g := ⟨l.length + 1, by omega⟩
  refine cx_of s147.ok Tryz.func147 b147 rfl ((ev147 nameOk l g).trans ?_)
  have := idx_loop (p := fun s => !nameOk s) (l := l) (d0 := e0) (L := fun m i => L147_2 nameOk l g m i) (fun m k hk => by
    rw [st147_2, lt1 hk, ge0, tn, nx hk hl]
    simp only [tt, cond_true]) (fun m => by rw [st147_2, lt0 (Nat.lt_irrefl _)]; rfl) g 0 (by omega) (by omega)
  exact this
abbrev eNm := en2 eBus (eFn 143)
theorem eNm_inj : InjT eNm := en2_inj eBus_inj (eFn_inj _)
def cLen {α β : Type} (a : List α × β) : Bool := lenOk a.1
theorem s142 : OrcS Tryz.prog (o142 (okG eNm cLen) fun x => idxP (fun s => !nameOk s) 0 (theT eNm x).1) :=
  .cons (.inl (.cons (.t' (r := fun (a : List ByteArray × Unit) => vI (idxP (fun s => !nameOk s) 0 a.1)) fun a h => c147 a.1 (lenOk_le h)) .nil) Tryz.func142 (by kernel_rfl)) .nil
theorem anyAll (l : List ByteArray) : (!l.any fun s => !nameOk s) = l.all nameOk := by
  induction l with
  | nil => rfl
  | cons x r ih => simp only [List.any_cons, List.all_cons, Bool.not_or, ih, Bool.not_not]
theorem c119 (l : List ByteArray) (hl : lenOk l = true) : CX Tryz.prog 119 [.c (.d (busesD l))] [] (vB (l.all nameOk)) [] := by
  refine cx_of s142.ok Tryz.func119 b119 rfl ((ev119 _ _ l 1).trans ?_)
  have k := okG_enc eNm_inj (c := cLen) (l, ()) hl
  have t := theT_enc eNm_inj (l, ())
  simp only [en2, aD, eFn] at k t
  rw [k, t, idxP_ge, anyAll]
  rfl

/-! validity -/
noncomputable def ruleOk (x : SRule) : Bool := nameOk x.name && !ev115_v x.name
def setOk (x : SSet) : Bool := nameOk x.name && x.sigs.all nameOk
def pubOk (x : SPub) : Bool := nameOk x.set
def subOk (x : SSub) : Bool := nameOk x.loc && (nameOk x.dev && (nameOk x.set && nameOk x.sig))
theorem c114 (x : SRule) : CX Tryz.prog 114 [aRule x] [] (vB (ruleOk x)) [] := by
  refine cx_of (sN (.cons (.p decS_ok c115) .nil)).ok Tryz.func114 (by kernel_rfl) rfl ((ev114 nameOk ev115_v x).trans ?_)
  unfold ev114_v ruleOk
  cases nameOk x.name <;> rfl
abbrev eB1 := en1 eBus
theorem eB1_inj : InjT eB1 := en1_inj eBus_inj
theorem c118 (x : SSet) (hx : okSet x = true) : CX Tryz.prog 118 [aSet x] [] (vB (setOk x)) [] := by
  refine cx_of (sN (.cons (.t' (enc := eB1) (c := lenOk) (r := fun a => vB (a.all nameOk)) fun a h => c119 a h) .nil)).ok Tryz.func118 b118 rfl ((ev118 nameOk (okG eB1 lenOk) (fun y => (theT eB1 y).all nameOk) x 1).trans ?_)
  have k := okG_enc eB1_inj (c := lenOk) x.sigs hx
  have t := theT_enc eB1_inj x.sigs
  simp only [en1, aD] at k t
  rw [k, t]
  unfold setOk
  cases nameOk x.name <;> rfl
theorem c121 (x : SPub) : CX Tryz.prog 121 [aPub x] [] (vB (pubOk x)) [] := cx_of (sN .nil).ok Tryz.func121 (by kernel_rfl) rfl (ev121 nameOk x)
theorem s124 : OrcS Tryz.prog (o124 nameOk) := .cons (.inl (.cons (.inl (.cons (.inl s147 Tryz.func147 (by kernel_rfl)) .nil) Tryz.func142 (by kernel_rfl)) .nil) Tryz.func119 (by kernel_rfl)) .nil
theorem c124 (x : SSub) : CX Tryz.prog 124 [aSub x] [] (vB (subOk x)) [] := by
  refine cx_of s124.ok Tryz.func124 b124 rfl ((ev124 nameOk x 1).trans ?_)
  unfold subOk
  cases nameOk x.loc <;> cases nameOk x.dev <;> cases nameOk x.set <;> cases nameOk x.sig <;> rfl

/-! lists -/
def c1 {α : Type} (_ : α) : Bool := true
abbrev eRu := en1 aRule
abbrev eSe := en1 aSet
abbrev ePu := en1 aPub
abbrev eSu := en1 aSub
theorem eRu_inj : InjT eRu := en1_inj aRule_inj
theorem eSe_inj : InjT eSe := en1_inj aSet_inj
theorem ePu_inj : InjT ePu := en1_inj aPub_inj
theorem eSu_inj : InjT eSu := en1_inj aSub_inj
theorem assocN (seen : List ByteArray) (s : ByteArray) : boolOf (assoc (mapOf seen) (.string s)) = inB seen s := assoc_mapOf seen s
theorem s126 : OrcS Tryz.prog (o126 (okG eRu c1) (fun x => ruleOk (theT eRu x)) (okG eRu c1) fun x => textErr (theT eRu x).text) :=
  .cons (.t' (r := fun a => vB (ruleOk a)) fun a _ => c114 a) (.cons (.inl .nil Tryz.func116 (by kernel_rfl)) (.cons (.t' (r := fun (a : SRule) => vI (textErr a.text)) fun a _ => c117 a) .nil))
theorem c126 (l : List SRule) (hl : lenOk l = true) : CX Tryz.prog 126 [.agg [.d (dF 114), .d (dF 116), .d (dF 117)], .c (.d (rulesD l))] [] (vI (listErr ruleOk SRule.name (fun x => textErr x.text) [] l)) [] := by
  obtain ⟨g, hg⟩ : ∃ g, l.length < g := ⟨l.length + 1, by omega⟩
  refine cx_of s126.ok Tryz.func126 b126 rfl ((ev126 _ _ _ _ l g).trans ?_)
  have := seen_loop (valid := ruleOk) (key := SRule.name) (rest := fun x => textErr x.text) (l := l) (d0 := rule0) (L := fun m mp i => L126_3 (okG eRu c1) (fun x => ruleOk (theT eRu x)) (okG eRu c1) (fun x => textErr (theT eRu x).text) l g m mp i) (fun m k seen hk => by
    have k1 := okG_enc eRu_inj (c := c1) (l.getD k rule0) rfl
    have t1 := theT_enc eRu_inj (l.getD k rule0)
    simp only [en1] at k1 t1
    rw [st126_3, lt1 hk, ge0, tn, nx hk (lenOk_le hl), k1, t1, assocN, mapOf_app]
    simp only [tt, cond_true]) (fun m mp => by rw [st126_3, lt0 (Nat.lt_irrefl _)]; rfl) g 0 [] (by omega) (by omega)
  exact this
theorem s127 : OrcS Tryz.prog (o127 (okG eSe okSet) fun x => setOk (theT eSe x)) := .cons (.t' (r := fun a => vB (setOk a)) fun a h => c118 a h) (.cons (.inl .nil Tryz.func120 (by kernel_rfl)) .nil)
def rest0 {α : Type} (_ : α) : Int := 0
theorem c127 (l : List SSet) (hl : lenOk l = true) (ha : l.all okSet = true) : CX Tryz.prog 127 [.agg [.d (dF 118), .d (dF 120), .d dNF], .c (.d (setsD l))] [] (vI (listErr setOk SSet.name rest0 [] l)) [] := by
  obtain ⟨g, hg⟩ : ∃ g, l.length < g := ⟨l.length + 1, by omega⟩
  refine cx_of s127.ok Tryz.func127 b127 rfl ((ev127 _ _ l g).trans ?_)
  have := seen_loop (valid := setOk) (key := SSet.name) (rest := rest0) (l := l) (d0 := set0) (L := fun m mp i => L127_3 (okG eSe okSet) (fun x => setOk (theT eSe x)) l g m mp i) (fun m k seen hk => by
    have k1 := okG_enc eSe_inj (c := okSet) (l.getD k set0) (all_getD ha rfl k)
    have t1 := theT_enc eSe_inj (l.getD k set0)
    simp only [en1] at k1 t1
    rw [st127_3, lt1 hk, ge0, tn, nx hk (lenOk_le hl), k1, t1, assocN, mapOf_app]
    simp only [tt, cond_true]
    rfl) (fun m mp => by rw [st127_3, lt0 (Nat.lt_irrefl _)]; rfl) g 0 [] (by omega) (by omega)
  exact this
theorem s128 : OrcS Tryz.prog (o128 (okG ePu c1) (fun x => pubOk (theT ePu x)) (okG ePu c1) fun x => ev123_v (theT ePu x)) :=
  .cons (.t' (r := fun a => vB (pubOk a)) fun a _ => c121 a) (.cons (.inl .nil Tryz.func122 (by kernel_rfl)) (.cons (.t' (r := fun (a : SPub) => vI (ev123_v a)) fun a _ => c123 a) .nil))
theorem c128 (l : List SPub) (hl : lenOk l = true) : CX Tryz.prog 128 [.agg [.d (dF 121), .d (dF 122), .d (dF 123)], .c (.d (pubsD l))] [] (vI (listErr pubOk SPub.set ev123_v [] l)) [] := by
  obtain ⟨g, hg⟩ : ∃ g, l.length < g := ⟨l.length + 1, by omega⟩
  refine cx_of s128.ok Tryz.func128 b128 rfl ((ev128 _ _ _ _ l g).trans ?_)
  have := seen_loop (valid := pubOk) (key := SPub.set) (rest := ev123_v) (l := l) (d0 := pub0) (L := fun m mp i => L128_3 (okG ePu c1) (fun x => pubOk (theT ePu x)) (okG ePu c1) (fun x => ev123_v (theT ePu x)) l g m mp i) (fun m k seen hk => by
    have k1 := okG_enc ePu_inj (c := c1) (l.getD k pub0) rfl
    have t1 := theT_enc ePu_inj (l.getD k pub0)
    simp only [en1] at k1 t1
    rw [st128_3, lt1 hk, ge0, tn, nx hk (lenOk_le hl), k1, t1, assocN, mapOf_app]
    simp only [tt, cond_true]) (fun m mp => by rw [st128_3, lt0 (Nat.lt_irrefl _)]; rfl) g 0 [] (by omega) (by omega)
  exact this
theorem s129 : OrcS Tryz.prog (o129 (okG eSu c1) fun x => subOk (theT eSu x)) := .cons (.t' (r := fun a => vB (subOk a)) fun a _ => c124 a) (.cons (.inl .nil Tryz.func125 (by kernel_rfl)) .nil)
theorem c129 (l : List SSub) (hl : lenOk l = true) : CX Tryz.prog 129 [.agg [.d (dF 124), .d (dF 125), .d dNF], .c (.d (subsD l))] [] (vI (listErr subOk SSub.loc rest0 [] l)) [] := by
  obtain ⟨g, hg⟩ : ∃ g, l.length < g := ⟨l.length + 1, by omega⟩
  refine cx_of s129.ok Tryz.func129 b129 rfl ((ev129 _ _ l g).trans ?_)
  have := seen_loop (valid := subOk) (key := SSub.loc) (rest := rest0) (l := l) (d0 := sub0) (L := fun m mp i => L129_3 (okG eSu c1) (fun x => subOk (theT eSu x)) l g m mp i) (fun m k seen hk => by
    have k1 := okG_enc eSu_inj (c := c1) (l.getD k sub0) rfl
    have t1 := theT_enc eSu_inj (l.getD k sub0)
    simp only [en1] at k1 t1
    rw [st129_3, lt1 hk, ge0, tn, nx hk (lenOk_le hl), k1, t1, assocN, mapOf_app]
    simp only [tt, cond_true]
    rfl) (fun m mp => by rw [st129_3, lt0 (Nat.lt_irrefl _)]; rfl) g 0 [] (by omega) (by omega)
  exact this
end Go.Proofs.YtngoglhlhlfknaaGreat.se
namespace Go.Eb
open Go.RowKit

def dec3 : List AV → Option (Int × Int × Int)
  | [.c (.d (.v (.int .i64 a))), .c (.d (.v (.int .i64 b))), .c (.d (.v (.int .i64 c)))] => some (a, b, c)
  | _ => none
theorem dec3_ok (args : List AV) (a : Int × Int × Int) (h : dec3 args = some a) : args = [vI a.1, vI a.2.1, vI a.2.2] := by
  unfold dec3 at h
  split at h
  · cases h; rfl
  · simp at h
def decE : List AV → Option (Bool × Int × Int × Int)
  | [.agg [.d (.v (.bool o)), .d (.v (.int .i64 a)), .d (.v (.int .i64 b))], .c (.d (.v (.int .i64 c)))] => some (o, a, b, c)
  | _ => none
theorem decE_ok (args : List AV) (a : Bool × Int × Int × Int) (h : decE args = some a) : args = [.agg [.d (dB a.1), .d (dI a.2.1), .d (dI a.2.2.1)], vI a.2.2.2] := by
  unfold decE at h
  split at h
  · cases h; rfl
  · simp at h
/-- an element with a least delay is in its ranges -/
def elOk (on : Bool) (pk dl least : Int) : Bool := bif on then within pk 1 16383 && within dl least 500 else (pk == 0) && (dl == 0)
end Go.Eb
namespace Go.Proofs.YtngoglhlhlfknaaGreat.se
open Go.RowKit Go.Eb
set_option maxRecDepth 100000

noncomputable def oWi : Orc := Orc.cons 108 (inl Tryz.prog Orc.nil na 1 Tryz.f108) Orc.nil
noncomputable def oW3 : Orc := Orc.cons 108 (ansP dec3 fun a => vB (within a.1 a.2.1 a.2.2)) Orc.nil
noncomputable def oE3 : Orc := Orc.cons 110 (ansP decE fun a => vB (elOk a.1 a.2.1 a.2.2.1 a.2.2.2)) oW3
noncomputable def oZo : Orc := Orc.cons 111 (inl Tryz.prog oW3 na 1 Tryz.f111) oW3
set_option maxRecDepth 100000 in
theorem evWi_t (a b c : Int) : callC Tryz.prog Orc.nil na 5 Tryz.f108 (bodyOf Tryz.f108) [vI a, vI b, vI c] [] =
 (bif decide (a ≥ b) then some (T.leaf (AV.c (C.d (D.v (Value.bool (decide (a ≤ c))))), [])) else some (T.leaf (AV.c (C.d (D.v (Value.bool false))), []))) := by kernel_rfl
noncomputable def evWi_v (a b c : Int) : Bool :=
 (bif decide (a ≥ b) then ((decide (a ≤ c))) else (false))
set_option maxRecDepth 100000 in
theorem evWi (a b c : Int) : callC Tryz.prog Orc.nil na 5 Tryz.f108 (bodyOf Tryz.f108) [vI a, vI b, vI c] [] = some (.leaf (vB (evWi_v a b c), [])) := by
  rw [evWi_t]
  unfold evWi_v
  simp only [bLeaf]
set_option maxRecDepth 100000 in
theorem evEl_t (o : Bool) (a b c : Int) : callC Tryz.prog oW3 na 5 Tryz.f110 (bodyOf Tryz.f110) [.agg [.d (dB o), .d (dI a), .d (dI b)], vI c] [] =
 (bif !o then some (T.leaf (AV.c (C.d (D.v (Value.bool (o == false && (a == (0 : Int) && (b == (0 : Int) && true)))))), [])) else (bif within a (1 : Int) (16383 : Int) then some
 (T.leaf (AV.c (C.d (D.v (Value.bool (within b c (500 : Int))))), [])) else some (T.leaf (AV.c (C.d (D.v (Value.bool false))), [])))) := by kernel_rfl
noncomputable def evEl_v (o : Bool) (a b c : Int) : Bool :=
 (bif !o then ((o == false && (a == (0 : Int) && (b == (0 : Int) && true)))) else (bif within a (1 : Int) (16383 : Int) then ((within b c (500 : Int))) else (false)))
set_option maxRecDepth 100000 in
theorem evEl (o : Bool) (a b c : Int) : callC Tryz.prog oW3 na 5 Tryz.f110 (bodyOf Tryz.f110) [.agg [.d (dB o), .d (dI a), .d (dI b)], vI c] [] = some (.leaf (vB (evEl_v o a b c), [])) := by
  rw [evEl_t]
  unfold evEl_v
  simp only [bLeaf]
set_option maxRecDepth 100000 in
theorem ev78_t (r : SRel) : callC Tryz.prog oW3 na 5 Tryz.f78 (bodyOf Tryz.f78) [aRel r] [] =
 (bif SRel.kind r != (1 : Int) then (bif SRel.zon0 r == false && (SRel.zfw0 r == false && (SRel.zx0 r == (0 : Int) && (SRel.zr0 r == (0 : Int) && (SRel.zl0 r == (0 : Int) &&
 (SRel.zd0 r == (0 : Int) && true))))) && (SRel.zon1 r == false && (SRel.zfw1 r == false && (SRel.zx1 r == (0 : Int) && (SRel.zr1 r == (0 : Int) && (SRel.zl1 r == (0 : Int) &&
 (SRel.zd1 r == (0 : Int) && true))))) && (SRel.zon2 r == false && (SRel.zfw2 r == false && (SRel.zx2 r == (0 : Int) && (SRel.zr2 r == (0 : Int) && (SRel.zl2 r == (0 : Int) &&
 (SRel.zd2 r == (0 : Int) && true))))) && true)) then (bif SRel.min r == (0 : Int) then (bif SRel.kre r == (0 : Int) then (bif SRel.kim r == (0 : Int) then (bif SRel.scheme r == (0 :
 Int) then (bif SRel.wait r == (0 : Int) then (bif SRel.guard r == (0 : Int) then (bif SRel.shots r == (0 : Int) then (bif SRel.dead r == (0 : Int) then (bif SRel.kind r != (2 : Int)
 then (bif SRel.reclaim r == (0 : Int) then (bif SRel.uon r == false && (SRel.upk r == (0 : Int) && (SRel.udl r == (0 : Int) && true)) then (bif SRel.kind r == (4 : Int) then (bif
 SRel.oon r == false && (SRel.opk r == (0 : Int) && (SRel.odl r == (0 : Int) && true)) then (bif SRel.don r == false && (SRel.dpk r == (0 : Int) && (SRel.ddl r == (0 : Int) && true))
 then (bif SRel.ion r == false && (SRel.ipk r == (0 : Int) && (SRel.idl r == (0 : Int) && true)) then some (T.leaf (AV.c (C.d (D.v (Value.bool (SRel.fon r == false && (SRel.fpk r ==
 (0 : Int) && (SRel.fdl r == (0 : Int) && true)))))), [])) else some (T.leaf (AV.c (C.d (D.v (Value.bool false))), []))) else some (T.leaf (AV.c (C.d (D.v (Value.bool false))), [])))
 else some (T.leaf (AV.c (C.d (D.v (Value.bool false))), []))) else (bif SRel.oon r == false && (SRel.opk r == (0 : Int) && (SRel.odl r == (0 : Int) && true)) then (bif SRel.diff r
 == (0 : Int) then (bif SRel.num r == (0 : Int) then (bif SRel.den r == (0 : Int) then some (T.leaf (AV.c (C.d (D.v (Value.bool (SRel.harm r == (0 : Int))))), [])) else some (T.leaf
 (AV.c (C.d (D.v (Value.bool false))), []))) else some (T.leaf (AV.c (C.d (D.v (Value.bool false))), []))) else some (T.leaf (AV.c (C.d (D.v (Value.bool false))), []))) else some
 (T.leaf (AV.c (C.d (D.v (Value.bool false))), [])))) else (bif SRel.kind r == (4 : Int) then some (T.leaf (AV.c (C.d (D.v (Value.bool false))), [])) else some (T.leaf (AV.c (C.d
 (D.v (Value.bool false))), [])))) else (bif SRel.kind r == (4 : Int) then some (T.leaf (AV.c (C.d (D.v (Value.bool false))), [])) else some (T.leaf (AV.c (C.d (D.v (Value.bool
 false))), [])))) else (bif SRel.kind r == (4 : Int) then (bif SRel.reclaim r == (0 : Int) then (bif SRel.don r == false && (SRel.dpk r == (0 : Int) && (SRel.ddl r == (0 : Int) &&
 true)) then (bif SRel.ion r == false && (SRel.ipk r == (0 : Int) && (SRel.idl r == (0 : Int) && true)) then some (T.leaf (AV.c (C.d (D.v (Value.bool (SRel.fon r == false &&
 (SRel.fpk r == (0 : Int) && (SRel.fdl r == (0 : Int) && true)))))), [])) else some (T.leaf (AV.c (C.d (D.v (Value.bool false))), []))) else some (T.leaf (AV.c (C.d (D.v (Value.bool
 false))), []))) else some (T.leaf (AV.c (C.d (D.v (Value.bool false))), []))) else (bif SRel.reclaim r == (0 : Int) then (bif SRel.diff r == (0 : Int) then (bif SRel.num r == (0 :
 Int) then (bif SRel.den r == (0 : Int) then some (T.leaf (AV.c (C.d (D.v (Value.bool (SRel.harm r == (0 : Int))))), [])) else some (T.leaf (AV.c (C.d (D.v (Value.bool false))),
 []))) else some (T.leaf (AV.c (C.d (D.v (Value.bool false))), []))) else some (T.leaf (AV.c (C.d (D.v (Value.bool false))), []))) else some (T.leaf (AV.c (C.d (D.v (Value.bool
 false))), []))))) else (bif SRel.kind r != (2 : Int) then (bif SRel.kind r == (4 : Int) then some (T.leaf (AV.c (C.d (D.v (Value.bool false))), [])) else some (T.leaf (AV.c (C.d
 (D.v (Value.bool false))), []))) else (bif SRel.kind r == (4 : Int) then some (T.leaf (AV.c (C.d (D.v (Value.bool false))), [])) else some (T.leaf (AV.c (C.d (D.v (Value.bool
 false))), []))))) else (bif SRel.kind r != (2 : Int) then (bif SRel.kind r == (4 : Int) then some (T.leaf (AV.c (C.d (D.v (Value.bool false))), [])) else some (T.leaf (AV.c (C.d
 (D.v (Value.bool false))), []))) else (bif SRel.kind r == (4 : Int) then some (T.leaf (AV.c (C.d (D.v (Value.bool false))), [])) else some (T.leaf (AV.c (C.d (D.v (Value.bool
 false))), []))))) else (bif SRel.kind r != (2 : Int) then (bif SRel.kind r == (4 : Int) then some (T.leaf (AV.c (C.d (D.v (Value.bool false))), [])) else some (T.leaf (AV.c (C.d
 (D.v (Value.bool false))), []))) else (bif SRel.kind r == (4 : Int) then some (T.leaf (AV.c (C.d (D.v (Value.bool false))), [])) else some (T.leaf (AV.c (C.d (D.v (Value.bool
 false))), []))))) else (bif SRel.kind r != (2 : Int) then (bif SRel.kind r == (4 : Int) then some (T.leaf (AV.c (C.d (D.v (Value.bool false))), [])) else some (T.leaf (AV.c (C.d
 (D.v (Value.bool false))), []))) else (bif SRel.kind r == (4 : Int) then some (T.leaf (AV.c (C.d (D.v (Value.bool false))), [])) else some (T.leaf (AV.c (C.d (D.v (Value.bool
 false))), []))))) else (bif SRel.kind r != (2 : Int) then (bif SRel.kind r == (4 : Int) then some (T.leaf (AV.c (C.d (D.v (Value.bool false))), [])) else some (T.leaf (AV.c (C.d
 (D.v (Value.bool false))), []))) else (bif SRel.kind r == (4 : Int) then some (T.leaf (AV.c (C.d (D.v (Value.bool false))), [])) else some (T.leaf (AV.c (C.d (D.v (Value.bool
 false))), []))))) else (bif SRel.kind r != (2 : Int) then (bif SRel.kind r == (4 : Int) then some (T.leaf (AV.c (C.d (D.v (Value.bool false))), [])) else some (T.leaf (AV.c (C.d
 (D.v (Value.bool false))), []))) else (bif SRel.kind r == (4 : Int) then some (T.leaf (AV.c (C.d (D.v (Value.bool false))), [])) else some (T.leaf (AV.c (C.d (D.v (Value.bool
 false))), []))))) else (bif SRel.kind r != (2 : Int) then (bif SRel.kind r == (4 : Int) then some (T.leaf (AV.c (C.d (D.v (Value.bool false))), [])) else some (T.leaf (AV.c (C.d
 (D.v (Value.bool false))), []))) else (bif SRel.kind r == (4 : Int) then some (T.leaf (AV.c (C.d (D.v (Value.bool false))), [])) else some (T.leaf (AV.c (C.d (D.v (Value.bool
 false))), []))))) else (bif SRel.kind r != (2 : Int) then (bif SRel.kind r == (4 : Int) then some (T.leaf (AV.c (C.d (D.v (Value.bool false))), [])) else some (T.leaf (AV.c (C.d
 (D.v (Value.bool false))), []))) else (bif SRel.kind r == (4 : Int) then some (T.leaf (AV.c (C.d (D.v (Value.bool false))), [])) else some (T.leaf (AV.c (C.d (D.v (Value.bool
 false))), []))))) else (bif SRel.kind r != (2 : Int) then (bif SRel.kind r == (4 : Int) then some (T.leaf (AV.c (C.d (D.v (Value.bool false))), [])) else some (T.leaf (AV.c (C.d
 (D.v (Value.bool false))), []))) else (bif SRel.kind r == (4 : Int) then some (T.leaf (AV.c (C.d (D.v (Value.bool false))), [])) else some (T.leaf (AV.c (C.d (D.v (Value.bool
 false))), []))))) else (bif SRel.kind r != (2 : Int) then (bif SRel.uon r == false && (SRel.upk r == (0 : Int) && (SRel.udl r == (0 : Int) && true)) then (bif SRel.kind r == (4 :
 Int) then (bif SRel.oon r == false && (SRel.opk r == (0 : Int) && (SRel.odl r == (0 : Int) && true)) then (bif SRel.don r == false && (SRel.dpk r == (0 : Int) && (SRel.ddl r == (0 :
 Int) && true)) then (bif SRel.ion r == false && (SRel.ipk r == (0 : Int) && (SRel.idl r == (0 : Int) && true)) then some (T.leaf (AV.c (C.d (D.v (Value.bool (SRel.fon r == false &&
 (SRel.fpk r == (0 : Int) && (SRel.fdl r == (0 : Int) && true)))))), [])) else some (T.leaf (AV.c (C.d (D.v (Value.bool false))), []))) else some (T.leaf (AV.c (C.d (D.v (Value.bool
 false))), []))) else some (T.leaf (AV.c (C.d (D.v (Value.bool false))), []))) else (bif SRel.oon r == false && (SRel.opk r == (0 : Int) && (SRel.odl r == (0 : Int) && true)) then
 (bif SRel.diff r == (0 : Int) then (bif SRel.num r == (0 : Int) then (bif SRel.den r == (0 : Int) then some (T.leaf (AV.c (C.d (D.v (Value.bool (SRel.harm r == (0 : Int))))), []))
 else some (T.leaf (AV.c (C.d (D.v (Value.bool false))), []))) else some (T.leaf (AV.c (C.d (D.v (Value.bool false))), []))) else some (T.leaf (AV.c (C.d (D.v (Value.bool false))),
 []))) else some (T.leaf (AV.c (C.d (D.v (Value.bool false))), [])))) else (bif SRel.kind r == (4 : Int) then some (T.leaf (AV.c (C.d (D.v (Value.bool false))), [])) else some
 (T.leaf (AV.c (C.d (D.v (Value.bool false))), [])))) else (bif SRel.kind r == (4 : Int) then (bif SRel.don r == false && (SRel.dpk r == (0 : Int) && (SRel.ddl r == (0 : Int) &&
 true)) then (bif SRel.ion r == false && (SRel.ipk r == (0 : Int) && (SRel.idl r == (0 : Int) && true)) then some (T.leaf (AV.c (C.d (D.v (Value.bool (SRel.fon r == false &&
 (SRel.fpk r == (0 : Int) && (SRel.fdl r == (0 : Int) && true)))))), [])) else some (T.leaf (AV.c (C.d (D.v (Value.bool false))), []))) else some (T.leaf (AV.c (C.d (D.v (Value.bool
 false))), []))) else (bif SRel.diff r == (0 : Int) then (bif SRel.num r == (0 : Int) then (bif SRel.den r == (0 : Int) then some (T.leaf (AV.c (C.d (D.v (Value.bool (SRel.harm r ==
 (0 : Int))))), [])) else some (T.leaf (AV.c (C.d (D.v (Value.bool false))), []))) else some (T.leaf (AV.c (C.d (D.v (Value.bool false))), []))) else some (T.leaf (AV.c (C.d (D.v
 (Value.bool false))), [])))))) := by kernel_rfl
noncomputable def ev78_v (r : SRel) : Bool :=
 (bif SRel.kind r != (1 : Int) then (bif SRel.zon0 r == false && (SRel.zfw0 r == false && (SRel.zx0 r == (0 : Int) && (SRel.zr0 r == (0 : Int) && (SRel.zl0 r == (0 : Int) &&
 (SRel.zd0 r == (0 : Int) && true))))) && (SRel.zon1 r == false && (SRel.zfw1 r == false && (SRel.zx1 r == (0 : Int) && (SRel.zr1 r == (0 : Int) && (SRel.zl1 r == (0 : Int) &&
 (SRel.zd1 r == (0 : Int) && true))))) && (SRel.zon2 r == false && (SRel.zfw2 r == false && (SRel.zx2 r == (0 : Int) && (SRel.zr2 r == (0 : Int) && (SRel.zl2 r == (0 : Int) &&
 (SRel.zd2 r == (0 : Int) && true))))) && true)) then (bif SRel.min r == (0 : Int) then (bif SRel.kre r == (0 : Int) then (bif SRel.kim r == (0 : Int) then (bif SRel.scheme r == (0 :
 Int) then (bif SRel.wait r == (0 : Int) then (bif SRel.guard r == (0 : Int) then (bif SRel.shots r == (0 : Int) then (bif SRel.dead r == (0 : Int) then (bif SRel.kind r != (2 : Int)
 then (bif SRel.reclaim r == (0 : Int) then (bif SRel.uon r == false && (SRel.upk r == (0 : Int) && (SRel.udl r == (0 : Int) && true)) then (bif SRel.kind r == (4 : Int) then (bif
 SRel.oon r == false && (SRel.opk r == (0 : Int) && (SRel.odl r == (0 : Int) && true)) then (bif SRel.don r == false && (SRel.dpk r == (0 : Int) && (SRel.ddl r == (0 : Int) && true))
 then (bif SRel.ion r == false && (SRel.ipk r == (0 : Int) && (SRel.idl r == (0 : Int) && true)) then ((SRel.fon r == false && (SRel.fpk r == (0 : Int) && (SRel.fdl r == (0 : Int) &&
 true)))) else (false)) else (false)) else (false)) else (bif SRel.oon r == false && (SRel.opk r == (0 : Int) && (SRel.odl r == (0 : Int) && true)) then (bif SRel.diff r == (0 : Int)
 then (bif SRel.num r == (0 : Int) then (bif SRel.den r == (0 : Int) then ((SRel.harm r == (0 : Int))) else (false)) else (false)) else (false)) else (false))) else (bif SRel.kind r
 == (4 : Int) then (false) else (false))) else (bif SRel.kind r == (4 : Int) then (false) else (false))) else (bif SRel.kind r == (4 : Int) then (bif SRel.reclaim r == (0 : Int) then
 (bif SRel.don r == false && (SRel.dpk r == (0 : Int) && (SRel.ddl r == (0 : Int) && true)) then (bif SRel.ion r == false && (SRel.ipk r == (0 : Int) && (SRel.idl r == (0 : Int) &&
 true)) then ((SRel.fon r == false && (SRel.fpk r == (0 : Int) && (SRel.fdl r == (0 : Int) && true)))) else (false)) else (false)) else (false)) else (bif SRel.reclaim r == (0 : Int)
 then (bif SRel.diff r == (0 : Int) then (bif SRel.num r == (0 : Int) then (bif SRel.den r == (0 : Int) then ((SRel.harm r == (0 : Int))) else (false)) else (false)) else (false))
 else (false)))) else (bif SRel.kind r != (2 : Int) then (bif SRel.kind r == (4 : Int) then (false) else (false)) else (bif SRel.kind r == (4 : Int) then (false) else (false)))) else
 (bif SRel.kind r != (2 : Int) then (bif SRel.kind r == (4 : Int) then (false) else (false)) else (bif SRel.kind r == (4 : Int) then (false) else (false)))) else (bif SRel.kind r !=
 (2 : Int) then (bif SRel.kind r == (4 : Int) then (false) else (false)) else (bif SRel.kind r == (4 : Int) then (false) else (false)))) else (bif SRel.kind r != (2 : Int) then (bif
 SRel.kind r == (4 : Int) then (false) else (false)) else (bif SRel.kind r == (4 : Int) then (false) else (false)))) else (bif SRel.kind r != (2 : Int) then (bif SRel.kind r == (4 :
 Int) then (false) else (false)) else (bif SRel.kind r == (4 : Int) then (false) else (false)))) else (bif SRel.kind r != (2 : Int) then (bif SRel.kind r == (4 : Int) then (false)
 else (false)) else (bif SRel.kind r == (4 : Int) then (false) else (false)))) else (bif SRel.kind r != (2 : Int) then (bif SRel.kind r == (4 : Int) then (false) else (false)) else
 (bif SRel.kind r == (4 : Int) then (false) else (false)))) else (bif SRel.kind r != (2 : Int) then (bif SRel.kind r == (4 : Int) then (false) else (false)) else (bif SRel.kind r ==
 (4 : Int) then (false) else (false)))) else (bif SRel.kind r != (2 : Int) then (bif SRel.kind r == (4 : Int) then (false) else (false)) else (bif SRel.kind r == (4 : Int) then
 (false) else (false)))) else (bif SRel.kind r != (2 : Int) then (bif SRel.uon r == false && (SRel.upk r == (0 : Int) && (SRel.udl r == (0 : Int) && true)) then (bif SRel.kind r ==
 (4 : Int) then (bif SRel.oon r == false && (SRel.opk r == (0 : Int) && (SRel.odl r == (0 : Int) && true)) then (bif SRel.don r == false && (SRel.dpk r == (0 : Int) && (SRel.ddl r ==
 (0 : Int) && true)) then (bif SRel.ion r == false && (SRel.ipk r == (0 : Int) && (SRel.idl r == (0 : Int) && true)) then ((SRel.fon r == false && (SRel.fpk r == (0 : Int) &&
 (SRel.fdl r == (0 : Int) && true)))) else (false)) else (false)) else (false)) else (bif SRel.oon r == false && (SRel.opk r == (0 : Int) && (SRel.odl r == (0 : Int) && true)) then
 (bif SRel.diff r == (0 : Int) then (bif SRel.num r == (0 : Int) then (bif SRel.den r == (0 : Int) then ((SRel.harm r == (0 : Int))) else (false)) else (false)) else (false)) else
 (false))) else (bif SRel.kind r == (4 : Int) then (false) else (false))) else (bif SRel.kind r == (4 : Int) then (bif SRel.don r == false && (SRel.dpk r == (0 : Int) && (SRel.ddl r
 == (0 : Int) && true)) then (bif SRel.ion r == false && (SRel.ipk r == (0 : Int) && (SRel.idl r == (0 : Int) && true)) then ((SRel.fon r == false && (SRel.fpk r == (0 : Int) &&
 (SRel.fdl r == (0 : Int) && true)))) else (false)) else (false)) else (bif SRel.diff r == (0 : Int) then (bif SRel.num r == (0 : Int) then (bif SRel.den r == (0 : Int) then
 ((SRel.harm r == (0 : Int))) else (false)) else (false)) else (false)))))
set_option maxRecDepth 100000 in
theorem ev78 (r : SRel) : callC Tryz.prog oW3 na 5 Tryz.f78 (bodyOf Tryz.f78) [aRel r] [] = some (.leaf (vB (ev78_v r), [])) := by
  rw [ev78_t]
  unfold ev78_v
  simp only [bLeaf]
set_option maxRecDepth 100000 in
theorem ev79_t (r : SRel) : callC Tryz.prog oW3 na 5 Tryz.f79 (bodyOf Tryz.f79) [aRel r] [] =
 (bif !SRel.zon0 r then (bif !(SRel.zon0 r == false && (SRel.zfw0 r == false && (SRel.zx0 r == (0 : Int) && (SRel.zr0 r == (0 : Int) && (SRel.zl0 r == (0 : Int) && (SRel.zd0 r == (0
 : Int) && true)))))) then some (T.leaf (AV.c (C.d (D.v (Value.bool false))), [])) else (bif !SRel.zon1 r then (bif !(SRel.zon1 r == false && (SRel.zfw1 r == false && (SRel.zx1 r ==
 (0 : Int) && (SRel.zr1 r == (0 : Int) && (SRel.zl1 r == (0 : Int) && (SRel.zd1 r == (0 : Int) && true)))))) then some (T.leaf (AV.c (C.d (D.v (Value.bool false))), [])) else (bif
 !SRel.zon2 r then (bif !(SRel.zon2 r == false && (SRel.zfw2 r == false && (SRel.zx2 r == (0 : Int) && (SRel.zr2 r == (0 : Int) && (SRel.zl2 r == (0 : Int) && (SRel.zd2 r == (0 :
 Int) && true)))))) then some (T.leaf (AV.c (C.d (D.v (Value.bool false))), [])) else (bif SRel.min r == (0 : Int) then (bif SRel.kre r == (0 : Int) then some (T.leaf (AV.c (C.d (D.v
 (Value.bool (SRel.kim r == (0 : Int))))), [])) else some (T.leaf (AV.c (C.d (D.v (Value.bool false))), []))) else some (T.leaf (AV.c (C.d (D.v (Value.bool false))), [])))) else (bif
 !within (SRel.zx2 r) (1 : Int) (4000 : Int) then some (T.leaf (AV.c (C.d (D.v (Value.bool false))), [])) else (bif !within (SRel.zr2 r) (0 : Int) (4000 : Int) then some (T.leaf
 (AV.c (C.d (D.v (Value.bool false))), [])) else (bif !within (SRel.zl2 r) (0 : Int) (4000 : Int) then some (T.leaf (AV.c (C.d (D.v (Value.bool false))), [])) else (bif !within
 (SRel.zd2 r) (0 : Int) (500 : Int) then some (T.leaf (AV.c (C.d (D.v (Value.bool false))), [])) else (bif within (SRel.min r) (1 : Int) (16383 : Int) then (bif within (SRel.kre r)
 (-200 : Int) (200 : Int) then some (T.leaf (AV.c (C.d (D.v (Value.bool (within (SRel.kim r) (-200 : Int) (200 : Int))))), [])) else some (T.leaf (AV.c (C.d (D.v (Value.bool
 false))), []))) else some (T.leaf (AV.c (C.d (D.v (Value.bool false))), []))))))))) else (bif !within (SRel.zx1 r) (1 : Int) (4000 : Int) then some (T.leaf (AV.c (C.d (D.v
 (Value.bool false))), [])) else (bif !within (SRel.zr1 r) (0 : Int) (4000 : Int) then some (T.leaf (AV.c (C.d (D.v (Value.bool false))), [])) else (bif !within (SRel.zl1 r) (0 :
 Int) (4000 : Int) then some (T.leaf (AV.c (C.d (D.v (Value.bool false))), [])) else (bif !within (SRel.zd1 r) (0 : Int) (500 : Int) then some (T.leaf (AV.c (C.d (D.v (Value.bool
 false))), [])) else (bif !SRel.zon2 r then (bif !(SRel.zon2 r == false && (SRel.zfw2 r == false && (SRel.zx2 r == (0 : Int) && (SRel.zr2 r == (0 : Int) && (SRel.zl2 r == (0 : Int)
 && (SRel.zd2 r == (0 : Int) && true)))))) then some (T.leaf (AV.c (C.d (D.v (Value.bool false))), [])) else (bif within (SRel.min r) (1 : Int) (16383 : Int) then (bif within
 (SRel.kre r) (-200 : Int) (200 : Int) then some (T.leaf (AV.c (C.d (D.v (Value.bool (within (SRel.kim r) (-200 : Int) (200 : Int))))), [])) else some (T.leaf (AV.c (C.d (D.v
 (Value.bool false))), []))) else some (T.leaf (AV.c (C.d (D.v (Value.bool false))), [])))) else (bif !within (SRel.zx2 r) (1 : Int) (4000 : Int) then some (T.leaf (AV.c (C.d (D.v
 (Value.bool false))), [])) else (bif !within (SRel.zr2 r) (0 : Int) (4000 : Int) then some (T.leaf (AV.c (C.d (D.v (Value.bool false))), [])) else (bif !within (SRel.zl2 r) (0 :
 Int) (4000 : Int) then some (T.leaf (AV.c (C.d (D.v (Value.bool false))), [])) else (bif !within (SRel.zd2 r) (0 : Int) (500 : Int) then some (T.leaf (AV.c (C.d (D.v (Value.bool
 false))), [])) else (bif within (SRel.min r) (1 : Int) (16383 : Int) then (bif within (SRel.kre r) (-200 : Int) (200 : Int) then some (T.leaf (AV.c (C.d (D.v (Value.bool (within
 (SRel.kim r) (-200 : Int) (200 : Int))))), [])) else some (T.leaf (AV.c (C.d (D.v (Value.bool false))), []))) else some (T.leaf (AV.c (C.d (D.v (Value.bool false))),
 [])))))))))))))) else (bif !within (SRel.zx0 r) (1 : Int) (4000 : Int) then some (T.leaf (AV.c (C.d (D.v (Value.bool false))), [])) else (bif !within (SRel.zr0 r) (0 : Int) (4000 :
 Int) then some (T.leaf (AV.c (C.d (D.v (Value.bool false))), [])) else (bif !within (SRel.zl0 r) (0 : Int) (4000 : Int) then some (T.leaf (AV.c (C.d (D.v (Value.bool false))), []))
 else (bif !within (SRel.zd0 r) (0 : Int) (500 : Int) then some (T.leaf (AV.c (C.d (D.v (Value.bool false))), [])) else (bif !SRel.zon1 r then (bif !(SRel.zon1 r == false &&
 (SRel.zfw1 r == false && (SRel.zx1 r == (0 : Int) && (SRel.zr1 r == (0 : Int) && (SRel.zl1 r == (0 : Int) && (SRel.zd1 r == (0 : Int) && true)))))) then some (T.leaf (AV.c (C.d (D.v
 (Value.bool false))), [])) else (bif !SRel.zon2 r then (bif !(SRel.zon2 r == false && (SRel.zfw2 r == false && (SRel.zx2 r == (0 : Int) && (SRel.zr2 r == (0 : Int) && (SRel.zl2 r ==
 (0 : Int) && (SRel.zd2 r == (0 : Int) && true)))))) then some (T.leaf (AV.c (C.d (D.v (Value.bool false))), [])) else (bif within (SRel.min r) (1 : Int) (16383 : Int) then (bif
 within (SRel.kre r) (-200 : Int) (200 : Int) then some (T.leaf (AV.c (C.d (D.v (Value.bool (within (SRel.kim r) (-200 : Int) (200 : Int))))), [])) else some (T.leaf (AV.c (C.d (D.v
 (Value.bool false))), []))) else some (T.leaf (AV.c (C.d (D.v (Value.bool false))), [])))) else (bif !within (SRel.zx2 r) (1 : Int) (4000 : Int) then some (T.leaf (AV.c (C.d (D.v
 (Value.bool false))), [])) else (bif !within (SRel.zr2 r) (0 : Int) (4000 : Int) then some (T.leaf (AV.c (C.d (D.v (Value.bool false))), [])) else (bif !within (SRel.zl2 r) (0 :
 Int) (4000 : Int) then some (T.leaf (AV.c (C.d (D.v (Value.bool false))), [])) else (bif !within (SRel.zd2 r) (0 : Int) (500 : Int) then some (T.leaf (AV.c (C.d (D.v (Value.bool
 false))), [])) else (bif within (SRel.min r) (1 : Int) (16383 : Int) then (bif within (SRel.kre r) (-200 : Int) (200 : Int) then some (T.leaf (AV.c (C.d (D.v (Value.bool (within
 (SRel.kim r) (-200 : Int) (200 : Int))))), [])) else some (T.leaf (AV.c (C.d (D.v (Value.bool false))), []))) else some (T.leaf (AV.c (C.d (D.v (Value.bool false))), [])))))))))
 else (bif !within (SRel.zx1 r) (1 : Int) (4000 : Int) then some (T.leaf (AV.c (C.d (D.v (Value.bool false))), [])) else (bif !within (SRel.zr1 r) (0 : Int) (4000 : Int) then some
 (T.leaf (AV.c (C.d (D.v (Value.bool false))), [])) else (bif !within (SRel.zl1 r) (0 : Int) (4000 : Int) then some (T.leaf (AV.c (C.d (D.v (Value.bool false))), [])) else (bif
 !within (SRel.zd1 r) (0 : Int) (500 : Int) then some (T.leaf (AV.c (C.d (D.v (Value.bool false))), [])) else (bif !SRel.zon2 r then (bif !(SRel.zon2 r == false && (SRel.zfw2 r ==
 false && (SRel.zx2 r == (0 : Int) && (SRel.zr2 r == (0 : Int) && (SRel.zl2 r == (0 : Int) && (SRel.zd2 r == (0 : Int) && true)))))) then some (T.leaf (AV.c (C.d (D.v (Value.bool
 false))), [])) else (bif within (SRel.min r) (1 : Int) (16383 : Int) then (bif within (SRel.kre r) (-200 : Int) (200 : Int) then some (T.leaf (AV.c (C.d (D.v (Value.bool (within
 (SRel.kim r) (-200 : Int) (200 : Int))))), [])) else some (T.leaf (AV.c (C.d (D.v (Value.bool false))), []))) else some (T.leaf (AV.c (C.d (D.v (Value.bool false))), [])))) else
 (bif !within (SRel.zx2 r) (1 : Int) (4000 : Int) then some (T.leaf (AV.c (C.d (D.v (Value.bool false))), [])) else (bif !within (SRel.zr2 r) (0 : Int) (4000 : Int) then some (T.leaf
 (AV.c (C.d (D.v (Value.bool false))), [])) else (bif !within (SRel.zl2 r) (0 : Int) (4000 : Int) then some (T.leaf (AV.c (C.d (D.v (Value.bool false))), [])) else (bif !within
 (SRel.zd2 r) (0 : Int) (500 : Int) then some (T.leaf (AV.c (C.d (D.v (Value.bool false))), [])) else (bif within (SRel.min r) (1 : Int) (16383 : Int) then (bif within (SRel.kre r)
 (-200 : Int) (200 : Int) then some (T.leaf (AV.c (C.d (D.v (Value.bool (within (SRel.kim r) (-200 : Int) (200 : Int))))), [])) else some (T.leaf (AV.c (C.d (D.v (Value.bool
 false))), []))) else some (T.leaf (AV.c (C.d (D.v (Value.bool false))), [])))))))))))))))))) := by kernel_rfl
noncomputable def ev79_v (r : SRel) : Bool :=
 (bif !SRel.zon0 r then (bif !(SRel.zon0 r == false && (SRel.zfw0 r == false && (SRel.zx0 r == (0 : Int) && (SRel.zr0 r == (0 : Int) && (SRel.zl0 r == (0 : Int) && (SRel.zd0 r == (0
 : Int) && true)))))) then (false) else (bif !SRel.zon1 r then (bif !(SRel.zon1 r == false && (SRel.zfw1 r == false && (SRel.zx1 r == (0 : Int) && (SRel.zr1 r == (0 : Int) &&
 (SRel.zl1 r == (0 : Int) && (SRel.zd1 r == (0 : Int) && true)))))) then (false) else (bif !SRel.zon2 r then (bif !(SRel.zon2 r == false && (SRel.zfw2 r == false && (SRel.zx2 r == (0
 : Int) && (SRel.zr2 r == (0 : Int) && (SRel.zl2 r == (0 : Int) && (SRel.zd2 r == (0 : Int) && true)))))) then (false) else (bif SRel.min r == (0 : Int) then (bif SRel.kre r == (0 :
 Int) then ((SRel.kim r == (0 : Int))) else (false)) else (false))) else (bif !within (SRel.zx2 r) (1 : Int) (4000 : Int) then (false) else (bif !within (SRel.zr2 r) (0 : Int) (4000
 : Int) then (false) else (bif !within (SRel.zl2 r) (0 : Int) (4000 : Int) then (false) else (bif !within (SRel.zd2 r) (0 : Int) (500 : Int) then (false) else (bif within (SRel.min
 r) (1 : Int) (16383 : Int) then (bif within (SRel.kre r) (-200 : Int) (200 : Int) then ((within (SRel.kim r) (-200 : Int) (200 : Int))) else (false)) else (false)))))))) else (bif
 !within (SRel.zx1 r) (1 : Int) (4000 : Int) then (false) else (bif !within (SRel.zr1 r) (0 : Int) (4000 : Int) then (false) else (bif !within (SRel.zl1 r) (0 : Int) (4000 : Int)
 then (false) else (bif !within (SRel.zd1 r) (0 : Int) (500 : Int) then (false) else (bif !SRel.zon2 r then (bif !(SRel.zon2 r == false && (SRel.zfw2 r == false && (SRel.zx2 r == (0
 : Int) && (SRel.zr2 r == (0 : Int) && (SRel.zl2 r == (0 : Int) && (SRel.zd2 r == (0 : Int) && true)))))) then (false) else (bif within (SRel.min r) (1 : Int) (16383 : Int) then (bif
 within (SRel.kre r) (-200 : Int) (200 : Int) then ((within (SRel.kim r) (-200 : Int) (200 : Int))) else (false)) else (false))) else (bif !within (SRel.zx2 r) (1 : Int) (4000 : Int)
 then (false) else (bif !within (SRel.zr2 r) (0 : Int) (4000 : Int) then (false) else (bif !within (SRel.zl2 r) (0 : Int) (4000 : Int) then (false) else (bif !within (SRel.zd2 r) (0
 : Int) (500 : Int) then (false) else (bif within (SRel.min r) (1 : Int) (16383 : Int) then (bif within (SRel.kre r) (-200 : Int) (200 : Int) then ((within (SRel.kim r) (-200 : Int)
 (200 : Int))) else (false)) else (false))))))))))))) else (bif !within (SRel.zx0 r) (1 : Int) (4000 : Int) then (false) else (bif !within (SRel.zr0 r) (0 : Int) (4000 : Int) then
 (false) else (bif !within (SRel.zl0 r) (0 : Int) (4000 : Int) then (false) else (bif !within (SRel.zd0 r) (0 : Int) (500 : Int) then (false) else (bif !SRel.zon1 r then (bif
 !(SRel.zon1 r == false && (SRel.zfw1 r == false && (SRel.zx1 r == (0 : Int) && (SRel.zr1 r == (0 : Int) && (SRel.zl1 r == (0 : Int) && (SRel.zd1 r == (0 : Int) && true)))))) then
 (false) else (bif !SRel.zon2 r then (bif !(SRel.zon2 r == false && (SRel.zfw2 r == false && (SRel.zx2 r == (0 : Int) && (SRel.zr2 r == (0 : Int) && (SRel.zl2 r == (0 : Int) &&
 (SRel.zd2 r == (0 : Int) && true)))))) then (false) else (bif within (SRel.min r) (1 : Int) (16383 : Int) then (bif within (SRel.kre r) (-200 : Int) (200 : Int) then ((within
 (SRel.kim r) (-200 : Int) (200 : Int))) else (false)) else (false))) else (bif !within (SRel.zx2 r) (1 : Int) (4000 : Int) then (false) else (bif !within (SRel.zr2 r) (0 : Int)
 (4000 : Int) then (false) else (bif !within (SRel.zl2 r) (0 : Int) (4000 : Int) then (false) else (bif !within (SRel.zd2 r) (0 : Int) (500 : Int) then (false) else (bif within
 (SRel.min r) (1 : Int) (16383 : Int) then (bif within (SRel.kre r) (-200 : Int) (200 : Int) then ((within (SRel.kim r) (-200 : Int) (200 : Int))) else (false)) else (false))))))))
 else (bif !within (SRel.zx1 r) (1 : Int) (4000 : Int) then (false) else (bif !within (SRel.zr1 r) (0 : Int) (4000 : Int) then (false) else (bif !within (SRel.zl1 r) (0 : Int) (4000
 : Int) then (false) else (bif !within (SRel.zd1 r) (0 : Int) (500 : Int) then (false) else (bif !SRel.zon2 r then (bif !(SRel.zon2 r == false && (SRel.zfw2 r == false && (SRel.zx2 r
 == (0 : Int) && (SRel.zr2 r == (0 : Int) && (SRel.zl2 r == (0 : Int) && (SRel.zd2 r == (0 : Int) && true)))))) then (false) else (bif within (SRel.min r) (1 : Int) (16383 : Int)
 then (bif within (SRel.kre r) (-200 : Int) (200 : Int) then ((within (SRel.kim r) (-200 : Int) (200 : Int))) else (false)) else (false))) else (bif !within (SRel.zx2 r) (1 : Int)
 (4000 : Int) then (false) else (bif !within (SRel.zr2 r) (0 : Int) (4000 : Int) then (false) else (bif !within (SRel.zl2 r) (0 : Int) (4000 : Int) then (false) else (bif !within
 (SRel.zd2 r) (0 : Int) (500 : Int) then (false) else (bif within (SRel.min r) (1 : Int) (16383 : Int) then (bif within (SRel.kre r) (-200 : Int) (200 : Int) then ((within (SRel.kim
 r) (-200 : Int) (200 : Int))) else (false)) else (false)))))))))))))))))
set_option maxRecDepth 100000 in
theorem ev79 (r : SRel) : callC Tryz.prog oW3 na 5 Tryz.f79 (bodyOf Tryz.f79) [aRel r] [] = some (.leaf (vB (ev79_v r), [])) := by
  rw [ev79_t]
  unfold ev79_v
  simp only [bLeaf]
set_option maxRecDepth 100000 in
theorem ev80_t (r : SRel) : callC Tryz.prog oW3 na 5 Tryz.f80 (bodyOf Tryz.f80) [aRel r] [] =
 (bif !within (SRel.scheme r) (0 : Int) (3 : Int) then some (T.leaf (AV.c (C.d (D.v (Value.bool false))), [])) else (bif SRel.scheme r == (3 : Int) then (bif !within (SRel.wait r) (1
 : Int) (50 : Int) then some (T.leaf (AV.c (C.d (D.v (Value.bool false))), [])) else (bif SRel.scheme r == (0 : Int) then some (T.leaf (AV.c (C.d (D.v (Value.bool (SRel.guard r == (0
 : Int))))), [])) else some (T.leaf (AV.c (C.d (D.v (Value.bool (within (SRel.guard r) (0 : Int) (50 : Int))))), [])))) else (bif SRel.wait r != (0 : Int) then some (T.leaf (AV.c
 (C.d (D.v (Value.bool false))), [])) else (bif SRel.scheme r == (0 : Int) then some (T.leaf (AV.c (C.d (D.v (Value.bool (SRel.guard r == (0 : Int))))), [])) else some (T.leaf (AV.c
 (C.d (D.v (Value.bool (within (SRel.guard r) (0 : Int) (50 : Int))))), [])))))) := by kernel_rfl
noncomputable def ev80_v (r : SRel) : Bool :=
 (bif !within (SRel.scheme r) (0 : Int) (3 : Int) then (false) else (bif SRel.scheme r == (3 : Int) then (bif !within (SRel.wait r) (1 : Int) (50 : Int) then (false) else (bif
 SRel.scheme r == (0 : Int) then ((SRel.guard r == (0 : Int))) else ((within (SRel.guard r) (0 : Int) (50 : Int))))) else (bif SRel.wait r != (0 : Int) then (false) else (bif
 SRel.scheme r == (0 : Int) then ((SRel.guard r == (0 : Int))) else ((within (SRel.guard r) (0 : Int) (50 : Int)))))))
set_option maxRecDepth 100000 in
theorem ev80 (r : SRel) : callC Tryz.prog oW3 na 5 Tryz.f80 (bodyOf Tryz.f80) [aRel r] [] = some (.leaf (vB (ev80_v r), [])) := by
  rw [ev80_t]
  unfold ev80_v
  simp only [bLeaf]
set_option maxRecDepth 100000 in
theorem ev81_t (r : SRel) : callC Tryz.prog oE3 na 5 Tryz.f81 (bodyOf Tryz.f81) [aRel r] [] =
 (bif SRel.ion r then (bif !within (SRel.ipk r) (1 : Int) (16383 : Int) then some (T.leaf (AV.c (C.d (D.v (Value.bool false))), [])) else (bif !within (SRel.idl r) (1 : Int) (1000 :
 Int) then some (T.leaf (AV.c (C.d (D.v (Value.bool false))), [])) else (bif elOk (SRel.don r) (SRel.dpk r) (SRel.ddl r) (0 : Int) then (bif elOk (SRel.uon r) (SRel.upk r) (SRel.udl
 r) (0 : Int) then (bif elOk (SRel.oon r) (SRel.opk r) (SRel.odl r) (0 : Int) then some (T.leaf (AV.c (C.d (D.v (Value.bool (elOk (SRel.fon r) (SRel.fpk r) (SRel.fdl r) (1 :
 Int))))), [])) else some (T.leaf (AV.c (C.d (D.v (Value.bool false))), []))) else some (T.leaf (AV.c (C.d (D.v (Value.bool false))), []))) else some (T.leaf (AV.c (C.d (D.v
 (Value.bool false))), []))))) else (bif !(SRel.ion r == false && (SRel.ipk r == (0 : Int) && (SRel.idl r == (0 : Int) && true))) then some (T.leaf (AV.c (C.d (D.v (Value.bool
 false))), [])) else (bif elOk (SRel.don r) (SRel.dpk r) (SRel.ddl r) (0 : Int) then (bif elOk (SRel.uon r) (SRel.upk r) (SRel.udl r) (0 : Int) then (bif elOk (SRel.oon r) (SRel.opk
 r) (SRel.odl r) (0 : Int) then some (T.leaf (AV.c (C.d (D.v (Value.bool (elOk (SRel.fon r) (SRel.fpk r) (SRel.fdl r) (1 : Int))))), [])) else some (T.leaf (AV.c (C.d (D.v
 (Value.bool false))), []))) else some (T.leaf (AV.c (C.d (D.v (Value.bool false))), []))) else some (T.leaf (AV.c (C.d (D.v (Value.bool false))), []))))) := by kernel_rfl
noncomputable def ev81_v (r : SRel) : Bool :=
 (bif SRel.ion r then (bif !within (SRel.ipk r) (1 : Int) (16383 : Int) then (false) else (bif !within (SRel.idl r) (1 : Int) (1000 : Int) then (false) else (bif elOk (SRel.don r)
 (SRel.dpk r) (SRel.ddl r) (0 : Int) then (bif elOk (SRel.uon r) (SRel.upk r) (SRel.udl r) (0 : Int) then (bif elOk (SRel.oon r) (SRel.opk r) (SRel.odl r) (0 : Int) then ((elOk
 (SRel.fon r) (SRel.fpk r) (SRel.fdl r) (1 : Int))) else (false)) else (false)) else (false)))) else (bif !(SRel.ion r == false && (SRel.ipk r == (0 : Int) && (SRel.idl r == (0 :
 Int) && true))) then (false) else (bif elOk (SRel.don r) (SRel.dpk r) (SRel.ddl r) (0 : Int) then (bif elOk (SRel.uon r) (SRel.upk r) (SRel.udl r) (0 : Int) then (bif elOk (SRel.oon
 r) (SRel.opk r) (SRel.odl r) (0 : Int) then ((elOk (SRel.fon r) (SRel.fpk r) (SRel.fdl r) (1 : Int))) else (false)) else (false)) else (false))))
set_option maxRecDepth 100000 in
theorem ev81 (r : SRel) : callC Tryz.prog oE3 na 5 Tryz.f81 (bodyOf Tryz.f81) [aRel r] [] = some (.leaf (vB (ev81_v r), [])) := by
  rw [ev81_t]
  unfold ev81_v
  simp only [bLeaf]
set_option maxRecDepth 100000 in
theorem ev82_t (r : SRel) : callC Tryz.prog oW3 na 5 Tryz.f82 (bodyOf Tryz.f82) [aRel r] [] =
 (bif SRel.shots r == (0 : Int) then (bif SRel.dead r != (0 : Int) then some (T.leaf (AV.c (C.d (D.v (Value.bool false))), [])) else (bif SRel.reclaim r != (0 : Int) then some
 (T.leaf (AV.c (C.d (D.v (Value.bool false))), [])) else (bif SRel.diff r == (0 : Int) then (bif SRel.num r == (0 : Int) then (bif SRel.den r == (0 : Int) then some (T.leaf (AV.c
 (C.d (D.v (Value.bool (SRel.harm r == (0 : Int))))), [])) else some (T.leaf (AV.c (C.d (D.v (Value.bool false))), []))) else some (T.leaf (AV.c (C.d (D.v (Value.bool false))), [])))
 else (bif within (SRel.diff r) (1 : Int) (16383 : Int) then (bif within (SRel.den r) (1 : Int) (100 : Int) then (bif within (SRel.num r) (0 : Int) (SRel.den r) then some (T.leaf
 (AV.c (C.d (D.v (Value.bool (within (SRel.harm r) (0 : Int) (100 : Int))))), [])) else some (T.leaf (AV.c (C.d (D.v (Value.bool false))), []))) else some (T.leaf (AV.c (C.d (D.v
 (Value.bool false))), []))) else some (T.leaf (AV.c (C.d (D.v (Value.bool false))), [])))))) else (bif !within (SRel.shots r) (1 : Int) (3 : Int) then some (T.leaf (AV.c (C.d (D.v
 (Value.bool false))), [])) else (bif !within (SRel.dead r) (1 : Int) (100 : Int) then some (T.leaf (AV.c (C.d (D.v (Value.bool false))), [])) else (bif !within (SRel.reclaim r) (1 :
 Int) (1000 : Int) then some (T.leaf (AV.c (C.d (D.v (Value.bool false))), [])) else (bif SRel.diff r == (0 : Int) then (bif SRel.num r == (0 : Int) then (bif SRel.den r == (0 : Int)
 then some (T.leaf (AV.c (C.d (D.v (Value.bool (SRel.harm r == (0 : Int))))), [])) else some (T.leaf (AV.c (C.d (D.v (Value.bool false))), []))) else some (T.leaf (AV.c (C.d (D.v
 (Value.bool false))), []))) else (bif within (SRel.diff r) (1 : Int) (16383 : Int) then (bif within (SRel.den r) (1 : Int) (100 : Int) then (bif within (SRel.num r) (0 : Int)
 (SRel.den r) then some (T.leaf (AV.c (C.d (D.v (Value.bool (within (SRel.harm r) (0 : Int) (100 : Int))))), [])) else some (T.leaf (AV.c (C.d (D.v (Value.bool false))), []))) else
 some (T.leaf (AV.c (C.d (D.v (Value.bool false))), []))) else some (T.leaf (AV.c (C.d (D.v (Value.bool false))), [])))))))) := by kernel_rfl
noncomputable def ev82_v (r : SRel) : Bool :=
 (bif SRel.shots r == (0 : Int) then (bif SRel.dead r != (0 : Int) then (false) else (bif SRel.reclaim r != (0 : Int) then (false) else (bif SRel.diff r == (0 : Int) then (bif
 SRel.num r == (0 : Int) then (bif SRel.den r == (0 : Int) then ((SRel.harm r == (0 : Int))) else (false)) else (false)) else (bif within (SRel.diff r) (1 : Int) (16383 : Int) then
 (bif within (SRel.den r) (1 : Int) (100 : Int) then (bif within (SRel.num r) (0 : Int) (SRel.den r) then ((within (SRel.harm r) (0 : Int) (100 : Int))) else (false)) else (false))
 else (false))))) else (bif !within (SRel.shots r) (1 : Int) (3 : Int) then (false) else (bif !within (SRel.dead r) (1 : Int) (100 : Int) then (false) else (bif !within (SRel.reclaim
 r) (1 : Int) (1000 : Int) then (false) else (bif SRel.diff r == (0 : Int) then (bif SRel.num r == (0 : Int) then (bif SRel.den r == (0 : Int) then ((SRel.harm r == (0 : Int))) else
 (false)) else (false)) else (bif within (SRel.diff r) (1 : Int) (16383 : Int) then (bif within (SRel.den r) (1 : Int) (100 : Int) then (bif within (SRel.num r) (0 : Int) (SRel.den
 r) then ((within (SRel.harm r) (0 : Int) (100 : Int))) else (false)) else (false)) else (false)))))))
set_option maxRecDepth 100000 in
theorem ev82 (r : SRel) : callC Tryz.prog oW3 na 5 Tryz.f82 (bodyOf Tryz.f82) [aRel r] [] = some (.leaf (vB (ev82_v r), [])) := by
  rw [ev82_t]
  unfold ev82_v
  simp only [bLeaf]
set_option maxRecDepth 100000 in
theorem ev83_t (r : SRel) : callC Tryz.prog oZo na 5 Tryz.f83 (bodyOf Tryz.f83) [aRel r] [] =
 (bif SRel.scheme r == (1 : Int) then (bif SRel.zon0 r then (bif SRel.zfw0 r then (bif SRel.zon1 r then some (T.leaf (AV.c (C.d (D.v (Value.bool (SRel.zfw1 r)))), [])) else some
 (T.leaf (AV.c (C.d (D.v (Value.bool false))), []))) else some (T.leaf (AV.c (C.d (D.v (Value.bool false))), []))) else some (T.leaf (AV.c (C.d (D.v (Value.bool false))), []))) else
 (bif SRel.scheme r == (2 : Int) then (bif SRel.zon1 r then some (T.leaf (AV.c (C.d (D.v (Value.bool (SRel.zfw1 r)))), [])) else some (T.leaf (AV.c (C.d (D.v (Value.bool false))),
 []))) else (bif SRel.scheme r == (3 : Int) then (bif SRel.zon1 r then (bif SRel.zfw1 r then (bif SRel.zon2 r then some (T.leaf (AV.c (C.d (D.v (Value.bool !SRel.zfw2 r))), [])) else
 some (T.leaf (AV.c (C.d (D.v (Value.bool false))), []))) else some (T.leaf (AV.c (C.d (D.v (Value.bool false))), []))) else some (T.leaf (AV.c (C.d (D.v (Value.bool false))), [])))
 else some (T.leaf (AV.c (C.d (D.v (Value.bool true))), []))))) := by kernel_rfl
noncomputable def ev83_v (r : SRel) : Bool :=
 (bif SRel.scheme r == (1 : Int) then (bif SRel.zon0 r then (bif SRel.zfw0 r then (bif SRel.zon1 r then ((SRel.zfw1 r)) else (false)) else (false)) else (false)) else (bif
 SRel.scheme r == (2 : Int) then (bif SRel.zon1 r then ((SRel.zfw1 r)) else (false)) else (bif SRel.scheme r == (3 : Int) then (bif SRel.zon1 r then (bif SRel.zfw1 r then (bif
 SRel.zon2 r then (!SRel.zfw2 r) else (false)) else (false)) else (false)) else (true))))
set_option maxRecDepth 100000 in
theorem ev83 (r : SRel) : callC Tryz.prog oZo na 5 Tryz.f83 (bodyOf Tryz.f83) [aRel r] [] = some (.leaf (vB (ev83_v r), [])) := by
  rw [ev83_t]
  unfold ev83_v
  simp only [bLeaf]
end Go.Proofs.YtngoglhlhlfknaaGreat.se
namespace Go.Proofs.YtngoglhlhlfknaaGreat.se
open Go.RowKit Go.Eb Go.Proofs.YtngoglhlhlfknaaGreat.st
set_option maxRecDepth 100000

theorem sWi : OrcS Tryz.prog oWi := .cons (.inl .nil Tryz.func108 (by kernel_rfl)) .nil
theorem cWi (a : Int × Int × Int) : CX Tryz.prog 108 [vI a.1, vI a.2.1, vI a.2.2] [] (vB (within a.1 a.2.1 a.2.2)) [] := by
  refine cx_of (Orc.nil_ok _) Tryz.func108 (by kernel_rfl) rfl ((evWi a.1 a.2.1 a.2.2).trans ?_)
  unfold evWi_v within
  cases decide (a.1 ≥ a.2.1) <;> rfl
theorem sW3 : OrcS Tryz.prog oW3 := .cons (.p dec3_ok cWi) .nil
theorem cEl (a : Bool × Int × Int × Int) : CX Tryz.prog 110 [.agg [.d (dB a.1), .d (dI a.2.1), .d (dI a.2.2.1)], vI a.2.2.2] [] (vB (elOk a.1 a.2.1 a.2.2.1 a.2.2.2)) [] := by
  refine cx_of sW3.ok Tryz.func110 (by kernel_rfl) rfl ((evEl a.1 a.2.1 a.2.2.1 a.2.2.2).trans ?_)
  unfold evEl_v elOk
  cases a.1 <;> cases (a.2.1 == 0) <;> cases (a.2.2.1 == 0) <;> cases within a.2.1 1 16383 <;> rfl
theorem sE3 : OrcS Tryz.prog oE3 := .cons (.p decE_ok cEl) sW3
theorem sZo : OrcS Tryz.prog oZo := .cons (.inl sW3 Tryz.func111 (by kernel_rfl)) sW3
theorem c78 (r : SRel) : CX Tryz.prog 78 [aRel r] [] (vB (ev78_v r)) [] := cx_of sW3.ok Tryz.func78 (by kernel_rfl) rfl (ev78 r)
theorem c79 (r : SRel) : CX Tryz.prog 79 [aRel r] [] (vB (ev79_v r)) [] := cx_of sW3.ok Tryz.func79 (by kernel_rfl) rfl (ev79 r)
theorem c80 (r : SRel) : CX Tryz.prog 80 [aRel r] [] (vB (ev80_v r)) [] := cx_of sW3.ok Tryz.func80 (by kernel_rfl) rfl (ev80 r)
theorem c81 (r : SRel) : CX Tryz.prog 81 [aRel r] [] (vB (ev81_v r)) [] := cx_of sE3.ok Tryz.func81 (by kernel_rfl) rfl (ev81 r)
theorem c82 (r : SRel) : CX Tryz.prog 82 [aRel r] [] (vB (ev82_v r)) [] := cx_of sW3.ok Tryz.func82 (by kernel_rfl) rfl (ev82 r)
theorem c83 (r : SRel) : CX Tryz.prog 83 [aRel r] [] (vB (ev83_v r)) [] := cx_of sZo.ok Tryz.func83 (by kernel_rfl) rfl (ev83 r)

/-! lists -/
def enRu (l : List SRule) : List AV := [.agg [.d (dF 114), .d (dF 116), .d (dF 117)], .c (.d (rulesD l))]
def enSe (l : List SSet) : List AV := [.agg [.d (dF 118), .d (dF 120), .d dNF], .c (.d (setsD l))]
def enPu (l : List SPub) : List AV := [.agg [.d (dF 121), .d (dF 122), .d (dF 123)], .c (.d (pubsD l))]
def enSu (l : List SSub) : List AV := [.agg [.d (dF 124), .d (dF 125), .d dNF], .c (.d (subsD l))]
theorem enRu_inj : InjT enRu := fun a b h => listD_inj ruleC_inj _ _ (ale_c (asle_cons (asle_cons h).2).1)
theorem enSe_inj : InjT enSe := fun a b h => listD_inj setC_inj _ _ (ale_c (asle_cons (asle_cons h).2).1)
theorem enPu_inj : InjT enPu := fun a b h => listD_inj pubC_inj _ _ (ale_c (asle_cons (asle_cons h).2).1)
theorem enSu_inj : InjT enSu := fun a b h => listD_inj subC_inj _ _ (ale_c (asle_cons (asle_cons h).2).1)
noncomputable def eRules (l : List SRule) : Int := listErr ruleOk SRule.name (fun x => textErr x.text) [] l
def eSets (l : List SSet) : Int := listErr setOk SSet.name rest0 [] l
noncomputable def ePubs (l : List SPub) : Int := listErr pubOk SPub.set ev123_v [] l
def eSubs (l : List SSub) : Int := listErr subOk SSub.loc rest0 [] l
def cSe (l : List SSet) : Bool := lenOk l && l.all okSet
noncomputable def eLists (r : SRel) : Int := bif eRules r.rules != 0 then eRules r.rules else bif eSets r.sets != 0 then eSets r.sets else bif ePubs r.pubs != 0 then ePubs r.pubs else eSubs r.subs
theorem s85 : OrcS Tryz.prog (o85 (okG enRu lenOk) (okG enSe cSe) (okG enPu lenOk) (okG enSu lenOk) (fun x => eRules (theT enRu x)) (fun x => eSets (theT enSe x)) (fun x => ePubs (theT enPu x)) fun x => eSubs (theT enSu x)) := by
  refine .cons (.t' (r := fun a => vI (eRules a)) fun a h => c126 a h) (.cons (.t' (r := fun a => vI (eSets a)) fun a h => ?_) (.cons (.t' (r := fun a => vI (ePubs a)) fun a h => c128 a h) (.cons (.t' (r := fun a => vI (eSubs a)) fun a h => c129 a h) .nil)))
  unfold cSe at h
  simp only [Bool.and_eq_true] at h
  exact c127 a h.1 h.2
theorem c85 (r : SRel) (hr : okRel r = true) : CX Tryz.prog 85 [aRel r] [] (vI (eLists r)) [] := by
  refine cx_of s85.ok Tryz.func85 b85 rfl ((ev85 _ _ _ _ _ _ _ _ r 1).trans ?_)
  unfold okRel at hr
  simp only [Bool.and_eq_true] at hr
  obtain ⟨h1, h2, h3, h4, h5⟩ := hr
  have k1 := okG_enc enRu_inj (c := lenOk) r.rules h1
  have k2 := okG_enc enSe_inj (c := cSe) r.sets (by unfold cSe; rw [h2, h5]; rfl)
  have k3 := okG_enc enPu_inj (c := lenOk) r.pubs h3
  have k4 := okG_enc enSu_inj (c := lenOk) r.subs h4
  have t1 := theT_enc enRu_inj r.rules
  have t2 := theT_enc enSe_inj r.sets
  have t3 := theT_enc enPu_inj r.pubs
  have t4 := theT_enc enSu_inj r.subs
  unfold enRu at k1 t1
  unfold enSe at k2 t2
  unfold enPu at k3 t3
  unfold enSu at k4 t4
  unfold enRu enSe enPu enSu
  rw [k1, t1, k2, t2, k3, t3, k4, t4]
  unfold eLists
  simp only [cond_true]
  cases (eRules r.rules != 0) <;> cases (eSets r.sets != 0) <;> cases (ePubs r.pubs != 0) <;> rfl

/-! counts -/
def setBad (x : SSet) : Bool := !(decide (1 ≤ x.sigs.length) && decide (x.sigs.length ≤ 24))
theorem s113 : OrcS Tryz.prog o113 := .cons (.inl sWi Tryz.func112 (by kernel_rfl)) .nil
theorem c141 (l : List SSet) (hl : lenOk l = true) : CX Tryz.prog 141 [.c (.d (setsD l)), .c (.d (dF 112))] [] (vI (idxP setBad 0 l)) [] := by
  obtain ⟨g, hg⟩ : ∃ g, l.length < g := ⟨l.length + 1, by omega⟩
  refine cx_of s113.ok Tryz.func141 b141 rfl ((ev141 l g).trans ?_)
  have := idx_loop (p := setBad) (l := l) (d0 := set0) (L := fun m i => L141_2 l g m i) (fun m k hk => by
    have e1 : ∀ n : Nat, decide ((n : Int) ≥ 1) = decide (1 ≤ n) := fun n => by rw [Bool.eq_iff_iff, decide_eq_true_eq, decide_eq_true_eq]; omega
    have e2 : ∀ n : Nat, decide ((n : Int) ≤ 24) = decide (n ≤ 24) := fun n => by rw [Bool.eq_iff_iff, decide_eq_true_eq, decide_eq_true_eq]; omega
    rw [st141_2, lt1 hk, ge0, tn, nx hk (lenOk_le hl), e1, e2]
    unfold setBad
    simp only [tt, cond_true]
    cases decide (1 ≤ (l.getD k set0).sigs.length) <;> cases decide ((l.getD k set0).sigs.length ≤ 24) <;> rfl) (fun m => by rw [st141_2, lt0 (Nat.lt_irrefl _)]; rfl) g 0 (by omega) (by omega)
  exact this
abbrev eCt := en2 (aD setsD) (eFn 112)
theorem eCt_inj : InjT eCt := en2_inj (aD_inj (listD_inj (sz := 2) (d0 := set0) setC_inj)) (eFn_inj _)
def countsOk (r : SRel) : Bool := decide (r.rules.length ≤ 16) && (decide (r.sets.length ≤ 4) && (decide (r.pubs.length ≤ 4) && (decide (r.subs.length ≤ 24) && !r.sets.any setBad)))
theorem c84 (r : SRel) (hr : okRel r = true) : CX Tryz.prog 84 [aRel r] [] (vB (countsOk r)) [] := by
  have hs : OrcS Tryz.prog (o84 (okG eCt cLen) fun x => idxP setBad 0 (theT eCt x).1) := .cons (.inl (.cons (.t' (r := fun (a : List SSet × Unit) => vI (idxP setBad 0 a.1)) fun a h => c141 a.1 h) .nil) Tryz.func113 (by kernel_rfl)) .nil
  refine cx_of hs.ok Tryz.func84 b84 rfl ((ev84 _ _ r 1).trans ?_)
  unfold okRel at hr
  simp only [Bool.and_eq_true] at hr
  have k := okG_enc eCt_inj (c := cLen) (r.sets, ()) hr.2.1
  have t := theT_enc eCt_inj (r.sets, ())
  simp only [en2, aD, eFn] at k t
  rw [k, t, idxP_ge]
  have e1 : ∀ n : Nat, decide ((n : Int) ≤ 16) = decide (n ≤ 16) := fun n => by rw [Bool.eq_iff_iff, decide_eq_true_eq, decide_eq_true_eq]; omega
  have e2 : ∀ n : Nat, decide ((n : Int) ≤ 4) = decide (n ≤ 4) := fun n => by rw [Bool.eq_iff_iff, decide_eq_true_eq, decide_eq_true_eq]; omega
  have e3 : ∀ n : Nat, decide ((n : Int) ≤ 24) = decide (n ≤ 24) := fun n => by rw [Bool.eq_iff_iff, decide_eq_true_eq, decide_eq_true_eq]; omega
  unfold countsOk
  simp only [e1, e2, e3]
  cases decide (r.rules.length ≤ 16) <;> cases decide (r.sets.length ≤ 4) <;> cases decide (r.pubs.length ≤ 4) <;> cases decide (r.subs.length ≤ 24) <;> rfl
end Go.Proofs.YtngoglhlhlfknaaGreat.se
namespace Go.Eb
open Go.RowKit

structure Wd where
  text : ByteArray
  q : Bool

inductive It where
  | mk (line : Int) (words : List Wd) (block : Bool) (kids : List It)

namespace It
def line : It → Int | mk l _ _ _ => l
def words : It → List Wd | mk _ w _ _ => w
def block : It → Bool | mk _ _ b _ => b
def kids : It → List It | mk _ _ _ k => k
theorem eta (x : It) : x = mk x.line x.words x.block x.kids := by cases x; rfl
end It

def w0 : Wd := ⟨ByteArray.mk #[], false⟩
def i0 : It := .mk 0 [] false []

def wcells (w : Wd) : List D := [.v (.string w.text), .v (.bool w.q)]
def wordsD (l : List Wd) : D := .sl 2 l.length fun i => wcells (l.getD i w0)

def kidF : List It → Nat → List D
  | [], _ => []
  | .mk l w b k :: _, 0 => [.v (.int .i64 l), wordsD w, .v (.bool b), .sl 4 k.length (kidF k)]
  | _ :: r, i + 1 => kidF r i
/-- a statement's own statements -/
def kidsD (x : It) : D := .sl 4 x.kids.length (kidF x.kids)

def icells (x : It) : List D := [.v (.int .i64 x.line), wordsD x.words, .v (.bool x.block), kidsD x]
def itemsD (l : List It) : D := .sl 4 l.length fun i => icells (l.getD i i0)

theorem kidF_eq : ∀ (l : List It) (i : Nat), i < l.length → kidF l i = icells (l.getD i i0)
  | [], i, h => by simp at h
  | .mk a b c k :: r, 0, _ => by simp only [kidF, List.getD_cons_zero, icells, kidsD, It.line, It.words, It.block, It.kids]
  | x :: r, i + 1, h => by simp only [kidF, List.getD_cons_succ]; exact kidF_eq r i (by simpa using h)

theorem kidsD_de (x : It) : DE (kidsD x) (itemsD x.kids) := by
  exact .sl_eq fun i hi => kidF_eq x.kids i hi
theorem itemsD_de (x : It) : DE (itemsD x.kids) (kidsD x) := by
  exact .sl_eq fun i hi => (kidF_eq x.kids i hi).symm

theorem de_v {a b : Value} (h : DE (.v a) (.v b)) : a = b := by cases h; rfl
theorem de_sl {sz n sz' m : Nat} {f g : Nat → List D} (h : DE (.sl sz n f) (.sl sz' m g)) : sz = sz' ∧ n = m ∧ ∀ i, i < n → DEs (f i) (g i) := by
  cases h with
  | sl _ _ _ _ h1 h2 => exact ⟨rfl, rfl, fun i hi => ⟨h1 i hi, fun j d e hd he => h2 i j d e hi hd he⟩⟩

theorem wcells_inj {a b : Wd} (h : DEs (wcells a) (wcells b)) : a = b := by
  have h1 := de_v (h.2 0 _ _ rfl rfl)
  have h2 := de_v (h.2 1 _ _ rfl rfl)
  cases a; cases b
  simp at h1 h2
  rw [h1, h2]

theorem list_ext {α : Type} {d : α} : ∀ {l l' : List α}, l.length = l'.length → (∀ i, i < l.length → l.getD i d = l'.getD i d) → l = l'
  | [], [], _, _ => rfl
  | x :: r, y :: r', hl, h => by
    have h0 := h 0 (by simp)
    simp at h0
    rw [h0, list_ext (l := r) (l' := r') (by simpa using hl) (fun i hi => by have := h (i + 1) (by simpa using hi); simpa using this)]
  | [], _ :: _, hl, _ => by simp at hl
  | _ :: _, [], hl, _ => by simp at hl

theorem wordsD_inj {l l' : List Wd} (h : DE (wordsD l) (wordsD l')) : l = l' := by
  obtain ⟨_, hl, hf⟩ := de_sl h
  exact list_ext hl fun i hi => wcells_inj (hf i hi)

theorem kidF_inj : ∀ (l l' : List It), l.length = l'.length → (∀ i, i < l.length → DEs (kidF l i) (kidF l' i)) → l = l'
  | [], [], _, _ => rfl
  | .mk a b c k :: r, .mk a' b' c' k' :: r', hl, h => by
    have h0 := h 0 (by simp)
    simp only [kidF] at h0
    have e1 := de_v (h0.2 0 _ _ rfl rfl)
    have e2 := wordsD_inj (h0.2 1 _ _ rfl rfl)
    have e3 := de_v (h0.2 2 _ _ rfl rfl)
    obtain ⟨_, hl4, hf4⟩ := de_sl (h0.2 3 _ _ rfl rfl)
    have e4 := kidF_inj k k' hl4 hf4
    have er := kidF_inj r r' (by simpa using hl) (fun i hi => by have := h (i + 1) (by simpa using hi); simpa [kidF] using this)
    simp at e1 e3
    rw [e1, e2, e3, e4, er]
  | [], _ :: _, hl, _ => by simp at hl
  | _ :: _, [], hl, _ => by simp at hl
theorem kidsD_inj (x y : It) (h : DE (kidsD x) (kidsD y)) : x.kids = y.kids := by
  obtain ⟨_, hl, hf⟩ := de_sl h
  exact kidF_inj x.kids y.kids hl hf

theorem itemsD_inj {l l' : List It} (h : DE (itemsD l) (itemsD l')) : l = l' := by
  have h1 : DE (kidsD (.mk 0 [] false l)) (kidsD (.mk 0 [] false l')) := (kidsD_de (.mk 0 [] false l)).trans (h.trans (itemsD_de (.mk 0 [] false l')))
  exact kidsD_inj _ _ h1

/-- data that is a list of statements, of words -/
noncomputable def okI (x : D) : Bool := @decide (∃ l, DE x (itemsD l)) (Classical.propDecidable _)
noncomputable def theI (x : D) : List It := @dite _ (∃ l, DE x (itemsD l)) (Classical.propDecidable _) (fun h => Classical.choose h) (fun _ => [])
noncomputable def okW (x : D) : Bool := @decide (∃ l, DE x (wordsD l)) (Classical.propDecidable _)
noncomputable def theW (x : D) : List Wd := @dite _ (∃ l, DE x (wordsD l)) (Classical.propDecidable _) (fun h => Classical.choose h) (fun _ => [])

theorem okI_iff {x : D} : okI x = true ↔ ∃ l, DE x (itemsD l) := by unfold okI; simp
theorem theI_de {x : D} (h : okI x = true) : DE x (itemsD (theI x)) := by
  have h' := okI_iff.1 h
  unfold theI
  rw [dif_pos h']
  exact Classical.choose_spec h'
theorem okW_iff {x : D} : okW x = true ↔ ∃ l, DE x (wordsD l) := by unfold okW; simp
theorem theW_de {x : D} (h : okW x = true) : DE x (wordsD (theW x)) := by
  have h' := okW_iff.1 h
  unfold theW
  rw [dif_pos h']
  exact Classical.choose_spec h'

theorem theI_of {x : D} {l : List It} (h1 : DE x (itemsD l)) (h2 : DE (itemsD l) x) : okI x = true ∧ theI x = l := by
  have h := okI_iff.2 ⟨l, h1⟩
  exact ⟨h, (itemsD_inj (h2.trans (theI_de h))).symm⟩
theorem theW_of {x : D} {l : List Wd} (h1 : DE x (wordsD l)) (h2 : DE (wordsD l) x) : okW x = true ∧ theW x = l := by
  have h := okW_iff.2 ⟨l, h1⟩
  exact ⟨h, (wordsD_inj (h2.trans (theW_de h))).symm⟩
theorem okI_items (l : List It) : okI (itemsD l) = true := (theI_of (.refl _) (.refl _)).1
theorem theI_items (l : List It) : theI (itemsD l) = l := (theI_of (.refl _) (.refl _)).2
theorem okI_kF (k : List It) : okI (.sl 4 k.length (kidF k)) = true := (theI_of (kidsD_de (.mk 0 [] false k)) (itemsD_de (.mk 0 [] false k))).1
theorem theI_kF (k : List It) : theI (.sl 4 k.length (kidF k)) = k := (theI_of (kidsD_de (.mk 0 [] false k)) (itemsD_de (.mk 0 [] false k))).2
theorem okW_sl (l : List Wd) : okW (.sl 2 l.length fun i => wcells (l.getD i w0)) = true := (theW_of (.refl (wordsD l)) (.refl _)).1
theorem theW_sl (l : List Wd) : theW (.sl 2 l.length fun i => wcells (l.getD i w0)) = l := (theW_of (.refl (wordsD l)) (.refl _)).2
theorem okI_kids (x : It) : okI (kidsD x) = true := (theI_of (kidsD_de x) (itemsD_de x)).1
theorem theI_kids (x : It) : theI (kidsD x) = x.kids := (theI_of (kidsD_de x) (itemsD_de x)).2
theorem okW_words (l : List Wd) : okW (wordsD l) = true := (theW_of (.refl _) (.refl _)).1
theorem theW_words (l : List Wd) : theW (wordsD l) = l := (theW_of (.refl _) (.refl _)).2
theorem nil_items {l : List It} (h : DE (.v (.slice none 0 0)) (itemsD l)) : l = [] := by
  generalize hy : itemsD l = y at h
  cases h with
  | v => unfold itemsD at hy; cases hy
  | nil sz f =>
    unfold itemsD at hy
    injection hy with _ h2 _
    exact List.eq_nil_of_length_eq_zero h2
theorem de_nil : DE (.v (.slice none 0 0)) (itemsD []) := .nil _ _
theorem okI_nil : okI (.v (.slice none 0 0)) = true := okI_iff.2 ⟨[], de_nil⟩
theorem theI_nil : theI (.v (.slice none 0 0)) = [] := nil_items (theI_de okI_nil)
theorem nil_words {l : List Wd} (h : DE (.v (.slice none 0 0)) (wordsD l)) : l = [] := by
  generalize hy : wordsD l = y at h
  cases h with
  | v => unfold wordsD at hy; cases hy
  | nil sz f =>
    unfold wordsD at hy
    injection hy with _ h2 _
    exact List.eq_nil_of_length_eq_zero h2

/-- how deep statements are nested -/
def dep : List It → Nat
  | [] => 0
  | .mk _ _ _ k :: r => max (dep k + 1) (dep r)

theorem dep_get : ∀ (l : List It) (i : Nat), i < l.length → dep (l.getD i i0).kids < dep l
  | [], i, h => by simp at h
  | .mk a b c k :: r, 0, _ => by simp [dep, It.kids]; omega
  | .mk a b c k :: r, i + 1, h => by
    have := dep_get r i (by simpa using h)
    simp only [List.getD_cons_succ, dep]
    omega

/-- lengths that fit a machine's integer -/
def fits : List It → Bool
  | [] => true
  | .mk _ w _ k :: r => decide (k.length ≤ 9223372036854775807) && decide (w.length ≤ 9223372036854775807) && w.all (fun x => decide (x.text.size ≤ 9223372036854775807)) && fits k && fits r
def okL (l : List It) : Bool := decide (l.length ≤ 9223372036854775807) && fits l
def okWs (w : List Wd) : Bool := decide (w.length ≤ 9223372036854775807) && w.all fun x => decide (x.text.size ≤ 9223372036854775807)

theorem fits_get : ∀ (l : List It) (i : Nat), i < l.length → fits l = true → okL (l.getD i i0).kids = true ∧ okWs (l.getD i i0).words = true
  | [], i, h, _ => by simp at h
  | .mk a b c k :: r, 0, _, hf => by
    simp only [fits, Bool.and_eq_true] at hf
    obtain ⟨⟨⟨⟨h1, h2⟩, h3⟩, h4⟩, h5⟩ := hf
    simp only [List.getD_cons_zero, It.kids, It.words, okL, okWs, h1, h2, h3, h4, Bool.and_self, and_self]
  | .mk a b c k :: r, i + 1, h, hf => by
    simp only [fits, Bool.and_eq_true] at hf
    simp only [List.getD_cons_succ]
    exact fits_get r i (by simpa using h) hf.2
theorem okL_len {l : List It} (h : okL l = true) : l.length ≤ 9223372036854775807 := by unfold okL at h; simp at h; exact h.1
theorem okL_fits {l : List It} (h : okL l = true) : fits l = true := by unfold okL at h; simp at h; exact h.2
theorem okL_get {l : List It} (h : okL l = true) {i : Nat} (hi : i < l.length) : okL (l.getD i i0).kids = true ∧ okWs (l.getD i i0).words = true := fits_get l i hi (okL_fits h)
theorem okWs_len {l : List Wd} (h : okWs l = true) : l.length ≤ 9223372036854775807 := by unfold okWs at h; simp at h; exact h.1

/-- a function of one list of statements, under a condition -/
def ans1 (c : D → Bool) (g : D → AV) : (R : Type) → List AV → Hp → (AV → Hp → Option (T R)) → Option (T R) := fun _ args H k => match H, args with
  | [], [.c (.d x)] => bif c x then k (g x) [] else none
  | _, _ => none
/-- of two -/
def ans2 (c : D → D → Bool) (g : D → D → AV) : (R : Type) → List AV → Hp → (AV → Hp → Option (T R)) → Option (T R) := fun _ args H k => match H, args with
  | [], [.c (.d x), .c (.d y)] => bif c x y then k (g x y) [] else none
  | _, _ => none
/-- of two, with a function -/
def ans2f (f : FuncId) (c : D → D → Bool) (g : D → D → AV) : (R : Type) → List AV → Hp → (AV → Hp → Option (T R)) → Option (T R) := fun _ args H k => match H, args with
  | [], [.c (.d x), .c (.d y), .c (.d (.v (.func (.func h) ⟨[]⟩ ⟨[]⟩)))] => bif Nat.beq h f then (bif c x y then k (g x y) [] else none) else none
  | _, _ => none

theorem ans1_ok {P : Program} {f0 : FuncId} {c : D → Bool} {g : D → AV} (hc : ∀ x, c x = true → CX P f0 [.c (.d x)] [] (g x) []) :
    ∀ (R : Type) args H (k : AV → Hp → Option (T R)) t, ans1 c g R args H k = some t → ∃ x H', k x H' = some t ∧ CX P f0 args H x H' := fun R args H k t h => by
  unfold ans1 at h
  split at h
  · rename_i x
    cases hx : c x with
    | true => rw [hx] at h; exact ⟨_, _, h, hc x hx⟩
    | false => rw [hx] at h; cases h
  · simp at h
theorem ans2_ok {P : Program} {f0 : FuncId} {c : D → D → Bool} {g : D → D → AV} (hc : ∀ x y, c x y = true → CX P f0 [.c (.d x), .c (.d y)] [] (g x y) []) :
    ∀ (R : Type) args H (k : AV → Hp → Option (T R)) t, ans2 c g R args H k = some t → ∃ x H', k x H' = some t ∧ CX P f0 args H x H' := fun R args H k t h => by
  unfold ans2 at h
  split at h
  · rename_i x y
    cases hx : c x y with
    | true => rw [hx] at h; exact ⟨_, _, h, hc x y hx⟩
    | false => rw [hx] at h; cases h
  · simp at h
theorem ans2f_ok {P : Program} {f0 f : FuncId} {c : D → D → Bool} {g : D → D → AV} (hc : ∀ x y, c x y = true → CX P f0 [.c (.d x), .c (.d y), .c (.d (.v (.func (.func f) #[] #[])))] [] (g x y) []) :
    ∀ (R : Type) args H (k : AV → Hp → Option (T R)) t, ans2f f c g R args H k = some t → ∃ x H', k x H' = some t ∧ CX P f0 args H x H' := fun R args H k t h => by
  unfold ans2f at h
  split at h
  · rename_i x y fh
    cases hf : Nat.beq fh f with
    | false => rw [hf] at h; cases h
    | true =>
      rw [hf] at h
      have := Nat.eq_of_beq_eq_true hf
      subst this
      simp only [cond_true] at h
      cases hx : c x y with
      | true => rw [hx] at h; exact ⟨_, _, h, hc x y hx⟩
      | false => rw [hx] at h; cases h
  · simp at h

theorem ale_d {x y : D} (h : DE x y) : Ale (.c (.d x)) (.c (.d y)) := h
theorem asle1 {x y : D} (h : DE x y) : Asle [.c (.d x)] [.c (.d y)] := .cons (ale_d h) .nil
theorem asle2 {x y x' y' : D} (h : DE x y) (h' : DE x' y') : Asle [.c (.d x), .c (.d x')] [.c (.d y), .c (.d y')] := .cons (ale_d h) (.cons (ale_d h') .nil)
abbrev aI (l : List It) : AV := .c (.d (itemsD l))
abbrev aW (l : List Wd) : AV := .c (.d (wordsD l))
abbrev aT (x : It) : AV := .agg ((icells x).map .d)
end Go.Eb
namespace Go.Proofs.YtngoglhlhlfknaaGreat.st
open Go.RowKit Go.Eb
set_option maxRecDepth 100000

abbrev nilC : C := .d (.v (.slice none 0 0))
noncomputable def oNm (nk : ByteArray → Bool) : Orc := Orc.cons 50 (ansP decS fun s => vB (nk s)) Orc.nil
noncomputable def oNam (nk : ByteArray → Bool) : Orc := Orc.cons 100 (inl Tryz.prog (oNm nk) na 1 Tryz.f100) Orc.nil
noncomputable def o26 (nk : ByteArray → Bool) : Orc := Orc.cons 53 (inl Tryz.prog (oNam nk) na 1 Tryz.f53) Orc.nil
noncomputable def oWi : Orc := Orc.cons 102 (inl Tryz.prog Orc.nil na 1 Tryz.f102) Orc.nil
noncomputable def oIm (nk : ByteArray → Bool) : Orc := Orc.cons 101 (inl Tryz.prog oWi na 1 Tryz.f101) (Orc.cons 102 (inl Tryz.prog Orc.nil na 1 Tryz.f102) (oNam nk))
noncomputable def o28 (nk : ByteArray → Bool) : Orc := Orc.cons 55 (inl Tryz.prog (oIm nk) na 1 Tryz.f55) Orc.nil
noncomputable def o30 (nk : ByteArray → Bool) : Orc := Orc.cons 57 (inl Tryz.prog (oIm nk) na 1 Tryz.f57) Orc.nil
abbrev fnOf (f : FuncId) : AV := .c (.fn f [.ptr 0 0] [])
/-- the builder's memory -/
abbrev H1 (s0 : ByteArray) (mpa : List (Value × Value)) : Hp := [(0, .cells [.d (dS s0), nilC, nilC, nilC, nilC, .mp 1] 157), (1, .map 0 mpa)]
abbrev H1' (s0 : ByteArray) (mpa : List (Value × Value)) (ka : Nat) (ga : Nat → List D) : Hp := [(0, .cells [.d (dS s0), .row 2 1 ka, nilC, nilC, nilC, .mp 1] 157), (1, .map 0 mpa), (2, .row ka ga 1 9)]
abbrev H2 (s0 : ByteArray) (ka : Nat) (ga : Nat → List D) (mpa : List (Value × Value)) : Hp := [(0, .cells [.d (dS s0), .row 1 1 ka, nilC, nilC, nilC, .mp 2] 157), (1, .row ka ga 1 9), (2, .map 0 mpa)]
abbrev H2' (s0 : ByteArray) (ka : Nat) (ga : Nat → List D) (mpa : List (Value × Value)) (kb : Nat) (gb : Nat → List D) : Hp := [(0, .cells [.d (dS s0), .row 1 1 ka, .row 3 5 kb, nilC, nilC, .mp 2] 157), (1, .row ka ga 1 9), (2, .map 0 mpa), (3, .row kb gb 5 71)]
abbrev H3 (s0 : ByteArray) (ka : Nat) (ga : Nat → List D) (kb : Nat) (gb : Nat → List D) (mpa : List (Value × Value)) : Hp := [(0, .cells [.d (dS s0), .row 1 1 ka, .row 2 5 kb, nilC, nilC, .mp 3] 157), (1, .row ka ga 1 9), (2, .row kb gb 5 71), (3, .map 0 mpa)]
abbrev H3' (s0 : ByteArray) (ka : Nat) (ga : Nat → List D) (kb : Nat) (gb : Nat → List D) (mpa : List (Value × Value)) (kc : Nat) (gc : Nat → List D) : Hp := [(0, .cells [.d (dS s0), .row 1 1 ka, .row 2 5 kb, .row 4 6 kc, nilC, .mp 3] 157), (1, .row ka ga 1 9), (2, .row kb gb 5 71), (3, .map 0 mpa), (4, .row kc gc 6 74)]
abbrev H4 (s0 : ByteArray) (ka : Nat) (ga : Nat → List D) (kb : Nat) (gb : Nat → List D) (kc : Nat) (gc : Nat → List D) (mpa : List (Value × Value)) : Hp := [(0, .cells [.d (dS s0), .row 1 1 ka, .row 2 5 kb, .row 3 6 kc, nilC, .mp 4] 157), (1, .row ka ga 1 9), (2, .row kb gb 5 71), (3, .row kc gc 6 74), (4, .map 0 mpa)]
abbrev H4' (s0 : ByteArray) (ka : Nat) (ga : Nat → List D) (kb : Nat) (gb : Nat → List D) (kc : Nat) (gc : Nat → List D) (mpa : List (Value × Value)) (kd : Nat) (gd : Nat → List D) : Hp := [(0, .cells [.d (dS s0), .row 1 1 ka, .row 2 5 kb, .row 3 6 kc, .row 5 12 kd, .mp 4] 157), (1, .row ka ga 1 9), (2, .row kb gb 5 71), (3, .row kc gc 6 74), (4, .map 0 mpa), (5, .row kd gd 12 66)]
abbrev H5 (s0 : ByteArray) (ka : Nat) (ga : Nat → List D) (kb : Nat) (gb : Nat → List D) (kc : Nat) (gc : Nat → List D) (kd : Nat) (gd : Nat → List D) (mpa : List (Value × Value)) : Hp := [(0, .cells [.d (dS s0), .row 1 1 ka, .row 2 5 kb, .row 3 6 kc, .row 4 12 kd, .mp 5] 157), (1, .row ka ga 1 9), (2, .row kb gb 5 71), (3, .row kc gc 6 74), (4, .row kd gd 12 66), (5, .map 0 mpa)]
noncomputable def ann26 : Ann := annOf [(2, ⟨[1, 8, 9, 10], [(1, 1, 1, 9)]⟩)]
noncomputable def L26_2 (nk : ByteArray → Bool) (l : List ByteArray) (s0 : ByteArray) (mpa : List (Value × Value)) (g m : Nat) (l1 : List (Value × Value)) (n2 : Nat) (f2 : Nat → List D) (i10 : Int) := LK Tryz.prog (o26 nk) ann26 (List.length (α := Nat × Blk) [(0, .cells [.d (dS s0), nilC, nilC, nilC, nilC, .mp 1] 157), (1, .map 0 mpa)]) g Tryz.f52 2 m ⟨frm [(1, AV.c (C.fn 53 [Rf.ptr 0 0] [])), (8, AV.c (C.d (D.sl 1 (List.length l) fun i => busC (List.getD l i e0)))), (9, AV.c (C.d (D.v (Value.int IntKind.i64 (↑(List.length l) : Int))))), (10, AV.c (C.d (D.v (Value.int IntKind.i64 i10))))] 0 Tryz.f52.ntmps, [(0, Blk.cells [C.d (D.v (Value.string s0)), C.row 2 1 n2, C.d (D.v (Value.slice none (0 : Nat) (0 : Nat))), C.d (D.v (Value.slice none (0 : Nat) (0 : Nat))), C.d (D.v (Value.slice none (0 : Nat) (0 : Nat))), C.mp 1] 157), (1, Blk.map 0 l1), (2, Blk.row n2 f2 1 9)], 3⟩
theorem b26 : Tryz.f52.body = some (bodyOf Tryz.f52) := by kernel_rfl
set_option maxRecDepth 100000 in
theorem ev26 (nk : ByteArray → Bool) (l : List ByteArray) (s0 : ByteArray) (mpa : List (Value × Value)) (g : Nat) : callC Tryz.prog (o26 nk) ann26 g Tryz.f52 (bodyOf Tryz.f52) [.c (.d (busesD l)), fnOf 53] [(0, .cells [.d (dS s0), nilC, nilC, nilC, nilC, .mp 1] 157), (1, .map 0 mpa)] =
 L26_2 nk l s0 mpa g g mpa (0 : Nat) (fun x => []) ((0 : Int)) := by kernel_rfl
set_option maxRecDepth 100000 in
theorem st26_2 (nk : ByteArray → Bool) (l : List ByteArray) (s0 : ByteArray) (mpa : List (Value × Value)) (g m : Nat) (l1 : List (Value × Value)) (n2 : Nat) (f2 : Nat → List D) (i10 : Int) : L26_2 nk l s0 mpa g (m + 1) l1 n2 f2 i10 =
 (bif decide (i10 < (↑(List.length l) : Int)) then (bif decide ((0 : Int) ≤ i10) && decide (i10 < (↑(List.length l) : Int)) then (bif !nk (List.getD l (Int.toNat i10) e0) then some
 (T.leaf (AV.c (C.d (D.v (Value.int IntKind.i64 (7 : Int)))), [((0 : Nat), Blk.cells [C.d (D.v (Value.string s0)), C.row ((2 : Nat)) ((1 : Nat)) n2, C.d (D.v (Value.slice none (0 :
 Nat) (0 : Nat))), C.d (D.v (Value.slice none (0 : Nat) (0 : Nat))), C.d (D.v (Value.slice none (0 : Nat) (0 : Nat))), C.mp ((1 : Nat))] ((157 : Nat))), ((1 : Nat), Blk.map ((0 :
 Nat)) l1), ((2 : Nat), Blk.row n2 f2 ((1 : Nat)) ((9 : Nat)))])) else (bif boolOf (assoc l1 (Value.string (List.getD l (Int.toNat i10) e0))) then some (T.leaf (AV.c (C.d (D.v
 (Value.int IntKind.i64 (8 : Int)))), [((0 : Nat), Blk.cells [C.d (D.v (Value.string s0)), C.row ((2 : Nat)) ((1 : Nat)) n2, C.d (D.v (Value.slice none (0 : Nat) (0 : Nat))), C.d
 (D.v (Value.slice none (0 : Nat) (0 : Nat))), C.d (D.v (Value.slice none (0 : Nat) (0 : Nat))), C.mp ((1 : Nat))] ((157 : Nat))), ((1 : Nat), Blk.map ((0 : Nat)) l1), ((2 : Nat),
 Blk.row n2 f2 ((1 : Nat)) ((9 : Nat)))])) else (bif decide ((n2 + (1 : Nat)) * (16 : Nat) ≤ (140737488355328 : Nat)) && decide (n2 + (1 : Nat) ≤ (9223372036854775807 : Nat)) then
 L26_2 nk l s0 mpa g m ((Value.string (List.getD l (Int.toNat i10) e0), Value.bool true) :: l1) (n2 + (1 : Nat)) (appF n2 f2 (chunk [dS (List.getD l (Int.toNat i10) e0)] ((0 : Nat) +
 (1 : Nat)))) (IntKind.wrap IntKind.i64 (i10 + (1 : Int))) else none))) else none) else some (T.leaf (AV.c (C.d (D.v (Value.int IntKind.i64 (0 : Int)))), [((0 : Nat), Blk.cells [C.d
 (D.v (Value.string s0)), C.row ((2 : Nat)) ((1 : Nat)) n2, C.d (D.v (Value.slice none (0 : Nat) (0 : Nat))), C.d (D.v (Value.slice none (0 : Nat) (0 : Nat))), C.d (D.v (Value.slice
 none (0 : Nat) (0 : Nat))), C.mp ((1 : Nat))] ((157 : Nat))), ((1 : Nat), Blk.map ((0 : Nat)) l1), ((2 : Nat), Blk.row n2 f2 ((1 : Nat)) ((9 : Nat)))]))) := by kernel_rfl
noncomputable def ann28 : Ann := annOf [(2, ⟨[1, 8, 9, 10], [(1, 2, 5, 71)]⟩)]
noncomputable def L28_2 (nk : ByteArray → Bool) (l : List SLine) (s0 : ByteArray) (ka : Nat) (ga : Nat → List D) (mpa : List (Value × Value)) (g m : Nat) (l2 : List (Value × Value)) (n3 : Nat) (f3 : Nat → List D) (i10 : Int) := LK Tryz.prog (o28 nk) ann28 (List.length (α := Nat × Blk) [(0, .cells [.d (dS s0), .row 1 1 ka, nilC, nilC, nilC, .mp 2] 157), (1, .row ka ga 1 9), (2, .map 0 mpa)]) g Tryz.f54 2 m ⟨frm [(1, AV.c (C.fn 55 [Rf.ptr 0 0] [])), (8, AV.c (C.d (D.sl 5 (List.length l) fun i => lineC (List.getD l i line0)))), (9, AV.c (C.d (D.v (Value.int IntKind.i64 (↑(List.length l) : Int))))), (10, AV.c (C.d (D.v (Value.int IntKind.i64 i10))))] 0 Tryz.f54.ntmps, [(0, Blk.cells [C.d (D.v (Value.string s0)), C.row 1 1 ka, C.row 3 5 n3, C.d (D.v (Value.slice none (0 : Nat) (0 : Nat))), C.d (D.v (Value.slice none (0 : Nat) (0 : Nat))), C.mp 2] 157), (1, Blk.row ka ga 1 9), (2, Blk.map 0 l2), (3, Blk.row n3 f3 5 71)], 4⟩
theorem b28 : Tryz.f54.body = some (bodyOf Tryz.f54) := by kernel_rfl
set_option maxRecDepth 100000 in
theorem ev28 (nk : ByteArray → Bool) (l : List SLine) (s0 : ByteArray) (ka : Nat) (ga : Nat → List D) (mpa : List (Value × Value)) (g : Nat) : callC Tryz.prog (o28 nk) ann28 g Tryz.f54 (bodyOf Tryz.f54) [.c (.d (linesD l)), fnOf 55] [(0, .cells [.d (dS s0), .row 1 1 ka, nilC, nilC, nilC, .mp 2] 157), (1, .row ka ga 1 9), (2, .map 0 mpa)] =
 L28_2 nk l s0 ka ga mpa g g mpa (0 : Nat) (fun x => []) ((0 : Int)) := by kernel_rfl
set_option maxRecDepth 100000 in
theorem st28_2 (nk : ByteArray → Bool) (l : List SLine) (s0 : ByteArray) (ka : Nat) (ga : Nat → List D) (mpa : List (Value × Value)) (g m : Nat) (l2 : List (Value × Value)) (n3 : Nat) (f3 : Nat → List D) (i10 : Int) : L28_2 nk l s0 ka ga mpa g (m + 1) l2 n3 f3 i10 =
 (bif decide (i10 < (↑(List.length l) : Int)) then (bif decide ((0 : Int) ≤ i10) && decide (i10 < (↑(List.length l) : Int)) then (bif !nk (SLine.name (List.getD l (Int.toNat i10)
 line0)) then some (T.leaf (AV.c (C.d (D.v (Value.int IntKind.i64 (7 : Int)))), [((0 : Nat), Blk.cells [C.d (D.v (Value.string s0)), C.row ((1 : Nat)) ((1 : Nat)) ka, C.row ((3 :
 Nat)) ((5 : Nat)) n3, C.d (D.v (Value.slice none (0 : Nat) (0 : Nat))), C.d (D.v (Value.slice none (0 : Nat) (0 : Nat))), C.mp ((2 : Nat))] ((157 : Nat))), ((1 : Nat), Blk.row ka ga
 ((1 : Nat)) ((9 : Nat))), ((2 : Nat), Blk.map ((0 : Nat)) l2), ((3 : Nat), Blk.row n3 f3 ((5 : Nat)) ((71 : Nat)))])) else (bif boolOf (assoc l2 (Value.string (SLine.name (List.getD
 l (Int.toNat i10) line0)))) then some (T.leaf (AV.c (C.d (D.v (Value.int IntKind.i64 (8 : Int)))), [((0 : Nat), Blk.cells [C.d (D.v (Value.string s0)), C.row ((1 : Nat)) ((1 : Nat))
 ka, C.row ((3 : Nat)) ((5 : Nat)) n3, C.d (D.v (Value.slice none (0 : Nat) (0 : Nat))), C.d (D.v (Value.slice none (0 : Nat) (0 : Nat))), C.mp ((2 : Nat))] ((157 : Nat))), ((1 :
 Nat), Blk.row ka ga ((1 : Nat)) ((9 : Nat))), ((2 : Nat), Blk.map ((0 : Nat)) l2), ((3 : Nat), Blk.row n3 f3 ((5 : Nat)) ((71 : Nat)))])) else (bif decide (SLine.r1 (List.getD l
 (Int.toNat i10) line0) ≥ (0 : Int)) then (bif decide (SLine.r1 (List.getD l (Int.toNat i10) line0) ≤ (1000 : Int)) then (bif decide (SLine.x1 (List.getD l (Int.toNat i10) line0) ≥
 (1 : Int)) then (bif !decide (SLine.x1 (List.getD l (Int.toNat i10) line0) ≤ (1000 : Int)) then some (T.leaf (AV.c (C.d (D.v (Value.int IntKind.i64 (2 : Int)))), [((0 : Nat),
 Blk.cells [C.d (D.v (Value.string s0)), C.row ((1 : Nat)) ((1 : Nat)) ka, C.row ((3 : Nat)) ((5 : Nat)) n3, C.d (D.v (Value.slice none (0 : Nat) (0 : Nat))), C.d (D.v (Value.slice
 none (0 : Nat) (0 : Nat))), C.mp ((2 : Nat))] ((157 : Nat))), ((1 : Nat), Blk.row ka ga ((1 : Nat)) ((9 : Nat))), ((2 : Nat), Blk.map ((0 : Nat)) l2), ((3 : Nat), Blk.row n3 f3 ((5
 : Nat)) ((71 : Nat)))])) else (bif decide (SLine.r0 (List.getD l (Int.toNat i10) line0) ≥ (0 : Int)) then (bif decide (SLine.r0 (List.getD l (Int.toNat i10) line0) ≤ (1000 : Int))
 then (bif decide (SLine.x0 (List.getD l (Int.toNat i10) line0) ≥ (1 : Int)) then (bif !decide (SLine.x0 (List.getD l (Int.toNat i10) line0) ≤ (1000 : Int)) then some (T.leaf (AV.c
 (C.d (D.v (Value.int IntKind.i64 (2 : Int)))), [((0 : Nat), Blk.cells [C.d (D.v (Value.string s0)), C.row ((1 : Nat)) ((1 : Nat)) ka, C.row ((3 : Nat)) ((5 : Nat)) n3, C.d (D.v
 (Value.slice none (0 : Nat) (0 : Nat))), C.d (D.v (Value.slice none (0 : Nat) (0 : Nat))), C.mp ((2 : Nat))] ((157 : Nat))), ((1 : Nat), Blk.row ka ga ((1 : Nat)) ((9 : Nat))), ((2
 : Nat), Blk.map ((0 : Nat)) l2), ((3 : Nat), Blk.row n3 f3 ((5 : Nat)) ((71 : Nat)))])) else (bif decide ((n3 + (1 : Nat)) * (48 : Nat) ≤ (140737488355328 : Nat)) && decide (n3 + (1
 : Nat) ≤ (9223372036854775807 : Nat)) then L28_2 nk l s0 ka ga mpa g m ((Value.string (SLine.name (List.getD l (Int.toNat i10) line0)), Value.bool true) :: l2) (n3 + (1 : Nat))
 (appF n3 f3 (chunk [dS (SLine.name (List.getD l (Int.toNat i10) line0)), dI (SLine.r1 (List.getD l (Int.toNat i10) line0)), dI (SLine.x1 (List.getD l (Int.toNat i10) line0)), dI
 (SLine.r0 (List.getD l (Int.toNat i10) line0)), dI (SLine.x0 (List.getD l (Int.toNat i10) line0))] ((4 : Nat) + (1 : Nat)))) (IntKind.wrap IntKind.i64 (i10 + (1 : Int))) else none))
 else some (T.leaf (AV.c (C.d (D.v (Value.int IntKind.i64 (2 : Int)))), [((0 : Nat), Blk.cells [C.d (D.v (Value.string s0)), C.row ((1 : Nat)) ((1 : Nat)) ka, C.row ((3 : Nat)) ((5 :
 Nat)) n3, C.d (D.v (Value.slice none (0 : Nat) (0 : Nat))), C.d (D.v (Value.slice none (0 : Nat) (0 : Nat))), C.mp ((2 : Nat))] ((157 : Nat))), ((1 : Nat), Blk.row ka ga ((1 : Nat))
 ((9 : Nat))), ((2 : Nat), Blk.map ((0 : Nat)) l2), ((3 : Nat), Blk.row n3 f3 ((5 : Nat)) ((71 : Nat)))]))) else some (T.leaf (AV.c (C.d (D.v (Value.int IntKind.i64 (2 : Int)))),
 [((0 : Nat), Blk.cells [C.d (D.v (Value.string s0)), C.row ((1 : Nat)) ((1 : Nat)) ka, C.row ((3 : Nat)) ((5 : Nat)) n3, C.d (D.v (Value.slice none (0 : Nat) (0 : Nat))), C.d (D.v
 (Value.slice none (0 : Nat) (0 : Nat))), C.mp ((2 : Nat))] ((157 : Nat))), ((1 : Nat), Blk.row ka ga ((1 : Nat)) ((9 : Nat))), ((2 : Nat), Blk.map ((0 : Nat)) l2), ((3 : Nat),
 Blk.row n3 f3 ((5 : Nat)) ((71 : Nat)))]))) else some (T.leaf (AV.c (C.d (D.v (Value.int IntKind.i64 (2 : Int)))), [((0 : Nat), Blk.cells [C.d (D.v (Value.string s0)), C.row ((1 :
 Nat)) ((1 : Nat)) ka, C.row ((3 : Nat)) ((5 : Nat)) n3, C.d (D.v (Value.slice none (0 : Nat) (0 : Nat))), C.d (D.v (Value.slice none (0 : Nat) (0 : Nat))), C.mp ((2 : Nat))] ((157 :
 Nat))), ((1 : Nat), Blk.row ka ga ((1 : Nat)) ((9 : Nat))), ((2 : Nat), Blk.map ((0 : Nat)) l2), ((3 : Nat), Blk.row n3 f3 ((5 : Nat)) ((71 : Nat)))])))) else some (T.leaf (AV.c
 (C.d (D.v (Value.int IntKind.i64 (2 : Int)))), [((0 : Nat), Blk.cells [C.d (D.v (Value.string s0)), C.row ((1 : Nat)) ((1 : Nat)) ka, C.row ((3 : Nat)) ((5 : Nat)) n3, C.d (D.v
 (Value.slice none (0 : Nat) (0 : Nat))), C.d (D.v (Value.slice none (0 : Nat) (0 : Nat))), C.mp ((2 : Nat))] ((157 : Nat))), ((1 : Nat), Blk.row ka ga ((1 : Nat)) ((9 : Nat))), ((2
 : Nat), Blk.map ((0 : Nat)) l2), ((3 : Nat), Blk.row n3 f3 ((5 : Nat)) ((71 : Nat)))]))) else some (T.leaf (AV.c (C.d (D.v (Value.int IntKind.i64 (2 : Int)))), [((0 : Nat),
 Blk.cells [C.d (D.v (Value.string s0)), C.row ((1 : Nat)) ((1 : Nat)) ka, C.row ((3 : Nat)) ((5 : Nat)) n3, C.d (D.v (Value.slice none (0 : Nat) (0 : Nat))), C.d (D.v (Value.slice
 none (0 : Nat) (0 : Nat))), C.mp ((2 : Nat))] ((157 : Nat))), ((1 : Nat), Blk.row ka ga ((1 : Nat)) ((9 : Nat))), ((2 : Nat), Blk.map ((0 : Nat)) l2), ((3 : Nat), Blk.row n3 f3 ((5
 : Nat)) ((71 : Nat)))]))) else some (T.leaf (AV.c (C.d (D.v (Value.int IntKind.i64 (2 : Int)))), [((0 : Nat), Blk.cells [C.d (D.v (Value.string s0)), C.row ((1 : Nat)) ((1 : Nat))
 ka, C.row ((3 : Nat)) ((5 : Nat)) n3, C.d (D.v (Value.slice none (0 : Nat) (0 : Nat))), C.d (D.v (Value.slice none (0 : Nat) (0 : Nat))), C.mp ((2 : Nat))] ((157 : Nat))), ((1 :
 Nat), Blk.row ka ga ((1 : Nat)) ((9 : Nat))), ((2 : Nat), Blk.map ((0 : Nat)) l2), ((3 : Nat), Blk.row n3 f3 ((5 : Nat)) ((71 : Nat)))]))))) else none) else some (T.leaf (AV.c (C.d
 (D.v (Value.int IntKind.i64 (0 : Int)))), [((0 : Nat), Blk.cells [C.d (D.v (Value.string s0)), C.row ((1 : Nat)) ((1 : Nat)) ka, C.row ((3 : Nat)) ((5 : Nat)) n3, C.d (D.v
 (Value.slice none (0 : Nat) (0 : Nat))), C.d (D.v (Value.slice none (0 : Nat) (0 : Nat))), C.mp ((2 : Nat))] ((157 : Nat))), ((1 : Nat), Blk.row ka ga ((1 : Nat)) ((9 : Nat))), ((2
 : Nat), Blk.map ((0 : Nat)) l2), ((3 : Nat), Blk.row n3 f3 ((5 : Nat)) ((71 : Nat)))]))) := by kernel_rfl
noncomputable def ann30 : Ann := annOf [(2, ⟨[1, 8, 9, 10], [(1, 3, 6, 74)]⟩)]
noncomputable def L30_2 (nk : ByteArray → Bool) (l : List SSrc) (s0 : ByteArray) (ka : Nat) (ga : Nat → List D) (kb : Nat) (gb : Nat → List D) (mpa : List (Value × Value)) (g m : Nat) (l3 : List (Value × Value)) (n4 : Nat) (f4 : Nat → List D) (i10 : Int) := LK Tryz.prog (o30 nk) ann30 (List.length (α := Nat × Blk) [(0, .cells [.d (dS s0), .row 1 1 ka, .row 2 5 kb, nilC, nilC, .mp 3] 157), (1, .row ka ga 1 9), (2, .row kb gb 5 71), (3, .map 0 mpa)]) g Tryz.f56 2 m ⟨frm [(1, AV.c (C.fn 57 [Rf.ptr 0 0] [])), (8, AV.c (C.d (D.sl 6 (List.length l) fun i => srcC' (List.getD l i src0)))), (9, AV.c (C.d (D.v (Value.int IntKind.i64 (↑(List.length l) : Int))))), (10, AV.c (C.d (D.v (Value.int IntKind.i64 i10))))] 0 Tryz.f56.ntmps, [(0, Blk.cells [C.d (D.v (Value.string s0)), C.row 1 1 ka, C.row 2 5 kb, C.row 4 6 n4, C.d (D.v (Value.slice none (0 : Nat) (0 : Nat))), C.mp 3] 157), (1, Blk.row ka ga 1 9), (2, Blk.row kb gb 5 71), (3, Blk.map 0 l3), (4, Blk.row n4 f4 6 74)], 5⟩
theorem b30 : Tryz.f56.body = some (bodyOf Tryz.f56) := by kernel_rfl
set_option maxRecDepth 100000 in
theorem ev30 (nk : ByteArray → Bool) (l : List SSrc) (s0 : ByteArray) (ka : Nat) (ga : Nat → List D) (kb : Nat) (gb : Nat → List D) (mpa : List (Value × Value)) (g : Nat) : callC Tryz.prog (o30 nk) ann30 g Tryz.f56 (bodyOf Tryz.f56) [.c (.d (srcsD l)), fnOf 57] [(0, .cells [.d (dS s0), .row 1 1 ka, .row 2 5 kb, nilC, nilC, .mp 3] 157), (1, .row ka ga 1 9), (2, .row kb gb 5 71), (3, .map 0 mpa)] =
 L30_2 nk l s0 ka ga kb gb mpa g g mpa (0 : Nat) (fun x => []) ((0 : Int)) := by kernel_rfl
set_option maxRecDepth 100000 in
theorem st30_2 (nk : ByteArray → Bool) (l : List SSrc) (s0 : ByteArray) (ka : Nat) (ga : Nat → List D) (kb : Nat) (gb : Nat → List D) (mpa : List (Value × Value)) (g m : Nat) (l3 : List (Value × Value)) (n4 : Nat) (f4 : Nat → List D) (i10 : Int) : L30_2 nk l s0 ka ga kb gb mpa g (m + 1) l3 n4 f4 i10 =
 (bif decide (i10 < (↑(List.length l) : Int)) then (bif decide ((0 : Int) ≤ i10) && decide (i10 < (↑(List.length l) : Int)) then (bif !nk (SSrc.name (List.getD l (Int.toNat i10)
 src0)) then some (T.leaf (AV.c (C.d (D.v (Value.int IntKind.i64 (7 : Int)))), [((0 : Nat), Blk.cells [C.d (D.v (Value.string s0)), C.row ((1 : Nat)) ((1 : Nat)) ka, C.row ((2 :
 Nat)) ((5 : Nat)) kb, C.row ((4 : Nat)) ((6 : Nat)) n4, C.d (D.v (Value.slice none (0 : Nat) (0 : Nat))), C.mp ((3 : Nat))] ((157 : Nat))), ((1 : Nat), Blk.row ka ga ((1 : Nat)) ((9
 : Nat))), ((2 : Nat), Blk.row kb gb ((5 : Nat)) ((71 : Nat))), ((3 : Nat), Blk.map ((0 : Nat)) l3), ((4 : Nat), Blk.row n4 f4 ((6 : Nat)) ((74 : Nat)))])) else (bif boolOf (assoc l3
 (Value.string (SSrc.name (List.getD l (Int.toNat i10) src0)))) then some (T.leaf (AV.c (C.d (D.v (Value.int IntKind.i64 (8 : Int)))), [((0 : Nat), Blk.cells [C.d (D.v (Value.string
 s0)), C.row ((1 : Nat)) ((1 : Nat)) ka, C.row ((2 : Nat)) ((5 : Nat)) kb, C.row ((4 : Nat)) ((6 : Nat)) n4, C.d (D.v (Value.slice none (0 : Nat) (0 : Nat))), C.mp ((3 : Nat))] ((157
 : Nat))), ((1 : Nat), Blk.row ka ga ((1 : Nat)) ((9 : Nat))), ((2 : Nat), Blk.row kb gb ((5 : Nat)) ((71 : Nat))), ((3 : Nat), Blk.map ((0 : Nat)) l3), ((4 : Nat), Blk.row n4 f4 ((6
 : Nat)) ((74 : Nat)))])) else (bif decide (SSrc.emf (List.getD l (Int.toNat i10) src0) ≥ (1 : Int)) then (bif !decide (SSrc.emf (List.getD l (Int.toNat i10) src0) ≤ (1000000 : Int))
 then some (T.leaf (AV.c (C.d (D.v (Value.int IntKind.i64 (2 : Int)))), [((0 : Nat), Blk.cells [C.d (D.v (Value.string s0)), C.row ((1 : Nat)) ((1 : Nat)) ka, C.row ((2 : Nat)) ((5 :
 Nat)) kb, C.row ((4 : Nat)) ((6 : Nat)) n4, C.d (D.v (Value.slice none (0 : Nat) (0 : Nat))), C.mp ((3 : Nat))] ((157 : Nat))), ((1 : Nat), Blk.row ka ga ((1 : Nat)) ((9 : Nat))),
 ((2 : Nat), Blk.row kb gb ((5 : Nat)) ((71 : Nat))), ((3 : Nat), Blk.map ((0 : Nat)) l3), ((4 : Nat), Blk.row n4 f4 ((6 : Nat)) ((74 : Nat)))])) else (bif decide (SSrc.r1 (List.getD
 l (Int.toNat i10) src0) ≥ (0 : Int)) then (bif decide (SSrc.r1 (List.getD l (Int.toNat i10) src0) ≤ (1000 : Int)) then (bif decide (SSrc.x1 (List.getD l (Int.toNat i10) src0) ≥ (1 :
 Int)) then (bif !decide (SSrc.x1 (List.getD l (Int.toNat i10) src0) ≤ (1000 : Int)) then some (T.leaf (AV.c (C.d (D.v (Value.int IntKind.i64 (2 : Int)))), [((0 : Nat), Blk.cells
 [C.d (D.v (Value.string s0)), C.row ((1 : Nat)) ((1 : Nat)) ka, C.row ((2 : Nat)) ((5 : Nat)) kb, C.row ((4 : Nat)) ((6 : Nat)) n4, C.d (D.v (Value.slice none (0 : Nat) (0 : Nat))),
 C.mp ((3 : Nat))] ((157 : Nat))), ((1 : Nat), Blk.row ka ga ((1 : Nat)) ((9 : Nat))), ((2 : Nat), Blk.row kb gb ((5 : Nat)) ((71 : Nat))), ((3 : Nat), Blk.map ((0 : Nat)) l3), ((4 :
 Nat), Blk.row n4 f4 ((6 : Nat)) ((74 : Nat)))])) else (bif decide (SSrc.r0 (List.getD l (Int.toNat i10) src0) ≥ (0 : Int)) then (bif decide (SSrc.r0 (List.getD l (Int.toNat i10)
 src0) ≤ (1000 : Int)) then (bif decide (SSrc.x0 (List.getD l (Int.toNat i10) src0) ≥ (1 : Int)) then (bif !decide (SSrc.x0 (List.getD l (Int.toNat i10) src0) ≤ (1000 : Int)) then
 some (T.leaf (AV.c (C.d (D.v (Value.int IntKind.i64 (2 : Int)))), [((0 : Nat), Blk.cells [C.d (D.v (Value.string s0)), C.row ((1 : Nat)) ((1 : Nat)) ka, C.row ((2 : Nat)) ((5 :
 Nat)) kb, C.row ((4 : Nat)) ((6 : Nat)) n4, C.d (D.v (Value.slice none (0 : Nat) (0 : Nat))), C.mp ((3 : Nat))] ((157 : Nat))), ((1 : Nat), Blk.row ka ga ((1 : Nat)) ((9 : Nat))),
 ((2 : Nat), Blk.row kb gb ((5 : Nat)) ((71 : Nat))), ((3 : Nat), Blk.map ((0 : Nat)) l3), ((4 : Nat), Blk.row n4 f4 ((6 : Nat)) ((74 : Nat)))])) else (bif decide ((n4 + (1 : Nat)) *
 (56 : Nat) ≤ (140737488355328 : Nat)) && decide (n4 + (1 : Nat) ≤ (9223372036854775807 : Nat)) then L30_2 nk l s0 ka ga kb gb mpa g m ((Value.string (SSrc.name (List.getD l
 (Int.toNat i10) src0)), Value.bool true) :: l3) (n4 + (1 : Nat)) (appF n4 f4 (chunk [dS (SSrc.name (List.getD l (Int.toNat i10) src0)), dI (SSrc.emf (List.getD l (Int.toNat i10)
 src0)), dI (SSrc.r1 (List.getD l (Int.toNat i10) src0)), dI (SSrc.x1 (List.getD l (Int.toNat i10) src0)), dI (SSrc.r0 (List.getD l (Int.toNat i10) src0)), dI (SSrc.x0 (List.getD l
 (Int.toNat i10) src0))] ((5 : Nat) + (1 : Nat)))) (IntKind.wrap IntKind.i64 (i10 + (1 : Int))) else none)) else some (T.leaf (AV.c (C.d (D.v (Value.int IntKind.i64 (2 : Int)))),
 [((0 : Nat), Blk.cells [C.d (D.v (Value.string s0)), C.row ((1 : Nat)) ((1 : Nat)) ka, C.row ((2 : Nat)) ((5 : Nat)) kb, C.row ((4 : Nat)) ((6 : Nat)) n4, C.d (D.v (Value.slice none
 (0 : Nat) (0 : Nat))), C.mp ((3 : Nat))] ((157 : Nat))), ((1 : Nat), Blk.row ka ga ((1 : Nat)) ((9 : Nat))), ((2 : Nat), Blk.row kb gb ((5 : Nat)) ((71 : Nat))), ((3 : Nat), Blk.map
 ((0 : Nat)) l3), ((4 : Nat), Blk.row n4 f4 ((6 : Nat)) ((74 : Nat)))]))) else some (T.leaf (AV.c (C.d (D.v (Value.int IntKind.i64 (2 : Int)))), [((0 : Nat), Blk.cells [C.d (D.v
 (Value.string s0)), C.row ((1 : Nat)) ((1 : Nat)) ka, C.row ((2 : Nat)) ((5 : Nat)) kb, C.row ((4 : Nat)) ((6 : Nat)) n4, C.d (D.v (Value.slice none (0 : Nat) (0 : Nat))), C.mp ((3
 : Nat))] ((157 : Nat))), ((1 : Nat), Blk.row ka ga ((1 : Nat)) ((9 : Nat))), ((2 : Nat), Blk.row kb gb ((5 : Nat)) ((71 : Nat))), ((3 : Nat), Blk.map ((0 : Nat)) l3), ((4 : Nat),
 Blk.row n4 f4 ((6 : Nat)) ((74 : Nat)))]))) else some (T.leaf (AV.c (C.d (D.v (Value.int IntKind.i64 (2 : Int)))), [((0 : Nat), Blk.cells [C.d (D.v (Value.string s0)), C.row ((1 :
 Nat)) ((1 : Nat)) ka, C.row ((2 : Nat)) ((5 : Nat)) kb, C.row ((4 : Nat)) ((6 : Nat)) n4, C.d (D.v (Value.slice none (0 : Nat) (0 : Nat))), C.mp ((3 : Nat))] ((157 : Nat))), ((1 :
 Nat), Blk.row ka ga ((1 : Nat)) ((9 : Nat))), ((2 : Nat), Blk.row kb gb ((5 : Nat)) ((71 : Nat))), ((3 : Nat), Blk.map ((0 : Nat)) l3), ((4 : Nat), Blk.row n4 f4 ((6 : Nat)) ((74 :
 Nat)))])))) else some (T.leaf (AV.c (C.d (D.v (Value.int IntKind.i64 (2 : Int)))), [((0 : Nat), Blk.cells [C.d (D.v (Value.string s0)), C.row ((1 : Nat)) ((1 : Nat)) ka, C.row ((2 :
 Nat)) ((5 : Nat)) kb, C.row ((4 : Nat)) ((6 : Nat)) n4, C.d (D.v (Value.slice none (0 : Nat) (0 : Nat))), C.mp ((3 : Nat))] ((157 : Nat))), ((1 : Nat), Blk.row ka ga ((1 : Nat)) ((9
 : Nat))), ((2 : Nat), Blk.row kb gb ((5 : Nat)) ((71 : Nat))), ((3 : Nat), Blk.map ((0 : Nat)) l3), ((4 : Nat), Blk.row n4 f4 ((6 : Nat)) ((74 : Nat)))]))) else some (T.leaf (AV.c
 (C.d (D.v (Value.int IntKind.i64 (2 : Int)))), [((0 : Nat), Blk.cells [C.d (D.v (Value.string s0)), C.row ((1 : Nat)) ((1 : Nat)) ka, C.row ((2 : Nat)) ((5 : Nat)) kb, C.row ((4 :
 Nat)) ((6 : Nat)) n4, C.d (D.v (Value.slice none (0 : Nat) (0 : Nat))), C.mp ((3 : Nat))] ((157 : Nat))), ((1 : Nat), Blk.row ka ga ((1 : Nat)) ((9 : Nat))), ((2 : Nat), Blk.row kb
 gb ((5 : Nat)) ((71 : Nat))), ((3 : Nat), Blk.map ((0 : Nat)) l3), ((4 : Nat), Blk.row n4 f4 ((6 : Nat)) ((74 : Nat)))]))) else some (T.leaf (AV.c (C.d (D.v (Value.int IntKind.i64
 (2 : Int)))), [((0 : Nat), Blk.cells [C.d (D.v (Value.string s0)), C.row ((1 : Nat)) ((1 : Nat)) ka, C.row ((2 : Nat)) ((5 : Nat)) kb, C.row ((4 : Nat)) ((6 : Nat)) n4, C.d (D.v
 (Value.slice none (0 : Nat) (0 : Nat))), C.mp ((3 : Nat))] ((157 : Nat))), ((1 : Nat), Blk.row ka ga ((1 : Nat)) ((9 : Nat))), ((2 : Nat), Blk.row kb gb ((5 : Nat)) ((71 : Nat))),
 ((3 : Nat), Blk.map ((0 : Nat)) l3), ((4 : Nat), Blk.row n4 f4 ((6 : Nat)) ((74 : Nat)))])))) else some (T.leaf (AV.c (C.d (D.v (Value.int IntKind.i64 (2 : Int)))), [((0 : Nat),
 Blk.cells [C.d (D.v (Value.string s0)), C.row ((1 : Nat)) ((1 : Nat)) ka, C.row ((2 : Nat)) ((5 : Nat)) kb, C.row ((4 : Nat)) ((6 : Nat)) n4, C.d (D.v (Value.slice none (0 : Nat) (0
 : Nat))), C.mp ((3 : Nat))] ((157 : Nat))), ((1 : Nat), Blk.row ka ga ((1 : Nat)) ((9 : Nat))), ((2 : Nat), Blk.row kb gb ((5 : Nat)) ((71 : Nat))), ((3 : Nat), Blk.map ((0 : Nat))
 l3), ((4 : Nat), Blk.row n4 f4 ((6 : Nat)) ((74 : Nat)))]))))) else none) else some (T.leaf (AV.c (C.d (D.v (Value.int IntKind.i64 (0 : Int)))), [((0 : Nat), Blk.cells [C.d (D.v
 (Value.string s0)), C.row ((1 : Nat)) ((1 : Nat)) ka, C.row ((2 : Nat)) ((5 : Nat)) kb, C.row ((4 : Nat)) ((6 : Nat)) n4, C.d (D.v (Value.slice none (0 : Nat) (0 : Nat))), C.mp ((3
 : Nat))] ((157 : Nat))), ((1 : Nat), Blk.row ka ga ((1 : Nat)) ((9 : Nat))), ((2 : Nat), Blk.row kb gb ((5 : Nat)) ((71 : Nat))), ((3 : Nat), Blk.map ((0 : Nat)) l3), ((4 : Nat),
 Blk.row n4 f4 ((6 : Nat)) ((74 : Nat)))]))) := by kernel_rfl
end Go.Proofs.YtngoglhlhlfknaaGreat.st
namespace Go.Proofs.YtngoglhlhlfknaaGreat.st
open Go.RowKit Go.Eb
set_option maxRecDepth 100000

abbrev A5 := (ByteArray × Nat × Nat × Nat × Nat × Unit × Unit) × (Nat × (Nat → List D)) × (Nat × (Nat → List D)) × (Nat × (Nat → List D)) × (Nat × (Nat → List D)) × (List (Value × Value)) × Unit
def dH5 : Dec Hp A5 := .cons (.blk 0 (.cells 157 (.cons .str (.cons (.row 1 1) (.cons (.row 2 5) (.cons (.row 3 6) (.cons (.row 4 12) (.cons (.mp 5) .nil)))))))) (.cons (.blk 1 (.rowB 1 9)) (.cons (.blk 2 (.rowB 5 71)) (.cons (.blk 3 (.rowB 6 74)) (.cons (.blk 4 (.rowB 12 66)) (.cons (.blk 5 (.mapB 0)) .nil)))))
def dBay : Dec (List AV) (Unit × RBay × Unit) := .cons (.c (.ptr 0 0)) (.cons (.agg bayD) .nil)
def d55 : Dec (List AV × Hp) ((Unit × RBay × Unit) × A5) := .pair dBay dH5
noncomputable def o55 : Orc := oWi
noncomputable def ann55 : Ann := annOf [(5, ⟨[3, 0, 27, 28, 29], []⟩)]
noncomputable def L55_5 (x : SBay) (s0 : ByteArray) (ka : Nat) (ga : Nat → List D) (kb : Nat) (gb : Nat → List D) (kc : Nat) (gc : Nat → List D) (kd : Nat) (gd : Nat → List D) (mpa : List (Value × Value)) (g m : Nat) (i29 : Int) := LK Tryz.prog o55 ann55 (List.length (α := Nat × Blk) [(0, .cells [.d (dS s0), .row 1 1 ka, .row 2 5 kb, .row 3 6 kc, .row 4 12 kd, .mp 5] 157), (1, .row ka ga 1 9), (2, .row kb gb 5 71), (3, .row kc gc 6 74), (4, .row kd gd 12 66), (5, .map 0 mpa)]) g Tryz.f104 5 m ⟨frm [(0, AV.c (C.ptr 0 0)), (3, AV.c (C.ptr 6 0)), (27, AV.c (C.d (D.sl 2 (List.length (SBay.links x)) fun i => linkC (List.getD (SBay.links x) i link0)))), (28, AV.c (C.d (D.v (Value.int IntKind.i64 (↑(List.length (SBay.links x)) : Int))))), (29, AV.c (C.d (D.v (Value.int IntKind.i64 i29))))] 0 Tryz.f104.ntmps, [(0, Blk.cells [C.d (D.v (Value.string s0)), C.row 1 1 ka, C.row 2 5 kb, C.row 3 6 kc, C.row 4 12 kd, C.mp 5] 157), (1, Blk.row ka ga 1 9), (2, Blk.row kb gb 5 71), (3, Blk.row kc gc 6 74), (4, Blk.row kd gd 12 66), (5, Blk.map 0 mpa), (6, Blk.cells [C.d (D.v (Value.string (SBay.name x))), C.d (D.v (Value.int IntKind.i64 (SBay.kind x))), C.d (D.v (Value.int IntKind.i64 (SBay.off x))), C.d (D.v (Value.int IntKind.i64 (SBay.fin x))), C.d (D.v (Value.int IntKind.i64 (SBay.zr x))), C.d (D.v (Value.int IntKind.i64 (SBay.zx x))), C.d (D.sl 2 (List.length (SBay.links x)) fun i => linkC (List.getD (SBay.links x) i link0)), C.d (D.v (Value.bool (SBay.closed x))), C.d (D.v (Value.int IntKind.i64 (SBay.ct x))), C.d (D.v (Value.int IntKind.i64 (SBay.vt x))), C.d (D.v (Value.int IntKind.i64 (SBay.sat x))), C.d (D.v (Value.int IntKind.i64 (SBay.travel x)))] 66)], 7⟩
theorem b55 : Tryz.f104.body = some (bodyOf Tryz.f104) := by kernel_rfl
set_option maxRecDepth 100000 in
theorem ev55 (x : SBay) (s0 : ByteArray) (ka : Nat) (ga : Nat → List D) (kb : Nat) (gb : Nat → List D) (kc : Nat) (gc : Nat → List D) (kd : Nat) (gd : Nat → List D) (mpa : List (Value × Value)) (g : Nat) : callC Tryz.prog o55 ann55 g Tryz.f104 (bodyOf Tryz.f104) [.c (.ptr 0 0), aBay x] [(0, .cells [.d (dS s0), .row 1 1 ka, .row 2 5 kb, .row 3 6 kc, .row 4 12 kd, .mp 5] 157), (1, .row ka ga 1 9), (2, .row kb gb 5 71), (3, .row kc gc 6 74), (4, .row kd gd 12 66), (5, .map 0 mpa)] =
 (bif decide ((↑(List.length (SBay.links x)) : Int) < (1 : Int)) then some (T.leaf (AV.c (C.d (D.v (Value.int IntKind.i64 (3 : Int)))), [((0 : Nat), Blk.cells [C.d (D.v (Value.string
 s0)), C.row ((1 : Nat)) ((1 : Nat)) ka, C.row ((2 : Nat)) ((5 : Nat)) kb, C.row ((3 : Nat)) ((6 : Nat)) kc, C.row ((4 : Nat)) ((12 : Nat)) kd, C.mp ((5 : Nat))] ((157 : Nat))), ((1
 : Nat), Blk.row ka ga ((1 : Nat)) ((9 : Nat))), ((2 : Nat), Blk.row kb gb ((5 : Nat)) ((71 : Nat))), ((3 : Nat), Blk.row kc gc ((6 : Nat)) ((74 : Nat))), ((4 : Nat), Blk.row kd gd
 ((12 : Nat)) ((66 : Nat))), ((5 : Nat), Blk.map ((0 : Nat)) mpa)])) else (bif decide ((↑(List.length (SBay.links x)) : Int) > (2 : Int)) then some (T.leaf (AV.c (C.d (D.v (Value.int
 IntKind.i64 (3 : Int)))), [((0 : Nat), Blk.cells [C.d (D.v (Value.string s0)), C.row ((1 : Nat)) ((1 : Nat)) ka, C.row ((2 : Nat)) ((5 : Nat)) kb, C.row ((3 : Nat)) ((6 : Nat)) kc,
 C.row ((4 : Nat)) ((12 : Nat)) kd, C.mp ((5 : Nat))] ((157 : Nat))), ((1 : Nat), Blk.row ka ga ((1 : Nat)) ((9 : Nat))), ((2 : Nat), Blk.row kb gb ((5 : Nat)) ((71 : Nat))), ((3 :
 Nat), Blk.row kc gc ((6 : Nat)) ((74 : Nat))), ((4 : Nat), Blk.row kd gd ((12 : Nat)) ((66 : Nat))), ((5 : Nat), Blk.map ((0 : Nat)) mpa)])) else (bif SBay.kind x == (3 : Int) then
 (bif (↑(List.length (SBay.links x)) : Int) != (2 : Int) then some (T.leaf (AV.c (C.d (D.v (Value.int IntKind.i64 (3 : Int)))), [((0 : Nat), Blk.cells [C.d (D.v (Value.string s0)),
 C.row ((1 : Nat)) ((1 : Nat)) ka, C.row ((2 : Nat)) ((5 : Nat)) kb, C.row ((3 : Nat)) ((6 : Nat)) kc, C.row ((4 : Nat)) ((12 : Nat)) kd, C.mp ((5 : Nat))] ((157 : Nat))), ((1 :
 Nat), Blk.row ka ga ((1 : Nat)) ((9 : Nat))), ((2 : Nat), Blk.row kb gb ((5 : Nat)) ((71 : Nat))), ((3 : Nat), Blk.row kc gc ((6 : Nat)) ((74 : Nat))), ((4 : Nat), Blk.row kd gd
 ((12 : Nat)) ((66 : Nat))), ((5 : Nat), Blk.map ((0 : Nat)) mpa)])) else L55_5 x s0 ka ga kb gb kc gc kd gd mpa g g ((0 : Int))) else L55_5 x s0 ka ga kb gb kc gc kd gd mpa g g ((0
 : Int))))) := by kernel_rfl
set_option maxRecDepth 100000 in
theorem st55_5 (x : SBay) (s0 : ByteArray) (ka : Nat) (ga : Nat → List D) (kb : Nat) (gb : Nat → List D) (kc : Nat) (gc : Nat → List D) (kd : Nat) (gd : Nat → List D) (mpa : List (Value × Value)) (g m : Nat) (i29 : Int) : L55_5 x s0 ka ga kb gb kc gc kd gd mpa g (m + 1) i29 =
 (bif decide (i29 < (↑(List.length (SBay.links x)) : Int)) then (bif decide ((0 : Int) ≤ i29) && decide (i29 < (↑(List.length (SBay.links x)) : Int)) then (bif decide (SLink.bus
 (List.getD (SBay.links x) (Int.toNat i29) link0) ≥ (0 : Int)) then (bif !decide (SLink.bus (List.getD (SBay.links x) (Int.toNat i29) link0) ≤ IntKind.wrap IntKind.i64 ((↑ka : Int) -
 (1 : Int))) then some (T.leaf (AV.c (C.d (D.v (Value.int IntKind.i64 (9 : Int)))), [((0 : Nat), Blk.cells [C.d (D.v (Value.string s0)), C.row ((1 : Nat)) ((1 : Nat)) ka, C.row ((2 :
 Nat)) ((5 : Nat)) kb, C.row ((3 : Nat)) ((6 : Nat)) kc, C.row ((4 : Nat)) ((12 : Nat)) kd, C.mp ((5 : Nat))] ((157 : Nat))), ((1 : Nat), Blk.row ka ga ((1 : Nat)) ((9 : Nat))), ((2
 : Nat), Blk.row kb gb ((5 : Nat)) ((71 : Nat))), ((3 : Nat), Blk.row kc gc ((6 : Nat)) ((74 : Nat))), ((4 : Nat), Blk.row kd gd ((12 : Nat)) ((66 : Nat))), ((5 : Nat), Blk.map ((0 :
 Nat)) mpa)])) else (bif SLink.pos (List.getD (SBay.links x) (Int.toNat i29) link0) != (1 : Int) then (bif SLink.pos (List.getD (SBay.links x) (Int.toNat i29) link0) != (0 : Int)
 then some (T.leaf (AV.c (C.d (D.v (Value.int IntKind.i64 (16 : Int)))), [((0 : Nat), Blk.cells [C.d (D.v (Value.string s0)), C.row ((1 : Nat)) ((1 : Nat)) ka, C.row ((2 : Nat)) ((5
 : Nat)) kb, C.row ((3 : Nat)) ((6 : Nat)) kc, C.row ((4 : Nat)) ((12 : Nat)) kd, C.mp ((5 : Nat))] ((157 : Nat))), ((1 : Nat), Blk.row ka ga ((1 : Nat)) ((9 : Nat))), ((2 : Nat),
 Blk.row kb gb ((5 : Nat)) ((71 : Nat))), ((3 : Nat), Blk.row kc gc ((6 : Nat)) ((74 : Nat))), ((4 : Nat), Blk.row kd gd ((12 : Nat)) ((66 : Nat))), ((5 : Nat), Blk.map ((0 : Nat))
 mpa)])) else (bif SBay.kind x == (3 : Int) then some (T.leaf (AV.c (C.d (D.v (Value.int IntKind.i64 (16 : Int)))), [((0 : Nat), Blk.cells [C.d (D.v (Value.string s0)), C.row ((1 :
 Nat)) ((1 : Nat)) ka, C.row ((2 : Nat)) ((5 : Nat)) kb, C.row ((3 : Nat)) ((6 : Nat)) kc, C.row ((4 : Nat)) ((12 : Nat)) kd, C.mp ((5 : Nat))] ((157 : Nat))), ((1 : Nat), Blk.row ka
 ga ((1 : Nat)) ((9 : Nat))), ((2 : Nat), Blk.row kb gb ((5 : Nat)) ((71 : Nat))), ((3 : Nat), Blk.row kc gc ((6 : Nat)) ((74 : Nat))), ((4 : Nat), Blk.row kd gd ((12 : Nat)) ((66 :
 Nat))), ((5 : Nat), Blk.map ((0 : Nat)) mpa)])) else (bif decide (i29 > (0 : Int)) then (bif decide ((0 : Int) ≤ IntKind.wrap IntKind.i64 (i29 - (1 : Int))) && decide (IntKind.wrap
 IntKind.i64 (i29 - (1 : Int)) < (↑(List.length (SBay.links x)) : Int)) then (bif SLink.bus (List.getD (SBay.links x) (Int.toNat (IntKind.wrap IntKind.i64 (i29 - (1 : Int)))) link0)
 == SLink.bus (List.getD (SBay.links x) (Int.toNat i29) link0) then some (T.leaf (AV.c (C.d (D.v (Value.int IntKind.i64 (12 : Int)))), [((0 : Nat), Blk.cells [C.d (D.v (Value.string
 s0)), C.row ((1 : Nat)) ((1 : Nat)) ka, C.row ((2 : Nat)) ((5 : Nat)) kb, C.row ((3 : Nat)) ((6 : Nat)) kc, C.row ((4 : Nat)) ((12 : Nat)) kd, C.mp ((5 : Nat))] ((157 : Nat))), ((1
 : Nat), Blk.row ka ga ((1 : Nat)) ((9 : Nat))), ((2 : Nat), Blk.row kb gb ((5 : Nat)) ((71 : Nat))), ((3 : Nat), Blk.row kc gc ((6 : Nat)) ((74 : Nat))), ((4 : Nat), Blk.row kd gd
 ((12 : Nat)) ((66 : Nat))), ((5 : Nat), Blk.map ((0 : Nat)) mpa)])) else L55_5 x s0 ka ga kb gb kc gc kd gd mpa g m (IntKind.wrap IntKind.i64 (i29 + (1 : Int)))) else none) else
 L55_5 x s0 ka ga kb gb kc gc kd gd mpa g m (IntKind.wrap IntKind.i64 (i29 + (1 : Int)))))) else (bif decide (i29 > (0 : Int)) then (bif decide ((0 : Int) ≤ IntKind.wrap IntKind.i64
 (i29 - (1 : Int))) && decide (IntKind.wrap IntKind.i64 (i29 - (1 : Int)) < (↑(List.length (SBay.links x)) : Int)) then (bif SLink.bus (List.getD (SBay.links x) (Int.toNat
 (IntKind.wrap IntKind.i64 (i29 - (1 : Int)))) link0) == SLink.bus (List.getD (SBay.links x) (Int.toNat i29) link0) then some (T.leaf (AV.c (C.d (D.v (Value.int IntKind.i64 (12 :
 Int)))), [((0 : Nat), Blk.cells [C.d (D.v (Value.string s0)), C.row ((1 : Nat)) ((1 : Nat)) ka, C.row ((2 : Nat)) ((5 : Nat)) kb, C.row ((3 : Nat)) ((6 : Nat)) kc, C.row ((4 : Nat))
 ((12 : Nat)) kd, C.mp ((5 : Nat))] ((157 : Nat))), ((1 : Nat), Blk.row ka ga ((1 : Nat)) ((9 : Nat))), ((2 : Nat), Blk.row kb gb ((5 : Nat)) ((71 : Nat))), ((3 : Nat), Blk.row kc gc
 ((6 : Nat)) ((74 : Nat))), ((4 : Nat), Blk.row kd gd ((12 : Nat)) ((66 : Nat))), ((5 : Nat), Blk.map ((0 : Nat)) mpa)])) else L55_5 x s0 ka ga kb gb kc gc kd gd mpa g m
 (IntKind.wrap IntKind.i64 (i29 + (1 : Int)))) else none) else L55_5 x s0 ka ga kb gb kc gc kd gd mpa g m (IntKind.wrap IntKind.i64 (i29 + (1 : Int)))))) else some (T.leaf (AV.c (C.d
 (D.v (Value.int IntKind.i64 (9 : Int)))), [((0 : Nat), Blk.cells [C.d (D.v (Value.string s0)), C.row ((1 : Nat)) ((1 : Nat)) ka, C.row ((2 : Nat)) ((5 : Nat)) kb, C.row ((3 : Nat))
 ((6 : Nat)) kc, C.row ((4 : Nat)) ((12 : Nat)) kd, C.mp ((5 : Nat))] ((157 : Nat))), ((1 : Nat), Blk.row ka ga ((1 : Nat)) ((9 : Nat))), ((2 : Nat), Blk.row kb gb ((5 : Nat)) ((71 :
 Nat))), ((3 : Nat), Blk.row kc gc ((6 : Nat)) ((74 : Nat))), ((4 : Nat), Blk.row kd gd ((12 : Nat)) ((66 : Nat))), ((5 : Nat), Blk.map ((0 : Nat)) mpa)]))) else none) else some
 (T.leaf (AV.c (C.d (D.v (Value.int IntKind.i64 (0 : Int)))), [((0 : Nat), Blk.cells [C.d (D.v (Value.string s0)), C.row ((1 : Nat)) ((1 : Nat)) ka, C.row ((2 : Nat)) ((5 : Nat)) kb,
 C.row ((3 : Nat)) ((6 : Nat)) kc, C.row ((4 : Nat)) ((12 : Nat)) kd, C.mp ((5 : Nat))] ((157 : Nat))), ((1 : Nat), Blk.row ka ga ((1 : Nat)) ((9 : Nat))), ((2 : Nat), Blk.row kb gb
 ((5 : Nat)) ((71 : Nat))), ((3 : Nat), Blk.row kc gc ((6 : Nat)) ((74 : Nat))), ((4 : Nat), Blk.row kd gd ((12 : Nat)) ((66 : Nat))), ((5 : Nat), Blk.map ((0 : Nat)) mpa)]))) := by kernel_rfl
noncomputable def o54 : Orc := Orc.cons 101 (inl Tryz.prog oWi na 1 Tryz.f101) oWi
noncomputable def ann54 : Ann := annOf []
theorem b54 : Tryz.f103.body = some (bodyOf Tryz.f103) := by kernel_rfl
set_option maxRecDepth 100000 in
theorem ev54 (x : SBay) (g : Nat) : callC Tryz.prog o54 ann54 g Tryz.f103 (bodyOf Tryz.f103) [aBay x] [] =
 (bif SBay.kind x == (3 : Int) then (bif decide (SBay.zr x ≥ (0 : Int)) then (bif decide (SBay.zr x ≤ (1000 : Int)) then (bif decide (SBay.zx x ≥ (1 : Int)) then (bif !decide
 (SBay.zx x ≤ (1000 : Int)) then some (T.leaf (AV.c (C.d (D.v (Value.bool false))), [])) else (bif SBay.vt x != (0 : Int) then some (T.leaf (AV.c (C.d (D.v (Value.bool false))), []))
 else (bif SBay.kind x == (1 : Int) then (bif decide (SBay.fin x ≥ (0 : Int)) then (bif decide (SBay.fin x ≤ (1 : Int)) then (bif decide (SBay.ct x ≥ (1 : Int)) then (bif decide
 (SBay.ct x ≤ (100 : Int)) then (bif decide (SBay.sat x ≥ (0 : Int)) then (bif decide (SBay.sat x ≤ (16383 : Int)) then (bif decide (SBay.travel x ≥ (1 : Int)) then some (T.leaf
 (AV.c (C.d (D.v (Value.bool (decide (SBay.travel x ≤ (6 : Int)))))), [])) else some (T.leaf (AV.c (C.d (D.v (Value.bool false))), []))) else some (T.leaf (AV.c (C.d (D.v (Value.bool
 false))), []))) else some (T.leaf (AV.c (C.d (D.v (Value.bool false))), []))) else some (T.leaf (AV.c (C.d (D.v (Value.bool false))), []))) else some (T.leaf (AV.c (C.d (D.v
 (Value.bool false))), []))) else some (T.leaf (AV.c (C.d (D.v (Value.bool false))), []))) else some (T.leaf (AV.c (C.d (D.v (Value.bool false))), []))) else (bif decide (SBay.fin x
 ≥ (0 : Int)) then (bif decide (SBay.fin x ≤ (0 : Int)) then (bif decide (SBay.ct x ≥ (1 : Int)) then (bif decide (SBay.ct x ≤ (100 : Int)) then (bif decide (SBay.sat x ≥ (0 : Int))
 then (bif decide (SBay.sat x ≤ (16383 : Int)) then (bif decide (SBay.travel x ≥ (1 : Int)) then some (T.leaf (AV.c (C.d (D.v (Value.bool (decide (SBay.travel x ≤ (6 : Int)))))),
 [])) else some (T.leaf (AV.c (C.d (D.v (Value.bool false))), []))) else some (T.leaf (AV.c (C.d (D.v (Value.bool false))), []))) else some (T.leaf (AV.c (C.d (D.v (Value.bool
 false))), []))) else some (T.leaf (AV.c (C.d (D.v (Value.bool false))), []))) else some (T.leaf (AV.c (C.d (D.v (Value.bool false))), []))) else some (T.leaf (AV.c (C.d (D.v
 (Value.bool false))), []))) else some (T.leaf (AV.c (C.d (D.v (Value.bool false))), [])))))) else some (T.leaf (AV.c (C.d (D.v (Value.bool false))), []))) else some (T.leaf (AV.c
 (C.d (D.v (Value.bool false))), []))) else some (T.leaf (AV.c (C.d (D.v (Value.bool false))), []))) else (bif !(SBay.zr x == (0 : Int) && (SBay.zx x == (0 : Int) && true)) then some
 (T.leaf (AV.c (C.d (D.v (Value.bool false))), [])) else (bif decide (SBay.vt x ≥ (1 : Int)) then (bif !decide (SBay.vt x ≤ (10000 : Int)) then some (T.leaf (AV.c (C.d (D.v
 (Value.bool false))), [])) else (bif SBay.kind x == (1 : Int) then (bif decide (SBay.fin x ≥ (0 : Int)) then (bif decide (SBay.fin x ≤ (1 : Int)) then (bif decide (SBay.ct x ≥ (1 :
 Int)) then (bif decide (SBay.ct x ≤ (100 : Int)) then (bif decide (SBay.sat x ≥ (0 : Int)) then (bif decide (SBay.sat x ≤ (16383 : Int)) then (bif decide (SBay.travel x ≥ (1 : Int))
 then some (T.leaf (AV.c (C.d (D.v (Value.bool (decide (SBay.travel x ≤ (6 : Int)))))), [])) else some (T.leaf (AV.c (C.d (D.v (Value.bool false))), []))) else some (T.leaf (AV.c
 (C.d (D.v (Value.bool false))), []))) else some (T.leaf (AV.c (C.d (D.v (Value.bool false))), []))) else some (T.leaf (AV.c (C.d (D.v (Value.bool false))), []))) else some (T.leaf
 (AV.c (C.d (D.v (Value.bool false))), []))) else some (T.leaf (AV.c (C.d (D.v (Value.bool false))), []))) else some (T.leaf (AV.c (C.d (D.v (Value.bool false))), []))) else (bif
 decide (SBay.fin x ≥ (0 : Int)) then (bif decide (SBay.fin x ≤ (0 : Int)) then (bif decide (SBay.ct x ≥ (1 : Int)) then (bif decide (SBay.ct x ≤ (100 : Int)) then (bif decide
 (SBay.sat x ≥ (0 : Int)) then (bif decide (SBay.sat x ≤ (16383 : Int)) then (bif decide (SBay.travel x ≥ (1 : Int)) then some (T.leaf (AV.c (C.d (D.v (Value.bool (decide
 (SBay.travel x ≤ (6 : Int)))))), [])) else some (T.leaf (AV.c (C.d (D.v (Value.bool false))), []))) else some (T.leaf (AV.c (C.d (D.v (Value.bool false))), []))) else some (T.leaf
 (AV.c (C.d (D.v (Value.bool false))), []))) else some (T.leaf (AV.c (C.d (D.v (Value.bool false))), []))) else some (T.leaf (AV.c (C.d (D.v (Value.bool false))), []))) else some
 (T.leaf (AV.c (C.d (D.v (Value.bool false))), []))) else some (T.leaf (AV.c (C.d (D.v (Value.bool false))), []))))) else some (T.leaf (AV.c (C.d (D.v (Value.bool false))), []))))) := by kernel_rfl
def d54 : Dec (List AV × Hp) ((RBay × Unit) × Unit) := .pair (.cons (.agg bayD) .nil) .nil
noncomputable def oRa (nk : ByteArray → Bool) (okr rg : RBay → Bool) : Orc := Orc.cons 103 (ansD d54 (fun a => okr a.1.1) (fun a => vB (rg a.1.1)) fun _ => []) (oIm nk)
noncomputable def o33 (nk : ByteArray → Bool) (okr rg : RBay → Bool) (ok : (Unit × RBay × Unit) × A5 → Bool) (lk : (Unit × RBay × Unit) × A5 → Int) : Orc := Orc.cons 104 (ansD d55 ok (fun a => vI (lk a)) (fun a => (d55.enc a).2)) (oRa nk okr rg)
noncomputable def ann33 : Ann := annOf [(18, ⟨[3, 50, 0, 51, 52], []⟩)]
noncomputable def L33_18 (nk : ByteArray → Bool) (okr rg : RBay → Bool) (ok : (Unit × RBay × Unit) × A5 → Bool) (lk : (Unit × RBay × Unit) × A5 → Int) (x : SBay) (s0 : ByteArray) (ka : Nat) (ga : Nat → List D) (kb : Nat) (gb : Nat → List D) (kc : Nat) (gc : Nat → List D) (bs : List SBay) (mpa : List (Value × Value)) (g m : Nat) (i52 : Int) := LK Tryz.prog (o33 nk okr rg ok lk) ann33 (List.length (α := Nat × Blk) [(0, .cells [.d (dS s0), .row 1 1 ka, .row 2 5 kb, .row 3 6 kc, .row 4 12 bs.length, .mp 5] 157), (1, .row ka ga 1 9), (2, .row kb gb 5 71), (3, .row kc gc 6 74), (4, .row bs.length (fun i => bayC (bs.getD i bay0)) 12 66), (5, .map 0 mpa)]) g Tryz.f59 18 m ⟨frm [(0, AV.c (C.ptr 0 0)), (3, AV.c (C.ptr 6 0)), (50, AV.c (C.row 4 12 (List.length bs))), (51, AV.c (C.d (D.v (Value.int IntKind.i64 (↑(List.length bs) : Int))))), (52, AV.c (C.d (D.v (Value.int IntKind.i64 i52))))] 0 Tryz.f59.ntmps, [(0, Blk.cells [C.d (D.v (Value.string s0)), C.row 1 1 ka, C.row 2 5 kb, C.row 3 6 kc, C.row 4 12 (List.length bs), C.mp 5] 157), (1, Blk.row ka ga 1 9), (2, Blk.row kb gb 5 71), (3, Blk.row kc gc 6 74), (4, Blk.row (List.length bs) (fun i => bayC (List.getD bs i bay0)) 12 66), (5, Blk.map 0 mpa), (6, Blk.cells [C.d (D.v (Value.string (SBay.name x))), C.d (D.v (Value.int IntKind.i64 (SBay.kind x))), C.d (D.v (Value.int IntKind.i64 (SBay.off x))), C.d (D.v (Value.int IntKind.i64 (SBay.fin x))), C.d (D.v (Value.int IntKind.i64 (SBay.zr x))), C.d (D.v (Value.int IntKind.i64 (SBay.zx x))), C.d (D.sl 2 (List.length (SBay.links x)) fun i => linkC (List.getD (SBay.links x) i link0)), C.d (D.v (Value.bool (SBay.closed x))), C.d (D.v (Value.int IntKind.i64 (SBay.ct x))), C.d (D.v (Value.int IntKind.i64 (SBay.vt x))), C.d (D.v (Value.int IntKind.i64 (SBay.sat x))), C.d (D.v (Value.int IntKind.i64 (SBay.travel x)))] 66)], 7⟩
theorem b33 : Tryz.f59.body = some (bodyOf Tryz.f59) := by kernel_rfl
set_option maxRecDepth 100000 in
theorem ev33 (nk : ByteArray → Bool) (okr rg : RBay → Bool) (ok : (Unit × RBay × Unit) × A5 → Bool) (lk : (Unit × RBay × Unit) × A5 → Int) (x : SBay) (s0 : ByteArray) (ka : Nat) (ga : Nat → List D) (kb : Nat) (gb : Nat → List D) (kc : Nat) (gc : Nat → List D) (bs : List SBay) (mpa : List (Value × Value)) (g : Nat) : callC Tryz.prog (o33 nk okr rg ok lk) ann33 g Tryz.f59 (bodyOf Tryz.f59) [.c (.ptr 0 0), aBay x] [(0, .cells [.d (dS s0), .row 1 1 ka, .row 2 5 kb, .row 3 6 kc, .row 4 12 bs.length, .mp 5] 157), (1, .row ka ga 1 9), (2, .row kb gb 5 71), (3, .row kc gc 6 74), (4, .row bs.length (fun i => bayC (bs.getD i bay0)) 12 66), (5, .map 0 mpa)] =
 (bif !nk (SBay.name x) then some (T.leaf (AV.c (C.d (D.v (Value.int IntKind.i64 (7 : Int)))), [((0 : Nat), Blk.cells [C.d (D.v (Value.string s0)), C.row ((1 : Nat)) ((1 : Nat)) ka,
 C.row ((2 : Nat)) ((5 : Nat)) kb, C.row ((3 : Nat)) ((6 : Nat)) kc, C.row ((4 : Nat)) ((12 : Nat)) (List.length bs), C.mp ((5 : Nat))] ((157 : Nat))), ((1 : Nat), Blk.row ka ga ((1
 : Nat)) ((9 : Nat))), ((2 : Nat), Blk.row kb gb ((5 : Nat)) ((71 : Nat))), ((3 : Nat), Blk.row kc gc ((6 : Nat)) ((74 : Nat))), ((4 : Nat), Blk.row (List.length bs) (fun i => bayC
 (List.getD bs i bay0)) ((12 : Nat)) ((66 : Nat))), ((5 : Nat), Blk.map ((0 : Nat)) mpa)])) else (bif boolOf (assoc mpa (Value.string (SBay.name x))) then some (T.leaf (AV.c (C.d
 (D.v (Value.int IntKind.i64 (8 : Int)))), [((0 : Nat), Blk.cells [C.d (D.v (Value.string s0)), C.row ((1 : Nat)) ((1 : Nat)) ka, C.row ((2 : Nat)) ((5 : Nat)) kb, C.row ((3 : Nat))
 ((6 : Nat)) kc, C.row ((4 : Nat)) ((12 : Nat)) (List.length bs), C.mp ((5 : Nat))] ((157 : Nat))), ((1 : Nat), Blk.row ka ga ((1 : Nat)) ((9 : Nat))), ((2 : Nat), Blk.row kb gb ((5
 : Nat)) ((71 : Nat))), ((3 : Nat), Blk.row kc gc ((6 : Nat)) ((74 : Nat))), ((4 : Nat), Blk.row (List.length bs) (fun i => bayC (List.getD bs i bay0)) ((12 : Nat)) ((66 : Nat))),
 ((5 : Nat), Blk.map ((0 : Nat)) mpa)])) else (bif SBay.kind x == (1 : Int) then (bif decide (SBay.off x ≥ (0 : Int)) then (bif !decide (SBay.off x ≤ IntKind.wrap IntKind.i64 ((↑kb :
 Int) - (1 : Int))) then some (T.leaf (AV.c (C.d (D.v (Value.int IntKind.i64 (9 : Int)))), [((0 : Nat), Blk.cells [C.d (D.v (Value.string s0)), C.row ((1 : Nat)) ((1 : Nat)) ka,
 C.row ((2 : Nat)) ((5 : Nat)) kb, C.row ((3 : Nat)) ((6 : Nat)) kc, C.row ((4 : Nat)) ((12 : Nat)) (List.length bs), C.mp ((5 : Nat))] ((157 : Nat))), ((1 : Nat), Blk.row ka ga ((1
 : Nat)) ((9 : Nat))), ((2 : Nat), Blk.row kb gb ((5 : Nat)) ((71 : Nat))), ((3 : Nat), Blk.row kc gc ((6 : Nat)) ((74 : Nat))), ((4 : Nat), Blk.row (List.length bs) (fun i => bayC
 (List.getD bs i bay0)) ((12 : Nat)) ((66 : Nat))), ((5 : Nat), Blk.map ((0 : Nat)) mpa)])) else (bif okr (SBay.name x, SBay.kind x, SBay.off x, SBay.fin x, SBay.zr x, SBay.zx x,
 linksD (SBay.links x), SBay.closed x, SBay.ct x, SBay.vt x, SBay.sat x, SBay.travel x, ()) then (bif !rg (SBay.name x, SBay.kind x, SBay.off x, SBay.fin x, SBay.zr x, SBay.zx x,
 linksD (SBay.links x), SBay.closed x, SBay.ct x, SBay.vt x, SBay.sat x, SBay.travel x, ()) then some (T.leaf (AV.c (C.d (D.v (Value.int IntKind.i64 (2 : Int)))), [((0 : Nat),
 Blk.cells [C.d (D.v (Value.string s0)), C.row ((1 : Nat)) ((1 : Nat)) ka, C.row ((2 : Nat)) ((5 : Nat)) kb, C.row ((3 : Nat)) ((6 : Nat)) kc, C.row ((4 : Nat)) ((12 : Nat))
 (List.length bs), C.mp ((5 : Nat))] ((157 : Nat))), ((1 : Nat), Blk.row ka ga ((1 : Nat)) ((9 : Nat))), ((2 : Nat), Blk.row kb gb ((5 : Nat)) ((71 : Nat))), ((3 : Nat), Blk.row kc
 gc ((6 : Nat)) ((74 : Nat))), ((4 : Nat), Blk.row (List.length bs) (fun i => bayC (List.getD bs i bay0)) ((12 : Nat)) ((66 : Nat))), ((5 : Nat), Blk.map ((0 : Nat)) mpa)])) else
 L33_18 nk okr rg ok lk x s0 ka ga kb gb kc gc bs mpa g g ((0 : Int))) else none)) else some (T.leaf (AV.c (C.d (D.v (Value.int IntKind.i64 (9 : Int)))), [((0 : Nat), Blk.cells [C.d
 (D.v (Value.string s0)), C.row ((1 : Nat)) ((1 : Nat)) ka, C.row ((2 : Nat)) ((5 : Nat)) kb, C.row ((3 : Nat)) ((6 : Nat)) kc, C.row ((4 : Nat)) ((12 : Nat)) (List.length bs), C.mp
 ((5 : Nat))] ((157 : Nat))), ((1 : Nat), Blk.row ka ga ((1 : Nat)) ((9 : Nat))), ((2 : Nat), Blk.row kb gb ((5 : Nat)) ((71 : Nat))), ((3 : Nat), Blk.row kc gc ((6 : Nat)) ((74 :
 Nat))), ((4 : Nat), Blk.row (List.length bs) (fun i => bayC (List.getD bs i bay0)) ((12 : Nat)) ((66 : Nat))), ((5 : Nat), Blk.map ((0 : Nat)) mpa)]))) else (bif SBay.kind x == (2 :
 Int) then (bif decide (SBay.off x ≥ (0 : Int)) then (bif !decide (SBay.off x ≤ IntKind.wrap IntKind.i64 ((↑kc : Int) - (1 : Int))) then some (T.leaf (AV.c (C.d (D.v (Value.int
 IntKind.i64 (9 : Int)))), [((0 : Nat), Blk.cells [C.d (D.v (Value.string s0)), C.row ((1 : Nat)) ((1 : Nat)) ka, C.row ((2 : Nat)) ((5 : Nat)) kb, C.row ((3 : Nat)) ((6 : Nat)) kc,
 C.row ((4 : Nat)) ((12 : Nat)) (List.length bs), C.mp ((5 : Nat))] ((157 : Nat))), ((1 : Nat), Blk.row ka ga ((1 : Nat)) ((9 : Nat))), ((2 : Nat), Blk.row kb gb ((5 : Nat)) ((71 :
 Nat))), ((3 : Nat), Blk.row kc gc ((6 : Nat)) ((74 : Nat))), ((4 : Nat), Blk.row (List.length bs) (fun i => bayC (List.getD bs i bay0)) ((12 : Nat)) ((66 : Nat))), ((5 : Nat),
 Blk.map ((0 : Nat)) mpa)])) else (bif okr (SBay.name x, SBay.kind x, SBay.off x, SBay.fin x, SBay.zr x, SBay.zx x, linksD (SBay.links x), SBay.closed x, SBay.ct x, SBay.vt x,
 SBay.sat x, SBay.travel x, ()) then (bif !rg (SBay.name x, SBay.kind x, SBay.off x, SBay.fin x, SBay.zr x, SBay.zx x, linksD (SBay.links x), SBay.closed x, SBay.ct x, SBay.vt x,
 SBay.sat x, SBay.travel x, ()) then some (T.leaf (AV.c (C.d (D.v (Value.int IntKind.i64 (2 : Int)))), [((0 : Nat), Blk.cells [C.d (D.v (Value.string s0)), C.row ((1 : Nat)) ((1 :
 Nat)) ka, C.row ((2 : Nat)) ((5 : Nat)) kb, C.row ((3 : Nat)) ((6 : Nat)) kc, C.row ((4 : Nat)) ((12 : Nat)) (List.length bs), C.mp ((5 : Nat))] ((157 : Nat))), ((1 : Nat), Blk.row
 ka ga ((1 : Nat)) ((9 : Nat))), ((2 : Nat), Blk.row kb gb ((5 : Nat)) ((71 : Nat))), ((3 : Nat), Blk.row kc gc ((6 : Nat)) ((74 : Nat))), ((4 : Nat), Blk.row (List.length bs) (fun i
 => bayC (List.getD bs i bay0)) ((12 : Nat)) ((66 : Nat))), ((5 : Nat), Blk.map ((0 : Nat)) mpa)])) else L33_18 nk okr rg ok lk x s0 ka ga kb gb kc gc bs mpa g g ((0 : Int))) else
 none)) else some (T.leaf (AV.c (C.d (D.v (Value.int IntKind.i64 (9 : Int)))), [((0 : Nat), Blk.cells [C.d (D.v (Value.string s0)), C.row ((1 : Nat)) ((1 : Nat)) ka, C.row ((2 :
 Nat)) ((5 : Nat)) kb, C.row ((3 : Nat)) ((6 : Nat)) kc, C.row ((4 : Nat)) ((12 : Nat)) (List.length bs), C.mp ((5 : Nat))] ((157 : Nat))), ((1 : Nat), Blk.row ka ga ((1 : Nat)) ((9
 : Nat))), ((2 : Nat), Blk.row kb gb ((5 : Nat)) ((71 : Nat))), ((3 : Nat), Blk.row kc gc ((6 : Nat)) ((74 : Nat))), ((4 : Nat), Blk.row (List.length bs) (fun i => bayC (List.getD bs
 i bay0)) ((12 : Nat)) ((66 : Nat))), ((5 : Nat), Blk.map ((0 : Nat)) mpa)]))) else (bif SBay.kind x == (3 : Int) then (bif decide (SBay.off x ≥ (0 : Int)) then (bif !decide
 (SBay.off x ≤ IntKind.wrap IntKind.i64 ((1 : Int) - (1 : Int))) then some (T.leaf (AV.c (C.d (D.v (Value.int IntKind.i64 (9 : Int)))), [((0 : Nat), Blk.cells [C.d (D.v (Value.string
 s0)), C.row ((1 : Nat)) ((1 : Nat)) ka, C.row ((2 : Nat)) ((5 : Nat)) kb, C.row ((3 : Nat)) ((6 : Nat)) kc, C.row ((4 : Nat)) ((12 : Nat)) (List.length bs), C.mp ((5 : Nat))] ((157
 : Nat))), ((1 : Nat), Blk.row ka ga ((1 : Nat)) ((9 : Nat))), ((2 : Nat), Blk.row kb gb ((5 : Nat)) ((71 : Nat))), ((3 : Nat), Blk.row kc gc ((6 : Nat)) ((74 : Nat))), ((4 : Nat),
 Blk.row (List.length bs) (fun i => bayC (List.getD bs i bay0)) ((12 : Nat)) ((66 : Nat))), ((5 : Nat), Blk.map ((0 : Nat)) mpa)])) else (bif okr (SBay.name x, SBay.kind x, SBay.off
 x, SBay.fin x, SBay.zr x, SBay.zx x, linksD (SBay.links x), SBay.closed x, SBay.ct x, SBay.vt x, SBay.sat x, SBay.travel x, ()) then (bif !rg (SBay.name x, SBay.kind x, SBay.off x,
 SBay.fin x, SBay.zr x, SBay.zx x, linksD (SBay.links x), SBay.closed x, SBay.ct x, SBay.vt x, SBay.sat x, SBay.travel x, ()) then some (T.leaf (AV.c (C.d (D.v (Value.int IntKind.i64
 (2 : Int)))), [((0 : Nat), Blk.cells [C.d (D.v (Value.string s0)), C.row ((1 : Nat)) ((1 : Nat)) ka, C.row ((2 : Nat)) ((5 : Nat)) kb, C.row ((3 : Nat)) ((6 : Nat)) kc, C.row ((4 :
 Nat)) ((12 : Nat)) (List.length bs), C.mp ((5 : Nat))] ((157 : Nat))), ((1 : Nat), Blk.row ka ga ((1 : Nat)) ((9 : Nat))), ((2 : Nat), Blk.row kb gb ((5 : Nat)) ((71 : Nat))), ((3 :
 Nat), Blk.row kc gc ((6 : Nat)) ((74 : Nat))), ((4 : Nat), Blk.row (List.length bs) (fun i => bayC (List.getD bs i bay0)) ((12 : Nat)) ((66 : Nat))), ((5 : Nat), Blk.map ((0 : Nat))
 mpa)])) else L33_18 nk okr rg ok lk x s0 ka ga kb gb kc gc bs mpa g g ((0 : Int))) else none)) else some (T.leaf (AV.c (C.d (D.v (Value.int IntKind.i64 (9 : Int)))), [((0 : Nat),
 Blk.cells [C.d (D.v (Value.string s0)), C.row ((1 : Nat)) ((1 : Nat)) ka, C.row ((2 : Nat)) ((5 : Nat)) kb, C.row ((3 : Nat)) ((6 : Nat)) kc, C.row ((4 : Nat)) ((12 : Nat))
 (List.length bs), C.mp ((5 : Nat))] ((157 : Nat))), ((1 : Nat), Blk.row ka ga ((1 : Nat)) ((9 : Nat))), ((2 : Nat), Blk.row kb gb ((5 : Nat)) ((71 : Nat))), ((3 : Nat), Blk.row kc
 gc ((6 : Nat)) ((74 : Nat))), ((4 : Nat), Blk.row (List.length bs) (fun i => bayC (List.getD bs i bay0)) ((12 : Nat)) ((66 : Nat))), ((5 : Nat), Blk.map ((0 : Nat)) mpa)]))) else
 some (T.leaf (AV.c (C.d (D.v (Value.int IntKind.i64 (10 : Int)))), [((0 : Nat), Blk.cells [C.d (D.v (Value.string s0)), C.row ((1 : Nat)) ((1 : Nat)) ka, C.row ((2 : Nat)) ((5 :
 Nat)) kb, C.row ((3 : Nat)) ((6 : Nat)) kc, C.row ((4 : Nat)) ((12 : Nat)) (List.length bs), C.mp ((5 : Nat))] ((157 : Nat))), ((1 : Nat), Blk.row ka ga ((1 : Nat)) ((9 : Nat))),
 ((2 : Nat), Blk.row kb gb ((5 : Nat)) ((71 : Nat))), ((3 : Nat), Blk.row kc gc ((6 : Nat)) ((74 : Nat))), ((4 : Nat), Blk.row (List.length bs) (fun i => bayC (List.getD bs i bay0))
 ((12 : Nat)) ((66 : Nat))), ((5 : Nat), Blk.map ((0 : Nat)) mpa)]))))))) := by kernel_rfl
set_option maxRecDepth 100000 in
theorem st33_18 (nk : ByteArray → Bool) (okr rg : RBay → Bool) (ok : (Unit × RBay × Unit) × A5 → Bool) (lk : (Unit × RBay × Unit) × A5 → Int) (x : SBay) (s0 : ByteArray) (ka : Nat) (ga : Nat → List D) (kb : Nat) (gb : Nat → List D) (kc : Nat) (gc : Nat → List D) (bs : List SBay) (mpa : List (Value × Value)) (g m : Nat) (i52 : Int) : L33_18 nk okr rg ok lk x s0 ka ga kb gb kc gc bs mpa g (m + 1) i52 =
 (bif decide (i52 < (↑(List.length bs) : Int)) then (bif decide ((0 : Int) ≤ i52) && decide (i52 < (↑(List.length bs) : Int)) then (bif SBay.kind x != (3 : Int) then (bif SBay.kind x
 == SBay.kind (List.getD bs (Int.toNat i52) bay0) then (bif SBay.off x == SBay.off (List.getD bs (Int.toNat i52) bay0) then (bif SBay.fin x == SBay.fin (List.getD bs (Int.toNat i52)
 bay0) then some (T.leaf (AV.c (C.d (D.v (Value.int IntKind.i64 (12 : Int)))), [((0 : Nat), Blk.cells [C.d (D.v (Value.string s0)), C.row ((1 : Nat)) ((1 : Nat)) ka, C.row ((2 :
 Nat)) ((5 : Nat)) kb, C.row ((3 : Nat)) ((6 : Nat)) kc, C.row ((4 : Nat)) ((12 : Nat)) (List.length bs), C.mp ((5 : Nat))] ((157 : Nat))), ((1 : Nat), Blk.row ka ga ((1 : Nat)) ((9
 : Nat))), ((2 : Nat), Blk.row kb gb ((5 : Nat)) ((71 : Nat))), ((3 : Nat), Blk.row kc gc ((6 : Nat)) ((74 : Nat))), ((4 : Nat), Blk.row (List.length bs) (fun i => bayC (List.getD bs
 i bay0)) ((12 : Nat)) ((66 : Nat))), ((5 : Nat), Blk.map ((0 : Nat)) mpa)])) else L33_18 nk okr rg ok lk x s0 ka ga kb gb kc gc bs mpa g m (IntKind.wrap IntKind.i64 (i52 + (1 :
 Int)))) else L33_18 nk okr rg ok lk x s0 ka ga kb gb kc gc bs mpa g m (IntKind.wrap IntKind.i64 (i52 + (1 : Int)))) else L33_18 nk okr rg ok lk x s0 ka ga kb gb kc gc bs mpa g m
 (IntKind.wrap IntKind.i64 (i52 + (1 : Int)))) else L33_18 nk okr rg ok lk x s0 ka ga kb gb kc gc bs mpa g m (IntKind.wrap IntKind.i64 (i52 + (1 : Int)))) else none) else (bif ok
 (((), (SBay.name x, SBay.kind x, SBay.off x, SBay.fin x, SBay.zr x, SBay.zx x, D.sl (2 : Nat) (List.length (SBay.links x)) fun i => linkC (List.getD (SBay.links x) i link0),
 SBay.closed x, SBay.ct x, SBay.vt x, SBay.sat x, SBay.travel x, ()), ()), (s0, ka, kb, kc, List.length bs, (), ()), (ka, ga), (kb, gb), (kc, gc), (List.length bs, fun i => bayC
 (List.getD bs i bay0)), mpa, ()) then (bif lk (((), (SBay.name x, SBay.kind x, SBay.off x, SBay.fin x, SBay.zr x, SBay.zx x, D.sl (2 : Nat) (List.length (SBay.links x)) fun i =>
 linkC (List.getD (SBay.links x) i link0), SBay.closed x, SBay.ct x, SBay.vt x, SBay.sat x, SBay.travel x, ()), ()), (s0, ka, kb, kc, List.length bs, (), ()), (ka, ga), (kb, gb),
 (kc, gc), (List.length bs, fun i => bayC (List.getD bs i bay0)), mpa, ()) != (0 : Int) then some (T.leaf (AV.c (C.d (D.v (Value.int IntKind.i64 (lk (((), (SBay.name x, SBay.kind x,
 SBay.off x, SBay.fin x, SBay.zr x, SBay.zx x, D.sl (2 : Nat) (List.length (SBay.links x)) fun i => linkC (List.getD (SBay.links x) i link0), SBay.closed x, SBay.ct x, SBay.vt x,
 SBay.sat x, SBay.travel x, ()), ()), (s0, ka, kb, kc, List.length bs, (), ()), (ka, ga), (kb, gb), (kc, gc), (List.length bs, fun i => bayC (List.getD bs i bay0)), mpa, ()))))),
 [((0 : Nat), Blk.cells [C.d (D.v (Value.string s0)), C.row ((1 : Nat)) ((1 : Nat)) ka, C.row ((2 : Nat)) ((5 : Nat)) kb, C.row ((3 : Nat)) ((6 : Nat)) kc, C.row ((4 : Nat)) ((12 :
 Nat)) (List.length bs), C.mp ((5 : Nat))] ((157 : Nat))), ((1 : Nat), Blk.row ka ga ((1 : Nat)) ((9 : Nat))), ((2 : Nat), Blk.row kb gb ((5 : Nat)) ((71 : Nat))), ((3 : Nat),
 Blk.row kc gc ((6 : Nat)) ((74 : Nat))), ((4 : Nat), Blk.row (List.length bs) (fun i => bayC (List.getD bs i bay0)) ((12 : Nat)) ((66 : Nat))), ((5 : Nat), Blk.map ((0 : Nat))
 (Prod.fst (Prod.snd (Prod.snd (Prod.snd (Prod.snd (Prod.snd (Prod.snd (((), (SBay.name x, SBay.kind x, SBay.off x, SBay.fin x, SBay.zr x, SBay.zx x, D.sl (2 : Nat) (List.length
 (SBay.links x)) fun i => linkC (List.getD (SBay.links x) i link0), SBay.closed x, SBay.ct x, SBay.vt x, SBay.sat x, SBay.travel x, ()), ()), (s0, ka, kb, kc, List.length bs, (),
 ()), (ka, ga), (kb, gb), (kc, gc), (List.length bs, fun i => bayC (List.getD bs i bay0)), mpa, ())))))))))])) else (bif decide ((List.length bs + (1 : Nat)) * (120 : Nat) ≤
 (140737488355328 : Nat)) && decide (List.length bs + (1 : Nat) ≤ (9223372036854775807 : Nat)) then some (T.leaf (AV.c (C.d (D.v (Value.int IntKind.i64 (0 : Int)))), [((0 : Nat),
 Blk.cells [C.d (D.v (Value.string s0)), C.row ((1 : Nat)) ((1 : Nat)) ka, C.row ((2 : Nat)) ((5 : Nat)) kb, C.row ((3 : Nat)) ((6 : Nat)) kc, C.row ((6 : Nat)) ((12 : Nat))
 (List.length bs + (1 : Nat)), C.mp ((5 : Nat))] ((157 : Nat))), ((1 : Nat), Blk.row ka ga ((1 : Nat)) ((9 : Nat))), ((2 : Nat), Blk.row kb gb ((5 : Nat)) ((71 : Nat))), ((3 : Nat),
 Blk.row kc gc ((6 : Nat)) ((74 : Nat))), ((4 : Nat), Blk.dead), ((5 : Nat), Blk.map ((0 : Nat)) ((Value.string (SBay.name x), Value.bool true) :: Prod.fst (Prod.snd (Prod.snd
 (Prod.snd (Prod.snd (Prod.snd (Prod.snd (((), (SBay.name x, SBay.kind x, SBay.off x, SBay.fin x, SBay.zr x, SBay.zx x, D.sl (2 : Nat) (List.length (SBay.links x)) fun i => linkC
 (List.getD (SBay.links x) i link0), SBay.closed x, SBay.ct x, SBay.vt x, SBay.sat x, SBay.travel x, ()), ()), (s0, ka, kb, kc, List.length bs, (), ()), (ka, ga), (kb, gb), (kc, gc),
 (List.length bs, fun i => bayC (List.getD bs i bay0)), mpa, ()))))))))), ((6 : Nat), Blk.row (List.length bs + (1 : Nat)) (appF (List.length bs) (fun i => bayC (List.getD bs i
 bay0)) (chunk [D.v (Value.string (SBay.name x)), D.v (Value.int IntKind.i64 (SBay.kind x)), D.v (Value.int IntKind.i64 (SBay.off x)), D.v (Value.int IntKind.i64 (SBay.fin x)), D.v
 (Value.int IntKind.i64 (SBay.zr x)), D.v (Value.int IntKind.i64 (SBay.zx x)), D.sl (2 : Nat) (List.length (SBay.links x)) fun i => linkC (List.getD (SBay.links x) i link0), D.v
 (Value.bool (SBay.closed x)), D.v (Value.int IntKind.i64 (SBay.ct x)), D.v (Value.int IntKind.i64 (SBay.vt x)), D.v (Value.int IntKind.i64 (SBay.sat x)), D.v (Value.int IntKind.i64
 (SBay.travel x))] ((11 : Nat) + (1 : Nat)))) ((12 : Nat)) ((66 : Nat)))])) else none)) else none)) := by kernel_rfl
noncomputable def h33 (cn : Nat → (Nat → List D) → (Nat → List D)) (bc : RBay → List D) (a : (Unit × RBay × Unit) × A5) : Hp := [(0, .cells [.d (dS a.2.1.1), .row 1 1 a.2.2.1.1, .row 2 5 a.2.2.2.1.1, .row 3 6 a.2.2.2.2.1.1, .row 6 12 (a.2.2.2.2.2.1.1 + 1), .mp 5] 157), (1, .row a.2.2.1.1 a.2.2.1.2 1 9), (2, .row a.2.2.2.1.1 a.2.2.2.1.2 5 71), (3, .row a.2.2.2.2.1.1 a.2.2.2.2.1.2 6 74), (4, .dead), (5, .map 0 ((.string a.1.2.1.1, .bool true) :: a.2.2.2.2.2.2.1)), (6, .row (a.2.2.2.2.2.1.1 + 1) (appF a.2.2.2.2.2.1.1 (cn a.2.2.2.2.2.1.1 a.2.2.2.2.2.1.2) (chunk (bc a.1.2.1) 12)) 12 66)]
noncomputable def h33e (cn : Nat → (Nat → List D) → (Nat → List D)) (a : (Unit × RBay × Unit) × A5) : Hp := [(0, .cells [.d (dS a.2.1.1), .row 1 1 a.2.2.1.1, .row 2 5 a.2.2.2.1.1, .row 3 6 a.2.2.2.2.1.1, .row 4 12 a.2.2.2.2.2.1.1, .mp 5] 157), (1, .row a.2.2.1.1 a.2.2.1.2 1 9), (2, .row a.2.2.2.1.1 a.2.2.2.1.2 5 71), (3, .row a.2.2.2.2.1.1 a.2.2.2.2.1.2 6 74), (4, .row a.2.2.2.2.2.1.1 (cn a.2.2.2.2.2.1.1 a.2.2.2.2.2.1.2) 12 66), (5, .map 0 a.2.2.2.2.2.2.1)]
noncomputable def o32 (cn : Nat → (Nat → List D) → (Nat → List D)) (bc : RBay → List D) (ok : (Unit × RBay × Unit) × A5 → Bool) (er : (Unit × RBay × Unit) × A5 → Int) : Orc := Orc.cons 59 (ansB d55 ok (fun a => er a == 0) (fun _ => vI 0) (h33 cn bc) (fun a => vI (er a)) (h33e cn)) Orc.nil
noncomputable def ann32 : Ann := annOf [(2, ⟨[1, 8, 9, 10], [(1, 4, 12, 66)]⟩)]
noncomputable def L32_2 (cn : Nat → (Nat → List D) → (Nat → List D)) (bc : RBay → List D) (ok : (Unit × RBay × Unit) × A5 → Bool) (er : (Unit × RBay × Unit) × A5 → Int) (l : List SBay) (s0 : ByteArray) (ka : Nat) (ga : Nat → List D) (kb : Nat) (gb : Nat → List D) (kc : Nat) (gc : Nat → List D) (mpa : List (Value × Value)) (g m : Nat) (l4 : List (Value × Value)) (n5 : Nat) (f5 : Nat → List D) (i10 : Int) := LK Tryz.prog (o32 cn bc ok er) ann32 (List.length (α := Nat × Blk) [(0, .cells [.d (dS s0), .row 1 1 ka, .row 2 5 kb, .row 3 6 kc, nilC, .mp 4] 157), (1, .row ka ga 1 9), (2, .row kb gb 5 71), (3, .row kc gc 6 74), (4, .map 0 mpa)]) g Tryz.f58 2 m ⟨frm [(1, AV.c (C.fn 59 [Rf.ptr 0 0] [])), (8, AV.c (C.d (D.sl 12 (List.length l) fun i => bayC (List.getD l i bay0)))), (9, AV.c (C.d (D.v (Value.int IntKind.i64 (↑(List.length l) : Int))))), (10, AV.c (C.d (D.v (Value.int IntKind.i64 i10))))] 0 Tryz.f58.ntmps, [(0, Blk.cells [C.d (D.v (Value.string s0)), C.row 1 1 ka, C.row 2 5 kb, C.row 3 6 kc, C.row 5 12 n5, C.mp 4] 157), (1, Blk.row ka ga 1 9), (2, Blk.row kb gb 5 71), (3, Blk.row kc gc 6 74), (4, Blk.map 0 l4), (5, Blk.row n5 f5 12 66)], 6⟩
theorem b32 : Tryz.f58.body = some (bodyOf Tryz.f58) := by kernel_rfl
set_option maxRecDepth 100000 in
theorem ev32 (cn : Nat → (Nat → List D) → (Nat → List D)) (bc : RBay → List D) (ok : (Unit × RBay × Unit) × A5 → Bool) (er : (Unit × RBay × Unit) × A5 → Int) (l : List SBay) (s0 : ByteArray) (ka : Nat) (ga : Nat → List D) (kb : Nat) (gb : Nat → List D) (kc : Nat) (gc : Nat → List D) (mpa : List (Value × Value)) (g : Nat) : callC Tryz.prog (o32 cn bc ok er) ann32 g Tryz.f58 (bodyOf Tryz.f58) [.c (.d (baysD l)), fnOf 59] [(0, .cells [.d (dS s0), .row 1 1 ka, .row 2 5 kb, .row 3 6 kc, nilC, .mp 4] 157), (1, .row ka ga 1 9), (2, .row kb gb 5 71), (3, .row kc gc 6 74), (4, .map 0 mpa)] =
 L32_2 cn bc ok er l s0 ka ga kb gb kc gc mpa g g mpa (0 : Nat) (fun x => []) ((0 : Int)) := by kernel_rfl
set_option maxRecDepth 100000 in
theorem st32_2 (cn : Nat → (Nat → List D) → (Nat → List D)) (bc : RBay → List D) (ok : (Unit × RBay × Unit) × A5 → Bool) (er : (Unit × RBay × Unit) × A5 → Int) (l : List SBay) (s0 : ByteArray) (ka : Nat) (ga : Nat → List D) (kb : Nat) (gb : Nat → List D) (kc : Nat) (gc : Nat → List D) (mpa : List (Value × Value)) (g m : Nat) (l4 : List (Value × Value)) (n5 : Nat) (f5 : Nat → List D) (i10 : Int) : L32_2 cn bc ok er l s0 ka ga kb gb kc gc mpa g (m + 1) l4 n5 f5 i10 =
 (bif decide (i10 < (↑(List.length l) : Int)) then (bif decide ((0 : Int) ≤ i10) && decide (i10 < (↑(List.length l) : Int)) then (bif ok (((), (SBay.name (List.getD l (Int.toNat i10)
 bay0), SBay.kind (List.getD l (Int.toNat i10) bay0), SBay.off (List.getD l (Int.toNat i10) bay0), SBay.fin (List.getD l (Int.toNat i10) bay0), SBay.zr (List.getD l (Int.toNat i10)
 bay0), SBay.zx (List.getD l (Int.toNat i10) bay0), linksD (SBay.links (List.getD l (Int.toNat i10) bay0)), SBay.closed (List.getD l (Int.toNat i10) bay0), SBay.ct (List.getD l
 (Int.toNat i10) bay0), SBay.vt (List.getD l (Int.toNat i10) bay0), SBay.sat (List.getD l (Int.toNat i10) bay0), SBay.travel (List.getD l (Int.toNat i10) bay0), ()), ()), (s0, ka,
 kb, kc, n5, (), ()), (ka, ga), (kb, gb), (kc, gc), (n5, f5), l4, ()) then (bif er (((), (SBay.name (List.getD l (Int.toNat i10) bay0), SBay.kind (List.getD l (Int.toNat i10) bay0),
 SBay.off (List.getD l (Int.toNat i10) bay0), SBay.fin (List.getD l (Int.toNat i10) bay0), SBay.zr (List.getD l (Int.toNat i10) bay0), SBay.zx (List.getD l (Int.toNat i10) bay0),
 linksD (SBay.links (List.getD l (Int.toNat i10) bay0)), SBay.closed (List.getD l (Int.toNat i10) bay0), SBay.ct (List.getD l (Int.toNat i10) bay0), SBay.vt (List.getD l (Int.toNat
 i10) bay0), SBay.sat (List.getD l (Int.toNat i10) bay0), SBay.travel (List.getD l (Int.toNat i10) bay0), ()), ()), (s0, ka, kb, kc, n5, (), ()), (ka, ga), (kb, gb), (kc, gc), (n5,
 f5), l4, ()) == (0 : Int) then L32_2 cn bc ok er l s0 ka ga kb gb kc gc mpa g m ((Value.string (SBay.name (List.getD l (Int.toNat i10) bay0)), Value.bool true) :: Prod.fst (Prod.snd
 (Prod.snd (Prod.snd (Prod.snd (Prod.snd (Prod.snd (((), (SBay.name (List.getD l (Int.toNat i10) bay0), SBay.kind (List.getD l (Int.toNat i10) bay0), SBay.off (List.getD l (Int.toNat
 i10) bay0), SBay.fin (List.getD l (Int.toNat i10) bay0), SBay.zr (List.getD l (Int.toNat i10) bay0), SBay.zx (List.getD l (Int.toNat i10) bay0), linksD (SBay.links (List.getD l
 (Int.toNat i10) bay0)), SBay.closed (List.getD l (Int.toNat i10) bay0), SBay.ct (List.getD l (Int.toNat i10) bay0), SBay.vt (List.getD l (Int.toNat i10) bay0), SBay.sat (List.getD l
 (Int.toNat i10) bay0), SBay.travel (List.getD l (Int.toNat i10) bay0), ()), ()), (s0, ka, kb, kc, n5, (), ()), (ka, ga), (kb, gb), (kc, gc), (n5, f5), l4, ())))))))) (n5 + (1 :
 Nat)) (appF n5 (cn n5 f5) (chunk (bc (SBay.name (List.getD l (Int.toNat i10) bay0), SBay.kind (List.getD l (Int.toNat i10) bay0), SBay.off (List.getD l (Int.toNat i10) bay0),
 SBay.fin (List.getD l (Int.toNat i10) bay0), SBay.zr (List.getD l (Int.toNat i10) bay0), SBay.zx (List.getD l (Int.toNat i10) bay0), linksD (SBay.links (List.getD l (Int.toNat i10)
 bay0)), SBay.closed (List.getD l (Int.toNat i10) bay0), SBay.ct (List.getD l (Int.toNat i10) bay0), SBay.vt (List.getD l (Int.toNat i10) bay0), SBay.sat (List.getD l (Int.toNat i10)
 bay0), SBay.travel (List.getD l (Int.toNat i10) bay0), ())) (12 : Nat))) (IntKind.wrap IntKind.i64 (i10 + (1 : Int))) else (bif er (((), (SBay.name (List.getD l (Int.toNat i10)
 bay0), SBay.kind (List.getD l (Int.toNat i10) bay0), SBay.off (List.getD l (Int.toNat i10) bay0), SBay.fin (List.getD l (Int.toNat i10) bay0), SBay.zr (List.getD l (Int.toNat i10)
 bay0), SBay.zx (List.getD l (Int.toNat i10) bay0), linksD (SBay.links (List.getD l (Int.toNat i10) bay0)), SBay.closed (List.getD l (Int.toNat i10) bay0), SBay.ct (List.getD l
 (Int.toNat i10) bay0), SBay.vt (List.getD l (Int.toNat i10) bay0), SBay.sat (List.getD l (Int.toNat i10) bay0), SBay.travel (List.getD l (Int.toNat i10) bay0), ()), ()), (s0, ka,
 kb, kc, n5, (), ()), (ka, ga), (kb, gb), (kc, gc), (n5, f5), l4, ()) != (0 : Int) then some (T.leaf (AV.c (C.d (D.v (Value.int IntKind.i64 (er (((), (SBay.name (List.getD l
 (Int.toNat i10) bay0), SBay.kind (List.getD l (Int.toNat i10) bay0), SBay.off (List.getD l (Int.toNat i10) bay0), SBay.fin (List.getD l (Int.toNat i10) bay0), SBay.zr (List.getD l
 (Int.toNat i10) bay0), SBay.zx (List.getD l (Int.toNat i10) bay0), linksD (SBay.links (List.getD l (Int.toNat i10) bay0)), SBay.closed (List.getD l (Int.toNat i10) bay0), SBay.ct
 (List.getD l (Int.toNat i10) bay0), SBay.vt (List.getD l (Int.toNat i10) bay0), SBay.sat (List.getD l (Int.toNat i10) bay0), SBay.travel (List.getD l (Int.toNat i10) bay0), ()),
 ()), (s0, ka, kb, kc, n5, (), ()), (ka, ga), (kb, gb), (kc, gc), (n5, f5), l4, ()))))), [((0 : Nat), Blk.cells [C.d (D.v (Value.string s0)), C.row ((1 : Nat)) ((1 : Nat)) ka, C.row
 ((2 : Nat)) ((5 : Nat)) kb, C.row ((3 : Nat)) ((6 : Nat)) kc, C.row ((5 : Nat)) ((12 : Nat)) n5, C.mp ((4 : Nat))] ((157 : Nat))), ((1 : Nat), Blk.row ka ga ((1 : Nat)) ((9 :
 Nat))), ((2 : Nat), Blk.row kb gb ((5 : Nat)) ((71 : Nat))), ((3 : Nat), Blk.row kc gc ((6 : Nat)) ((74 : Nat))), ((4 : Nat), Blk.map ((0 : Nat)) (Prod.fst (Prod.snd (Prod.snd
 (Prod.snd (Prod.snd (Prod.snd (Prod.snd (((), (SBay.name (List.getD l (Int.toNat i10) bay0), SBay.kind (List.getD l (Int.toNat i10) bay0), SBay.off (List.getD l (Int.toNat i10)
 bay0), SBay.fin (List.getD l (Int.toNat i10) bay0), SBay.zr (List.getD l (Int.toNat i10) bay0), SBay.zx (List.getD l (Int.toNat i10) bay0), linksD (SBay.links (List.getD l
 (Int.toNat i10) bay0)), SBay.closed (List.getD l (Int.toNat i10) bay0), SBay.ct (List.getD l (Int.toNat i10) bay0), SBay.vt (List.getD l (Int.toNat i10) bay0), SBay.sat (List.getD l
 (Int.toNat i10) bay0), SBay.travel (List.getD l (Int.toNat i10) bay0), ()), ()), (s0, ka, kb, kc, n5, (), ()), (ka, ga), (kb, gb), (kc, gc), (n5, f5), l4, ()))))))))), ((5 : Nat),
 Blk.row n5 (cn n5 f5) ((12 : Nat)) ((66 : Nat)))])) else L32_2 cn bc ok er l s0 ka ga kb gb kc gc mpa g m (Prod.fst (Prod.snd (Prod.snd (Prod.snd (Prod.snd (Prod.snd (Prod.snd (((),
 (SBay.name (List.getD l (Int.toNat i10) bay0), SBay.kind (List.getD l (Int.toNat i10) bay0), SBay.off (List.getD l (Int.toNat i10) bay0), SBay.fin (List.getD l (Int.toNat i10)
 bay0), SBay.zr (List.getD l (Int.toNat i10) bay0), SBay.zx (List.getD l (Int.toNat i10) bay0), linksD (SBay.links (List.getD l (Int.toNat i10) bay0)), SBay.closed (List.getD l
 (Int.toNat i10) bay0), SBay.ct (List.getD l (Int.toNat i10) bay0), SBay.vt (List.getD l (Int.toNat i10) bay0), SBay.sat (List.getD l (Int.toNat i10) bay0), SBay.travel (List.getD l
 (Int.toNat i10) bay0), ()), ()), (s0, ka, kb, kc, n5, (), ()), (ka, ga), (kb, gb), (kc, gc), (n5, f5), l4, ())))))))) n5 (cn n5 f5) (IntKind.wrap IntKind.i64 (i10 + (1 : Int)))))
 else none) else none) else some (T.leaf (AV.c (C.d (D.v (Value.int IntKind.i64 (0 : Int)))), [((0 : Nat), Blk.cells [C.d (D.v (Value.string s0)), C.row ((1 : Nat)) ((1 : Nat)) ka,
 C.row ((2 : Nat)) ((5 : Nat)) kb, C.row ((3 : Nat)) ((6 : Nat)) kc, C.row ((5 : Nat)) ((12 : Nat)) n5, C.mp ((4 : Nat))] ((157 : Nat))), ((1 : Nat), Blk.row ka ga ((1 : Nat)) ((9 :
 Nat))), ((2 : Nat), Blk.row kb gb ((5 : Nat)) ((71 : Nat))), ((3 : Nat), Blk.row kc gc ((6 : Nat)) ((74 : Nat))), ((4 : Nat), Blk.map ((0 : Nat)) l4), ((5 : Nat), Blk.row n5 f5 ((12
 : Nat)) ((66 : Nat)))]))) := by kernel_rfl
end Go.Proofs.YtngoglhlhlfknaaGreat.st
namespace Go.Proofs.YtngoglhlhlfknaaGreat.st
open Go.RowKit Go.Eb
set_option maxRecDepth 100000

theorem appOk {k b : Nat} (h : k + 1 ≤ 1000) (hb : b ≤ 1000) : (decide ((k + 1) * b ≤ 140737488355328) && decide (k + 1 ≤ 9223372036854775807)) = true := by
  have h1 : (k + 1) * b ≤ 1000 * 1000 := Nat.mul_le_mul h hb
  rw [decide_eq_true (by omega), decide_eq_true (by omega)]; rfl

theorem sNm : OrcS Tryz.prog (oNm nameOk) := .cons (.p decS_ok c15) .nil
theorem sNam : OrcS Tryz.prog (oNam nameOk) := .cons (.inl sNm Tryz.func100 (by kernel_rfl)) .nil
theorem s26 : OrcS Tryz.prog (o26 nameOk) := .cons (.inl sNam Tryz.func53 (by kernel_rfl)) .nil
theorem sWi : OrcS Tryz.prog oWi := .cons (.inl .nil Tryz.func102 (by kernel_rfl)) .nil
theorem sIm : OrcS Tryz.prog (oIm nameOk) := .cons (.inl sWi Tryz.func101 (by kernel_rfl)) (.cons (.inl .nil Tryz.func102 (by kernel_rfl)) sNam)
theorem s28 : OrcS Tryz.prog (o28 nameOk) := .cons (.inl sIm Tryz.func55 (by kernel_rfl)) .nil
theorem s30 : OrcS Tryz.prog (o30 nameOk) := .cons (.inl sIm Tryz.func57 (by kernel_rfl)) .nil

theorem c26 (l : List ByteArray) (s0 : ByteArray) (N : List ByteArray) (hl : l.length ≤ 900) :
    CX Tryz.prog 52 [.c (.d (busesD l)), fnOf 53] (H1 s0 (mapOf N)) (vI (takeN id (fun N _ x => namErr N x) N [] l).1)
      (H1' s0 (mapOf (N ++ (takeN id (fun N _ x => namErr N x) N [] l).2.map id)) (takeN id (fun N _ x => namErr N x) N [] l).2.length (fun i => busC ((takeN id (fun N _ x => namErr N x) N [] l).2.getD i e0))) := by
  obtain ⟨g, hg⟩ : ∃ g, l.length < g := ⟨l.length + 1, by omega⟩
  obtain ⟨f', hr, he⟩ := first_loop (nm := id) (F := fun N _ x => namErr N x) (N := N) (c := busC) (d0 := e0) (l := l) (L := fun m mp n f i => L26_2 nameOk l s0 (mapOf N) g m mp n f i) (HX := fun mp n f => H1' s0 mp n f)
    (fun m k before f hk hb hr => by
      refine ⟨_, f, hr.app' rfl, hr, ?_⟩
      rw [st26_2]
      simp only [lt1 hk, ge0, tn, Bool.and_self, cond_true, nx hk (by omega), assoc_mapOf, appOk (k := k) (b := 16) (by omega) (by omega)]
      unfold namErr
      simp only [id]
      cases nameOk (l.getD k e0) with
      | false => rfl
      | true => cases inB (N ++ before.map id) (l.getD k e0) <;> rfl)
    (fun m mp n f => by
      rw [st26_2, lt0 (Nat.lt_irrefl _)]
      rfl) g 0 [] (fun _ => []) (by omega) (by omega) rfl (.nil _)
  have hev := ev26 nameOk l s0 (mapOf N) g
  simp only [List.map_nil, List.append_nil, List.drop_zero] at he hr
  refine (cx_of s26.ok Tryz.func52 b26 rfl (hev.trans he)).le (.refl _) ?_
  exact .cons (.refl _) (.cons (.refl _) (.cons hr.ble .nil))

theorem c28 (l : List SLine) (s0 : ByteArray) (ka : Nat) (ga : Nat → List D) (N : List ByteArray) (hl : l.length ≤ 900) :
    CX Tryz.prog 54 [.c (.d (linesD l)), fnOf 55] (H2 s0 ka ga (mapOf N)) (vI (tLine N l).1)
      (H2' s0 ka ga (mapOf (N ++ (tLine N l).2.map SLine.name)) (tLine N l).2.length (fun i => lineC ((tLine N l).2.getD i line0))) := by
  obtain ⟨g, hg⟩ : ∃ g, l.length < g := ⟨l.length + 1, by omega⟩
  obtain ⟨f', hr, he⟩ := first_loop (nm := SLine.name) (F := fun N _ x => lineErr N x) (N := N) (c := lineC) (d0 := line0) (l := l) (L := fun m mp n f i => L28_2 nameOk l s0 ka ga (mapOf N) g m mp n f i) (HX := fun mp n f => H2' s0 ka ga mp n f)
    (fun m k before f hk hb hr => by
      refine ⟨_, f, hr.app' rfl, hr, ?_⟩
      rw [st28_2]
      simp only [lt1 hk, ge0, tn, Bool.and_self, cond_true, nx hk (by omega), assoc_mapOf, appOk (k := k) (b := 48) (by omega) (by omega), fNot, fAnd]
      unfold lineErr namErr impOk within
      cases nameOk (l.getD k line0).name with
      | false => rfl
      | true =>
        cases inB (N ++ before.map SLine.name) (l.getD k line0).name with
        | true => rfl
        | false =>
          generalize decide ((l.getD k line0).r1 ≥ 0) = b1
          generalize decide ((l.getD k line0).r1 ≤ 1000) = b2
          generalize decide ((l.getD k line0).x1 ≥ 1) = b3
          generalize decide ((l.getD k line0).x1 ≤ 1000) = b4
          generalize decide ((l.getD k line0).r0 ≥ 0) = b5
          generalize decide ((l.getD k line0).r0 ≤ 1000) = b6
          generalize decide ((l.getD k line0).x0 ≥ 1) = b7
          generalize decide ((l.getD k line0).x0 ≤ 1000) = b8
          cases b1 <;> cases b2 <;> cases b3 <;> cases b4 <;> first | rfl | (cases b5 <;> cases b6 <;> cases b7 <;> cases b8 <;> rfl))
    (fun m mp n f => by
      rw [st28_2, lt0 (Nat.lt_irrefl _)]
      rfl) g 0 [] (fun _ => []) (by omega) (by omega) rfl (.nil _)
  have hev := ev28 nameOk l s0 ka ga (mapOf N) g
  simp only [List.map_nil, List.append_nil, List.drop_zero] at he hr
  refine (cx_of s28.ok Tryz.func54 b28 rfl (hev.trans he)).le (.refl _) ?_
  exact .cons (.refl _) (.cons (.refl _) (.cons (.refl _) (.cons hr.ble .nil)))

theorem c30 (l : List SSrc) (s0 : ByteArray) (ka : Nat) (ga : Nat → List D) (kb : Nat) (gb : Nat → List D) (N : List ByteArray) (hl : l.length ≤ 900) :
    CX Tryz.prog 56 [.c (.d (srcsD l)), fnOf 57] (H3 s0 ka ga kb gb (mapOf N)) (vI (tSrc N l).1)
      (H3' s0 ka ga kb gb (mapOf (N ++ (tSrc N l).2.map SSrc.name)) (tSrc N l).2.length (fun i => srcC' ((tSrc N l).2.getD i src0))) := by
  obtain ⟨g, hg⟩ : ∃ g, l.length < g := ⟨l.length + 1, by omega⟩
  obtain ⟨f', hr, he⟩ := first_loop (nm := SSrc.name) (F := fun N _ x => srcErr N x) (N := N) (c := srcC') (d0 := src0) (l := l) (L := fun m mp n f i => L30_2 nameOk l s0 ka ga kb gb (mapOf N) g m mp n f i) (HX := fun mp n f => H3' s0 ka ga kb gb mp n f)
    (fun m k before f hk hb hr => by
      refine ⟨_, f, hr.app' rfl, hr, ?_⟩
      rw [st30_2]
      simp only [lt1 hk, ge0, tn, Bool.and_self, cond_true, nx hk (by omega), assoc_mapOf, appOk (k := k) (b := 56) (by omega) (by omega), fNot, fAnd]
      unfold srcErr namErr impOk within
      cases nameOk (l.getD k src0).name with
      | false => rfl
      | true =>
        cases inB (N ++ before.map SSrc.name) (l.getD k src0).name with
        | true => rfl
        | false =>
          generalize decide ((l.getD k src0).emf ≥ 1) = a1
          generalize decide ((l.getD k src0).emf ≤ 1000000) = a2
          generalize decide ((l.getD k src0).r1 ≥ 0) = b1
          generalize decide ((l.getD k src0).r1 ≤ 1000) = b2
          generalize decide ((l.getD k src0).x1 ≥ 1) = b3
          generalize decide ((l.getD k src0).x1 ≤ 1000) = b4
          generalize decide ((l.getD k src0).r0 ≥ 0) = b5
          generalize decide ((l.getD k src0).r0 ≤ 1000) = b6
          generalize decide ((l.getD k src0).x0 ≥ 1) = b7
          generalize decide ((l.getD k src0).x0 ≤ 1000) = b8
          cases a1 <;> cases a2 <;> first | rfl | (cases b1 <;> cases b2 <;> cases b3 <;> cases b4 <;> first | rfl | (cases b5 <;> cases b6 <;> cases b7 <;> cases b8 <;> rfl)))
    (fun m mp n f => by
      rw [st30_2, lt0 (Nat.lt_irrefl _)]
      rfl) g 0 [] (fun _ => []) (by omega) (by omega) rfl (.nil _)
  have hev := ev30 nameOk l s0 ka ga kb gb (mapOf N) g
  simp only [List.map_nil, List.append_nil, List.drop_zero] at he hr
  refine (cx_of s30.ok Tryz.func56 b30 rfl (hev.trans he)).le (.refl _) ?_
  exact .cons (.refl _) (.cons (.refl _) (.cons (.refl _) (.cons (.refl _) (.cons hr.ble .nil))))
end Go.Proofs.YtngoglhlhlfknaaGreat.st
namespace Go.Proofs.YtngoglhlhlfknaaGreat.st
open Go.RowKit Go.Eb
set_option maxRecDepth 100000

abbrev lI (e : Int) (H : Hp) : Option (T (AV × Hp)) := some (.leaf (vI e, H))
theorem w1 {k : Nat} (h : k ≤ 9223372036854775807) : IntKind.wrap IntKind.i64 ((k : Int) - 1) = (k : Int) - 1 := wrap_id (by omega) (by omega)
theorem len_lt1 (n : Nat) : decide ((n : Int) < 1) = decide (n < 1) := by rw [decide_eq_decide]; omega
theorem len_gt2 (n : Nat) : decide ((n : Int) > 2) = decide (2 < n) := by rw [decide_eq_decide]; omega
theorem len_ne2 (n : Nat) : ((n : Int) != 2) = (n != 2) := by
  rw [Bool.eq_iff_iff]; simp only [bne_iff_ne]; omega
theorem gt0 (k : Nat) : decide ((k : Int) > 0) = decide (0 < k) := by rw [decide_eq_decide]; omega

section
variable (x : SBay) (s0 : ByteArray) (ka : Nat) (ga : Nat → List D) (kb : Nat) (gb : Nat → List D) (kc : Nat) (gc : Nat → List D) (kd : Nat) (gd : Nat → List D) (mpa : List (Value × Value))
def prevB (l : List SLink) : Nat → Option Int
  | 0 => none
  | k + 1 => some (l.getD k link0).bus
theorem lp55 (hka : ka ≤ 9223372036854775807) (hl : x.links.length ≤ 9223372036854775807) (g : Nat) : ∀ (m k : Nat), k ≤ x.links.length → x.links.length - k < m →
    L55_5 x s0 ka ga kb gb kc gc kd gd mpa g m k = lI (linkErr ka x.kind (prevB x.links k) (x.links.drop k)) (H5 s0 ka ga kb gb kc gc kd gd mpa)
  | 0, k, _, h => by omega
  | m + 1, k, hk, h => by
    rw [st55_5]
    by_cases hlt : k < x.links.length
    · have ih := lp55 hka hl g m (k + 1) (by omega) (by omega)
      rw [drop_at' (d := link0) hlt]
      simp only [lt1 hlt, ge0, tn, Bool.and_self, cond_true, nx hlt (by omega), ih, w1 hka, linkErr, within]
      cases k with
      | zero =>
        simp only [prevB, List.getD_cons_zero]
        generalize decide ((x.links.getD 0 link0).bus ≥ 0) = b1
        generalize decide ((x.links.getD 0 link0).bus ≤ (ka : Int) - 1) = b2
        generalize ((x.links.getD 0 link0).pos != 1) = b3
        generalize ((x.links.getD 0 link0).pos != 0) = b4
        generalize (x.kind == 3) = b5
        cases b1 <;> cases b2 <;> cases b3 <;> cases b4 <;> cases b5 <;> rfl
      | succ k =>
        have e1 : IntKind.wrap IntKind.i64 (((k + 1 : Nat) : Int) - 1) = (k : Int) := by rw [wrap_id (by omega) (by omega)]; omega
        have e2 : decide (((k + 1 : Nat) : Int) > 0) = true := by rw [gt0]; simp
        have e3 : decide ((k : Int) < (x.links.length : Int)) = true := lt1 (by omega)
        have e4 : (some (x.links.getD k link0).bus == some (x.links.getD (k + 1) link0).bus) = ((x.links.getD k link0).bus == (x.links.getD (k + 1) link0).bus) := rfl
        simp only [prevB, e1, e2, e3, e4, ge0, tn, Bool.and_self, cond_true]
        generalize decide ((x.links.getD (k + 1) link0).bus ≥ 0) = b1
        generalize decide ((x.links.getD (k + 1) link0).bus ≤ (ka : Int) - 1) = b2
        generalize ((x.links.getD (k + 1) link0).pos != 1) = b3
        generalize ((x.links.getD (k + 1) link0).pos != 0) = b4
        generalize (x.kind == 3) = b5
        generalize ((x.links.getD k link0).bus == (x.links.getD (k + 1) link0).bus) = b6
        cases b1 <;> cases b2 <;> cases b3 <;> cases b4 <;> cases b5 <;> cases b6 <;> rfl
    · rw [lt0 hlt, List.drop_of_length_le (by omega)]
      rfl
theorem c55 (hka : ka ≤ 9223372036854775807) (hl : x.links.length ≤ 9223372036854775807) : CX Tryz.prog 104 [.c (.ptr 0 0), aBay x] (H5 s0 ka ga kb gb kc gc kd gd mpa) (vI (linksErr ka x)) (H5 s0 ka ga kb gb kc gc kd gd mpa) := by
  obtain ⟨g, hg⟩ : ∃ g, x.links.length < g := ⟨x.links.length + 1, by omega⟩
  refine cx_of (sWi.ok) Tryz.func104 b55 rfl ((ev55 x s0 ka ga kb gb kc gc kd gd mpa g).trans ?_)
  have := lp55 x s0 ka ga kb gb kc gc kd gd mpa hka hl g g 0 (by omega) (by omega)
  have e0 : L55_5 x s0 ka ga kb gb kc gc kd gd mpa g g 0 = lI (linkErr ka x.kind none x.links) (H5 s0 ka ga kb gb kc gc kd gd mpa) := this
  rw [e0, len_lt1, len_gt2, len_ne2]
  unfold linksErr
  generalize decide (x.links.length < 1) = b1
  generalize decide (2 < x.links.length) = b2
  generalize (x.kind == 3) = b3
  generalize (x.links.length != 2) = b4
  cases b1 <;> cases b2 <;> cases b3 <;> cases b4 <;> rfl
end

theorem s54 : OrcS Tryz.prog o54 := .cons (.inl sWi Tryz.func101 (by kernel_rfl)) sWi
theorem c54 (x : SBay) : CX Tryz.prog 103 [aBay x] [] (vB (rngOk x)) [] := by
  refine cx_of s54.ok Tryz.func103 b54 rfl ((ev54 x 1).trans ?_)
  simp only [fNot, bAnd, neN, Bool.and_true]
  unfold rngOk impOk within
  cases (x.kind == 3) with
  | true =>
    simp only [cond_true]
    cases (x.kind == 1) <;> simp only [cond_true, cond_false, Bool.and_assoc, bAnd]
  | false =>
    simp only [cond_false]
    cases (x.kind == 1) <;> simp only [cond_true, cond_false, Bool.and_assoc, bAnd]

/-- headers and blocks agree, sizes fit -/
def eqs (a : A5) : Bool := Nat.beq a.1.2.1 a.2.1.1 && (Nat.beq a.1.2.2.1 a.2.2.1.1 && (Nat.beq a.1.2.2.2.1 a.2.2.2.1.1 && (Nat.beq a.1.2.2.2.2.1 a.2.2.2.2.1.1 && (Nat.ble a.1.2.1 900 && (Nat.ble a.1.2.2.1 900 && (Nat.ble a.1.2.2.2.1 900 && Nat.ble a.1.2.2.2.2.1 900))))))
theorem enc55 (a : (Unit × RBay × Unit) × A5) (h : eqs a.2 = true) : (d55.enc a).2 = H5 a.2.1.1 a.2.2.1.1 a.2.2.1.2 a.2.2.2.1.1 a.2.2.2.1.2 a.2.2.2.2.1.1 a.2.2.2.2.1.2 a.2.2.2.2.2.1.1 a.2.2.2.2.2.1.2 a.2.2.2.2.2.2.1 ∧ (a.2.2.1.1 ≤ 900 ∧ a.2.2.2.1.1 ≤ 900 ∧ a.2.2.2.2.1.1 ≤ 900 ∧ a.2.2.2.2.2.1.1 ≤ 900) := by
  unfold eqs at h
  simp only [Bool.and_eq_true] at h
  obtain ⟨h1, h2, h3, h4, h5, h6, h7, h8⟩ := h
  have e1 := Nat.eq_of_beq_eq_true h1
  have e2 := Nat.eq_of_beq_eq_true h2
  have e3 := Nat.eq_of_beq_eq_true h3
  have e4 := Nat.eq_of_beq_eq_true h4
  have g5 := Nat.le_of_ble_eq_true h5
  have g6 := Nat.le_of_ble_eq_true h6
  have g7 := Nat.le_of_ble_eq_true h7
  have g8 := Nat.le_of_ble_eq_true h8
  refine ⟨?_, by omega, by omega, by omega, by omega⟩
  show [(0, Blk.cells [.d (dS a.2.1.1), .row 1 1 a.2.1.2.1, .row 2 5 a.2.1.2.2.1, .row 3 6 a.2.1.2.2.2.1, .row 4 12 a.2.1.2.2.2.2.1, .mp 5] 157), (1, .row a.2.2.1.1 a.2.2.1.2 1 9), (2, .row a.2.2.2.1.1 a.2.2.2.1.2 5 71), (3, .row a.2.2.2.2.1.1 a.2.2.2.2.1.2 6 74), (4, .row a.2.2.2.2.2.1.1 a.2.2.2.2.2.1.2 12 66), (5, .map 0 a.2.2.2.2.2.2.1)] = _
  rw [e1, e2, e3, e4]

noncomputable def ok33 (a : (Unit × RBay × Unit) × A5) : Bool := okRB a.1.2.1 && eqs a.2
noncomputable def lk33 (a : (Unit × RBay × Unit) × A5) : Int := linksErr a.2.2.1.1 (rbay a.1.2.1)
theorem okRB_len {x : RBay} (h : okRB x = true) : (rbay x).links.length ≤ 9223372036854775807 := by
  unfold okRB okLk at h
  simp only [Bool.and_eq_true, decide_eq_true_eq] at h
  exact h.2
theorem s33 : OrcS Tryz.prog (o33 nameOk okRB (fun a => rngOk (rbay a)) ok33 lk33) := by
  refine .cons (.d fun a ha => ?_) (.cons (.d fun a ha => ?_) sIm)
  · unfold ok33 at ha
    simp only [Bool.and_eq_true] at ha
    obtain ⟨e, h1, _⟩ := enc55 a ha.2
    rw [e]
    exact (c55 (rbay a.1.2.1) _ _ _ _ _ _ _ _ _ _ (by omega) (okRB_len ha.1)).ge (.cons (.refl _) (.cons (bay_le _ ha.1) .nil)) (.refl _)
  · exact (c54 (rbay a.1.1)).ge (.cons (bay_le _ ha) .nil) (.refl _)

section
variable (x : SBay) (s0 : ByteArray) (ka : Nat) (ga : Nat → List D) (kb : Nat) (gb : Nat → List D) (kc : Nat) (gc : Nat → List D) (bs : List SBay) (mpa : List (Value × Value))
abbrev cnB (bs : List SBay) : Nat → List D := fun i => bayC (bs.getD i bay0)
def H33 : Hp := [(0, .cells [.d (dS s0), .row 1 1 ka, .row 2 5 kb, .row 3 6 kc, .row 6 12 (bs.length + 1), .mp 5] 157), (1, .row ka ga 1 9), (2, .row kb gb 5 71), (3, .row kc gc 6 74), (4, .dead), (5, .map 0 ((.string x.name, .bool true) :: mpa)), (6, .row (bs.length + 1) (appF bs.length (cnB bs) (chunk (bayC x) 12)) 12 66)]
def aft33 : Option (T (AV × Hp)) := bif linksErr ka x != 0 then lI (linksErr ka x) (H5 s0 ka ga kb gb kc gc bs.length (cnB bs) mpa) else lI 0 (H33 x s0 ka ga kb gb kc gc bs mpa)
theorem lp33 (hka : ka ≤ 900) (hkb : kb ≤ 900) (hkc : kc ≤ 900) (hbs : bs.length ≤ 900) (hl : x.links.length ≤ 9223372036854775807) (g : Nat) : ∀ (m k : Nat), k ≤ bs.length → bs.length - k < m →
    L33_18 nameOk okRB (fun a => rngOk (rbay a)) ok33 lk33 x s0 ka ga kb gb kc gc bs mpa g m k = bif (bs.drop k).any (clash x) then lI 12 (H5 s0 ka ga kb gb kc gc bs.length (cnB bs) mpa) else aft33 x s0 ka ga kb gb kc gc bs mpa
  | 0, k, _, h => by omega
  | m + 1, k, hk, h => by
    rw [st33_18]
    by_cases hlt : k < bs.length
    · have ih := lp33 hka hkb hkc hbs hl g m (k + 1) (by omega) (by omega)
      rw [drop_at' (d := bay0) hlt]
      simp only [lt1 hlt, ge0, tn, Bool.and_self, cond_true, nx hlt (by omega), ih, List.any_cons, clash]
      generalize (x.kind != 3) = b1
      generalize (x.kind == (bs.getD k bay0).kind) = b2
      generalize (x.off == (bs.getD k bay0).off) = b3
      generalize (x.fin == (bs.getD k bay0).fin) = b4
      cases b1 <;> cases b2 <;> cases b3 <;> cases b4 <;> rfl
    · rw [lt0 hlt, List.drop_of_length_le (by omega)]
      have hok : ok33 (((), bayR x, ()), (s0, ka, kb, kc, bs.length, (), ()), (ka, ga), (kb, gb), (kc, gc), (bs.length, cnB bs), mpa, ()) = true := by
        unfold ok33
        have e1 : okRB (bayR x) = true := okLk_links hl
        have e2 : eqs ((s0, ka, kb, kc, bs.length, (), ()), (ka, ga), (kb, gb), (kc, gc), (bs.length, cnB bs), mpa, ()) = true := by
          unfold eqs
          simp only [Nat.beq_refl, Bool.true_and, bleD, decide_eq_true hka, decide_eq_true hkb, decide_eq_true hkc, decide_eq_true hbs]
        simp only [e1, e2, Bool.and_self]
      have hlk : lk33 (((), bayR x, ()), (s0, ka, kb, kc, bs.length, (), ()), (ka, ga), (kb, gb), (kc, gc), (bs.length, cnB bs), mpa, ()) = linksErr ka x := by
        unfold lk33
        simp only [rbay_bayR]
      simp only [cond_false, List.any_nil]
      show (bif ok33 (((), bayR x, ()), (s0, ka, kb, kc, bs.length, (), ()), (ka, ga), (kb, gb), (kc, gc), (bs.length, cnB bs), mpa, ()) then (bif lk33 (((), bayR x, ()), (s0, ka, kb, kc, bs.length, (), ()), (ka, ga), (kb, gb), (kc, gc), (bs.length, cnB bs), mpa, ()) != 0 then
        lI (lk33 (((), bayR x, ()), (s0, ka, kb, kc, bs.length, (), ()), (ka, ga), (kb, gb), (kc, gc), (bs.length, cnB bs), mpa, ())) (H5 s0 ka ga kb gb kc gc bs.length (cnB bs) mpa) else
        (bif decide ((bs.length + 1) * 120 ≤ 140737488355328) && decide (bs.length + 1 ≤ 9223372036854775807) then lI 0 (H33 x s0 ka ga kb gb kc gc bs mpa) else none)) else none) = _
      rw [hok, hlk, appOk (k := bs.length) (b := 120) (by omega) (by omega)]
      unfold aft33
      cases (linksErr ka x != 0) <;> rfl

def r33 : Option (T (AV × Hp)) := bif bayErrD ka kb kc (boolOf (assoc mpa (.string x.name))) bs x != 0 then lI (bayErrD ka kb kc (boolOf (assoc mpa (.string x.name))) bs x) (H5 s0 ka ga kb gb kc gc bs.length (cnB bs) mpa) else lI 0 (H33 x s0 ka ga kb gb kc gc bs mpa)
theorem e33 (hka : ka ≤ 900) (hkb : kb ≤ 900) (hkc : kc ≤ 900) (hbs : bs.length ≤ 900) (hl : x.links.length ≤ 9223372036854775807) (g : Nat) (hg : bs.length < g) :
    callC Tryz.prog (o33 nameOk okRB (fun a => rngOk (rbay a)) ok33 lk33) ann33 g Tryz.f59 (bodyOf Tryz.f59) [.c (.ptr 0 0), aBay x] (H5 s0 ka ga kb gb kc gc bs.length (cnB bs) mpa) = r33 x s0 ka ga kb gb kc gc bs mpa := by
  refine (ev33 nameOk okRB (fun a => rngOk (rbay a)) ok33 lk33 x s0 ka ga kb gb kc gc bs mpa g).trans ?_
  have hL := lp33 x s0 ka ga kb gb kc gc bs mpa hka hkb hkc hbs hl g g 0 (by omega) (by omega)
  have hL0 : L33_18 nameOk okRB (fun a => rngOk (rbay a)) ok33 lk33 x s0 ka ga kb gb kc gc bs mpa g g 0 = bif bs.any (clash x) then lI 12 (H5 s0 ka ga kb gb kc gc bs.length (cnB bs) mpa) else aft33 x s0 ka ga kb gb kc gc bs mpa := hL
  have e1 : okRB (bayR x) = true := okLk_links hl
  have e2 : rngOk (rbay (bayR x)) = rngOk x := by rw [rbay_bayR]
  have e1' : okRB (x.name, x.kind, x.off, x.fin, x.zr, x.zx, linksD x.links, x.closed, x.ct, x.vt, x.sat, x.travel, ()) = true := e1
  have e2' : rngOk (rbay (x.name, x.kind, x.off, x.fin, x.zr, x.zx, linksD x.links, x.closed, x.ct, x.vt, x.sat, x.travel, ())) = rngOk x := e2
  have w0 : IntKind.wrap IntKind.i64 ((1 : Int) - 1) = (1 : Int) - 1 := by decide
  rw [hL0]
  simp only [e1', e2', w1 (show kb ≤ 9223372036854775807 by omega), w1 (show kc ≤ 9223372036854775807 by omega), w0, cond_true]
  unfold r33 bayErrD cntOf within aft33
  cases nameOk x.name with
  | false => rfl
  | true =>
    cases boolOf (assoc mpa (Value.string x.name)) with
    | true => rfl
    | false =>
      cases (x.kind == 1) with
      | true =>
        simp only [cond_true, cond_false, Bool.not_true]
        generalize decide (x.off ≥ 0) = b1
        generalize decide (x.off ≤ (kb : Int) - 1) = b2
        cases b1 <;> cases b2 <;> first | rfl | (cases rngOk x <;> first | rfl | (cases bs.any (clash x) <;> rfl))
      | false =>
        cases (x.kind == 2) with
        | true =>
          simp only [cond_true, cond_false, Bool.not_true]
          generalize decide (x.off ≥ 0) = b1
          generalize decide (x.off ≤ (kc : Int) - 1) = b2
          cases b1 <;> cases b2 <;> first | rfl | (cases rngOk x <;> first | rfl | (cases bs.any (clash x) <;> rfl))
        | false =>
          cases (x.kind == 3) with
          | true =>
            simp only [cond_true, cond_false, Bool.not_true]
            generalize decide (x.off ≥ 0) = b1
            generalize decide (x.off ≤ (1 : Int) - 1) = b2
            cases b1 <;> cases b2 <;> first | rfl | (cases rngOk x <;> first | rfl | (cases bs.any (clash x) <;> rfl))
          | false => rfl
end
end Go.Proofs.YtngoglhlhlfknaaGreat.st
namespace Go.Proofs.YtngoglhlhlfknaaGreat.st
open Go.RowKit Go.Eb
set_option maxRecDepth 100000

noncomputable def ok32 (a : (Unit × RBay × Unit) × A5) : Bool := (okRB a.1.2.1 && eqs a.2) && okE baysD (.sl 12 a.2.2.2.2.2.1.1 a.2.2.2.2.2.1.2)
noncomputable def er32 (a : (Unit × RBay × Unit) × A5) : Int := bayErrD a.2.2.1.1 a.2.2.2.1.1 a.2.2.2.2.1.1 (boolOf (assoc a.2.2.2.2.2.2.1 (.string (rbay a.1.2.1).name))) (theE baysD (.sl 12 a.2.2.2.2.2.1.1 a.2.2.2.2.2.1.2)) (rbay a.1.2.1)
noncomputable def cn32 (n : Nat) (f : Nat → List D) : Nat → List D := cnB (theE baysD (.sl 12 n f))
noncomputable def bc32 (x : RBay) : List D := bayC (rbay x)
theorem s32 : OrcS Tryz.prog (o32 cn32 bc32 ok32 er32) := by
  have key : ∀ a, ok32 a = true → ∀ e K, r33 (rbay a.1.2.1) a.2.1.1 a.2.2.1.1 a.2.2.1.2 a.2.2.2.1.1 a.2.2.2.1.2 a.2.2.2.2.1.1 a.2.2.2.2.1.2 (theE baysD (.sl 12 a.2.2.2.2.2.1.1 a.2.2.2.2.2.1.2)) a.2.2.2.2.2.2.1 = lI e K → CX Tryz.prog 59 (d55.enc a).1 (d55.enc a).2 (vI e) K := by
    intro a ha e K hr
    unfold ok32 at ha
    simp only [Bool.and_eq_true] at ha
    obtain ⟨⟨h1, h2⟩, h3⟩ := ha
    obtain ⟨he, g1, g2, g3, g4⟩ := enc55 a h2
    have hn := (RL.of_ok h3).1
    have hb := ble_of_ok (t := 66) h3
    generalize hbs : theE baysD (.sl 12 a.2.2.2.2.2.1.1 a.2.2.2.2.2.1.2) = bs at hr hn hb
    have hc := e33 (rbay a.1.2.1) a.2.1.1 a.2.2.1.1 a.2.2.1.2 a.2.2.2.1.1 a.2.2.2.1.2 a.2.2.2.2.1.1 a.2.2.2.2.1.2 bs a.2.2.2.2.2.2.1 g1 g2 g3 (by omega) (okRB_len h1) (bs.length + 1) (by omega)
    rw [hr] at hc
    refine (cx_of s33.ok Tryz.func59 b33 rfl hc).ge (.cons (.refl _) (.cons (bay_le _ h1) .nil)) ?_
    rw [he]
    have e0 : a.2.2.2.2.2.1.1 = bs.length := hn
    refine .cons ?_ (.cons (.refl _) (.cons (.refl _) (.cons (.refl _) (.cons hb (.cons (.refl _) .nil)))))
    rw [e0]
    exact .refl _
  refine .cons (.b (fun a ha hb => ?_) (fun a ha hb => ?_)) .nil
  · have hb' : er32 a = 0 := by simpa using hb
    have h3 : okE baysD (.sl 12 a.2.2.2.2.2.1.1 a.2.2.2.2.2.1.2) = true := by unfold ok32 at ha; simp only [Bool.and_eq_true] at ha; exact ha.2
    have hn := (RL.of_ok h3).1
    refine (key a ha 0 _ ?_).le (.refl _) (.refl _)
    unfold r33
    unfold er32 at hb'
    rw [hb']
    simp only [bne_self_eq_false, cond_false]
    congr 3
    unfold h33 H33 cn32 bc32
    rw [← hn]
    rfl
  · have hb' : er32 a ≠ 0 := by intro e; rw [e] at hb; simp at hb
    have h3 : okE baysD (.sl 12 a.2.2.2.2.2.1.1 a.2.2.2.2.2.1.2) = true := by unfold ok32 at ha; simp only [Bool.and_eq_true] at ha; exact ha.2
    have h2 : eqs a.2 = true := by unfold ok32 at ha; simp only [Bool.and_eq_true] at ha; exact ha.1.2
    have hx := key a ha (er32 a) (H5 a.2.1.1 a.2.2.1.1 a.2.2.1.2 a.2.2.2.1.1 a.2.2.2.1.2 a.2.2.2.2.1.1 a.2.2.2.2.1.2 (theE baysD (.sl 12 a.2.2.2.2.2.1.1 a.2.2.2.2.2.1.2)).length (cnB (theE baysD (.sl 12 a.2.2.2.2.2.1.1 a.2.2.2.2.2.1.2))) a.2.2.2.2.2.2.1) (by
      unfold r33
      have : (bayErrD a.2.2.1.1 a.2.2.2.1.1 a.2.2.2.2.1.1 (boolOf (assoc a.2.2.2.2.2.2.1 (Value.string (rbay a.1.2.1).name))) (theE baysD (.sl 12 a.2.2.2.2.2.1.1 a.2.2.2.2.2.1.2)) (rbay a.1.2.1) != 0) = true := by
        unfold er32 at hb'
        simpa using hb'
      rw [this]
      rfl)
    refine hx.le (.refl _) ?_
    unfold h33e cn32
    have hn := (RL.of_ok h3).1
    rw [← hn]
    exact .refl _
noncomputable abbrev tB (ka kb kc : Nat) (N : List ByteArray) (l : List SBay) := tBay ka kb kc N l
theorem c32 (l : List SBay) (s0 : ByteArray) (ka : Nat) (ga : Nat → List D) (kb : Nat) (gb : Nat → List D) (kc : Nat) (gc : Nat → List D) (N : List ByteArray) (hl : l.length ≤ 900) (hka : ka ≤ 900) (hkb : kb ≤ 900) (hkc : kc ≤ 900) (hlk : ∀ i, i < l.length → (l.getD i bay0).links.length ≤ 9223372036854775807) :
    CX Tryz.prog 58 [.c (.d (baysD l)), fnOf 59] (H4 s0 ka ga kb gb kc gc (mapOf N)) (vI (tBay ka kb kc N l).1)
      (H4' s0 ka ga kb gb kc gc (mapOf (N ++ (tBay ka kb kc N l).2.map SBay.name)) (tBay ka kb kc N l).2.length (fun i => bayC ((tBay ka kb kc N l).2.getD i bay0))) := by
  obtain ⟨g, hg⟩ : ∃ g, l.length < g := ⟨l.length + 1, by omega⟩
  obtain ⟨f', hr, he⟩ := first_loop (nm := SBay.name) (F := fun N before x => bayErr ka kb kc N before x) (N := N) (c := bayC) (d0 := bay0) (l := l) (L := fun m mp n f i => L32_2 cn32 bc32 ok32 er32 l s0 ka ga kb gb kc gc (mapOf N) g m mp n f i) (HX := fun mp n f => H4' s0 ka ga kb gb kc gc mp n f)
    (fun m k before f hk hb hr => by
      have hthe := hr.the (sz := 12) bayC_inj
      have hx : rbay (bayR (l.getD k bay0)) = l.getD k bay0 := rbay_bayR _
      have hok : ok32 (((), bayR (l.getD k bay0), ()), (s0, ka, kb, kc, k, (), ()), (ka, ga), (kb, gb), (kc, gc), (k, f), mapOf (N ++ before.map SBay.name), ()) = true := by
        unfold ok32
        have e1 : okRB (bayR (l.getD k bay0)) = true := okLk_links (hlk k hk)
        have e2 : eqs ((s0, ka, kb, kc, k, (), ()), (ka, ga), (kb, gb), (kc, gc), (k, f), mapOf (N ++ before.map SBay.name), ()) = true := by
          unfold eqs
          simp only [Nat.beq_refl, Bool.true_and, bleD, decide_eq_true hka, decide_eq_true hkb, decide_eq_true hkc, decide_eq_true (show k ≤ 900 by omega)]
        simp only [e1, e2, hthe.1, Bool.and_self]
      have her : er32 (((), bayR (l.getD k bay0), ()), (s0, ka, kb, kc, k, (), ()), (ka, ga), (kb, gb), (kc, gc), (k, f), mapOf (N ++ before.map SBay.name), ()) = bayErr ka kb kc (N ++ before.map SBay.name) before (l.getD k bay0) := by
        unfold er32 bayErr
        simp only [hx, hthe.2, assoc_mapOf]
      refine ⟨appF k (cn32 k f) (chunk (bc32 (bayR (l.getD k bay0))) 12), cn32 k f, ?_, ?_, ?_⟩
      · unfold bc32 cn32
        rw [hx, hthe.2]
        have := (RL.data (c := bayC) (d0 := bay0) before).app' (x := l.getD k bay0) (sz := 12) rfl
        rw [hb] at this
        exact this
      · unfold cn32
        rw [hthe.2]
        have := RL.data (c := bayC) (d0 := bay0) before
        rw [hb] at this
        exact this
      · rw [st32_2]
        simp only [lt1 hk, ge0, tn, Bool.and_self, cond_true, nx hk (by omega)]
        show (bif ok32 (((), bayR (l.getD k bay0), ()), (s0, ka, kb, kc, k, (), ()), (ka, ga), (kb, gb), (kc, gc), (k, f), mapOf (N ++ before.map SBay.name), ()) then
          (bif er32 (((), bayR (l.getD k bay0), ()), (s0, ka, kb, kc, k, (), ()), (ka, ga), (kb, gb), (kc, gc), (k, f), mapOf (N ++ before.map SBay.name), ()) == 0 then
            L32_2 cn32 bc32 ok32 er32 l s0 ka ga kb gb kc gc (mapOf N) g m ((Value.string (l.getD k bay0).name, Value.bool true) :: mapOf (N ++ before.map SBay.name)) (k + 1) (appF k (cn32 k f) (chunk (bc32 (bayR (l.getD k bay0))) 12)) ((k + 1 : Nat) : Int)
          else (bif er32 (((), bayR (l.getD k bay0), ()), (s0, ka, kb, kc, k, (), ()), (ka, ga), (kb, gb), (kc, gc), (k, f), mapOf (N ++ before.map SBay.name), ()) != 0 then lI (er32 (((), bayR (l.getD k bay0), ()), (s0, ka, kb, kc, k, (), ()), (ka, ga), (kb, gb), (kc, gc), (k, f), mapOf (N ++ before.map SBay.name), ())) (H4' s0 ka ga kb gb kc gc (mapOf (N ++ before.map SBay.name)) k (cn32 k f)) else L32_2 cn32 bc32 ok32 er32 l s0 ka ga kb gb kc gc (mapOf N) g m (mapOf (N ++ before.map SBay.name)) k (cn32 k f) ((k + 1 : Nat) : Int))) else none) = _
        rw [hok, her]
        unfold bne
        cases (bayErr ka kb kc (N ++ before.map SBay.name) before (l.getD k bay0) == 0) <;> rfl)
    (fun m mp n f => by
      rw [st32_2, lt0 (Nat.lt_irrefl _)]
      rfl) g 0 [] (fun _ => []) (by omega) (by omega) rfl (.nil _)
  have hev := ev32 cn32 bc32 ok32 er32 l s0 ka ga kb gb kc gc (mapOf N) g
  simp only [List.map_nil, List.append_nil, List.drop_zero] at he hr
  refine (cx_of s32.ok Tryz.func58 b32 rfl (hev.trans he)).le (.refl _) ?_
  exact .cons (.refl _) (.cons (.refl _) (.cons (.refl _) (.cons (.refl _) (.cons (.refl _) (.cons hr.ble .nil)))))
end Go.Proofs.YtngoglhlhlfknaaGreat.st
namespace Go.Proofs.YtngoglhlhlfknaaGreat.st
open Go.RowKit Go.Eb
set_option maxRecDepth 100000

abbrev AL := D × Unit × Unit
abbrev RW1 := Nat × (Nat → List D)
abbrev A26 := AL × (ByteArray × Unit × Unit × Unit × Unit × Unit × Unit) × List (Value × Value) × Unit
def d26 : Dec (List AV × Hp) A26 := .pair (.cons (.c .data) (.cons (.c (.meth 53)) .nil)) (.cons (.blk 0 (.cells 157 (.cons .str (.cons .nilS (.cons .nilS (.cons .nilS (.cons .nilS (.cons (.mp 1) .nil)))))))) (.cons (.blk 1 (.mapB 0)) .nil))
abbrev A28 := AL × (ByteArray × Nat × Unit × Unit × Unit × Unit × Unit) × RW1 × List (Value × Value) × Unit
def d28 : Dec (List AV × Hp) A28 := .pair (.cons (.c .data) (.cons (.c (.meth 55)) .nil)) (.cons (.blk 0 (.cells 157 (.cons .str (.cons (.row 1 1) (.cons .nilS (.cons .nilS (.cons .nilS (.cons (.mp 2) .nil)))))))) (.cons (.blk 1 (.rowB 1 9)) (.cons (.blk 2 (.mapB 0)) .nil)))
abbrev A30 := AL × (ByteArray × Nat × Nat × Unit × Unit × Unit × Unit) × RW1 × RW1 × List (Value × Value) × Unit
def d30 : Dec (List AV × Hp) A30 := .pair (.cons (.c .data) (.cons (.c (.meth 57)) .nil)) (.cons (.blk 0 (.cells 157 (.cons .str (.cons (.row 1 1) (.cons (.row 2 5) (.cons .nilS (.cons .nilS (.cons (.mp 3) .nil)))))))) (.cons (.blk 1 (.rowB 1 9)) (.cons (.blk 2 (.rowB 5 71)) (.cons (.blk 3 (.mapB 0)) .nil))))
abbrev A32 := AL × (ByteArray × Nat × Nat × Nat × Unit × Unit × Unit) × RW1 × RW1 × RW1 × List (Value × Value) × Unit
def d32 : Dec (List AV × Hp) A32 := .pair (.cons (.c .data) (.cons (.c (.meth 59)) .nil)) (.cons (.blk 0 (.cells 157 (.cons .str (.cons (.row 1 1) (.cons (.row 2 5) (.cons (.row 3 6) (.cons .nilS (.cons (.mp 4) .nil)))))))) (.cons (.blk 1 (.rowB 1 9)) (.cons (.blk 2 (.rowB 5 71)) (.cons (.blk 3 (.rowB 6 74)) (.cons (.blk 4 (.mapB 0)) .nil)))))
structure K12 where
  nk : ByteArray → Bool
  ok1 : A26 → Bool
  e1 : A26 → Int
  m1 : A26 → List (Value × Value)
  n1 : A26 → Nat
  f1 : A26 → Nat → List D
  ok2 : A28 → Bool
  e2 : A28 → Int
  m2 : A28 → List (Value × Value)
  n2 : A28 → Nat
  f2 : A28 → Nat → List D
  ok3 : A30 → Bool
  e3 : A30 → Int
  m3 : A30 → List (Value × Value)
  n3 : A30 → Nat
  f3 : A30 → Nat → List D
  ok4 : A32 → Bool
  e4 : A32 → Int
  m4 : A32 → List (Value × Value)
  n4 : A32 → Nat
  f4 : A32 → Nat → List D
noncomputable def o12 (Z : K12) : Orc := Orc.cons 50 (ansP decS fun s => vB (Z.nk s)) (Orc.cons 51 (inl Tryz.prog Orc.nil na 1 Tryz.f51)
  (Orc.cons 52 (ansD d26 Z.ok1 (fun a => vI (Z.e1 a)) fun a => H1' a.2.1.1 (Z.m1 a) (Z.n1 a) (Z.f1 a))
  (Orc.cons 54 (ansD d28 Z.ok2 (fun a => vI (Z.e2 a)) fun a => H2' a.2.1.1 a.2.2.1.1 a.2.2.1.2 (Z.m2 a) (Z.n2 a) (Z.f2 a))
  (Orc.cons 56 (ansD d30 Z.ok3 (fun a => vI (Z.e3 a)) fun a => H3' a.2.1.1 a.2.2.1.1 a.2.2.1.2 a.2.2.2.1.1 a.2.2.2.1.2 (Z.m3 a) (Z.n3 a) (Z.f3 a))
  (Orc.cons 58 (ansD d32 Z.ok4 (fun a => vI (Z.e4 a)) fun a => H4' a.2.1.1 a.2.2.1.1 a.2.2.1.2 a.2.2.2.1.1 a.2.2.2.1.2 a.2.2.2.2.1.1 a.2.2.2.2.1.2 (Z.m4 a) (Z.n4 a) (Z.f4 a)) Orc.nil)))))
noncomputable def ann12 : Ann := annOf []
theorem b12 : Tryz.f26.body = some (bodyOf Tryz.f26) := by kernel_rfl
set_option maxRecDepth 100000 in
theorem ev12 (Z : K12) (s : SSta) (g : Nat) : callC Tryz.prog (o12 Z) ann12 g Tryz.f26 (bodyOf Tryz.f26) [aSta s] [] =
 (bif !K12.nk Z (SSta.name s) then some (T.leaf (AV.c (C.d (D.v (Value.int IntKind.i64 (7 : Int)))), [])) else (bif (↑(List.length (SSta.buses s)) : Int) == (0 : Int) then some
 (T.leaf (AV.c (C.d (D.v (Value.int IntKind.i64 (3 : Int)))), [])) else (bif decide ((↑(List.length (SSta.buses s)) : Int) > (4 : Int)) then some (T.leaf (AV.c (C.d (D.v (Value.int
 IntKind.i64 (3 : Int)))), [])) else (bif decide ((↑(List.length (SSta.lines s)) : Int) > (6 : Int)) then some (T.leaf (AV.c (C.d (D.v (Value.int IntKind.i64 (3 : Int)))), [])) else
 (bif decide ((↑(List.length (SSta.srcs s)) : Int) > (4 : Int)) then some (T.leaf (AV.c (C.d (D.v (Value.int IntKind.i64 (3 : Int)))), [])) else (bif decide ((↑(List.length
 (SSta.bays s)) : Int) > (16 : Int)) then some (T.leaf (AV.c (C.d (D.v (Value.int IntKind.i64 (3 : Int)))), [])) else (bif K12.ok1 Z ((busesD (SSta.buses s), (), ()), (ByteArray.mk
 #[], (), (), (), (), (), ()), [], ()) then (bif K12.e1 Z ((busesD (SSta.buses s), (), ()), (ByteArray.mk #[], (), (), (), (), (), ()), [], ()) == (0 : Int) then (bif K12.ok2 Z
 ((linesD (SSta.lines s), (), ()), (ByteArray.mk #[], K12.n1 Z ((busesD (SSta.buses s), (), ()), (ByteArray.mk #[], (), (), (), (), (), ()), [], ()), (), (), (), (), ()), (K12.n1 Z
 ((busesD (SSta.buses s), (), ()), (ByteArray.mk #[], (), (), (), (), (), ()), [], ()), K12.f1 Z ((busesD (SSta.buses s), (), ()), (ByteArray.mk #[], (), (), (), (), (), ()), [],
 ())), K12.m1 Z ((busesD (SSta.buses s), (), ()), (ByteArray.mk #[], (), (), (), (), (), ()), [], ()), ()) then (bif K12.e2 Z ((linesD (SSta.lines s), (), ()), (ByteArray.mk #[],
 K12.n1 Z ((busesD (SSta.buses s), (), ()), (ByteArray.mk #[], (), (), (), (), (), ()), [], ()), (), (), (), (), ()), (K12.n1 Z ((busesD (SSta.buses s), (), ()), (ByteArray.mk #[],
 (), (), (), (), (), ()), [], ()), K12.f1 Z ((busesD (SSta.buses s), (), ()), (ByteArray.mk #[], (), (), (), (), (), ()), [], ())), K12.m1 Z ((busesD (SSta.buses s), (), ()),
 (ByteArray.mk #[], (), (), (), (), (), ()), [], ()), ()) == (0 : Int) then (bif K12.ok3 Z ((srcsD (SSta.srcs s), (), ()), (ByteArray.mk #[], K12.n1 Z ((busesD (SSta.buses s), (),
 ()), (ByteArray.mk #[], (), (), (), (), (), ()), [], ()), K12.n2 Z ((linesD (SSta.lines s), (), ()), (ByteArray.mk #[], K12.n1 Z ((busesD (SSta.buses s), (), ()), (ByteArray.mk #[],
 (), (), (), (), (), ()), [], ()), (), (), (), (), ()), (K12.n1 Z ((busesD (SSta.buses s), (), ()), (ByteArray.mk #[], (), (), (), (), (), ()), [], ()), K12.f1 Z ((busesD (SSta.buses
 s), (), ()), (ByteArray.mk #[], (), (), (), (), (), ()), [], ())), K12.m1 Z ((busesD (SSta.buses s), (), ()), (ByteArray.mk #[], (), (), (), (), (), ()), [], ()), ()), (), (), (),
 ()), (K12.n1 Z ((busesD (SSta.buses s), (), ()), (ByteArray.mk #[], (), (), (), (), (), ()), [], ()), K12.f1 Z ((busesD (SSta.buses s), (), ()), (ByteArray.mk #[], (), (), (), (),
 (), ()), [], ())), (K12.n2 Z ((linesD (SSta.lines s), (), ()), (ByteArray.mk #[], K12.n1 Z ((busesD (SSta.buses s), (), ()), (ByteArray.mk #[], (), (), (), (), (), ()), [], ()), (),
 (), (), (), ()), (K12.n1 Z ((busesD (SSta.buses s), (), ()), (ByteArray.mk #[], (), (), (), (), (), ()), [], ()), K12.f1 Z ((busesD (SSta.buses s), (), ()), (ByteArray.mk #[], (),
 (), (), (), (), ()), [], ())), K12.m1 Z ((busesD (SSta.buses s), (), ()), (ByteArray.mk #[], (), (), (), (), (), ()), [], ()), ()), K12.f2 Z ((linesD (SSta.lines s), (), ()),
 (ByteArray.mk #[], K12.n1 Z ((busesD (SSta.buses s), (), ()), (ByteArray.mk #[], (), (), (), (), (), ()), [], ()), (), (), (), (), ()), (K12.n1 Z ((busesD (SSta.buses s), (), ()),
 (ByteArray.mk #[], (), (), (), (), (), ()), [], ()), K12.f1 Z ((busesD (SSta.buses s), (), ()), (ByteArray.mk #[], (), (), (), (), (), ()), [], ())), K12.m1 Z ((busesD (SSta.buses
 s), (), ()), (ByteArray.mk #[], (), (), (), (), (), ()), [], ()), ())), K12.m2 Z ((linesD (SSta.lines s), (), ()), (ByteArray.mk #[], K12.n1 Z ((busesD (SSta.buses s), (), ()),
 (ByteArray.mk #[], (), (), (), (), (), ()), [], ()), (), (), (), (), ()), (K12.n1 Z ((busesD (SSta.buses s), (), ()), (ByteArray.mk #[], (), (), (), (), (), ()), [], ()), K12.f1 Z
 ((busesD (SSta.buses s), (), ()), (ByteArray.mk #[], (), (), (), (), (), ()), [], ())), K12.m1 Z ((busesD (SSta.buses s), (), ()), (ByteArray.mk #[], (), (), (), (), (), ()), [],
 ()), ()), ()) then (bif K12.e3 Z ((srcsD (SSta.srcs s), (), ()), (ByteArray.mk #[], K12.n1 Z ((busesD (SSta.buses s), (), ()), (ByteArray.mk #[], (), (), (), (), (), ()), [], ()),
 K12.n2 Z ((linesD (SSta.lines s), (), ()), (ByteArray.mk #[], K12.n1 Z ((busesD (SSta.buses s), (), ()), (ByteArray.mk #[], (), (), (), (), (), ()), [], ()), (), (), (), (), ()),
 (K12.n1 Z ((busesD (SSta.buses s), (), ()), (ByteArray.mk #[], (), (), (), (), (), ()), [], ()), K12.f1 Z ((busesD (SSta.buses s), (), ()), (ByteArray.mk #[], (), (), (), (), (),
 ()), [], ())), K12.m1 Z ((busesD (SSta.buses s), (), ()), (ByteArray.mk #[], (), (), (), (), (), ()), [], ()), ()), (), (), (), ()), (K12.n1 Z ((busesD (SSta.buses s), (), ()),
 (ByteArray.mk #[], (), (), (), (), (), ()), [], ()), K12.f1 Z ((busesD (SSta.buses s), (), ()), (ByteArray.mk #[], (), (), (), (), (), ()), [], ())), (K12.n2 Z ((linesD (SSta.lines
 s), (), ()), (ByteArray.mk #[], K12.n1 Z ((busesD (SSta.buses s), (), ()), (ByteArray.mk #[], (), (), (), (), (), ()), [], ()), (), (), (), (), ()), (K12.n1 Z ((busesD (SSta.buses
 s), (), ()), (ByteArray.mk #[], (), (), (), (), (), ()), [], ()), K12.f1 Z ((busesD (SSta.buses s), (), ()), (ByteArray.mk #[], (), (), (), (), (), ()), [], ())), K12.m1 Z ((busesD
 (SSta.buses s), (), ()), (ByteArray.mk #[], (), (), (), (), (), ()), [], ()), ()), K12.f2 Z ((linesD (SSta.lines s), (), ()), (ByteArray.mk #[], K12.n1 Z ((busesD (SSta.buses s),
 (), ()), (ByteArray.mk #[], (), (), (), (), (), ()), [], ()), (), (), (), (), ()), (K12.n1 Z ((busesD (SSta.buses s), (), ()), (ByteArray.mk #[], (), (), (), (), (), ()), [], ()),
 K12.f1 Z ((busesD (SSta.buses s), (), ()), (ByteArray.mk #[], (), (), (), (), (), ()), [], ())), K12.m1 Z ((busesD (SSta.buses s), (), ()), (ByteArray.mk #[], (), (), (), (), (),
 ()), [], ()), ())), K12.m2 Z ((linesD (SSta.lines s), (), ()), (ByteArray.mk #[], K12.n1 Z ((busesD (SSta.buses s), (), ()), (ByteArray.mk #[], (), (), (), (), (), ()), [], ()), (),
 (), (), (), ()), (K12.n1 Z ((busesD (SSta.buses s), (), ()), (ByteArray.mk #[], (), (), (), (), (), ()), [], ()), K12.f1 Z ((busesD (SSta.buses s), (), ()), (ByteArray.mk #[], (),
 (), (), (), (), ()), [], ())), K12.m1 Z ((busesD (SSta.buses s), (), ()), (ByteArray.mk #[], (), (), (), (), (), ()), [], ()), ()), ()) == (0 : Int) then (bif K12.ok4 Z ((baysD
 (SSta.bays s), (), ()), (ByteArray.mk #[], K12.n1 Z ((busesD (SSta.buses s), (), ()), (ByteArray.mk #[], (), (), (), (), (), ()), [], ()), K12.n2 Z ((linesD (SSta.lines s), (), ()),
 (ByteArray.mk #[], K12.n1 Z ((busesD (SSta.buses s), (), ()), (ByteArray.mk #[], (), (), (), (), (), ()), [], ()), (), (), (), (), ()), (K12.n1 Z ((busesD (SSta.buses s), (), ()),
 (ByteArray.mk #[], (), (), (), (), (), ()), [], ()), K12.f1 Z ((busesD (SSta.buses s), (), ()), (ByteArray.mk #[], (), (), (), (), (), ()), [], ())), K12.m1 Z ((busesD (SSta.buses
 s), (), ()), (ByteArray.mk #[], (), (), (), (), (), ()), [], ()), ()), K12.n3 Z ((srcsD (SSta.srcs s), (), ()), (ByteArray.mk #[], K12.n1 Z ((busesD (SSta.buses s), (), ()),
 (ByteArray.mk #[], (), (), (), (), (), ()), [], ()), K12.n2 Z ((linesD (SSta.lines s), (), ()), (ByteArray.mk #[], K12.n1 Z ((busesD (SSta.buses s), (), ()), (ByteArray.mk #[], (),
 (), (), (), (), ()), [], ()), (), (), (), (), ()), (K12.n1 Z ((busesD (SSta.buses s), (), ()), (ByteArray.mk #[], (), (), (), (), (), ()), [], ()), K12.f1 Z ((busesD (SSta.buses s),
 (), ()), (ByteArray.mk #[], (), (), (), (), (), ()), [], ())), K12.m1 Z ((busesD (SSta.buses s), (), ()), (ByteArray.mk #[], (), (), (), (), (), ()), [], ()), ()), (), (), (), ()),
 (K12.n1 Z ((busesD (SSta.buses s), (), ()), (ByteArray.mk #[], (), (), (), (), (), ()), [], ()), K12.f1 Z ((busesD (SSta.buses s), (), ()), (ByteArray.mk #[], (), (), (), (), (),
 ()), [], ())), (K12.n2 Z ((linesD (SSta.lines s), (), ()), (ByteArray.mk #[], K12.n1 Z ((busesD (SSta.buses s), (), ()), (ByteArray.mk #[], (), (), (), (), (), ()), [], ()), (), (),
 (), (), ()), (K12.n1 Z ((busesD (SSta.buses s), (), ()), (ByteArray.mk #[], (), (), (), (), (), ()), [], ()), K12.f1 Z ((busesD (SSta.buses s), (), ()), (ByteArray.mk #[], (), (),
 (), (), (), ()), [], ())), K12.m1 Z ((busesD (SSta.buses s), (), ()), (ByteArray.mk #[], (), (), (), (), (), ()), [], ()), ()), K12.f2 Z ((linesD (SSta.lines s), (), ()),
 (ByteArray.mk #[], K12.n1 Z ((busesD (SSta.buses s), (), ()), (ByteArray.mk #[], (), (), (), (), (), ()), [], ()), (), (), (), (), ()), (K12.n1 Z ((busesD (SSta.buses s), (), ()),
 (ByteArray.mk #[], (), (), (), (), (), ()), [], ()), K12.f1 Z ((busesD (SSta.buses s), (), ()), (ByteArray.mk #[], (), (), (), (), (), ()), [], ())), K12.m1 Z ((busesD (SSta.buses
 s), (), ()), (ByteArray.mk #[], (), (), (), (), (), ()), [], ()), ())), K12.m2 Z ((linesD (SSta.lines s), (), ()), (ByteArray.mk #[], K12.n1 Z ((busesD (SSta.buses s), (), ()),
 (ByteArray.mk #[], (), (), (), (), (), ()), [], ()), (), (), (), (), ()), (K12.n1 Z ((busesD (SSta.buses s), (), ()), (ByteArray.mk #[], (), (), (), (), (), ()), [], ()), K12.f1 Z
 ((busesD (SSta.buses s), (), ()), (ByteArray.mk #[], (), (), (), (), (), ()), [], ())), K12.m1 Z ((busesD (SSta.buses s), (), ()), (ByteArray.mk #[], (), (), (), (), (), ()), [],
 ()), ()), ()), (), (), ()), (K12.n1 Z ((busesD (SSta.buses s), (), ()), (ByteArray.mk #[], (), (), (), (), (), ()), [], ()), K12.f1 Z ((busesD (SSta.buses s), (), ()), (ByteArray.mk
 #[], (), (), (), (), (), ()), [], ())), (K12.n2 Z ((linesD (SSta.lines s), (), ()), (ByteArray.mk #[], K12.n1 Z ((busesD (SSta.buses s), (), ()), (ByteArray.mk #[], (), (), (), (),
 (), ()), [], ()), (), (), (), (), ()), (K12.n1 Z ((busesD (SSta.buses s), (), ()), (ByteArray.mk #[], (), (), (), (), (), ()), [], ()), K12.f1 Z ((busesD (SSta.buses s), (), ()),
 (ByteArray.mk #[], (), (), (), (), (), ()), [], ())), K12.m1 Z ((busesD (SSta.buses s), (), ()), (ByteArray.mk #[], (), (), (), (), (), ()), [], ()), ()), K12.f2 Z ((linesD
 (SSta.lines s), (), ()), (ByteArray.mk #[], K12.n1 Z ((busesD (SSta.buses s), (), ()), (ByteArray.mk #[], (), (), (), (), (), ()), [], ()), (), (), (), (), ()), (K12.n1 Z ((busesD
 (SSta.buses s), (), ()), (ByteArray.mk #[], (), (), (), (), (), ()), [], ()), K12.f1 Z ((busesD (SSta.buses s), (), ()), (ByteArray.mk #[], (), (), (), (), (), ()), [], ())), K12.m1
 Z ((busesD (SSta.buses s), (), ()), (ByteArray.mk #[], (), (), (), (), (), ()), [], ()), ())), (K12.n3 Z ((srcsD (SSta.srcs s), (), ()), (ByteArray.mk #[], K12.n1 Z ((busesD
 (SSta.buses s), (), ()), (ByteArray.mk #[], (), (), (), (), (), ()), [], ()), K12.n2 Z ((linesD (SSta.lines s), (), ()), (ByteArray.mk #[], K12.n1 Z ((busesD (SSta.buses s), (),
 ()), (ByteArray.mk #[], (), (), (), (), (), ()), [], ()), (), (), (), (), ()), (K12.n1 Z ((busesD (SSta.buses s), (), ()), (ByteArray.mk #[], (), (), (), (), (), ()), [], ()),
 K12.f1 Z ((busesD (SSta.buses s), (), ()), (ByteArray.mk #[], (), (), (), (), (), ()), [], ())), K12.m1 Z ((busesD (SSta.buses s), (), ()), (ByteArray.mk #[], (), (), (), (), (),
 ()), [], ()), ()), (), (), (), ()), (K12.n1 Z ((busesD (SSta.buses s), (), ()), (ByteArray.mk #[], (), (), (), (), (), ()), [], ()), K12.f1 Z ((busesD (SSta.buses s), (), ()),
 (ByteArray.mk #[], (), (), (), (), (), ()), [], ())), (K12.n2 Z ((linesD (SSta.lines s), (), ()), (ByteArray.mk #[], K12.n1 Z ((busesD (SSta.buses s), (), ()), (ByteArray.mk #[],
 (), (), (), (), (), ()), [], ()), (), (), (), (), ()), (K12.n1 Z ((busesD (SSta.buses s), (), ()), (ByteArray.mk #[], (), (), (), (), (), ()), [], ()), K12.f1 Z ((busesD (SSta.buses
 s), (), ()), (ByteArray.mk #[], (), (), (), (), (), ()), [], ())), K12.m1 Z ((busesD (SSta.buses s), (), ()), (ByteArray.mk #[], (), (), (), (), (), ()), [], ()), ()), K12.f2 Z
 ((linesD (SSta.lines s), (), ()), (ByteArray.mk #[], K12.n1 Z ((busesD (SSta.buses s), (), ()), (ByteArray.mk #[], (), (), (), (), (), ()), [], ()), (), (), (), (), ()), (K12.n1 Z
 ((busesD (SSta.buses s), (), ()), (ByteArray.mk #[], (), (), (), (), (), ()), [], ()), K12.f1 Z ((busesD (SSta.buses s), (), ()), (ByteArray.mk #[], (), (), (), (), (), ()), [],
 ())), K12.m1 Z ((busesD (SSta.buses s), (), ()), (ByteArray.mk #[], (), (), (), (), (), ()), [], ()), ())), K12.m2 Z ((linesD (SSta.lines s), (), ()), (ByteArray.mk #[], K12.n1 Z
 ((busesD (SSta.buses s), (), ()), (ByteArray.mk #[], (), (), (), (), (), ()), [], ()), (), (), (), (), ()), (K12.n1 Z ((busesD (SSta.buses s), (), ()), (ByteArray.mk #[], (), (),
 (), (), (), ()), [], ()), K12.f1 Z ((busesD (SSta.buses s), (), ()), (ByteArray.mk #[], (), (), (), (), (), ()), [], ())), K12.m1 Z ((busesD (SSta.buses s), (), ()), (ByteArray.mk
 #[], (), (), (), (), (), ()), [], ()), ()), ()), K12.f3 Z ((srcsD (SSta.srcs s), (), ()), (ByteArray.mk #[], K12.n1 Z ((busesD (SSta.buses s), (), ()), (ByteArray.mk #[], (), (),
 (), (), (), ()), [], ()), K12.n2 Z ((linesD (SSta.lines s), (), ()), (ByteArray.mk #[], K12.n1 Z ((busesD (SSta.buses s), (), ()), (ByteArray.mk #[], (), (), (), (), (), ()), [],
 ()), (), (), (), (), ()), (K12.n1 Z ((busesD (SSta.buses s), (), ()), (ByteArray.mk #[], (), (), (), (), (), ()), [], ()), K12.f1 Z ((busesD (SSta.buses s), (), ()), (ByteArray.mk
 #[], (), (), (), (), (), ()), [], ())), K12.m1 Z ((busesD (SSta.buses s), (), ()), (ByteArray.mk #[], (), (), (), (), (), ()), [], ()), ()), (), (), (), ()), (K12.n1 Z ((busesD
 (SSta.buses s), (), ()), (ByteArray.mk #[], (), (), (), (), (), ()), [], ()), K12.f1 Z ((busesD (SSta.buses s), (), ()), (ByteArray.mk #[], (), (), (), (), (), ()), [], ())),
 (K12.n2 Z ((linesD (SSta.lines s), (), ()), (ByteArray.mk #[], K12.n1 Z ((busesD (SSta.buses s), (), ()), (ByteArray.mk #[], (), (), (), (), (), ()), [], ()), (), (), (), (), ()),
 (K12.n1 Z ((busesD (SSta.buses s), (), ()), (ByteArray.mk #[], (), (), (), (), (), ()), [], ()), K12.f1 Z ((busesD (SSta.buses s), (), ()), (ByteArray.mk #[], (), (), (), (), (),
 ()), [], ())), K12.m1 Z ((busesD (SSta.buses s), (), ()), (ByteArray.mk #[], (), (), (), (), (), ()), [], ()), ()), K12.f2 Z ((linesD (SSta.lines s), (), ()), (ByteArray.mk #[],
 K12.n1 Z ((busesD (SSta.buses s), (), ()), (ByteArray.mk #[], (), (), (), (), (), ()), [], ()), (), (), (), (), ()), (K12.n1 Z ((busesD (SSta.buses s), (), ()), (ByteArray.mk #[],
 (), (), (), (), (), ()), [], ()), K12.f1 Z ((busesD (SSta.buses s), (), ()), (ByteArray.mk #[], (), (), (), (), (), ()), [], ())), K12.m1 Z ((busesD (SSta.buses s), (), ()),
 (ByteArray.mk #[], (), (), (), (), (), ()), [], ()), ())), K12.m2 Z ((linesD (SSta.lines s), (), ()), (ByteArray.mk #[], K12.n1 Z ((busesD (SSta.buses s), (), ()), (ByteArray.mk
 #[], (), (), (), (), (), ()), [], ()), (), (), (), (), ()), (K12.n1 Z ((busesD (SSta.buses s), (), ()), (ByteArray.mk #[], (), (), (), (), (), ()), [], ()), K12.f1 Z ((busesD
 (SSta.buses s), (), ()), (ByteArray.mk #[], (), (), (), (), (), ()), [], ())), K12.m1 Z ((busesD (SSta.buses s), (), ()), (ByteArray.mk #[], (), (), (), (), (), ()), [], ()), ()),
 ())), K12.m3 Z ((srcsD (SSta.srcs s), (), ()), (ByteArray.mk #[], K12.n1 Z ((busesD (SSta.buses s), (), ()), (ByteArray.mk #[], (), (), (), (), (), ()), [], ()), K12.n2 Z ((linesD
 (SSta.lines s), (), ()), (ByteArray.mk #[], K12.n1 Z ((busesD (SSta.buses s), (), ()), (ByteArray.mk #[], (), (), (), (), (), ()), [], ()), (), (), (), (), ()), (K12.n1 Z ((busesD
 (SSta.buses s), (), ()), (ByteArray.mk #[], (), (), (), (), (), ()), [], ()), K12.f1 Z ((busesD (SSta.buses s), (), ()), (ByteArray.mk #[], (), (), (), (), (), ()), [], ())), K12.m1
 Z ((busesD (SSta.buses s), (), ()), (ByteArray.mk #[], (), (), (), (), (), ()), [], ()), ()), (), (), (), ()), (K12.n1 Z ((busesD (SSta.buses s), (), ()), (ByteArray.mk #[], (), (),
 (), (), (), ()), [], ()), K12.f1 Z ((busesD (SSta.buses s), (), ()), (ByteArray.mk #[], (), (), (), (), (), ()), [], ())), (K12.n2 Z ((linesD (SSta.lines s), (), ()), (ByteArray.mk
 #[], K12.n1 Z ((busesD (SSta.buses s), (), ()), (ByteArray.mk #[], (), (), (), (), (), ()), [], ()), (), (), (), (), ()), (K12.n1 Z ((busesD (SSta.buses s), (), ()), (ByteArray.mk
 #[], (), (), (), (), (), ()), [], ()), K12.f1 Z ((busesD (SSta.buses s), (), ()), (ByteArray.mk #[], (), (), (), (), (), ()), [], ())), K12.m1 Z ((busesD (SSta.buses s), (), ()),
 (ByteArray.mk #[], (), (), (), (), (), ()), [], ()), ()), K12.f2 Z ((linesD (SSta.lines s), (), ()), (ByteArray.mk #[], K12.n1 Z ((busesD (SSta.buses s), (), ()), (ByteArray.mk #[],
 (), (), (), (), (), ()), [], ()), (), (), (), (), ()), (K12.n1 Z ((busesD (SSta.buses s), (), ()), (ByteArray.mk #[], (), (), (), (), (), ()), [], ()), K12.f1 Z ((busesD (SSta.buses
 s), (), ()), (ByteArray.mk #[], (), (), (), (), (), ()), [], ())), K12.m1 Z ((busesD (SSta.buses s), (), ()), (ByteArray.mk #[], (), (), (), (), (), ()), [], ()), ())), K12.m2 Z
 ((linesD (SSta.lines s), (), ()), (ByteArray.mk #[], K12.n1 Z ((busesD (SSta.buses s), (), ()), (ByteArray.mk #[], (), (), (), (), (), ()), [], ()), (), (), (), (), ()), (K12.n1 Z
 ((busesD (SSta.buses s), (), ()), (ByteArray.mk #[], (), (), (), (), (), ()), [], ()), K12.f1 Z ((busesD (SSta.buses s), (), ()), (ByteArray.mk #[], (), (), (), (), (), ()), [],
 ())), K12.m1 Z ((busesD (SSta.buses s), (), ()), (ByteArray.mk #[], (), (), (), (), (), ()), [], ()), ()), ()), ()) then some (T.leaf (AV.c (C.d (D.v (Value.int IntKind.i64 (K12.e4
 Z ((baysD (SSta.bays s), (), ()), (ByteArray.mk #[], K12.n1 Z ((busesD (SSta.buses s), (), ()), (ByteArray.mk #[], (), (), (), (), (), ()), [], ()), K12.n2 Z ((linesD (SSta.lines
 s), (), ()), (ByteArray.mk #[], K12.n1 Z ((busesD (SSta.buses s), (), ()), (ByteArray.mk #[], (), (), (), (), (), ()), [], ()), (), (), (), (), ()), (K12.n1 Z ((busesD (SSta.buses
 s), (), ()), (ByteArray.mk #[], (), (), (), (), (), ()), [], ()), K12.f1 Z ((busesD (SSta.buses s), (), ()), (ByteArray.mk #[], (), (), (), (), (), ()), [], ())), K12.m1 Z ((busesD
 (SSta.buses s), (), ()), (ByteArray.mk #[], (), (), (), (), (), ()), [], ()), ()), K12.n3 Z ((srcsD (SSta.srcs s), (), ()), (ByteArray.mk #[], K12.n1 Z ((busesD (SSta.buses s), (),
 ()), (ByteArray.mk #[], (), (), (), (), (), ()), [], ()), K12.n2 Z ((linesD (SSta.lines s), (), ()), (ByteArray.mk #[], K12.n1 Z ((busesD (SSta.buses s), (), ()), (ByteArray.mk #[],
 (), (), (), (), (), ()), [], ()), (), (), (), (), ()), (K12.n1 Z ((busesD (SSta.buses s), (), ()), (ByteArray.mk #[], (), (), (), (), (), ()), [], ()), K12.f1 Z ((busesD (SSta.buses
 s), (), ()), (ByteArray.mk #[], (), (), (), (), (), ()), [], ())), K12.m1 Z ((busesD (SSta.buses s), (), ()), (ByteArray.mk #[], (), (), (), (), (), ()), [], ()), ()), (), (), (),
 ()), (K12.n1 Z ((busesD (SSta.buses s), (), ()), (ByteArray.mk #[], (), (), (), (), (), ()), [], ()), K12.f1 Z ((busesD (SSta.buses s), (), ()), (ByteArray.mk #[], (), (), (), (),
 (), ()), [], ())), (K12.n2 Z ((linesD (SSta.lines s), (), ()), (ByteArray.mk #[], K12.n1 Z ((busesD (SSta.buses s), (), ()), (ByteArray.mk #[], (), (), (), (), (), ()), [], ()), (),
 (), (), (), ()), (K12.n1 Z ((busesD (SSta.buses s), (), ()), (ByteArray.mk #[], (), (), (), (), (), ()), [], ()), K12.f1 Z ((busesD (SSta.buses s), (), ()), (ByteArray.mk #[], (),
 (), (), (), (), ()), [], ())), K12.m1 Z ((busesD (SSta.buses s), (), ()), (ByteArray.mk #[], (), (), (), (), (), ()), [], ()), ()), K12.f2 Z ((linesD (SSta.lines s), (), ()),
 (ByteArray.mk #[], K12.n1 Z ((busesD (SSta.buses s), (), ()), (ByteArray.mk #[], (), (), (), (), (), ()), [], ()), (), (), (), (), ()), (K12.n1 Z ((busesD (SSta.buses s), (), ()),
 (ByteArray.mk #[], (), (), (), (), (), ()), [], ()), K12.f1 Z ((busesD (SSta.buses s), (), ()), (ByteArray.mk #[], (), (), (), (), (), ()), [], ())), K12.m1 Z ((busesD (SSta.buses
 s), (), ()), (ByteArray.mk #[], (), (), (), (), (), ()), [], ()), ())), K12.m2 Z ((linesD (SSta.lines s), (), ()), (ByteArray.mk #[], K12.n1 Z ((busesD (SSta.buses s), (), ()),
 (ByteArray.mk #[], (), (), (), (), (), ()), [], ()), (), (), (), (), ()), (K12.n1 Z ((busesD (SSta.buses s), (), ()), (ByteArray.mk #[], (), (), (), (), (), ()), [], ()), K12.f1 Z
 ((busesD (SSta.buses s), (), ()), (ByteArray.mk #[], (), (), (), (), (), ()), [], ())), K12.m1 Z ((busesD (SSta.buses s), (), ()), (ByteArray.mk #[], (), (), (), (), (), ()), [],
 ()), ()), ()), (), (), ()), (K12.n1 Z ((busesD (SSta.buses s), (), ()), (ByteArray.mk #[], (), (), (), (), (), ()), [], ()), K12.f1 Z ((busesD (SSta.buses s), (), ()), (ByteArray.mk
 #[], (), (), (), (), (), ()), [], ())), (K12.n2 Z ((linesD (SSta.lines s), (), ()), (ByteArray.mk #[], K12.n1 Z ((busesD (SSta.buses s), (), ()), (ByteArray.mk #[], (), (), (), (),
 (), ()), [], ()), (), (), (), (), ()), (K12.n1 Z ((busesD (SSta.buses s), (), ()), (ByteArray.mk #[], (), (), (), (), (), ()), [], ()), K12.f1 Z ((busesD (SSta.buses s), (), ()),
 (ByteArray.mk #[], (), (), (), (), (), ()), [], ())), K12.m1 Z ((busesD (SSta.buses s), (), ()), (ByteArray.mk #[], (), (), (), (), (), ()), [], ()), ()), K12.f2 Z ((linesD
 (SSta.lines s), (), ()), (ByteArray.mk #[], K12.n1 Z ((busesD (SSta.buses s), (), ()), (ByteArray.mk #[], (), (), (), (), (), ()), [], ()), (), (), (), (), ()), (K12.n1 Z ((busesD
 (SSta.buses s), (), ()), (ByteArray.mk #[], (), (), (), (), (), ()), [], ()), K12.f1 Z ((busesD (SSta.buses s), (), ()), (ByteArray.mk #[], (), (), (), (), (), ()), [], ())), K12.m1
 Z ((busesD (SSta.buses s), (), ()), (ByteArray.mk #[], (), (), (), (), (), ()), [], ()), ())), (K12.n3 Z ((srcsD (SSta.srcs s), (), ()), (ByteArray.mk #[], K12.n1 Z ((busesD
 (SSta.buses s), (), ()), (ByteArray.mk #[], (), (), (), (), (), ()), [], ()), K12.n2 Z ((linesD (SSta.lines s), (), ()), (ByteArray.mk #[], K12.n1 Z ((busesD (SSta.buses s), (),
 ()), (ByteArray.mk #[], (), (), (), (), (), ()), [], ()), (), (), (), (), ()), (K12.n1 Z ((busesD (SSta.buses s), (), ()), (ByteArray.mk #[], (), (), (), (), (), ()), [], ()),
 K12.f1 Z ((busesD (SSta.buses s), (), ()), (ByteArray.mk #[], (), (), (), (), (), ()), [], ())), K12.m1 Z ((busesD (SSta.buses s), (), ()), (ByteArray.mk #[], (), (), (), (), (),
 ()), [], ()), ()), (), (), (), ()), (K12.n1 Z ((busesD (SSta.buses s), (), ()), (ByteArray.mk #[], (), (), (), (), (), ()), [], ()), K12.f1 Z ((busesD (SSta.buses s), (), ()),
 (ByteArray.mk #[], (), (), (), (), (), ()), [], ())), (K12.n2 Z ((linesD (SSta.lines s), (), ()), (ByteArray.mk #[], K12.n1 Z ((busesD (SSta.buses s), (), ()), (ByteArray.mk #[],
 (), (), (), (), (), ()), [], ()), (), (), (), (), ()), (K12.n1 Z ((busesD (SSta.buses s), (), ()), (ByteArray.mk #[], (), (), (), (), (), ()), [], ()), K12.f1 Z ((busesD (SSta.buses
 s), (), ()), (ByteArray.mk #[], (), (), (), (), (), ()), [], ())), K12.m1 Z ((busesD (SSta.buses s), (), ()), (ByteArray.mk #[], (), (), (), (), (), ()), [], ()), ()), K12.f2 Z
 ((linesD (SSta.lines s), (), ()), (ByteArray.mk #[], K12.n1 Z ((busesD (SSta.buses s), (), ()), (ByteArray.mk #[], (), (), (), (), (), ()), [], ()), (), (), (), (), ()), (K12.n1 Z
 ((busesD (SSta.buses s), (), ()), (ByteArray.mk #[], (), (), (), (), (), ()), [], ()), K12.f1 Z ((busesD (SSta.buses s), (), ()), (ByteArray.mk #[], (), (), (), (), (), ()), [],
 ())), K12.m1 Z ((busesD (SSta.buses s), (), ()), (ByteArray.mk #[], (), (), (), (), (), ()), [], ()), ())), K12.m2 Z ((linesD (SSta.lines s), (), ()), (ByteArray.mk #[], K12.n1 Z
 ((busesD (SSta.buses s), (), ()), (ByteArray.mk #[], (), (), (), (), (), ()), [], ()), (), (), (), (), ()), (K12.n1 Z ((busesD (SSta.buses s), (), ()), (ByteArray.mk #[], (), (),
 (), (), (), ()), [], ()), K12.f1 Z ((busesD (SSta.buses s), (), ()), (ByteArray.mk #[], (), (), (), (), (), ()), [], ())), K12.m1 Z ((busesD (SSta.buses s), (), ()), (ByteArray.mk
 #[], (), (), (), (), (), ()), [], ()), ()), ()), K12.f3 Z ((srcsD (SSta.srcs s), (), ()), (ByteArray.mk #[], K12.n1 Z ((busesD (SSta.buses s), (), ()), (ByteArray.mk #[], (), (),
 (), (), (), ()), [], ()), K12.n2 Z ((linesD (SSta.lines s), (), ()), (ByteArray.mk #[], K12.n1 Z ((busesD (SSta.buses s), (), ()), (ByteArray.mk #[], (), (), (), (), (), ()), [],
 ()), (), (), (), (), ()), (K12.n1 Z ((busesD (SSta.buses s), (), ()), (ByteArray.mk #[], (), (), (), (), (), ()), [], ()), K12.f1 Z ((busesD (SSta.buses s), (), ()), (ByteArray.mk
 #[], (), (), (), (), (), ()), [], ())), K12.m1 Z ((busesD (SSta.buses s), (), ()), (ByteArray.mk #[], (), (), (), (), (), ()), [], ()), ()), (), (), (), ()), (K12.n1 Z ((busesD
 (SSta.buses s), (), ()), (ByteArray.mk #[], (), (), (), (), (), ()), [], ()), K12.f1 Z ((busesD (SSta.buses s), (), ()), (ByteArray.mk #[], (), (), (), (), (), ()), [], ())),
 (K12.n2 Z ((linesD (SSta.lines s), (), ()), (ByteArray.mk #[], K12.n1 Z ((busesD (SSta.buses s), (), ()), (ByteArray.mk #[], (), (), (), (), (), ()), [], ()), (), (), (), (), ()),
 (K12.n1 Z ((busesD (SSta.buses s), (), ()), (ByteArray.mk #[], (), (), (), (), (), ()), [], ()), K12.f1 Z ((busesD (SSta.buses s), (), ()), (ByteArray.mk #[], (), (), (), (), (),
 ()), [], ())), K12.m1 Z ((busesD (SSta.buses s), (), ()), (ByteArray.mk #[], (), (), (), (), (), ()), [], ()), ()), K12.f2 Z ((linesD (SSta.lines s), (), ()), (ByteArray.mk #[],
 K12.n1 Z ((busesD (SSta.buses s), (), ()), (ByteArray.mk #[], (), (), (), (), (), ()), [], ()), (), (), (), (), ()), (K12.n1 Z ((busesD (SSta.buses s), (), ()), (ByteArray.mk #[],
 (), (), (), (), (), ()), [], ()), K12.f1 Z ((busesD (SSta.buses s), (), ()), (ByteArray.mk #[], (), (), (), (), (), ()), [], ())), K12.m1 Z ((busesD (SSta.buses s), (), ()),
 (ByteArray.mk #[], (), (), (), (), (), ()), [], ()), ())), K12.m2 Z ((linesD (SSta.lines s), (), ()), (ByteArray.mk #[], K12.n1 Z ((busesD (SSta.buses s), (), ()), (ByteArray.mk
 #[], (), (), (), (), (), ()), [], ()), (), (), (), (), ()), (K12.n1 Z ((busesD (SSta.buses s), (), ()), (ByteArray.mk #[], (), (), (), (), (), ()), [], ()), K12.f1 Z ((busesD
 (SSta.buses s), (), ()), (ByteArray.mk #[], (), (), (), (), (), ()), [], ())), K12.m1 Z ((busesD (SSta.buses s), (), ()), (ByteArray.mk #[], (), (), (), (), (), ()), [], ()), ()),
 ())), K12.m3 Z ((srcsD (SSta.srcs s), (), ()), (ByteArray.mk #[], K12.n1 Z ((busesD (SSta.buses s), (), ()), (ByteArray.mk #[], (), (), (), (), (), ()), [], ()), K12.n2 Z ((linesD
 (SSta.lines s), (), ()), (ByteArray.mk #[], K12.n1 Z ((busesD (SSta.buses s), (), ()), (ByteArray.mk #[], (), (), (), (), (), ()), [], ()), (), (), (), (), ()), (K12.n1 Z ((busesD
 (SSta.buses s), (), ()), (ByteArray.mk #[], (), (), (), (), (), ()), [], ()), K12.f1 Z ((busesD (SSta.buses s), (), ()), (ByteArray.mk #[], (), (), (), (), (), ()), [], ())), K12.m1
 Z ((busesD (SSta.buses s), (), ()), (ByteArray.mk #[], (), (), (), (), (), ()), [], ()), ()), (), (), (), ()), (K12.n1 Z ((busesD (SSta.buses s), (), ()), (ByteArray.mk #[], (), (),
 (), (), (), ()), [], ()), K12.f1 Z ((busesD (SSta.buses s), (), ()), (ByteArray.mk #[], (), (), (), (), (), ()), [], ())), (K12.n2 Z ((linesD (SSta.lines s), (), ()), (ByteArray.mk
 #[], K12.n1 Z ((busesD (SSta.buses s), (), ()), (ByteArray.mk #[], (), (), (), (), (), ()), [], ()), (), (), (), (), ()), (K12.n1 Z ((busesD (SSta.buses s), (), ()), (ByteArray.mk
 #[], (), (), (), (), (), ()), [], ()), K12.f1 Z ((busesD (SSta.buses s), (), ()), (ByteArray.mk #[], (), (), (), (), (), ()), [], ())), K12.m1 Z ((busesD (SSta.buses s), (), ()),
 (ByteArray.mk #[], (), (), (), (), (), ()), [], ()), ()), K12.f2 Z ((linesD (SSta.lines s), (), ()), (ByteArray.mk #[], K12.n1 Z ((busesD (SSta.buses s), (), ()), (ByteArray.mk #[],
 (), (), (), (), (), ()), [], ()), (), (), (), (), ()), (K12.n1 Z ((busesD (SSta.buses s), (), ()), (ByteArray.mk #[], (), (), (), (), (), ()), [], ()), K12.f1 Z ((busesD (SSta.buses
 s), (), ()), (ByteArray.mk #[], (), (), (), (), (), ()), [], ())), K12.m1 Z ((busesD (SSta.buses s), (), ()), (ByteArray.mk #[], (), (), (), (), (), ()), [], ()), ())), K12.m2 Z
 ((linesD (SSta.lines s), (), ()), (ByteArray.mk #[], K12.n1 Z ((busesD (SSta.buses s), (), ()), (ByteArray.mk #[], (), (), (), (), (), ()), [], ()), (), (), (), (), ()), (K12.n1 Z
 ((busesD (SSta.buses s), (), ()), (ByteArray.mk #[], (), (), (), (), (), ()), [], ()), K12.f1 Z ((busesD (SSta.buses s), (), ()), (ByteArray.mk #[], (), (), (), (), (), ()), [],
 ())), K12.m1 Z ((busesD (SSta.buses s), (), ()), (ByteArray.mk #[], (), (), (), (), (), ()), [], ()), ()), ()), ()))))), [])) else none) else some (T.leaf (AV.c (C.d (D.v (Value.int
 IntKind.i64 (K12.e3 Z ((srcsD (SSta.srcs s), (), ()), (ByteArray.mk #[], K12.n1 Z ((busesD (SSta.buses s), (), ()), (ByteArray.mk #[], (), (), (), (), (), ()), [], ()), K12.n2 Z
 ((linesD (SSta.lines s), (), ()), (ByteArray.mk #[], K12.n1 Z ((busesD (SSta.buses s), (), ()), (ByteArray.mk #[], (), (), (), (), (), ()), [], ()), (), (), (), (), ()), (K12.n1 Z
 ((busesD (SSta.buses s), (), ()), (ByteArray.mk #[], (), (), (), (), (), ()), [], ()), K12.f1 Z ((busesD (SSta.buses s), (), ()), (ByteArray.mk #[], (), (), (), (), (), ()), [],
 ())), K12.m1 Z ((busesD (SSta.buses s), (), ()), (ByteArray.mk #[], (), (), (), (), (), ()), [], ()), ()), (), (), (), ()), (K12.n1 Z ((busesD (SSta.buses s), (), ()), (ByteArray.mk
 #[], (), (), (), (), (), ()), [], ()), K12.f1 Z ((busesD (SSta.buses s), (), ()), (ByteArray.mk #[], (), (), (), (), (), ()), [], ())), (K12.n2 Z ((linesD (SSta.lines s), (), ()),
 (ByteArray.mk #[], K12.n1 Z ((busesD (SSta.buses s), (), ()), (ByteArray.mk #[], (), (), (), (), (), ()), [], ()), (), (), (), (), ()), (K12.n1 Z ((busesD (SSta.buses s), (), ()),
 (ByteArray.mk #[], (), (), (), (), (), ()), [], ()), K12.f1 Z ((busesD (SSta.buses s), (), ()), (ByteArray.mk #[], (), (), (), (), (), ()), [], ())), K12.m1 Z ((busesD (SSta.buses
 s), (), ()), (ByteArray.mk #[], (), (), (), (), (), ()), [], ()), ()), K12.f2 Z ((linesD (SSta.lines s), (), ()), (ByteArray.mk #[], K12.n1 Z ((busesD (SSta.buses s), (), ()),
 (ByteArray.mk #[], (), (), (), (), (), ()), [], ()), (), (), (), (), ()), (K12.n1 Z ((busesD (SSta.buses s), (), ()), (ByteArray.mk #[], (), (), (), (), (), ()), [], ()), K12.f1 Z
 ((busesD (SSta.buses s), (), ()), (ByteArray.mk #[], (), (), (), (), (), ()), [], ())), K12.m1 Z ((busesD (SSta.buses s), (), ()), (ByteArray.mk #[], (), (), (), (), (), ()), [],
 ()), ())), K12.m2 Z ((linesD (SSta.lines s), (), ()), (ByteArray.mk #[], K12.n1 Z ((busesD (SSta.buses s), (), ()), (ByteArray.mk #[], (), (), (), (), (), ()), [], ()), (), (), (),
 (), ()), (K12.n1 Z ((busesD (SSta.buses s), (), ()), (ByteArray.mk #[], (), (), (), (), (), ()), [], ()), K12.f1 Z ((busesD (SSta.buses s), (), ()), (ByteArray.mk #[], (), (), (),
 (), (), ()), [], ())), K12.m1 Z ((busesD (SSta.buses s), (), ()), (ByteArray.mk #[], (), (), (), (), (), ()), [], ()), ()), ()))))), []))) else none) else (bif K12.e2 Z ((linesD
 (SSta.lines s), (), ()), (ByteArray.mk #[], K12.n1 Z ((busesD (SSta.buses s), (), ()), (ByteArray.mk #[], (), (), (), (), (), ()), [], ()), (), (), (), (), ()), (K12.n1 Z ((busesD
 (SSta.buses s), (), ()), (ByteArray.mk #[], (), (), (), (), (), ()), [], ()), K12.f1 Z ((busesD (SSta.buses s), (), ()), (ByteArray.mk #[], (), (), (), (), (), ()), [], ())), K12.m1
 Z ((busesD (SSta.buses s), (), ()), (ByteArray.mk #[], (), (), (), (), (), ()), [], ()), ()) == (0 : Int) then none else some (T.leaf (AV.c (C.d (D.v (Value.int IntKind.i64 (K12.e2
 Z ((linesD (SSta.lines s), (), ()), (ByteArray.mk #[], K12.n1 Z ((busesD (SSta.buses s), (), ()), (ByteArray.mk #[], (), (), (), (), (), ()), [], ()), (), (), (), (), ()), (K12.n1 Z
 ((busesD (SSta.buses s), (), ()), (ByteArray.mk #[], (), (), (), (), (), ()), [], ()), K12.f1 Z ((busesD (SSta.buses s), (), ()), (ByteArray.mk #[], (), (), (), (), (), ()), [],
 ())), K12.m1 Z ((busesD (SSta.buses s), (), ()), (ByteArray.mk #[], (), (), (), (), (), ()), [], ()), ()))))), [])))) else none) else (bif K12.e1 Z ((busesD (SSta.buses s), (), ()),
 (ByteArray.mk #[], (), (), (), (), (), ()), [], ()) == (0 : Int) then none else (bif K12.e1 Z ((busesD (SSta.buses s), (), ()), (ByteArray.mk #[], (), (), (), (), (), ()), [], ())
 == (0 : Int) then none else some (T.leaf (AV.c (C.d (D.v (Value.int IntKind.i64 (K12.e1 Z ((busesD (SSta.buses s), (), ()), (ByteArray.mk #[], (), (), (), (), (), ()), [], ()))))),
 []))))) else none))))))) := by kernel_rfl
end Go.Proofs.YtngoglhlhlfknaaGreat.st
namespace Go.Proofs.YtngoglhlhlfknaaGreat.st
open Go.RowKit Go.Eb
set_option maxRecDepth 100000

noncomputable abbrev u1 (a : A26) := takeN id (fun N _ x => namErr N x) (theM a.2.2.1) [] (theE busesD a.1.1)
noncomputable abbrev u2 (a : A28) := tLine (theM a.2.2.2.1) (theE linesD a.1.1)
noncomputable abbrev u3 (a : A30) := tSrc (theM a.2.2.2.2.1) (theE srcsD a.1.1)
noncomputable abbrev u4 (a : A32) := tBay a.2.2.1.1 a.2.2.2.1.1 a.2.2.2.2.1.1 (theM a.2.2.2.2.2.1) (theE baysD a.1.1)
noncomputable def Z12 : K12 where
  nk := nameOk
  ok1 a := okE busesD a.1.1 && (decide ((theE busesD a.1.1).length ≤ 900) && okM a.2.2.1)
  e1 a := (u1 a).1
  m1 a := mapOf (theM a.2.2.1 ++ (u1 a).2.map id)
  n1 a := (u1 a).2.length
  f1 a := fun i => busC ((u1 a).2.getD i e0)
  ok2 a := okE linesD a.1.1 && (decide ((theE linesD a.1.1).length ≤ 900) && (okM a.2.2.2.1 && Nat.beq a.2.1.2.1 a.2.2.1.1))
  e2 a := (u2 a).1
  m2 a := mapOf (theM a.2.2.2.1 ++ (u2 a).2.map SLine.name)
  n2 a := (u2 a).2.length
  f2 a := fun i => lineC ((u2 a).2.getD i line0)
  ok3 a := okE srcsD a.1.1 && (decide ((theE srcsD a.1.1).length ≤ 900) && (okM a.2.2.2.2.1 && (Nat.beq a.2.1.2.1 a.2.2.1.1 && Nat.beq a.2.1.2.2.1 a.2.2.2.1.1)))
  e3 a := (u3 a).1
  m3 a := mapOf (theM a.2.2.2.2.1 ++ (u3 a).2.map SSrc.name)
  n3 a := (u3 a).2.length
  f3 a := fun i => srcC' ((u3 a).2.getD i src0)
  ok4 a := okE baysD a.1.1 && (decide ((theE baysD a.1.1).length ≤ 900) && (okM a.2.2.2.2.2.1 && (Nat.beq a.2.1.2.1 a.2.2.1.1 && (Nat.beq a.2.1.2.2.1 a.2.2.2.1.1 && (Nat.beq a.2.1.2.2.2.1 a.2.2.2.2.1.1 && (Nat.ble a.2.2.1.1 900 && (Nat.ble a.2.2.2.1.1 900 && (Nat.ble a.2.2.2.2.1.1 900 && lksOk (theE baysD a.1.1)))))))))
  e4 a := (u4 a).1
  m4 a := mapOf (theM a.2.2.2.2.2.1 ++ (u4 a).2.map SBay.name)
  n4 a := (u4 a).2.length
  f4 a := fun i => bayC ((u4 a).2.getD i bay0)

theorem s12 : OrcS Tryz.prog (o12 Z12) := by
  refine .cons (.p decS_ok c15) (.cons (.inl .nil Tryz.func51 (by kernel_rfl)) (.cons (.d fun a ha => ?_) (.cons (.d fun a ha => ?_) (.cons (.d fun a ha => ?_) (.cons (.d fun a ha => ?_) .nil)))))
  · have ha' : (okE busesD a.1.1 && (decide ((theE busesD a.1.1).length ≤ 900) && okM a.2.2.1)) = true := ha
    simp only [Bool.and_eq_true, decide_eq_true_eq] at ha'
    obtain ⟨h1, h2, h3⟩ := ha'
    have hm := theM_spec h3
    refine (c26 (theE busesD a.1.1) a.2.1.1 (theM a.2.2.1) h2).ge (.cons (theE_de h1) (.cons (.refl _) .nil)) ?_
    show Hle (H1 a.2.1.1 a.2.2.1) _
    rw [← hm]
    exact .refl _
  · have ha' : (okE linesD a.1.1 && (decide ((theE linesD a.1.1).length ≤ 900) && (okM a.2.2.2.1 && Nat.beq a.2.1.2.1 a.2.2.1.1))) = true := ha
    simp only [Bool.and_eq_true, decide_eq_true_eq] at ha'
    obtain ⟨h1, h2, h3, h4⟩ := ha'
    have hm := theM_spec h3
    have e4 := Nat.eq_of_beq_eq_true h4
    refine (c28 (theE linesD a.1.1) a.2.1.1 a.2.2.1.1 a.2.2.1.2 (theM a.2.2.2.1) h2).ge (.cons (theE_de h1) (.cons (.refl _) .nil)) ?_
    show Hle [(0, .cells [.d (dS a.2.1.1), .row 1 1 a.2.1.2.1, nilC, nilC, nilC, .mp 2] 157), (1, .row a.2.2.1.1 a.2.2.1.2 1 9), (2, .map 0 a.2.2.2.1)] _
    rw [← hm, e4]
    exact .refl _
  · have ha' : (okE srcsD a.1.1 && (decide ((theE srcsD a.1.1).length ≤ 900) && (okM a.2.2.2.2.1 && (Nat.beq a.2.1.2.1 a.2.2.1.1 && Nat.beq a.2.1.2.2.1 a.2.2.2.1.1)))) = true := ha
    simp only [Bool.and_eq_true, decide_eq_true_eq] at ha'
    obtain ⟨h1, h2, h3, h4, h5⟩ := ha'
    have hm := theM_spec h3
    have e4 := Nat.eq_of_beq_eq_true h4
    have e5 := Nat.eq_of_beq_eq_true h5
    refine (c30 (theE srcsD a.1.1) a.2.1.1 a.2.2.1.1 a.2.2.1.2 a.2.2.2.1.1 a.2.2.2.1.2 (theM a.2.2.2.2.1) h2).ge (.cons (theE_de h1) (.cons (.refl _) .nil)) ?_
    show Hle [(0, .cells [.d (dS a.2.1.1), .row 1 1 a.2.1.2.1, .row 2 5 a.2.1.2.2.1, nilC, nilC, .mp 3] 157), (1, .row a.2.2.1.1 a.2.2.1.2 1 9), (2, .row a.2.2.2.1.1 a.2.2.2.1.2 5 71), (3, .map 0 a.2.2.2.2.1)] _
    rw [← hm, e4, e5]
    exact .refl _
  · have ha' : (okE baysD a.1.1 && (decide ((theE baysD a.1.1).length ≤ 900) && (okM a.2.2.2.2.2.1 && (Nat.beq a.2.1.2.1 a.2.2.1.1 && (Nat.beq a.2.1.2.2.1 a.2.2.2.1.1 && (Nat.beq a.2.1.2.2.2.1 a.2.2.2.2.1.1 && (Nat.ble a.2.2.1.1 900 && (Nat.ble a.2.2.2.1.1 900 && (Nat.ble a.2.2.2.2.1.1 900 && lksOk (theE baysD a.1.1)))))))))) = true := ha
    simp only [Bool.and_eq_true, decide_eq_true_eq] at ha'
    obtain ⟨h1, h2, h3, h4, h5, h6, h7, h8, h9, h10⟩ := ha'
    have hm := theM_spec h3
    have e4 := Nat.eq_of_beq_eq_true h4
    have e5 := Nat.eq_of_beq_eq_true h5
    have e6 := Nat.eq_of_beq_eq_true h6
    refine (c32 (theE baysD a.1.1) a.2.1.1 a.2.2.1.1 a.2.2.1.2 a.2.2.2.1.1 a.2.2.2.1.2 a.2.2.2.2.1.1 a.2.2.2.2.1.2 (theM a.2.2.2.2.2.1) h2 (Nat.le_of_ble_eq_true h7) (Nat.le_of_ble_eq_true h8) (Nat.le_of_ble_eq_true h9) (lksOk_get h10)).ge (.cons (theE_de h1) (.cons (.refl _) .nil)) ?_
    show Hle [(0, .cells [.d (dS a.2.1.1), .row 1 1 a.2.1.2.1, .row 2 5 a.2.1.2.2.1, .row 3 6 a.2.1.2.2.2.1, nilC, .mp 4] 157), (1, .row a.2.2.1.1 a.2.2.1.2 1 9), (2, .row a.2.2.2.1.1 a.2.2.2.1.2 5 71), (3, .row a.2.2.2.2.1.1 a.2.2.2.2.1.2 6 74), (4, .map 0 a.2.2.2.2.2.1)] _
    rw [← hm, e4, e5, e6]
    exact .refl _

theorem len_eq0 (n : Nat) : ((n : Int) == 0) = (n == 0) := by cases n <;> rfl
theorem len_gt (n k : Nat) : decide ((n : Int) > (k : Int)) = decide (k < n) := by rw [decide_eq_decide]; omega

theorem c12 (s : SSta) (hlk : lksOk s.bays = true) : CX Tryz.prog 26 [aSta s] [] (vI (chkSta s)) [] := by
  refine cx_of s12.ok Tryz.func26 b12 rfl ((ev12 Z12 s 1).trans ?_)
  have t4 : ∀ n : Nat, decide ((n : Int) > 4) = decide (4 < n) := fun n => len_gt n 4
  have t6 : ∀ n : Nat, decide ((n : Int) > 6) = decide (6 < n) := fun n => len_gt n 6
  have t16 : ∀ n : Nat, decide ((n : Int) > 16) = decide (16 < n) := fun n => len_gt n 16
  simp only [len_eq0, t4, t6, t16, fOr]
  unfold chkSta
  show (bif !nameOk s.name then _ else _) = _
  cases nameOk s.name with
  | false => rfl
  | true =>
    simp only [Bool.not_true, cond_false]
    have hcb : (s.buses.length == 0 || (decide (4 < s.buses.length) || (decide (6 < s.lines.length) || (decide (4 < s.srcs.length) || decide (16 < s.bays.length))))) = cntBad s := rfl
    rw [hcb]
    cases hc : cntBad s with
    | true => rfl
    | false =>
      simp only [cond_false]
      unfold cntBad at hc
      simp only [Bool.or_eq_false_iff, decide_eq_false_iff_not] at hc
      obtain ⟨_, h4, h6, h4', h16⟩ := hc
      have M0 : okM ([] : List (Value × Value)) = true := okM_mapOf []
      have M0' : theM ([] : List (Value × Value)) = [] := theM_mapOf []
      obtain ⟨L1, L1'⟩ := the_list (sz := 1) (d0 := e0) busC_inj s.buses
      obtain ⟨L2, L2'⟩ := the_list (sz := 5) (d0 := line0) lineC_inj s.lines
      obtain ⟨L3, L3'⟩ := the_list (sz := 6) (d0 := src0) srcC_inj s.srcs
      obtain ⟨L4, L4'⟩ := the_list (sz := 12) (d0 := bay0) bayC_inj s.bays
      have x1 : ∀ y, Z12.ok1 ((busesD s.buses, (), ()), y, [], ()) = true := fun y => by
        show (okE busesD (busesD s.buses) && (decide ((theE busesD (busesD s.buses)).length ≤ 900) && okM [])) = true
        rw [L1, L1', M0, decide_eq_true (by omega)]; rfl
      have y1 : ∀ y, u1 ((busesD s.buses, (), ()), y, [], ()) = tBus s.buses := fun y => by
        show takeN id (fun N _ x => namErr N x) (theM []) [] (theE busesD (busesD s.buses)) = _
        rw [L1', M0']; rfl
      have z1 : ∀ y, Z12.e1 ((busesD s.buses, (), ()), y, [], ()) = (tBus s.buses).1 := fun y => by show (u1 _).1 = _; rw [y1]
      rw [x1, z1]
      simp only [cond_true]
      cases E1 : ((tBus s.buses).1 == 0) with
      | false =>
        have : ((tBus s.buses).1 != 0) = true := by unfold bne; rw [E1]; rfl
        rw [this]; rfl
      | true =>
        have E1' : (tBus s.buses).1 = 0 := by simpa using E1
        have N1 : (tBus s.buses).2 = s.buses := by have := takeN_ok (nm := id) (f := fun N _ x => namErr N x) (N := []) [] s.buses E1'; rw [List.nil_append] at this; exact this
        have n1 : ∀ y, Z12.n1 ((busesD s.buses, (), ()), y, [], ()) = s.buses.length := fun y => by show (u1 _).2.length = _; rw [y1, N1]
        have m1 : ∀ y, Z12.m1 ((busesD s.buses, (), ()), y, [], ()) = mapOf s.buses := fun y => by
          show mapOf (theM [] ++ (u1 _).2.map id) = _
          rw [y1, N1, M0']; simp
        rw [E1']
        simp only [cond_true, n1, m1, bne_self_eq_false, cond_false]
        have x2 : ∀ a b c d, Z12.ok2 ((linesD s.lines, (), ()), (a, s.buses.length, b), (s.buses.length, c), mapOf s.buses, d) = true := fun a b c d => by
          show (okE linesD (linesD s.lines) && (decide ((theE linesD (linesD s.lines)).length ≤ 900) && (okM (mapOf s.buses) && Nat.beq s.buses.length s.buses.length))) = true
          rw [L2, L2', okM_mapOf, decide_eq_true (by omega), Nat.beq_refl]; rfl
        have y2 : ∀ a b c d, u2 ((linesD s.lines, (), ()), (a, s.buses.length, b), (s.buses.length, c), mapOf s.buses, d) = tLine s.buses s.lines := fun a b c d => by
          show tLine (theM (mapOf s.buses)) (theE linesD (linesD s.lines)) = _
          rw [L2', theM_mapOf]
        have z2 : ∀ a b c d, Z12.e2 ((linesD s.lines, (), ()), (a, s.buses.length, b), (s.buses.length, c), mapOf s.buses, d) = (tLine s.buses s.lines).1 := fun a b c d => by show (u2 _).1 = _; rw [y2]
        rw [x2, z2]
        simp only [cond_true]
        cases E2 : ((tLine s.buses s.lines).1 == 0) with
        | false =>
          have : ((tLine s.buses s.lines).1 != 0) = true := by unfold bne; rw [E2]; rfl
          rw [this]; rfl
        | true =>
          have E2' : (tLine s.buses s.lines).1 = 0 := by simpa using E2
          have N2 : (tLine s.buses s.lines).2 = s.lines := by have := takeN_ok (nm := SLine.name) (f := fun N _ x => lineErr N x) (N := s.buses) [] s.lines E2'; rw [List.nil_append] at this; exact this
          have n2 : ∀ a b c d, Z12.n2 ((linesD s.lines, (), ()), (a, s.buses.length, b), (s.buses.length, c), mapOf s.buses, d) = s.lines.length := fun a b c d => by show (u2 _).2.length = _; rw [y2, N2]
          have m2 : ∀ a b c d, Z12.m2 ((linesD s.lines, (), ()), (a, s.buses.length, b), (s.buses.length, c), mapOf s.buses, d) = mapOf (s.buses ++ s.lines.map SLine.name) := fun a b c d => by
            show mapOf (theM (mapOf s.buses) ++ (u2 _).2.map SLine.name) = _
            rw [y2, N2, theM_mapOf]
          rw [E2']
          simp only [cond_true, n2, m2, bne_self_eq_false, cond_false]
          have x3 : ∀ a b c d e, Z12.ok3 ((srcsD s.srcs, (), ()), (a, s.buses.length, s.lines.length, b), (s.buses.length, c), (s.lines.length, d), mapOf (s.buses ++ s.lines.map SLine.name), e) = true := fun a b c d e => by
            show (okE srcsD (srcsD s.srcs) && (decide ((theE srcsD (srcsD s.srcs)).length ≤ 900) && (okM (mapOf (s.buses ++ s.lines.map SLine.name)) && (Nat.beq s.buses.length s.buses.length && Nat.beq s.lines.length s.lines.length)))) = true
            rw [L3, L3', okM_mapOf, decide_eq_true (by omega), Nat.beq_refl, Nat.beq_refl]; rfl
          have y3 : ∀ a b c d e, u3 ((srcsD s.srcs, (), ()), (a, s.buses.length, s.lines.length, b), (s.buses.length, c), (s.lines.length, d), mapOf (s.buses ++ s.lines.map SLine.name), e) = tSrc (s.buses ++ s.lines.map SLine.name) s.srcs := fun a b c d e => by
            show tSrc (theM (mapOf (s.buses ++ s.lines.map SLine.name))) (theE srcsD (srcsD s.srcs)) = _
            rw [L3', theM_mapOf]
          have z3 : ∀ a b c d e, Z12.e3 ((srcsD s.srcs, (), ()), (a, s.buses.length, s.lines.length, b), (s.buses.length, c), (s.lines.length, d), mapOf (s.buses ++ s.lines.map SLine.name), e) = (tSrc (s.buses ++ s.lines.map SLine.name) s.srcs).1 := fun a b c d e => by show (u3 _).1 = _; rw [y3]
          rw [x3, z3]
          simp only [cond_true]
          cases E3 : ((tSrc (s.buses ++ s.lines.map SLine.name) s.srcs).1 == 0) with
          | false =>
            have : ((tSrc (s.buses ++ s.lines.map SLine.name) s.srcs).1 != 0) = true := by unfold bne; rw [E3]; rfl
            rw [this]; rfl
          | true =>
            have E3' : (tSrc (s.buses ++ s.lines.map SLine.name) s.srcs).1 = 0 := by simpa using E3
            have N3 : (tSrc (s.buses ++ s.lines.map SLine.name) s.srcs).2 = s.srcs := by have := takeN_ok (nm := SSrc.name) (f := fun N _ x => srcErr N x) (N := s.buses ++ s.lines.map SLine.name) [] s.srcs E3'; rw [List.nil_append] at this; exact this
            have n3 : ∀ a b c d e, Z12.n3 ((srcsD s.srcs, (), ()), (a, s.buses.length, s.lines.length, b), (s.buses.length, c), (s.lines.length, d), mapOf (s.buses ++ s.lines.map SLine.name), e) = s.srcs.length := fun a b c d e => by show (u3 _).2.length = _; rw [y3, N3]
            have m3 : ∀ a b c d e, Z12.m3 ((srcsD s.srcs, (), ()), (a, s.buses.length, s.lines.length, b), (s.buses.length, c), (s.lines.length, d), mapOf (s.buses ++ s.lines.map SLine.name), e) = mapOf (s.buses ++ s.lines.map SLine.name ++ s.srcs.map SSrc.name) := fun a b c d e => by
              show mapOf (theM (mapOf (s.buses ++ s.lines.map SLine.name)) ++ (u3 _).2.map SSrc.name) = _
              rw [y3, N3, theM_mapOf]
            rw [E3']
            simp only [cond_true, n3, m3, bne_self_eq_false, cond_false]
            have x4 : ∀ a b c d e f, Z12.ok4 ((baysD s.bays, (), ()), (a, s.buses.length, s.lines.length, s.srcs.length, b), (s.buses.length, c), (s.lines.length, d), (s.srcs.length, e), mapOf (s.buses ++ s.lines.map SLine.name ++ s.srcs.map SSrc.name), f) = true := fun a b c d e f => by
              show (okE baysD (baysD s.bays) && (decide ((theE baysD (baysD s.bays)).length ≤ 900) && (okM (mapOf (s.buses ++ s.lines.map SLine.name ++ s.srcs.map SSrc.name)) && (Nat.beq s.buses.length s.buses.length && (Nat.beq s.lines.length s.lines.length && (Nat.beq s.srcs.length s.srcs.length && (Nat.ble s.buses.length 900 && (Nat.ble s.lines.length 900 && (Nat.ble s.srcs.length 900 && lksOk (theE baysD (baysD s.bays))))))))))) = true
              rw [L4, L4', okM_mapOf, decide_eq_true (by omega), Nat.beq_refl, Nat.beq_refl, Nat.beq_refl, bleD, bleD, bleD, decide_eq_true (by omega), decide_eq_true (by omega), decide_eq_true (by omega), hlk]; rfl
            have z4 : ∀ a b c d e f, Z12.e4 ((baysD s.bays, (), ()), (a, s.buses.length, s.lines.length, s.srcs.length, b), (s.buses.length, c), (s.lines.length, d), (s.srcs.length, e), mapOf (s.buses ++ s.lines.map SLine.name ++ s.srcs.map SSrc.name), f) = (tBay s.buses.length s.lines.length s.srcs.length (s.buses ++ s.lines.map SLine.name ++ s.srcs.map SSrc.name) s.bays).1 := fun a b c d e f => by
              show (tBay s.buses.length s.lines.length s.srcs.length (theM (mapOf (s.buses ++ s.lines.map SLine.name ++ s.srcs.map SSrc.name))) (theE baysD (baysD s.bays))).1 = _
              rw [L4', theM_mapOf]
            rw [x4, z4]
            rfl
end Go.Proofs.YtngoglhlhlfknaaGreat.st
namespace Go.Proofs.YtngoglhlhlfknaaGreat.se
open Go.RowKit Go.Eb Go.Proofs.YtngoglhlhlfknaaGreat.st
set_option maxRecDepth 100000

noncomputable def ann28 : Ann := annOf [(3, ⟨[3, 18, 1, 19, 20], []⟩), (8, ⟨[3, 31, 1, 32, 33], []⟩), (13, ⟨[3, 45, 1, 46, 47], []⟩), (18, ⟨[3, 59, 60, 61], []⟩)]
noncomputable def L28_3 (s : SSta) (g m : Nat) (l2 : List (Value × Value)) (l3 : List (Value × Value)) (i20 : Int) := LK Tryz.prog Orc.nil ann28 (List.length (α := Nat × Blk) []) g Tryz.f28 3 m ⟨frm [(1, AV.c (C.ptr 0 0)), (3, AV.c (C.ptr 1 0)), (18, AV.c (C.d (listD 1 busC e0 (SSta.buses s)))), (19, AV.c (C.d (D.v (Value.int IntKind.i64 (↑(List.length (SSta.buses s)) : Int))))), (20, AV.c (C.d (D.v (Value.int IntKind.i64 i20))))] 0 Tryz.f28.ntmps, [(0, Blk.cells (List.map C.d (staC s)) 27), (1, Blk.cells [C.d (D.v (Value.string (SSta.name s))), C.d (listD 1 busC e0 (SSta.buses s)), C.d (listD 5 lineC line0 (SSta.lines s)), C.d (listD 6 srcC' src0 (SSta.srcs s)), C.d (listD 12 bayC bay0 (SSta.bays s)), C.mp 2, C.mp 3] 140), (2, Blk.map 0 l2), (3, Blk.map 2 l3)], 4⟩
noncomputable def L28_8 (s : SSta) (g m : Nat) (l2 : List (Value × Value)) (l3 : List (Value × Value)) (i33 : Int) := LK Tryz.prog Orc.nil ann28 (List.length (α := Nat × Blk) []) g Tryz.f28 8 m ⟨frm [(1, AV.c (C.ptr 0 0)), (3, AV.c (C.ptr 1 0)), (31, AV.c (C.d (listD 5 lineC line0 (SSta.lines s)))), (32, AV.c (C.d (D.v (Value.int IntKind.i64 (↑(List.length (SSta.lines s)) : Int))))), (33, AV.c (C.d (D.v (Value.int IntKind.i64 i33))))] 0 Tryz.f28.ntmps, [(0, Blk.cells (List.map C.d (staC s)) 27), (1, Blk.cells [C.d (D.v (Value.string (SSta.name s))), C.d (listD 1 busC e0 (SSta.buses s)), C.d (listD 5 lineC line0 (SSta.lines s)), C.d (listD 6 srcC' src0 (SSta.srcs s)), C.d (listD 12 bayC bay0 (SSta.bays s)), C.mp 2, C.mp 3] 140), (2, Blk.map 0 l2), (3, Blk.map 2 l3)], 4⟩
noncomputable def L28_13 (s : SSta) (g m : Nat) (l2 : List (Value × Value)) (l3 : List (Value × Value)) (i47 : Int) := LK Tryz.prog Orc.nil ann28 (List.length (α := Nat × Blk) []) g Tryz.f28 13 m ⟨frm [(1, AV.c (C.ptr 0 0)), (3, AV.c (C.ptr 1 0)), (45, AV.c (C.d (listD 6 srcC' src0 (SSta.srcs s)))), (46, AV.c (C.d (D.v (Value.int IntKind.i64 (↑(List.length (SSta.srcs s)) : Int))))), (47, AV.c (C.d (D.v (Value.int IntKind.i64 i47))))] 0 Tryz.f28.ntmps, [(0, Blk.cells (List.map C.d (staC s)) 27), (1, Blk.cells [C.d (D.v (Value.string (SSta.name s))), C.d (listD 1 busC e0 (SSta.buses s)), C.d (listD 5 lineC line0 (SSta.lines s)), C.d (listD 6 srcC' src0 (SSta.srcs s)), C.d (listD 12 bayC bay0 (SSta.bays s)), C.mp 2, C.mp 3] 140), (2, Blk.map 0 l2), (3, Blk.map 2 l3)], 4⟩
noncomputable def L28_18 (s : SSta) (g m : Nat) (l1 : List (Value × Value)) (l2 : List (Value × Value)) (i61 : Int) := LK Tryz.prog Orc.nil ann28 (List.length (α := Nat × Blk) []) g Tryz.f28 18 m ⟨frm [(3, AV.c (C.ptr 0 0)), (59, AV.c (C.d (listD 12 bayC bay0 (SSta.bays s)))), (60, AV.c (C.d (D.v (Value.int IntKind.i64 (↑(List.length (SSta.bays s)) : Int))))), (61, AV.c (C.d (D.v (Value.int IntKind.i64 i61))))] 0 Tryz.f28.ntmps, [(0, Blk.cells [C.d (D.v (Value.string (SSta.name s))), C.d (listD 1 busC e0 (SSta.buses s)), C.d (listD 5 lineC line0 (SSta.lines s)), C.d (listD 6 srcC' src0 (SSta.srcs s)), C.d (listD 12 bayC bay0 (SSta.bays s)), C.mp 1, C.mp 2] 140), (1, Blk.map 0 l1), (2, Blk.map 2 l2)], 3⟩
theorem b28 : Tryz.f28.body = some (bodyOf Tryz.f28) := by kernel_rfl
set_option maxRecDepth 100000 in
theorem ev28 (s : SSta) (g : Nat) : callC Tryz.prog Orc.nil ann28 g Tryz.f28 (bodyOf Tryz.f28) [aSta s] [] =
 L28_3 s g g ([]) ([]) ((0 : Int)) := by kernel_rfl
set_option maxRecDepth 100000 in
theorem st28_3 (s : SSta) (g m : Nat) (l2 : List (Value × Value)) (l3 : List (Value × Value)) (i20 : Int) : L28_3 s g (m + 1) l2 l3 i20 =
 (bif decide (i20 < (↑(List.length (SSta.buses s)) : Int)) then (bif decide ((0 : Int) ≤ i20) && decide (i20 < (↑(List.length (SSta.buses s)) : Int)) then L28_3 s g m ((Value.string
 (List.getD (SSta.buses s) (Int.toNat i20) e0), Value.bool true) :: l2) l3 (IntKind.wrap IntKind.i64 (i20 + (1 : Int))) else none) else L28_8 s g g l2 l3 ((0 : Int))) := by kernel_rfl
set_option maxRecDepth 100000 in
theorem st28_8 (s : SSta) (g m : Nat) (l2 : List (Value × Value)) (l3 : List (Value × Value)) (i33 : Int) : L28_8 s g (m + 1) l2 l3 i33 =
 (bif decide (i33 < (↑(List.length (SSta.lines s)) : Int)) then (bif decide ((0 : Int) ≤ i33) && decide (i33 < (↑(List.length (SSta.lines s)) : Int)) then L28_8 s g m ((Value.string
 (SLine.name (List.getD (SSta.lines s) (Int.toNat i33) line0)), Value.bool true) :: l2) l3 (IntKind.wrap IntKind.i64 (i33 + (1 : Int))) else none) else L28_13 s g g l2 l3 ((0 :
 Int))) := by kernel_rfl
set_option maxRecDepth 100000 in
theorem st28_13 (s : SSta) (g m : Nat) (l2 : List (Value × Value)) (l3 : List (Value × Value)) (i47 : Int) : L28_13 s g (m + 1) l2 l3 i47 =
 (bif decide (i47 < (↑(List.length (SSta.srcs s)) : Int)) then (bif decide ((0 : Int) ≤ i47) && decide (i47 < (↑(List.length (SSta.srcs s)) : Int)) then L28_13 s g m ((Value.string
 (SSrc.name (List.getD (SSta.srcs s) (Int.toNat i47) src0)), Value.bool true) :: l2) l3 (IntKind.wrap IntKind.i64 (i47 + (1 : Int))) else none) else L28_18 s g g l2 l3 ((0 : Int))) := by kernel_rfl
set_option maxRecDepth 100000 in
theorem st28_18 (s : SSta) (g m : Nat) (l1 : List (Value × Value)) (l2 : List (Value × Value)) (i61 : Int) : L28_18 s g (m + 1) l1 l2 i61 =
 (bif decide (i61 < (↑(List.length (SSta.bays s)) : Int)) then (bif decide ((0 : Int) ≤ i61) && decide (i61 < (↑(List.length (SSta.bays s)) : Int)) then L28_18 s g m ((Value.string
 (SBay.name (List.getD (SSta.bays s) (Int.toNat i61) bay0)), Value.bool true) :: l1) l2 (IntKind.wrap IntKind.i64 (i61 + (1 : Int))) else none) else some (T.leaf (AV.c (C.ptr ((0 :
 Nat)) ((0 : Nat))), [((0 : Nat), Blk.cells [C.d (D.v (Value.string (SSta.name s))), C.d (listD ((1 : Nat)) busC e0 (SSta.buses s)), C.d (listD ((5 : Nat)) lineC line0 (SSta.lines
 s)), C.d (listD ((6 : Nat)) srcC' src0 (SSta.srcs s)), C.d (listD ((12 : Nat)) bayC bay0 (SSta.bays s)), C.mp ((1 : Nat)), C.mp ((2 : Nat))] ((140 : Nat))), ((1 : Nat), Blk.map ((0
 : Nat)) l1), ((2 : Nat), Blk.map ((2 : Nat)) l2)]))) := by kernel_rfl
def HC (s : SSta) (N B : List (Value × Value)) : Hp := [(0, .cells ((staC s).map .d ++ [.mp 1, .mp 2]) 140), (1, .map 0 N), (2, .map 2 B)]
noncomputable def ann77 : Ann := annOf []
theorem b77 : Tryz.f77.body = some (bodyOf Tryz.f77) := by kernel_rfl
set_option maxRecDepth 100000 in
theorem ev77 (s : SSta) (N B : List (Value × Value)) (r : SRel) (g : Nat) : callC Tryz.prog (Orc.cons 108 (inl Tryz.prog Orc.nil na 1 Tryz.f108) Orc.nil) ann77 g Tryz.f77 (bodyOf Tryz.f77) [.c (.ptr 0 0), aRel r] (HC s N B) =
 (bif SRel.kind r == (1 : Int) then (bif decide (SRel.bay r ≥ (0 : Int)) then (bif !decide (SRel.bay r ≤ IntKind.wrap IntKind.i64 ((↑(List.length (SSta.bays s)) : Int) - (1 : Int)))
 then some (T.leaf (AV.c (C.d (D.v (Value.int IntKind.i64 (9 : Int)))), [((0 : Nat), Blk.cells [C.d (D.v (Value.string (SSta.name s))), C.d (listD ((1 : Nat)) busC e0 (SSta.buses
 s)), C.d (listD ((5 : Nat)) lineC line0 (SSta.lines s)), C.d (listD ((6 : Nat)) srcC' src0 (SSta.srcs s)), C.d (listD ((12 : Nat)) bayC bay0 (SSta.bays s)), C.mp ((1 : Nat)), C.mp
 ((2 : Nat))] ((140 : Nat))), ((1 : Nat), Blk.map ((0 : Nat)) N), ((2 : Nat), Blk.map ((2 : Nat)) B)])) else (bif decide ((0 : Int) ≤ SRel.bay r) && decide (SRel.bay r <
 (↑(List.length (SSta.bays s)) : Int)) then (bif SBay.kind (List.getD (SSta.bays s) (Int.toNat (SRel.bay r)) bay0) != (1 : Int) then some (T.leaf (AV.c (C.d (D.v (Value.int
 IntKind.i64 (9 : Int)))), [((0 : Nat), Blk.cells [C.d (D.v (Value.string (SSta.name s))), C.d (listD ((1 : Nat)) busC e0 (SSta.buses s)), C.d (listD ((5 : Nat)) lineC line0
 (SSta.lines s)), C.d (listD ((6 : Nat)) srcC' src0 (SSta.srcs s)), C.d (listD ((12 : Nat)) bayC bay0 (SSta.bays s)), C.mp ((1 : Nat)), C.mp ((2 : Nat))] ((140 : Nat))), ((1 : Nat),
 Blk.map ((0 : Nat)) N), ((2 : Nat), Blk.map ((2 : Nat)) B)])) else (bif boolOf (assoc B (Value.int IntKind.i64 (SRel.bay r))) then some (T.leaf (AV.c (C.d (D.v (Value.int
 IntKind.i64 (12 : Int)))), [((0 : Nat), Blk.cells [C.d (D.v (Value.string (SSta.name s))), C.d (listD ((1 : Nat)) busC e0 (SSta.buses s)), C.d (listD ((5 : Nat)) lineC line0
 (SSta.lines s)), C.d (listD ((6 : Nat)) srcC' src0 (SSta.srcs s)), C.d (listD ((12 : Nat)) bayC bay0 (SSta.bays s)), C.mp ((1 : Nat)), C.mp ((2 : Nat))] ((140 : Nat))), ((1 : Nat),
 Blk.map ((0 : Nat)) N), ((2 : Nat), Blk.map ((2 : Nat)) B)])) else some (T.leaf (AV.c (C.d (D.v (Value.int IntKind.i64 (0 : Int)))), [((0 : Nat), Blk.cells [C.d (D.v (Value.string
 (SSta.name s))), C.d (listD ((1 : Nat)) busC e0 (SSta.buses s)), C.d (listD ((5 : Nat)) lineC line0 (SSta.lines s)), C.d (listD ((6 : Nat)) srcC' src0 (SSta.srcs s)), C.d (listD
 ((12 : Nat)) bayC bay0 (SSta.bays s)), C.mp ((1 : Nat)), C.mp ((2 : Nat))] ((140 : Nat))), ((1 : Nat), Blk.map ((0 : Nat)) N), ((2 : Nat), Blk.map ((2 : Nat)) B)])))) else none))
 else some (T.leaf (AV.c (C.d (D.v (Value.int IntKind.i64 (9 : Int)))), [((0 : Nat), Blk.cells [C.d (D.v (Value.string (SSta.name s))), C.d (listD ((1 : Nat)) busC e0 (SSta.buses
 s)), C.d (listD ((5 : Nat)) lineC line0 (SSta.lines s)), C.d (listD ((6 : Nat)) srcC' src0 (SSta.srcs s)), C.d (listD ((12 : Nat)) bayC bay0 (SSta.bays s)), C.mp ((1 : Nat)), C.mp
 ((2 : Nat))] ((140 : Nat))), ((1 : Nat), Blk.map ((0 : Nat)) N), ((2 : Nat), Blk.map ((2 : Nat)) B)]))) else (bif SRel.kind r == (2 : Int) then (bif decide (SRel.bay r ≥ (0 : Int))
 then (bif !decide (SRel.bay r ≤ IntKind.wrap IntKind.i64 ((↑(List.length (SSta.bays s)) : Int) - (1 : Int))) then some (T.leaf (AV.c (C.d (D.v (Value.int IntKind.i64 (9 : Int)))),
 [((0 : Nat), Blk.cells [C.d (D.v (Value.string (SSta.name s))), C.d (listD ((1 : Nat)) busC e0 (SSta.buses s)), C.d (listD ((5 : Nat)) lineC line0 (SSta.lines s)), C.d (listD ((6 :
 Nat)) srcC' src0 (SSta.srcs s)), C.d (listD ((12 : Nat)) bayC bay0 (SSta.bays s)), C.mp ((1 : Nat)), C.mp ((2 : Nat))] ((140 : Nat))), ((1 : Nat), Blk.map ((0 : Nat)) N), ((2 :
 Nat), Blk.map ((2 : Nat)) B)])) else (bif decide ((0 : Int) ≤ SRel.bay r) && decide (SRel.bay r < (↑(List.length (SSta.bays s)) : Int)) then (bif SBay.kind (List.getD (SSta.bays s)
 (Int.toNat (SRel.bay r)) bay0) != (2 : Int) then some (T.leaf (AV.c (C.d (D.v (Value.int IntKind.i64 (9 : Int)))), [((0 : Nat), Blk.cells [C.d (D.v (Value.string (SSta.name s))),
 C.d (listD ((1 : Nat)) busC e0 (SSta.buses s)), C.d (listD ((5 : Nat)) lineC line0 (SSta.lines s)), C.d (listD ((6 : Nat)) srcC' src0 (SSta.srcs s)), C.d (listD ((12 : Nat)) bayC
 bay0 (SSta.bays s)), C.mp ((1 : Nat)), C.mp ((2 : Nat))] ((140 : Nat))), ((1 : Nat), Blk.map ((0 : Nat)) N), ((2 : Nat), Blk.map ((2 : Nat)) B)])) else (bif boolOf (assoc B
 (Value.int IntKind.i64 (SRel.bay r))) then some (T.leaf (AV.c (C.d (D.v (Value.int IntKind.i64 (12 : Int)))), [((0 : Nat), Blk.cells [C.d (D.v (Value.string (SSta.name s))), C.d
 (listD ((1 : Nat)) busC e0 (SSta.buses s)), C.d (listD ((5 : Nat)) lineC line0 (SSta.lines s)), C.d (listD ((6 : Nat)) srcC' src0 (SSta.srcs s)), C.d (listD ((12 : Nat)) bayC bay0
 (SSta.bays s)), C.mp ((1 : Nat)), C.mp ((2 : Nat))] ((140 : Nat))), ((1 : Nat), Blk.map ((0 : Nat)) N), ((2 : Nat), Blk.map ((2 : Nat)) B)])) else some (T.leaf (AV.c (C.d (D.v
 (Value.int IntKind.i64 (0 : Int)))), [((0 : Nat), Blk.cells [C.d (D.v (Value.string (SSta.name s))), C.d (listD ((1 : Nat)) busC e0 (SSta.buses s)), C.d (listD ((5 : Nat)) lineC
 line0 (SSta.lines s)), C.d (listD ((6 : Nat)) srcC' src0 (SSta.srcs s)), C.d (listD ((12 : Nat)) bayC bay0 (SSta.bays s)), C.mp ((1 : Nat)), C.mp ((2 : Nat))] ((140 : Nat))), ((1 :
 Nat), Blk.map ((0 : Nat)) N), ((2 : Nat), Blk.map ((2 : Nat)) B)])))) else none)) else some (T.leaf (AV.c (C.d (D.v (Value.int IntKind.i64 (9 : Int)))), [((0 : Nat), Blk.cells [C.d
 (D.v (Value.string (SSta.name s))), C.d (listD ((1 : Nat)) busC e0 (SSta.buses s)), C.d (listD ((5 : Nat)) lineC line0 (SSta.lines s)), C.d (listD ((6 : Nat)) srcC' src0 (SSta.srcs
 s)), C.d (listD ((12 : Nat)) bayC bay0 (SSta.bays s)), C.mp ((1 : Nat)), C.mp ((2 : Nat))] ((140 : Nat))), ((1 : Nat), Blk.map ((0 : Nat)) N), ((2 : Nat), Blk.map ((2 : Nat)) B)])))
 else (bif SRel.kind r == (3 : Int) then (bif decide (SRel.bay r ≥ (0 : Int)) then (bif !decide (SRel.bay r ≤ IntKind.wrap IntKind.i64 ((↑(List.length (SSta.bays s)) : Int) - (1 :
 Int))) then some (T.leaf (AV.c (C.d (D.v (Value.int IntKind.i64 (9 : Int)))), [((0 : Nat), Blk.cells [C.d (D.v (Value.string (SSta.name s))), C.d (listD ((1 : Nat)) busC e0
 (SSta.buses s)), C.d (listD ((5 : Nat)) lineC line0 (SSta.lines s)), C.d (listD ((6 : Nat)) srcC' src0 (SSta.srcs s)), C.d (listD ((12 : Nat)) bayC bay0 (SSta.bays s)), C.mp ((1 :
 Nat)), C.mp ((2 : Nat))] ((140 : Nat))), ((1 : Nat), Blk.map ((0 : Nat)) N), ((2 : Nat), Blk.map ((2 : Nat)) B)])) else (bif decide ((0 : Int) ≤ SRel.bay r) && decide (SRel.bay r <
 (↑(List.length (SSta.bays s)) : Int)) then (bif SBay.kind (List.getD (SSta.bays s) (Int.toNat (SRel.bay r)) bay0) != (3 : Int) then some (T.leaf (AV.c (C.d (D.v (Value.int
 IntKind.i64 (9 : Int)))), [((0 : Nat), Blk.cells [C.d (D.v (Value.string (SSta.name s))), C.d (listD ((1 : Nat)) busC e0 (SSta.buses s)), C.d (listD ((5 : Nat)) lineC line0
 (SSta.lines s)), C.d (listD ((6 : Nat)) srcC' src0 (SSta.srcs s)), C.d (listD ((12 : Nat)) bayC bay0 (SSta.bays s)), C.mp ((1 : Nat)), C.mp ((2 : Nat))] ((140 : Nat))), ((1 : Nat),
 Blk.map ((0 : Nat)) N), ((2 : Nat), Blk.map ((2 : Nat)) B)])) else (bif boolOf (assoc B (Value.int IntKind.i64 (SRel.bay r))) then some (T.leaf (AV.c (C.d (D.v (Value.int
 IntKind.i64 (12 : Int)))), [((0 : Nat), Blk.cells [C.d (D.v (Value.string (SSta.name s))), C.d (listD ((1 : Nat)) busC e0 (SSta.buses s)), C.d (listD ((5 : Nat)) lineC line0
 (SSta.lines s)), C.d (listD ((6 : Nat)) srcC' src0 (SSta.srcs s)), C.d (listD ((12 : Nat)) bayC bay0 (SSta.bays s)), C.mp ((1 : Nat)), C.mp ((2 : Nat))] ((140 : Nat))), ((1 : Nat),
 Blk.map ((0 : Nat)) N), ((2 : Nat), Blk.map ((2 : Nat)) B)])) else some (T.leaf (AV.c (C.d (D.v (Value.int IntKind.i64 (0 : Int)))), [((0 : Nat), Blk.cells [C.d (D.v (Value.string
 (SSta.name s))), C.d (listD ((1 : Nat)) busC e0 (SSta.buses s)), C.d (listD ((5 : Nat)) lineC line0 (SSta.lines s)), C.d (listD ((6 : Nat)) srcC' src0 (SSta.srcs s)), C.d (listD
 ((12 : Nat)) bayC bay0 (SSta.bays s)), C.mp ((1 : Nat)), C.mp ((2 : Nat))] ((140 : Nat))), ((1 : Nat), Blk.map ((0 : Nat)) N), ((2 : Nat), Blk.map ((2 : Nat)) B)])))) else none))
 else some (T.leaf (AV.c (C.d (D.v (Value.int IntKind.i64 (9 : Int)))), [((0 : Nat), Blk.cells [C.d (D.v (Value.string (SSta.name s))), C.d (listD ((1 : Nat)) busC e0 (SSta.buses
 s)), C.d (listD ((5 : Nat)) lineC line0 (SSta.lines s)), C.d (listD ((6 : Nat)) srcC' src0 (SSta.srcs s)), C.d (listD ((12 : Nat)) bayC bay0 (SSta.bays s)), C.mp ((1 : Nat)), C.mp
 ((2 : Nat))] ((140 : Nat))), ((1 : Nat), Blk.map ((0 : Nat)) N), ((2 : Nat), Blk.map ((2 : Nat)) B)]))) else (bif SRel.kind r == (4 : Int) then (bif SRel.bay r != (-1 : Int) then
 some (T.leaf (AV.c (C.d (D.v (Value.int IntKind.i64 (9 : Int)))), [((0 : Nat), Blk.cells [C.d (D.v (Value.string (SSta.name s))), C.d (listD ((1 : Nat)) busC e0 (SSta.buses s)), C.d
 (listD ((5 : Nat)) lineC line0 (SSta.lines s)), C.d (listD ((6 : Nat)) srcC' src0 (SSta.srcs s)), C.d (listD ((12 : Nat)) bayC bay0 (SSta.bays s)), C.mp ((1 : Nat)), C.mp ((2 :
 Nat))] ((140 : Nat))), ((1 : Nat), Blk.map ((0 : Nat)) N), ((2 : Nat), Blk.map ((2 : Nat)) B)])) else (bif boolOf (assoc B (Value.int IntKind.i64 (SRel.bay r))) then some (T.leaf
 (AV.c (C.d (D.v (Value.int IntKind.i64 (12 : Int)))), [((0 : Nat), Blk.cells [C.d (D.v (Value.string (SSta.name s))), C.d (listD ((1 : Nat)) busC e0 (SSta.buses s)), C.d (listD ((5
 : Nat)) lineC line0 (SSta.lines s)), C.d (listD ((6 : Nat)) srcC' src0 (SSta.srcs s)), C.d (listD ((12 : Nat)) bayC bay0 (SSta.bays s)), C.mp ((1 : Nat)), C.mp ((2 : Nat))] ((140 :
 Nat))), ((1 : Nat), Blk.map ((0 : Nat)) N), ((2 : Nat), Blk.map ((2 : Nat)) B)])) else some (T.leaf (AV.c (C.d (D.v (Value.int IntKind.i64 (0 : Int)))), [((0 : Nat), Blk.cells [C.d
 (D.v (Value.string (SSta.name s))), C.d (listD ((1 : Nat)) busC e0 (SSta.buses s)), C.d (listD ((5 : Nat)) lineC line0 (SSta.lines s)), C.d (listD ((6 : Nat)) srcC' src0 (SSta.srcs
 s)), C.d (listD ((12 : Nat)) bayC bay0 (SSta.bays s)), C.mp ((1 : Nat)), C.mp ((2 : Nat))] ((140 : Nat))), ((1 : Nat), Blk.map ((0 : Nat)) N), ((2 : Nat), Blk.map ((2 : Nat))
 B)])))) else some (T.leaf (AV.c (C.d (D.v (Value.int IntKind.i64 (10 : Int)))), [((0 : Nat), Blk.cells [C.d (D.v (Value.string (SSta.name s))), C.d (listD ((1 : Nat)) busC e0
 (SSta.buses s)), C.d (listD ((5 : Nat)) lineC line0 (SSta.lines s)), C.d (listD ((6 : Nat)) srcC' src0 (SSta.srcs s)), C.d (listD ((12 : Nat)) bayC bay0 (SSta.bays s)), C.mp ((1 :
 Nat)), C.mp ((2 : Nat))] ((140 : Nat))), ((1 : Nat), Blk.map ((0 : Nat)) N), ((2 : Nat), Blk.map ((2 : Nat)) B)])))))) := by kernel_rfl
structure K32 where
  okr : List AV → Bool
  us : List AV → Bool
  di : List AV → Bool
  sc : List AV → Bool
  el : List AV → Bool
  ot : List AV → Bool
  zo : List AV → Bool
  ct : List AV → Bool
  ls : List AV → Int
  okp : List AV → Hp → Bool
  pl : List AV → Hp → Int
noncomputable def o32 (Z : K32) (s : SSta) (N B : List (Value × Value)) : Orc := oN nameOk (Orc.cons 77 (ansM Z.okp (fun x H => vI (Z.pl x H)) fun _ _ => HC s N B) (Orc.cons 78 (ansG Z.okr fun x => vB (Z.us x)) (Orc.cons 79 (ansG Z.okr fun x => vB (Z.di x)) (Orc.cons 80 (ansG Z.okr fun x => vB (Z.sc x)) (Orc.cons 81 (ansG Z.okr fun x => vB (Z.el x))
  (Orc.cons 82 (ansG Z.okr fun x => vB (Z.ot x)) (Orc.cons 83 (ansG Z.okr fun x => vB (Z.zo x)) (Orc.cons 84 (ansG Z.okr fun x => vB (Z.ct x)) (Orc.cons 85 (ansG Z.okr fun x => vI (Z.ls x)) Orc.nil)))))))))
noncomputable def ann32 : Ann := annOf []
theorem b32 : Tryz.f32.body = some (bodyOf Tryz.f32) := by kernel_rfl
set_option maxRecDepth 100000 in
theorem ev32 (Z : K32) (s : SSta) (N B : List (Value × Value)) (r : SRel) (g : Nat) : callC Tryz.prog (o32 Z s N B) ann32 g Tryz.f32 (bodyOf Tryz.f32) [.c (.ptr 0 0), aRel r] (HC s N B) =
 (bif !nameOk (SRel.name r) then some (T.leaf (AV.c (C.d (D.v (Value.int IntKind.i64 (7 : Int)))), [((0 : Nat), Blk.cells [C.d (D.v (Value.string (SSta.name s))), C.d (listD ((1 :
 Nat)) busC e0 (SSta.buses s)), C.d (listD ((5 : Nat)) lineC line0 (SSta.lines s)), C.d (listD ((6 : Nat)) srcC' src0 (SSta.srcs s)), C.d (listD ((12 : Nat)) bayC bay0 (SSta.bays
 s)), C.mp ((1 : Nat)), C.mp ((2 : Nat))] ((140 : Nat))), ((1 : Nat), Blk.map ((0 : Nat)) N), ((2 : Nat), Blk.map ((2 : Nat)) B)])) else (bif boolOf (assoc N (Value.string (SRel.name
 r))) then some (T.leaf (AV.c (C.d (D.v (Value.int IntKind.i64 (8 : Int)))), [((0 : Nat), Blk.cells [C.d (D.v (Value.string (SSta.name s))), C.d (listD ((1 : Nat)) busC e0
 (SSta.buses s)), C.d (listD ((5 : Nat)) lineC line0 (SSta.lines s)), C.d (listD ((6 : Nat)) srcC' src0 (SSta.srcs s)), C.d (listD ((12 : Nat)) bayC bay0 (SSta.bays s)), C.mp ((1 :
 Nat)), C.mp ((2 : Nat))] ((140 : Nat))), ((1 : Nat), Blk.map ((0 : Nat)) N), ((2 : Nat), Blk.map ((2 : Nat)) B)])) else (bif K32.okp Z [AV.c (C.ptr ((0 : Nat)) ((0 : Nat))), AV.agg
 (List.map C.d (relC r))] [((0 : Nat), Blk.cells [C.d (D.v (Value.string (SSta.name s))), C.d (listD ((1 : Nat)) busC e0 (SSta.buses s)), C.d (listD ((5 : Nat)) lineC line0
 (SSta.lines s)), C.d (listD ((6 : Nat)) srcC' src0 (SSta.srcs s)), C.d (listD ((12 : Nat)) bayC bay0 (SSta.bays s)), C.mp ((1 : Nat)), C.mp ((2 : Nat))] ((140 : Nat))), ((1 : Nat),
 Blk.map ((0 : Nat)) N), ((2 : Nat), Blk.map ((2 : Nat)) B)] then (bif K32.pl Z [AV.c (C.ptr ((0 : Nat)) ((0 : Nat))), AV.agg (List.map C.d (relC r))] [((0 : Nat), Blk.cells [C.d
 (D.v (Value.string (SSta.name s))), C.d (listD ((1 : Nat)) busC e0 (SSta.buses s)), C.d (listD ((5 : Nat)) lineC line0 (SSta.lines s)), C.d (listD ((6 : Nat)) srcC' src0 (SSta.srcs
 s)), C.d (listD ((12 : Nat)) bayC bay0 (SSta.bays s)), C.mp ((1 : Nat)), C.mp ((2 : Nat))] ((140 : Nat))), ((1 : Nat), Blk.map ((0 : Nat)) N), ((2 : Nat), Blk.map ((2 : Nat)) B)] !=
 (0 : Int) then some (T.leaf (AV.c (C.d (D.v (Value.int IntKind.i64 (K32.pl Z [AV.c (C.ptr ((0 : Nat)) ((0 : Nat))), AV.agg (List.map C.d (relC r))] [((0 : Nat), Blk.cells [C.d (D.v
 (Value.string (SSta.name s))), C.d (listD ((1 : Nat)) busC e0 (SSta.buses s)), C.d (listD ((5 : Nat)) lineC line0 (SSta.lines s)), C.d (listD ((6 : Nat)) srcC' src0 (SSta.srcs s)),
 C.d (listD ((12 : Nat)) bayC bay0 (SSta.bays s)), C.mp ((1 : Nat)), C.mp ((2 : Nat))] ((140 : Nat))), ((1 : Nat), Blk.map ((0 : Nat)) N), ((2 : Nat), Blk.map ((2 : Nat)) B)])))),
 [((0 : Nat), Blk.cells [C.d (D.v (Value.string (SSta.name s))), C.d (listD ((1 : Nat)) busC e0 (SSta.buses s)), C.d (listD ((5 : Nat)) lineC line0 (SSta.lines s)), C.d (listD ((6 :
 Nat)) srcC' src0 (SSta.srcs s)), C.d (listD ((12 : Nat)) bayC bay0 (SSta.bays s)), C.mp ((1 : Nat)), C.mp ((2 : Nat))] ((140 : Nat))), ((1 : Nat), Blk.map ((0 : Nat)) N), ((2 :
 Nat), Blk.map ((2 : Nat)) B)])) else (bif K32.okr Z [AV.agg (List.map C.d (relC r))] then (bif !K32.us Z [AV.agg (List.map C.d (relC r))] then some (T.leaf (AV.c (C.d (D.v
 (Value.int IntKind.i64 (12 : Int)))), [((0 : Nat), Blk.cells [C.d (D.v (Value.string (SSta.name s))), C.d (listD ((1 : Nat)) busC e0 (SSta.buses s)), C.d (listD ((5 : Nat)) lineC
 line0 (SSta.lines s)), C.d (listD ((6 : Nat)) srcC' src0 (SSta.srcs s)), C.d (listD ((12 : Nat)) bayC bay0 (SSta.bays s)), C.mp ((1 : Nat)), C.mp ((2 : Nat))] ((140 : Nat))), ((1 :
 Nat), Blk.map ((0 : Nat)) N), ((2 : Nat), Blk.map ((2 : Nat)) B)])) else (bif K32.okr Z [AV.agg (List.map C.d (relC r))] then (bif !K32.di Z [AV.agg (List.map C.d (relC r))] then
 some (T.leaf (AV.c (C.d (D.v (Value.int IntKind.i64 (2 : Int)))), [((0 : Nat), Blk.cells [C.d (D.v (Value.string (SSta.name s))), C.d (listD ((1 : Nat)) busC e0 (SSta.buses s)), C.d
 (listD ((5 : Nat)) lineC line0 (SSta.lines s)), C.d (listD ((6 : Nat)) srcC' src0 (SSta.srcs s)), C.d (listD ((12 : Nat)) bayC bay0 (SSta.bays s)), C.mp ((1 : Nat)), C.mp ((2 :
 Nat))] ((140 : Nat))), ((1 : Nat), Blk.map ((0 : Nat)) N), ((2 : Nat), Blk.map ((2 : Nat)) B)])) else (bif K32.okr Z [AV.agg (List.map C.d (relC r))] then (bif !K32.sc Z [AV.agg
 (List.map C.d (relC r))] then some (T.leaf (AV.c (C.d (D.v (Value.int IntKind.i64 (2 : Int)))), [((0 : Nat), Blk.cells [C.d (D.v (Value.string (SSta.name s))), C.d (listD ((1 :
 Nat)) busC e0 (SSta.buses s)), C.d (listD ((5 : Nat)) lineC line0 (SSta.lines s)), C.d (listD ((6 : Nat)) srcC' src0 (SSta.srcs s)), C.d (listD ((12 : Nat)) bayC bay0 (SSta.bays
 s)), C.mp ((1 : Nat)), C.mp ((2 : Nat))] ((140 : Nat))), ((1 : Nat), Blk.map ((0 : Nat)) N), ((2 : Nat), Blk.map ((2 : Nat)) B)])) else (bif K32.okr Z [AV.agg (List.map C.d (relC
 r))] then (bif !K32.el Z [AV.agg (List.map C.d (relC r))] then some (T.leaf (AV.c (C.d (D.v (Value.int IntKind.i64 (2 : Int)))), [((0 : Nat), Blk.cells [C.d (D.v (Value.string
 (SSta.name s))), C.d (listD ((1 : Nat)) busC e0 (SSta.buses s)), C.d (listD ((5 : Nat)) lineC line0 (SSta.lines s)), C.d (listD ((6 : Nat)) srcC' src0 (SSta.srcs s)), C.d (listD
 ((12 : Nat)) bayC bay0 (SSta.bays s)), C.mp ((1 : Nat)), C.mp ((2 : Nat))] ((140 : Nat))), ((1 : Nat), Blk.map ((0 : Nat)) N), ((2 : Nat), Blk.map ((2 : Nat)) B)])) else (bif
 K32.okr Z [AV.agg (List.map C.d (relC r))] then (bif !K32.ot Z [AV.agg (List.map C.d (relC r))] then some (T.leaf (AV.c (C.d (D.v (Value.int IntKind.i64 (2 : Int)))), [((0 : Nat),
 Blk.cells [C.d (D.v (Value.string (SSta.name s))), C.d (listD ((1 : Nat)) busC e0 (SSta.buses s)), C.d (listD ((5 : Nat)) lineC line0 (SSta.lines s)), C.d (listD ((6 : Nat)) srcC'
 src0 (SSta.srcs s)), C.d (listD ((12 : Nat)) bayC bay0 (SSta.bays s)), C.mp ((1 : Nat)), C.mp ((2 : Nat))] ((140 : Nat))), ((1 : Nat), Blk.map ((0 : Nat)) N), ((2 : Nat), Blk.map
 ((2 : Nat)) B)])) else (bif K32.okr Z [AV.agg (List.map C.d (relC r))] then (bif !K32.zo Z [AV.agg (List.map C.d (relC r))] then some (T.leaf (AV.c (C.d (D.v (Value.int IntKind.i64
 (11 : Int)))), [((0 : Nat), Blk.cells [C.d (D.v (Value.string (SSta.name s))), C.d (listD ((1 : Nat)) busC e0 (SSta.buses s)), C.d (listD ((5 : Nat)) lineC line0 (SSta.lines s)),
 C.d (listD ((6 : Nat)) srcC' src0 (SSta.srcs s)), C.d (listD ((12 : Nat)) bayC bay0 (SSta.bays s)), C.mp ((1 : Nat)), C.mp ((2 : Nat))] ((140 : Nat))), ((1 : Nat), Blk.map ((0 :
 Nat)) N), ((2 : Nat), Blk.map ((2 : Nat)) B)])) else (bif K32.okr Z [AV.agg (List.map C.d (relC r))] then (bif !K32.ct Z [AV.agg (List.map C.d (relC r))] then some (T.leaf (AV.c
 (C.d (D.v (Value.int IntKind.i64 (3 : Int)))), [((0 : Nat), Blk.cells [C.d (D.v (Value.string (SSta.name s))), C.d (listD ((1 : Nat)) busC e0 (SSta.buses s)), C.d (listD ((5 : Nat))
 lineC line0 (SSta.lines s)), C.d (listD ((6 : Nat)) srcC' src0 (SSta.srcs s)), C.d (listD ((12 : Nat)) bayC bay0 (SSta.bays s)), C.mp ((1 : Nat)), C.mp ((2 : Nat))] ((140 : Nat))),
 ((1 : Nat), Blk.map ((0 : Nat)) N), ((2 : Nat), Blk.map ((2 : Nat)) B)])) else (bif K32.okr Z [AV.agg (List.map C.d (relC r))] then (bif K32.ls Z [AV.agg (List.map C.d (relC r))] !=
 (0 : Int) then some (T.leaf (AV.c (C.d (D.v (Value.int IntKind.i64 (K32.ls Z [AV.agg (List.map C.d (relC r))])))), [((0 : Nat), Blk.cells [C.d (D.v (Value.string (SSta.name s))),
 C.d (listD ((1 : Nat)) busC e0 (SSta.buses s)), C.d (listD ((5 : Nat)) lineC line0 (SSta.lines s)), C.d (listD ((6 : Nat)) srcC' src0 (SSta.srcs s)), C.d (listD ((12 : Nat)) bayC
 bay0 (SSta.bays s)), C.mp ((1 : Nat)), C.mp ((2 : Nat))] ((140 : Nat))), ((1 : Nat), Blk.map ((0 : Nat)) N), ((2 : Nat), Blk.map ((2 : Nat)) B)])) else some (T.leaf (AV.c (C.d (D.v
 (Value.int IntKind.i64 (0 : Int)))), [((0 : Nat), Blk.cells [C.d (D.v (Value.string (SSta.name s))), C.d (listD ((1 : Nat)) busC e0 (SSta.buses s)), C.d (listD ((5 : Nat)) lineC
 line0 (SSta.lines s)), C.d (listD ((6 : Nat)) srcC' src0 (SSta.srcs s)), C.d (listD ((12 : Nat)) bayC bay0 (SSta.bays s)), C.mp ((1 : Nat)), C.mp ((2 : Nat))] ((140 : Nat))), ((1 :
 Nat), Blk.map ((0 : Nat)) ((Value.string (SRel.name r), Value.bool true) :: N)), ((2 : Nat), Blk.map ((2 : Nat)) ((Value.int IntKind.i64 (SRel.bay r), Value.bool true) :: B))])))
 else none)) else none)) else none)) else none)) else none)) else none)) else none)) else none)) else none))) := by kernel_rfl
end Go.Proofs.YtngoglhlhlfknaaGreat.se
namespace Go.Proofs.YtngoglhlhlfknaaGreat.se
open Go.RowKit Go.Eb Go.Proofs.YtngoglhlhlfknaaGreat.st
set_option maxRecDepth 100000

theorem c28 (s : SSta) (hs : okSta s = true) : CX Tryz.prog 28 [aSta s] [] (.c (.ptr 0 0)) (HC s (mapOf (namesS s)) []) := by
  obtain ⟨a1, a2, a3, a4, _⟩ := okSta_len hs
  obtain ⟨g, g1, g2, g3, g4⟩ : ∃ g, s.buses.length < g ∧ s.lines.length < g ∧ s.srcs.length < g ∧ s.bays.length < g := ⟨s.buses.length + s.lines.length + s.srcs.length + s.bays.length + 1, by omega⟩
  refine cx_of (Orc.nil_ok _) Tryz.func28 b28 rfl ((ev28 s g).trans ?_)
  have l4 := fun N => name_loop (nm := SBay.name) (d0 := bay0) (l := s.bays) (L := fun m mp i => L28_18 s g m mp [] i) (NX := fun mp => some (.leaf (.c (.ptr 0 0), HC s mp []))) (fun m k N hk => by
    rw [st28_18, lt1 hk, ge0, tn, nx hk a4, mapOf_app]; simp only [tt, cond_true]) (fun m mp => by rw [st28_18, lt0 (Nat.lt_irrefl _)]; rfl) g 0 N (by omega) (by omega)
  have l3 := fun N => name_loop (nm := SSrc.name) (d0 := src0) (l := s.srcs) (L := fun m mp i => L28_13 s g m mp [] i) (NX := fun mp => L28_18 s g g mp [] 0) (fun m k N hk => by
    rw [st28_13, lt1 hk, ge0, tn, nx hk a3, mapOf_app]; simp only [tt, cond_true]) (fun m mp => by rw [st28_13, lt0 (Nat.lt_irrefl _)]; simp only [cond_false]) g 0 N (by omega) (by omega)
  have l2 := fun N => name_loop (nm := SLine.name) (d0 := line0) (l := s.lines) (L := fun m mp i => L28_8 s g m mp [] i) (NX := fun mp => L28_13 s g g mp [] 0) (fun m k N hk => by
    rw [st28_8, lt1 hk, ge0, tn, nx hk a2, mapOf_app]; simp only [tt, cond_true]) (fun m mp => by rw [st28_8, lt0 (Nat.lt_irrefl _)]; simp only [cond_false]) g 0 N (by omega) (by omega)
  have l1 := fun N => name_loop (nm := id) (d0 := e0) (l := s.buses) (L := fun m mp i => L28_3 s g m mp [] i) (NX := fun mp => L28_8 s g g mp [] 0) (fun m k N hk => by
    rw [st28_3, lt1 hk, ge0, tn, nx hk a1, mapOf_app]; simp only [tt, cond_true, id]) (fun m mp => by rw [st28_3, lt0 (Nat.lt_irrefl _)]; simp only [cond_false]) g 0 N (by omega) (by omega)
  have e := l1 []
  simp only [List.drop_zero, List.map_id, List.nil_append] at e l2 l3 l4
  have e' : L28_3 s g g [] [] 0 = L28_8 s g g (mapOf s.buses) [] 0 := e
  have f2 : L28_8 s g g (mapOf s.buses) [] 0 = L28_13 s g g (mapOf (s.buses ++ s.lines.map SLine.name)) [] 0 := l2 s.buses
  have f3 := l3 (s.buses ++ s.lines.map SLine.name)
  have f4 := l4 (s.buses ++ s.lines.map SLine.name ++ s.srcs.map SSrc.name)
  refine e'.trans (f2.trans (Eq.trans f3 (Eq.trans f4 ?_)))
  unfold namesS
  simp only [List.append_assoc]

/-! place -/
def seenB (B : List Int) (n : Int) : Int := bif B.any fun m => n == m then 12 else 0
def placeK (bays : List SBay) (B : List Int) (r : SRel) (k : Int) : Int := bif !within r.bay 0 ((bays.length : Int) - 1) then 9 else bif (bays.getD r.bay.toNat bay0).kind != k then 9 else seenB B r.bay
def placeErr (bays : List SBay) (B : List Int) (r : SRel) : Int :=
  bif r.kind == 1 then placeK bays B r 1 else bif r.kind == 2 then placeK bays B r 2 else bif r.kind == 3 then placeK bays B r 3 else bif r.kind == 4 then (bif r.bay != -1 then 9 else seenB B r.bay) else 10
theorem place_k {β : Type} (X : Int → Option β) (n len : Int) (kb sn : Bool) : (bif decide (n ≥ 0) then (bif !decide (n ≤ len - 1) then X 9 else (bif decide (0 ≤ n) && decide (n < len) then (bif kb then X 9 else (bif sn then X 12 else X 0)) else none)) else X 9) = X (bif !within n 0 (len - 1) then 9 else bif kb then 9 else bif sn then 12 else 0) := by
  unfold within
  by_cases h1 : n ≥ 0
  · by_cases h2 : n ≤ len - 1
    · have h3 : n < len := by omega
      have h4 : (0 : Int) ≤ n := h1
      simp only [h2, h3, h4, ge_iff_le, decide_true, Bool.not_true, Bool.and_self, cond_true, cond_false]
      cases kb <;> cases sn <;> rfl
    · have h4 : (0 : Int) ≤ n := h1
      simp only [h2, h4, ge_iff_le, decide_true, decide_false, Bool.not_false, Bool.and_false, cond_true]
  · have h4 : ¬ (0 : Int) ≤ n := h1
    simp only [h4, ge_iff_le, decide_false, Bool.not_false, Bool.false_and, cond_true, cond_false]
theorem c77 (s : SSta) (N : List (Value × Value)) (B : List Int) (r : SRel) (hb : s.bays.length ≤ 9223372036854775807) : CX Tryz.prog 77 [.c (.ptr 0 0), aRel r] (HC s N (mapIn B)) (vI (placeErr s.bays B r)) (HC s N (mapIn B)) := by
  refine cx_of sWi.ok Tryz.func77 b77 rfl ((ev77 s N (mapIn B) r 1).trans ?_)
  have w : IntKind.wrap IntKind.i64 ((s.bays.length : Int) - 1) = (s.bays.length : Int) - 1 := wrap_id (by omega) (by omega)
  rw [w, assoc_mapIn]
  have key : ∀ (kb sn : Bool), _ := fun kb sn => place_k (fun n => some (T.leaf (vI n, HC s N (mapIn B)))) r.bay s.bays.length kb sn
  unfold placeErr
  cases (r.kind == 1) with
  | true => exact key _ _
  | false =>
    cases (r.kind == 2) with
    | true => exact key _ _
    | false =>
      cases (r.kind == 3) with
      | true => exact key _ _
      | false =>
        cases (r.kind == 4) with
        | false => rfl
        | true =>
          unfold seenB
          cases (r.bay != -1) with
          | true => rfl
          | false => cases (B.any fun m => r.bay == m) <;> rfl

/-! add -/
noncomputable def restErr (r : SRel) : Int := bif !ev78_v r then 12 else bif !ev79_v r then 2 else bif !ev80_v r then 2 else bif !ev81_v r then 2 else bif !ev82_v r then 2 else bif !ev83_v r then 11 else bif !countsOk r then 3 else eLists r
noncomputable def addErr (bays : List SBay) (N : List ByteArray) (B : List Int) (r : SRel) : Int := bif !nameOk r.name then 7 else bif inB N r.name then 8 else bif placeErr bays B r != 0 then placeErr bays B r else restErr r
def eP (s : SSta) (a : List ByteArray × List Int × SRel) : List AV × Hp := ([.c (.ptr 0 0), aRel a.2.2], HC s (mapOf a.1) (mapIn a.2.1))
theorem eP_inj (s : SSta) : InjY (eP s) := fun a b h1 h2 => by
  obtain ⟨n, i, r⟩ := a
  obtain ⟨n', i', r'⟩ := b
  have e1 : r = r' := aRel_inj _ _ (asle_cons (asle_cons h1).2).1
  have e2 := mapOf_inj (ble_map (hle_look h2 1 (a := .map 0 (mapOf n)) (b := .map 0 (mapOf n')) rfl rfl))
  have e3 := mapIn_inj (ble_map (hle_look h2 2 (a := .map 2 (mapIn i)) (b := .map 2 (mapIn i')) rfl rfl))
  rw [e1, e2, e3]
def eQ (s : SSta) (n : List ByteArray) (b : List Int) (r : SRel) : List AV × Hp := ([.c (.ptr 0 0), aRel r], HC s (mapOf n) (mapIn b))
theorem eQ_inj (s : SSta) (n : List ByteArray) (b : List Int) : InjY (eQ s n b) := fun x y h1 _ => aRel_inj _ _ (asle_cons (asle_cons h1).2).1
abbrev eR := en1 aRel
theorem eR_inj : InjT eR := en1_inj aRel_inj
noncomputable def Z32 (s : SSta) (n : List ByteArray) (b : List Int) : K32 where
  okr := okG eR okRel
  us x := ev78_v (theT eR x)
  di x := ev79_v (theT eR x)
  sc x := ev80_v (theT eR x)
  el x := ev81_v (theT eR x)
  ot x := ev82_v (theT eR x)
  zo x := ev83_v (theT eR x)
  ct x := countsOk (theT eR x)
  ls x := eLists (theT eR x)
  okp := okZ (eQ s n b) fun _ => true
  pl x H := placeErr s.bays b (theY (eQ s n b) x H)
theorem s32 (s : SSta) (n : List ByteArray) (b : List Int) (hb : s.bays.length ≤ 9223372036854775807) : OrcS Tryz.prog (o32 (Z32 s n b) s (mapOf n) (mapIn b)) := by
  refine sN (.cons (.m (enc := eQ s n b) (c := fun _ => true) (r := fun r => vI (placeErr s.bays b r)) (H' := fun _ => HC s (mapOf n) (mapIn b)) fun r _ => c77 s (mapOf n) b r hb) ?_)
  exact .cons (.t' (r := fun a => vB (ev78_v a)) fun a _ => c78 a) (.cons (.t' (r := fun a => vB (ev79_v a)) fun a _ => c79 a) (.cons (.t' (r := fun a => vB (ev80_v a)) fun a _ => c80 a) (.cons (.t' (r := fun a => vB (ev81_v a)) fun a _ => c81 a)
    (.cons (.t' (r := fun a => vB (ev82_v a)) fun a _ => c82 a) (.cons (.t' (r := fun a => vB (ev83_v a)) fun a _ => c83 a) (.cons (.t' (r := fun a => vB (countsOk a)) fun a h => c84 a h) (.cons (.t' (r := fun a => vI (eLists a)) fun a h => c85 a h) .nil)))))))
/-- what is remembered -/
noncomputable def addN (bays : List SBay) (N : List ByteArray) (B : List Int) (r : SRel) : List ByteArray := bif addErr bays N B r != 0 then N else N ++ [r.name]
noncomputable def addB (bays : List SBay) (N : List ByteArray) (B : List Int) (r : SRel) : List Int := bif addErr bays N B r != 0 then B else B ++ [r.bay]
theorem c32 (s : SSta) (N : List ByteArray) (B : List Int) (r : SRel) (hs : s.bays.length ≤ 9223372036854775807) (hr : okRel r = true) :
    CX Tryz.prog 32 [.c (.ptr 0 0), aRel r] (HC s (mapOf N) (mapIn B)) (vI (addErr s.bays N B r)) (HC s (mapOf (addN s.bays N B r)) (mapIn (addB s.bays N B r))) := by
  refine cx_of (s32 s N B hs).ok Tryz.func32 b32 rfl ((ev32 (Z32 s N B) s (mapOf N) (mapIn B) r 1).trans ?_)
  have k1 : (Z32 s N B).okp [.c (.ptr 0 0), aRel r] (HC s (mapOf N) (mapIn B)) = true := okZ_enc (eQ_inj s N B) (c := fun _ => true) r rfl
  have k2 : (Z32 s N B).pl [.c (.ptr 0 0), aRel r] (HC s (mapOf N) (mapIn B)) = placeErr s.bays B r := congrArg (placeErr s.bays B) (theY_enc (eQ_inj s N B) r)
  have k3 : (Z32 s N B).okr [aRel r] = true := okG_enc eR_inj (c := okRel) r hr
  have t := theT_enc eR_inj r
  have k4 : (Z32 s N B).us [aRel r] = ev78_v r := congrArg ev78_v t
  have k5 : (Z32 s N B).di [aRel r] = ev79_v r := congrArg ev79_v t
  have k6 : (Z32 s N B).sc [aRel r] = ev80_v r := congrArg ev80_v t
  have k7 : (Z32 s N B).el [aRel r] = ev81_v r := congrArg ev81_v t
  have k8 : (Z32 s N B).ot [aRel r] = ev82_v r := congrArg ev82_v t
  have k9 : (Z32 s N B).zo [aRel r] = ev83_v r := congrArg ev83_v t
  have k10 : (Z32 s N B).ct [aRel r] = countsOk r := congrArg countsOk t
  have k11 : (Z32 s N B).ls [aRel r] = eLists r := congrArg eLists t
  unfold HC at k1 k2
  simp only [staC, List.map_cons, List.map_nil, List.cons_append, List.nil_append] at k1 k2
  rw [k1, k2, k3, k4, k5, k6, k7, k8, k9, k10, k11, assocN]
  unfold addN addB
  unfold addErr
  cases nameOk r.name with
  | false => rfl
  | true =>
    cases inB N r.name with
    | true => rfl
    | false =>
      cases hp : (placeErr s.bays B r != 0) with
      | true => simp only [Bool.not_true, cond_false, cond_true, hp]; rfl
      | false =>
        unfold restErr
        cases ev78_v r with
        | false => rfl
        | true =>
          cases ev79_v r with
          | false => rfl
          | true =>
            cases ev80_v r with
            | false => rfl
            | true =>
              cases ev81_v r with
              | false => rfl
              | true =>
                cases ev82_v r with
                | false => rfl
                | true =>
                  cases ev83_v r with
                  | false => rfl
                  | true =>
                    cases countsOk r with
                    | false => rfl
                    | true =>
                      cases hl : (eLists r != 0) with
                      | true => simp only [Bool.not_true, cond_false, cond_true, hl]; rfl
                      | false =>
                        have e0 : eLists r = 0 := by simpa using hl
                        have z0 : ((0 : Int) != 0) = false := rfl
                        simp only [Bool.not_true, cond_false, cond_true, e0, z0, mapOf_app, mapIn_app]; rfl
end Go.Proofs.YtngoglhlhlfknaaGreat.se
namespace Go.Proofs.YtngoglhlhlfknaaGreat.se
open Go.RowKit Go.Eb Go.Proofs.YtngoglhlhlfknaaGreat.st
set_option maxRecDepth 100000

structure K13 where
  okS : List AV → Bool
  chk : List AV → Int
  okn : List AV → Hp → Bool
  n0 : List (Value × Value)
  oka : List AV → Hp → Bool
  ad : List AV → Hp → Int
  an : List AV → Hp → List (Value × Value)
  ab : List AV → Hp → List (Value × Value)
noncomputable def o13c (Z : K13) (s : SSta) : Orc := Orc.cons 26 (ansG Z.okS fun x => vI (Z.chk x)) (Orc.cons 28 (ansM Z.okn (fun _ _ => .c (.ptr 0 0)) fun _ _ => HC s Z.n0 []) (Orc.cons 32 (ansM Z.oka (fun x H => vI (Z.ad x H)) fun x H => HC s (Z.an x H) (Z.ab x H)) Orc.nil))
noncomputable def ann13c : Ann := annOf [(5, ⟨[6, 15, 16, 17], []⟩)]
noncomputable def L13c_5 (Z : K13) (s : SSta) (l : List SRel) (g m : Nat) (l1 : List (Value × Value)) (l2 : List (Value × Value)) (i17 : Int) := LK Tryz.prog (o13c Z s) ann13c (List.length (α := Nat × Blk) []) g Tryz.f13 5 m ⟨frm [(6, AV.c (C.ptr 0 0)), (15, AV.c (C.d (listD 53 relC rel0 l))), (16, AV.c (C.d (D.v (Value.int IntKind.i64 (↑(List.length l) : Int))))), (17, AV.c (C.d (D.v (Value.int IntKind.i64 i17))))] 0 Tryz.f13.ntmps, [(0, Blk.cells [C.d (D.v (Value.string (SSta.name s))), C.d (listD 1 busC e0 (SSta.buses s)), C.d (listD 5 lineC line0 (SSta.lines s)), C.d (listD 6 srcC' src0 (SSta.srcs s)), C.d (listD 12 bayC bay0 (SSta.bays s)), C.mp 1, C.mp 2] 140), (1, Blk.map 0 l1), (2, Blk.map 2 l2)], 3⟩
theorem b13c : Tryz.f13.body = some (bodyOf Tryz.f13) := by kernel_rfl
set_option maxRecDepth 100000 in
theorem ev13c (Z : K13) (s : SSta) (l : List SRel) (g : Nat) : callC Tryz.prog (o13c Z s) ann13c g Tryz.f13 (bodyOf Tryz.f13) [aSta s, .c (.d (relsD l))] [] =
 (bif K13.okS Z [AV.agg (List.map C.d (staC s))] then (bif K13.chk Z [AV.agg (List.map C.d (staC s))] != (0 : Int) then some (T.leaf (AV.tup [(false, [C.d (D.v (Value.int IntKind.i64
 (0 : Int)))]), (false, [C.d (D.v (Value.int IntKind.i64 (1 : Int)))])], [])) else (bif K13.okn Z [AV.agg (List.map C.d (staC s))] [] then L13c_5 Z s l g g (K13.n0 Z) ([]) ((0 :
 Int)) else none)) else none) := by kernel_rfl
set_option maxRecDepth 100000 in
theorem st13c_5 (Z : K13) (s : SSta) (l : List SRel) (g m : Nat) (l1 : List (Value × Value)) (l2 : List (Value × Value)) (i17 : Int) : L13c_5 Z s l g (m + 1) l1 l2 i17 =
 (bif decide (i17 < (↑(List.length l) : Int)) then (bif decide ((0 : Int) ≤ i17) && decide (i17 < (↑(List.length l) : Int)) then (bif K13.oka Z [AV.c (C.ptr ((0 : Nat)) ((0 : Nat))),
 AV.agg (List.map C.d (relC (List.getD l (Int.toNat i17) rel0)))] [((0 : Nat), Blk.cells [C.d (D.v (Value.string (SSta.name s))), C.d (listD ((1 : Nat)) busC e0 (SSta.buses s)), C.d
 (listD ((5 : Nat)) lineC line0 (SSta.lines s)), C.d (listD ((6 : Nat)) srcC' src0 (SSta.srcs s)), C.d (listD ((12 : Nat)) bayC bay0 (SSta.bays s)), C.mp ((1 : Nat)), C.mp ((2 :
 Nat))] ((140 : Nat))), ((1 : Nat), Blk.map ((0 : Nat)) l1), ((2 : Nat), Blk.map ((2 : Nat)) l2)] then (bif K13.ad Z [AV.c (C.ptr ((0 : Nat)) ((0 : Nat))), AV.agg (List.map C.d (relC
 (List.getD l (Int.toNat i17) rel0)))] [((0 : Nat), Blk.cells [C.d (D.v (Value.string (SSta.name s))), C.d (listD ((1 : Nat)) busC e0 (SSta.buses s)), C.d (listD ((5 : Nat)) lineC
 line0 (SSta.lines s)), C.d (listD ((6 : Nat)) srcC' src0 (SSta.srcs s)), C.d (listD ((12 : Nat)) bayC bay0 (SSta.bays s)), C.mp ((1 : Nat)), C.mp ((2 : Nat))] ((140 : Nat))), ((1 :
 Nat), Blk.map ((0 : Nat)) l1), ((2 : Nat), Blk.map ((2 : Nat)) l2)] != (0 : Int) then some (T.leaf (AV.tup [(false, [C.d (D.v (Value.int IntKind.i64 i17))]), (false, [C.d (D.v
 (Value.int IntKind.i64 (K13.ad Z [AV.c (C.ptr ((0 : Nat)) ((0 : Nat))), AV.agg (List.map C.d (relC (List.getD l (Int.toNat i17) rel0)))] [((0 : Nat), Blk.cells [C.d (D.v
 (Value.string (SSta.name s))), C.d (listD ((1 : Nat)) busC e0 (SSta.buses s)), C.d (listD ((5 : Nat)) lineC line0 (SSta.lines s)), C.d (listD ((6 : Nat)) srcC' src0 (SSta.srcs s)),
 C.d (listD ((12 : Nat)) bayC bay0 (SSta.bays s)), C.mp ((1 : Nat)), C.mp ((2 : Nat))] ((140 : Nat))), ((1 : Nat), Blk.map ((0 : Nat)) l1), ((2 : Nat), Blk.map ((2 : Nat))
 l2)])))])], [])) else L13c_5 Z s l g m (K13.an Z [AV.c (C.ptr ((0 : Nat)) ((0 : Nat))), AV.agg (List.map C.d (relC (List.getD l (Int.toNat i17) rel0)))] [((0 : Nat), Blk.cells [C.d
 (D.v (Value.string (SSta.name s))), C.d (listD ((1 : Nat)) busC e0 (SSta.buses s)), C.d (listD ((5 : Nat)) lineC line0 (SSta.lines s)), C.d (listD ((6 : Nat)) srcC' src0 (SSta.srcs
 s)), C.d (listD ((12 : Nat)) bayC bay0 (SSta.bays s)), C.mp ((1 : Nat)), C.mp ((2 : Nat))] ((140 : Nat))), ((1 : Nat), Blk.map ((0 : Nat)) l1), ((2 : Nat), Blk.map ((2 : Nat)) l2)])
 (K13.ab Z [AV.c (C.ptr ((0 : Nat)) ((0 : Nat))), AV.agg (List.map C.d (relC (List.getD l (Int.toNat i17) rel0)))] [((0 : Nat), Blk.cells [C.d (D.v (Value.string (SSta.name s))), C.d
 (listD ((1 : Nat)) busC e0 (SSta.buses s)), C.d (listD ((5 : Nat)) lineC line0 (SSta.lines s)), C.d (listD ((6 : Nat)) srcC' src0 (SSta.srcs s)), C.d (listD ((12 : Nat)) bayC bay0
 (SSta.bays s)), C.mp ((1 : Nat)), C.mp ((2 : Nat))] ((140 : Nat))), ((1 : Nat), Blk.map ((0 : Nat)) l1), ((2 : Nat), Blk.map ((2 : Nat)) l2)]) (IntKind.wrap IntKind.i64 (i17 + (1 :
 Int)))) else none) else none) else some (T.leaf (AV.tup [(false, [C.d (D.v (Value.int IntKind.i64 (0 : Int)))]), (false, [C.d (D.v (Value.int IntKind.i64 (0 : Int)))])], []))) := by kernel_rfl
end Go.Proofs.YtngoglhlhlfknaaGreat.se
namespace Go.Proofs.YtngoglhlhlfknaaGreat.se
open Go.RowKit Go.Eb Go.Proofs.YtngoglhlhlfknaaGreat.st
set_option maxRecDepth 100000

def vII (a b : Int) : AV := .tup [(false, [.d (dI a)]), (false, [.d (dI b)])]
def vP (p : Int × Int) : AV := vII p.1 p.2
noncomputable def chkRels (bays : List SBay) (N : List ByteArray) (B : List Int) (i : Nat) : List SRel → Int × Int
  | [] => (0, 0)
  | r :: t => bif addErr bays N B r != 0 then ((i : Int), addErr bays N B r) else chkRels bays (N ++ [r.name]) (B ++ [r.bay]) (i + 1) t
noncomputable def checkS (s : SSta) (l : List SRel) : Int × Int := bif chkSta s != 0 then (0, 1) else chkRels s.bays (namesS s) [] 0 l
abbrev eSt := en1 aSta
theorem eSt_inj : InjT eSt := en1_inj aSta_inj
def eN (a : SSta) : List AV × Hp := ([aSta a], [])
theorem eN_inj : InjY eN := fun _ _ h _ => aSta_inj _ _ (asle_cons h).1
def eN1 (s : SSta) (_ : Unit) : List AV × Hp := ([aSta s], [])
theorem eN1_inj (s : SSta) : InjY (eN1 s) := fun _ _ _ _ => rfl
def okA (a : List ByteArray × List Int × SRel) : Bool := okRel a.2.2
noncomputable def Z13 (s : SSta) : K13 where
  okS := okG eSt okSta
  chk x := chkSta (theT eSt x)
  okn := okZ (eN1 s) fun _ => true
  n0 := mapOf (namesS s)
  oka := okZ (eP s) okA
  ad x H := addErr s.bays (theY (eP s) x H).1 (theY (eP s) x H).2.1 (theY (eP s) x H).2.2
  an x H := mapOf (addN s.bays (theY (eP s) x H).1 (theY (eP s) x H).2.1 (theY (eP s) x H).2.2)
  ab x H := mapIn (addB s.bays (theY (eP s) x H).1 (theY (eP s) x H).2.1 (theY (eP s) x H).2.2)
theorem s13c (s : SSta) (hs : okSta s = true) : OrcS Tryz.prog (o13c (Z13 s) s) :=
  .cons (.t' (r := fun a => vI (chkSta a)) fun a h => c12 a (okSta_len h).2.2.2.2) (.cons (.m (enc := eN1 s) (c := fun _ => true) (r := fun _ => .c (.ptr 0 0)) (H' := fun _ => HC s (mapOf (namesS s)) []) fun _ _ => c28 s hs)
    (.cons (.m (enc := eP s) (c := okA) (r := fun a => vI (addErr s.bays a.1 a.2.1 a.2.2)) (H' := fun a => HC s (mapOf (addN s.bays a.1 a.2.1 a.2.2)) (mapIn (addB s.bays a.1 a.2.1 a.2.2))) fun a h => c32 s a.1 a.2.1 a.2.2 (okSta_len hs).2.2.2.1 h) .nil))
theorem lp13c (s : SSta) (l : List SRel) (g : Nat) (hl : lenOk l = true) (ha : l.all okRel = true) : ∀ (m k : Nat) (N : List ByteArray) (B : List Int), k ≤ l.length → l.length - k < m → L13c_5 (Z13 s) s l g m (mapOf N) (mapIn B) k = some (.leaf (vP (chkRels s.bays N B k (l.drop k)), []))
  | 0, k, _, _, _, h => by omega
  | m + 1, k, N, B, hk, h => by
    rw [st13c_5]
    by_cases hlt : k < l.length
    · have hr : okRel (l.getD k rel0) = true := all_getD ha rfl k
      rw [drop_at' (d := rel0) hlt]
      rw [lt1 hlt, ge0, tn, nx hlt (lenOk_le hl)]
      generalize l.getD k rel0 = r at hr ⊢
      have k1 : (Z13 s).oka [.c (.ptr 0 0), aRel r] (HC s (mapOf N) (mapIn B)) = true := okZ_enc (eP_inj s) (c := okA) (N, B, r) hr
      have t : theY (eP s) [.c (.ptr 0 0), aRel r] (HC s (mapOf N) (mapIn B)) = (N, B, r) := theY_enc (eP_inj s) (N, B, r)
      have k2 : (Z13 s).ad [.c (.ptr 0 0), aRel r] (HC s (mapOf N) (mapIn B)) = addErr s.bays N B r := by dsimp only [Z13]; rw [t]
      have k3 : (Z13 s).an [.c (.ptr 0 0), aRel r] (HC s (mapOf N) (mapIn B)) = mapOf (addN s.bays N B r) := by dsimp only [Z13]; rw [t]
      have k4 : (Z13 s).ab [.c (.ptr 0 0), aRel r] (HC s (mapOf N) (mapIn B)) = mapIn (addB s.bays N B r) := by dsimp only [Z13]; rw [t]
      unfold HC at k1 k2 k3 k4
      simp only [staC, List.map_cons, List.map_nil, List.cons_append, List.nil_append] at k1 k2 k3 k4
      have ih := lp13c s l g hl ha m (k + 1) (N ++ [r.name]) (B ++ [r.bay]) (by omega) (by omega)
      simp only [tt, cond_true]
      refine Eq.trans (congrArg (fun b => cond b _ _) k1) ?_
      simp only [cond_true]
      rw [k2, k3, k4]
      unfold addN addB
      simp only [chkRels]
      cases hz : (addErr s.bays N B r != 0) with
      | true => rfl
      | false => exact ih
    · rw [lt0 hlt, List.drop_of_length_le (by omega)]
      rfl
theorem c13c (s : SSta) (l : List SRel) (hs : okSta s = true) (hl : lenOk l = true) (ha : l.all okRel = true) : CX Tryz.prog 13 [aSta s, .c (.d (relsD l))] [] (vP (checkS s l)) [] := by
  obtain ⟨g, hg⟩ : ∃ g, l.length < g := ⟨l.length + 1, by omega⟩
  refine cx_of (s13c s hs).ok Tryz.func13 b13c rfl ((ev13c (Z13 s) s l g).trans ?_)
  have k1 : (Z13 s).okS [aSta s] = true := okG_enc eSt_inj (c := okSta) s hs
  have k2 : (Z13 s).chk [aSta s] = chkSta s := congrArg chkSta (theT_enc eSt_inj s)
  have k3 : (Z13 s).okn [aSta s] [] = true := okZ_enc (eN1_inj s) (c := fun _ => true) () rfl
  have e : L13c_5 (Z13 s) s l g g (mapOf (namesS s)) (mapIn []) ((0 : Nat) : Int) = _ := lp13c s l g hl ha g 0 (namesS s) [] (by omega) (by omega)
  rw [k1, k2, k3]
  unfold checkS
  cases (chkSta s != 0) with
  | true => rfl
  | false => exact e
end Go.Proofs.YtngoglhlhlfknaaGreat.se
