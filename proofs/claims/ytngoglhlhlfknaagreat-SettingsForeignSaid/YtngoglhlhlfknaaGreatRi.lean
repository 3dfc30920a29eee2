/-
  Check of settings: its contract. No condition.
-/
import Derived.Test.YtngoglhlhlfknaaGreatRg
import Derived.Test.YtngoglhlhlfknaaGreatRh
namespace Go.Proofs.YtngoglhlhlfknaaGreat.se
open Go.RowKit Go.Eb Go.Proofs.YtngoglhlhlfknaaGreat.st
set_option maxRecDepth 100000

def vII (a b : Int) : AV := .tup [(false, [.d (dI a)]), (false, [.d (dI b)])]
def vP (p : Int × Int) : AV := vII p.1 p.2
noncomputable def chkRels (bays : List SBay) (N : List ByteArray) (B : List Int) (i : Nat) : List SRel → Int × Int
  | [] => (0, 0)
  | r :: t => bif addErr bays N B r != 0 then ((i : Int), addErr bays N B r) else chkRels bays (N ++ [r.name]) (B ++ [r.bay]) (i + 1) t
noncomputable def checkS (s : SSta) (l : List SRel) : Int × Int := bif chkSta s != 0 then (0, 1) else chkRels s.bays (namesS s) [] 0 l
abbrev eSt := en1 aSta
theorem eSt_inj : InjT eSt := en1_inj aSta_inj
def eN (a : SSta) : List AV × Hp := ([aSta a], [])
theorem eN_inj : InjY eN := fun _ _ h _ => aSta_inj _ _ (asle_cons h).1
def eN1 (s : SSta) (_ : Unit) : List AV × Hp := ([aSta s], [])
theorem eN1_inj (s : SSta) : InjY (eN1 s) := fun _ _ _ _ => rfl
def okA (a : List ByteArray × List Int × SRel) : Bool := okRel a.2.2
noncomputable def Z13 (s : SSta) : K13 where
  okS := okG eSt okSta
  chk x := chkSta (theT eSt x)
  okn := okZ (eN1 s) fun _ => true
  n0 := mapOf (namesS s)
  oka := okZ (eP s) okA
  ad x H := addErr s.bays (theY (eP s) x H).1 (theY (eP s) x H).2.1 (theY (eP s) x H).2.2
  an x H := mapOf (addN s.bays (theY (eP s) x H).1 (theY (eP s) x H).2.1 (theY (eP s) x H).2.2)
  ab x H := mapIn (addB s.bays (theY (eP s) x H).1 (theY (eP s) x H).2.1 (theY (eP s) x H).2.2)
theorem s13c (s : SSta) (hs : okSta s = true) : OrcS Tryz.prog (o13c (Z13 s) s) :=
  .cons (.t' (r := fun a => vI (chkSta a)) fun a h => c12 a (okSta_len h).2.2.2.2) (.cons (.m (enc := eN1 s) (c := fun _ => true) (r := fun _ => .c (.ptr 0 0)) (H' := fun _ => HC s (mapOf (namesS s)) []) fun _ _ => c28 s hs)
    (.cons (.m (enc := eP s) (c := okA) (r := fun a => vI (addErr s.bays a.1 a.2.1 a.2.2)) (H' := fun a => HC s (mapOf (addN s.bays a.1 a.2.1 a.2.2)) (mapIn (addB s.bays a.1 a.2.1 a.2.2))) fun a h => c32 s a.1 a.2.1 a.2.2 (okSta_len hs).2.2.2.1 h) .nil))
theorem lp13c (s : SSta) (l : List SRel) (g : Nat) (hl : lenOk l = true) (ha : l.all okRel = true) : ∀ (m k : Nat) (N : List ByteArray) (B : List Int), k ≤ l.length → l.length - k < m → L13c_5 (Z13 s) s l g m (mapOf N) (mapIn B) k = some (.leaf (vP (chkRels s.bays N B k (l.drop k)), []))
  | 0, k, _, _, _, h => by omega
  | m + 1, k, N, B, hk, h => by
    rw [st13c_5]
    by_cases hlt : k < l.length
    · have hr : okRel (l.getD k rel0) = true := all_getD ha rfl k
      rw [drop_at' (d := rel0) hlt]
      rw [lt1 hlt, ge0, tn, nx hlt (lenOk_le hl)]
      generalize l.getD k rel0 = r at hr ⊢
      have k1 : (Z13 s).oka [.c (.ptr 0 0), aRel r] (HC s (mapOf N) (mapIn B)) = true := okZ_enc (eP_inj s) (c := okA) (N, B, r) hr
      have t : theY (eP s) [.c (.ptr 0 0), aRel r] (HC s (mapOf N) (mapIn B)) = (N, B, r) := theY_enc (eP_inj s) (N, B, r)
      have k2 : (Z13 s).ad [.c (.ptr 0 0), aRel r] (HC s (mapOf N) (mapIn B)) = addErr s.bays N B r := by dsimp only [Z13]; rw [t]
      have k3 : (Z13 s).an [.c (.ptr 0 0), aRel r] (HC s (mapOf N) (mapIn B)) = mapOf (addN s.bays N B r) := by dsimp only [Z13]; rw [t]
      have k4 : (Z13 s).ab [.c (.ptr 0 0), aRel r] (HC s (mapOf N) (mapIn B)) = mapIn (addB s.bays N B r) := by dsimp only [Z13]; rw [t]
      unfold HC at k1 k2 k3 k4
      simp only [staC, List.map_cons, List.map_nil, List.cons_append, List.nil_append] at k1 k2 k3 k4
      have ih := lp13c s l g hl ha m (k + 1) (N ++ [r.name]) (B ++ [r.bay]) (by omega) (by omega)
      simp only [tt, cond_true]
      refine Eq.trans (congrArg (fun b => cond b _ _) k1) ?_
      simp only [cond_true]
      rw [k2, k3, k4]
      unfold addN addB
      simp only [chkRels]
      cases hz : (addErr s.bays N B r != 0) with
      | true => rfl
      | false => exact ih
    · rw [lt0 hlt, List.drop_of_length_le (by omega)]
      rfl
theorem c13c (s : SSta) (l : List SRel) (hs : okSta s = true) (hl : lenOk l = true) (ha : l.all okRel = true) : CX Tryz.prog 13 [aSta s, .c (.d (relsD l))] [] (vP (checkS s l)) [] := by
  obtain ⟨g, hg⟩ : ∃ g, l.length < g := ⟨l.length + 1, by omega⟩
  refine cx_of (s13c s hs).ok Tryz.func13 b13c rfl ((ev13c (Z13 s) s l g).trans ?_)
  have k1 : (Z13 s).okS [aSta s] = true := okG_enc eSt_inj (c := okSta) s hs
  have k2 : (Z13 s).chk [aSta s] = chkSta s := congrArg chkSta (theT_enc eSt_inj s)
  have k3 : (Z13 s).okn [aSta s] [] = true := okZ_enc (eN1_inj s) (c := fun _ => true) () rfl
  have e : L13c_5 (Z13 s) s l g g (mapOf (namesS s)) (mapIn []) ((0 : Nat) : Int) = _ := lp13c s l g hl ha g 0 (namesS s) [] (by omega) (by omega)
  rw [k1, k2, k3]
  unfold checkS
  cases (chkSta s != 0) with
  | true => rfl
  | false => exact e
end Go.Proofs.YtngoglhlhlfknaaGreat.se
