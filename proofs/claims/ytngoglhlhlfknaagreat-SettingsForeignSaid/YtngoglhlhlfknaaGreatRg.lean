/-
  Check of settings: the checker: contracts. No condition.
-/
import Derived.Test.YtngoglhlhlfknaaGreatZSn
import Derived.Test.YtngoglhlhlfknaaGreatRf
namespace Go.Proofs.YtngoglhlhlfknaaGreat.se
open Go.RowKit Go.Eb Go.Proofs.YtngoglhlhlfknaaGreat.st
set_option maxRecDepth 100000

theorem c28 (s : SSta) (hs : okSta s = true) : CX Tryz.prog 28 [aSta s] [] (.c (.ptr 0 0)) (HC s (mapOf (namesS s)) []) := by
  obtain ⟨a1, a2, a3, a4, _⟩ := okSta_len hs
  obtain ⟨g, g1, g2, g3, g4⟩ : ∃ g, s.buses.length < g ∧ s.lines.length < g ∧ s.srcs.length < g ∧ s.bays.length < g := ⟨s.buses.length + s.lines.length + s.srcs.length + s.bays.length + 1, by omega⟩
  refine cx_of (Orc.nil_ok _) Tryz.func28 b28 rfl ((ev28 s g).trans ?_)
  have l4 := fun N => name_loop (nm := SBay.name) (d0 := bay0) (l := s.bays) (L := fun m mp i => L28_18 s g m mp [] i) (NX := fun mp => some (.leaf (.c (.ptr 0 0), HC s mp []))) (fun m k N hk => by
    rw [st28_18, lt1 hk, ge0, tn, nx hk a4, mapOf_app]; simp only [tt, cond_true]) (fun m mp => by rw [st28_18, lt0 (Nat.lt_irrefl _)]; rfl) g 0 N (by omega) (by omega)
  have l3 := fun N => name_loop (nm := SSrc.name) (d0 := src0) (l := s.srcs) (L := fun m mp i => L28_13 s g m mp [] i) (NX := fun mp => L28_18 s g g mp [] 0) (fun m k N hk => by
    rw [st28_13, lt1 hk, ge0, tn, nx hk a3, mapOf_app]; simp only [tt, cond_true]) (fun m mp => by rw [st28_13, lt0 (Nat.lt_irrefl _)]; simp only [cond_false]) g 0 N (by omega) (by omega)
  have l2 := fun N => name_loop (nm := SLine.name) (d0 := line0) (l := s.lines) (L := fun m mp i => L28_8 s g m mp [] i) (NX := fun mp => L28_13 s g g mp [] 0) (fun m k N hk => by
    rw [st28_8, lt1 hk, ge0, tn, nx hk a2, mapOf_app]; simp only [tt, cond_true]) (fun m mp => by rw [st28_8, lt0 (Nat.lt_irrefl _)]; simp only [cond_false]) g 0 N (by omega) (by omega)
  have l1 := fun N => name_loop (nm := id) (d0 := e0) (l := s.buses) (L := fun m mp i => L28_3 s g m mp [] i) (NX := fun mp => L28_8 s g g mp [] 0) (fun m k N hk => by
    rw [st28_3, lt1 hk, ge0, tn, nx hk a1, mapOf_app]; simp only [tt, cond_true, id]) (fun m mp => by rw [st28_3, lt0 (Nat.lt_irrefl _)]; simp only [cond_false]) g 0 N (by omega) (by omega)
  have e := l1 []
  simp only [List.drop_zero, List.map_id, List.nil_append] at e l2 l3 l4
  have e' : L28_3 s g g [] [] 0 = L28_8 s g g (mapOf s.buses) [] 0 := e
  have f2 : L28_8 s g g (mapOf s.buses) [] 0 = L28_13 s g g (mapOf (s.buses ++ s.lines.map SLine.name)) [] 0 := l2 s.buses
  have f3 := l3 (s.buses ++ s.lines.map SLine.name)
  have f4 := l4 (s.buses ++ s.lines.map SLine.name ++ s.srcs.map SSrc.name)
  refine e'.trans (f2.trans (Eq.trans f3 (Eq.trans f4 ?_)))
  unfold namesS
  simp only [List.append_assoc]

/-! place -/
def seenB (B : List Int) (n : Int) : Int := bif B.any fun m => n == m then 12 else 0
def placeK (bays : List SBay) (B : List Int) (r : SRel) (k : Int) : Int := bif !within r.bay 0 ((bays.length : Int) - 1) then 9 else bif (bays.getD r.bay.toNat bay0).kind != k then 9 else seenB B r.bay
def placeErr (bays : List SBay) (B : List Int) (r : SRel) : Int :=
  bif r.kind == 1 then placeK bays B r 1 else bif r.kind == 2 then placeK bays B r 2 else bif r.kind == 3 then placeK bays B r 3 else bif r.kind == 4 then (bif r.bay != -1 then 9 else seenB B r.bay) else 10
theorem place_k {β : Type} (X : Int → Option β) (n len : Int) (kb sn : Bool) : (bif decide (n ≥ 0) then (bif !decide (n ≤ len - 1) then X 9 else (bif decide (0 ≤ n) && decide (n < len) then (bif kb then X 9 else (bif sn then X 12 else X 0)) else none)) else X 9) = X (bif !within n 0 (len - 1) then 9 else bif kb then 9 else bif sn then 12 else 0) := by
  unfold within
  by_cases h1 : n ≥ 0
  · by_cases h2 : n ≤ len - 1
    · have h3 : n < len := by omega
      have h4 : (0 : Int) ≤ n := h1
      simp only [h2, h3, h4, ge_iff_le, decide_true, Bool.not_true, Bool.and_self, cond_true, cond_false]
      cases kb <;> cases sn <;> rfl
    · have h4 : (0 : Int) ≤ n := h1
      simp only [h2, h4, ge_iff_le, decide_true, decide_false, Bool.not_false, Bool.and_false, cond_true]
  · have h4 : ¬ (0 : Int) ≤ n := h1
    simp only [h4, ge_iff_le, decide_false, Bool.not_false, Bool.false_and, cond_true, cond_false]
theorem c77 (s : SSta) (N : List (Value × Value)) (B : List Int) (r : SRel) (hb : s.bays.length ≤ 9223372036854775807) : CX Tryz.prog 77 [.c (.ptr 0 0), aRel r] (HC s N (mapIn B)) (vI (placeErr s.bays B r)) (HC s N (mapIn B)) := by
  refine cx_of sWi.ok Tryz.func77 b77 rfl ((ev77 s N (mapIn B) r 1).trans ?_)
  have w : IntKind.wrap IntKind.i64 ((s.bays.length : Int) - 1) = (s.bays.length : Int) - 1 := wrap_id (by omega) (by omega)
  rw [w, assoc_mapIn]
  have key : ∀ (kb sn : Bool), _ := fun kb sn => place_k (fun n => some (T.leaf (vI n, HC s N (mapIn B)))) r.bay s.bays.length kb sn
  unfold placeErr
  cases (r.kind == 1) with
  | true => exact key _ _
  | false =>
    cases (r.kind == 2) with
    | true => exact key _ _
    | false =>
      cases (r.kind == 3) with
      | true => exact key _ _
      | false =>
        cases (r.kind == 4) with
        | false => rfl
        | true =>
          unfold seenB
          cases (r.bay != -1) with
          | true => rfl
          | false => cases (B.any fun m => r.bay == m) <;> rfl

/-! add -/
noncomputable def restErr (r : SRel) : Int := bif !ev78_v r then 12 else bif !ev79_v r then 2 else bif !ev80_v r then 2 else bif !ev81_v r then 2 else bif !ev82_v r then 2 else bif !ev83_v r then 11 else bif !countsOk r then 3 else eLists r
noncomputable def addErr (bays : List SBay) (N : List ByteArray) (B : List Int) (r : SRel) : Int := bif !nameOk r.name then 7 else bif inB N r.name then 8 else bif placeErr bays B r != 0 then placeErr bays B r else restErr r
def eP (s : SSta) (a : List ByteArray × List Int × SRel) : List AV × Hp := ([.c (.ptr 0 0), aRel a.2.2], HC s (mapOf a.1) (mapIn a.2.1))
theorem eP_inj (s : SSta) : InjY (eP s) := fun a b h1 h2 => by
  obtain ⟨n, i, r⟩ := a
  obtain ⟨n', i', r'⟩ := b
  have e1 : r = r' := aRel_inj _ _ (asle_cons (asle_cons h1).2).1
  have e2 := mapOf_inj (ble_map (hle_look h2 1 (a := .map 0 (mapOf n)) (b := .map 0 (mapOf n')) rfl rfl))
  have e3 := mapIn_inj (ble_map (hle_look h2 2 (a := .map 2 (mapIn i)) (b := .map 2 (mapIn i')) rfl rfl))
  rw [e1, e2, e3]
def eQ (s : SSta) (n : List ByteArray) (b : List Int) (r : SRel) : List AV × Hp := ([.c (.ptr 0 0), aRel r], HC s (mapOf n) (mapIn b))
theorem eQ_inj (s : SSta) (n : List ByteArray) (b : List Int) : InjY (eQ s n b) := fun x y h1 _ => aRel_inj _ _ (asle_cons (asle_cons h1).2).1
abbrev eR := en1 aRel
theorem eR_inj : InjT eR := en1_inj aRel_inj
noncomputable def Z32 (s : SSta) (n : List ByteArray) (b : List Int) : K32 where
  okr := okG eR okRel
  us x := ev78_v (theT eR x)
  di x := ev79_v (theT eR x)
  sc x := ev80_v (theT eR x)
  el x := ev81_v (theT eR x)
  ot x := ev82_v (theT eR x)
  zo x := ev83_v (theT eR x)
  ct x := countsOk (theT eR x)
  ls x := eLists (theT eR x)
  okp := okZ (eQ s n b) fun _ => true
  pl x H := placeErr s.bays b (theY (eQ s n b) x H)
theorem s32 (s : SSta) (n : List ByteArray) (b : List Int) (hb : s.bays.length ≤ 9223372036854775807) : OrcS Tryz.prog (o32 (Z32 s n b) s (mapOf n) (mapIn b)) := by
  refine sN (.cons (.m (enc := eQ s n b) (c := fun _ => true) (r := fun r => vI (placeErr s.bays b r)) (H' := fun _ => HC s (mapOf n) (mapIn b)) fun r _ => c77 s (mapOf n) b r hb) ?_)
  exact .cons (.t' (r := fun a => vB (ev78_v a)) fun a _ => c78 a) (.cons (.t' (r := fun a => vB (ev79_v a)) fun a _ => c79 a) (.cons (.t' (r := fun a => vB (ev80_v a)) fun a _ => c80 a) (.cons (.t' (r := fun a => vB (ev81_v a)) fun a _ => c81 a)
    (.cons (.t' (r := fun a => vB (ev82_v a)) fun a _ => c82 a) (.cons (.t' (r := fun a => vB (ev83_v a)) fun a _ => c83 a) (.cons (.t' (r := fun a => vB (countsOk a)) fun a h => c84 a h) (.cons (.t' (r := fun a => vI (eLists a)) fun a h => c85 a h) .nil)))))))
/-- what is remembered -/
noncomputable def addN (bays : List SBay) (N : List ByteArray) (B : List Int) (r : SRel) : List ByteArray := bif addErr bays N B r != 0 then N else N ++ [r.name]
noncomputable def addB (bays : List SBay) (N : List ByteArray) (B : List Int) (r : SRel) : List Int := bif addErr bays N B r != 0 then B else B ++ [r.bay]
theorem c32 (s : SSta) (N : List ByteArray) (B : List Int) (r : SRel) (hs : s.bays.length ≤ 9223372036854775807) (hr : okRel r = true) :
    CX Tryz.prog 32 [.c (.ptr 0 0), aRel r] (HC s (mapOf N) (mapIn B)) (vI (addErr s.bays N B r)) (HC s (mapOf (addN s.bays N B r)) (mapIn (addB s.bays N B r))) := by
  refine cx_of (s32 s N B hs).ok Tryz.func32 b32 rfl ((ev32 (Z32 s N B) s (mapOf N) (mapIn B) r 1).trans ?_)
  have k1 : (Z32 s N B).okp [.c (.ptr 0 0), aRel r] (HC s (mapOf N) (mapIn B)) = true := okZ_enc (eQ_inj s N B) (c := fun _ => true) r rfl
  have k2 : (Z32 s N B).pl [.c (.ptr 0 0), aRel r] (HC s (mapOf N) (mapIn B)) = placeErr s.bays B r := congrArg (placeErr s.bays B) (theY_enc (eQ_inj s N B) r)
  have k3 : (Z32 s N B).okr [aRel r] = true := okG_enc eR_inj (c := okRel) r hr
  have t := theT_enc eR_inj r
  have k4 : (Z32 s N B).us [aRel r] = ev78_v r := congrArg ev78_v t
  have k5 : (Z32 s N B).di [aRel r] = ev79_v r := congrArg ev79_v t
  have k6 : (Z32 s N B).sc [aRel r] = ev80_v r := congrArg ev80_v t
  have k7 : (Z32 s N B).el [aRel r] = ev81_v r := congrArg ev81_v t
  have k8 : (Z32 s N B).ot [aRel r] = ev82_v r := congrArg ev82_v t
  have k9 : (Z32 s N B).zo [aRel r] = ev83_v r := congrArg ev83_v t
  have k10 : (Z32 s N B).ct [aRel r] = countsOk r := congrArg countsOk t
  have k11 : (Z32 s N B).ls [aRel r] = eLists r := congrArg eLists t
  unfold HC at k1 k2
  simp only [staC, List.map_cons, List.map_nil, List.cons_append, List.nil_append] at k1 k2
  rw [k1, k2, k3, k4, k5, k6, k7, k8, k9, k10, k11, assocN]
  unfold addN addB
  unfold addErr
  cases nameOk r.name with
  | false => rfl
  | true =>
    cases inB N r.name with
    | true => rfl
    | false =>
      cases hp : (placeErr s.bays B r != 0) with
      | true => simp only [Bool.not_true, cond_false, cond_true, hp]; rfl
      | false =>
        unfold restErr
        cases ev78_v r with
        | false => rfl
        | true =>
          cases ev79_v r with
          | false => rfl
          | true =>
            cases ev80_v r with
            | false => rfl
            | true =>
              cases ev81_v r with
              | false => rfl
              | true =>
                cases ev82_v r with
                | false => rfl
                | true =>
                  cases ev83_v r with
                  | false => rfl
                  | true =>
                    cases countsOk r with
                    | false => rfl
                    | true =>
                      cases hl : (eLists r != 0) with
                      | true => simp only [Bool.not_true, cond_false, cond_true, hl]; rfl
                      | false =>
                        have e0 : eLists r = 0 := by simpa using hl
                        have z0 : ((0 : Int) != 0) = false := rfl
                        simp only [Bool.not_true, cond_false, cond_true, e0, z0, mapOf_app, mapIn_app]; rfl
end Go.Proofs.YtngoglhlhlfknaaGreat.se
