/-
  An evaluator of Go code on abstract values, proved sound, and what it computes of the functions that the statement reaches (part 7). No condition.
-/
import Derived.Test.YtbpndheehcbldaaGreatDoorQ6
import Derived.Test.YtbpndheehcbldaaGreatDoorProg
import Derived.KernelRfl
import Derived.Test.YtbpndheehcbldaaGreatDoorTie
import Derived.ProofKit
import Derived.LaidMore
import Derived.OpenShut
import Derived.Stop.Joined
noncomputable section
open Go.Proofs.Tryz
set_option maxRecDepth 100000
namespace Go.Proofs.YtbpndheehcbldaaGreatDoor.tb
open Go.RowKit Go.Eb Go.Proofs.YtbpndheehcbldaaGreatDoor.st
set_option maxRecDepth 100000
open Go.Proofs.YtbpndheehcbldaaGreatDoor.se (B4 Cl Bg Rv Hn Bm F3 Fs Dt Mx Mz Uo M6 c13c cCk cSz vP eSt Ec)
open Go.Proofs.YtbpndheehcbldaaGreatDoor.sg (fitR FitR Av fitC B2 eR1 By cSck cRck eCf Cz)
def Ml (r : SRel) : Bool := decide (20 < r.rules.length) || (decide (8 < r.sets.length) || (decide (8 < r.pubs.length) || (decide (30 < r.subs.length) || ((r.sets.any fun x => decide (30 < x.sigs.length)) || r.rules.any fun x => decide (200 < x.text.size)))))
theorem Lr {α : Type} {p : α -> Bool} {l : List α} {d0 : α} {L : Nat -> Int -> Option (T (AV × Hp))} {A B : Option (T (AV × Hp))}
  (hst : ∀ (m k : Nat), k < l.length -> L (m + 1) k = bif p (l.getD k d0) then A else L m ((k + 1 : Nat) : Int)) (hend : ∀ m, L (m + 1) l.length = B) :
  ∀ (m k : Nat), k <= l.length -> l.length - k < m -> L m k = bif (l.drop k).any p then A else B
 | 0, k, _, h => by omega
 | m + 1, k, hk, h => by
  by_cases e : k = l.length
  ·subst e
   rw [hend, List.drop_of_length_le (Nat.le_refl _)]
   rfl
  ·have hlt : k < l.length := by omega
   rw [hst m k hlt, Lr hst hend m (k + 1) (by omega) (by omega), Am (d := d0) hlt]
   simp only [List.any_cons]
   cases p (l.getD k d0) <;> rfl
theorem lg7b (r : SRel) (g : Nat) (h1 : r.rules.length <= 9223372036854775807) (g2 : r.rules.length < g) : Nn r g g 0 = bif (r.rules.any fun x => decide (200 < x.text.size)) then lB true else lB false := by
 have t200 : ∀ n : Nat, decide ((n : Int) > 200) = decide (200 < n) := fun n => gtD n 200
 have l2 := Lr (p := fun x : SRule => decide (200 < x.text.size)) (l := r.rules) (d0 := Bb) (L := fun m i => Nn r g m i) (A := lB true) (B := lB false) (fun m k hk => by
  have st := Zh r g m k
  rw [lt1 hk, ge0, tn, nx hk h1, t200] at st
  rw [tt, cond_true] at st
  exact st) (fun m => by
  have st := Zh r g m (r.rules.length : Nat)
  rw [lt0 (Nat.lt_irrefl _)] at st
  rw [cond_false] at st
  exact st) g 0 (by omega) (by omega)
 exact l2
theorem lg7a (r : SRel) (g : Nat) (h2 : r.sets.length <= 9223372036854775807) (g1 : r.sets.length < g) : Tg r g g 0 = bif (r.sets.any fun x => decide (30 < x.sigs.length)) then lB true else Nn r g g 0 := by
 have t30 : ∀ n : Nat, decide ((n : Int) > 30) = decide (30 < n) := fun n => gtD n 30
 have l1 := Lr (p := fun x : SSet => decide (30 < x.sigs.length)) (l := r.sets) (d0 := set0) (L := fun m i => Tg r g m i) (A := lB true) (B := Nn r g g 0) (fun m k hk => by
  have st := Zi r g m k
  rw [lt1 hk, ge0, tn, nx hk h2, t30] at st
  rw [tt, cond_true] at st
  exact st) (fun m => by
  have st := Zi r g m (r.sets.length : Nat)
  rw [lt0 (Nat.lt_irrefl _)] at st
  rw [cond_false] at st
  exact st) g 0 (by omega) (by omega)
 exact l1
theorem Ali (a b c d e f : Bool) : (bif a then lB true else bif b then lB true else bif c then lB true else bif d then lB true else bif e then lB true else bif f then lB true else lB false) = lB (a || (b || (c || (d || (e || f))))) := by
 cases a <;> cases b <;> cases c <;> cases d <;> cases e <;> cases f <;> rfl
theorem clg7 (r : SRel) (hr : B6 r = true) : CX prog 44 [aRel r] [] (vB (Ml r)) [] := by
 obtain ⟨h1, h2, h3, h4, h5⟩ := Ga hr
 obtain ⟨g, g1, g2⟩ : ∃ g, r.sets.length < g /\ r.rules.length < g := ⟨r.sets.length + r.rules.length + 1, by omega⟩
 refine Ax (Orc.nil_ok _) func44 blg7 rfl ((AkF r g).trans ?_)
 have t30 : ∀ n : Nat, decide ((n : Int) > 30) = decide (30 < n) := fun n => gtD n 30
 have t20 : ∀ n : Nat, decide ((n : Int) > 20) = decide (20 < n) := fun n => gtD n 20
 have t8 : ∀ n : Nat, decide ((n : Int) > 8) = decide (8 < n) := fun n => gtD n 8
 rw [lg7a r g h2 g1, lg7b r g h1 g2, t20, t8, t8, t30]
 exact Ali _ _ _ _ _ _
def Pj (l : List SRel) : Bool := decide (20 < l.length) || l.any Ml
def D9 (c : SCfg) : Bool := Ue c.sta || Pj c.rels
def okCf (c : SCfg) : Bool := D7 c.sta && (Ak c.rels && c.rels.all B6)
theorem Jl {c : SCfg} (h : okCf c = true) : D7 c.sta = true /\ Ak c.rels = true /\ c.rels.all B6 = true := by
 unfold okCf at h
 simp only [Bool.and_eq_true] at h
 exact ⟨h.1, h.2.1, h.2.2⟩
theorem clg8 (c : SCfg) (h : okCf c = true) : CX prog 20 [aCfg c] [] (vB (Pj c.rels)) [] := by
 obtain ⟨_, hl, ha⟩ := Jl h
 have hs : OrcS prog (oLg8 (okG eR1 B6) fun x => Ml (theT eR1 x)) := .cons (.t' (enc := eR1) (c := B6) (r := fun r => vB (Ml r)) fun r hr => clg7 r hr) .nil
 have e := Lr (p := Ml) (l := c.rels) (d0 := rel0) (L := fun m i => W8 (okG eR1 B6) (fun x => Ml (theT eR1 x)) c (c.rels.length + 1) m i) (A := lB true) (B := lB false) (fun m k hk => by
  have k1 : okG eR1 B6 [AV.agg (List.map C.d (relC (c.rels.getD k rel0)))] = true := Aj By (c := B6) (c.rels.getD k rel0) (Dv ha rfl k)
  have k2 : theT eR1 [AV.agg (List.map C.d (relC (c.rels.getD k rel0)))] = c.rels.getD k rel0 := Ag By (c.rels.getD k rel0)
  rw [Zg, lt1 hk, ge0, tn, k1, k2, nx hk (A7 hl), tt, cond_true, cond_true, cond_true]) (fun m => by
  rw [Zg, lt0 (Nat.lt_irrefl _)]
  rfl) (c.rels.length + 1) 0 (by omega) (by omega)
 refine Ax hs.ok func20 blg8 rfl ((AkE _ _ c (c.rels.length + 1)).trans ?_)
 have t20 : decide ((c.rels.length : Int) > 20) = decide (20 < c.rels.length) := gtD c.rels.length 20
 rw [t20]
 unfold Pj
 cases decide (20 < c.rels.length) with
 | true => rfl
 | false =>
  rw [cond_false]
  refine Eq.trans e ?_
  rw [List.drop_zero]
  cases c.rels.any Ml <;> rfl
theorem clg9 (c : SCfg) (h : okCf c = true) : CX prog 8 [aCfg c] [] (vB (D9 c)) [] := by
 have hs : OrcS prog (oLg9 (okG eSt D7) (fun x => Ue (theT eSt x)) (okG eCf okCf) fun x => Pj (theT eCf x).rels) :=
  .cons (.t' (enc := eSt) (c := D7) (r := fun s => vB (Ue s)) fun s hs => c7 s hs) (.cons (.t' (enc := eCf) (c := okCf) (r := fun c => vB (Pj c.rels)) fun c hc => clg8 c hc) .nil)
 refine Ax hs.ok func8 (by kernel_rfl) rfl ((AkO _ _ _ _ c).trans ?_)
 have k1 : okG eSt D7 [AV.agg (List.map C.d (staC c.sta))] = true := Aj Ec (c := D7) c.sta (Jl h).1
 have k2 : theT eSt [AV.agg (List.map C.d (staC c.sta))] = c.sta := Ag Ec c.sta
 have k3 : okG eCf okCf [AV.agg (List.map C.d (cfgC c))] = true := Aj Cz (c := okCf) c h
 have k4 : theT eCf [AV.agg (List.map C.d (cfgC c))] = c := Ag Cz c
 rw [k1, k2, k3, k4]
 unfold D9
 cases Ue c.sta <;> rfl
theorem bz {a : Bool} {k x : Int} (h : (bif !a then k else x) = 0) (hk : k ≠ 0) : a = true /\ x = 0 := by
 cases a
 ·exact absurd h hk
 ·exact ⟨rfl, h⟩
theorem bz' {k x : Int} (h : (bif k != 0 then k else x) = 0) : k = 0 /\ x = 0 := by
 cases e : (k != 0) with
 | true => rw [e] at h; have h : k = 0 := h; rw [h] at e; cases e
 | false => rw [e] at h; exact ⟨by simpa using e, h⟩
theorem AbX (bays : List SBay) : ∀ (l : List SRel) (N : List ByteArray) (B : List Int) (i : Nat), (B4 bays N B i l).2 = 0 -> ∀ k, k < l.length -> ∃ N B, Cl bays N B (l.getD k rel0) = 0
 | [], _, _, _, _, k, hk => by simp at hk
 | r :: t, N, B, i, h, k, hk => by
  simp only [B4] at h
  cases e : (Cl bays N B r != 0) with
  | true =>
   rw [e] at h
   simp only [cond_true] at h
   rw [h] at e
   cases e
  | false =>
   rw [e] at h
   simp only [cond_false] at h
   cases k with
   | zero => exact ⟨N, B, by simpa using e⟩
   | succ k => exact AbX bays t _ _ _ h k (by simpa using hk)
theorem Ahb {bays : List SBay} {B : List Int} {r : SRel} (h : Bg bays B r = 0) : 1 <= r.kind /\ r.kind <= 4 := by
 unfold Bg at h
 cases e1 : (r.kind == 1) with
 | true => have := eq_of_beq e1; omega
 | false =>
  cases e2 : (r.kind == 2) with
  | true => have := eq_of_beq e2; omega
  | false =>
   cases e3 : (r.kind == 3) with
   | true => have := eq_of_beq e3; omega
   | false =>
    cases e4 : (r.kind == 4) with
    | true => have := eq_of_beq e4; omega
    | false => rw [e1, e2, e3, e4] at h; exact absurd h (show ¬ (10 : Int) = 0 by decide)
theorem AgB {bays : List SBay} {N : List ByteArray} {B : List Int} {r : SRel} (h : Cl bays N B r = 0) : fitR r = true /\ Uq r /\ r.pubs.length <= 8 := by
 unfold Cl at h
 obtain ⟨_, h⟩ := bz h (by decide)
 cases e : inB N r.name with
 | true => rw [e] at h; exact absurd h (show ¬ (8 : Int) = 0 by decide)
 | false =>
  rw [e, cond_false] at h
  obtain ⟨hp, h⟩ := bz' h
  obtain ⟨k1, k4⟩ := Ahb hp
  unfold Hn at h
  obtain ⟨_, h⟩ := bz h (by decide)
  obtain ⟨_, h⟩ := bz h (by decide)
  obtain ⟨_, h⟩ := bz h (by decide)
  obtain ⟨_, h⟩ := bz h (by decide)
  obtain ⟨_, h⟩ := bz h (by decide)
  obtain ⟨_, h⟩ := bz h (by decide)
  obtain ⟨hc, h⟩ := bz h (by decide)
  unfold Fs at h
  obtain ⟨_, h⟩ := bz' h
  obtain ⟨hs, h⟩ := bz' h
  obtain ⟨hpu, _⟩ := bz' h
  unfold Bm at hc
  simp only [Bool.and_eq_true, decide_eq_true_eq, Bool.not_eq_true'] at hc
  obtain ⟨c1, c2, c3, c4, c5⟩ := hc
  refine ⟨?_, ⟨(Ff hs).1, (Ff hpu).1⟩, by omega⟩
  unfold fitR
  have hsg : (r.sets.all fun x => decide (x.sigs.length <= 1000)) = true := by
   rw [List.all_eq_true]
   intro x hx
   rw [List.any_eq_false] at c5
   have := c5 x hx
   unfold F3 at this
   simp only [Bool.not_eq_true', Bool.not_eq_false, Bool.and_eq_true, decide_eq_true_eq] at this
   exact decide_eq_true (by omega)
  rw [decide_eq_true k1, decide_eq_true k4, decide_eq_true (show r.rules.length <= 1000 by omega), decide_eq_true (show r.sets.length <= 1000 by omega), decide_eq_true (show r.pubs.length <= 1000 by omega), decide_eq_true (show r.subs.length <= 1000 by omega), hsg]
  rfl
def C3 (c : SCfg) : Int := bif C2 c.sta != 0 then C2 c.sta else bif (B4 c.sta.bays (A9 c.sta) [] 0 c.rels).2 != 0 then (B4 c.sta.bays (A9 c.sta) [] 0 c.rels).2 else (C4 c.rels 0 c.rels).2
theorem Ul {c : SCfg} (h : okCf c = true) (hL : D9 c = false) (h0 : (B4 c.sta.bays (A9 c.sta) [] 0 c.rels).2 = 0) : fitC c.rels = true /\ (∀ r ∈ c.rels, Uq r) /\ c.rels.length <= 20 /\ ∀ r ∈ c.rels, r.pubs.length <= 8 := by
 unfold D9 Pj at hL
 simp only [Bool.or_eq_false_iff, decide_eq_false_iff_not] at hL
 have hl : c.rels.length <= 20 := by have := hL.2.1; omega
 have key : ∀ r ∈ c.rels, fitR r = true /\ Uq r /\ r.pubs.length <= 8 := fun r hr => by
  obtain ⟨k, hk, rfl⟩ := List.getElem_of_mem hr
  obtain ⟨N, B, e⟩ := AbX _ _ _ _ _ h0 k hk
  have e1 : c.rels.getD k rel0 = c.rels[k] := by simp [List.getD, hk]
  rw [e1] at e
  exact AgB e
 refine ⟨?_, fun r hr => (key r hr).2.1, hl, fun r hr => (key r hr).2.2⟩
 unfold fitC
 rw [decide_eq_true (show c.rels.length <= 1000 by omega), (Jl h).2.2, List.all_eq_true.2 fun r hr => (key r hr).1]
 rfl
theorem Aek {c : SCfg} (h : okCf c = true) (hL : D9 c = false) (h0 : C3 c = 0) : OkC c := by
 unfold C3 at h0
 obtain ⟨_, h0⟩ := bz' h0
 obtain ⟨h1, h2⟩ := bz' h0
 obtain ⟨a, b, d, e⟩ := Ul h hL h1
 exact ⟨a, h2, b, d, e⟩
def eSR (a : SSta × List SRel) : List AV := [aSta a.1, .c (.d (Cq a.2))]
theorem Qz : InjT eSR := fun a b h => Prod.ext (Lt _ _ (Ai h).1) (At (sz := 53) (d0 := rel0) Jh _ _ (H7 (Ai (Ai h).2).1))
def cSR (a : SSta × List SRel) : Bool := D7 a.1 && (Ak a.2 && a.2.all B6)
def ZTc : KTc where
 okS := okG eSt D7
 chk x := C2 (theT eSt x)
 okT := okG eSR cSR
 se x := M6 (theT eSR x).1 (theT eSR x).2
 okg := okG eCf fun c => fitC c.rels
 sg x := C4 (theT eCf x).rels 0 (theT eCf x).rels
theorem zTc {c : SCfg} (h : okCf c = true) : ZTc.okS [AV.agg (List.map C.d (staC c.sta))] = true /\ ZTc.chk [AV.agg (List.map C.d (staC c.sta))] = C2 c.sta /\ ZTc.okT [AV.agg (List.map C.d (staC c.sta)), AV.c (C.d (Aa 53 relC rel0 c.rels))] = true /\
  ZTc.se [AV.agg (List.map C.d (staC c.sta)), AV.c (C.d (Aa 53 relC rel0 c.rels))] = M6 c.sta c.rels /\ (fitC c.rels = true -> ZTc.okg [AV.agg (List.map C.d (cfgC c))] = true) /\ ZTc.sg [AV.agg (List.map C.d (cfgC c))] = C4 c.rels 0 c.rels := by
 obtain ⟨h1, h2, h3⟩ := Jl h
 have t1 : theT eSt [AV.agg (List.map C.d (staC c.sta))] = c.sta := Ag Ec c.sta
 have t2 : theT eSR [AV.agg (List.map C.d (staC c.sta)), AV.c (C.d (Aa 53 relC rel0 c.rels))] = (c.sta, c.rels) := Ag Qz (c.sta, c.rels)
 have t3 : theT eCf [AV.agg (List.map C.d (cfgC c))] = c := Ag Cz c
 refine ⟨Aj Ec (c := D7) c.sta h1, ?_, Aj Qz (c := cSR) (c.sta, c.rels) (by unfold cSR; simp only [Bool.and_eq_true]; exact ⟨h1, h2, h3⟩), ?_, fun hf => Aj Cz (c := fun c => fitC c.rels) c hf, ?_⟩
 ·dsimp only [ZTc]; rw [t1]
 ·dsimp only [ZTc]; rw [t2]
 ·dsimp only [ZTc]; rw [t3]
theorem sTc : OrcS prog (oTc ZTc) :=
 .cons (.t' (enc := eSt) (c := D7) (r := fun s => vI (C2 s)) fun s hs => c12 s (Et hs).2.2.2.2) (.cons (.t' (enc := eSR) (c := cSR) (r := fun a => vQ (M6 a.1 a.2)) fun a ha => by
  unfold cSR at ha
  simp only [Bool.and_eq_true] at ha
  exact c13c a.1 a.2 ha.1 ha.2.1 ha.2.2) (.cons (.t' (enc := eCf) (c := fun c => fitC c.rels) (r := fun c => vQ (C4 c.rels 0 c.rels)) fun c hc => cSck c hc) .nil))
theorem Yv (Z : KTc) (c : SCfg) {R : Option (T (AV × Hp))} (h1 : Z.okS [AV.agg (List.map C.d (staC c.sta))] = true) (h2 : Z.chk [AV.agg (List.map C.d (staC c.sta))] = C2 c.sta) (h3 : Z.okT [AV.agg (List.map C.d (staC c.sta)), AV.c (C.d (Aa 53 relC rel0 c.rels))] = true)
  (h4 : C2 c.sta = 0 -> Z.se [AV.agg (List.map C.d (staC c.sta)), AV.c (C.d (Aa 53 relC rel0 c.rels))] = B4 c.sta.bays (A9 c.sta) [] 0 c.rels) (h5 : (B4 c.sta.bays (A9 c.sta) [] 0 c.rels).2 = 0 -> Z.okg [AV.agg (List.map C.d (cfgC c))] = true) (h6 : Z.sg [AV.agg (List.map C.d (cfgC c))] = C4 c.rels 0 c.rels)
  (hR : R = (bif Z.okS [AV.agg (List.map C.d (staC c.sta))] then (bif Z.chk [AV.agg (List.map C.d (staC c.sta))] != 0 then some (T.leaf (AV.c (C.d (D.v (Value.int IntKind.i64 (Z.chk [AV.agg (List.map C.d (staC c.sta))])))), [])) else (bif Z.okT [AV.agg (List.map C.d (staC c.sta)), AV.c (C.d (Aa 53 relC rel0 c.rels))] then
    (bif (Z.se [AV.agg (List.map C.d (staC c.sta)), AV.c (C.d (Aa 53 relC rel0 c.rels))]).2 != 0 then some (T.leaf (AV.c (C.d (D.v (Value.int IntKind.i64 (Z.se [AV.agg (List.map C.d (staC c.sta)), AV.c (C.d (Aa 53 relC rel0 c.rels))]).2))), [])) else
      (bif Z.okg [AV.agg (List.map C.d (cfgC c))] then some (T.leaf (AV.c (C.d (D.v (Value.int IntKind.i64 (Z.sg [AV.agg (List.map C.d (cfgC c))]).2))), [])) else none)) else none)) else none)) : R = some (.leaf (vI (C3 c), [])) := by
 rw [hR, h1, h2, h3, h6]
 unfold C3
 cases hz : (C2 c.sta != 0) with
 | true => rfl
 | false =>
  rw [h4 (by simpa using hz)]
  cases hy : ((B4 c.sta.bays (A9 c.sta) [] 0 c.rels).2 != 0) with
  | true => rfl
  | false =>
   rw [h5 (by simpa using hy)]
   rfl
theorem cTab (c : SCfg) (h : okCf c = true) (hL : D9 c = false) : CX prog 13 [aCfg c] [] (vI (C3 c)) [] := by
 obtain ⟨z1, z2, z3, z4, z5, z6⟩ := zTc h
 refine Ax sTc.ok func13 (by kernel_rfl) rfl (Yv ZTc c z1 z2 z3 (fun h0 => ?_) (fun h0 => z5 (Ul h hL h0).1) z6 (evTc ZTc c))
 rw [z4]
 unfold M6
 rw [h0]
 rfl
def cSR' (a : SSta × List SRel) : Bool := cSz a.1 && (Ak a.2 && a.2.all B6)
def ZRt : KTc where
 okS := okG eSt D7
 chk x := C2 (theT eSt x)
 okT := okG eSR cSR'
 se x := B4 (theT eSR x).1.bays (A9 (theT eSR x).1) [] 0 (theT eSR x).2
 okg := okG eCf fun c => fitC c.rels
 sg x := C4 (theT eCf x).rels 0 (theT eCf x).rels
theorem sRt : OrcS prog (oRt ZRt) :=
 .cons (.t' (enc := eSt) (c := D7) (r := fun s => vI (C2 s)) fun s hs => c8 s (Et hs).2.2.2.2) (.cons (.t' (enc := eSR) (c := cSR') (r := fun a => vQ (B4 a.1.bays (A9 a.1) [] 0 a.2)) fun a ha => by
  unfold cSR' at ha
  simp only [Bool.and_eq_true] at ha
  exact cCk a.1 a.2 ha.1 ha.2.1 ha.2.2) (.cons (.t' (enc := eCf) (c := fun c => fitC c.rels) (r := fun c => vQ (C4 c.rels 0 c.rels)) fun c hc => cRck c hc) .nil))
theorem cRtb (c : SCfg) (h : okCf c = true) (hL : D9 c = false) : CX prog 12 [aCfg c] [] (vI (C3 c)) [] := by
 obtain ⟨h1, h2, h3⟩ := Jl h
 have t1 : theT eSt [AV.agg (List.map C.d (staC c.sta))] = c.sta := Ag Ec c.sta
 have t2 : theT eSR [AV.agg (List.map C.d (staC c.sta)), AV.c (C.d (Aa 53 relC rel0 c.rels))] = (c.sta, c.rels) := Ag Qz (c.sta, c.rels)
 have t3 : theT eCf [AV.agg (List.map C.d (cfgC c))] = c := Ag Cz c
 have hz : cSz c.sta = true := by
  unfold D9 Ue at hL
  simp only [Bool.or_eq_false_iff, decide_eq_false_iff_not] at hL
  unfold cSz
  simp only [Bool.and_eq_true, decide_eq_true_eq]
  omega
 refine Ax sRt.ok func12 (by kernel_rfl) rfl (Yv ZRt c (Aj Ec (c := D7) c.sta h1) ?_ (Aj Qz (c := cSR') (c.sta, c.rels) (by unfold cSR'; simp only [Bool.and_eq_true]; exact ⟨hz, h2, h3⟩)) (fun _ => ?_) (fun h0 => Aj Cz (c := fun c => fitC c.rels) c (Ul h hL h0).1) ?_ (evRt ZRt c))
 ·dsimp only [ZRt]; rw [t1]
 ·dsimp only [ZRt]; rw [t2]
 ·dsimp only [ZRt]; rw [t3]
end Go.Proofs.YtbpndheehcbldaaGreatDoor.tb
namespace Go.Eb
open Go.RowKit
section
variable {β β' : Bt} {w : World} {I : Im} {H : Hp}
end
end Go.Eb
namespace Go.Eb
open Go.RowKit
def AdX : (R : Type) -> List AV -> Hp -> (AV -> Hp -> Option (T R)) -> Option (T R) := fun _ args H k => match args with
 | [x] => k x H
 | _ => none
theorem AdW {P : Program} {f0 : FuncId} {fn : Func} (hf : P.funcs[f0]? = some fn) (hname : (fn.name == "runtime.NumGoroutine") = false) (hb : fn.body.isNone = true) (hn : Extern.findNext fn = none) (he : Extern.find fn = some Extern.AbiNoEscape.same) :
  ∀ (R : Type) args H (k : AV -> Hp -> Option (T R)) t, AdX R args H k = some t -> ∃ x H', k x H' = some t /\ CX P f0 args H x H' := fun R args H k t h => by
 unfold AdX at h
 split at h
 ·rename_i x
  refine ⟨_, _, h, ?_⟩
  unfold CX
  rw [hf]
  simp only [hb, if_true]
  intro β I w vs hr ha
  obtain ⟨v, rfl⟩ : ∃ v, vs = #[v] := by
   have := ha.1
   simp at this
   match vs, this with
   | ⟨[v]⟩, _ => exact ⟨v, rfl⟩
  refine ⟨v, w, β, I, ?_, hr, ha.2 0 x v rfl rfl, .refl _ _ _, .refl _⟩
  rw [run_callFunc_extern hf hname hb hn he, Lib.run_noEscape]
  rfl
 ·simp at h
end Go.Eb
namespace Go.Eb
open Go.RowKit
def Gj (P : Program) (ann : FuncId -> Ann) (sel fz : FuncId -> Bool) (pre : Orc) (fuel : Nat) : Nat -> Orc
 | 0 => pre
 | n + 1 => fun _ f args H k => bif sel f then pre _ f args H k else (match P.funcs[f]? with
  | some fn => (match fn.body with
   | some c => bif seqN 0 H then (match Eh P (Gj P ann sel fz pre fuel n) (ann f) fuel fn c args H (fun x H' => some (.leaf (x, H'))) with
    | some t => (match join 40 t with
     | some (x, H') => bif fz f && H.isEmpty then (match frzA H' x with
      | some y => k y []
      | none => none) else k x H'
     | none => none)
    | none => none) else none
   | none => pre _ f args H k)
  | none => none)
theorem B8 (P : Program) (ann : FuncId -> Ann) (sel fz : FuncId -> Bool) {pre : Orc} (ht : Dh P pre) (fuel : Nat) : ∀ n, Dh P (Gj P ann sel fz pre fuel n)
 | 0 => ht
 | n + 1 => fun R f args H k t h => by
  simp only [Gj] at h
  cases hsel : sel f with
  | true => rw [hsel] at h; exact ht R f args H k t h
  | false =>
   rw [hsel] at h
   simp only [cond_false] at h
   split at h
   ·rename_i fn hf
    split at h
    ·rename_i c hb
     cases hs : seqN 0 H with
     | false => rw [hs] at h; cases h
     | true =>
      rw [hs] at h
      simp only [cond_true] at h
      split at h
      ·rename_i t' ht'
       rw [Wo] at ht'
       split at h
       ·rename_i x H' hj
        have hcr := AdK (B8 P ann sel fz ht fuel n) hf hb hs ht' (Uf hj)
        cases hz : (fz f && H.isEmpty) with
        | false => rw [hz] at h; exact ⟨x, H', h, .of_cr hf hb hcr⟩
        | true =>
         rw [hz] at h
         simp only [cond_true] at h
         simp only [Bool.and_eq_true, List.isEmpty_iff] at hz
         obtain ⟨_, rfl⟩ := hz
         split at h
         ·rename_i y hy
          exact ⟨y, [], h, .of_cr hf hb (hcr.data hy)⟩
         ·cases h
       ·simp at h
      ·simp at h
    ·exact ht R f args H k t h
   ·simp at h
def frzQ (t : Option (T (AV × Hp))) : Option AV := match t with
 | some (.leaf p) => frzA p.2 p.1
 | _ => none
theorem Ajs {P : Program} {orc : Orc} (ho : Dh P orc) {ann : Ann} {n : Nat} {f : FuncId} {fn : Func} {c : Code} {args : List AV} {y : AV} (hf : P.funcs[f]? = some fn) (hb : fn.body = some c)
  (h : frzQ (Eh P orc ann n fn c args [] (fun x H' => some (.leaf (x, H')))) = some y) : CX P f args [] y [] := by
 cases ht : Eh P orc ann n fn c args [] (fun x H' => some (T.leaf (x, H'))) with
 | none => rw [ht] at h; cases h
 | some t =>
  rw [ht] at h
  cases t with
  | node a b => cases h
  | leaf p =>
   obtain ⟨x, H'⟩ := p
   have h : frzA H' x = some y := h
   exact .of_cr hf hb (((Ajr ho hf hb rfl ht).cr hf hb).data h)
mutual
def eqDt : Nat -> D -> D -> Bool
 | 0, _, _ => false
 | _ + 1, .v a, .v b => beqV a b
 | _ + 1, .v a, .sl _ n _ => AaZ a && Nat.beq n 0
 | k + 1, .sl sz n f, .sl sz' m g => Nat.beq sz sz' && Nat.beq n m && G6 (fun i => eqDs k (f i) (g i)) n
 | _ + 1, .sl _ _ _, .v _ => false
def eqDs : Nat -> List D -> List D -> Bool
 | 0, _, _ => false
 | _ + 1, [], [] => true
 | k + 1, x :: a, y :: b => eqDt k x y && eqDs k a b
 | _ + 1, _, _ => false
end
mutual
theorem Aby : ∀ (k : Nat) (x y : D), eqDt k x y = true -> DE x y
 | 0, x, y, h => by simp [eqDt] at h
 | k + 1, .v a, .v b, h => by simp only [eqDt] at h; rw [Nd h]; exact .v b
 | k + 1, .v a, .sl sz n f, h => by
  simp only [eqDt, Bool.and_eq_true] at h
  have e := Nat.eq_of_beq_eq_true h.2
  subst e
  rw [Qv h.1]
  exact .nil _ _
 | k + 1, .sl sz n f, .sl sz' m g, h => by
  simp only [eqDt, Bool.and_eq_true] at h
  have e1 := Nat.eq_of_beq_eq_true h.1.1
  have e2 := Nat.eq_of_beq_eq_true h.1.2
  subst e1 e2
  exact .sls fun i hi => Abz k _ _ (Fm h.2 i hi)
 | k + 1, .sl _ _ _, .v _, h => by simp [eqDt] at h
theorem Abz : ∀ (k : Nat) (a b : List D), eqDs k a b = true -> DEs a b
 | 0, a, b, h => by simp [eqDs] at h
 | _ + 1, [], [], _ => ⟨rfl, fun j d e h => by simp at h⟩
 | k + 1, x :: a, y :: b, h => by
  simp only [eqDs, Bool.and_eq_true] at h
  have h1 := Aby k x y h.1
  have h2 := Abz k a b h.2
  refine ⟨by simp [h2.1], fun j d e hd he => ?_⟩
  cases j with
  | zero => simp at hd he; subst hd he; exact h1
  | succ j => exact h2.2 j d e (by simpa using hd) (by simpa using he)
 | k + 1, [], _ :: _, h => by simp [eqDs] at h
 | k + 1, _ :: _, [], h => by simp [eqDs] at h
end
def eqC : C -> C -> Bool
 | .d x, .d y => eqDt 400 x y
 | _, _ => false
theorem AbB {x y : C} (h : eqC x y = true) : Cle x y := by
 unfold eqC at h
 split at h
 ·exact Aby 400 _ _ h
 ·cases h
def eqA : AV -> AV -> Bool
 | .c x, .c y => eqC x y
 | .agg a, .agg b => beqL eqC a b
 | .tup a, .tup b => beqL (fun p q => (p.1 == q.1) && beqL eqC p.2 q.2) a b
 | _, _ => false
theorem AbC {x y : AV} (h : eqA x y = true) : Ale x y := by
 unfold eqA at h
 split at h
 ·exact AbB h
 ·exact En (fun _ _ h => AbB h) h
 ·exact En (q := fun p q => p.1 = q.1 /\ Csle p.2 q.2) (fun p q h => by
   simp only [Bool.and_eq_true, beq_iff_eq] at h
   exact ⟨h.1, En (fun _ _ h => AbB h) h.2⟩) h
 ·simp at h
def litQ (o : Option AV) (y : AV) : Bool := match o with
 | some x => eqA x y
 | none => false
theorem Ei {P : Program} {orc : Orc} (ho : Dh P orc) {ann : Ann} {n : Nat} {f : FuncId} {fn : Func} {c : Code} {args : List AV} {y : AV} (hf : P.funcs[f]? = some fn) (hb : fn.body = some c)
  (h : litQ (frzQ (Eh P orc ann n fn c args [] (fun x H' => some (.leaf (x, H'))))) y = true) : CX P f args [] y [] := by
 cases ht : frzQ (Eh P orc ann n fn c args [] (fun x H' => some (T.leaf (x, H')))) with
 | none => rw [ht] at h; cases h
 | some x => rw [ht] at h; exact (Ajs ho hf hb ht).le (AbC h) (.refl _)
def isL (lit x : List AV) : Bool := beqL eqA x lit
theorem AnsS.lit {P : Program} {f : FuncId} {lit : List AV} {y : AV} (h : CX P f lit [] y []) : AnsS P f (ansG (isL lit) fun _ => y) := .g fun x hx => h.ge (En (fun _ _ h => AbC h) hx) (.refl _)
def decF : Nat -> Nat -> ByteArray
 | 0, _ => e0
 | f + 1, n => bif Nat.blt n 10 then ⟨#[UInt8.ofNat (48 + n)]⟩ else decF f (n / 10) ++ ⟨#[UInt8.ofNat (48 + n % 10)]⟩
theorem AbU : ∀ (f n : Nat), n < 10 ^ f -> 0 < f -> decF f n = decB n
 | 0, _, _, h => by omega
 | f + 1, n, h, _ => by
  unfold decF
  by_cases hn : n < 10
  ·rw [show Nat.blt n 10 = true from by rw [Nat.blt_eq]; exact hn, cond_true, Bo hn]
  ·have hb : Nat.blt n 10 = false := by
    cases e : Nat.blt n 10 with
    | false => rfl
    | true => rw [Nat.blt_eq] at e; exact absurd e hn
   rw [hb, cond_false, Gk hn, Bo (Nat.mod_lt n (by omega))]
   cases f with
   | zero => omega
   | succ f => rw [AbU (f + 1) (n / 10) (by rw [Nat.pow_succ] at h; omega) (by omega)]
def itOk : LB
 | [.c (.d (.v (.int .i64 n)))] => decide (0 <= n) && decide (n <= 1000000)
 | _ => false
def itA : List AV -> AV
 | [.c (.d (.v (.int .i64 n)))] => vS (decF 8 n.toNat)
 | _ => .u
theorem Ake {P : Program} {f : FuncId} (hI : ∀ n : Int, -1000000 <= n -> n <= 1000000 -> CX P f [vI n] [] (vS (decI n)) []) : AnsS P f (ansG itOk itA) := .g fun x h => by
 unfold itOk at h
 split at h
 ·rename_i n
  simp only [Bool.and_eq_true, decide_eq_true_eq] at h
  have := hI n (by omega) h.2
  have e : decI n = decF 8 n.toNat := by
   unfold decI
   rw [decide_eq_false (by omega), cond_false, AbU 8 n.toNat (by omega) (by omega)]
  rw [e] at this
  exact this
 ·cases h
def tx1 : List D -> ByteArray
 | [.v (.string s)] => s
 | _ => e0
def txD : D -> List ByteArray
 | .sl _ n f => (List.range n).map fun i => tx1 (f i)
 | _ => []
theorem AnsS.litL {P : Program} {f : FuncId} {fn : Func} {lit : List AV} {v : Value} (hf : P.funcs[f]? = some fn) (hb : fn.body = some (Ad fn)) (h : CX P f lit [] (.c (.d (.v v))) []) : AnsS P f (ansL (isL lit) fun _ => .c (.d (.v v))) := .l hf hb fun x hx => ⟨h.ge (En (fun _ _ h => AbC h) hx) (.refl _), rfl⟩
theorem Aci : Tq AdX := fun args H => by
 match args with
 | [] => exact .no fun R k => rfl
 | [x] => exact .one x H fun R k => rfl
 | _ :: _ :: _ => exact .no fun R k => rfl
end Go.Eb
namespace Go.Proofs.YtbpndheehcbldaaGreatDoor.kn
open Go.RowKit Go.Eb
set_option maxRecDepth 100000
def clOk : LB
 | [.c (.d (.sl sz n f))] => Nat.beq sz 1 && (Nat.ble 1 n && (Nat.ble n 1000000 && (List.range n).all fun i => match f i with
  | [.v (.string _)] => true
  | _ => false))
 | _ => false
def clA : List AV -> List ByteArray
 | [.c (.d x)] => txD x
 | _ => []
def X2 : ByteArray := ⟨#[115, 116, 97, 116, 105, 111, 110, 32, 83, 59, 32, 98, 117, 115, 32, 65, 59, 32, 115, 111, 117, 114, 99, 101, 32, 71, 32, 49, 48, 48, 48, 32, 49, 32, 49, 48, 32, 50, 32, 50, 48, 59, 32, 98, 97, 121, 32, 81, 32, 115, 111, 117, 114, 99, 101, 32, 71, 32, 123, 32, 99, 116, 32, 49, 59, 32, 118, 116, 32, 49, 59, 32, 116, 114, 97, 118, 101, 108, 32, 50, 59, 32, 115, 101, 108, 101, 99, 116, 32, 65, 32, 99, 108, 111, 115, 101, 100, 59, 32, 125, 32, 114, 101, 108, 97, 121, 32, 82, 32, 115, 111, 117, 114, 99, 101, 32, 81, 32, 123, 32, 100, 101, 102, 105, 110, 105, 116, 101, 32, 49, 48, 32, 50, 59, 32, 115, 101, 116, 32, 68, 32, 116, 114, 105, 112, 32, 116, 105, 109, 101, 59, 32, 112, 117, 98, 108, 105, 115, 104, 32, 68, 32, 49, 32, 52, 59, 32, 125]⟩
def kIt (ln : Int) (ws : List ByteArray) (b : Bool) (kids : List (List D)) : List D := [dI ln, .sl 2 ws.length (fun i => [dS (ws.getD i e0), dB false]), dB b, .sl 4 kids.length (fun i => kids.getD i [])]
def Js : List (List D) := [kIt 1 [⟨#[115, 116, 97, 116, 105, 111, 110]⟩, ⟨#[83]⟩] false [], kIt 1 [⟨#[98, 117, 115]⟩, ⟨#[65]⟩] false [], kIt 1 [⟨#[115, 111, 117, 114, 99, 101]⟩, ⟨#[71]⟩, ⟨#[49, 48, 48, 48]⟩, ⟨#[49]⟩, ⟨#[49, 48]⟩, ⟨#[50]⟩, ⟨#[50, 48]⟩] false [], kIt 1 [⟨#[98, 97, 121]⟩, ⟨#[81]⟩, ⟨#[115, 111, 117, 114, 99, 101]⟩, ⟨#[71]⟩] true [kIt 1 [⟨#[99, 116]⟩, ⟨#[49]⟩] false [], kIt 1 [⟨#[118, 116]⟩, ⟨#[49]⟩] false [], kIt 1 [⟨#[116, 114, 97, 118, 101, 108]⟩, ⟨#[50]⟩] false [], kIt 1 [⟨#[115, 101, 108, 101, 99, 116]⟩, ⟨#[65]⟩, ⟨#[99, 108, 111, 115, 101, 100]⟩] false []], kIt 1 [⟨#[114, 101, 108, 97, 121]⟩, ⟨#[82]⟩, ⟨#[115, 111, 117, 114, 99, 101]⟩, ⟨#[81]⟩] true [kIt 1 [⟨#[100, 101, 102, 105, 110, 105, 116, 101]⟩, ⟨#[49, 48]⟩, ⟨#[50]⟩] false [], kIt 1 [⟨#[115, 101, 116]⟩, ⟨#[68]⟩, ⟨#[116, 114, 105, 112]⟩, ⟨#[116, 105, 109, 101]⟩] false [], kIt 1 [⟨#[112, 117, 98, 108, 105, 115, 104]⟩, ⟨#[68]⟩, ⟨#[49]⟩, ⟨#[52]⟩] false []]]
def kSta : SSta := ⟨⟨#[83]⟩, [⟨#[65]⟩], [], [⟨⟨#[71]⟩, 1000, 1, 10, 2, 20⟩], [⟨⟨#[81]⟩, 2, 0, 0, 0, 0, [⟨0, 1⟩], true, 1, 1, 0, 2⟩]⟩
def kRel : SRel := { rel0 with name := ⟨#[82]⟩, kind := 2, bay := 0, don := true, dpk := 10, ddl := 2, sets := [⟨⟨#[68]⟩, [⟨#[116, 114, 105, 112]⟩, ⟨#[116, 105, 109, 101]⟩]⟩], pubs := [⟨⟨#[68]⟩, 1, 4⟩] }
def kCfg : SCfg := ⟨kSta, [kRel]⟩
abbrev vLn (x : List D) (b : Bool) (l e : Int) : AV := .tup [(b, x.map .d), (false, [.d (dI l)]), (false, [.d (dI e)])]
abbrev vE2 (a e : Int) : AV := .tup [(false, [.d (dI a)]), (false, [.d (dI e)])]
def kPb : Pbl := ⟨0, 0, 1, 4, [0, 3]⟩
def kDv : Dev := ⟨outS kRel, [0], []⟩
def kIn (ln : Int) (ws : List ByteArray) (b : Bool) (kids : List (List D)) : List D := [dI ln, .sl 2 ws.length (fun i => [dS (ws.getD i e0), dB false]), dB b, bif kids.isEmpty then .v (.slice none 0 0) else .sl 4 kids.length (fun i => kids.getD i [])]
def kItD (l : List (List D)) : D := .sl 4 l.length (fun i => l.getD i [])
abbrev Fw (l : List (List D)) : AV := .c (.d (kItD l))
def preI (r : Orc) : Orc := Orc.cons 217 AdX <| Orc.cons 89 (ansG itOk itA) (Orc.cons 142 (ansN clOk (fun x => .c (.row 0 1 (clA x).length)) fun x => [(0, .row (clA x).length (fun i => busC ((clA x).getD i e0)) 1 9)]) r)
def selI (f : FuncId) : Bool := Nat.beq f 89 || Nat.beq f 142
def kEnS : List (List D) := [kIn 0 [⟨#[115, 116, 97, 116, 105, 111, 110]⟩, ⟨#[83]⟩] false [], kIn 0 [⟨#[98, 117, 115]⟩, ⟨#[65]⟩] false [], kIn 0 [⟨#[115, 111, 117, 114, 99, 101]⟩, ⟨#[71]⟩, ⟨#[49, 48, 48, 48]⟩, ⟨#[49]⟩, ⟨#[49, 48]⟩, ⟨#[50]⟩, ⟨#[50, 48]⟩] false [], kIn 0 [⟨#[98, 97, 121]⟩, ⟨#[81]⟩, ⟨#[115, 111, 117, 114, 99, 101]⟩, ⟨#[71]⟩] true [kIn 0 [⟨#[99, 116]⟩, ⟨#[49]⟩] false [], kIn 0 [⟨#[118, 116]⟩, ⟨#[49]⟩] false [], kIn 0 [⟨#[116, 114, 97, 118, 101, 108]⟩, ⟨#[50]⟩] false [], kIn 0 [⟨#[115, 101, 108, 101, 99, 116]⟩, ⟨#[65]⟩, ⟨#[99, 108, 111, 115, 101, 100]⟩] false []]]
def kEnR : List (List D) := [kIt 0 [⟨#[114, 101, 108, 97, 121]⟩, ⟨#[82]⟩, ⟨#[115, 111, 117, 114, 99, 101]⟩, ⟨#[81]⟩] true [kIt 0 [⟨#[100, 101, 102, 105, 110, 105, 116, 101]⟩, ⟨#[49, 48]⟩, ⟨#[50]⟩] false [], kIt 0 [⟨#[115, 101, 116]⟩, ⟨#[68]⟩, ⟨#[116, 114, 105, 112]⟩, ⟨#[116, 105, 109, 101]⟩] false [], kIt 0 [⟨#[112, 117, 98, 108, 105, 115, 104]⟩, ⟨#[68]⟩, ⟨#[49]⟩, ⟨#[52]⟩] false []]]
def X4 : ByteArray := ⟨#[115, 116, 97, 116, 105, 111, 110, 32, 83, 59, 10, 98, 117, 115, 32, 65, 59, 10, 115, 111, 117, 114, 99, 101, 32, 71, 32, 49, 48, 48, 48, 32, 49, 32, 49, 48, 32, 50, 32, 50, 48, 59, 10, 98, 97, 121, 32, 81, 32, 115, 111, 117, 114, 99, 101, 32, 71, 32, 123, 10, 32, 32, 99, 116, 32, 49, 59, 10, 32, 32, 118, 116, 32, 49, 59, 10, 32, 32, 116, 114, 97, 118, 101, 108, 32, 50, 59, 10, 32, 32, 115, 101, 108, 101, 99, 116, 32, 65, 32, 99, 108, 111, 115, 101, 100, 59, 10, 125, 10, 114, 101, 108, 97, 121, 32, 82, 32, 115, 111, 117, 114, 99, 101, 32, 81, 32, 123, 10, 32, 32, 100, 101, 102, 105, 110, 105, 116, 101, 32, 49, 48, 32, 50, 59, 10, 32, 32, 115, 101, 116, 32, 68, 32, 116, 114, 105, 112, 32, 116, 105, 109, 101, 59, 10, 32, 32, 112, 117, 98, 108, 105, 115, 104, 32, 68, 32, 49, 32, 52, 59, 10, 125, 10]⟩
def anPs (r : Orc) : Orc := Orc.cons 41 (ansG (isL [vS X2]) fun _ => vLn [kItD Js] false 0 0) r
def anSd (r : Orc) : Orc := Orc.cons 42 (ansG (isL [Fw Js]) fun _ => vLn (staC kSta) true 0 0) r
def anRd (r : Orc) : Orc := Orc.cons 43 (ansG (isL [aSta kSta, Fw Js]) fun _ => vLn [Cq [kRel]] false 0 0) r
def anOu (r : Orc) : Orc := Orc.cons 45 (ansG (isL [aRel kRel]) fun _ => .c (.d (Ab (outS kRel)))) r
def anGg (r : Orc) : Orc := Orc.cons 33 (ansG (isL [aCfg kCfg]) fun _ => vE2 0 0) r
def anLd (r : Orc) : Orc := Orc.cons 18 (ansG (isL [vS X2]) fun _ => vLn (cfgC kCfg) true 0 0) r
def anSc (r : Orc) : Orc := Orc.cons 31 (ansG (isL [aSta kSta]) fun _ => vI 0) r
def anTc (r : Orc) : Orc := Orc.cons 32 (ansG (isL [aSta kSta, .c (.d (Cq [kRel]))]) fun _ => vE2 0 0) r
def anCk (r : Orc) : Orc := Orc.cons 13 (ansG (isL [aCfg kCfg]) fun _ => vI 0) r
def anCp (r : Orc) : Orc := Orc.cons 9 (ansG (isL [aCfg kCfg]) fun _ => .tup [(true, [.d (D5 [kPb]), .d (Hy [kDv])]), (false, [.d (dI 0)])]) r
def anRe (r : Orc) : Orc := Orc.cons 36 (ansG (isL [aSta kSta, .c (.d (Cq [kRel]))]) fun _ => Fw kEnR) r
def anFm (r : Orc) : Orc := Orc.cons 34 (ansL (isL [Fw (kEnS ++ kEnR)]) fun _ => vS X4) r
def anSv (r : Orc) : Orc := Orc.cons 14 (ansG (isL [aCfg kCfg]) fun _ => vS X4) r
end Go.Proofs.YtbpndheehcbldaaGreatDoor.kn
namespace Go.Proofs.YtbpndheehcbldaaGreatDoor.kn
open Go.RowKit Go.Eb
set_option maxRecDepth 100000
set_option maxRecDepth 100000
theorem evPs : litQ (frzQ (Eh prog (Gj prog (fun _ => na) (fun f => selI f) (fun f => Nat.beq f 182) (preI Orc.nil) 200 40) na 200 f41 (Ad f41) ([vS X2]) [] (fun x H' => some (.leaf (x, H'))))) (vLn [kItD Js] false 0 0) = true := by kernel_rfl
end Go.Proofs.YtbpndheehcbldaaGreatDoor.kn
namespace Go.Proofs.YtbpndheehcbldaaGreatDoor.kn
open Go.RowKit Go.Eb
set_option maxRecDepth 100000
set_option maxRecDepth 100000
theorem evSd : litQ (frzQ (Eh prog (Gj prog (fun _ => na) (fun f => selI f) (fun f => Nat.beq f 182) (preI Orc.nil) 200 40) na 200 f42 (Ad f42) ([Fw Js]) [] (fun x H' => some (.leaf (x, H'))))) (vLn (staC kSta) true 0 0) = true := by kernel_rfl
end Go.Proofs.YtbpndheehcbldaaGreatDoor.kn
namespace Go.Proofs.YtbpndheehcbldaaGreatDoor.kn
open Go.RowKit Go.Eb
set_option maxRecDepth 100000
set_option maxRecDepth 100000
theorem evRd : litQ (frzQ (Eh prog (Gj prog (fun _ => na) (fun f => selI f) (fun f => Nat.beq f 182) (preI Orc.nil) 200 40) na 200 f43 (Ad f43) ([aSta kSta, Fw Js]) [] (fun x H' => some (.leaf (x, H'))))) (vLn [Cq [kRel]] false 0 0) = true := by kernel_rfl
end Go.Proofs.YtbpndheehcbldaaGreatDoor.kn
namespace Go.Proofs.YtbpndheehcbldaaGreatDoor.kn
open Go.RowKit Go.Eb
set_option maxRecDepth 100000
set_option maxRecDepth 100000
theorem evOu : litQ (frzQ (Eh prog (Gj prog (fun _ => na) (fun f => selI f) (fun f => Nat.beq f 182) (preI Orc.nil) 200 40) na 200 f45 (Ad f45) ([aRel kRel]) [] (fun x H' => some (.leaf (x, H'))))) (.c (.d (Ab (outS kRel)))) = true := by kernel_rfl
end Go.Proofs.YtbpndheehcbldaaGreatDoor.kn
namespace Go.Proofs.YtbpndheehcbldaaGreatDoor.kn
open Go.RowKit Go.Eb
set_option maxRecDepth 100000
set_option maxRecDepth 100000
theorem evGg : litQ (frzQ (Eh prog (Gj prog (fun _ => na) (fun f => selI f || Nat.beq f 45) (fun f => Nat.beq f 182) (anOu (preI Orc.nil)) 200 40) na 200 f33 (Ad f33) ([aCfg kCfg]) [] (fun x H' => some (.leaf (x, H'))))) (vE2 0 0) = true := by kernel_rfl
end Go.Proofs.YtbpndheehcbldaaGreatDoor.kn
namespace Go.Proofs.YtbpndheehcbldaaGreatDoor.kn
open Go.RowKit Go.Eb
set_option maxRecDepth 100000
set_option maxRecDepth 100000
theorem evLd : litQ (frzQ (Eh prog (Gj prog (fun _ => na) (fun f => selI f || Nat.beq f 41 || Nat.beq f 42 || Nat.beq f 43 || Nat.beq f 33) (fun f => Nat.beq f 182) (anGg (anRd (anSd (anPs (preI Orc.nil))))) 200 40) na 200 f18 (Ad f18) ([vS X2]) [] (fun x H' => some (.leaf (x, H'))))) (vLn (cfgC kCfg) true 0 0) = true := by kernel_rfl
end Go.Proofs.YtbpndheehcbldaaGreatDoor.kn
namespace Go.Proofs.YtbpndheehcbldaaGreatDoor.kn
open Go.RowKit Go.Eb
set_option maxRecDepth 100000
set_option maxRecDepth 100000
theorem evSc : litQ (frzQ (Eh prog (Gj prog (fun _ => na) (fun f => selI f) (fun f => Nat.beq f 182) (preI Orc.nil) 200 40) na 200 f31 (Ad f31) ([aSta kSta]) [] (fun x H' => some (.leaf (x, H'))))) (vI 0) = true := by kernel_rfl
end Go.Proofs.YtbpndheehcbldaaGreatDoor.kn
namespace Go.Proofs.YtbpndheehcbldaaGreatDoor.kn
open Go.RowKit Go.Eb
set_option maxRecDepth 100000
set_option maxRecDepth 100000
theorem evTc : litQ (frzQ (Eh prog (Gj prog (fun _ => na) (fun f => selI f || Nat.beq f 31) (fun f => Nat.beq f 182) (anSc (preI Orc.nil)) 200 40) na 200 f32 (Ad f32) ([aSta kSta, .c (.d (Cq [kRel]))]) [] (fun x H' => some (.leaf (x, H'))))) (vE2 0 0) = true := by kernel_rfl
end Go.Proofs.YtbpndheehcbldaaGreatDoor.kn
namespace Go.Proofs.YtbpndheehcbldaaGreatDoor.kn
open Go.RowKit Go.Eb
set_option maxRecDepth 100000
set_option maxRecDepth 100000
theorem evCk : litQ (frzQ (Eh prog (Gj prog (fun _ => na) (fun f => selI f || Nat.beq f 31 || Nat.beq f 32 || Nat.beq f 33) (fun f => Nat.beq f 182) (anGg (anTc (anSc (preI Orc.nil)))) 200 40) na 200 f13 (Ad f13) ([aCfg kCfg]) [] (fun x H' => some (.leaf (x, H'))))) (vI 0) = true := by kernel_rfl
end Go.Proofs.YtbpndheehcbldaaGreatDoor.kn
namespace Go.Proofs.YtbpndheehcbldaaGreatDoor.kn
open Go.RowKit Go.Eb
set_option maxRecDepth 100000
set_option maxRecDepth 100000
theorem evCp : litQ (frzQ (Eh prog (Gj prog (fun _ => na) (fun f => selI f || Nat.beq f 13 || Nat.beq f 45) (fun f => Nat.beq f 182) (anOu (anCk (preI Orc.nil))) 200 40) na 200 f9 (Ad f9) ([aCfg kCfg]) [] (fun x H' => some (.leaf (x, H'))))) (.tup [(true, [.d (D5 [kPb]), .d (Hy [kDv])]), (false, [.d (dI 0)])]) = true := by kernel_rfl
end Go.Proofs.YtbpndheehcbldaaGreatDoor.kn
namespace Go.Proofs.YtbpndheehcbldaaGreatDoor.kn
open Go.RowKit Go.Eb
set_option maxRecDepth 100000
set_option maxRecDepth 100000
end Go.Proofs.YtbpndheehcbldaaGreatDoor.kn
namespace Go.Proofs.YtbpndheehcbldaaGreatDoor.kn
open Go.RowKit Go.Eb
set_option maxRecDepth 100000
set_option maxRecDepth 100000
theorem evRe : litQ (frzQ (Eh prog (Gj prog (fun _ => na) (fun f => selI f || Nat.beq f 31 || Nat.beq f 32) (fun f => Nat.beq f 182) (anTc (anSc (preI Orc.nil))) 200 40) na 200 f36 (Ad f36) ([aSta kSta, .c (.d (Cq [kRel]))]) [] (fun x H' => some (.leaf (x, H'))))) (Fw kEnR) = true := by kernel_rfl
end Go.Proofs.YtbpndheehcbldaaGreatDoor.kn
namespace Go.Proofs.YtbpndheehcbldaaGreatDoor.kn
open Go.RowKit Go.Eb
set_option maxRecDepth 100000
set_option maxRecDepth 100000
theorem evFm : litQ (frzQ (Eh prog (Gj prog (fun _ => na) (fun f => selI f) (fun f => Nat.beq f 182) (preI Orc.nil) 200 40) na 200 f34 (Ad f34) ([Fw (kEnS ++ kEnR)]) [] (fun x H' => some (.leaf (x, H'))))) (vS X4) = true := by kernel_rfl
end Go.Proofs.YtbpndheehcbldaaGreatDoor.kn
namespace Go.Proofs.YtbpndheehcbldaaGreatDoor.kn
open Go.RowKit Go.Eb
set_option maxRecDepth 100000
set_option maxRecDepth 100000
theorem evSv : litQ (frzQ (Eh prog (Gj prog (fun _ => na) (fun f => selI f || Nat.beq f 13 || Nat.beq f 31 || Nat.beq f 36 || Nat.beq f 34) (fun f => Nat.beq f 182) (anFm (anRe (anSc (anCk (preI Orc.nil))))) 200 40) na 200 f14 (Ad f14) ([aCfg kCfg]) [] (fun x H' => some (.leaf (x, H'))))) (vS X4) = true := by kernel_rfl
end Go.Proofs.YtbpndheehcbldaaGreatDoor.kn
namespace Go.Proofs.YtbpndheehcbldaaGreatDoor.kn
open Go.RowKit Go.Eb
set_option maxRecDepth 100000
set_option maxRecDepth 100000
theorem evKn : litQ (frzQ (Eh prog (Gj prog (fun _ => na) (fun f => selI f || Nat.beq f 18 || Nat.beq f 9 || Nat.beq f 14) (fun f => Nat.beq f 182) (anSv (anCp (anLd (preI Orc.nil)))) 200 40) na 200 f7 (Ad f7) ([]) [] (fun x H' => some (.leaf (x, H'))))) (vB true) = true := by kernel_rfl
end Go.Proofs.YtbpndheehcbldaaGreatDoor.kn
namespace Go.Proofs.YtbpndheehcbldaaGreatDoor.kn
open Go.RowKit Go.Eb
set_option maxRecDepth 100000
set_option maxRecDepth 100000
theorem Ajt (x : List AV) (h : clOk x = true) : CX prog 142 x [] (.c (.row 0 1 (clA x).length)) [(0, .row (clA x).length (fun i => busC ((clA x).getD i e0)) 1 9)] := by
 unfold clOk at h
 split at h
 ·rename_i sz n f
  simp only [Bool.and_eq_true, List.all_eq_true, List.mem_range, Nat.ble_eq] at h
  obtain ⟨h0, h1, h2, h3⟩ := h
  have h0 := Nat.eq_of_beq_eq_true h0
  subst h0
  have hl : (clA [.c (.d (.sl 1 n f))]).length = n := by simp [clA, txD]
  have hd : DE (.sl 1 n f) (Ab (clA [.c (.d (.sl 1 n f))])) := by
   have : ∀ i, i < n -> DEs (f i) (busC ((clA [.c (.d (.sl 1 n f))]).getD i e0)) := fun i hi => by
    have := h3 i hi
    have e : (clA [.c (.d (.sl 1 n f))]).getD i e0 = tx1 (f i) := by
     simp [clA, txD, List.getD, hi]
    rw [e]
    split at this
    ·rename_i s hs
     rw [hs]; exact .refl _
    ·cases this
   have g := DE.sls (sz := 1) this
   have e2 : Ab (clA [.c (.d (.sl 1 n f))]) = .sl 1 n fun i => busC ((clA [.c (.d (.sl 1 n f))]).getD i e0) := by
    unfold Ab Aa
    rw [hl]
   rw [e2]; exact g
  have := cln.cClone (clA [.c (.d (.sl 1 n f))]) (fun e => by rw [e] at hl; simp at hl; omega) (by rw [hl]; exact h2)
  exact this.ge (.cons (show DE _ _ from hd) .nil) (.refl _)
 ·cases h
theorem C6 {r : Orc} (h : OrcS prog r) : OrcS prog (preI r) := .cons ⟨AdW (fn := f217) func217 (by kernel_rfl) (by kernel_rfl) (by kernel_rfl) (by kernel_rfl), Aci⟩ <| .cons (Ake ito.cItoa) (.cons (.n Ajt) h)
theorem cxPs : CX prog 41 ([vS X2]) [] (vLn [kItD Js] false 0 0) [] := Ei (B8 prog _ _ _ (OrcS.ok (C6 .nil)) 200 40) func41 (by kernel_rfl) evPs
theorem cxSd : CX prog 42 ([Fw Js]) [] (vLn (staC kSta) true 0 0) [] := Ei (B8 prog _ _ _ (OrcS.ok (C6 .nil)) 200 40) func42 (by kernel_rfl) evSd
theorem cxRd : CX prog 43 ([aSta kSta, Fw Js]) [] (vLn [Cq [kRel]] false 0 0) [] := Ei (B8 prog _ _ _ (OrcS.ok (C6 .nil)) 200 40) func43 (by kernel_rfl) evRd
theorem cxOu : CX prog 45 ([aRel kRel]) [] (.c (.d (Ab (outS kRel)))) [] := Ei (B8 prog _ _ _ (OrcS.ok (C6 .nil)) 200 40) func45 (by kernel_rfl) evOu
theorem cxGg : CX prog 33 ([aCfg kCfg]) [] (vE2 0 0) [] := Ei (B8 prog _ _ _ (OrcS.ok (.cons (.lit cxOu) (C6 .nil))) 200 40) func33 (by kernel_rfl) evGg
theorem cxLd : CX prog 18 ([vS X2]) [] (vLn (cfgC kCfg) true 0 0) [] := Ei (B8 prog _ _ _ (OrcS.ok (.cons (.lit cxGg) (.cons (.lit cxRd) (.cons (.lit cxSd) (.cons (.lit cxPs) (C6 .nil)))))) 200 40) func18 (by kernel_rfl) evLd
theorem cxSc : CX prog 31 ([aSta kSta]) [] (vI 0) [] := Ei (B8 prog _ _ _ (OrcS.ok (C6 .nil)) 200 40) func31 (by kernel_rfl) evSc
theorem cxTc : CX prog 32 ([aSta kSta, .c (.d (Cq [kRel]))]) [] (vE2 0 0) [] := Ei (B8 prog _ _ _ (OrcS.ok (.cons (.lit cxSc) (C6 .nil))) 200 40) func32 (by kernel_rfl) evTc
theorem cxCk : CX prog 13 ([aCfg kCfg]) [] (vI 0) [] := Ei (B8 prog _ _ _ (OrcS.ok (.cons (.lit cxGg) (.cons (.lit cxTc) (.cons (.lit cxSc) (C6 .nil))))) 200 40) func13 (by kernel_rfl) evCk
theorem cxCp : CX prog 9 ([aCfg kCfg]) [] (.tup [(true, [.d (D5 [kPb]), .d (Hy [kDv])]), (false, [.d (dI 0)])]) [] := Ei (B8 prog _ _ _ (OrcS.ok (.cons (.lit cxOu) (.cons (.lit cxCk) (C6 .nil)))) 200 40) func9 (by kernel_rfl) evCp
theorem cxRe : CX prog 36 ([aSta kSta, .c (.d (Cq [kRel]))]) [] (Fw kEnR) [] := Ei (B8 prog _ _ _ (OrcS.ok (.cons (.lit cxTc) (.cons (.lit cxSc) (C6 .nil)))) 200 40) func36 (by kernel_rfl) evRe
theorem cxFm : CX prog 34 ([Fw (kEnS ++ kEnR)]) [] (vS X4) [] := Ei (B8 prog _ _ _ (OrcS.ok (C6 .nil)) 200 40) func34 (by kernel_rfl) evFm
theorem cxSv : CX prog 14 ([aCfg kCfg]) [] (vS X4) [] := Ei (B8 prog _ _ _ (OrcS.ok (.cons (.litL func34 (by kernel_rfl) cxFm) (.cons (.lit cxRe) (.cons (.lit cxSc) (.cons (.lit cxCk) (C6 .nil)))))) 200 40) func14 (by kernel_rfl) evSv
theorem cxKn : CX prog 7 ([]) [] (vB true) [] := Ei (B8 prog _ _ _ (OrcS.ok (.cons (.lit cxSv) (.cons (.lit cxCp) (.cons (.lit cxLd) (C6 .nil))))) 200 40) func7 (by kernel_rfl) evKn
theorem c9k (_ : Unit) : CX prog 7 [] [] (vB true) [] := cxKn
end Go.Proofs.YtbpndheehcbldaaGreatDoor.kn
namespace Go.Proofs.YtbpndheehcbldaaGreatDoor.st
open Go.RowKit Go.Eb
theorem Z3 {ds : List D} (h : Shp prog 9 ds) : ∃ s, DEs ds (busC s) /\ (fun _ => true) s = true := by
 obtain ⟨s, rfl, _⟩ := h.str_inv underlying9
 exact ⟨s, .refl _, rfl⟩
theorem L0 {ds : List D} (h : Shp prog 115 ds) : ∃ r x, ds = [dI r, dI x] := by
 obtain ⟨ps, rfl, hl, hp⟩ := h.struct_inv underlying115
 match ps, hl with
 | [p0, p1], _ =>
  obtain ⟨r, rfl, _⟩ := (hp 0 _ p0 rfl rfl).int_inv underlying3
  obtain ⟨x, rfl, _⟩ := (hp 1 _ p1 rfl rfl).int_inv underlying3
  exact ⟨r, x, rfl⟩
theorem AcR {ds : List D} (h : Shp prog 144 ds) : ∃ x, DEs ds (As x) /\ (fun _ => true) x = true := by
 obtain ⟨ps, rfl, hl, hp⟩ := h.struct_inv underlying144
 match ps, hl with
 | [p0, p1, p2], _ =>
  obtain ⟨s, rfl, _⟩ := (hp 0 _ p0 rfl rfl).str_inv underlying9
  obtain ⟨r1, x1, rfl⟩ := L0 (hp 1 _ p1 rfl rfl)
  obtain ⟨r0, x0, rfl⟩ := L0 (hp 2 _ p2 rfl rfl)
  exact ⟨⟨s, r1, x1, r0, x0⟩, .refl _, rfl⟩
theorem Agu {ds : List D} (h : Shp prog 147 ds) : ∃ x, DEs ds (Ar x) /\ (fun _ => true) x = true := by
 obtain ⟨ps, rfl, hl, hp⟩ := h.struct_inv underlying147
 match ps, hl with
 | [p0, p1, p2, p3], _ =>
  obtain ⟨s, rfl, _⟩ := (hp 0 _ p0 rfl rfl).str_inv underlying9
  obtain ⟨e, rfl, _⟩ := (hp 1 _ p1 rfl rfl).int_inv underlying3
  obtain ⟨r1, x1, rfl⟩ := L0 (hp 2 _ p2 rfl rfl)
  obtain ⟨r0, x0, rfl⟩ := L0 (hp 3 _ p3 rfl rfl)
  exact ⟨⟨s, e, r1, x1, r0, x0⟩, .refl _, rfl⟩
theorem AcQ {ds : List D} (h : Shp prog 240 ds) : ∃ x, DEs ds (Fg x) /\ (fun _ => true) x = true := by
 obtain ⟨ps, rfl, hl, hp⟩ := h.struct_inv underlying240
 match ps, hl with
 | [p0, p1], _ =>
  obtain ⟨r, rfl, _⟩ := (hp 0 _ p0 rfl rfl).int_inv underlying3
  obtain ⟨x, rfl, _⟩ := (hp 1 _ p1 rfl rfl).int_inv (k := .i64) (by kernel_rfl)
  exact ⟨⟨r, x⟩, .refl _, rfl⟩
theorem Agz {ds : List D} (h : Shp prog 118 ds) : ∃ x, DEs ds (bayC x) /\ (fun x => Ak x.links) x = true := by
 obtain ⟨ps, rfl, hl, hp⟩ := h.struct_inv underlying118
 match ps, hl with
 | [p0, p1, p2, p3, p4, p5, p6, p7, p8, p9, p10], _ =>
  obtain ⟨s, rfl, _⟩ := (hp 0 _ p0 rfl rfl).str_inv underlying9
  obtain ⟨k, rfl, _⟩ := (hp 1 _ p1 rfl rfl).int_inv (k := .i64) (by kernel_rfl)
  obtain ⟨o, rfl, _⟩ := (hp 2 _ p2 rfl rfl).int_inv underlying3
  obtain ⟨e, rfl, _⟩ := (hp 3 _ p3 rfl rfl).int_inv underlying3
  obtain ⟨r, x, rfl⟩ := L0 (hp 4 _ p4 rfl rfl)
  obtain ⟨d, l, rfl, hd, hn, _⟩ := C5 (d0 := Ba) underlying116 (show prog.cellsOf 240 = 2 by kernel_rfl) (fun ds => AcQ) (hp 5 _ p5 rfl rfl)
  obtain ⟨c, rfl⟩ := (hp 6 _ p6 rfl rfl).bool_inv underlying4
  obtain ⟨n1, rfl, _⟩ := (hp 7 _ p7 rfl rfl).int_inv underlying3
  obtain ⟨n2, rfl, _⟩ := (hp 8 _ p8 rfl rfl).int_inv underlying3
  obtain ⟨n3, rfl, _⟩ := (hp 9 _ p9 rfl rfl).int_inv underlying3
  obtain ⟨n4, rfl, _⟩ := (hp 10 _ p10 rfl rfl).int_inv underlying3
  exact ⟨⟨s, k, o, e, r, x, l, c, n1, n2, n3, n4⟩, .cons (.refl _) (.cons (.refl _) (.cons (.refl _) (.cons (.refl _) (.cons (.refl _) (.cons (.refl _) (.cons hd (.refl _))))))), hn⟩
theorem Agt {ds : List D} (h : Shp prog 27 ds) : ∃ x, DEs ds (staC x) /\ D7 x = true := by
 obtain ⟨ps, rfl, hl, hp⟩ := h.struct_inv underlying27
 match ps, hl with
 | [p0, p1, p2, p3, p4], _ =>
  obtain ⟨s, rfl, _⟩ := (hp 0 _ p0 rfl rfl).str_inv underlying9
  obtain ⟨d1, l1, rfl, h1, n1, _⟩ := C5 (d0 := e0) underlying22 (show prog.cellsOf 9 = 1 by kernel_rfl) (fun ds => Z3) (hp 1 _ p1 rfl rfl)
  obtain ⟨d2, l2, rfl, h2, n2, _⟩ := C5 (d0 := Af) underlying23 (show prog.cellsOf 144 = 5 by kernel_rfl) (fun ds => AcR) (hp 2 _ p2 rfl rfl)
  obtain ⟨d3, l3, rfl, h3, n3, _⟩ := C5 (d0 := src0) underlying24 (show prog.cellsOf 147 = 6 by kernel_rfl) (fun ds => Agu) (hp 3 _ p3 rfl rfl)
  obtain ⟨d4, l4, rfl, h4, n4, a4⟩ := C5 (d0 := bay0) underlying25 (show prog.cellsOf 118 = 12 by kernel_rfl) (fun ds => Agz) (hp 4 _ p4 rfl rfl)
  refine ⟨⟨s, l1, l2, l3, l4⟩, .cons (.refl _) (.cons h1 (.cons h2 (.cons h3 (.cons h4 .nil)))), ?_⟩
  unfold D7
  simp only [n1, n2, n3, n4, a4, Bool.and_self]
end Go.Proofs.YtbpndheehcbldaaGreatDoor.st
namespace Go.Proofs.YtbpndheehcbldaaGreatDoor.se
open Go.RowKit Go.Eb Go.Proofs.YtbpndheehcbldaaGreatDoor.st
theorem AcP {ds : List D} (h : Shp prog 136 ds) : ∃ x, DEs ds (D1 x) /\ (fun _ => true) x = true := by
 obtain ⟨ps, rfl, hl, hp⟩ := h.struct_inv underlying136
 match ps, hl with
 | [p0, p1], _ =>
  obtain ⟨a, rfl, _⟩ := (hp 0 _ p0 rfl rfl).str_inv underlying9
  obtain ⟨b, rfl, _⟩ := (hp 1 _ p1 rfl rfl).str_inv underlying9
  exact ⟨⟨a, b⟩, .refl _, rfl⟩
theorem Agv {ds : List D} (h : Shp prog 125 ds) : ∃ x, DEs ds (setC x) /\ Jk x = true := by
 obtain ⟨ps, rfl, hl, hp⟩ := h.struct_inv underlying125
 match ps, hl with
 | [p0, p1], _ =>
  obtain ⟨a, rfl, _⟩ := (hp 0 _ p0 rfl rfl).str_inv underlying9
  obtain ⟨d1, l1, rfl, h1, n1, _⟩ := C5 (d0 := e0) underlying22 (show prog.cellsOf 9 = 1 by kernel_rfl) (fun ds => Z3) (hp 1 _ p1 rfl rfl)
  exact ⟨⟨a, l1⟩, .cons (.refl _) (.cons h1 .nil), n1⟩
theorem Agx {ds : List D} (h : Shp prog 122 ds) : ∃ x, DEs ds (pubC x) /\ (fun _ => true) x = true := by
 obtain ⟨ps, rfl, hl, hp⟩ := h.struct_inv underlying122
 match ps, hl with
 | [p0, p1, p2], _ =>
  obtain ⟨a, rfl, _⟩ := (hp 0 _ p0 rfl rfl).str_inv underlying9
  obtain ⟨b, rfl, _⟩ := (hp 1 _ p1 rfl rfl).int_inv underlying3
  obtain ⟨c, rfl, _⟩ := (hp 2 _ p2 rfl rfl).int_inv underlying3
  exact ⟨⟨a, b, c⟩, .refl _, rfl⟩
theorem Ags {ds : List D} (h : Shp prog 68 ds) : ∃ x, DEs ds (subC x) /\ (fun _ => true) x = true := by
 obtain ⟨ps, rfl, hl, hp⟩ := h.struct_inv underlying68
 match ps, hl with
 | [p0, p1, p2, p3], _ =>
  obtain ⟨a, rfl, _⟩ := (hp 0 _ p0 rfl rfl).str_inv underlying9
  obtain ⟨b, rfl, _⟩ := (hp 1 _ p1 rfl rfl).str_inv underlying9
  obtain ⟨c, rfl, _⟩ := (hp 2 _ p2 rfl rfl).str_inv underlying9
  obtain ⟨d, rfl, _⟩ := (hp 3 _ p3 rfl rfl).str_inv underlying9
  exact ⟨⟨a, b, c, d⟩, .refl _, rfl⟩
theorem Vk {ds : List D} (h : Shp prog 56 ds) : ∃ a b c, ds = [dB a, dI b, dI c] := by
 obtain ⟨ps, rfl, hl, hp⟩ := h.struct_inv underlying56
 match ps, hl with
 | [p0, p1, p2], _ =>
  obtain ⟨a, rfl⟩ := (hp 0 _ p0 rfl rfl).bool_inv underlying4
  obtain ⟨b, rfl, _⟩ := (hp 1 _ p1 rfl rfl).int_inv underlying3
  obtain ⟨c, rfl, _⟩ := (hp 2 _ p2 rfl rfl).int_inv underlying3
  exact ⟨a, b, c, rfl⟩
theorem Aij {ds : List D} (h : Shp prog 58 ds) : ∃ a b c, ds = [dB a, dI b, dI c] := by
 obtain ⟨ps, rfl, hl, hp⟩ := h.struct_inv underlying58
 match ps, hl with
 | [p0, p1, p2], _ =>
  obtain ⟨a, rfl⟩ := (hp 0 _ p0 rfl rfl).bool_inv underlying4
  obtain ⟨b, rfl, _⟩ := (hp 1 _ p1 rfl rfl).int_inv underlying3
  obtain ⟨c, rfl, _⟩ := (hp 2 _ p2 rfl rfl).int_inv underlying3
  exact ⟨a, b, c, rfl⟩
theorem Z2 {ds : List D} (h : Shp prog 53 ds) : ∃ a b c d e f, ds = [dB a, dB b, dI c, dI d, dI e, dI f] := by
 obtain ⟨ps, rfl, hl, hp⟩ := h.struct_inv underlying53
 match ps, hl with
 | [p0, p1, p2, p3, p4, p5], _ =>
  obtain ⟨a, rfl⟩ := (hp 0 _ p0 rfl rfl).bool_inv underlying4
  obtain ⟨b, rfl⟩ := (hp 1 _ p1 rfl rfl).bool_inv underlying4
  obtain ⟨c, rfl, _⟩ := (hp 2 _ p2 rfl rfl).int_inv underlying3
  obtain ⟨d, rfl, _⟩ := (hp 3 _ p3 rfl rfl).int_inv underlying3
  obtain ⟨e, rfl, _⟩ := (hp 4 _ p4 rfl rfl).int_inv underlying3
  obtain ⟨f, rfl, _⟩ := (hp 5 _ p5 rfl rfl).int_inv underlying3
  exact ⟨a, b, c, d, e, f, rfl⟩
theorem Aii {ds : List D} (h : Shp prog 54 ds) : ∃ a b c d e f a1 b1 c1 d1 e1 f1 a2 b2 c2 d2 e2 f2, ds = [dB a, dB b, dI c, dI d, dI e, dI f, dB a1, dB b1, dI c1, dI d1, dI e1, dI f1, dB a2, dB b2, dI c2, dI d2, dI e2, dI f2] := by
 obtain ⟨ps, rfl, hl, hp⟩ := h.array_inv underlying54
 match ps, hl with
 | [p0, p1, p2], _ =>
  obtain ⟨a, b, c, d, e, f, rfl⟩ := Z2 (hp p0 (by simp))
  obtain ⟨a1, b1, c1, d1, e1, f1, rfl⟩ := Z2 (hp p1 (by simp))
  obtain ⟨a2, b2, c2, d2, e2, f2, rfl⟩ := Z2 (hp p2 (by simp))
  exact ⟨a, b, c, d, e, f, a1, b1, c1, d1, e1, f1, a2, b2, c2, d2, e2, f2, rfl⟩
theorem Agw {ds : List D} (h : Shp prog 64 ds) : ∃ x, DEs ds (relC x) /\ B6 x = true := by
 obtain ⟨ps, rfl, hl, hp⟩ := h.struct_inv underlying64
 match ps, hl with
 | [p0, p1, p2, p3, p4, p5, p6, p7, p8, p9, p10, p11, p12, p13, p14, p15, p16, p17, p18, p19, p20, p21, p22, p23, p24, p25], _ =>
  obtain ⟨x0, rfl, _⟩ := (hp 0 _ p0 rfl rfl).str_inv underlying9
  obtain ⟨x1, rfl, _⟩ := (hp 1 _ p1 rfl rfl).int_inv underlying3
  obtain ⟨x2, rfl, _⟩ := (hp 2 _ p2 rfl rfl).int_inv underlying3
  obtain ⟨z0a, z0b, z0c, z0d, z0e, z0f, z1a, z1b, z1c, z1d, z1e, z1f, z2a, z2b, z2c, z2d, z2e, z2f, rfl⟩ := Aii (hp 3 _ p3 rfl rfl)
  obtain ⟨x4, rfl, _⟩ := (hp 4 _ p4 rfl rfl).int_inv underlying3
  obtain ⟨x5, rfl, _⟩ := (hp 5 _ p5 rfl rfl).int_inv underlying3
  obtain ⟨x6, rfl, _⟩ := (hp 6 _ p6 rfl rfl).int_inv underlying3
  obtain ⟨x7, rfl, _⟩ := (hp 7 _ p7 rfl rfl).int_inv underlying3
  obtain ⟨x8, rfl, _⟩ := (hp 8 _ p8 rfl rfl).int_inv underlying3
  obtain ⟨x9, rfl, _⟩ := (hp 9 _ p9 rfl rfl).int_inv underlying3
  obtain ⟨x10a, x10b, x10c, rfl⟩ := Vk (hp 10 _ p10 rfl rfl)
  obtain ⟨x11a, x11b, x11c, rfl⟩ := Aij (hp 11 _ p11 rfl rfl)
  obtain ⟨x12a, x12b, x12c, rfl⟩ := Vk (hp 12 _ p12 rfl rfl)
  obtain ⟨x13, rfl, _⟩ := (hp 13 _ p13 rfl rfl).int_inv underlying3
  obtain ⟨x14, rfl, _⟩ := (hp 14 _ p14 rfl rfl).int_inv underlying3
  obtain ⟨x15, rfl, _⟩ := (hp 15 _ p15 rfl rfl).int_inv underlying3
  obtain ⟨x16a, x16b, x16c, rfl⟩ := Vk (hp 16 _ p16 rfl rfl)
  obtain ⟨x17a, x17b, x17c, rfl⟩ := Vk (hp 17 _ p17 rfl rfl)
  obtain ⟨x18, rfl, _⟩ := (hp 18 _ p18 rfl rfl).int_inv underlying3
  obtain ⟨x19, rfl, _⟩ := (hp 19 _ p19 rfl rfl).int_inv underlying3
  obtain ⟨x20, rfl, _⟩ := (hp 20 _ p20 rfl rfl).int_inv underlying3
  obtain ⟨x21, rfl, _⟩ := (hp 21 _ p21 rfl rfl).int_inv underlying3
  obtain ⟨d22, l22, rfl, h22, n22, a22⟩ := C5 (d0 := Bb) underlying59 (show prog.cellsOf 136 = 2 by kernel_rfl) (fun ds => AcP) (hp 22 _ p22 rfl rfl)
  obtain ⟨d23, l23, rfl, h23, n23, a23⟩ := C5 (d0 := set0) underlying60 (show prog.cellsOf 125 = 2 by kernel_rfl) (fun ds => Agv) (hp 23 _ p23 rfl rfl)
  obtain ⟨d24, l24, rfl, h24, n24, a24⟩ := C5 (d0 := pub0) underlying61 (show prog.cellsOf 122 = 3 by kernel_rfl) (fun ds => Agx) (hp 24 _ p24 rfl rfl)
  obtain ⟨d25, l25, rfl, h25, n25, a25⟩ := C5 (d0 := sub0) underlying62 (show prog.cellsOf 68 = 4 by kernel_rfl) (fun ds => Ags) (hp 25 _ p25 rfl rfl)
  refine ⟨⟨x0, x1, x2, z0a, z0b, z0c, z0d, z0e, z0f, z1a, z1b, z1c, z1d, z1e, z1f, z2a, z2b, z2c, z2d, z2e, z2f, x4, x5, x6, x7, x8, x9, x10a, x10b, x10c, x11a, x11b, x11c, x12a, x12b, x12c, x13, x14, x15, x16a, x16b, x16c, x17a, x17b, x17c, x18, x19, x20, x21, l22, l23, l24, l25⟩, ?_, ?_⟩
  ·exact DEs.app (a := [_, _, _, _, _, _, _, _, _, _, _, _, _, _, _, _, _, _, _, _, _, _, _, _, _, _, _, _, _, _, _, _, _, _, _, _, _, _, _, _, _, _, _, _, _, _, _, _, _]) (.refl _) (.cons h22 (.cons h23 (.cons h24 (.cons h25 .nil))))
  ·unfold B6
   simp only [n22, n23, n24, n25, a23, Bool.and_self]
theorem shp_rels {ds : List D} (h : Shp prog 28 ds) : ∃ (d : D) (l : List SRel), ds = [d] /\ DE d (Cq l) /\ Ak l = true /\ l.all B6 = true :=
 C5 (d0 := rel0) underlying28 (show prog.cellsOf 64 = 53 by kernel_rfl) (fun ds => Agw) h
end Go.Proofs.YtbpndheehcbldaaGreatDoor.se
namespace Go.Proofs.YtbpndheehcbldaaGreatDoor.tb
open Go.RowKit Go.Eb Go.Proofs.YtbpndheehcbldaaGreatDoor.st
set_option maxRecDepth 100000
open Go.Proofs.YtbpndheehcbldaaGreatDoor.sg (fitR FitR Av fitC B2 eR1 By eCf Cz)
def okcF (c : SCfg) : Bool := okCf c && !D9 c
theorem Adf {c : SCfg} (h : okcF c = true) : okCf c = true /\ D9 c = false := by
 unfold okcF at h
 simpa using h
theorem t_cf (c : SCfg) : theT eCf [AV.agg (List.map C.d (cfgC c))] = c := Ag Cz c
section
variable {c : SCfg} (h : OkC c) (g : Nat)
include h
end
section
variable {c : SCfg} (h : OkC c) (g : Nat)
include h
omit h in
theorem n_eq {a b : ByteArray} (h : a = b) : (!(a.toList == b.toList)) = false := by subst h; simp
end
theorem Agy {ds : List D} (h : Shp prog 30 ds) : ∃ c, DEs ds (cfgC c) /\ okCf c = true := by
 obtain ⟨ps, rfl, hl, hp⟩ := h.struct_inv underlying30
 match ps, hl with
 | [p0, p1], _ =>
  obtain ⟨s, h0, hs⟩ := Agt (hp 0 _ p0 rfl rfl)
  obtain ⟨d, l, rfl, h1, n1, a1⟩ := Go.Proofs.YtbpndheehcbldaaGreatDoor.se.shp_rels (hp 1 _ p1 rfl rfl)
  refine ⟨⟨s, l⟩, h0.app (.cons h1 .nil), ?_⟩
  unfold okCf
  rw [hs, n1, a1]
  rfl
end Go.Proofs.YtbpndheehcbldaaGreatDoor.tb
namespace Go.Proofs.YtbpndheehcbldaaGreatDoor.tb
open Go.RowKit Go.Eb Go.Proofs.YtbpndheehcbldaaGreatDoor.st
set_option maxRecDepth 100000
open Go.Proofs.YtbpndheehcbldaaGreatDoor.sg (fitR FitR Av fitC B2 eR1 By eCf Cz cROu cRix rowS hpS Dj)
theorem AjX {a b : ByteArray} (h : a ≠ b) : (!(a.toList == b.toList)) = true := by
 have : isT a b = false := by
  cases hc : isT a b with
  | false => rfl
  | true => exact absurd (Dd.1 hc) h
 show (!(isT a b)) = true
 rw [this]; rfl
theorem cap8 {n : Nat} (h : n <= 100000) : (decide ((n + 1) * 8 <= 140737488355328) && decide (n + 1 <= 9223372036854775807)) = true := by
 rw [decide_eq_true (by omega), decide_eq_true (by omega)]; rfl
theorem Alk {n : Nat} (h : n <= 100000) : (decide ((n + 1) * 16 <= 140737488355328) && decide (n + 1 <= 9223372036854775807)) = true := by
 rw [decide_eq_true (by omega), decide_eq_true (by omega)]; rfl
theorem Alj {n : Nat} (h : n <= 100000) : (decide ((n + 1) * 56 <= 140737488355328) && decide (n + 1 <= 9223372036854775807)) = true := by
 rw [decide_eq_true (by omega), decide_eq_true (by omega)]; rfl
def ZPb : KPb where
 oko := okG eR1 fitR
 ou x := outS (theT eR1 x)
 okx := okG eIx cIx
 ix x := Bl (theT eIx x).1 (theT eIx x).2
theorem sPb : OrcS prog (oPb ZPb) :=
 .cons (.nt (enc := eR1) (c := fitR) (r := fun r => rowS (outS r)) (H' := fun r => hpS (outS r)) fun r h => cROu r (Av h))
  (.cons (.lt (enc := eIx) (c := cIx) (r := fun a => vI (Bl a.1 a.2)) func52 b46 (fun _ => rfl) fun a h => cRix a.1 a.2 h) .nil)
theorem AeO {n : Nat} {f : RD} {l : List Int} (h : RLe nC 0 n f l) (x : Int) : RLe nC 0 (n + 1) (appF n f (Au [D.v (.int .i64 x)] (0 + 1))) (l ++ [x]) := h.app rfl (.refl _)
theorem AiI (c : SCfg) (i : Nat) (r : SRel) (er : c.rels.getD i rel0 = r) (hr : fitR r = true) (n1 : Nat) (f1 : RD) (s : Nat) (hs : s < r.sets.length) (g mq mp mo y : Nat) (x1 x2 x3 x4 : Int) :
  ∀ (m k n : Nat) (f : RD) (acc : List Int), k <= (r.sets.getD s set0).sigs.length -> (r.sets.getD s set0).sigs.length - k < m -> RLe nC 0 n f acc -> n <= k ->
   ∃ n' f', RLe nC 0 n' f' (acc ++ ((r.sets.getD s set0).sigs.drop k).map (Bl (outS r))) /\ Nk ZPb c g mq mp mo m n1 f1 n f i y s k x1 x2 x3 x4 = Ja ZPb c g mq mp mo n1 f1 n' f' i y ((s + 1 : Nat) : Int) x1 x2 x3 x4
 | 0, k, n, f, acc, _, hm, _, _ => by omega
 | m + 1, k, n, f, acc, hk, hm, hR, hn => by
  have hF := Av hr
  have hsg := hF.sg _ (A3 set0 hs)
  have hse := hF.se
  rw [Acy, tn i, er, tn s, inb hs, cond_true]
  generalize hL : (r.sets.getD s set0).sigs = L at *
  by_cases hlt : k < L.length
  ·have k1 : ZPb.oko [AV.agg (List.map C.d (relC r))] = true := Aj By (c := fitR) r hr
   have t1 : theT eR1 [AV.agg (List.map C.d (relC r))] = r := Ag By r
   have k2 : ZPb.ou [AV.agg (List.map C.d (relC r))] = outS r := by dsimp only [ZPb]; rw [t1]
   have ol := Dj r
   have hru := hF.ru
   have k3 : ZPb.okx [AV.c (C.d (Aa 1 busC e0 (outS r))), AV.c (C.d (D.v (Value.string (L.getD k e0))))] = true := Aj Cv (c := cIx) (outS r, L.getD k e0) (by unfold cIx Ak; exact decide_eq_true (by show (outS r).length <= _; omega))
   have t3 : theT eIx [AV.c (C.d (Aa 1 busC e0 (outS r))), AV.c (C.d (D.v (Value.string (L.getD k e0))))] = (outS r, L.getD k e0) := Ag Cv (outS r, L.getD k e0)
   have k4 : ZPb.ix [AV.c (C.d (Aa 1 busC e0 (outS r))), AV.c (C.d (D.v (Value.string (L.getD k e0))))] = Bl (outS r) (L.getD k e0) := by dsimp only [ZPb]; rw [t3]
   obtain ⟨n', f', r1, r2⟩ := AiI c i r er hr n1 f1 s hs g mq mp mo y x1 x2 x3 x4 m (k + 1) (n + 1) _ (acc ++ [Bl (outS r) (L.getD k e0)]) (by rw [hL]; omega) (by rw [hL]; omega) (AeO hR _) (by omega)
   rw [hL] at r1
   refine ⟨n', f', ?_, ?_⟩
   ·rw [Am (d := e0) hlt, List.map_cons]
    rw [List.append_assoc] at r1
    exact r1
   ·rw [lt1 hlt, k1, ge0, tt, tn k, k2, k3, k4, cap8 (by omega), nx hlt (by omega), cond_true, cond_true, cond_true, cond_true, cond_true]
    exact r2
  ·rw [lt0 hlt, nx hs (by omega), cond_false]
   exact ⟨n, f, by rw [List.drop_of_length_le (by omega)]; simpa using hR, rfl⟩
theorem AgV (c : SCfg) (i : Nat) (r : SRel) (er : c.rels.getD i rel0 = r) (hr : fitR r = true) (hu : Uq r) (n1 : Nat) (f1 : RD) (hn1 : n1 <= 100000) (s : Nat) (hs : s < r.sets.length) (g mp mo y : Nat) (hg : 1000 < g) (hy : y < r.pubs.length) (hsn : (r.sets.getD s set0).name = (r.pubs.getD y pub0).set) (x1 x3 x4 : Int) :
  ∀ (m j n : Nat) (f : RD) (x2 : Int), j <= r.sets.length -> r.sets.length - j < m -> (if s < j then x2 = s /\ RLe nC 0 n f ((r.sets.getD s set0).sigs.map (Bl (outS r))) else x2 = 0 /\ n = 0) ->
   ∃ n' f', RLe nC 0 n' f' ((r.sets.getD s set0).sigs.map (Bl (outS r))) /\ Ja ZPb c g mp mo m n1 f1 n f i y j x1 x2 x3 x4 = Pz ZPb c g mp mo (n1 + 1) (appF n1 f1 (Au [D.v (.int .i64 x1), D.v (.int .i64 s), D.v (.int .i64 x3), D.v (.int .i64 x4), D.sl 1 n' f'] (4 + 1))) i ((y + 1 : Nat) : Int)
 | 0, j, n, f, x2, _, hm, _ => by omega
 | m + 1, j, n, f, x2, hj, hm, hI => by
  have hF := Av hr
  have hse := hF.se
  have hpu := hF.pu
  have hsg := hF.sg _ (A3 set0 hs)
  rw [Acz, tn i, er, tn y, tn j]
  by_cases hlt : j < r.sets.length
  ·rw [lt1 hlt, ge0, lt1 hy, ge0, tt, cond_true, cond_true, cond_true]
   by_cases hjs : j = s
   ·subst hjs
    rw [if_neg (by omega)] at hI
    obtain ⟨rfl, rfl⟩ := hI
    rw [n_eq hsn, cond_false]
    obtain ⟨n', f', r1, r2⟩ := AiI c i r er hr n1 f1 j hs g mp mo m y x1 j x3 x4 g 0 0 f [] (by omega) (by omega) (.nil _) (by omega)
    have r2 : Nk ZPb c g mp mo m g n1 f1 0 f i y j 0 x1 j x3 x4 = _ := r2
    rw [List.nil_append, List.drop_zero] at r1
    rw [r2]
    exact AgV c i r er hr hu n1 f1 hn1 j hs g mp mo y hg hy hsn x1 x3 x4 m (j + 1) n' f' j (by omega) (by omega) (by rw [if_pos (by omega)]; exact ⟨rfl, r1⟩)
   ·have hne : (r.sets.getD j set0).name ≠ (r.pubs.getD y pub0).set := fun e => by
     have := V3 hu.sets (i := j) (j := s) (by simpa using hlt) (by simpa using hs) hjs (SSet.name set0)
     have gm : ∀ q, (r.sets.map SSet.name).getD q (SSet.name set0) = (r.sets.getD q set0).name := fun q => by simp [List.getD, List.getElem?_map]
     rw [gm, gm, e, hsn] at this
     exact this rfl
    rw [AjX hne, nx hlt (by omega), cond_true]
    exact AgV c i r er hr hu n1 f1 hn1 s hs g mp mo y hg hy hsn x1 x3 x4 m (j + 1) n f x2 (by omega) (by omega) (by
     by_cases h1 : s < j
     ·rw [if_pos h1] at hI; rw [if_pos (by omega)]; exact hI
     ·rw [if_neg h1] at hI; rw [if_neg (by omega)]; exact hI)
  ·obtain rfl : j = r.sets.length := by omega
   rw [if_pos hs] at hI
   obtain ⟨rfl, hR⟩ := hI
   rw [lt0 (Nat.lt_irrefl _), Alj hn1, nx hy (by omega), cond_true, cond_false]
   exact ⟨n, f, hR, rfl⟩
theorem lpb7 (c : SCfg) (i : Nat) (hi : i < c.rels.length) (hl : c.rels.length <= 100) (r : SRel) (er : c.rels.getD i rel0 = r) (hr : fitR r = true) (hu : Uq r) (hx : ∀ p ∈ r.pubs, 0 <= A0 r p.set) (g mo : Nat) (hg : 2000 < g) :
  ∀ (m y n1 : Nat) (f1 : RD) (acc : List Pbl), y <= r.pubs.length -> r.pubs.length - y < m -> RLe pblC pbl0 n1 f1 acc -> acc.length + (r.pubs.length - y) <= 100000 ->
   ∃ n' f', RLe pblC pbl0 n' f' (acc ++ (r.pubs.drop y).map (Be i r)) /\ Pz ZPb c g mo m n1 f1 i y = S8 ZPb c g mo n' f' ((i + 1 : Nat) : Int)
 | 0, y, n1, f1, acc, _, hm, _, _ => by omega
 | m + 1, y, n1, f1, acc, hy, hm, hR, hb => by
  have hF := Av hr
  have hse := hF.se
  have hln := hR.len
  rw [AfY, tn i, er, tn y]
  by_cases hlt : y < r.pubs.length
  ·have hp := A3 pub0 hlt
   obtain ⟨s, hs, hsi, hsn, _⟩ := De set0 (hx _ hp)
   have hsi : A0 r (r.pubs.getD y pub0).set = s := hsi
   rw [lt1 hlt, ge0, tt, cond_true, cond_true, cond_true]
   obtain ⟨n', f', r1, r2⟩ := AgV c i r er hr hu n1 f1 (by omega) s hs g mo m y (by omega) hlt (Dd.1 hsn) i (r.pubs.getD y pub0).fst (r.pubs.getD y pub0).max g 0 0 (fun _ => []) 0 (by omega) (by omega) (by rw [if_neg (by omega)]; exact ⟨rfl, rfl⟩)
   have r2 : Ja ZPb c g mo m g n1 f1 0 (fun _ => []) i y 0 i 0 (r.pubs.getD y pub0).fst (r.pubs.getD y pub0).max = _ := r2
   have r3 : RLe pblC pbl0 (n1 + 1) (appF n1 f1 (Au [D.v (.int .i64 i), D.v (.int .i64 s), D.v (.int .i64 (r.pubs.getD y pub0).fst), D.v (.int .i64 (r.pubs.getD y pub0).max), D.sl 1 n' f'] (4 + 1))) (acc ++ [Be i r (r.pubs.getD y pub0)]) := by
    refine hR.app rfl ?_
    unfold pblC Be
    rw [hsi, Int.toNat_natCast]
    exact .cons (.refl _) (.cons (.refl _) (.cons (.refl _) (.cons (.refl _) (.cons r1.de .nil))))
   obtain ⟨n2, f2, q1, q2⟩ := lpb7 c i hi hl r er hr hu hx g mo hg m (y + 1) _ _ _ (by omega) (by omega) r3 (by rw [List.length_append, List.length_singleton]; omega)
   refine ⟨n2, f2, ?_, r2.trans q2⟩
   rw [Am (d := pub0) hlt, List.map_cons]
   rw [List.append_assoc] at q1
   exact q1
  ·rw [lt0 hlt, nx hi (by omega), cond_false]
   exact ⟨n1, f1, by rw [List.drop_of_length_le (by omega)]; simpa using hR, rfl⟩
section
variable {c : SCfg} (h : OkC c)
include h
theorem lpb3 (g : Nat) (hg : 2000 < g) : ∀ (m i n1 : Nat) (f1 : RD), i <= c.rels.length -> c.rels.length - i < m -> RLe pblC pbl0 n1 f1 (psAt c.rels i) ->
  ∃ n' f', RLe pblC pbl0 n' f' (pbls 0 c.rels) /\ S8 ZPb c g m n1 f1 i = some (.leaf (.c (.row 0 5 n'), [(0, .row n' f' 5 89)]))
 | 0, i, n1, f1, _, hm, _ => by omega
 | m + 1, i, n1, f1, hi, hm, hR => by
  have hl := h.len
  rw [AfZ]
  by_cases hlt : i < c.rels.length
  ·have hr := h.fr hlt
   have hF := Av hr
   have hpl := h.plen i hi
   obtain ⟨n', f', r1, r2⟩ := lpb7 c i hlt (by omega) _ rfl hr (h.uq _ (A3 rel0 hlt)) (h.px hlt) g m hg g 0 n1 f1 _ (by omega) (by have := hF.pu; omega) hR (by have := hF.pu; omega)
   have r2 : Pz ZPb c g m g n1 f1 i 0 = _ := r2
   rw [lt1 hlt, ge0, tt, cond_true, cond_true, r2]
   refine lpb3 g hg m (i + 1) n' f' (by omega) (by omega) ?_
   rw [F8 c.rels hlt]
   rw [List.drop_zero] at r1
   exact r1
  ·obtain rfl : i = c.rels.length := by omega
   rw [Fc] at hR
   rw [lt0 (Nat.lt_irrefl _), cond_false]
   exact ⟨n1, f1, hR, rfl⟩
theorem cRpb : CX prog 23 [aCfg c] [] (.c (.d (D5 (pbls 0 c.rels)))) [] := by
 obtain ⟨g, hg⟩ : ∃ g, 2000 < g := ⟨2001, by omega⟩
 have hl := h.len
 obtain ⟨n', f', r1, r2⟩ := lpb3 h g hg g 0 0 (fun _ => []) (by omega) (by omega) (.nil _)
 have hc := (M3 sPb.ok func23 brpb rfl ((Aku ZPb c g).trans r2)).data (y := .c (.d (.sl 5 n' f'))) rfl
 exact (CX.of_cr func23 brpb hc).le (show DE _ _ from r1.de) (.refl _)
end
theorem AiX {α : Type} (p q : α -> Bool) (d0 : α) (l : List α) {L : Nat -> Int -> Option (T (AV × Hp))} (hst : ∀ m k, k < l.length -> L (m + 1) (k : Nat) = bif p (l.getD k d0) then (bif q (l.getD k d0) then some (.leaf (vI k, [])) else L m ((k + 1 : Nat) : Int)) else L m ((k + 1 : Nat) : Int)) (hend : ∀ m, L (m + 1) (l.length : Nat) = some (.leaf (vI (-1), []))) :
  ∀ m k, k <= l.length -> l.length - k < m -> L m (k : Nat) = some (.leaf (vI (idxP (fun x => p x && q x) k (l.drop k)), []))
 | 0, k, _, h => by omega
 | m + 1, k, hk, h => by
  by_cases hlt : k < l.length
  ·rw [hst m k hlt, AiX p q d0 l hst hend m (k + 1) (by omega) (by omega), Am (d := d0) hlt]
   simp only [idxP]
   cases p (l.getD k d0) with
   | false => rfl
   | true => cases q (l.getD k d0) <;> rfl
  ·obtain rfl : k = l.length := by omega
   rw [hend, List.drop_of_length_le (by omega)]
   rfl
theorem cNum (l : List Pbl) (a b : Int) (h : Ak l = true) : CX prog 26 [.c (.d (D5 l)), vI a, vI b] [] (vI (Jj l a b)) [] :=
 Ax (Orc.nil_ok _) func26 brnm rfl ((Akw l a b (l.length + 1)).trans (AiX (fun p : Pbl => p.rel == a) (fun p : Pbl => p.set == b) pbl0 l (L := fun m i => S9 l a b (l.length + 1) m i) (fun m k hk => by
  rw [Y7, lt1 hk, ge0, tn, nx hk (A7 h), tt, cond_true, cond_true, cond_true]) (fun m => by rw [Y7, lt0 (Nat.lt_irrefl _)]; rfl) (l.length + 1) 0 (by omega) (by omega)))
theorem G5 {n : Nat} {L : Nat -> Int -> Option (T (AV × Hp))} {B : Option (T (AV × Hp))} (hst : ∀ m k, k < n -> L (m + 1) (k : Nat) = L m ((k + 1 : Nat) : Int)) (hend : ∀ m, L (m + 1) (n : Nat) = B) :
  ∀ m k, k <= n -> n - k < m -> L m (k : Nat) = B
 | 0, k, _, h => by omega
 | m + 1, k, hk, h => by
  by_cases hlt : k < n
  ·rw [hst m k hlt, G5 hst hend m (k + 1) (by omega) (by omega)]
  ·obtain rfl : k = n := by omega
   rw [hend]
theorem Fq (a : Int) : (a != a) = false := by simp
theorem cSin (l : List Int) (h : Ak l = true) : CX prog 27 [.c (.d (nsD l)), .c (.d (nsD l))] [] (vB true) [] := by
 have e := Ako l l (l.length + 1)
 rw [Fq, cond_false] at e
 exact Ax (Orc.nil_ok _) func27 bsin rfl (e.trans (G5 (L := fun m i => W1 l l (l.length + 1) m i) (fun m k hk => by
  rw [Y2, lt1 hk, ge0, tn, nx hk (A7 h), tt, Fq, cond_true, cond_true, cond_true, cond_false]) (fun m => by rw [Y2, lt0 (Nat.lt_irrefl _)]; rfl) (l.length + 1) 0 (by omega) (by omega)))
end Go.Proofs.YtbpndheehcbldaaGreatDoor.tb
namespace Go.Proofs.YtbpndheehcbldaaGreatDoor.tb
open Go.RowKit Go.Eb Go.Proofs.YtbpndheehcbldaaGreatDoor.st
set_option maxRecDepth 100000
open Go.Proofs.YtbpndheehcbldaaGreatDoor.sg (fitR FitR Av fitC B2 eR1 By eCf Cz cROu rowS hpS Dj cRFi cFk Pq Pr eFk Fk fiS aPl)
def snd (i : Int) (n : Nat) : List Pbl -> List Int
 | [] => []
 | p :: t => bif p.rel == i then (n : Int) :: snd i (n + 1) t else snd i (n + 1) t
theorem P7 (i : Int) : ∀ (a : List Pbl) (n : Nat) (b : List Pbl), snd i n (a ++ b) = snd i n a ++ snd i (n + a.length) b
 | [], n, b => rfl
 | p :: t, n, b => by
  show (bif p.rel == i then (n : Int) :: snd i (n + 1) (t ++ b) else snd i (n + 1) (t ++ b)) = (bif p.rel == i then (n : Int) :: snd i (n + 1) t else snd i (n + 1) t) ++ _
  rw [P7 i t (n + 1) b, List.length_cons, show n + 1 + t.length = n + (t.length + 1) by omega]
  cases p.rel == i <;> rfl
theorem Z1 (i k : Nat) (r : SRel) (n : Nat) : snd i n (Bc k r) = if k = i then nums n r.pubs.length else [] := by
 unfold Bc
 induction r.pubs generalizing n with
 | nil => by_cases h : k = i <;> simp [h, nums, snd]
 | cons p t ih =>
  rw [List.map_cons]
  show (bif (Be k r p).rel == (i : Int) then (n : Int) :: snd i (n + 1) (t.map (Be k r)) else snd i (n + 1) (t.map (Be k r))) = _
  rw [ih (n + 1)]
  have e : ((Be k r p).rel == (i : Int)) = decide (k = i) := by
   show ((k : Int) == (i : Int)) = _
   by_cases h : k = i
   ·subst h; simp
   ·rw [decide_eq_false h]; simp; omega
  rw [e]
  by_cases h : k = i
  ·rw [decide_eq_true h, if_pos h, if_pos h, List.length_cons, Gc]; rfl
  ·rw [decide_eq_false h, if_neg h, if_neg h]; rfl
theorem AeD : ∀ (l : List SRel) (i k n : Nat), i < k -> snd i n (pbls k l) = []
 | [], i, k, n, _ => rfl
 | r :: t, i, k, n, h => by
  show snd i n (Bc k r ++ pbls (k + 1) t) = []
  rw [P7, Z1, if_neg (by omega), AeD t i (k + 1) _ (by omega)]
  rfl
theorem AeE : ∀ (l : List SRel) (i k n : Nat), i < l.length -> snd ((k + i : Nat) : Int) n (pbls k l) = nums (n + offs l i) (l.getD i rel0).pubs.length
 | [], i, k, n, h => by simp at h
 | r :: t, 0, k, n, _ => by
  show snd ((k + 0 : Nat) : Int) n (Bc k r ++ pbls (k + 1) t) = _
  rw [P7, Z1, if_pos (by omega), AeD t (k + 0) (k + 1) _ (by omega), List.append_nil]
  rfl
 | r :: t, i + 1, k, n, h => by
  show snd ((k + (i + 1) : Nat) : Int) n (Bc k r ++ pbls (k + 1) t) = _
  have hl : (Bc k r).length = r.pubs.length := by simp [Bc]
  rw [P7, Z1, if_neg (by omega), hl, show k + (i + 1) = k + 1 + i by omega, AeE t i (k + 1) _ (by simpa using h), Jm, List.nil_append, List.getD_cons_succ]
  congr 1
  omega
theorem Alo (r : SRel) (h : FitR r) : CX prog 24 [aRel r] [] (.c (.d (Ab (outS r)))) [] := by
 have hb : f24.body = some (Ad f24) := by kernel_rfl
 exact CX.of_cr func24 hb (((cROu r h).cr func24 hb).data (y := .c (.d (Ab (outS r)))) rfl)
def eNm (l : List Pbl) (a : Int × Int) : List AV := [.c (.d (D5 l)), vI a.1, vI a.2]
theorem eNm_inj (l : List Pbl) : InjT (eNm l) := fun a b h => by
 obtain ⟨x1, h⟩ := Ai (Ai h).2
 obtain ⟨x2, h⟩ := Ai h
 exact Prod.ext (Jd _ _ x1) (Jd _ _ x2)
def ZRC (c : SCfg) (ck : Int) (b : Bool) : KRC where
 okc := okG (eU c) fun _ => true
 chk _ := ck
 okp := okG (eU c) fun _ => b
 ps _ := pbls 0 c.rels
 oko := okG eR1 fitR
 ou x := outS (theT eR1 x)
 okf := okG (eFk c) fun a => b && cFk c a
 fi x := fiS c (theT (eFk c) x)
 okn := okG (eNm (pbls 0 c.rels)) fun _ => b
 nu x := Jj (pbls 0 c.rels) (theT (eNm (pbls 0 c.rels)) x).1 (theT (eNm (pbls 0 c.rels)) x).2
theorem sRC {c : SCfg} {ck : Int} {b : Bool} (h : b = true -> OkC c) (hck : CX prog 12 [aCfg c] [] (vI ck) []) : OrcS prog (oRC (ZRC c ck b)) :=
 .cons (.t' (enc := eU c) (c := fun _ => true) (r := fun _ => vI ck) fun _ _ => hck)
  (.cons (.t' (enc := eU c) (c := fun _ => b) (r := fun _ => .c (.d (D5 (pbls 0 c.rels)))) fun _ hb => cRpb (h hb))
  (.cons (.t' (enc := eR1) (c := fitR) (r := fun r => .c (.d (Ab (outS r)))) fun r hr => Alo r (Av hr))
  (.cons (.t' (enc := eFk c) (c := fun a => b && cFk c a) (r := fun a => aPl (fiS c a)) fun a ha => by
    simp only [Bool.and_eq_true] at ha
    obtain ⟨i, k, rfl, hi, hk⟩ := Pq ha.2
    have := cRFi c i k (h ha.1).fit hi hk
    exact this)
  (.cons (.t' (enc := eNm (pbls 0 c.rels)) (c := fun _ => b) (r := fun a => vI (Jj (pbls 0 c.rels) a.1 a.2)) fun a hb => cNum _ _ _ (by
    have := (h hb).plen c.rels.length (Nat.le_refl _)
    rw [Fc] at this
    unfold Ak; exact decide_eq_true (by omega))) .nil))))
section
variable {c : SCfg} (h : OkC c)
include h
theorem Aiy {i : Nat} (hi : i < c.rels.length) (g mo : Nat) (n3 : Nat) (f3 : RD) (h3 : n3 <= 1000) (n5 : Nat) (f5 : RD) :
  ∀ (m k n : Nat) (f : RD) (acc : List (Int × Int)), k <= (c.rels.getD i rel0).subs.length -> (c.rels.getD i rel0).subs.length - k < m -> RLe inC (0, 0) n f acc -> n <= k ->
   ∃ n' f', RLe inC (0, 0) n' f' (acc ++ ((c.rels.getD i rel0).subs.drop k).map fun x => (Jj (pbls 0 c.rels) (Br c.rels i x).rel (Br c.rels i x).set, (Br c.rels i x).item)) /\
    Kw (ZRC c 0 true) c g mo m n3 f3 n5 f5 n f i k = Tb (ZRC c 0 true) c g mo (n3 + 1) (appF n3 f3 (Au [Ab (outS (c.rels.getD i rel0)), .sl 1 n5 f5, .sl 2 n' f'] (2 + 1))) ((i + 1 : Nat) : Int)
 | 0, k, n, f, acc, _, hm, _, _ => by omega
 | m + 1, k, n, f, acc, hk, hm, hR, hn => by
  have hr := h.fr hi
  have hF := Av hr
  have hsu := hF.su
  have hl := h.len
  rw [AcC, tn i, inb hi, cond_true]
  by_cases hlt : k < (c.rels.getD i rel0).subs.length
  ·have k1 : (ZRC c 0 true).okf [AV.agg (List.map C.d (cfgC c)), AV.c (C.d (D.v (Value.int IntKind.i64 (i : Int)))), AV.c (C.d (D.v (Value.int IntKind.i64 (k : Int))))] = true := Aj (Fk c) (c := fun a => true && cFk c a) ((i : Int), (k : Int)) (by rw [Bool.true_and]; exact Pr hi hlt)
   have k2 : (ZRC c 0 true).fi [AV.agg (List.map C.d (cfgC c)), AV.c (C.d (D.v (Value.int IntKind.i64 (i : Int)))), AV.c (C.d (D.v (Value.int IntKind.i64 (k : Int))))] = Br c.rels i ((c.rels.getD i rel0).subs.getD k sub0) := by
    dsimp only [ZRC]
    rw [show theT (eFk c) [AV.agg (List.map C.d (cfgC c)), AV.c (C.d (D.v (Value.int IntKind.i64 (i : Int)))), AV.c (C.d (D.v (Value.int IntKind.i64 (k : Int))))] = ((i : Int), (k : Int)) from Ag (Fk c) ((i : Int), (k : Int))]
    unfold fiS
    simp only [Int.toNat_natCast]
   have k3 : (ZRC c 0 true).ps [AV.agg (List.map C.d (cfgC c))] = pbls 0 c.rels := rfl
   obtain ⟨P, eP⟩ : ∃ P, Br c.rels i ((c.rels.getD i rel0).subs.getD k sub0) = P := ⟨_, rfl⟩
   have k4 : (ZRC c 0 true).okn [AV.c (C.d (Aa 5 pblC pbl0 (pbls 0 c.rels))), AV.c (C.d (D.v (Value.int IntKind.i64 P.rel))), AV.c (C.d (D.v (Value.int IntKind.i64 P.set)))] = true := Aj (eNm_inj _) (c := fun _ => true) (P.rel, P.set) rfl
   have k5 : (ZRC c 0 true).nu [AV.c (C.d (Aa 5 pblC pbl0 (pbls 0 c.rels))), AV.c (C.d (D.v (Value.int IntKind.i64 P.rel))), AV.c (C.d (D.v (Value.int IntKind.i64 P.set)))] = Jj (pbls 0 c.rels) P.rel P.set := by
    dsimp only [ZRC]
    rw [show theT (eNm (pbls 0 c.rels)) [AV.c (C.d (Aa 5 pblC pbl0 (pbls 0 c.rels))), AV.c (C.d (D.v (Value.int IntKind.i64 P.rel))), AV.c (C.d (D.v (Value.int IntKind.i64 P.set)))] = (P.rel, P.set) from Ag (eNm_inj _) (P.rel, P.set)]
   rw [lt1 hlt, k1, k3, k2, eP, k4, k5, Alk (by omega), nx hlt (by omega), cond_true, cond_true, cond_true, cond_true]
   have hr2 : RLe inC (0, 0) (n + 1) (appF n f (Au [D.v (Value.int IntKind.i64 (Jj (pbls 0 c.rels) P.rel P.set)), dI P.item] (1 + 1))) (acc ++ [(Jj (pbls 0 c.rels) P.rel P.set, P.item)]) := hR.app rfl (.refl _)
   obtain ⟨n', f', r1, r2⟩ := Aiy hi g mo n3 f3 h3 n5 f5 m (k + 1) _ _ _ (by omega) (by omega) hr2 (by omega)
   refine ⟨n', f', ?_, r2⟩
   rw [Am (d := sub0) hlt, List.map_cons, eP]
   rw [List.append_assoc] at r1
   exact r1
  ·have k1 : (decide ((n3 + 1) * 72 <= 140737488355328) && decide (n3 + 1 <= 9223372036854775807)) = true := by
    rw [decide_eq_true (by omega), decide_eq_true (by omega)]; rfl
   have k2 : (ZRC c 0 true).ou [AV.agg (List.map C.d (relC (c.rels.getD i rel0)))] = outS (c.rels.getD i rel0) := by
    dsimp only [ZRC]
    rw [show theT eR1 [AV.agg (List.map C.d (relC (c.rels.getD i rel0)))] = c.rels.getD i rel0 from Ag By _]
   rw [lt0 hlt, k1, k2, nx hi (by omega), cond_true, cond_false]
   exact ⟨n, f, by rw [List.drop_of_length_le (by omega)]; simpa using hR, rfl⟩
theorem AgT {i : Nat} (hi : i < c.rels.length) (g mo : Nat) (n3 : Nat) (f3 : RD) :
  ∀ (m k n : Nat) (f : RD) (acc : List Int), k <= (pbls 0 c.rels).length -> (pbls 0 c.rels).length - k < m -> RLe nC 0 n f acc -> n <= k ->
   ∃ n' f', RLe nC 0 n' f' (acc ++ snd i k ((pbls 0 c.rels).drop k)) /\ Kx (ZRC c 0 true) c g mo m n3 f3 n f i k = Kw (ZRC c 0 true) c g mo g n3 f3 n' f' 0 (fun _ => []) i 0
 | 0, k, n, f, acc, _, hm, _, _ => by omega
 | m + 1, k, n, f, acc, hk, hm, hR, hn => by
  have hpl := h.plen c.rels.length (Nat.le_refl _)
  rw [Fc] at hpl
  have k3 : (ZRC c 0 true).ps [AV.agg (List.map C.d (cfgC c))] = pbls 0 c.rels := rfl
  rw [AcD, k3]
  by_cases hlt : k < (pbls 0 c.rels).length
  ·rw [lt1 hlt, ge0, tt, tn k, cap8 (by omega), nx hlt (by omega), cond_true, cond_true, cond_true, Am (d := pbl0) hlt]
   cases hq : (((pbls 0 c.rels).getD k pbl0).rel == (i : Int)) with
   | true =>
    obtain ⟨n', f', r1, r2⟩ := AgT hi g mo n3 f3 m (k + 1) _ _ _ (by omega) (by omega) (AeO hR k) (by omega)
    refine ⟨n', f', ?_, r2⟩
    rw [List.append_assoc] at r1
    simp only [snd, hq, cond_true]
    exact r1
   | false =>
    obtain ⟨n', f', r1, r2⟩ := AgT hi g mo n3 f3 m (k + 1) n f acc (by omega) (by omega) hR (by omega)
    refine ⟨n', f', ?_, r2⟩
    simp only [snd, hq, cond_false]
    exact r1
  ·rw [lt0 hlt, cond_false]
   exact ⟨n, f, by rw [List.drop_of_length_le (by omega)]; simpa [snd] using hR, rfl⟩
theorem lrc6 (g : Nat) (hg : 2000 < g) : ∀ (m i n : Nat) (f : RD), i <= c.rels.length -> c.rels.length - i < m -> RLe devC dev0 n f ((devs c.rels (pbls 0 c.rels) 0 0 c.rels).take i) -> n <= i ->
  ∃ n' f', RLe devC dev0 n' f' (devs c.rels (pbls 0 c.rels) 0 0 c.rels) /\ Tb (ZRC c 0 true) c g m n f i = some (.leaf (.tup [(true, [.d (D5 (pbls 0 c.rels)), .row 0 3 n']), (false, [.d (dI 0)])], [(0, .row n' f' 3 88)]))
 | 0, i, n, f, _, hm, _, _ => by omega
 | m + 1, i, n, f, hi, hm, hR, hn => by
  have hl := h.len
  have hdl := Ln c.rels (pbls 0 c.rels) c.rels 0 0
  have hpl := h.plen c.rels.length (Nat.le_refl _)
  rw [Fc] at hpl
  rw [Aga]
  by_cases hlt : i < c.rels.length
  ·have hr := h.fr hlt
   have hF := Av hr
   have hsu := hF.su
   have k1 : (ZRC c 0 true).oko [AV.agg (List.map C.d (relC (c.rels.getD (Int.toNat (i : Int)) rel0)))] = true := by rw [tn i]; exact Aj By (c := fitR) _ hr
   obtain ⟨n5, f5, r1, r2⟩ := AgT h hlt g m n f g 0 0 (fun _ => []) [] (by omega) (by omega) (.nil _) (by omega)
   have r2 : Kx (ZRC c 0 true) c g m g n f 0 (fun _ => []) i 0 = _ := r2
   obtain ⟨n6, f6, q1, q2⟩ := Aiy h hlt g m n f (by omega) n5 f5 g 0 0 (fun _ => []) [] (by omega) (by omega) (.nil _) (by omega)
   have q2 : Kw (ZRC c 0 true) c g m g n f n5 f5 0 (fun _ => []) i 0 = _ := q2
   rw [lt1 hlt, ge0, tt, k1, cond_true, cond_true, cond_true, r2, q2]
   refine lrc6 g hg m (i + 1) _ _ (by omega) (by omega) ?_ (by omega)
   have ed : (devs c.rels (pbls 0 c.rels) 0 0 c.rels).take (i + 1) = (devs c.rels (pbls 0 c.rels) 0 0 c.rels).take i ++ [Us c.rels (pbls 0 c.rels) (0 + offs c.rels i) (0 + i) (c.rels.getD i rel0)] := by
    rw [List.take_add_one, <- Q3 c.rels (pbls 0 c.rels) c.rels 0 0 i hlt]
    congr 1
    rw [List.getD_eq_getElem?_getD, List.getElem?_eq_getElem (by omega)]; rfl
   rw [ed]
   refine hR.app rfl ?_
   unfold devC Us
   rw [List.nil_append, List.drop_zero] at r1
   have es := AeE c.rels i 0 0 hlt
   rw [Nat.zero_add] at es
   rw [es] at r1
   rw [List.nil_append, List.drop_zero] at q1
   rw [Nat.zero_add i]
   exact .cons (.refl _) (.cons (show DE _ _ from r1.de) (.cons (show DE _ _ from q1.de) .nil))
  ·obtain rfl : i = c.rels.length := by omega
   rw [List.take_of_length_le (by omega)] at hR
   rw [lt0 (Nat.lt_irrefl _), cond_false]
   exact ⟨n, f, hR, rfl⟩
theorem cRcm (hck : CX prog 12 [aCfg c] [] (vI 0) []) : CX prog 10 [aCfg c] [] (aTs (pbls 0 c.rels) (devs c.rels (pbls 0 c.rels) 0 0 c.rels) 0) [] := by
 obtain ⟨g, hg⟩ : ∃ g, 2000 < g := ⟨2001, by omega⟩
 have hl := h.len
 have ev := AiZ (ZRC c 0 true) c g
 have k1 : (ZRC c 0 true).okc [AV.agg (List.map C.d (cfgC c))] = true := Aj (Sh c) (c := fun _ => true) () rfl
 have k2 : (ZRC c 0 true).chk [AV.agg (List.map C.d (cfgC c))] = 0 := rfl
 have k3 : (ZRC c 0 true).okp [AV.agg (List.map C.d (cfgC c))] = true := Aj (Sh c) (c := fun _ => true) () rfl
 rw [k1, k2, k3, show ((0 : Int) != 0) = false from rfl, cond_true, cond_true, cond_false] at ev
 obtain ⟨n', f', r1, r2⟩ := lrc6 h g hg g 0 0 (fun _ => []) (by omega) (by omega) (.nil _) (by omega)
 have hc := (M3 (sRC (fun _ => h) hck).ok func10 brcm rfl (ev.trans r2)).data (y := .tup [(true, [.d (D5 (pbls 0 c.rels)), .d (.sl 3 n' f')]), (false, [.d (dI 0)])]) rfl
 exact (CX.of_cr func10 brcm hc).le (Acx 0 (.refl _) (show DE _ _ from r1.de)) (.refl _)
end
theorem Aln {c : SCfg} {ck : Int} (h0 : ck ≠ 0) (hck : CX prog 12 [aCfg c] [] (vI ck) []) : CX prog 10 [aCfg c] [] (aTs [] [] ck) [] := by
 have ev := AiZ (ZRC c ck false) c 1
 have k1 : (ZRC c ck false).okc [AV.agg (List.map C.d (cfgC c))] = true := Aj (Sh c) (c := fun _ => true) () rfl
 have k2 : (ZRC c ck false).chk [AV.agg (List.map C.d (cfgC c))] = ck := rfl
 rw [k1, k2, show (ck != 0) = true by simpa using h0, cond_true, cond_true] at ev
 exact (Ax (sRC (fun e => by cases e) hck).ok func10 brcm rfl ev).le (Acx ck (.nil _ _) (.nil _ _)) (.refl _)
structure OkT (p : List Pbl) (d : List Dev) : Prop where
 hp : p.length <= 100000
 hd : d.length <= 100000
 hs : ∀ x ∈ p, x.sigs.length <= 100000
 ho : ∀ x ∈ d, x.outs.length <= 100000
 hn : ∀ x ∈ d, x.sends.length <= 100000
 hi : ∀ x ∈ d, x.ins.length <= 100000
def e2 (l : List Int) : List AV := [.c (.d (nsD l)), .c (.d (nsD l))]
theorem Ajq : InjT e2 := fun a b h => At (sz := 1) (d0 := 0) AaF _ _ (H7 (Ai h).1)
theorem sSm : OrcS prog (oSm (okG e2 fun l => Ak l) fun _ => true) := .cons (.t' (enc := e2) (c := fun l => Ak l) (r := fun _ => vB true) fun l h => cSin l h) .nil
theorem AgQ (a : ByteArray) : (!(a.toList == a.toList)) = false := n_eq rfl
section
variable {p : List Pbl} {d : List Dev} (h : OkT p d)
include h
omit h in
theorem e2ok {l : List Int} (hl : l.length <= 100000) : okG e2 (fun l => Ak l) [AV.c (C.d (Aa 1 nC 0 l)), AV.c (C.d (Aa 1 nC 0 l))] = true := Aj Ajq (c := fun l => Ak l) l (by unfold Ak; exact decide_eq_true (by omega))
theorem cSme : CX prog 11 [.agg [.d (D5 p), .d (Hy d)], .agg [.d (D5 p), .d (Hy d)]] [] (vB true) [] := by
 obtain ⟨g, hg⟩ : ∃ g, 200000 < g := ⟨200001, by omega⟩
 have ev := Akm (okG e2 fun l => Ak l) (fun _ => true) p p d d g
 rw [Fq, Fq, cond_false, cond_false] at ev
 have hp := h.hp
 have hd := h.hd
 have l21 : ∀ i, i < d.length -> ∀ mo m k, k <= (d.getD i dev0).ins.length -> (d.getD i dev0).ins.length - k < m -> H8 (okG e2 fun l => Ak l) (fun _ => true) p p d d g mo m i (k : Nat) = H9 (okG e2 fun l => Ak l) (fun _ => true) p p d d g mo ((i + 1 : Nat) : Int) := fun i hi mo m k hk hm => by
  have hin := h.hi _ (A3 dev0 hi)
  refine G5 (n := (d.getD i dev0).ins.length) (L := fun m k => H8 (okG e2 fun l => Ak l) (fun _ => true) p p d d g mo m i k) (fun m k hk => ?_) (fun m => ?_) m k hk hm
  ·rw [Vf, tn i, tn k, lt1 hk, ge0, tt, Fq, Fq, nx hk (by omega), cond_true, cond_true, cond_true, cond_true, cond_true, cond_false, cond_false]
  ·rw [Vf, tn i, lt0 (Nat.lt_irrefl _), nx hi (by omega), cond_false]
 have l16 : ∀ i, i < d.length -> ∀ mo m k, k <= (d.getD i dev0).outs.length -> (d.getD i dev0).outs.length - k < m -> Ku (okG e2 fun l => Ak l) (fun _ => true) p p d d g mo m i (k : Nat) = H8 (okG e2 fun l => Ak l) (fun _ => true) p p d d g mo g i 0 := fun i hi mo m k hk hm => by
  have hin := h.ho _ (A3 dev0 hi)
  refine G5 (n := (d.getD i dev0).outs.length) (L := fun m k => Ku (okG e2 fun l => Ak l) (fun _ => true) p p d d g mo m i k) (fun m k hk => ?_) (fun m => ?_) m k hk hm
  ·rw [Vg, tn i, tn k, lt1 hk, ge0, tt, AgQ, nx hk (by omega), cond_true, cond_true, cond_true, cond_false]
  ·rw [Vg, tn i, lt0 (Nat.lt_irrefl _), cond_false]
 have l10 : ∀ m i, i <= d.length -> d.length - i < m -> H9 (okG e2 fun l => Ak l) (fun _ => true) p p d d g m (i : Nat) = some (.leaf (vB true, [])) :=
  G5 (n := d.length) (L := fun m k => H9 (okG e2 fun l => Ak l) (fun _ => true) p p d d g m k) (fun m i hi => by
   have h1 := h.ho _ (A3 dev0 hi)
   have h2 := h.hn _ (A3 dev0 hi)
   have h3 := h.hi _ (A3 dev0 hi)
   have a : Ku (okG e2 fun l => Ak l) (fun _ => true) p p d d g m g i 0 = _ := l16 i hi m g 0 (by omega) (by omega)
   have b : H8 (okG e2 fun l => Ak l) (fun _ => true) p p d d g m g i 0 = _ := l21 i hi m g 0 (by omega) (by omega)
   rw [Vh, tn i, lt1 hi, ge0, tt, e2ok h2, Fq, Fq, Bool.not_true, cond_true, cond_true, cond_true, cond_true, cond_false, cond_false, cond_false, a, b]) (fun m => by rw [Vh, lt0 (Nat.lt_irrefl _), cond_false])
 have l4 : ∀ m i, i <= p.length -> p.length - i < m -> S6 (okG e2 fun l => Ak l) (fun _ => true) p p d d g m (i : Nat) = some (.leaf (vB true, [])) :=
  G5 (n := p.length) (L := fun m k => S6 (okG e2 fun l => Ak l) (fun _ => true) p p d d g m k) (fun m i hi => by
   have h1 := h.hs _ (A3 pbl0 hi)
   rw [Y1, tn i, lt1 hi, ge0, tt, e2ok h1, Fq, Fq, Fq, Fq, Bool.not_true, nx hi (by omega), cond_true, cond_true, cond_true, cond_true, cond_false, cond_false, cond_false, cond_false, cond_false]) (fun m => by
   have b : H9 (okG e2 fun l => Ak l) (fun _ => true) p p d d g g 0 = _ := l10 g 0 (by omega) (by omega)
   rw [Y1, lt0 (Nat.lt_irrefl _), cond_false, b])
 exact Ax sSm.ok func11 bsme rfl (ev.trans (l4 g 0 (by omega) (by omega)))
end
theorem AgK : OkT [] [] := ⟨by simp, by simp, fun x h => (by cases h), fun x h => (by cases h), fun x h => (by cases h), fun x h => (by cases h)⟩
theorem AgL {c : SCfg} (h : OkC c) : OkT (pbls 0 c.rels) (devs c.rels (pbls 0 c.rels) 0 0 c.rels) := by
 have hl := h.len
 have hpl := h.plen c.rels.length (Nat.le_refl _)
 rw [Fc] at hpl
 have hdl := Ln c.rels (pbls 0 c.rels) c.rels 0 0
 have dv : ∀ x ∈ devs c.rels (pbls 0 c.rels) 0 0 c.rels, ∃ i, i < c.rels.length /\ x = Us c.rels (pbls 0 c.rels) (0 + offs c.rels i) (0 + i) (c.rels.getD i rel0) := fun x hx => by
  obtain ⟨i, hi, rfl⟩ := List.getElem_of_mem hx
  have hi' : i < c.rels.length := by omega
  refine ⟨i, hi', ?_⟩
  rw [<- Q3 c.rels (pbls 0 c.rels) c.rels 0 0 i hi', List.getD_eq_getElem?_getD, List.getElem?_eq_getElem hi]; rfl
 have pb : ∀ (l : List SRel) (k : Nat), (∀ r ∈ l, FitR r) -> ∀ x ∈ pbls k l, x.sigs.length <= 100000 := by
  intro l
  induction l with
  | nil => intro k _ x hx; cases hx
  | cons r t ih =>
   intro k hr x hx
   rcases List.mem_append.1 (show x ∈ Bc k r ++ pbls (k + 1) t from hx) with hx | hx
   ·obtain ⟨q, _, rfl⟩ := List.mem_map.1 hx
    show (List.map _ _).length <= _
    rw [List.length_map]
    by_cases hs : (A0 r q.set).toNat < r.sets.length
    ·have := (hr r (by simp)).sg _ (A3 set0 hs); omega
    ·rw [show r.sets.getD (A0 r q.set).toNat set0 = set0 by simp [List.getD, Nat.le_of_not_lt hs]]
     show (0 : Nat) <= _
     omega
   ·exact ih (k + 1) (fun q hq => hr q (by simp [hq])) x hx
 refine ⟨by omega, by omega, pb c.rels 0 (fun r hr => Av ((B2 h.fit).2.1 r hr)), fun x hx => ?_, fun x hx => ?_, fun x hx => ?_⟩
 ·obtain ⟨i, hi, rfl⟩ := dv x hx
  have hF := Av (h.fr hi)
  have := Dj (c.rels.getD i rel0)
  have := hF.ru
  show (outS _).length <= _
  omega
 ·obtain ⟨i, hi, rfl⟩ := dv x hx
  have hF := Av (h.fr hi)
  have := hF.pu
  show (List.map _ (List.range _)).length <= _
  rw [List.length_map, List.length_range]; omega
 ·obtain ⟨i, hi, rfl⟩ := dv x hx
  have hF := Av (h.fr hi)
  have := hF.su
  show (List.map _ _).length <= _
  rw [List.length_map]; omega
def psF (c : SCfg) : List Pbl := bif C3 c == 0 then pbls 0 c.rels else []
def dsF (c : SCfg) : List Dev := bif C3 c == 0 then devs c.rels (pbls 0 c.rels) 0 0 c.rels else []
abbrev aT2 (a : List Pbl × List Dev) : AV := .agg [.d (D5 a.1), .d (Hy a.2)]
def eTs (a : List Pbl × List Dev) : List AV := [aT2 a, aT2 a]
theorem Ahy : InjT eTs := fun a b h => by
 have h := (Ai h).1
 have h : DEs [D5 a.1, Hy a.2] [D5 b.1, Hy b.2] := Ng h
 exact Prod.ext (At Adb _ _ (h.2 0 _ _ rfl rfl)) (At AdC _ _ (h.2 1 _ _ rfl rfl))
def ZTl : KTl where
 okl := okG eCf okCf
 lg x := D9 (theT eCf x)
 okt := okG eCf okcF
 ps x := psF (theT eCf x)
 ds x := dsF (theT eCf x)
 er x := C3 (theT eCf x)
 oks := okG eTs fun a => pD (OkT a.1 a.2)
theorem cmpF {c : SCfg} (h : okcF c = true) : CX prog 9 [aCfg c] [] (aTs (psF c) (dsF c) (C3 c)) [] /\ CX prog 10 [aCfg c] [] (aTs (psF c) (dsF c) (C3 c)) [] := by
 obtain ⟨h1, h2⟩ := Adf h
 have c1 := cTab c h1 h2
 have c2 := cRtb c h1 h2
 unfold psF dsF
 by_cases h0 : C3 c = 0
 ·have hO := Aek h1 h2 h0
  rw [h0] at c1 c2 ⊢
  rw [show ((0 : Int) == 0) = true from rfl, cond_true, cond_true]
  exact ⟨cCmp hO c1, cRcm hO c2⟩
 ·rw [show (C3 c == 0) = false by simpa using h0, cond_false, cond_false]
  exact ⟨Alp h0 c1, Aln h0 c2⟩
theorem sTl : OrcS prog (oTl ZTl) :=
 .cons (.p AhE kn.c9k) (.cons (.t' (enc := eCf) (c := okCf) (r := fun c => vB (D9 c)) fun c h => clg9 c h)
  (.cons (.t' (enc := eCf) (c := okcF) (r := fun c => aTs (psF c) (dsF c) (C3 c)) fun c h => (cmpF h).1)
  (.cons (.t' (enc := eCf) (c := okcF) (r := fun c => aTs (psF c) (dsF c) (C3 c)) fun c h => (cmpF h).2)
  (.cons (.t' (enc := eTs) (c := fun a => pD (OkT a.1 a.2)) (r := fun _ => vB true) fun a h => cSme (Fp.1 h)) .nil))))
theorem AjV {c : SCfg} (h : okCf c = true) (hL : D9 c = false) : OkT (psF c) (dsF c) := by
 unfold psF dsF
 by_cases h0 : C3 c = 0
 ·rw [show (C3 c == 0) = true by simpa using h0]
  exact AgL (Aek h hL h0)
 ·rw [show (C3 c == 0) = false by simpa using h0]
  exact AgK
theorem zTl {c : SCfg} : ZTl.ps [AV.agg (List.map C.d (cfgC c))] = psF c /\ ZTl.ds [AV.agg (List.map C.d (cfgC c))] = dsF c /\ ZTl.lg [AV.agg (List.map C.d (cfgC c))] = D9 c /\ ZTl.er [AV.agg (List.map C.d (cfgC c))] = C3 c := by
 have t := t_cf c
 refine ⟨?_, ?_, ?_, ?_⟩ <;> dsimp only [ZTl] <;> rw [t]
theorem Ajv (c : SCfg) (h : okCf c = true) : CR prog 3 [aCfg c] [] (vB true) [] := by
 refine M3 sTl.ok func3 (by kernel_rfl) rfl ((evTC ZTl c).trans ?_)
 have k1 : ZTl.okl [AV.agg (List.map C.d (cfgC c))] = true := Aj Cz (c := okCf) c h
 rw [k1, zTl.2.2.1, cond_true]
 cases hL : D9 c with
 | true => rfl
 | false =>
  have k2 : ZTl.okt [AV.agg (List.map C.d (cfgC c))] = true := Aj Cz (c := okcF) c (by unfold okcF; rw [h, hL]; rfl)
  have k3 : ZTl.oks [AV.agg [C.d (Aa 5 pblC pbl0 (psF c)), C.d (Aa 3 devC dev0 (dsF c))], AV.agg [C.d (Aa 5 pblC pbl0 (psF c)), C.d (Aa 3 devC dev0 (dsF c))]] = true := Aj Ahy (c := fun a => pD (OkT a.1 a.2)) (psF c, dsF c) (Fp.2 (AjV h hL))
  rw [k2, zTl.2.2.2, zTl.1, zTl.2.1, k3, beq_self_eq_true]
  rfl
end Go.Proofs.YtbpndheehcbldaaGreatDoor.tb
namespace Go.Proofs.YtbpndheehcbldaaGreatDoor.ito
open Go Go.Eb
open Go.ChangeShapes Go.WideShapes Go.ChangeAt Go.WideMaps Go.WideElems Go.RowKit
theorem own : ownKnob prog.godebug = none := by kernel_rfl
abbrev X1 : List (String × DataW Unit) := Rows.tablesSendsRow.laid
abbrev tT : TypeId := 315
theorem tTab : (prog.globals[0]?).map (·.type) = some tT := by kernel_rfl
theorem uTab : prog.underlying tT = some (.array 20 300) := by kernel_rfl
theorem uInt : prog.underlying 300 = some (.int .u64) := by kernel_rfl
theorem cTab : prog.cellsOf tT = 20 := by kernel_rfl
theorem cInt : prog.cellsOf 300 = 1 := by kernel_rfl
section
variable {W : World} {base : Nat} {sp : Nat -> Bool} {held : Bool} {fuel : Nat}
theorem Yw {cs : List Value} {p : List MemPlace} (h : DataW.trod (fun _ => ()) prog W base sp held fuel tT cs = some (Rows.laid_internal_strconv_uint64pow10, p)) : cs = Lib.pow10Tab.map (.int .u64) := by
 obtain ⟨xs, m, rfl, hx, hlen, hn, hel⟩ := DataW.trod_array uTab h
 rw [cTab] at hlen
 rw [cInt] at hel
 have hx1 : (Lib.pow10Tab.map fun k => DataW.lit (H := Unit) (.int .u64 k)) = xs.map (·.1) := by
  simp only [Prod.mk.injEq] at hx
  have := hx.1
  simp only [Rows.laid_internal_strconv_uint64pow10, DataW.agg.injEq] at this
  exact this
 have h20 : Lib.pow10Tab.length = 20 := by simp [Lib.pow10Tab]
 refine List.ext_getElem (by simp [hlen, h20]) fun i h1 h2 => ?_
 have hi : i < 20 := by omega
 have he := hel i hi
 have hxi : i < xs.length := by omega
 rw [List.getElem?_eq_getElem hxi] at he
 obtain ⟨k, e1, e2, _⟩ := DataW.trod_int uInt he
 have hi' : i < Lib.pow10Tab.length := by omega
 have e3 : xs[i].1 = .lit (.int .u64 Lib.pow10Tab[i]) := by
  have := congrArg (fun l => l[i]?) hx1
  simpa [hxi, hi'] using this.symm
 rw [e2] at e3
 simp only [DataW.lit.injEq, Lit.int.injEq, true_and] at e3
 have e4 : (cs.drop (i * 1)).take 1 = [cs[i]] := by
  rw [Nat.mul_one, List.drop_eq_getElem_cons h1]; rfl
 rw [e4] at e1
 simp only [List.cons.injEq, and_true] at e1
 rw [List.getElem_map]
 simp [e1, e3]
end
theorem AdP {W : World} (h : laidMetH prog X1 W) : ∃ t fz, W.heap[0]? = some (.cells tab t fz) := by
 rw [MakeChecks.laidMetH_plain _ _ _ (by kernel_rfl)] at h
 obtain ⟨ps, ⟨_, _, _, _, _, _, _, _, _, _, ⟨_, _, _, _, _, _, _, _, _, _, ⟨g, t, cs, f, p, q, hg, ht, hv, hd, _, _⟩, _⟩, _⟩, _, _⟩ := h
 have e0 : some g = some 0 := hg.symm.trans (by kernel_rfl)
 obtain rfl := Option.some.inj e0
 obtain rfl := Option.some.inj (tTab.symm.trans ht)
 have e := Yw hd
 unfold World.var? at hv
 rw [hg] at hv
 simp only [Option.bind_some] at hv
 split at hv
 ·rename_i cs' t' fz hw
  simp only [Option.some.injEq] at hv
  subst hv
  refine ⟨t', fz, ?_⟩
  rw [hw]
  have e1 : cs' = tab := by
   apply Array.ext'
   rw [e]
   rfl
  rw [e1]
 ·cases hv
theorem Ahi {W : World} (h : laidMetH prog X1 W) : Glob (allI W) W := by
 obtain ⟨t, fz, hw⟩ := AdP h
 intro x hx
 unfold Sc at hx
 obtain ⟨i, hi, rfl⟩ := List.mem_map.1 hx
 refine ⟨(Array.getElem?_eq_some_iff.1 hw).1, ?_⟩
 show World.cell? W ⟨0, i, none⟩ = _
 unfold World.cell?
 rw [hw]
 show tab[i]? = _
 rw [bltD]
 by_cases h20 : i < 20
 ·rw [Yu i h20, decide_eq_true h20]; rfl
 ·rw [decide_eq_false h20, Array.getElem?_eq_none (by rw [U9]; omega)]; rfl
theorem Ady (os : Os) (args : Array Value) : laidMetH prog X1 ((World.doorLaid prog 400 os).forCall (fun _ _ => 0) ⟨#[], args, []⟩).memory :=
 laidMetH_of_parts3 (fuel := 8) (laidMet_of_run' 8 (by kernel_rfl) (by kernel_rfl)) (by kernel_rfl) (by kernel_rfl)
end Go.Proofs.YtbpndheehcbldaaGreatDoor.ito
end
