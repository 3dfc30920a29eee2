/-
  An evaluator of Go code on abstract values, proved sound, and what it computes of the functions that the statement reaches (part 5). No condition.
-/
import Derived.Test.YthmapnolgdpkbaaDoorQ4
import Derived.Test.YthmapnolgdpkbaaDoorProg
import Derived.KernelRfl
import Derived.Test.YthmapnolgdpkbaaDoorTie
import Derived.ProofKit
import Derived.LaidMore
import Derived.OpenShut
import Derived.Stop.Joined
set_option maxRecDepth 100000
namespace Go.Proofs.YthmapnolgdpkbaaDoor.st
open Go.RowKit Go.Eb

theorem bOr (a b : Bool) : (bif a then lB false else lB b) = lB (!a && b) := by cases a <;> rfl
theorem sBe : OrcS Tryd.prog oBe := .cons (.inl .nil Tryd.func52 (by kernel_rfl)) .nil
theorem sOh : OrcS Tryd.prog oOh := .cons (.inl sBe Tryd.func25 (by kernel_rfl)) sBe
theorem c49 (x : SBay) : CX Tryd.prog 54 [aBay x] [] (vB (rngOk x)) [] := by
  refine cx_of sOh.ok Tryd.func54 b49 rfl ((ev49 x 1).trans ?_)
  unfold rngOk impOk within
  cases h3 : (x.kind == 3) with
  | true =>
    cases h1 : (x.kind == 1) with
    | true => simp at h1 h3; omega
    | false =>
      simp only [cond_true, cond_false, fNot, bAnd, bOr, neN, Bool.and_true]
      refine congrArg lB ?_
      rw [Bool.eq_iff_iff]
      simp only [Bool.and_eq_true, decide_eq_true_eq, beq_iff_eq, Bool.not_eq_true', bne_iff_ne, ne_eq, Bool.not_not, Bool.or_eq_true, Bool.and_eq_false_iff, decide_eq_false_iff_not, beq_eq_false_iff_ne, Bool.not_eq_false', Bool.not_and, Bool.not_or]
      omega
  | false =>
    cases h1 : (x.kind == 1) with
    | true =>
      simp only [cond_true, cond_false, fNot, bAnd, bOr, neN, Bool.and_true]
      refine congrArg lB ?_
      rw [Bool.eq_iff_iff]
      simp only [Bool.and_eq_true, decide_eq_true_eq, beq_iff_eq, Bool.not_eq_true', bne_iff_ne, ne_eq, Bool.not_not, Bool.or_eq_true, Bool.and_eq_false_iff, decide_eq_false_iff_not, beq_eq_false_iff_ne, Bool.not_eq_false', Bool.not_and, Bool.not_or]
      omega
    | false =>
      simp only [cond_true, cond_false, fNot, bAnd, bOr, neN, Bool.and_true]
      refine congrArg lB ?_
      rw [Bool.eq_iff_iff]
      simp only [Bool.and_eq_true, decide_eq_true_eq, beq_iff_eq, Bool.not_eq_true', bne_iff_ne, ne_eq, Bool.not_not, Bool.or_eq_true, Bool.and_eq_false_iff, decide_eq_false_iff_not, beq_eq_false_iff_ne, Bool.not_eq_false', Bool.not_and, Bool.not_or]
      omega

theorem bge (b : Int) (n : Nat) : (decide (b < 0) || decide (b ≥ (n : Int))) = !within b 0 ((n : Int) - 1) := by
  unfold within
  rw [Bool.eq_iff_iff]
  simp only [Bool.or_eq_true, decide_eq_true_eq, Bool.not_eq_true', Bool.and_eq_false_iff, decide_eq_false_iff_not]
  omega
theorem lp50 (s : SSta) (x : SBay) (hl : x.links.length ≤ 9223372036854775807) (g : Nat) : ∀ (m k : Nat), k ≤ x.links.length → x.links.length - k < m → L50_5 s x g m k = lI (linkErr s.buses.length x.kind (prevB x.links k) (x.links.drop k)) []
  | 0, k, _, h => by omega
  | m + 1, k, hk, h => by
    rw [st50_5]
    by_cases hlt : k < x.links.length
    · have ih := lp50 s x hl g m (k + 1) (by omega) (by omega)
      rw [drop_at' (d := link0) hlt]
      simp only [lt1 hlt, ge0, tn, Bool.and_self, cond_true, nx hlt (by omega), ih, linkErr, fOr, bge]
      cases k with
      | zero =>
        simp only [prevB, List.getD_cons_zero]
        generalize within (x.links.getD 0 link0).bus 0 ((s.buses.length : Int) - 1) = b1
        generalize ((x.links.getD 0 link0).pos != 1) = b3
        generalize ((x.links.getD 0 link0).pos != 0) = b4
        generalize (x.kind == 3) = b5
        cases b1 <;> cases b3 <;> cases b4 <;> cases b5 <;> rfl
      | succ k =>
        have e1 : IntKind.wrap IntKind.i64 (((k + 1 : Nat) : Int) - 1) = (k : Int) := by rw [wrap_id (by omega) (by omega)]; omega
        have e2 : decide (((k + 1 : Nat) : Int) > 0) = true := by rw [gt0]; simp
        have e3 : decide ((k : Int) < (x.links.length : Int)) = true := lt1 (by omega)
        have e4 : (some (x.links.getD k link0).bus == some (x.links.getD (k + 1) link0).bus) = ((x.links.getD (k + 1) link0).bus == (x.links.getD k link0).bus) := by
          show ((x.links.getD k link0).bus == (x.links.getD (k + 1) link0).bus) = _
          exact Bool.beq_comm
        simp only [prevB, e1, e2, e3, e4, ge0, tn, Bool.and_self, cond_true]
        generalize within (x.links.getD (k + 1) link0).bus 0 ((s.buses.length : Int) - 1) = b1
        generalize ((x.links.getD (k + 1) link0).pos != 1) = b3
        generalize ((x.links.getD (k + 1) link0).pos != 0) = b4
        generalize (x.kind == 3) = b5
        generalize ((x.links.getD (k + 1) link0).bus == (x.links.getD k link0).bus) = b6
        cases b1 <;> cases b3 <;> cases b4 <;> cases b5 <;> cases b6 <;> rfl
    · rw [lt0 hlt, List.drop_of_length_le (by omega)]
      rfl
theorem c50 (s : SSta) (x : SBay) (hl : x.links.length ≤ 9223372036854775807) : CX Tryd.prog 55 [aSta s, aBay x] [] (vI (linksErr s.buses.length x)) [] := by
  obtain ⟨g, hg⟩ : ∃ g, x.links.length < g := ⟨x.links.length + 1, by omega⟩
  refine cx_of (Orc.nil_ok _) Tryd.func55 b50 rfl ((ev50 s x g).trans ?_)
  have e0 : L50_5 s x g g 0 = lI (linkErr s.buses.length x.kind none x.links) [] := lp50 s x hl g g 0 (by omega) (by omega)
  rw [e0, len_lt1, len_gt2, len_ne2]
  unfold linksErr
  generalize decide (x.links.length < 1) = b1
  generalize decide (2 < x.links.length) = b2
  generalize (x.kind == 3) = b3
  generalize (x.links.length != 2) = b4
  cases b1 <;> cases b2 <;> cases b3 <;> cases b4 <;> rfl
end Go.Proofs.YthmapnolgdpkbaaDoor.st
namespace Go.Proofs.YthmapnolgdpkbaaDoor.st
open Go.RowKit Go.Eb

noncomputable def rsta (x : RSta) : SSta := ⟨x.1, theE busesD x.2.1, theE linesD x.2.2.1, theE srcsD x.2.2.2.1, theE baysD x.2.2.2.2.1⟩
noncomputable def okRS (x : RSta) : Bool := okE busesD x.2.1 && (okE linesD x.2.2.1 && (okE srcsD x.2.2.2.1 && okE baysD x.2.2.2.2.1))
def staR (s : SSta) : RSta := (s.name, busesD s.buses, linesD s.lines, srcsD s.srcs, baysD s.bays, ())
theorem okRS_staR (s : SSta) : okRS (staR s) = true := by
  unfold okRS staR
  rw [(the_list busC_inj s.buses).1, (the_list lineC_inj s.lines).1, (the_list srcC_inj s.srcs).1, (the_list bayC_inj s.bays).1]; rfl
theorem rsta_staR (s : SSta) : rsta (staR s) = s := by
  unfold rsta staR
  simp only [(the_list busC_inj s.buses).2, (the_list lineC_inj s.lines).2, (the_list srcC_inj s.srcs).2, (the_list bayC_inj s.bays).2]
theorem sta_le (x : RSta) (h : okRS x = true) : Ale (.agg (staD.enc x)) (aSta (rsta x)) := by
  unfold okRS at h
  simp only [Bool.and_eq_true] at h
  exact .cons (.refl _) (.cons (theE_de h.1) (.cons (theE_de h.2.1) (.cons (theE_de h.2.2.1) (.cons (theE_de h.2.2.2) .nil))))

noncomputable def ok24 (x : RSta) (b : RBay) : Bool := okRS x && okRB b
noncomputable def lk24 (x : RSta) (b : RBay) : Int := linksErr (rsta x).buses.length (rbay b)
theorem s24 : OrcS Tryd.prog (o24 (fun a => rngOk (rbay a)) okRB ok24 lk24) := by
  refine .cons (.inl .nil Tryd.func53 (by kernel_rfl)) (.cons (.d fun a ha => ?_) (.cons (.d fun a ha => ?_) .nil))
  · exact (c49 (rbay a.1.1)).ge (.cons (bay_le _ ha) .nil) (.refl _)
  · unfold ok24 at ha
    simp only [Bool.and_eq_true] at ha
    exact (c50 (rsta a.1.1) (rbay a.1.2.1) (okRB_len ha.2)).ge (.cons (sta_le _ ha.1) (.cons (bay_le _ ha.2) .nil)) (.refl _)

def bayRest (nb nl ns : Nat) (before : List SBay) (b : SBay) : Int := match cntOf nl ns b.kind with
    | none => 10
    | some c => bif !within b.off 0 (c - 1) then 9 else bif !rngOk b then 2 else bif before.any (clash b) then 12 else linksErr nb b
theorem bayErr_rest (nb nl ns : Nat) (N : List ByteArray) (before : List SBay) (b : SBay) : bayErr nb nl ns N before b = bif namErr N b.name != 0 then namErr N b.name else bayRest nb nl ns before b := by
  unfold bayErr bayErrD namErr bayRest
  cases nameOk b.name with
  | false => rfl
  | true => cases inB N b.name <;> rfl

section
variable (s : SSta) (i : Nat) (hi : i < s.bays.length)
abbrev bI (s : SSta) (i : Nat) : SBay := s.bays.getD i bay0
include hi
theorem lp24 (hb : s.bays.length ≤ 9223372036854775807) (hl : (bI s i).links.length ≤ 9223372036854775807) (g : Nat) : ∀ (m k : Nat), k ≤ i → i - k < m →
    L24_8 (fun a => rngOk (rbay a)) okRB ok24 lk24 s i g m k = bif ((s.bays.take i).drop k).any (clash (bI s i)) then lI 12 [] else lI (linksErr s.buses.length (bI s i)) []
  | 0, k, _, h => by omega
  | m + 1, k, hk, h => by
    rw [st24_8]
    have hok : ok24 (staR s) (bayR (bI s i)) = true := by
      unfold ok24
      have e1 : okRB (bayR (bI s i)) = true := okLk_links hl
      rw [okRS_staR, e1]; rfl
    have hlk : lk24 (staR s) (bayR (bI s i)) = linksErr s.buses.length (bI s i) := by unfold lk24; rw [rsta_staR, rbay_bayR]
    have haft : ∀ A B : RSta, ∀ C' D' : RBay, A = staR s → B = staR s → C' = bayR (bI s i) → D' = bayR (bI s i) → (bif ok24 A C' then some (T.leaf (vI (lk24 B D'), ([] : Hp))) else none) = lI (linksErr s.buses.length (bI s i)) [] := by
      intro A B C' D' hA hB hC hD
      subst hA hB hC hD
      rw [hok, hlk]; rfl
    by_cases hlt : k < i
    · have ih := lp24 hb hl g m (k + 1) (by omega) (by omega)
      have ht : k < (s.bays.take i).length := by simp; omega
      have hg : (s.bays.take i).getD k bay0 = s.bays.getD k bay0 := by simp [List.getD, hlt]
      rw [drop_at' (d := bay0) ht, hg]
      simp only [lt1 hlt, lt1 (show k < s.bays.length by omega), ge0, tn, Bool.and_self, cond_true, nx hlt (by omega), ih, List.any_cons]
      cases h3 : ((s.bays.getD i bay0).kind != 3) with
      | false =>
        have hn : ∀ l : List SBay, l.any (clash (bI s i)) = false := fun l => by
          rw [List.any_eq_false]
          intro y _
          unfold clash
          rw [h3]; simp
        have hc : clash (bI s i) (s.bays.getD k bay0) = false := by unfold clash; rw [h3]; rfl
        rw [hn, hc]
        simp only [cond_false, Bool.or_self]
        exact haft _ _ _ _ rfl rfl rfl rfl
      | true =>
        have hc : clash (bI s i) (s.bays.getD k bay0) = ((s.bays.getD k bay0).kind == (bI s i).kind && ((s.bays.getD k bay0).off == (bI s i).off && (s.bays.getD k bay0).fin == (bI s i).fin)) := by
          unfold clash
          rw [h3]
          simp only [Bool.true_and]
          rw [Bool.beq_comm (a := (bI s i).kind), Bool.beq_comm (a := (bI s i).off), Bool.beq_comm (a := (bI s i).fin)]
        rw [hc]
        simp only [cond_true]
        generalize ((s.bays.getD k bay0).kind == (s.bays.getD i bay0).kind) = b1
        generalize ((s.bays.getD k bay0).off == (s.bays.getD i bay0).off) = b2
        generalize ((s.bays.getD k bay0).fin == (s.bays.getD i bay0).fin) = b3
        cases b1 <;> cases b2 <;> cases b3 <;> rfl
    · obtain rfl : k = i := by omega
      rw [lt0 (Nat.lt_irrefl _), List.drop_of_length_le (by simp; omega)]
      simp only [cond_false, List.any_nil]
      exact haft _ _ _ _ rfl rfl rfl rfl

omit hi in
theorem wge (b : Int) (n : Nat) : (decide (b < 0) || decide (b ≥ (n : Int))) = !within b 0 ((n : Int) - 1) := bge b n
omit hi in
theorem w00 (b : Int) : (b != 0) = !within b 0 ((1 : Int) - 1) := by
  unfold within
  rw [Bool.eq_iff_iff]
  simp only [bne_iff_ne, ne_eq, Bool.not_eq_true', Bool.and_eq_false_iff, decide_eq_false_iff_not]
  omega
theorem c24 (hb : s.bays.length ≤ 9223372036854775807) (hl : (bI s i).links.length ≤ 9223372036854775807) : CX Tryd.prog 27 [aSta s, vI i] [] (vI (bayRest s.buses.length s.lines.length s.srcs.length (s.bays.take i) (bI s i))) [] := by
  obtain ⟨g, hg⟩ : ∃ g, i < g := ⟨i + 1, by omega⟩
  refine cx_of s24.ok Tryd.func27 b24 rfl ((ev24 (fun a => rngOk (rbay a)) okRB ok24 lk24 s i g).trans ?_)
  have hL : L24_8 (fun a => rngOk (rbay a)) okRB ok24 lk24 s i g g 0 = bif (s.bays.take i).any (clash (bI s i)) then lI 12 [] else lI (linksErr s.buses.length (bI s i)) [] := lp24 s i hi hb hl g g 0 (by omega) (by omega)
  have e1 : okRB (bayR (s.bays.getD i bay0)) = true := okLk_links hl
  have e2 : rngOk (rbay (bayR (s.bays.getD i bay0))) = rngOk (s.bays.getD i bay0) := by rw [rbay_bayR]
  unfold bayR at e1 e2
  rw [hL]
  simp only [lt1 hi, ge0, tn, Bool.and_self, cond_true, e1, e2, fOr, wge, w00]
  unfold bayRest cntOf
  cases ((s.bays.getD i bay0).kind == 1) with
  | true =>
    simp only [cond_true]
    cases within (s.bays.getD i bay0).off 0 ((s.lines.length : Int) - 1) <;> first | rfl | (cases rngOk (s.bays.getD i bay0) <;> first | rfl | (cases (s.bays.take i).any (clash (s.bays.getD i bay0)) <;> rfl))
  | false =>
    cases ((s.bays.getD i bay0).kind == 2) with
    | true =>
      simp only [cond_true, cond_false]
      cases within (s.bays.getD i bay0).off 0 ((s.srcs.length : Int) - 1) <;> first | rfl | (cases rngOk (s.bays.getD i bay0) <;> first | rfl | (cases (s.bays.take i).any (clash (s.bays.getD i bay0)) <;> rfl))
    | false =>
      cases ((s.bays.getD i bay0).kind == 3) with
      | true =>
        simp only [cond_true, cond_false]
        cases within (s.bays.getD i bay0).off 0 ((1 : Int) - 1) <;> first | rfl | (cases rngOk (s.bays.getD i bay0) <;> first | rfl | (cases (s.bays.take i).any (clash (s.bays.getD i bay0)) <;> rfl))
      | false => rfl
end
end Go.Proofs.YthmapnolgdpkbaaDoor.st
namespace Go.Proofs.YthmapnolgdpkbaaDoor.st
open Go.RowKit Go.Eb

noncomputable def Z8 : K8 where
  nk := nameOk
  okn a := okRS a.1 && (decide (0 ≤ a.2.1) && (decide (0 ≤ a.2.2.1) && (decide (0 ≤ a.2.2.2.1) && (decide (0 ≤ a.2.2.2.2.1) && (decide (a.2.1.toNat ≤ (rsta a.1).buses.length) && (decide (a.2.2.1.toNat ≤ (rsta a.1).lines.length) && (decide (a.2.2.2.1.toNat ≤ (rsta a.1).srcs.length) && (decide (a.2.2.2.2.1.toNat ≤ (rsta a.1).bays.length) &&
    (decide (a.2.1.toNat ≤ 900) && (decide (a.2.2.1.toNat ≤ 900) && (decide (a.2.2.2.1.toNat ≤ 900) && decide (a.2.2.2.2.1.toNat ≤ 900))))))))))))
  nm a := busesD (namesOf (rsta a.1) a.2.1.toNat a.2.2.1.toNat a.2.2.2.1.toNat a.2.2.2.2.1.toNat)
  okd x s := okDS x s
  nd x s := namErr (theE busesD x) s
  okb a n := okRS a && (decide (0 ≤ n) && (decide (n.toNat < (rsta a).bays.length) && (decide ((rsta a).bays.length ≤ 900) && lksOk (rsta a).bays)))
  be a n := bayRest (rsta a).buses.length (rsta a).lines.length (rsta a).srcs.length ((rsta a).bays.take n.toNat) ((rsta a).bays.getD n.toNat bay0)
theorem s8 : OrcS Tryd.prog (o8 Z8) := by
  refine .cons (.p decS_ok c16) (.cons (.d fun a ha => ?_) (.cons (.d fun a ha => ?_) (.cons (.inl sOh Tryd.func26 (by kernel_rfl)) (.cons (.d fun a ha => ?_) sOh))))
  · have ha' : (okRS a.1.1 && (decide (0 ≤ a.1.2.1) && (decide (0 ≤ a.1.2.2.1) && (decide (0 ≤ a.1.2.2.2.1) && (decide (0 ≤ a.1.2.2.2.2.1) && (decide (a.1.2.1.toNat ≤ (rsta a.1.1).buses.length) && (decide (a.1.2.2.1.toNat ≤ (rsta a.1.1).lines.length) && (decide (a.1.2.2.2.1.toNat ≤ (rsta a.1.1).srcs.length) && (decide (a.1.2.2.2.2.1.toNat ≤ (rsta a.1.1).bays.length) &&
      (decide (a.1.2.1.toNat ≤ 900) && (decide (a.1.2.2.1.toNat ≤ 900) && (decide (a.1.2.2.2.1.toNat ≤ 900) && decide (a.1.2.2.2.2.1.toNat ≤ 900))))))))))))) = true := ha
    simp only [Bool.and_eq_true, decide_eq_true_eq] at ha'
    obtain ⟨h0, p1, p2, p3, p4, q1, q2, q3, q4, r1, r2, r3, r4⟩ := ha'
    have hc := c21 (rsta a.1.1) a.1.2.1.toNat a.1.2.2.1.toNat a.1.2.2.2.1.toNat a.1.2.2.2.2.1.toNat q1 q2 q3 q4 r1 r2 r3 r4
    rw [Int.toNat_of_nonneg p1, Int.toNat_of_nonneg p2, Int.toNat_of_nonneg p3, Int.toNat_of_nonneg p4] at hc
    exact hc.ge (.cons (sta_le _ h0) (.refl _)) (.refl _)
  · have ha' : okDS a.1.1 a.1.2.1 = true := ha
    unfold okDS at ha'
    simp only [Bool.and_eq_true, decide_eq_true_eq] at ha'
    exact (c20 (theE busesD a.1.1) a.1.2.1 ha'.2).ge (.cons (theE_de ha'.1) (.refl _)) (.refl _)
  · have ha' : (okRS a.1.1 && (decide (0 ≤ a.1.2.1) && (decide (a.1.2.1.toNat < (rsta a.1.1).bays.length) && (decide ((rsta a.1.1).bays.length ≤ 900) && lksOk (rsta a.1.1).bays)))) = true := ha
    simp only [Bool.and_eq_true, decide_eq_true_eq] at ha'
    obtain ⟨h0, p1, p2, p3, p4⟩ := ha'
    have hc := c24 (rsta a.1.1) a.1.2.1.toNat p2 (by omega) (lksOk_get p4 _ p2)
    rw [Int.toNat_of_nonneg p1] at hc
    exact hc.ge (.cons (sta_le _ h0) (.refl _)) (.refl _)

theorem chk_loop {α : Type} {nm : α → ByteArray} {F : List ByteArray → List α → α → Int} {N : List ByteArray} {d0 : α} {l : List α} {L : Nat → Int → Option (T (AV × Hp))} {NX : Option (T (AV × Hp))}
    (hst : ∀ (m k : Nat), k < l.length → L (m + 1) k = bif F (N ++ (l.take k).map nm) (l.take k) (l.getD k d0) != 0 then lI (F (N ++ (l.take k).map nm) (l.take k) (l.getD k d0)) [] else L m ((k + 1 : Nat) : Int))
    (hend : ∀ m, L (m + 1) l.length = NX) : ∀ (m k : Nat), k ≤ l.length → l.length - k < m → L m k = bif (takeN nm F N (l.take k) (l.drop k)).1 != 0 then lI (takeN nm F N (l.take k) (l.drop k)).1 [] else NX
  | 0, k, _, h => by omega
  | m + 1, k, hk, h => by
    by_cases e : k = l.length
    · subst e
      rw [hend, List.drop_of_length_le (Nat.le_refl _)]
      rfl
    · have hlt : k < l.length := by omega
      have ih := chk_loop hst hend m (k + 1) (by omega) (by omega)
      have et : l.take (k + 1) = l.take k ++ [l.getD k d0] := by
        rw [List.take_succ_eq_append_getElem hlt]
        congr 2
        simp [List.getD, hlt]
      rw [hst m k hlt, ih, et, drop_at' (d := d0) hlt]
      simp only [takeN]
      cases hF : (F (N ++ (l.take k).map nm) (l.take k) (l.getD k d0) != 0) with
      | true => simp only [cond_true, hF]
      | false => simp only [cond_false]

section
variable (s : SSta) (h1 : s.buses.length ≤ 900) (h2 : s.lines.length ≤ 900) (h3 : s.srcs.length ≤ 900) (h4 : s.bays.length ≤ 900) (hlk : lksOk s.bays = true)
include h1 h2 h3 h4
theorem okn8 (a b c d : Nat) (q1 : a ≤ s.buses.length) (q2 : b ≤ s.lines.length) (q3 : c ≤ s.srcs.length) (q4 : d ≤ s.bays.length) : Z8.okn (staR s, (a : Int), (b : Int), (c : Int), (d : Int), ()) = true := by
  show (okRS (staR s) && (decide (0 ≤ (a : Int)) && (decide (0 ≤ (b : Int)) && (decide (0 ≤ (c : Int)) && (decide (0 ≤ (d : Int)) && (decide ((a : Int).toNat ≤ (rsta (staR s)).buses.length) && (decide ((b : Int).toNat ≤ (rsta (staR s)).lines.length) && (decide ((c : Int).toNat ≤ (rsta (staR s)).srcs.length) && (decide ((d : Int).toNat ≤ (rsta (staR s)).bays.length) &&
    (decide ((a : Int).toNat ≤ 900) && (decide ((b : Int).toNat ≤ 900) && (decide ((c : Int).toNat ≤ 900) && decide ((d : Int).toNat ≤ 900))))))))))))) = true
  rw [okRS_staR, rsta_staR, Bool.true_and]
  simp only [Bool.and_eq_true, decide_eq_true_eq, Int.toNat_natCast]
  omega
omit h1 h2 h3 h4 in
theorem nm8 (a b c d : Nat) : Z8.nm (staR s, (a : Int), (b : Int), (c : Int), (d : Int), ()) = busesD (namesOf s a b c d) := by
  show busesD (namesOf (rsta (staR s)) _ _ _ _) = _
  rw [rsta_staR]; rfl
theorem okd8 (a b c d : Nat) (q1 : a ≤ s.buses.length) (q2 : b ≤ s.lines.length) (q3 : c ≤ s.srcs.length) (q4 : d ≤ s.bays.length) (x : ByteArray) : Z8.okd (busesD (namesOf s a b c d)) x = true := by
  show okDS _ x = true
  unfold okDS
  rw [(the_list busC_inj _).1, (the_list busC_inj _).2]
  have : (namesOf s a b c d).length ≤ 9223372036854775807 := by unfold namesOf; simp; omega
  simp [this]
omit h1 h2 h3 h4 in
theorem nd8 (l : List ByteArray) (x : ByteArray) : Z8.nd (busesD l) x = namErr l x := by
  show namErr (theE busesD (busesD l)) x = _
  rw [(the_list busC_inj l).2]
include hlk
omit h1 h2 h3 in
theorem okb8 (k : Nat) (hk : k < s.bays.length) : Z8.okb (staR s) (k : Int) = true := by
  show (okRS (staR s) && (decide (0 ≤ (k : Int)) && (decide ((k : Int).toNat < (rsta (staR s)).bays.length) && (decide ((rsta (staR s)).bays.length ≤ 900) && lksOk (rsta (staR s)).bays)))) = true
  rw [okRS_staR, rsta_staR, hlk, Bool.true_and, Bool.and_true]
  simp only [Bool.and_eq_true, decide_eq_true_eq, Int.toNat_natCast]
  omega
omit h1 h2 h3 h4 hlk in
theorem be8 (k : Nat) : Z8.be (staR s) (k : Int) = bayRest s.buses.length s.lines.length s.srcs.length (s.bays.take k) (s.bays.getD k bay0) := by
  show bayRest (rsta (staR s)).buses.length _ _ _ _ = _
  rw [rsta_staR]; rfl

abbrev Nb (s : SSta) : List ByteArray := s.buses
abbrev Nl (s : SSta) : List ByteArray := s.buses ++ s.lines.map SLine.name
abbrev Ns (s : SSta) : List ByteArray := s.buses ++ s.lines.map SLine.name ++ s.srcs.map SSrc.name
theorem lp8_29 (g : Nat) (hg : 900 < g) : L8_29 Z8 s g g 0 = lI (tBay s.buses.length s.lines.length s.srcs.length (Ns s) s.bays).1 [] := by
  have := chk_loop (nm := SBay.name) (F := fun N before x => bayErr s.buses.length s.lines.length s.srcs.length N before x) (N := Ns s) (d0 := bay0) (l := s.bays) (L := fun m i => L8_29 Z8 s g m i) (NX := lI 0 [])
    (fun m k hk => by
      have e1 := okn8 s h1 h2 h3 h4 s.buses.length s.lines.length s.srcs.length k (by omega) (by omega) (by omega) (by omega)
      have e2 := nm8 s s.buses.length s.lines.length s.srcs.length k
      have e3 := okd8 s h1 h2 h3 h4 s.buses.length s.lines.length s.srcs.length k (by omega) (by omega) (by omega) (by omega) (s.bays.getD k bay0).name
      have e5 := okb8 s h4 hlk k hk
      have e6 := be8 s k
      have en : namesOf s s.buses.length s.lines.length s.srcs.length k = Ns s ++ (s.bays.take k).map SBay.name := by unfold namesOf; simp
      simp only [staR, busesD, linesD, srcsD, baysD, listD] at e1 e2 e5 e6
      simp only [busesD, listD] at e3
      rw [st8_29]
      simp only [lt1 hk, ge0, tn, Bool.and_self, cond_true, nx hk (by omega), e1, e2, e3, e5, e6]
      have e4 := nd8 (namesOf s s.buses.length s.lines.length s.srcs.length k) (s.bays.getD k bay0).name
      simp only [busesD, listD] at e4
      simp only [e4]
      simp only [en, bayErr_rest]
      generalize namErr (Ns s ++ (s.bays.take k).map SBay.name) (s.bays.getD k bay0).name = a
      generalize bayRest s.buses.length s.lines.length s.srcs.length (s.bays.take k) (s.bays.getD k bay0) = b
      unfold bne
      cases ha : (a == 0) <;> cases hb : (b == 0) <;> simp only [ha, hb, cond_true, cond_false, Bool.not_true, Bool.not_false])
    (fun m => by rw [st8_29, lt0 (Nat.lt_irrefl _)]; rfl) g 0 (by omega) (by omega)
  have e : L8_29 Z8 s g g 0 = _ := this
  rw [e]
  show (bif (tBay s.buses.length s.lines.length s.srcs.length (Ns s) s.bays).1 != 0 then lI (tBay s.buses.length s.lines.length s.srcs.length (Ns s) s.bays).1 [] else lI 0 []) = _
  unfold bne
  cases hz : ((tBay s.buses.length s.lines.length s.srcs.length (Ns s) s.bays).1 == 0) with
  | false => rfl
  | true =>
    have : (tBay s.buses.length s.lines.length s.srcs.length (Ns s) s.bays).1 = 0 := by simpa using hz
    rw [this]; rfl
end
end Go.Proofs.YthmapnolgdpkbaaDoor.st
namespace Go.Proofs.YthmapnolgdpkbaaDoor.st
open Go.RowKit Go.Eb

section
variable (s : SSta) (h1 : s.buses.length ≤ 900) (h2 : s.lines.length ≤ 900) (h3 : s.srcs.length ≤ 900) (h4 : s.bays.length ≤ 900) (hlk : lksOk s.bays = true)
include h1 h2 h3 h4
theorem lp8_21 (g : Nat) (hg : 900 < g) : L8_21 Z8 s g g 0 = bif (tSrc (Nl s) s.srcs).1 != 0 then lI (tSrc (Nl s) s.srcs).1 [] else L8_29 Z8 s g g 0 := by
  have hh := chk_loop (nm := SSrc.name) (F := fun N _ x => srcErr N x) (N := Nl s) (d0 := src0) (l := s.srcs) (L := fun m i => L8_21 Z8 s g m i) (NX := L8_29 Z8 s g g 0)
    (fun m k hk => by
      have e1 := okn8 s h1 h2 h3 h4 s.buses.length s.lines.length k 0 (by omega) (by omega) (by omega) (by omega)
      have e2 := nm8 s s.buses.length s.lines.length k 0
      have e3 := okd8 s h1 h2 h3 h4 s.buses.length s.lines.length k 0 (by omega) (by omega) (by omega) (by omega) (s.srcs.getD k src0).name
      have en : namesOf s s.buses.length s.lines.length k 0 = Nl s ++ (s.srcs.take k).map SSrc.name := by unfold namesOf; simp
      simp only [staR, busesD, linesD, srcsD, baysD, listD, Int.natCast_zero] at e1 e2
      simp only [busesD, listD] at e3
      rw [st8_21]
      simp only [lt1 hk, ge0, tn, Bool.and_self, cond_true, nx hk (by omega), e1, e2, e3]
      have e4 := nd8 (namesOf s s.buses.length s.lines.length k 0) (s.srcs.getD k src0).name
      simp only [busesD, listD] at e4
      simp only [e4]
      simp only [en, srcErr, impOk, within, fNot, fAnd]
      generalize namErr (Nl s ++ (s.srcs.take k).map SSrc.name) (s.srcs.getD k src0).name = a
      generalize decide ((s.srcs.getD k src0).emf ≥ 1) = a1
      generalize decide ((s.srcs.getD k src0).emf ≤ 1000000) = a2
      generalize decide ((s.srcs.getD k src0).r1 ≥ 0) = b1
      generalize decide ((s.srcs.getD k src0).r1 ≤ 1000) = b2
      generalize decide ((s.srcs.getD k src0).x1 ≥ 1) = b3
      generalize decide ((s.srcs.getD k src0).x1 ≤ 1000) = b4
      generalize decide ((s.srcs.getD k src0).r0 ≥ 0) = b5
      generalize decide ((s.srcs.getD k src0).r0 ≤ 1000) = b6
      generalize decide ((s.srcs.getD k src0).x0 ≥ 1) = b7
      generalize decide ((s.srcs.getD k src0).x0 ≤ 1000) = b8
      unfold bne
      cases ha : (a == 0) with
      | false => simp only [ha, cond_true, cond_false, Bool.not_true, Bool.not_false]
      | true =>
        simp only [ha, cond_true, cond_false, Bool.not_true, Bool.not_false]
        cases a1 <;> cases a2 <;> first | rfl | (cases b1 <;> cases b2 <;> cases b3 <;> cases b4 <;> first | rfl | (cases b5 <;> cases b6 <;> cases b7 <;> cases b8 <;> rfl)))
    (fun m => by rw [st8_21, lt0 (Nat.lt_irrefl _)]; rfl) g 0 (by omega) (by omega)
  simp only [List.take_zero, List.drop_zero] at hh
  exact hh
theorem lp8_13 (g : Nat) (hg : 900 < g) : L8_13 Z8 s g g 0 = bif (tLine (Nb s) s.lines).1 != 0 then lI (tLine (Nb s) s.lines).1 [] else L8_21 Z8 s g g 0 := by
  have hh := chk_loop (nm := SLine.name) (F := fun N _ x => lineErr N x) (N := Nb s) (d0 := line0) (l := s.lines) (L := fun m i => L8_13 Z8 s g m i) (NX := L8_21 Z8 s g g 0)
    (fun m k hk => by
      have e1 := okn8 s h1 h2 h3 h4 s.buses.length k 0 0 (by omega) (by omega) (by omega) (by omega)
      have e2 := nm8 s s.buses.length k 0 0
      have e3 := okd8 s h1 h2 h3 h4 s.buses.length k 0 0 (by omega) (by omega) (by omega) (by omega) (s.lines.getD k line0).name
      have en : namesOf s s.buses.length k 0 0 = Nb s ++ (s.lines.take k).map SLine.name := by unfold namesOf; simp
      simp only [staR, busesD, linesD, srcsD, baysD, listD, Int.natCast_zero] at e1 e2
      simp only [busesD, listD] at e3
      rw [st8_13]
      simp only [lt1 hk, ge0, tn, Bool.and_self, cond_true, nx hk (by omega), e1, e2, e3]
      have e4 := nd8 (namesOf s s.buses.length k 0 0) (s.lines.getD k line0).name
      simp only [busesD, listD] at e4
      simp only [e4]
      simp only [en, lineErr, impOk, within, fNot, fAnd]
      generalize namErr (Nb s ++ (s.lines.take k).map SLine.name) (s.lines.getD k line0).name = a
      generalize decide ((s.lines.getD k line0).r1 ≥ 0) = b1
      generalize decide ((s.lines.getD k line0).r1 ≤ 1000) = b2
      generalize decide ((s.lines.getD k line0).x1 ≥ 1) = b3
      generalize decide ((s.lines.getD k line0).x1 ≤ 1000) = b4
      generalize decide ((s.lines.getD k line0).r0 ≥ 0) = b5
      generalize decide ((s.lines.getD k line0).r0 ≤ 1000) = b6
      generalize decide ((s.lines.getD k line0).x0 ≥ 1) = b7
      generalize decide ((s.lines.getD k line0).x0 ≤ 1000) = b8
      unfold bne
      cases ha : (a == 0) with
      | false => simp only [ha, cond_true, cond_false, Bool.not_true, Bool.not_false]
      | true =>
        simp only [ha, cond_true, cond_false, Bool.not_true, Bool.not_false]
        cases b1 <;> cases b2 <;> cases b3 <;> cases b4 <;> first | rfl | (cases b5 <;> cases b6 <;> cases b7 <;> cases b8 <;> rfl))
    (fun m => by rw [st8_13, lt0 (Nat.lt_irrefl _)]; rfl) g 0 (by omega) (by omega)
  simp only [List.take_zero, List.drop_zero] at hh
  exact hh
theorem st7' (g m k : Nat) (hk : k < s.buses.length) : L8_7 Z8 s g (m + 1) k = bif namErr (s.buses.take k) (s.buses.getD k e0) != 0 then lI (namErr (s.buses.take k) (s.buses.getD k e0)) [] else L8_7 Z8 s g m ((k + 1 : Nat) : Int) := by
  have e1 := okn8 s h1 h2 h3 h4 k 0 0 0 (by omega) (by omega) (by omega) (by omega)
  have e2 := nm8 s k 0 0 0
  have e3 := okd8 s h1 h2 h3 h4 k 0 0 0 (by omega) (by omega) (by omega) (by omega) (s.buses.getD k e0)
  have en : namesOf s k 0 0 0 = s.buses.take k := by unfold namesOf; simp
  simp only [staR, busesD, linesD, srcsD, baysD, listD, Int.natCast_zero] at e1 e2
  simp only [busesD, listD] at e3
  rw [st8_7]
  simp only [lt1 hk, ge0, tn, Bool.and_self, cond_true, e1, e2]
  rw [nx hk (by omega), e3]
  have e4 := nd8 (namesOf s k 0 0 0) (s.buses.getD k e0)
  simp only [busesD, listD] at e4
  simp only [e4, cond_true]
  simp only [en]
theorem lp8_7 (g : Nat) (hg : 900 < g) : L8_7 Z8 s g g 0 = bif (tBus s.buses).1 != 0 then lI (tBus s.buses).1 [] else L8_13 Z8 s g g 0 := by
  have hh := chk_loop (nm := id) (F := fun N _ x => namErr N x) (N := []) (d0 := e0) (l := s.buses) (L := fun m i => L8_7 Z8 s g m i) (NX := L8_13 Z8 s g g 0)
    (fun m k hk => by
      have := st7' s h1 h2 h3 h4 g m k hk
      simp only [List.nil_append, List.map_id]
      exact this)
    (fun m => by rw [st8_7, lt0 (Nat.lt_irrefl _)]; simp only [cond_false]) g 0 (by omega) (by omega)
  simp only [List.take_zero, List.drop_zero] at hh
  exact hh
end

theorem c8 (s : SSta) (hlk : lksOk s.bays = true) : CX Tryd.prog 10 [aSta s] [] (vI (chkSta s)) [] := by
  obtain ⟨g, hg⟩ : ∃ g, 900 < g := ⟨901, by omega⟩
  refine cx_of s8.ok Tryd.func10 b8 rfl ((ev8 Z8 s g).trans ?_)
  have t4 : ∀ n : Nat, decide ((n : Int) > 4) = decide (4 < n) := fun n => len_gt n 4
  have t6 : ∀ n : Nat, decide ((n : Int) > 6) = decide (6 < n) := fun n => len_gt n 6
  have t16 : ∀ n : Nat, decide ((n : Int) > 16) = decide (16 < n) := fun n => len_gt n 16
  have t1 : ∀ n : Nat, decide ((n : Int) < 1) = (n == 0) := fun n => by
    rw [Bool.eq_iff_iff, decide_eq_true_eq, beq_iff_eq]; omega
  simp only [t1, t4, t6, t16, fOr]
  unfold chkSta
  show (bif !nameOk s.name then _ else _) = _
  cases nameOk s.name with
  | false => rfl
  | true =>
    simp only [Bool.not_true, cond_false]
    have hcb : (s.buses.length == 0 || (decide (4 < s.buses.length) || (decide (6 < s.lines.length) || (decide (4 < s.srcs.length) || decide (16 < s.bays.length))))) = cntBad s := rfl
    rw [hcb]
    cases hc : cntBad s with
    | true => rfl
    | false =>
      simp only [cond_false]
      unfold cntBad at hc
      simp only [Bool.or_eq_false_iff, decide_eq_false_iff_not] at hc
      obtain ⟨_, h4, h6, h4', h16⟩ := hc
      rw [lp8_7 s (by omega) (by omega) (by omega) (by omega) g hg, lp8_13 s (by omega) (by omega) (by omega) (by omega) g hg, lp8_21 s (by omega) (by omega) (by omega) (by omega) g hg, lp8_29 s (by omega) (by omega) (by omega) (by omega) hlk g hg]
      cases ((tBus s.buses).1 != 0) with
      | true => rfl
      | false =>
        cases ((tLine s.buses s.lines).1 != 0) with
        | true => rfl
        | false =>
          cases ((tSrc (s.buses ++ s.lines.map SLine.name) s.srcs).1 != 0) <;> rfl
end Go.Proofs.YthmapnolgdpkbaaDoor.st
namespace Go.Proofs.YthmapnolgdpkbaaDoor.st
open Go.RowKit Go.Eb

/-! Large -/
def large (s : SSta) : Bool := decide (8 < s.buses.length) || (decide (10 < s.lines.length) || (decide (8 < s.srcs.length) || (decide (20 < s.bays.length) || s.bays.any fun b => decide (6 < b.links.length))))
theorem b7 : Tryd.f6.body = some (bodyOf Tryd.f6) := by kernel_rfl
theorem gtD (n k : Nat) : decide ((n : Int) > (k : Int)) = decide (k < n) := by
  by_cases h : k < n
  · rw [decide_eq_true h, decide_eq_true (by omega)]
  · rw [decide_eq_false h, decide_eq_false (by omega)]
theorem lp7 (s : SSta) (g : Nat) (hb : s.bays.length ≤ 9223372036854775807) : ∀ (m k : Nat), k ≤ s.bays.length → s.bays.length - k < m → L7 s g m k = lB ((s.bays.drop k).any fun b => decide (6 < b.links.length))
  | 0, k, _, h => by omega
  | m + 1, k, hk, h => by
    rw [st7]
    by_cases hlt : k < s.bays.length
    · have ih := lp7 s g hb m (k + 1) (by omega) (by omega)
      rw [drop_at' (d := bay0) hlt]
      have e6 : decide (((s.bays.getD k bay0).links.length : Int) > (6 : Int)) = decide (6 < (s.bays.getD k bay0).links.length) := gtD _ 6
      simp only [lt1 hlt, ge0, tn, tt, cond_true, nx hlt hb, ih, List.any_cons, e6]
      cases decide (6 < (s.bays.getD k bay0).links.length) <;> rfl
    · rw [lt0 hlt, List.drop_of_length_le (by omega)]
      rfl
theorem c7 (s : SSta) (hs : okSta s = true) : CX Tryd.prog 6 [aSta s] [] (vB (large s)) [] := by
  obtain ⟨a1, a2, a3, a4, a5⟩ := okSta_len hs
  obtain ⟨g, hg⟩ : ∃ g, s.bays.length < g := ⟨s.bays.length + 1, by omega⟩
  refine cx_of (Orc.nil_ok _) Tryd.func6 b7 rfl ((ev7 s g).trans ?_)
  have hl : L7 s g g 0 = lB (s.bays.any fun b => decide (6 < b.links.length)) := lp7 s g a4 g 0 (by omega) (by omega)
  have t8 : ∀ n : Nat, decide ((n : Int) > 8) = decide (8 < n) := fun n => gtD n 8
  have t10 : ∀ n : Nat, decide ((n : Int) > 10) = decide (10 < n) := fun n => gtD n 10
  have t20 : ∀ n : Nat, decide ((n : Int) > 20) = decide (20 < n) := fun n => gtD n 20
  rw [hl]
  simp only [t8, t10, t20]
  unfold large
  cases decide (8 < s.buses.length) <;> cases decide (10 < s.lines.length) <;> cases decide (8 < s.srcs.length) <;> cases decide (20 < s.bays.length) <;> rfl
end Go.Proofs.YthmapnolgdpkbaaDoor.st
namespace Go.Proofs.YthmapnolgdpkbaaDoor.kn
open Go.RowKit Go.Eb

theorem ev6 : callQ Tryd.prog (deepQ Tryd.prog (fun _ => na) Orc.nil 120 12) na 120 Tryd.f5 (bodyOf Tryd.f5) [] [] (fun x H' => some (.leaf (x, H'))) = some (.leaf (vB true, [])) := by kernel_rfl
theorem b6 : Tryd.f5.body = some (bodyOf Tryd.f5) := by kernel_rfl
theorem c6 (_ : Unit) : CX Tryd.prog 5 [] [] (vB true) [] := cxQ_of (deepQ_ok Tryd.prog _ (Orc.nil_ok _) 120 12) Tryd.func5 b6 rfl ev6
end Go.Proofs.YthmapnolgdpkbaaDoor.kn
namespace Go.Proofs.YthmapnolgdpkbaaDoor.pe
open Go.RowKit Go.Eb Go.Proofs.YthmapnolgdpkbaaDoor.st Go.Proofs.YthmapnolgdpkbaaDoor.de
set_option maxRecDepth 100000

def encO (s : SSta) : List It := bif chkSta s == 0 then encSta s else []
theorem c8' (s : SSta) (h : okSta s = true) : CX Tryd.prog 10 [aSta s] [] (vI (chkSta s)) [] := c8 s (okSta_len h).2.2.2.2
theorem c12' (s : SSta) (h : okSta s = true) : CX Tryd.prog 15 [aSta s] [] (vI (chkSta s)) [] := c12 s (okSta_len h).2.2.2.2
theorem enc_none (s : SSta) (ho : okSta s = true) (h : (chkSta s == 0) = false) : CX Tryd.prog 9 [aSta s] [] (.c (.d (itemsD []))) [] := by
  have ev := evenc (okD M12) dcD (okG (en1 aSta) okSta) (fun x => chkSta (theT (en1 aSta) x)) (okG eSB bFit) (fun x => wordsD (bayW (theT eSB x).1 (theT eSB x).2)) (fun x => kidsD (encBay (theT eSB x).1 (theT eSB x).2)) s 1
  have e1 : okG (en1 aSta) okSta [AV.agg (List.map C.d (staC s))] = true := okG_enc (en1_inj aSta_inj) s ho
  have e2 : theT (en1 aSta) [AV.agg (List.map C.d (staC s))] = s := theT_enc (en1_inj aSta_inj) s
  have e3 : (chkSta s != 0) = true := by unfold bne; rw [h]; rfl
  rw [e1, e2, e3, cond_true, cond_true] at ev
  exact (cx_of (sEn c8').ok Tryd.func9 benc rfl ev).le (ale_d (.nil _ _)) (.refl _)
theorem pen_none (s : SSta) (ho : okSta s = true) (h : (chkSta s == 0) = false) : CX Tryd.prog 7 [aSta s] [] (.c (.d (itemsD []))) [] := by
  have ev := evpen (okD M12) dcD (okG (en1 aSta) okSta) (fun x => chkSta (theT (en1 aSta) x)) (okG eSB bFit) (fun x => wordsD (bayW (theT eSB x).1 (theT eSB x).2)) (fun x => kidsD (encBay (theT eSB x).1 (theT eSB x).2)) s 1
  have e1 : okG (en1 aSta) okSta [AV.agg (List.map C.d (staC s))] = true := okG_enc (en1_inj aSta_inj) s ho
  have e2 : theT (en1 aSta) [AV.agg (List.map C.d (staC s))] = s := theT_enc (en1_inj aSta_inj) s
  have e3 : (chkSta s != 0) = true := by unfold bne; rw [h]; rfl
  rw [e1, e2, e3, cond_true, cond_true] at ev
  exact (cx_of (sPe ito.cItoa c12').ok Tryd.func7 bpen rfl ev).le (ale_d (.nil _ _)) (.refl _)
theorem encode_ref (s : SSta) (ho : okSta s = true) : CX Tryd.prog 9 [aSta s] [] (.c (.d (itemsD (encO s)))) [] := by
  unfold encO
  cases h : (chkSta s == 0) with
  | false => exact enc_none s ho h
  | true => exact cenc c8' s ho (eq_of_beq h) (sfit (eq_of_beq h))
theorem encode_prog (s : SSta) (ho : okSta s = true) : CX Tryd.prog 7 [aSta s] [] (.c (.d (itemsD (encO s)))) [] := by
  unfold encO
  cases h : (chkSta s == 0) with
  | false => exact pen_none s ho h
  | true => exact cpen ito.cItoa c12' s ho (eq_of_beq h) (sfit (eq_of_beq h))
theorem enc_tags (s : SSta) : encSta s = (.sta :: mainT s).map (Tg.enc s) := by
  rw [List.map_cons, main_enc]
  rfl
theorem tags_ok {s : SSta} (h : chkSta s = 0) : okL ((.sta :: mainT s).map (Tg.enc s)) = true ∧ ck.chk ((.sta :: mainT s).map (Tg.enc s)) = 0 := by
  have hl := main_len h
  refine good_list (fun x hx => ?_) (by simp; omega)
  obtain ⟨t, ht, rfl⟩ := List.mem_map.1 hx
  rcases List.mem_cons.1 ht with rfl | ht
  · exact good_sta h
  · exact good_main h t ht
theorem okL_encO (s : SSta) : okL (encO s) = true := by
  unfold encO
  cases h : (chkSta s == 0) with
  | false =>
    show okL [] = true
    unfold okL
    rw [fits]
    rfl
  | true =>
    rw [cond_true, enc_tags]
    exact (tags_ok (eq_of_beq h)).1
theorem same_enc (s : SSta) : CX Tryd.prog 8 [.c (.d (itemsD (encO s))), .c (.d (itemsD (encO s)))] [] (vB true) [] := by
  have := sm.c21 (dep (encO s) + 1) (encO s) (encO s) (by omega) (okL_encO s) (okL_encO s)
  rw [sm.same_refl] at this
  exact this
end Go.Proofs.YthmapnolgdpkbaaDoor.pe
namespace Go.Proofs.YthmapnolgdpkbaaDoor.ito
open Go Go.Eb
open Go.ChangeShapes Go.WideShapes Go.ChangeAt Go.WideMaps Go.WideElems Go.RowKit

theorem own : ownKnob Tryd.prog.godebug = none := by kernel_rfl
abbrev laidL : List (String × DataW Unit) := Rows.stationEncodesRow.laid
abbrev tT : TypeId := 139
theorem tTab : (Tryd.prog.globals[0]?).map (·.type) = some tT := by kernel_rfl
theorem uTab : Tryd.prog.underlying tT = some (.array 20 125) := by kernel_rfl
theorem uInt : Tryd.prog.underlying 125 = some (.int .u64) := by kernel_rfl
theorem cTab : Tryd.prog.cellsOf tT = 20 := by kernel_rfl
theorem cInt : Tryd.prog.cellsOf 125 = 1 := by kernel_rfl
section
variable {W : World} {base : Nat} {sp : Nat → Bool} {held : Bool} {fuel : Nat}
theorem tab_cells {cs : List Value} {p : List MemPlace} (h : DataW.trod (fun _ => ()) Tryd.prog W base sp held fuel tT cs = some (Rows.laid_internal_strconv_uint64pow10, p)) : cs = Lib.pow10Tab.map (.int .u64) := by
  obtain ⟨xs, m, rfl, hx, hlen, hn, hel⟩ := DataW.trod_array uTab h
  rw [cTab] at hlen
  rw [cInt] at hel
  have hx1 : (Lib.pow10Tab.map fun k => DataW.lit (H := Unit) (.int .u64 k)) = xs.map (·.1) := by
    simp only [Prod.mk.injEq] at hx
    have := hx.1
    simp only [Rows.laid_internal_strconv_uint64pow10, DataW.agg.injEq] at this
    exact this
  have h20 : Lib.pow10Tab.length = 20 := by simp [Lib.pow10Tab]
  refine List.ext_getElem (by simp [hlen, h20]) fun i h1 h2 => ?_
  have hi : i < 20 := by omega
  have he := hel i hi
  have hxi : i < xs.length := by omega
  rw [List.getElem?_eq_getElem hxi] at he
  obtain ⟨k, e1, e2, _⟩ := DataW.trod_int uInt he
  have hi' : i < Lib.pow10Tab.length := by omega
  have e3 : xs[i].1 = .lit (.int .u64 Lib.pow10Tab[i]) := by
    have := congrArg (fun l => l[i]?) hx1
    simpa [hxi, hi'] using this.symm
  rw [e2] at e3
  simp only [DataW.lit.injEq, Lit.int.injEq, true_and] at e3
  have e4 : (cs.drop (i * 1)).take 1 = [cs[i]] := by
    rw [Nat.mul_one, List.drop_eq_getElem_cons h1]; rfl
  rw [e4] at e1
  simp only [List.cons.injEq, and_true] at e1
  rw [List.getElem_map]
  simp [e1, e3]
end
theorem block_of {W : World} (h : laidMetH Tryd.prog laidL W) : ∃ t fz, W.heap[0]? = some (.cells tab t fz) := by
  rw [MakeChecks.laidMetH_plain _ _ _ (by kernel_rfl)] at h
  obtain ⟨ps, ⟨_, _, _, _, _, _, _, _, _, _, ⟨_, _, _, _, _, _, _, _, _, _, ⟨g, t, cs, f, p, q, hg, ht, hv, hd, _, _⟩, _⟩, _⟩, _, _⟩ := h
  have e0 : some g = some 0 := hg.symm.trans (by kernel_rfl)
  obtain rfl := Option.some.inj e0
  obtain rfl := Option.some.inj (tTab.symm.trans ht)
  have e := tab_cells hd
  unfold World.var? at hv
  rw [hg] at hv
  simp only [Option.bind_some] at hv
  split at hv
  · rename_i cs' t' fz hw
    simp only [Option.some.injEq] at hv
    subst hv
    refine ⟨t', fz, ?_⟩
    rw [hw]
    have e1 : cs' = tab := by
      apply Array.ext'
      rw [e]
      rfl
    rw [e1]
  · cases hv
theorem glob_of {W : World} (h : laidMetH Tryd.prog laidL W) : Glob (allI W) W := by
  obtain ⟨t, fz, hw⟩ := block_of h
  intro x hx
  unfold gcells at hx
  obtain ⟨i, hi, rfl⟩ := List.mem_map.1 hx
  refine ⟨(Array.getElem?_eq_some_iff.1 hw).1, ?_⟩
  show World.cell? W ⟨0, i, none⟩ = _
  unfold World.cell?
  rw [hw]
  show tab[i]? = _
  rw [bltD]
  by_cases h20 : i < 20
  · rw [tab_get i h20, decide_eq_true h20]; rfl
  · rw [decide_eq_false h20, Array.getElem?_eq_none (by rw [tab_size]; omega)]; rfl
theorem door_met (os : Os) (args : Array Value) : laidMetH Tryd.prog laidL ((World.doorLaid Tryd.prog 400 os).forCall (fun _ _ => 0) ⟨#[], args, []⟩).memory :=
  laidMetH_of_parts3 (fuel := 8) (laidMet_of_run' 8 (by kernel_rfl) (by kernel_rfl)) (by kernel_rfl) (by kernel_rfl)
end Go.Proofs.YthmapnolgdpkbaaDoor.ito
namespace Go.Proofs.YthmapnolgdpkbaaDoor.st
open Go.RowKit Go.Eb

/-! diagrams -/
theorem shp_str {ds : List D} (h : Shp Tryd.prog 9 ds) : ∃ s, DEs ds (busC s) ∧ (fun _ => true) s = true := by
  obtain ⟨s, rfl, _⟩ := h.str_inv Tryd.underlying9
  exact ⟨s, .refl _, rfl⟩
theorem shp_imp {ds : List D} (h : Shp Tryd.prog 41 ds) : ∃ r x, ds = [dI r, dI x] := by
  obtain ⟨ps, rfl, hl, hp⟩ := h.struct_inv Tryd.underlying41
  match ps, hl with
  | [p0, p1], _ =>
    obtain ⟨r, rfl, _⟩ := (hp 0 _ p0 rfl rfl).int_inv Tryd.underlying3
    obtain ⟨x, rfl, _⟩ := (hp 1 _ p1 rfl rfl).int_inv Tryd.underlying3
    exact ⟨r, x, rfl⟩
theorem shp_line {ds : List D} (h : Shp Tryd.prog 50 ds) : ∃ x, DEs ds (lineC x) ∧ (fun _ => true) x = true := by
  obtain ⟨ps, rfl, hl, hp⟩ := h.struct_inv Tryd.underlying50
  match ps, hl with
  | [p0, p1, p2], _ =>
    obtain ⟨s, rfl, _⟩ := (hp 0 _ p0 rfl rfl).str_inv Tryd.underlying9
    obtain ⟨r1, x1, rfl⟩ := shp_imp (hp 1 _ p1 rfl rfl)
    obtain ⟨r0, x0, rfl⟩ := shp_imp (hp 2 _ p2 rfl rfl)
    exact ⟨⟨s, r1, x1, r0, x0⟩, .refl _, rfl⟩
theorem shp_src {ds : List D} (h : Shp Tryd.prog 53 ds) : ∃ x, DEs ds (srcC' x) ∧ (fun _ => true) x = true := by
  obtain ⟨ps, rfl, hl, hp⟩ := h.struct_inv Tryd.underlying53
  match ps, hl with
  | [p0, p1, p2, p3], _ =>
    obtain ⟨s, rfl, _⟩ := (hp 0 _ p0 rfl rfl).str_inv Tryd.underlying9
    obtain ⟨e, rfl, _⟩ := (hp 1 _ p1 rfl rfl).int_inv Tryd.underlying3
    obtain ⟨r1, x1, rfl⟩ := shp_imp (hp 2 _ p2 rfl rfl)
    obtain ⟨r0, x0, rfl⟩ := shp_imp (hp 3 _ p3 rfl rfl)
    exact ⟨⟨s, e, r1, x1, r0, x0⟩, .refl _, rfl⟩
theorem shp_link {ds : List D} (h : Shp Tryd.prog 104 ds) : ∃ x, DEs ds (linkC x) ∧ (fun _ => true) x = true := by
  obtain ⟨ps, rfl, hl, hp⟩ := h.struct_inv Tryd.underlying104
  match ps, hl with
  | [p0, p1], _ =>
    obtain ⟨r, rfl, _⟩ := (hp 0 _ p0 rfl rfl).int_inv Tryd.underlying3
    obtain ⟨x, rfl, _⟩ := (hp 1 _ p1 rfl rfl).int_inv (k := .i64) (by kernel_rfl)
    exact ⟨⟨r, x⟩, .refl _, rfl⟩
theorem shp_bay {ds : List D} (h : Shp Tryd.prog 44 ds) : ∃ x, DEs ds (bayC x) ∧ (fun x => lenOk x.links) x = true := by
  obtain ⟨ps, rfl, hl, hp⟩ := h.struct_inv Tryd.underlying44
  match ps, hl with
  | [p0, p1, p2, p3, p4, p5, p6, p7, p8, p9, p10], _ =>
    obtain ⟨s, rfl, _⟩ := (hp 0 _ p0 rfl rfl).str_inv Tryd.underlying9
    obtain ⟨k, rfl, _⟩ := (hp 1 _ p1 rfl rfl).int_inv (k := .i64) (by kernel_rfl)
    obtain ⟨o, rfl, _⟩ := (hp 2 _ p2 rfl rfl).int_inv Tryd.underlying3
    obtain ⟨e, rfl, _⟩ := (hp 3 _ p3 rfl rfl).int_inv Tryd.underlying3
    obtain ⟨r, x, rfl⟩ := shp_imp (hp 4 _ p4 rfl rfl)
    obtain ⟨d, l, rfl, hd, hn, _⟩ := shp_list (d0 := link0) Tryd.underlying42 (show Tryd.prog.cellsOf 104 = 2 by kernel_rfl) (fun ds => shp_link) (hp 5 _ p5 rfl rfl)
    obtain ⟨c, rfl⟩ := (hp 6 _ p6 rfl rfl).bool_inv Tryd.underlying4
    obtain ⟨n1, rfl, _⟩ := (hp 7 _ p7 rfl rfl).int_inv Tryd.underlying3
    obtain ⟨n2, rfl, _⟩ := (hp 8 _ p8 rfl rfl).int_inv Tryd.underlying3
    obtain ⟨n3, rfl, _⟩ := (hp 9 _ p9 rfl rfl).int_inv Tryd.underlying3
    obtain ⟨n4, rfl, _⟩ := (hp 10 _ p10 rfl rfl).int_inv Tryd.underlying3
    exact ⟨⟨s, k, o, e, r, x, l, c, n1, n2, n3, n4⟩, .cons (.refl _) (.cons (.refl _) (.cons (.refl _) (.cons (.refl _) (.cons (.refl _) (.cons (.refl _) (.cons hd (.refl _))))))), hn⟩
theorem shp_sta {ds : List D} (h : Shp Tryd.prog 27 ds) : ∃ x, DEs ds (staC x) ∧ okSta x = true := by
  obtain ⟨ps, rfl, hl, hp⟩ := h.struct_inv Tryd.underlying27
  match ps, hl with
  | [p0, p1, p2, p3, p4], _ =>
    obtain ⟨s, rfl, _⟩ := (hp 0 _ p0 rfl rfl).str_inv Tryd.underlying9
    obtain ⟨d1, l1, rfl, h1, n1, _⟩ := shp_list (d0 := e0) Tryd.underlying22 (show Tryd.prog.cellsOf 9 = 1 by kernel_rfl) (fun ds => shp_str) (hp 1 _ p1 rfl rfl)
    obtain ⟨d2, l2, rfl, h2, n2, _⟩ := shp_list (d0 := line0) Tryd.underlying23 (show Tryd.prog.cellsOf 50 = 5 by kernel_rfl) (fun ds => shp_line) (hp 2 _ p2 rfl rfl)
    obtain ⟨d3, l3, rfl, h3, n3, _⟩ := shp_list (d0 := src0) Tryd.underlying24 (show Tryd.prog.cellsOf 53 = 6 by kernel_rfl) (fun ds => shp_src) (hp 3 _ p3 rfl rfl)
    obtain ⟨d4, l4, rfl, h4, n4, a4⟩ := shp_list (d0 := bay0) Tryd.underlying25 (show Tryd.prog.cellsOf 44 = 12 by kernel_rfl) (fun ds => shp_bay) (hp 4 _ p4 rfl rfl)
    refine ⟨⟨s, l1, l2, l3, l4⟩, .cons (.refl _) (.cons h1 (.cons h2 (.cons h3 (.cons h4 .nil)))), ?_⟩
    unfold okSta
    simp only [n1, n2, n3, n4, a4, Bool.and_self]
end Go.Proofs.YthmapnolgdpkbaaDoor.st
