/-
  Check of the reference: bays: contract. No condition.
-/
import Derived.Test.YtngoglhlhlfknaaGreatSk
namespace Go.Proofs.YtngoglhlhlfknaaGreat.st
open Go.RowKit Go.Eb
set_option maxRecDepth 100000

noncomputable def rsta (x : RSta) : SSta := ⟨x.1, theE busesD x.2.1, theE linesD x.2.2.1, theE srcsD x.2.2.2.1, theE baysD x.2.2.2.2.1⟩
noncomputable def okRS (x : RSta) : Bool := okE busesD x.2.1 && (okE linesD x.2.2.1 && (okE srcsD x.2.2.2.1 && okE baysD x.2.2.2.2.1))
def staR (s : SSta) : RSta := (s.name, busesD s.buses, linesD s.lines, srcsD s.srcs, baysD s.bays, ())
theorem okRS_staR (s : SSta) : okRS (staR s) = true := by
  unfold okRS staR
  rw [(the_list busC_inj s.buses).1, (the_list lineC_inj s.lines).1, (the_list srcC_inj s.srcs).1, (the_list bayC_inj s.bays).1]; rfl
theorem rsta_staR (s : SSta) : rsta (staR s) = s := by
  unfold rsta staR
  simp only [(the_list busC_inj s.buses).2, (the_list lineC_inj s.lines).2, (the_list srcC_inj s.srcs).2, (the_list bayC_inj s.bays).2]
theorem sta_le (x : RSta) (h : okRS x = true) : Ale (.agg (staD.enc x)) (aSta (rsta x)) := by
  unfold okRS at h
  simp only [Bool.and_eq_true] at h
  exact .cons (.refl _) (.cons (theE_de h.1) (.cons (theE_de h.2.1) (.cons (theE_de h.2.2.1) (.cons (theE_de h.2.2.2) .nil))))

noncomputable def ok24 (x : RSta) (b : RBay) : Bool := okRS x && okRB b
noncomputable def lk24 (x : RSta) (b : RBay) : Int := linksErr (rsta x).buses.length (rbay b)
theorem s24 : OrcS Tryz.prog (o24 (fun a => rngOk (rbay a)) okRB ok24 lk24) := by
  refine .cons (.inl .nil Tryz.func46 (by kernel_rfl)) (.cons (.d fun a ha => ?_) (.cons (.d fun a ha => ?_) .nil))
  · exact (c49 (rbay a.1.1)).ge (.cons (bay_le _ ha) .nil) (.refl _)
  · unfold ok24 at ha
    simp only [Bool.and_eq_true] at ha
    exact (c50 (rsta a.1.1) (rbay a.1.2.1) (okRB_len ha.2)).ge (.cons (sta_le _ ha.1) (.cons (bay_le _ ha.2) .nil)) (.refl _)

def bayRest (nb nl ns : Nat) (before : List SBay) (b : SBay) : Int := match cntOf nl ns b.kind with
    | none => 10
    | some c => bif !within b.off 0 (c - 1) then 9 else bif !rngOk b then 2 else bif before.any (clash b) then 12 else linksErr nb b
theorem bayErr_rest (nb nl ns : Nat) (N : List ByteArray) (before : List SBay) (b : SBay) : bayErr nb nl ns N before b = bif namErr N b.name != 0 then namErr N b.name else bayRest nb nl ns before b := by
  unfold bayErr bayErrD namErr bayRest
  cases nameOk b.name with
  | false => rfl
  | true => cases inB N b.name <;> rfl

section
variable (s : SSta) (i : Nat) (hi : i < s.bays.length)
abbrev bI (s : SSta) (i : Nat) : SBay := s.bays.getD i bay0
include hi
theorem lp24 (hb : s.bays.length ≤ 9223372036854775807) (hl : (bI s i).links.length ≤ 9223372036854775807) (g : Nat) : ∀ (m k : Nat), k ≤ i → i - k < m →
    L24_8 (fun a => rngOk (rbay a)) okRB ok24 lk24 s i g m k = bif ((s.bays.take i).drop k).any (clash (bI s i)) then lI 12 [] else lI (linksErr s.buses.length (bI s i)) []
  | 0, k, _, h => by omega
  | m + 1, k, hk, h => by
    rw [st24_8]
    have hok : ok24 (staR s) (bayR (bI s i)) = true := by
      unfold ok24
      have e1 : okRB (bayR (bI s i)) = true := okLk_links hl
      rw [okRS_staR, e1]; rfl
    have hlk : lk24 (staR s) (bayR (bI s i)) = linksErr s.buses.length (bI s i) := by unfold lk24; rw [rsta_staR, rbay_bayR]
    have haft : ∀ A B : RSta, ∀ C' D' : RBay, A = staR s → B = staR s → C' = bayR (bI s i) → D' = bayR (bI s i) → (bif ok24 A C' then some (T.leaf (vI (lk24 B D'), ([] : Hp))) else none) = lI (linksErr s.buses.length (bI s i)) [] := by
      intro A B C' D' hA hB hC hD
      subst hA hB hC hD
      rw [hok, hlk]; rfl
    by_cases hlt : k < i
    · have ih := lp24 hb hl g m (k + 1) (by omega) (by omega)
      have ht : k < (s.bays.take i).length := by simp; omega
      have hg : (s.bays.take i).getD k bay0 = s.bays.getD k bay0 := by simp [List.getD, hlt]
      rw [drop_at' (d := bay0) ht, hg]
      simp only [lt1 hlt, lt1 (show k < s.bays.length by omega), ge0, tn, Bool.and_self, cond_true, nx hlt (by omega), ih, List.any_cons]
      cases h3 : ((s.bays.getD i bay0).kind != 3) with
      | false =>
        have hn : ∀ l : List SBay, l.any (clash (bI s i)) = false := fun l => by
          rw [List.any_eq_false]
          intro y _
          unfold clash
          rw [h3]; simp
        have hc : clash (bI s i) (s.bays.getD k bay0) = false := by unfold clash; rw [h3]; rfl
        rw [hn, hc]
        simp only [cond_false, Bool.or_self]
        exact haft _ _ _ _ rfl rfl rfl rfl
      | true =>
        have hc : clash (bI s i) (s.bays.getD k bay0) = ((s.bays.getD k bay0).kind == (bI s i).kind && ((s.bays.getD k bay0).off == (bI s i).off && (s.bays.getD k bay0).fin == (bI s i).fin)) := by
          unfold clash
          rw [h3]
          simp only [Bool.true_and]
          rw [Bool.beq_comm (a := (bI s i).kind), Bool.beq_comm (a := (bI s i).off), Bool.beq_comm (a := (bI s i).fin)]
        rw [hc]
        simp only [cond_true]
        generalize ((s.bays.getD k bay0).kind == (s.bays.getD i bay0).kind) = b1
        generalize ((s.bays.getD k bay0).off == (s.bays.getD i bay0).off) = b2
        generalize ((s.bays.getD k bay0).fin == (s.bays.getD i bay0).fin) = b3
        cases b1 <;> cases b2 <;> cases b3 <;> rfl
    · obtain rfl : k = i := by omega
      rw [lt0 (Nat.lt_irrefl _), List.drop_of_length_le (by simp; omega)]
      simp only [cond_false, List.any_nil]
      exact haft _ _ _ _ rfl rfl rfl rfl

omit hi in
theorem wge (b : Int) (n : Nat) : (decide (b < 0) || decide (b ≥ (n : Int))) = !within b 0 ((n : Int) - 1) := bge b n
omit hi in
theorem w00 (b : Int) : (b != 0) = !within b 0 ((1 : Int) - 1) := by
  unfold within
  rw [Bool.eq_iff_iff]
  simp only [bne_iff_ne, ne_eq, Bool.not_eq_true', Bool.and_eq_false_iff, decide_eq_false_iff_not]
  omega
theorem c24 (hb : s.bays.length ≤ 9223372036854775807) (hl : (bI s i).links.length ≤ 9223372036854775807) : CX Tryz.prog 24 [aSta s, vI i] [] (vI (bayRest s.buses.length s.lines.length s.srcs.length (s.bays.take i) (bI s i))) [] := by
  obtain ⟨g, hg⟩ : ∃ g, i < g := ⟨i + 1, by omega⟩
  refine cx_of s24.ok Tryz.func24 b24 rfl ((ev24 (fun a => rngOk (rbay a)) okRB ok24 lk24 s i g).trans ?_)
  have hL : L24_8 (fun a => rngOk (rbay a)) okRB ok24 lk24 s i g g 0 = bif (s.bays.take i).any (clash (bI s i)) then lI 12 [] else lI (linksErr s.buses.length (bI s i)) [] := lp24 s i hi hb hl g g 0 (by omega) (by omega)
  have e1 : okRB (bayR (s.bays.getD i bay0)) = true := okLk_links hl
  have e2 : rngOk (rbay (bayR (s.bays.getD i bay0))) = rngOk (s.bays.getD i bay0) := by rw [rbay_bayR]
  unfold bayR at e1 e2
  rw [hL]
  simp only [lt1 hi, ge0, tn, Bool.and_self, cond_true, e1, e2, fOr, wge, w00]
  unfold bayRest cntOf
  cases ((s.bays.getD i bay0).kind == 1) with
  | true =>
    simp only [cond_true]
    cases within (s.bays.getD i bay0).off 0 ((s.lines.length : Int) - 1) <;> first | rfl | (cases rngOk (s.bays.getD i bay0) <;> first | rfl | (cases (s.bays.take i).any (clash (s.bays.getD i bay0)) <;> rfl))
  | false =>
    cases ((s.bays.getD i bay0).kind == 2) with
    | true =>
      simp only [cond_true, cond_false]
      cases within (s.bays.getD i bay0).off 0 ((s.srcs.length : Int) - 1) <;> first | rfl | (cases rngOk (s.bays.getD i bay0) <;> first | rfl | (cases (s.bays.take i).any (clash (s.bays.getD i bay0)) <;> rfl))
    | false =>
      cases ((s.bays.getD i bay0).kind == 3) with
      | true =>
        simp only [cond_true, cond_false]
        cases within (s.bays.getD i bay0).off 0 ((1 : Int) - 1) <;> first | rfl | (cases rngOk (s.bays.getD i bay0) <;> first | rfl | (cases (s.bays.take i).any (clash (s.bays.getD i bay0)) <;> rfl))
      | false => rfl
end
end Go.Proofs.YtngoglhlhlfknaaGreat.st
