/-
  Check of the reference: its contract: the same law. No condition.
-/
import Derived.Test.YtngoglhlhlfknaaGreatSl
namespace Go.Proofs.YtngoglhlhlfknaaGreat.st
open Go.RowKit Go.Eb
set_option maxRecDepth 100000

noncomputable def Z8 : K8 where
  nk := nameOk
  okn a := okRS a.1 && (decide (0 ≤ a.2.1) && (decide (0 ≤ a.2.2.1) && (decide (0 ≤ a.2.2.2.1) && (decide (0 ≤ a.2.2.2.2.1) && (decide (a.2.1.toNat ≤ (rsta a.1).buses.length) && (decide (a.2.2.1.toNat ≤ (rsta a.1).lines.length) && (decide (a.2.2.2.1.toNat ≤ (rsta a.1).srcs.length) && (decide (a.2.2.2.2.1.toNat ≤ (rsta a.1).bays.length) &&
    (decide (a.2.1.toNat ≤ 900) && (decide (a.2.2.1.toNat ≤ 900) && (decide (a.2.2.2.1.toNat ≤ 900) && decide (a.2.2.2.2.1.toNat ≤ 900))))))))))))
  nm a := busesD (namesOf (rsta a.1) a.2.1.toNat a.2.2.1.toNat a.2.2.2.1.toNat a.2.2.2.2.1.toNat)
  okd x s := okDS x s
  nd x s := namErr (theE busesD x) s
  okb a n := okRS a && (decide (0 ≤ n) && (decide (n.toNat < (rsta a).bays.length) && (decide ((rsta a).bays.length ≤ 900) && lksOk (rsta a).bays)))
  be a n := bayRest (rsta a).buses.length (rsta a).lines.length (rsta a).srcs.length ((rsta a).bays.take n.toNat) ((rsta a).bays.getD n.toNat bay0)
theorem s8 : OrcS Tryz.prog (o8 Z8) := by
  refine .cons (.p decS_ok c16) (.cons (.d fun a ha => ?_) (.cons (.d fun a ha => ?_) (.cons (.inl sOh Tryz.func23 (by kernel_rfl)) (.cons (.d fun a ha => ?_) sOh))))
  · have ha' : (okRS a.1.1 && (decide (0 ≤ a.1.2.1) && (decide (0 ≤ a.1.2.2.1) && (decide (0 ≤ a.1.2.2.2.1) && (decide (0 ≤ a.1.2.2.2.2.1) && (decide (a.1.2.1.toNat ≤ (rsta a.1.1).buses.length) && (decide (a.1.2.2.1.toNat ≤ (rsta a.1.1).lines.length) && (decide (a.1.2.2.2.1.toNat ≤ (rsta a.1.1).srcs.length) && (decide (a.1.2.2.2.2.1.toNat ≤ (rsta a.1.1).bays.length) &&
      (decide (a.1.2.1.toNat ≤ 900) && (decide (a.1.2.2.1.toNat ≤ 900) && (decide (a.1.2.2.2.1.toNat ≤ 900) && decide (a.1.2.2.2.2.1.toNat ≤ 900))))))))))))) = true := ha
    simp only [Bool.and_eq_true, decide_eq_true_eq] at ha'
    obtain ⟨h0, p1, p2, p3, p4, q1, q2, q3, q4, r1, r2, r3, r4⟩ := ha'
    have hc := c21 (rsta a.1.1) a.1.2.1.toNat a.1.2.2.1.toNat a.1.2.2.2.1.toNat a.1.2.2.2.2.1.toNat q1 q2 q3 q4 r1 r2 r3 r4
    rw [Int.toNat_of_nonneg p1, Int.toNat_of_nonneg p2, Int.toNat_of_nonneg p3, Int.toNat_of_nonneg p4] at hc
    exact hc.ge (.cons (sta_le _ h0) (.refl _)) (.refl _)
  · have ha' : okDS a.1.1 a.1.2.1 = true := ha
    unfold okDS at ha'
    simp only [Bool.and_eq_true, decide_eq_true_eq] at ha'
    exact (c20 (theE busesD a.1.1) a.1.2.1 ha'.2).ge (.cons (theE_de ha'.1) (.refl _)) (.refl _)
  · have ha' : (okRS a.1.1 && (decide (0 ≤ a.1.2.1) && (decide (a.1.2.1.toNat < (rsta a.1.1).bays.length) && (decide ((rsta a.1.1).bays.length ≤ 900) && lksOk (rsta a.1.1).bays)))) = true := ha
    simp only [Bool.and_eq_true, decide_eq_true_eq] at ha'
    obtain ⟨h0, p1, p2, p3, p4⟩ := ha'
    have hc := c24 (rsta a.1.1) a.1.2.1.toNat p2 (by omega) (lksOk_get p4 _ p2)
    rw [Int.toNat_of_nonneg p1] at hc
    exact hc.ge (.cons (sta_le _ h0) (.refl _)) (.refl _)

theorem chk_loop {α : Type} {nm : α → ByteArray} {F : List ByteArray → List α → α → Int} {N : List ByteArray} {d0 : α} {l : List α} {L : Nat → Int → Option (T (AV × Hp))} {NX : Option (T (AV × Hp))}
    (hst : ∀ (m k : Nat), k < l.length → L (m + 1) k = bif F (N ++ (l.take k).map nm) (l.take k) (l.getD k d0) != 0 then lI (F (N ++ (l.take k).map nm) (l.take k) (l.getD k d0)) [] else L m ((k + 1 : Nat) : Int))
    (hend : ∀ m, L (m + 1) l.length = NX) : ∀ (m k : Nat), k ≤ l.length → l.length - k < m → L m k = bif (takeN nm F N (l.take k) (l.drop k)).1 != 0 then lI (takeN nm F N (l.take k) (l.drop k)).1 [] else NX
  | 0, k, _, h => by omega
  | m + 1, k, hk, h => by
    by_cases e : k = l.length
    · subst e
      rw [hend, List.drop_of_length_le (Nat.le_refl _)]
      rfl
    · have hlt : k < l.length := by omega
      have ih := chk_loop hst hend m (k + 1) (by omega) (by omega)
      have et : l.take (k + 1) = l.take k ++ [l.getD k d0] := by
        rw [List.take_succ_eq_append_getElem hlt]
        congr 2
        simp [List.getD, hlt]
      rw [hst m k hlt, ih, et, drop_at' (d := d0) hlt]
      simp only [takeN]
      cases hF : (F (N ++ (l.take k).map nm) (l.take k) (l.getD k d0) != 0) with
      | true => simp only [cond_true, hF]
      | false => simp only [cond_false]

section
variable (s : SSta) (h1 : s.buses.length ≤ 900) (h2 : s.lines.length ≤ 900) (h3 : s.srcs.length ≤ 900) (h4 : s.bays.length ≤ 900) (hlk : lksOk s.bays = true)
include h1 h2 h3 h4
theorem okn8 (a b c d : Nat) (q1 : a ≤ s.buses.length) (q2 : b ≤ s.lines.length) (q3 : c ≤ s.srcs.length) (q4 : d ≤ s.bays.length) : Z8.okn (staR s, (a : Int), (b : Int), (c : Int), (d : Int), ()) = true := by
  show (okRS (staR s) && (decide (0 ≤ (a : Int)) && (decide (0 ≤ (b : Int)) && (decide (0 ≤ (c : Int)) && (decide (0 ≤ (d : Int)) && (decide ((a : Int).toNat ≤ (rsta (staR s)).buses.length) && (decide ((b : Int).toNat ≤ (rsta (staR s)).lines.length) && (decide ((c : Int).toNat ≤ (rsta (staR s)).srcs.length) && (decide ((d : Int).toNat ≤ (rsta (staR s)).bays.length) &&
    (decide ((a : Int).toNat ≤ 900) && (decide ((b : Int).toNat ≤ 900) && (decide ((c : Int).toNat ≤ 900) && decide ((d : Int).toNat ≤ 900))))))))))))) = true
  rw [okRS_staR, rsta_staR, Bool.true_and]
  simp only [Bool.and_eq_true, decide_eq_true_eq, Int.toNat_natCast]
  omega
omit h1 h2 h3 h4 in
theorem nm8 (a b c d : Nat) : Z8.nm (staR s, (a : Int), (b : Int), (c : Int), (d : Int), ()) = busesD (namesOf s a b c d) := by
  show busesD (namesOf (rsta (staR s)) _ _ _ _) = _
  rw [rsta_staR]; rfl
theorem okd8 (a b c d : Nat) (q1 : a ≤ s.buses.length) (q2 : b ≤ s.lines.length) (q3 : c ≤ s.srcs.length) (q4 : d ≤ s.bays.length) (x : ByteArray) : Z8.okd (busesD (namesOf s a b c d)) x = true := by
  show okDS _ x = true
  unfold okDS
  rw [(the_list busC_inj _).1, (the_list busC_inj _).2]
  have : (namesOf s a b c d).length ≤ 9223372036854775807 := by unfold namesOf; simp; omega
  simp [this]
omit h1 h2 h3 h4 in
theorem nd8 (l : List ByteArray) (x : ByteArray) : Z8.nd (busesD l) x = namErr l x := by
  show namErr (theE busesD (busesD l)) x = _
  rw [(the_list busC_inj l).2]
include hlk
omit h1 h2 h3 in
theorem okb8 (k : Nat) (hk : k < s.bays.length) : Z8.okb (staR s) (k : Int) = true := by
  show (okRS (staR s) && (decide (0 ≤ (k : Int)) && (decide ((k : Int).toNat < (rsta (staR s)).bays.length) && (decide ((rsta (staR s)).bays.length ≤ 900) && lksOk (rsta (staR s)).bays)))) = true
  rw [okRS_staR, rsta_staR, hlk, Bool.true_and, Bool.and_true]
  simp only [Bool.and_eq_true, decide_eq_true_eq, Int.toNat_natCast]
  omega
omit h1 h2 h3 h4 hlk in
theorem be8 (k : Nat) : Z8.be (staR s) (k : Int) = bayRest s.buses.length s.lines.length s.srcs.length (s.bays.take k) (s.bays.getD k bay0) := by
  show bayRest (rsta (staR s)).buses.length _ _ _ _ = _
  rw [rsta_staR]; rfl

abbrev Nb (s : SSta) : List ByteArray := s.buses
abbrev Nl (s : SSta) : List ByteArray := s.buses ++ s.lines.map SLine.name
abbrev Ns (s : SSta) : List ByteArray := s.buses ++ s.lines.map SLine.name ++ s.srcs.map SSrc.name
theorem lp8_29 (g : Nat) (hg : 900 < g) : L8_29 Z8 s g g 0 = lI (tBay s.buses.length s.lines.length s.srcs.length (Ns s) s.bays).1 [] := by
  have := chk_loop (nm := SBay.name) (F := fun N before x => bayErr s.buses.length s.lines.length s.srcs.length N before x) (N := Ns s) (d0 := bay0) (l := s.bays) (L := fun m i => L8_29 Z8 s g m i) (NX := lI 0 [])
    (fun m k hk => by
      have e1 := okn8 s h1 h2 h3 h4 s.buses.length s.lines.length s.srcs.length k (by omega) (by omega) (by omega) (by omega)
      have e2 := nm8 s s.buses.length s.lines.length s.srcs.length k
      have e3 := okd8 s h1 h2 h3 h4 s.buses.length s.lines.length s.srcs.length k (by omega) (by omega) (by omega) (by omega) (s.bays.getD k bay0).name
      have e5 := okb8 s h4 hlk k hk
      have e6 := be8 s k
      have en : namesOf s s.buses.length s.lines.length s.srcs.length k = Ns s ++ (s.bays.take k).map SBay.name := by unfold namesOf; simp
      simp only [staR, busesD, linesD, srcsD, baysD, listD] at e1 e2 e5 e6
      simp only [busesD, listD] at e3
      rw [st8_29]
      simp only [lt1 hk, ge0, tn, Bool.and_self, cond_true, nx hk (by omega), e1, e2, e3, e5, e6]
      have e4 := nd8 (namesOf s s.buses.length s.lines.length s.srcs.length k) (s.bays.getD k bay0).name
      simp only [busesD, listD] at e4
      simp only [e4]
      simp only [en, bayErr_rest]
      generalize namErr (Ns s ++ (s.bays.take k).map SBay.name) (s.bays.getD k bay0).name = a
      generalize bayRest s.buses.length s.lines.length s.srcs.length (s.bays.take k) (s.bays.getD k bay0) = b
      unfold bne
      cases ha : (a == 0) <;> cases hb : (b == 0) <;> simp only [ha, hb, cond_true, cond_false, Bool.not_true, Bool.not_false])
    (fun m => by rw [st8_29, lt0 (Nat.lt_irrefl _)]; rfl) g 0 (by omega) (by omega)
  have e : L8_29 Z8 s g g 0 = _ := this
  rw [e]
  show (bif (tBay s.buses.length s.lines.length s.srcs.length (Ns s) s.bays).1 != 0 then lI (tBay s.buses.length s.lines.length s.srcs.length (Ns s) s.bays).1 [] else lI 0 []) = _
  unfold bne
  cases hz : ((tBay s.buses.length s.lines.length s.srcs.length (Ns s) s.bays).1 == 0) with
  | false => rfl
  | true =>
    have : (tBay s.buses.length s.lines.length s.srcs.length (Ns s) s.bays).1 = 0 := by simpa using hz
    rw [this]; rfl
end
end Go.Proofs.YtngoglhlhlfknaaGreat.st
