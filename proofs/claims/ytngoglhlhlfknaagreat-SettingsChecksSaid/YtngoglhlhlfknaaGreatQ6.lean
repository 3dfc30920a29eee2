/-
  An evaluator of Go code on abstract values, proved sound, and what it computes of the functions that the statement reaches (part 6). No condition.
-/
import Derived.Test.YtngoglhlhlfknaaGreatQ5
import Derived.Test.YtngoglhlhlfknaaGreatProg
import Derived.KernelRfl
namespace Go.Proofs.YtngoglhlhlfknaaGreat.st
open Go.RowKit Go.Eb
set_option maxRecDepth 100000

section
variable (s : SSta) (h1 : s.buses.length ≤ 900) (h2 : s.lines.length ≤ 900) (h3 : s.srcs.length ≤ 900) (h4 : s.bays.length ≤ 900) (hlk : lksOk s.bays = true)
include h1 h2 h3 h4
theorem lp8_21 (g : Nat) (hg : 900 < g) : L8_21 Z8 s g g 0 = bif (tSrc (Nl s) s.srcs).1 != 0 then lI (tSrc (Nl s) s.srcs).1 [] else L8_29 Z8 s g g 0 := by
  have hh := chk_loop (nm := SSrc.name) (F := fun N _ x => srcErr N x) (N := Nl s) (d0 := src0) (l := s.srcs) (L := fun m i => L8_21 Z8 s g m i) (NX := L8_29 Z8 s g g 0)
    (fun m k hk => by
      have e1 := okn8 s h1 h2 h3 h4 s.buses.length s.lines.length k 0 (by omega) (by omega) (by omega) (by omega)
      have e2 := nm8 s s.buses.length s.lines.length k 0
      have e3 := okd8 s h1 h2 h3 h4 s.buses.length s.lines.length k 0 (by omega) (by omega) (by omega) (by omega) (s.srcs.getD k src0).name
      have en : namesOf s s.buses.length s.lines.length k 0 = Nl s ++ (s.srcs.take k).map SSrc.name := by unfold namesOf; simp
      simp only [staR, busesD, linesD, srcsD, baysD, listD, Int.natCast_zero] at e1 e2
      simp only [busesD, listD] at e3
      rw [st8_21]
      simp only [lt1 hk, ge0, tn, Bool.and_self, cond_true, nx hk (by omega), e1, e2, e3]
      have e4 := nd8 (namesOf s s.buses.length s.lines.length k 0) (s.srcs.getD k src0).name
      simp only [busesD, listD] at e4
      simp only [e4]
      simp only [en, srcErr, impOk, within, fNot, fAnd]
      generalize namErr (Nl s ++ (s.srcs.take k).map SSrc.name) (s.srcs.getD k src0).name = a
      generalize decide ((s.srcs.getD k src0).emf ≥ 1) = a1
      generalize decide ((s.srcs.getD k src0).emf ≤ 1000000) = a2
      generalize decide ((s.srcs.getD k src0).r1 ≥ 0) = b1
      generalize decide ((s.srcs.getD k src0).r1 ≤ 1000) = b2
      generalize decide ((s.srcs.getD k src0).x1 ≥ 1) = b3
      generalize decide ((s.srcs.getD k src0).x1 ≤ 1000) = b4
      generalize decide ((s.srcs.getD k src0).r0 ≥ 0) = b5
      generalize decide ((s.srcs.getD k src0).r0 ≤ 1000) = b6
      generalize decide ((s.srcs.getD k src0).x0 ≥ 1) = b7
      generalize decide ((s.srcs.getD k src0).x0 ≤ 1000) = b8
      unfold bne
      cases ha : (a == 0) with
      | false => simp only [ha, cond_true, cond_false, Bool.not_true, Bool.not_false]
      | true =>
        simp only [ha, cond_true, cond_false, Bool.not_true, Bool.not_false]
        cases a1 <;> cases a2 <;> first | rfl | (cases b1 <;> cases b2 <;> cases b3 <;> cases b4 <;> first | rfl | (cases b5 <;> cases b6 <;> cases b7 <;> cases b8 <;> rfl)))
    (fun m => by rw [st8_21, lt0 (Nat.lt_irrefl _)]; rfl) g 0 (by omega) (by omega)
  simp only [List.take_zero, List.drop_zero] at hh
  exact hh
theorem lp8_13 (g : Nat) (hg : 900 < g) : L8_13 Z8 s g g 0 = bif (tLine (Nb s) s.lines).1 != 0 then lI (tLine (Nb s) s.lines).1 [] else L8_21 Z8 s g g 0 := by
  have hh := chk_loop (nm := SLine.name) (F := fun N _ x => lineErr N x) (N := Nb s) (d0 := line0) (l := s.lines) (L := fun m i => L8_13 Z8 s g m i) (NX := L8_21 Z8 s g g 0)
    (fun m k hk => by
      have e1 := okn8 s h1 h2 h3 h4 s.buses.length k 0 0 (by omega) (by omega) (by omega) (by omega)
      have e2 := nm8 s s.buses.length k 0 0
      have e3 := okd8 s h1 h2 h3 h4 s.buses.length k 0 0 (by omega) (by omega) (by omega) (by omega) (s.lines.getD k line0).name
      have en : namesOf s s.buses.length k 0 0 = Nb s ++ (s.lines.take k).map SLine.name := by unfold namesOf; simp
      simp only [staR, busesD, linesD, srcsD, baysD, listD, Int.natCast_zero] at e1 e2
      simp only [busesD, listD] at e3
      rw [st8_13]
      simp only [lt1 hk, ge0, tn, Bool.and_self, cond_true, nx hk (by omega), e1, e2, e3]
      have e4 := nd8 (namesOf s s.buses.length k 0 0) (s.lines.getD k line0).name
      simp only [busesD, listD] at e4
      simp only [e4]
      simp only [en, lineErr, impOk, within, fNot, fAnd]
      generalize namErr (Nb s ++ (s.lines.take k).map SLine.name) (s.lines.getD k line0).name = a
      generalize decide ((s.lines.getD k line0).r1 ≥ 0) = b1
      generalize decide ((s.lines.getD k line0).r1 ≤ 1000) = b2
      generalize decide ((s.lines.getD k line0).x1 ≥ 1) = b3
      generalize decide ((s.lines.getD k line0).x1 ≤ 1000) = b4
      generalize decide ((s.lines.getD k line0).r0 ≥ 0) = b5
      generalize decide ((s.lines.getD k line0).r0 ≤ 1000) = b6
      generalize decide ((s.lines.getD k line0).x0 ≥ 1) = b7
      generalize decide ((s.lines.getD k line0).x0 ≤ 1000) = b8
      unfold bne
      cases ha : (a == 0) with
      | false => simp only [ha, cond_true, cond_false, Bool.not_true, Bool.not_false]
      | true =>
        simp only [ha, cond_true, cond_false, Bool.not_true, Bool.not_false]
        cases b1 <;> cases b2 <;> cases b3 <;> cases b4 <;> first | rfl | (cases b5 <;> cases b6 <;> cases b7 <;> cases b8 <;> rfl))
    (fun m => by rw [st8_13, lt0 (Nat.lt_irrefl _)]; rfl) g 0 (by omega) (by omega)
  simp only [List.take_zero, List.drop_zero] at hh
  exact hh
theorem st7' (g m k : Nat) (hk : k < s.buses.length) : L8_7 Z8 s g (m + 1) k = bif namErr (s.buses.take k) (s.buses.getD k e0) != 0 then lI (namErr (s.buses.take k) (s.buses.getD k e0)) [] else L8_7 Z8 s g m ((k + 1 : Nat) : Int) := by
  have e1 := okn8 s h1 h2 h3 h4 k 0 0 0 (by omega) (by omega) (by omega) (by omega)
  have e2 := nm8 s k 0 0 0
  have e3 := okd8 s h1 h2 h3 h4 k 0 0 0 (by omega) (by omega) (by omega) (by omega) (s.buses.getD k e0)
  have en : namesOf s k 0 0 0 = s.buses.take k := by unfold namesOf; simp
  simp only [staR, busesD, linesD, srcsD, baysD, listD, Int.natCast_zero] at e1 e2
  simp only [busesD, listD] at e3
  rw [st8_7]
  simp only [lt1 hk, ge0, tn, Bool.and_self, cond_true, e1, e2]
  rw [nx hk (by omega), e3]
  have e4 := nd8 (namesOf s k 0 0 0) (s.buses.getD k e0)
  simp only [busesD, listD] at e4
  simp only [e4, cond_true]
  simp only [en]
theorem lp8_7 (g : Nat) (hg : 900 < g) : L8_7 Z8 s g g 0 = bif (tBus s.buses).1 != 0 then lI (tBus s.buses).1 [] else L8_13 Z8 s g g 0 := by
  have hh := chk_loop (nm := id) (F := fun N _ x => namErr N x) (N := []) (d0 := e0) (l := s.buses) (L := fun m i => L8_7 Z8 s g m i) (NX := L8_13 Z8 s g g 0)
    (fun m k hk => by
      have := st7' s h1 h2 h3 h4 g m k hk
      simp only [List.nil_append, List.map_id]
      exact this)
    (fun m => by rw [st8_7, lt0 (Nat.lt_irrefl _)]; simp only [cond_false]) g 0 (by omega) (by omega)
  simp only [List.take_zero, List.drop_zero] at hh
  exact hh
end

theorem c8 (s : SSta) (hlk : lksOk s.bays = true) : CX Tryz.prog 9 [aSta s] [] (vI (chkSta s)) [] := by
  obtain ⟨g, hg⟩ : ∃ g, 900 < g := ⟨901, by omega⟩
  refine cx_of s8.ok Tryz.func9 b8 rfl ((ev8 Z8 s g).trans ?_)
  have t4 : ∀ n : Nat, decide ((n : Int) > 4) = decide (4 < n) := fun n => len_gt n 4
  have t6 : ∀ n : Nat, decide ((n : Int) > 6) = decide (6 < n) := fun n => len_gt n 6
  have t16 : ∀ n : Nat, decide ((n : Int) > 16) = decide (16 < n) := fun n => len_gt n 16
  have t1 : ∀ n : Nat, decide ((n : Int) < 1) = (n == 0) := fun n => by
    rw [Bool.eq_iff_iff, decide_eq_true_eq, beq_iff_eq]; omega
  simp only [t1, t4, t6, t16, fOr]
  unfold chkSta
  show (bif !nameOk s.name then _ else _) = _
  cases nameOk s.name with
  | false => rfl
  | true =>
    simp only [Bool.not_true, cond_false]
    have hcb : (s.buses.length == 0 || (decide (4 < s.buses.length) || (decide (6 < s.lines.length) || (decide (4 < s.srcs.length) || decide (16 < s.bays.length))))) = cntBad s := rfl
    rw [hcb]
    cases hc : cntBad s with
    | true => rfl
    | false =>
      simp only [cond_false]
      unfold cntBad at hc
      simp only [Bool.or_eq_false_iff, decide_eq_false_iff_not] at hc
      obtain ⟨_, h4, h6, h4', h16⟩ := hc
      rw [lp8_7 s (by omega) (by omega) (by omega) (by omega) g hg, lp8_13 s (by omega) (by omega) (by omega) (by omega) g hg, lp8_21 s (by omega) (by omega) (by omega) (by omega) g hg, lp8_29 s (by omega) (by omega) (by omega) (by omega) hlk g hg]
      cases ((tBus s.buses).1 != 0) with
      | true => rfl
      | false =>
        cases ((tLine s.buses s.lines).1 != 0) with
        | true => rfl
        | false =>
          cases ((tSrc (s.buses ++ s.lines.map SLine.name) s.srcs).1 != 0) <;> rfl
end Go.Proofs.YtngoglhlhlfknaaGreat.st
namespace Go.Proofs.YtngoglhlhlfknaaGreat.se
open Go.RowKit Go.Eb Go.Proofs.YtngoglhlhlfknaaGreat.st
set_option maxRecDepth 100000

def largeR (r : SRel) : Bool := decide (20 < r.rules.length) || (decide (8 < r.sets.length) || (decide (8 < r.pubs.length) || (decide (30 < r.subs.length) || ((r.sets.any fun x => decide (30 < x.sigs.length)) || r.rules.any fun x => decide (200 < x.text.size)))))
theorem any_loop {α : Type} {p : α → Bool} {l : List α} {d0 : α} {L : Nat → Int → Option (T (AV × Hp))} {A B : Option (T (AV × Hp))}
    (hst : ∀ (m k : Nat), k < l.length → L (m + 1) k = bif p (l.getD k d0) then A else L m ((k + 1 : Nat) : Int)) (hend : ∀ m, L (m + 1) l.length = B) :
    ∀ (m k : Nat), k ≤ l.length → l.length - k < m → L m k = bif (l.drop k).any p then A else B
  | 0, k, _, h => by omega
  | m + 1, k, hk, h => by
    by_cases e : k = l.length
    · subst e
      rw [hend, List.drop_of_length_le (Nat.le_refl _)]
      rfl
    · have hlt : k < l.length := by omega
      rw [hst m k hlt, any_loop hst hend m (k + 1) (by omega) (by omega), drop_at' (d := d0) hlt]
      simp only [List.any_cons]
      cases p (l.getD k d0) <;> rfl
theorem lg7b (r : SRel) (g : Nat) (h1 : r.rules.length ≤ 9223372036854775807) (g2 : r.rules.length < g) : Llg7_9 r g g 0 = bif (r.rules.any fun x => decide (200 < x.text.size)) then lB true else lB false := by
  have t200 : ∀ n : Nat, decide ((n : Int) > 200) = decide (200 < n) := fun n => gtD n 200
  have l2 := any_loop (p := fun x : SRule => decide (200 < x.text.size)) (l := r.rules) (d0 := rule0) (L := fun m i => Llg7_9 r g m i) (A := lB true) (B := lB false) (fun m k hk => by
    have st := stlg7_9 r g m k
    rw [lt1 hk, ge0, tn, nx hk h1, t200] at st
    rw [tt, cond_true] at st
    exact st) (fun m => by
    have st := stlg7_9 r g m (r.rules.length : Nat)
    rw [lt0 (Nat.lt_irrefl _)] at st
    rw [cond_false] at st
    exact st) g 0 (by omega) (by omega)
  exact l2
theorem lg7a (r : SRel) (g : Nat) (h2 : r.sets.length ≤ 9223372036854775807) (g1 : r.sets.length < g) : Llg7_4 r g g 0 = bif (r.sets.any fun x => decide (30 < x.sigs.length)) then lB true else Llg7_9 r g g 0 := by
  have t30 : ∀ n : Nat, decide ((n : Int) > 30) = decide (30 < n) := fun n => gtD n 30
  have l1 := any_loop (p := fun x : SSet => decide (30 < x.sigs.length)) (l := r.sets) (d0 := set0) (L := fun m i => Llg7_4 r g m i) (A := lB true) (B := Llg7_9 r g g 0) (fun m k hk => by
    have st := stlg7_4 r g m k
    rw [lt1 hk, ge0, tn, nx hk h2, t30] at st
    rw [tt, cond_true] at st
    exact st) (fun m => by
    have st := stlg7_4 r g m (r.sets.length : Nat)
    rw [lt0 (Nat.lt_irrefl _)] at st
    rw [cond_false] at st
    exact st) g 0 (by omega) (by omega)
  exact l1
theorem clg7t (a b c d e f : Bool) : (bif a then lB true else bif b then lB true else bif c then lB true else bif d then lB true else bif e then lB true else bif f then lB true else lB false) = lB (a || (b || (c || (d || (e || f))))) := by
  cases a <;> cases b <;> cases c <;> cases d <;> cases e <;> cases f <;> rfl
theorem clg7 (r : SRel) (hr : okRel r = true) : CX Tryz.prog 33 [aRel r] [] (vB (largeR r)) [] := by
  obtain ⟨h1, h2, h3, h4, h5⟩ := okRel_len hr
  obtain ⟨g, g1, g2⟩ : ∃ g, r.sets.length < g ∧ r.rules.length < g := ⟨r.sets.length + r.rules.length + 1, by omega⟩
  refine cx_of (Orc.nil_ok _) Tryz.func33 blg7 rfl ((evlg7 r g).trans ?_)
  have t30 : ∀ n : Nat, decide ((n : Int) > 30) = decide (30 < n) := fun n => gtD n 30
  have t20 : ∀ n : Nat, decide ((n : Int) > 20) = decide (20 < n) := fun n => gtD n 20
  have t8 : ∀ n : Nat, decide ((n : Int) > 8) = decide (8 < n) := fun n => gtD n 8
  rw [lg7a r g h2 g1, lg7b r g h1 g2, t20, t8, t8, t30]
  exact clg7t _ _ _ _ _ _

/-! Fine -/
noncomputable def fineS (s : SSta) (l : List SRel) : Bool := !large s && ((chkSta s == 0) && (decide (l.length ≤ 20) && !l.any largeR))
noncomputable def ZF : KF where
  okS := okG eSt okSta
  lg x := large (theT eSt x)
  chk x := chkSta (theT eSt x)
  okr := okG eR okRel
  lr x := largeR (theT eR x)
theorem sF : OrcS Tryz.prog (oF ZF) := .cons (.t' (r := fun a => vB (large a)) fun a h => c7 a h) (.cons (.t' (r := fun a => vI (chkSta a)) fun a h => c8 a (okSta_len h).2.2.2.2) (.cons (.t' (r := fun a => vB (largeR a)) fun a h => clg7 a h) .nil))
theorem cfin (s : SSta) (l : List SRel) (hs : okSta s = true) (hl : lenOk l = true) (ha : l.all okRel = true) : CX Tryz.prog 14 [aSta s, .c (.d (relsD l))] [] (vB (fineS s l)) [] := by
  obtain ⟨g, hg⟩ : ∃ g, l.length < g := ⟨l.length + 1, by omega⟩
  refine cx_of sF.ok Tryz.func14 bfin rfl ((evfin ZF s l g).trans ?_)
  have k1 : ZF.okS [aSta s] = true := okG_enc eSt_inj (c := okSta) s hs
  have k2 : ZF.lg [aSta s] = large s := congrArg large (theT_enc eSt_inj s)
  have k3 : ZF.chk [aSta s] = chkSta s := congrArg chkSta (theT_enc eSt_inj s)
  have l1 := any_loop (p := largeR) (l := l) (d0 := rel0) (L := fun m i => Lfin_4 ZF s l g m i) (A := lB false) (B := lB true) (fun m k hk => by
    have hr : okRel (l.getD k rel0) = true := all_getD ha rfl k
    rw [stfin_4, lt1 hk, ge0, tn, nx hk (lenOk_le hl)]
    generalize l.getD k rel0 = r at hr ⊢
    have q1 : ZF.okr [aRel r] = true := okG_enc eR_inj (c := okRel) r hr
    have q2 : ZF.lr [aRel r] = largeR r := congrArg largeR (theT_enc eR_inj r)
    rw [q1, q2]; rfl) (fun m => by rw [stfin_4, lt0 (Nat.lt_irrefl _)]; rfl) g 0 (by omega) (by omega)
  have e1 : Lfin_4 ZF s l g g 0 = _ := l1
  have e2 : decide ((l.length : Int) > 20) = !decide (l.length ≤ 20) := by
    by_cases h : l.length ≤ 20
    · rw [decide_eq_true h, decide_eq_false (by omega)]; rfl
    · rw [decide_eq_false h, decide_eq_true (by omega)]; rfl
  have e3 : (chkSta s != 0) = !(chkSta s == 0) := rfl
  rw [k1, k2, k3, e1, e2, e3]
  simp only [List.drop_zero]
  unfold fineS
  cases large s <;> cases (chkSta s == 0) <;> cases decide (l.length ≤ 20) <;> cases l.any largeR <;> rfl

/-! errors of the first relays -/
theorem chk_take (bays : List SBay) : ∀ (l : List SRel) (N : List ByteArray) (B : List Int) (i k : Nat),
    (((chkRels bays N B i l).2 = 0 ∨ ((i + k : Nat) : Int) ≤ (chkRels bays N B i l).1) → chkRels bays N B i (l.take k) = (0, 0)) ∧ (¬ ((chkRels bays N B i l).2 = 0 ∨ ((i + k : Nat) : Int) ≤ (chkRels bays N B i l).1) → chkRels bays N B i (l.take k) = chkRels bays N B i l)
  | [], N, B, i, k => by
    simp [chkRels]
  | r :: t, N, B, i, 0 => by
    refine ⟨fun _ => rfl, fun h => ?_⟩
    exfalso
    apply h
    exact Classical.or_iff_not_imp_left.2 fun hn => ge_start bays (r :: t) N B i hn
  | r :: t, N, B, i, k + 1 => by
    simp only [List.take_succ_cons, chkRels]
    cases hz : (addErr bays N B r != 0) with
    | true =>
      simp only [cond_true]
      refine ⟨fun h => ?_, fun _ => by first | rfl | trivial⟩
      have hz' : addErr bays N B r ≠ 0 := by simpa using hz
      rcases h with h | h
      · exact absurd h hz'
      · omega
    | false =>
      simp only [cond_false]
      have ih := chk_take bays t (N ++ [r.name]) (B ++ [r.bay]) (i + 1) k
      rw [show i + (k + 1) = i + 1 + k by omega]
      exact ih
where ge_start (bays : List SBay) : ∀ (l : List SRel) (N : List ByteArray) (B : List Int) (i : Nat), (chkRels bays N B i l).2 ≠ 0 → ((i + 0 : Nat) : Int) ≤ (chkRels bays N B i l).1
  | [], _, _, _, h => absurd rfl h
  | r :: t, N, B, i, h => by
    simp only [chkRels] at h ⊢
    cases hz : (addErr bays N B r != 0) with
    | true => simp only [cond_true]; omega
    | false =>
      rw [hz] at h
      simp only [cond_false] at h ⊢
      have := ge_start bays t (N ++ [r.name]) (B ++ [r.bay]) (i + 1) h
      omega
end Go.Proofs.YtngoglhlhlfknaaGreat.se
namespace Go.Proofs.YtngoglhlhlfknaaGreat.st
open Go.RowKit Go.Eb
set_option maxRecDepth 100000

/-! diagrams -/
theorem shp_str {ds : List D} (h : Shp Tryz.prog 9 ds) : ∃ s, DEs ds (busC s) ∧ (fun _ => true) s = true := by
  obtain ⟨s, rfl, _⟩ := h.str_inv Tryz.underlying9
  exact ⟨s, .refl _, rfl⟩
theorem shp_imp {ds : List D} (h : Shp Tryz.prog 63 ds) : ∃ r x, ds = [dI r, dI x] := by
  obtain ⟨ps, rfl, hl, hp⟩ := h.struct_inv Tryz.underlying63
  match ps, hl with
  | [p0, p1], _ =>
    obtain ⟨r, rfl, _⟩ := (hp 0 _ p0 rfl rfl).int_inv Tryz.underlying3
    obtain ⟨x, rfl, _⟩ := (hp 1 _ p1 rfl rfl).int_inv Tryz.underlying3
    exact ⟨r, x, rfl⟩
theorem shp_line {ds : List D} (h : Shp Tryz.prog 71 ds) : ∃ x, DEs ds (lineC x) ∧ (fun _ => true) x = true := by
  obtain ⟨ps, rfl, hl, hp⟩ := h.struct_inv Tryz.underlying71
  match ps, hl with
  | [p0, p1, p2], _ =>
    obtain ⟨s, rfl, _⟩ := (hp 0 _ p0 rfl rfl).str_inv Tryz.underlying9
    obtain ⟨r1, x1, rfl⟩ := shp_imp (hp 1 _ p1 rfl rfl)
    obtain ⟨r0, x0, rfl⟩ := shp_imp (hp 2 _ p2 rfl rfl)
    exact ⟨⟨s, r1, x1, r0, x0⟩, .refl _, rfl⟩
theorem shp_src {ds : List D} (h : Shp Tryz.prog 74 ds) : ∃ x, DEs ds (srcC' x) ∧ (fun _ => true) x = true := by
  obtain ⟨ps, rfl, hl, hp⟩ := h.struct_inv Tryz.underlying74
  match ps, hl with
  | [p0, p1, p2, p3], _ =>
    obtain ⟨s, rfl, _⟩ := (hp 0 _ p0 rfl rfl).str_inv Tryz.underlying9
    obtain ⟨e, rfl, _⟩ := (hp 1 _ p1 rfl rfl).int_inv Tryz.underlying3
    obtain ⟨r1, x1, rfl⟩ := shp_imp (hp 2 _ p2 rfl rfl)
    obtain ⟨r0, x0, rfl⟩ := shp_imp (hp 3 _ p3 rfl rfl)
    exact ⟨⟨s, e, r1, x1, r0, x0⟩, .refl _, rfl⟩
theorem shp_link {ds : List D} (h : Shp Tryz.prog 154 ds) : ∃ x, DEs ds (linkC x) ∧ (fun _ => true) x = true := by
  obtain ⟨ps, rfl, hl, hp⟩ := h.struct_inv Tryz.underlying154
  match ps, hl with
  | [p0, p1], _ =>
    obtain ⟨r, rfl, _⟩ := (hp 0 _ p0 rfl rfl).int_inv Tryz.underlying3
    obtain ⟨x, rfl, _⟩ := (hp 1 _ p1 rfl rfl).int_inv (k := .i64) (by kernel_rfl)
    exact ⟨⟨r, x⟩, .refl _, rfl⟩
theorem shp_bay {ds : List D} (h : Shp Tryz.prog 66 ds) : ∃ x, DEs ds (bayC x) ∧ (fun x => lenOk x.links) x = true := by
  obtain ⟨ps, rfl, hl, hp⟩ := h.struct_inv Tryz.underlying66
  match ps, hl with
  | [p0, p1, p2, p3, p4, p5, p6, p7, p8, p9, p10], _ =>
    obtain ⟨s, rfl, _⟩ := (hp 0 _ p0 rfl rfl).str_inv Tryz.underlying9
    obtain ⟨k, rfl, _⟩ := (hp 1 _ p1 rfl rfl).int_inv (k := .i64) (by kernel_rfl)
    obtain ⟨o, rfl, _⟩ := (hp 2 _ p2 rfl rfl).int_inv Tryz.underlying3
    obtain ⟨e, rfl, _⟩ := (hp 3 _ p3 rfl rfl).int_inv Tryz.underlying3
    obtain ⟨r, x, rfl⟩ := shp_imp (hp 4 _ p4 rfl rfl)
    obtain ⟨d, l, rfl, hd, hn, _⟩ := shp_list (d0 := link0) Tryz.underlying64 (show Tryz.prog.cellsOf 154 = 2 by kernel_rfl) (fun ds => shp_link) (hp 5 _ p5 rfl rfl)
    obtain ⟨c, rfl⟩ := (hp 6 _ p6 rfl rfl).bool_inv Tryz.underlying4
    obtain ⟨n1, rfl, _⟩ := (hp 7 _ p7 rfl rfl).int_inv Tryz.underlying3
    obtain ⟨n2, rfl, _⟩ := (hp 8 _ p8 rfl rfl).int_inv Tryz.underlying3
    obtain ⟨n3, rfl, _⟩ := (hp 9 _ p9 rfl rfl).int_inv Tryz.underlying3
    obtain ⟨n4, rfl, _⟩ := (hp 10 _ p10 rfl rfl).int_inv Tryz.underlying3
    exact ⟨⟨s, k, o, e, r, x, l, c, n1, n2, n3, n4⟩, .cons (.refl _) (.cons (.refl _) (.cons (.refl _) (.cons (.refl _) (.cons (.refl _) (.cons (.refl _) (.cons hd (.refl _))))))), hn⟩
theorem shp_sta {ds : List D} (h : Shp Tryz.prog 27 ds) : ∃ x, DEs ds (staC x) ∧ okSta x = true := by
  obtain ⟨ps, rfl, hl, hp⟩ := h.struct_inv Tryz.underlying27
  match ps, hl with
  | [p0, p1, p2, p3, p4], _ =>
    obtain ⟨s, rfl, _⟩ := (hp 0 _ p0 rfl rfl).str_inv Tryz.underlying9
    obtain ⟨d1, l1, rfl, h1, n1, _⟩ := shp_list (d0 := e0) Tryz.underlying22 (show Tryz.prog.cellsOf 9 = 1 by kernel_rfl) (fun ds => shp_str) (hp 1 _ p1 rfl rfl)
    obtain ⟨d2, l2, rfl, h2, n2, _⟩ := shp_list (d0 := line0) Tryz.underlying23 (show Tryz.prog.cellsOf 71 = 5 by kernel_rfl) (fun ds => shp_line) (hp 2 _ p2 rfl rfl)
    obtain ⟨d3, l3, rfl, h3, n3, _⟩ := shp_list (d0 := src0) Tryz.underlying24 (show Tryz.prog.cellsOf 74 = 6 by kernel_rfl) (fun ds => shp_src) (hp 3 _ p3 rfl rfl)
    obtain ⟨d4, l4, rfl, h4, n4, a4⟩ := shp_list (d0 := bay0) Tryz.underlying25 (show Tryz.prog.cellsOf 66 = 12 by kernel_rfl) (fun ds => shp_bay) (hp 4 _ p4 rfl rfl)
    refine ⟨⟨s, l1, l2, l3, l4⟩, .cons (.refl _) (.cons h1 (.cons h2 (.cons h3 (.cons h4 .nil)))), ?_⟩
    unfold okSta
    simp only [n1, n2, n3, n4, a4, Bool.and_self]
end Go.Proofs.YtngoglhlhlfknaaGreat.st
namespace Go.Proofs.YtngoglhlhlfknaaGreat.se
open Go.RowKit Go.Eb Go.Proofs.YtngoglhlhlfknaaGreat.st
set_option maxRecDepth 100000

theorem shp_rule {ds : List D} (h : Shp Tryz.prog 100 ds) : ∃ x, DEs ds (ruleC x) ∧ (fun _ => true) x = true := by
  obtain ⟨ps, rfl, hl, hp⟩ := h.struct_inv Tryz.underlying100
  match ps, hl with
  | [p0, p1], _ =>
    obtain ⟨a, rfl, _⟩ := (hp 0 _ p0 rfl rfl).str_inv Tryz.underlying9
    obtain ⟨b, rfl, _⟩ := (hp 1 _ p1 rfl rfl).str_inv Tryz.underlying9
    exact ⟨⟨a, b⟩, .refl _, rfl⟩
theorem shp_set {ds : List D} (h : Shp Tryz.prog 95 ds) : ∃ x, DEs ds (setC x) ∧ okSet x = true := by
  obtain ⟨ps, rfl, hl, hp⟩ := h.struct_inv Tryz.underlying95
  match ps, hl with
  | [p0, p1], _ =>
    obtain ⟨a, rfl, _⟩ := (hp 0 _ p0 rfl rfl).str_inv Tryz.underlying9
    obtain ⟨d1, l1, rfl, h1, n1, _⟩ := shp_list (d0 := e0) Tryz.underlying22 (show Tryz.prog.cellsOf 9 = 1 by kernel_rfl) (fun ds => shp_str) (hp 1 _ p1 rfl rfl)
    exact ⟨⟨a, l1⟩, .cons (.refl _) (.cons h1 .nil), n1⟩
theorem shp_pub {ds : List D} (h : Shp Tryz.prog 104 ds) : ∃ x, DEs ds (pubC x) ∧ (fun _ => true) x = true := by
  obtain ⟨ps, rfl, hl, hp⟩ := h.struct_inv Tryz.underlying104
  match ps, hl with
  | [p0, p1, p2], _ =>
    obtain ⟨a, rfl, _⟩ := (hp 0 _ p0 rfl rfl).str_inv Tryz.underlying9
    obtain ⟨b, rfl, _⟩ := (hp 1 _ p1 rfl rfl).int_inv Tryz.underlying3
    obtain ⟨c, rfl, _⟩ := (hp 2 _ p2 rfl rfl).int_inv Tryz.underlying3
    exact ⟨⟨a, b, c⟩, .refl _, rfl⟩
theorem shp_sub {ds : List D} (h : Shp Tryz.prog 107 ds) : ∃ x, DEs ds (subC x) ∧ (fun _ => true) x = true := by
  obtain ⟨ps, rfl, hl, hp⟩ := h.struct_inv Tryz.underlying107
  match ps, hl with
  | [p0, p1, p2, p3], _ =>
    obtain ⟨a, rfl, _⟩ := (hp 0 _ p0 rfl rfl).str_inv Tryz.underlying9
    obtain ⟨b, rfl, _⟩ := (hp 1 _ p1 rfl rfl).str_inv Tryz.underlying9
    obtain ⟨c, rfl, _⟩ := (hp 2 _ p2 rfl rfl).str_inv Tryz.underlying9
    obtain ⟨d, rfl, _⟩ := (hp 3 _ p3 rfl rfl).str_inv Tryz.underlying9
    exact ⟨⟨a, b, c, d⟩, .refl _, rfl⟩
theorem shp_el {ds : List D} (h : Shp Tryz.prog 49 ds) : ∃ a b c, ds = [dB a, dI b, dI c] := by
  obtain ⟨ps, rfl, hl, hp⟩ := h.struct_inv Tryz.underlying49
  match ps, hl with
  | [p0, p1, p2], _ =>
    obtain ⟨a, rfl⟩ := (hp 0 _ p0 rfl rfl).bool_inv Tryz.underlying4
    obtain ⟨b, rfl, _⟩ := (hp 1 _ p1 rfl rfl).int_inv Tryz.underlying3
    obtain ⟨c, rfl, _⟩ := (hp 2 _ p2 rfl rfl).int_inv Tryz.underlying3
    exact ⟨a, b, c, rfl⟩
theorem shp_cu {ds : List D} (h : Shp Tryz.prog 51 ds) : ∃ a b c, ds = [dB a, dI b, dI c] := by
  obtain ⟨ps, rfl, hl, hp⟩ := h.struct_inv Tryz.underlying51
  match ps, hl with
  | [p0, p1, p2], _ =>
    obtain ⟨a, rfl⟩ := (hp 0 _ p0 rfl rfl).bool_inv Tryz.underlying4
    obtain ⟨b, rfl, _⟩ := (hp 1 _ p1 rfl rfl).int_inv Tryz.underlying3
    obtain ⟨c, rfl, _⟩ := (hp 2 _ p2 rfl rfl).int_inv Tryz.underlying3
    exact ⟨a, b, c, rfl⟩
theorem shp_zo {ds : List D} (h : Shp Tryz.prog 46 ds) : ∃ a b c d e f, ds = [dB a, dB b, dI c, dI d, dI e, dI f] := by
  obtain ⟨ps, rfl, hl, hp⟩ := h.struct_inv Tryz.underlying46
  match ps, hl with
  | [p0, p1, p2, p3, p4, p5], _ =>
    obtain ⟨a, rfl⟩ := (hp 0 _ p0 rfl rfl).bool_inv Tryz.underlying4
    obtain ⟨b, rfl⟩ := (hp 1 _ p1 rfl rfl).bool_inv Tryz.underlying4
    obtain ⟨c, rfl, _⟩ := (hp 2 _ p2 rfl rfl).int_inv Tryz.underlying3
    obtain ⟨d, rfl, _⟩ := (hp 3 _ p3 rfl rfl).int_inv Tryz.underlying3
    obtain ⟨e, rfl, _⟩ := (hp 4 _ p4 rfl rfl).int_inv Tryz.underlying3
    obtain ⟨f, rfl, _⟩ := (hp 5 _ p5 rfl rfl).int_inv Tryz.underlying3
    exact ⟨a, b, c, d, e, f, rfl⟩
theorem shp_zs {ds : List D} (h : Shp Tryz.prog 47 ds) : ∃ a b c d e f a1 b1 c1 d1 e1 f1 a2 b2 c2 d2 e2 f2, ds = [dB a, dB b, dI c, dI d, dI e, dI f, dB a1, dB b1, dI c1, dI d1, dI e1, dI f1, dB a2, dB b2, dI c2, dI d2, dI e2, dI f2] := by
  obtain ⟨ps, rfl, hl, hp⟩ := h.array_inv Tryz.underlying47
  match ps, hl with
  | [p0, p1, p2], _ =>
    obtain ⟨a, b, c, d, e, f, rfl⟩ := shp_zo (hp p0 (by simp))
    obtain ⟨a1, b1, c1, d1, e1, f1, rfl⟩ := shp_zo (hp p1 (by simp))
    obtain ⟨a2, b2, c2, d2, e2, f2, rfl⟩ := shp_zo (hp p2 (by simp))
    exact ⟨a, b, c, d, e, f, a1, b1, c1, d1, e1, f1, a2, b2, c2, d2, e2, f2, rfl⟩
theorem shp_rel {ds : List D} (h : Shp Tryz.prog 57 ds) : ∃ x, DEs ds (relC x) ∧ okRel x = true := by
  obtain ⟨ps, rfl, hl, hp⟩ := h.struct_inv Tryz.underlying57
  match ps, hl with
  | [p0, p1, p2, p3, p4, p5, p6, p7, p8, p9, p10, p11, p12, p13, p14, p15, p16, p17, p18, p19, p20, p21, p22, p23, p24, p25], _ =>
    obtain ⟨x0, rfl, _⟩ := (hp 0 _ p0 rfl rfl).str_inv Tryz.underlying9
    obtain ⟨x1, rfl, _⟩ := (hp 1 _ p1 rfl rfl).int_inv Tryz.underlying3
    obtain ⟨x2, rfl, _⟩ := (hp 2 _ p2 rfl rfl).int_inv Tryz.underlying3
    obtain ⟨z0a, z0b, z0c, z0d, z0e, z0f, z1a, z1b, z1c, z1d, z1e, z1f, z2a, z2b, z2c, z2d, z2e, z2f, rfl⟩ := shp_zs (hp 3 _ p3 rfl rfl)
    obtain ⟨x4, rfl, _⟩ := (hp 4 _ p4 rfl rfl).int_inv Tryz.underlying3
    obtain ⟨x5, rfl, _⟩ := (hp 5 _ p5 rfl rfl).int_inv Tryz.underlying3
    obtain ⟨x6, rfl, _⟩ := (hp 6 _ p6 rfl rfl).int_inv Tryz.underlying3
    obtain ⟨x7, rfl, _⟩ := (hp 7 _ p7 rfl rfl).int_inv Tryz.underlying3
    obtain ⟨x8, rfl, _⟩ := (hp 8 _ p8 rfl rfl).int_inv Tryz.underlying3
    obtain ⟨x9, rfl, _⟩ := (hp 9 _ p9 rfl rfl).int_inv Tryz.underlying3
    obtain ⟨x10a, x10b, x10c, rfl⟩ := shp_el (hp 10 _ p10 rfl rfl)
    obtain ⟨x11a, x11b, x11c, rfl⟩ := shp_cu (hp 11 _ p11 rfl rfl)
    obtain ⟨x12a, x12b, x12c, rfl⟩ := shp_el (hp 12 _ p12 rfl rfl)
    obtain ⟨x13, rfl, _⟩ := (hp 13 _ p13 rfl rfl).int_inv Tryz.underlying3
    obtain ⟨x14, rfl, _⟩ := (hp 14 _ p14 rfl rfl).int_inv Tryz.underlying3
    obtain ⟨x15, rfl, _⟩ := (hp 15 _ p15 rfl rfl).int_inv Tryz.underlying3
    obtain ⟨x16a, x16b, x16c, rfl⟩ := shp_el (hp 16 _ p16 rfl rfl)
    obtain ⟨x17a, x17b, x17c, rfl⟩ := shp_el (hp 17 _ p17 rfl rfl)
    obtain ⟨x18, rfl, _⟩ := (hp 18 _ p18 rfl rfl).int_inv Tryz.underlying3
    obtain ⟨x19, rfl, _⟩ := (hp 19 _ p19 rfl rfl).int_inv Tryz.underlying3
    obtain ⟨x20, rfl, _⟩ := (hp 20 _ p20 rfl rfl).int_inv Tryz.underlying3
    obtain ⟨x21, rfl, _⟩ := (hp 21 _ p21 rfl rfl).int_inv Tryz.underlying3
    obtain ⟨d22, l22, rfl, h22, n22, a22⟩ := shp_list (d0 := rule0) Tryz.underlying52 (show Tryz.prog.cellsOf 100 = 2 by kernel_rfl) (fun ds => shp_rule) (hp 22 _ p22 rfl rfl)
    obtain ⟨d23, l23, rfl, h23, n23, a23⟩ := shp_list (d0 := set0) Tryz.underlying53 (show Tryz.prog.cellsOf 95 = 2 by kernel_rfl) (fun ds => shp_set) (hp 23 _ p23 rfl rfl)
    obtain ⟨d24, l24, rfl, h24, n24, a24⟩ := shp_list (d0 := pub0) Tryz.underlying54 (show Tryz.prog.cellsOf 104 = 3 by kernel_rfl) (fun ds => shp_pub) (hp 24 _ p24 rfl rfl)
    obtain ⟨d25, l25, rfl, h25, n25, a25⟩ := shp_list (d0 := sub0) Tryz.underlying55 (show Tryz.prog.cellsOf 107 = 4 by kernel_rfl) (fun ds => shp_sub) (hp 25 _ p25 rfl rfl)
    refine ⟨⟨x0, x1, x2, z0a, z0b, z0c, z0d, z0e, z0f, z1a, z1b, z1c, z1d, z1e, z1f, z2a, z2b, z2c, z2d, z2e, z2f, x4, x5, x6, x7, x8, x9, x10a, x10b, x10c, x11a, x11b, x11c, x12a, x12b, x12c, x13, x14, x15, x16a, x16b, x16c, x17a, x17b, x17c, x18, x19, x20, x21, l22, l23, l24, l25⟩, ?_, ?_⟩
    · exact DEs.app (a := [_, _, _, _, _, _, _, _, _, _, _, _, _, _, _, _, _, _, _, _, _, _, _, _, _, _, _, _, _, _, _, _, _, _, _, _, _, _, _, _, _, _, _, _, _, _, _, _, _]) (.refl _) (.cons h22 (.cons h23 (.cons h24 (.cons h25 .nil))))
    · unfold okRel
      simp only [n22, n23, n24, n25, a23, Bool.and_self]
theorem shp_rels {ds : List D} (h : Shp Tryz.prog 35 ds) : ∃ (d : D) (l : List SRel), ds = [d] ∧ DE d (relsD l) ∧ lenOk l = true ∧ l.all okRel = true :=
  shp_list (d0 := rel0) Tryz.underlying35 (show Tryz.prog.cellsOf 57 = 53 by kernel_rfl) (fun ds => shp_rel) h
end Go.Proofs.YtngoglhlhlfknaaGreat.se
namespace Go.Proofs.YtngoglhlhlfknaaGreat.kn
open Go.RowKit Go.Eb
set_option maxRecDepth 100000

set_option maxRecDepth 100000 in
theorem ev7k : callQ Tryz.prog (deepQ Tryz.prog (fun _ => na) Orc.nil 120 30) na 120 Tryz.f7 (bodyOf Tryz.f7) [] [] (fun x H' => some (.leaf (x, H'))) = some (.leaf (vB true, [])) := by kernel_rfl
theorem b7k : Tryz.f7.body = some (bodyOf Tryz.f7) := by kernel_rfl
theorem c7k (_ : Unit) : CX Tryz.prog 7 [] [] (vB true) [] := cxQ_of (deepQ_ok Tryz.prog _ (Orc.nil_ok _) 120 30) Tryz.func7 b7k rfl ev7k
end Go.Proofs.YtngoglhlhlfknaaGreat.kn
