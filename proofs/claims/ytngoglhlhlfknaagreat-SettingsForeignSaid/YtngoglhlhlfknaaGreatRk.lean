/-
  SettingsPrefixes: sizes of relays; errors of the first relays of a list. No condition.
-/
import Derived.Test.YtngoglhlhlfknaaGreatRi
import Derived.Test.YtngoglhlhlfknaaGreatRj
import Derived.Test.YtngoglhlhlfknaaGreatLa
import Derived.Test.YtngoglhlhlfknaaGreatSn
namespace Go.Proofs.YtngoglhlhlfknaaGreat.se
open Go.RowKit Go.Eb Go.Proofs.YtngoglhlhlfknaaGreat.st
set_option maxRecDepth 100000

def largeR (r : SRel) : Bool := decide (20 < r.rules.length) || (decide (8 < r.sets.length) || (decide (8 < r.pubs.length) || (decide (30 < r.subs.length) || ((r.sets.any fun x => decide (30 < x.sigs.length)) || r.rules.any fun x => decide (200 < x.text.size)))))
theorem any_loop {α : Type} {p : α → Bool} {l : List α} {d0 : α} {L : Nat → Int → Option (T (AV × Hp))} {A B : Option (T (AV × Hp))}
    (hst : ∀ (m k : Nat), k < l.length → L (m + 1) k = bif p (l.getD k d0) then A else L m ((k + 1 : Nat) : Int)) (hend : ∀ m, L (m + 1) l.length = B) :
    ∀ (m k : Nat), k ≤ l.length → l.length - k < m → L m k = bif (l.drop k).any p then A else B
  | 0, k, _, h => by omega
  | m + 1, k, hk, h => by
    by_cases e : k = l.length
    · subst e
      rw [hend, List.drop_of_length_le (Nat.le_refl _)]
      rfl
    · have hlt : k < l.length := by omega
      rw [hst m k hlt, any_loop hst hend m (k + 1) (by omega) (by omega), drop_at' (d := d0) hlt]
      simp only [List.any_cons]
      cases p (l.getD k d0) <;> rfl
theorem lg7b (r : SRel) (g : Nat) (h1 : r.rules.length ≤ 9223372036854775807) (g2 : r.rules.length < g) : Llg7_9 r g g 0 = bif (r.rules.any fun x => decide (200 < x.text.size)) then lB true else lB false := by
  have t200 : ∀ n : Nat, decide ((n : Int) > 200) = decide (200 < n) := fun n => gtD n 200
  have l2 := any_loop (p := fun x : SRule => decide (200 < x.text.size)) (l := r.rules) (d0 := rule0) (L := fun m i => Llg7_9 r g m i) (A := lB true) (B := lB false) (fun m k hk => by
    have st := stlg7_9 r g m k
    rw [lt1 hk, ge0, tn, nx hk h1, t200] at st
    rw [tt, cond_true] at st
    exact st) (fun m => by
    have st := stlg7_9 r g m (r.rules.length : Nat)
    rw [lt0 (Nat.lt_irrefl _)] at st
    rw [cond_false] at st
    exact st) g 0 (by omega) (by omega)
  exact l2
theorem lg7a (r : SRel) (g : Nat) (h2 : r.sets.length ≤ 9223372036854775807) (g1 : r.sets.length < g) : Llg7_4 r g g 0 = bif (r.sets.any fun x => decide (30 < x.sigs.length)) then lB true else Llg7_9 r g g 0 := by
  have t30 : ∀ n : Nat, decide ((n : Int) > 30) = decide (30 < n) := fun n => gtD n 30
  have l1 := any_loop (p := fun x : SSet => decide (30 < x.sigs.length)) (l := r.sets) (d0 := set0) (L := fun m i => Llg7_4 r g m i) (A := lB true) (B := Llg7_9 r g g 0) (fun m k hk => by
    have st := stlg7_4 r g m k
    rw [lt1 hk, ge0, tn, nx hk h2, t30] at st
    rw [tt, cond_true] at st
    exact st) (fun m => by
    have st := stlg7_4 r g m (r.sets.length : Nat)
    rw [lt0 (Nat.lt_irrefl _)] at st
    rw [cond_false] at st
    exact st) g 0 (by omega) (by omega)
  exact l1
theorem clg7t (a b c d e f : Bool) : (bif a then lB true else bif b then lB true else bif c then lB true else bif d then lB true else bif e then lB true else bif f then lB true else lB false) = lB (a || (b || (c || (d || (e || f))))) := by
  cases a <;> cases b <;> cases c <;> cases d <;> cases e <;> cases f <;> rfl
theorem clg7 (r : SRel) (hr : okRel r = true) : CX Tryz.prog 33 [aRel r] [] (vB (largeR r)) [] := by
  obtain ⟨h1, h2, h3, h4, h5⟩ := okRel_len hr
  obtain ⟨g, g1, g2⟩ : ∃ g, r.sets.length < g ∧ r.rules.length < g := ⟨r.sets.length + r.rules.length + 1, by omega⟩
  refine cx_of (Orc.nil_ok _) Tryz.func33 blg7 rfl ((evlg7 r g).trans ?_)
  have t30 : ∀ n : Nat, decide ((n : Int) > 30) = decide (30 < n) := fun n => gtD n 30
  have t20 : ∀ n : Nat, decide ((n : Int) > 20) = decide (20 < n) := fun n => gtD n 20
  have t8 : ∀ n : Nat, decide ((n : Int) > 8) = decide (8 < n) := fun n => gtD n 8
  rw [lg7a r g h2 g1, lg7b r g h1 g2, t20, t8, t8, t30]
  exact clg7t _ _ _ _ _ _

/-! Fine -/
noncomputable def fineS (s : SSta) (l : List SRel) : Bool := !large s && ((chkSta s == 0) && (decide (l.length ≤ 20) && !l.any largeR))
noncomputable def ZF : KF where
  okS := okG eSt okSta
  lg x := large (theT eSt x)
  chk x := chkSta (theT eSt x)
  okr := okG eR okRel
  lr x := largeR (theT eR x)
theorem sF : OrcS Tryz.prog (oF ZF) := .cons (.t' (r := fun a => vB (large a)) fun a h => c7 a h) (.cons (.t' (r := fun a => vI (chkSta a)) fun a h => c8 a (okSta_len h).2.2.2.2) (.cons (.t' (r := fun a => vB (largeR a)) fun a h => clg7 a h) .nil))
theorem cfin (s : SSta) (l : List SRel) (hs : okSta s = true) (hl : lenOk l = true) (ha : l.all okRel = true) : CX Tryz.prog 14 [aSta s, .c (.d (relsD l))] [] (vB (fineS s l)) [] := by
  obtain ⟨g, hg⟩ : ∃ g, l.length < g := ⟨l.length + 1, by omega⟩
  refine cx_of sF.ok Tryz.func14 bfin rfl ((evfin ZF s l g).trans ?_)
  have k1 : ZF.okS [aSta s] = true := okG_enc eSt_inj (c := okSta) s hs
  have k2 : ZF.lg [aSta s] = large s := congrArg large (theT_enc eSt_inj s)
  have k3 : ZF.chk [aSta s] = chkSta s := congrArg chkSta (theT_enc eSt_inj s)
  have l1 := any_loop (p := largeR) (l := l) (d0 := rel0) (L := fun m i => Lfin_4 ZF s l g m i) (A := lB false) (B := lB true) (fun m k hk => by
    have hr : okRel (l.getD k rel0) = true := all_getD ha rfl k
    rw [stfin_4, lt1 hk, ge0, tn, nx hk (lenOk_le hl)]
    generalize l.getD k rel0 = r at hr ⊢
    have q1 : ZF.okr [aRel r] = true := okG_enc eR_inj (c := okRel) r hr
    have q2 : ZF.lr [aRel r] = largeR r := congrArg largeR (theT_enc eR_inj r)
    rw [q1, q2]; rfl) (fun m => by rw [stfin_4, lt0 (Nat.lt_irrefl _)]; rfl) g 0 (by omega) (by omega)
  have e1 : Lfin_4 ZF s l g g 0 = _ := l1
  have e2 : decide ((l.length : Int) > 20) = !decide (l.length ≤ 20) := by
    by_cases h : l.length ≤ 20
    · rw [decide_eq_true h, decide_eq_false (by omega)]; rfl
    · rw [decide_eq_false h, decide_eq_true (by omega)]; rfl
  have e3 : (chkSta s != 0) = !(chkSta s == 0) := rfl
  rw [k1, k2, k3, e1, e2, e3]
  simp only [List.drop_zero]
  unfold fineS
  cases large s <;> cases (chkSta s == 0) <;> cases decide (l.length ≤ 20) <;> cases l.any largeR <;> rfl

/-! errors of the first relays -/
theorem chk_take (bays : List SBay) : ∀ (l : List SRel) (N : List ByteArray) (B : List Int) (i k : Nat),
    (((chkRels bays N B i l).2 = 0 ∨ ((i + k : Nat) : Int) ≤ (chkRels bays N B i l).1) → chkRels bays N B i (l.take k) = (0, 0)) ∧ (¬ ((chkRels bays N B i l).2 = 0 ∨ ((i + k : Nat) : Int) ≤ (chkRels bays N B i l).1) → chkRels bays N B i (l.take k) = chkRels bays N B i l)
  | [], N, B, i, k => by
    simp [chkRels]
  | r :: t, N, B, i, 0 => by
    refine ⟨fun _ => rfl, fun h => ?_⟩
    exfalso
    apply h
    exact Classical.or_iff_not_imp_left.2 fun hn => ge_start bays (r :: t) N B i hn
  | r :: t, N, B, i, k + 1 => by
    simp only [List.take_succ_cons, chkRels]
    cases hz : (addErr bays N B r != 0) with
    | true =>
      simp only [cond_true]
      refine ⟨fun h => ?_, fun _ => by first | rfl | trivial⟩
      have hz' : addErr bays N B r ≠ 0 := by simpa using hz
      rcases h with h | h
      · exact absurd h hz'
      · omega
    | false =>
      simp only [cond_false]
      have ih := chk_take bays t (N ++ [r.name]) (B ++ [r.bay]) (i + 1) k
      rw [show i + (k + 1) = i + 1 + k by omega]
      exact ih
where ge_start (bays : List SBay) : ∀ (l : List SRel) (N : List ByteArray) (B : List Int) (i : Nat), (chkRels bays N B i l).2 ≠ 0 → ((i + 0 : Nat) : Int) ≤ (chkRels bays N B i l).1
  | [], _, _, _, h => absurd rfl h
  | r :: t, N, B, i, h => by
    simp only [chkRels] at h ⊢
    cases hz : (addErr bays N B r != 0) with
    | true => simp only [cond_true]; omega
    | false =>
      rw [hz] at h
      simp only [cond_false] at h ⊢
      have := ge_start bays t (N ++ [r.name]) (B ++ [r.bay]) (i + 1) h
      omega
end Go.Proofs.YtngoglhlhlfknaaGreat.se
