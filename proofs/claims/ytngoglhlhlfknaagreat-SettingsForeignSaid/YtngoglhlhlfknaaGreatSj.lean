/-
  Check of the reference: names, links, ranges: contracts. No condition.
-/
import Derived.Test.YtngoglhlhlfknaaGreatSi
import Derived.Test.YtngoglhlhlfknaaGreatSa
namespace Go.Proofs.YtngoglhlhlfknaaGreat.st
open Go.RowKit Go.Eb
set_option maxRecDepth 100000

theorem b46 : Tryz.f44.body = some (bodyOf Tryz.f44) := by kernel_rfl
def idxF (s : ByteArray) : Nat → List ByteArray → Int
  | _, [] => -1
  | i, x :: r => bif x.toList == s.toList then (i : Int) else idxF s (i + 1) r
theorem strEq' (a b : ByteArray) : (a.toList == b.toList) = (b.data.toList == a.data.toList) := by
  rw [ByteArray.toList_eq, ByteArray.toList_eq, Bool.beq_comm]
theorem idxF_ge (s : ByteArray) : ∀ (l : List ByteArray) (i : Nat), decide (idxF s i l ≥ 0) = inB l s
  | [], i => rfl
  | x :: r, i => by
    have ih := idxF_ge s r (i + 1)
    unfold inB at ih ⊢
    simp only [idxF, List.any_cons, strEq']
    cases (s.data.toList == x.data.toList) with
    | true => simp only [cond_true, Bool.true_or]; exact decide_eq_true (by omega)
    | false => simp only [cond_false, Bool.false_or]; exact ih
theorem lp46 (l : List ByteArray) (s : ByteArray) (g : Nat) (hl : l.length ≤ 9223372036854775807) : ∀ (m k : Nat), k ≤ l.length → l.length - k < m → L46 l s g m k = some (.leaf (vI (idxF s k (l.drop k)), []))
  | 0, k, _, h => by omega
  | m + 1, k, hk, h => by
    rw [st46]
    by_cases hlt : k < l.length
    · have ih := lp46 l s g hl m (k + 1) (by omega) (by omega)
      rw [drop_at' (d := e0) hlt]
      simp only [lt1 hlt, ge0, tn, Bool.and_self, cond_true, nx hlt hl, ih, idxF]
      cases ((l.getD k e0).toList == s.toList) <;> rfl
    · rw [lt0 hlt, List.drop_of_length_le (by omega)]
      rfl
theorem c46 (l : List ByteArray) (s : ByteArray) (hl : l.length ≤ 9223372036854775807) : CX Tryz.prog 44 [.c (.d (busesD l)), vS s] [] (vI (idxF s 0 l)) [] := by
  obtain ⟨g, hg⟩ : ∃ g, l.length < g := ⟨l.length + 1, by omega⟩
  exact cx_of (Orc.nil_ok _) Tryz.func44 b46 rfl ((ev46 l s g).trans (lp46 l s g hl g 0 (by omega) (by omega)))

noncomputable def okDS (x : D) (_ : ByteArray) : Bool := okE busesD x && decide ((theE busesD x).length ≤ 9223372036854775807)
noncomputable def ixDS (x : D) (s : ByteArray) : Int := idxF s 0 (theE busesD x)
theorem s20 : OrcS Tryz.prog (o20 nameOk okDS ixDS) := by
  refine .cons (.p decS_ok c16) (.cons (.d fun a ha => ?_) .nil)
  unfold okDS at ha
  simp only [Bool.and_eq_true, decide_eq_true_eq] at ha
  exact (c46 (theE busesD a.1.1) a.1.2.1 ha.2).ge (.cons (theE_de ha.1) (.cons (.refl _) .nil)) (.refl _)
theorem c20 (l : List ByteArray) (s : ByteArray) (hl : l.length ≤ 9223372036854775807) : CX Tryz.prog 20 [.c (.d (busesD l)), vS s] [] (vI (namErr l s)) [] := by
  refine cx_of s20.ok Tryz.func20 b20 rfl ((ev20 nameOk okDS ixDS l s 1).trans ?_)
  have e1 : okDS (busesD l) s = true := by unfold okDS; rw [(the_list busC_inj l).1, (the_list busC_inj l).2]; simp [hl]
  have e2 : ixDS (busesD l) s = idxF s 0 l := by unfold ixDS; rw [(the_list busC_inj l).2]
  rw [e1, e2, idxF_ge]
  unfold namErr
  cases nameOk s <;> cases inB l s <;> rfl

/-- a loop that puts names into a row -/
theorem app_loop {α : Type} {nm : α → ByteArray} {d0 : α} {l : List α} {q : Nat} {L : Nat → Nat → (Nat → List D) → Int → Option (T (AV × Hp))} {E : Nat → (Nat → List D) → Option (T (AV × Hp))} (hq : q ≤ l.length) (hq2 : q ≤ 900)
    (hst : ∀ (m k n : Nat) (f : Nat → List D), k < q → n ≤ 9000 → L (m + 1) n f k = L m (n + 1) (appF n f (chunk (busC (nm (l.getD k d0))) 1)) ((k + 1 : Nat) : Int)) (hend : ∀ m n f, L (m + 1) n f q = E n f) :
    ∀ (m k n : Nat) (f : Nat → List D) (acc : List ByteArray), RL busC e0 n f acc → k ≤ q → q - k < m → acc.length + (q - k) ≤ 9000 → ∃ n' f', RL busC e0 n' f' (acc ++ ((l.take q).drop k).map nm) ∧ L m n f k = E n' f'
  | 0, k, n, f, acc, _, _, h, _ => by omega
  | m + 1, k, n, f, acc, hr, hk, h, hb => by
    by_cases e : k = q
    · subst e
      rw [hend, List.drop_of_length_le (by simp; omega)]
      exact ⟨n, f, by simpa using hr, rfl⟩
    · have hlt : k < q := by omega
      rw [hst m k n f hlt (by have := hr.len; omega)]
      have ht : k < (l.take q).length := by simp; omega
      have hg : (l.take q).getD k d0 = l.getD k d0 := by simp [List.getD, hlt]
      rw [drop_at' (d := d0) ht, hg]
      obtain ⟨n', f', h1, h2⟩ := app_loop hq hq2 hst hend m (k + 1) (n + 1) (appF n f (chunk (busC (nm (l.getD k d0))) 1)) (acc ++ [nm (l.getD k d0)]) (hr.app' rfl) (by omega) (by omega) (by simp; omega)
      exact ⟨n', f', by simpa using h1, h2⟩

def namesOf (s : SSta) (nb nl ns nq : Nat) : List ByteArray := s.buses.take nb ++ (s.lines.take nl).map SLine.name ++ (s.srcs.take ns).map SSrc.name ++ (s.bays.take nq).map SBay.name
theorem apOk {n : Nat} (h : n ≤ 9000) : (decide ((n + 1) * 16 ≤ 140737488355328) && decide (n + 1 ≤ 9223372036854775807)) = true := by
  rw [decide_eq_true (by omega), decide_eq_true (by omega)]; rfl
theorem c21 (s : SSta) (nb nl ns nq : Nat) (h1 : nb ≤ s.buses.length) (h2 : nl ≤ s.lines.length) (h3 : ns ≤ s.srcs.length) (h4 : nq ≤ s.bays.length) (g1 : nb ≤ 900) (g2 : nl ≤ 900) (g3 : ns ≤ 900) (g4 : nq ≤ 900) :
    CX Tryz.prog 21 [aSta s, vI nb, vI nl, vI ns, vI nq] [] (.c (.d (busesD (namesOf s nb nl ns nq)))) [] := by
  obtain ⟨g, hg⟩ : ∃ g, 900 < g := ⟨901, by omega⟩
  have lt1' : ∀ {k n : Nat}, k < n → decide ((k : Int) < (n : Int)) = true := lt1
  have p4 := fun n f acc (hr : RL busC e0 n f acc) (hb : acc.length ≤ 8000) => app_loop (nm := SBay.name) (d0 := bay0) (l := s.bays) (q := nq) (L := fun m n f i => L21_11 s nb nl ns nq g m n f i) (E := fun n f => some (.leaf (.c (.row 0 1 n), [(0, .row n f 1 9)]))) h4 g4
    (fun m k n f hk hn => by
      rw [st21_11]
      simp only [lt1 hk, lt1 (show k < s.bays.length by omega), ge0, tn, Bool.and_self, cond_true, nx hk (by omega), apOk hn]
      rfl)
    (fun m n f => by rw [st21_11, lt0 (Nat.lt_irrefl _)]; rfl) g 0 n f acc hr (by omega) (by omega) (by omega)
  have p3 := fun n f acc (hr : RL busC e0 n f acc) (hb : acc.length ≤ 7000) => app_loop (nm := SSrc.name) (d0 := src0) (l := s.srcs) (q := ns) (L := fun m n f i => L21_7 s nb nl ns nq g m n f i) (E := fun n f => L21_11 s nb nl ns nq g g n f 0) h3 g3
    (fun m k n f hk hn => by
      rw [st21_7]
      simp only [lt1 hk, lt1 (show k < s.srcs.length by omega), ge0, tn, Bool.and_self, cond_true, nx hk (by omega), apOk hn]
      rfl)
    (fun m n f => by rw [st21_7, lt0 (Nat.lt_irrefl _)]; rfl) g 0 n f acc hr (by omega) (by omega) (by omega)
  have p2 := fun n f acc (hr : RL busC e0 n f acc) (hb : acc.length ≤ 6000) => app_loop (nm := SLine.name) (d0 := line0) (l := s.lines) (q := nl) (L := fun m n f i => L21_3 s nb nl ns nq g m n f i) (E := fun n f => L21_7 s nb nl ns nq g g n f 0) h2 g2
    (fun m k n f hk hn => by
      rw [st21_3]
      simp only [lt1 hk, lt1 (show k < s.lines.length by omega), ge0, tn, Bool.and_self, cond_true, nx hk (by omega), apOk hn]
      rfl)
    (fun m n f => by rw [st21_3, lt0 (Nat.lt_irrefl _)]; rfl) g 0 n f acc hr (by omega) (by omega) (by omega)
  have hr0 : RL busC e0 (0 + (Int.toNat (nb : Int) - Int.toNat ((0 : Nat) : Int))) (appF 0 (chunk [] (0 + 1)) fun i => busC (s.buses.getD (Int.toNat ((0 : Nat) : Int) + i) e0)) (s.buses.take nb) := by
    have : RL busC e0 nb (fun i => busC (s.buses.getD (Int.toNat ((0 : Nat) : Int) + i) e0)) (s.buses.take nb) := .eq (by simp; omega) fun i hi => by
      have e : (s.buses.take nb).getD i e0 = s.buses.getD i e0 := by simp [List.getD, hi]
      rw [e]; simp
    have h := (RL.nil (c := busC) (d0 := e0) (chunk [] (0 + 1))).cat this
    simpa using h
  obtain ⟨n2, f2, r2, q2⟩ := p2 _ _ _ hr0 (by simp; omega)
  obtain ⟨n3, f3, r3, q3⟩ := p3 _ _ _ r2 (by simp; omega)
  obtain ⟨n4, f4, r4, q4⟩ := p4 _ _ _ r3 (by simp; omega)
  have hev := ev21 s nb nl ns nq g
  have e1 : (decide ((0 : Int) ≤ ((0 : Nat) : Int)) && decide (((0 : Nat) : Int) ≤ (nb : Int)) && decide ((nb : Int) ≤ (s.buses.length : Int))) = true := by
    rw [decide_eq_true (by omega), decide_eq_true (by omega), decide_eq_true (by omega)]; rfl
  have e2 : (decide ((0 + (Int.toNat (nb : Int) - Int.toNat ((0 : Nat) : Int))) * 16 ≤ 140737488355328) && decide (0 + (Int.toNat (nb : Int) - Int.toNat ((0 : Nat) : Int)) ≤ 9223372036854775807)) = true := by
    rw [decide_eq_true (by omega), decide_eq_true (by omega)]; rfl
  rw [e1, e2] at hev
  simp only [cond_true] at hev
  have hc := cr_of (Orc.nil_ok Tryz.prog) Tryz.func21 b21 rfl (hev.trans (q2.trans (q3.trans q4)))
  have hd := hc.data (y := .c (.d (.sl 1 n4 f4))) rfl
  refine (CX.of_cr Tryz.func21 b21 hd).le ?_ (.refl _)
  have r4' : RL busC e0 n4 f4 (namesOf s nb nl ns nq) := by unfold namesOf; simpa using r4
  exact r4'.de
end Go.Proofs.YtngoglhlhlfknaaGreat.st
