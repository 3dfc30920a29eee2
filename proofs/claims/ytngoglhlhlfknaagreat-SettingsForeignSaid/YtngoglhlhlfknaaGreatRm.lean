/-
  Check of settings, the reference: places, counts, rules, lists: contracts. No condition.
-/
import Derived.Test.YtngoglhlhlfknaaGreatZLd
import Derived.Test.YtngoglhlhlfknaaGreatRg
import Derived.Test.YtngoglhlhlfknaaGreatRl
import Derived.Test.YtngoglhlhlfknaaGreatSk
import Derived.Test.YtngoglhlhlfknaaGreatRb
namespace Go.Proofs.YtngoglhlhlfknaaGreat.se
open Go.RowKit Go.Eb Go.Proofs.YtngoglhlhlfknaaGreat.st
set_option maxRecDepth 100000

theorem bIx : Tryz.f44.body = some (bodyOf Tryz.f44) := by kernel_rfl
theorem sIx {r : Orc} (h : OrcS Tryz.prog r) : OrcS Tryz.prog (oIx (okG eIx cIx) (fun x => idxF (theT eIx x).2 0 (theT eIx x).1) r) :=
  .cons (.lt (r := fun (a : List ByteArray × ByteArray) => vI (idxF a.2 0 a.1)) Tryz.func44 bIx (fun _ => rfl) fun a h => c46 a.1 a.2 (lenOk_le h)) h
/-! reserved -/
theorem cSelf (a b : Bool) : (bif a then (bif a then true else false) else b) = bif a then true else b := by cases a <;> rfl
theorem res_eq (s : ByteArray) : ev133_v s = ev115_v s := by
  have h : ∀ a : ByteArray, (a.toList == s.toList) = (s.toList == a.toList) := fun a => Bool.beq_comm ..
  unfold ev133_v ev115_v
  simp only [h, cSelf]
theorem c133 (s : ByteArray) : CX Tryz.prog 133 [vS s] [] (vB (ev115_v s)) [] := by
  have hs : OrcS Tryz.prog (Orc.cons 44 (inl Tryz.prog Orc.nil na 20 Tryz.f44) Orc.nil) := .cons (.inl .nil Tryz.func44 bIx) .nil
  have := cx_of hs.ok Tryz.func133 (by kernel_rfl) rfl (ev133 s)
  rw [res_eq] at this
  exact this

/-! many -/
theorem c91 (r : SRel) (hr : okRel r = true) : CX Tryz.prog 91 [aRel r] [] (vB (!countsOk r)) [] := by
  obtain ⟨h1, h2, h3, h4, h5⟩ := okRel_len hr
  obtain ⟨g, hg⟩ : ∃ g, r.sets.length < g := ⟨r.sets.length + 1, by omega⟩
  refine cx_of (Orc.nil_ok _) Tryz.func91 b91 rfl ((ev91 r g).trans ?_)
  have l1 := anyL_loop (p := setBad) (l := r.sets) (d0 := set0) (L := fun m i => L91_4 r g m i) (A := lB true) (B := lB false) (fun m k hk => by
    rw [st91_4, lt1 hk, ge0, tn, nx hk h2]
    unfold setBad
    have e1 : decide (((r.sets.getD k set0).sigs.length : Int) < 1) = !decide (1 ≤ (r.sets.getD k set0).sigs.length) := by
      rw [Bool.eq_iff_iff, decide_eq_true_eq, Bool.not_eq_true', decide_eq_false_iff_not]; omega
    have e2 : decide (((r.sets.getD k set0).sigs.length : Int) > 24) = !decide ((r.sets.getD k set0).sigs.length ≤ 24) := by
      rw [Bool.eq_iff_iff, decide_eq_true_eq, Bool.not_eq_true', decide_eq_false_iff_not]; omega
    rw [e1, e2]
    cases decide (1 ≤ (r.sets.getD k set0).sigs.length) <;> cases decide ((r.sets.getD k set0).sigs.length ≤ 24) <;> rfl) (fun m => by rw [st91_4, lt0 (Nat.lt_irrefl _)]; rfl) g 0 (by omega) (by omega)
  have e1 : L91_4 r g g 0 = _ := l1
  have g1 : ∀ n k : Nat, decide ((n : Int) > (k : Int)) = !decide (n ≤ k) := fun n k => by
    rw [Bool.eq_iff_iff, decide_eq_true_eq, Bool.not_eq_true', decide_eq_false_iff_not]; omega
  have g16 := g1 r.rules.length 16
  have g4 := g1 r.sets.length 4
  have g4' := g1 r.pubs.length 4
  have g24 := g1 r.subs.length 24
  have f16 : decide ((r.rules.length : Int) > 16) = !decide (r.rules.length ≤ 16) := g16
  have f4 : decide ((r.sets.length : Int) > 4) = !decide (r.sets.length ≤ 4) := g4
  have f4' : decide ((r.pubs.length : Int) > 4) = !decide (r.pubs.length ≤ 4) := g4'
  have f24 : decide ((r.subs.length : Int) > 24) = !decide (r.subs.length ≤ 24) := g24
  rw [e1, f16, f4, f4', f24]
  simp only [List.drop_zero]
  unfold countsOk
  cases decide (r.rules.length ≤ 16) <;> cases decide (r.sets.length ≤ 4) <;> cases decide (r.pubs.length ≤ 4) <;> cases decide (r.subs.length ≤ 24) <;> cases r.sets.any setBad <;> rfl

/-! place -/
theorem lp87 (s : SSta) (b : List SRel) (r : SRel) (g : Nat) (hb : b.length ≤ 9223372036854775807) (hg : b.length < g) : L87_16 s b r g g 0 = lN (seenB (b.map SRel.bay) r.bay) := by
  have l1 := anyL_loop (p := fun x : SRel => x.bay == r.bay) (l := b) (d0 := rel0) (L := fun m i => L87_16 s b r g m i) (A := lN 12) (B := lN 0) (fun m k hk => by
    rw [st87_16, lt1 hk, ge0, tn, nx hk hb]; rfl) (fun m => by rw [st87_16, lt0 (Nat.lt_irrefl _)]; rfl) g 0 (by omega) (by omega)
  have e1 : L87_16 s b r g g 0 = _ := l1
  rw [e1]
  simp only [List.drop_zero]
  unfold seenB
  rw [List.any_map]
  have e2 : (b.any fun x => x.bay == r.bay) = b.any ((fun m => r.bay == m) ∘ SRel.bay) := by
    congr 1; funext x; exact Bool.beq_comm ..
  rw [e2]
  cases b.any ((fun m => r.bay == m) ∘ SRel.bay) <;> rfl
theorem c87 (s : SSta) (b : List SRel) (r : SRel) (hs : s.bays.length ≤ 9223372036854775807) (hb : lenOk b = true) : CX Tryz.prog 87 [aSta s, .c (.d (relsD b)), aRel r] [] (vI (placeErr s.bays (b.map SRel.bay) r)) [] := by
  obtain ⟨g, hg⟩ : ∃ g, b.length < g := ⟨b.length + 1, by omega⟩
  refine cx_of (Orc.nil_ok _) Tryz.func87 b87 rfl ((ev87 s b r g).trans ?_)
  rw [lp87 s b r g (lenOk_le hb) hg]
  have w : within r.bay 0 ((s.bays.length : Int) - 1) = (!decide (r.bay < 0) && !decide (r.bay ≥ (s.bays.length : Int))) := by
    unfold within
    by_cases h1 : r.bay < 0
    · rw [decide_eq_true h1, decide_eq_false (by omega)]; rfl
    · by_cases h2 : r.bay ≥ (s.bays.length : Int)
      · rw [decide_eq_false h1, decide_eq_true h2, decide_eq_false (show ¬ r.bay ≤ (s.bays.length : Int) - 1 by omega)]; simp
      · rw [decide_eq_false h1, decide_eq_false h2, decide_eq_true (show r.bay ≤ (s.bays.length : Int) - 1 by omega), decide_eq_true (show r.bay ≥ 0 by omega)]; rfl
  have i : r.bay < (0 : Int) ∨ r.bay ≥ (s.bays.length : Int) ∨ (decide ((0 : Int) ≤ r.bay) && decide (r.bay < (s.bays.length : Int))) = true := by
    by_cases h1 : r.bay < 0
    · exact .inl h1
    · by_cases h2 : r.bay ≥ (s.bays.length : Int)
      · exact .inr (.inl h2)
      · refine .inr (.inr ?_); rw [decide_eq_true (by omega), decide_eq_true (by omega)]; rfl
  unfold placeErr placeK
  rw [w]
  generalize seenB (b.map SRel.bay) r.bay = sb
  generalize (s.bays.getD r.bay.toNat bay0).kind = kd
  rcases i with h | h | h
  · rw [decide_eq_true h]
    cases (r.kind == 1) <;> cases (r.kind == 2) <;> cases (r.kind == 3) <;> cases (r.kind == 4) <;> cases (r.bay != -1) <;> rfl
  · rw [decide_eq_true h]
    cases decide (r.bay < 0) <;> cases (r.kind == 1) <;> cases (r.kind == 2) <;> cases (r.kind == 3) <;> cases (r.kind == 4) <;> cases (r.bay != -1) <;> rfl
  · rw [h]
    cases decide (r.bay < 0) <;> cases decide (r.bay ≥ (s.bays.length : Int)) <;> cases (r.kind == 1) <;> cases (r.kind == 2) <;> cases (r.kind == 3) <;> cases (r.kind == 4) <;> cases (r.bay != -1) <;> cases (kd != 1) <;> cases (kd != 2) <;> cases (kd != 3) <;> rfl

/-! rules -/
noncomputable abbrev ix2 : List AV → Int := fun x => idxF (theT eIx x).2 0 (theT eIx x).1
noncomputable abbrev ok2 : List AV → Bool := okG eIx cIx
theorem ix_ge {n : Nat} {f : Nat → List D} {l : List ByteArray} (hr : RL busC e0 n f l) (hn : n ≤ 9000) (s : ByteArray) : ok2 [.c (.d (.sl 1 n f)), vS s] = true ∧ decide (ix2 [.c (.d (.sl 1 n f)), vS s] ≥ 0) = inB l s := by
  obtain ⟨h1, h2⟩ := ix_okr hr hn s
  refine ⟨h1, ?_⟩
  unfold ix2
  rw [h2, idxF_ge]
theorem s92 : OrcS Tryz.prog (o92 nameOk ev115_v ok2 ix2) := sIx (.cons (.p decS_ok c16) (.cons (.p decS_ok c133) .nil))
theorem lp92i (r : SRel) (g mo n : Nat) (f : Nat → List D) (k : Nat) (hs : (r.rules.getD k rule0).text.size ≤ 120) (hk : k < r.rules.length) (hl : r.rules.length ≤ 9000) (hn : n ≤ 9000) : ∀ (m j : Nat), j ≤ (r.rules.getD k rule0).text.size → (r.rules.getD k rule0).text.size - j < m →
    L92_13 nameOk ev115_v ok2 ix2 r g mo m n f k j = bif ((r.rules.getD k rule0).text.data.toList.drop j).any badByte then lN 5 else L92_3 nameOk ev115_v ok2 ix2 r g mo (n + 1) (appF n f (chunk (busC (r.rules.getD k rule0).name) 1)) ((k + 1 : Nat) : Int)
  | 0, j, _, h => by omega
  | m + 1, j, hj, h => by
    rw [st92_13, tn]
    have ih := lp92i r g mo n f k hs hk hl hn m (j + 1)
    generalize hx : r.rules.getD k rule0 = x at ih hs hj h ⊢
    by_cases hlt : j < x.text.size
    · have hlt' : j < x.text.data.toList.length := by simpa using hlt
      rw [drop_at' (d := 0) hlt', lt1 hlt, ge0, tn, nx hlt (by omega), ih (by omega) (by omega)]
      simp only [tt, cond_true, List.any_cons, badByte]
      generalize decide (((x.text.data.toList.getD j 0).toNat : Int) < 32) = a1
      generalize decide (((x.text.data.toList.getD j 0).toNat : Int) > 126) = a2
      generalize (((x.text.data.toList.getD j 0).toNat : Int) == 34) = a3
      cases a1 <;> cases a2 <;> cases a3 <;> rfl
    · rw [lt0 hlt, List.drop_of_length_le (by simp; omega), apOk16 hn, nx hk (by omega)]
      rfl
theorem c92 (r : SRel) (h1 : r.rules.length ≤ 9000) : CX Tryz.prog 92 [aRel r] [] (vI (eRules r.rules)) [] := by
  obtain ⟨g, g1, g2⟩ : ∃ g, r.rules.length < g ∧ 120 < g := ⟨r.rules.length + 121, by omega, by omega⟩
  refine cx_of s92.ok Tryz.func92 b92 rfl ((ev92 _ _ _ _ r g).trans ?_)
  have key := seenr_loop (valid := ruleOk) (key := SRule.name) (rest := fun x => textErr x.text) (l := r.rules) (d0 := rule0) (L := fun m n f i => L92_3 nameOk ev115_v ok2 ix2 r g m n f i) (NX := lN 0) h1 (fun m k n f seen hk hr hn => by
    obtain ⟨q1, q2⟩ := ix_ge hr hn (r.rules.getD k rule0).name
    show L92_3 nameOk ev115_v ok2 ix2 r g (m + 1) n f k = _
    rw [st92_3, lt1 hk, ge0, tn]
    have q1' : ok2 [AV.c (C.d (D.sl 1 n f)), AV.c (C.d (D.v (Value.string (r.rules.getD k rule0).name)))] = true := q1
    have q2' : decide (ix2 [AV.c (C.d (D.sl 1 n f)), AV.c (C.d (D.v (Value.string (r.rules.getD k rule0).name)))] ≥ 0) = inB seen (r.rules.getD k rule0).name := q2
    rw [q1', q2']
    have hi := fun hs => lp92i r g m n f k hs hk h1 hn g 0 (by omega) (by omega)
    unfold ruleOk textErr
    simp only [tt, cond_true]
    have e120 : decide (((r.rules.getD k rule0).text.size : Int) > 120) = decide (120 < (r.rules.getD k rule0).text.size) := by
      rw [Bool.eq_iff_iff, decide_eq_true_eq, decide_eq_true_eq]; omega
    rw [e120]
    cases nameOk (r.rules.getD k rule0).name with
    | false => rfl
    | true =>
      cases ev115_v (r.rules.getD k rule0).name with
      | true => rfl
      | false =>
        cases inB seen (r.rules.getD k rule0).name with
        | true => rfl
        | false =>
          by_cases hs : 120 < (r.rules.getD k rule0).text.size
          · rw [decide_eq_true hs]; rfl
          · have hi' : L92_13 nameOk ev115_v ok2 ix2 r g m g n f k 0 = _ := hi (by omega)
            rw [decide_eq_false hs]
            simp only [Bool.not_true, Bool.not_false, Bool.and_self, cond_true, cond_false]
            refine Eq.trans hi' ?_
            simp only [List.drop_zero]
            cases ((r.rules.getD k rule0).text.data.toList.any badByte) <;> rfl) (fun m n f => by show L92_3 nameOk ev115_v ok2 ix2 r g (m + 1) n f (r.rules.length : Nat) = _; rw [st92_3, lt0 (Nat.lt_irrefl _)]; rfl) g 0 0 (fun _ => []) [] (.nil _) rfl (by omega) (by omega)
  refine Eq.trans (b := bif eRules r.rules != 0 then lN (eRules r.rules) else lN 0) key ?_
  cases hz : (eRules r.rules != 0) with
  | true => rfl
  | false =>
    have : eRules r.rules = 0 := by simpa using hz
    rw [this]; rfl

/-! lists -/
theorem cBt (a : Int × Int × Int) : CX Tryz.prog 131 [vI a.1, vI a.2.1, vI a.2.2] [] (vB (within a.1 a.2.1 a.2.2)) [] := by
  refine cx_of (Orc.nil_ok _) Tryz.func131 (by kernel_rfl) rfl ((evBt a.1 a.2.1 a.2.2).trans ?_)
  unfold evBt_v within
  cases decide (a.1 ≥ a.2.1) <;> rfl
theorem s93 : OrcS Tryz.prog (o93 nameOk ok2 ix2) := sIx (.cons (.p decS_ok c16) (.cons (.p dec3_ok cBt) .nil))
theorem lp93i (r : SRel) (g mo n : Nat) (f : Nat → List D) (k : Nat) (seen : List ByteArray) (hr : RL busC e0 n f seen) (hk : k < r.sets.length) (hl : r.sets.length ≤ 9000) (hn : n ≤ 9000) (hs : okSet (r.sets.getD k set0) = true) (hg : (r.sets.getD k set0).sigs.length < g) :
    L93_9 nameOk ok2 ix2 r g mo g n f k 0 = bif !(r.sets.getD k set0).sigs.all nameOk then lN 7 else bif inB seen (r.sets.getD k set0).name then lN 8 else L93_3 nameOk ok2 ix2 r g mo (n + 1) (appF n f (chunk (busC (r.sets.getD k set0).name) 1)) ((k + 1 : Nat) : Int) := by
  have hS := lenOk_le hs
  obtain ⟨q1, q2⟩ := ix_ge hr hn (r.sets.getD k set0).name
  have q1' : ok2 [AV.c (C.d (D.sl 1 n f)), AV.c (C.d (D.v (Value.string (r.sets.getD k set0).name)))] = true := q1
  have q2' : decide (ix2 [AV.c (C.d (D.sl 1 n f)), AV.c (C.d (D.v (Value.string (r.sets.getD k set0).name)))] ≥ 0) = inB seen (r.sets.getD k set0).name := q2
  have l1 := anyL_loop (p := fun s => !nameOk s) (l := (r.sets.getD k set0).sigs) (d0 := e0) (L := fun m i => L93_9 nameOk ok2 ix2 r g mo m n f k i) (A := lN 7) (B := bif inB seen (r.sets.getD k set0).name then lN 8 else L93_3 nameOk ok2 ix2 r g mo (n + 1) (appF n f (chunk (busC (r.sets.getD k set0).name) 1)) ((k + 1 : Nat) : Int)) (fun m j hj => by
    show L93_9 nameOk ok2 ix2 r g mo (m + 1) n f k j = _
    rw [st93_9, tn, lt1 hj, ge0, tn, nx hj hS]; rfl) (fun m => by
    show L93_9 nameOk ok2 ix2 r g mo (m + 1) n f k ((r.sets.getD k set0).sigs.length : Nat) = _
    rw [st93_9, tn, lt0 (Nat.lt_irrefl _), q1', q2', apOk16 hn, nx hk (by omega)]; rfl) g 0 (by omega) (by omega)
  have e1 : L93_9 nameOk ok2 ix2 r g mo g n f k 0 = _ := l1
  rw [e1]
  simp only [List.drop_zero]
  rw [← anyAll, Bool.not_not]
theorem int_eq (x : SPub) : ev123_v x = bif !within x.fst 1 100 then 2 else bif !within x.max x.fst 1000 then 2 else 0 := by
  unfold ev123_v within
  cases decide (x.fst ≥ 1) <;> cases decide (x.fst ≤ 100) <;> cases decide (x.max ≥ x.fst) <;> cases decide (x.max ≤ 1000) <;> rfl
noncomputable def refLists (r : SRel) : Int := bif eSets r.sets != 0 then eSets r.sets else bif ePubs r.pubs != 0 then ePubs r.pubs else eSubs r.subs
theorem k93c (r : SRel) (g : Nat) (h3 : r.subs.length ≤ 9000) (g3 : r.subs.length < g) : L93_30 nameOk ok2 ix2 r g g 0 (fun _ => []) 0 = bif eSubs r.subs != 0 then lN (eSubs r.subs) else lN 0 := by
  have kc := seenr_loop (valid := subOk) (key := SSub.loc) (rest := rest0) (l := r.subs) (d0 := sub0) (L := fun m n f i => L93_30 nameOk ok2 ix2 r g m n f i) (NX := lN 0) h3 (fun m k n f seen hk hr hn => by
    obtain ⟨q1, q2⟩ := ix_ge hr hn (r.subs.getD k sub0).loc
    have q1' : ok2 [AV.c (C.d (D.sl 1 n f)), AV.c (C.d (D.v (Value.string (r.subs.getD k sub0).loc)))] = true := q1
    have q2' : decide (ix2 [AV.c (C.d (D.sl 1 n f)), AV.c (C.d (D.v (Value.string (r.subs.getD k sub0).loc)))] ≥ 0) = inB seen (r.subs.getD k sub0).loc := q2
    have st := st93_30 nameOk ok2 ix2 r g m n f k
    rw [lt1 hk, ge0, tn, q1', q2', apOk16 hn, nx hk (by omega)] at st
    refine Eq.trans st ?_
    unfold subOk
    simp only [tt, cond_true]
    generalize L93_30 nameOk ok2 ix2 r g m = LL
    cases nameOk (r.subs.getD k sub0).loc <;> cases nameOk (r.subs.getD k sub0).dev <;> cases nameOk (r.subs.getD k sub0).set <;> cases nameOk (r.subs.getD k sub0).sig <;> rfl) (fun m n f => by
    have st := st93_30 nameOk ok2 ix2 r g m n f (r.subs.length : Nat)
    rw [lt0 (Nat.lt_irrefl _)] at st
    rw [cond_false] at st
    exact st) g 0 0 (fun _ => []) [] (.nil _) rfl (by omega) (by omega)
  exact kc
theorem k93b (r : SRel) (g : Nat) (h2 : r.pubs.length ≤ 9000) (g2 : r.pubs.length < g) : L93_18 nameOk ok2 ix2 r g g 0 (fun _ => []) 0 = bif ePubs r.pubs != 0 then lN (ePubs r.pubs) else L93_30 nameOk ok2 ix2 r g g 0 (fun _ => []) 0 := by
  have kb := seenr_loop (valid := pubOk) (key := SPub.set) (rest := ev123_v) (l := r.pubs) (d0 := pub0) (L := fun m n f i => L93_18 nameOk ok2 ix2 r g m n f i) (NX := L93_30 nameOk ok2 ix2 r g g 0 (fun _ => []) 0) h2 (fun m k n f seen hk hr hn => by
    obtain ⟨q1, q2⟩ := ix_ge hr hn (r.pubs.getD k pub0).set
    have q1' : ok2 [AV.c (C.d (D.sl 1 n f)), AV.c (C.d (D.v (Value.string (r.pubs.getD k pub0).set)))] = true := q1
    have q2' : decide (ix2 [AV.c (C.d (D.sl 1 n f)), AV.c (C.d (D.v (Value.string (r.pubs.getD k pub0).set)))] ≥ 0) = inB seen (r.pubs.getD k pub0).set := q2
    have st := st93_18 nameOk ok2 ix2 r g m n f k
    rw [lt1 hk, ge0, tn, q1', q2', apOk16 hn, nx hk (by omega)] at st
    refine Eq.trans st ?_
    rw [int_eq]
    unfold pubOk
    simp only [tt, cond_true]
    generalize L93_18 nameOk ok2 ix2 r g m = LL
    generalize L93_30 nameOk ok2 ix2 r g g 0 (fun x => []) 0 = MM
    cases nameOk (r.pubs.getD k pub0).set <;> cases within (r.pubs.getD k pub0).fst 1 100 <;> cases within (r.pubs.getD k pub0).max (r.pubs.getD k pub0).fst 1000 <;> rfl) (fun m n f => by
    have st := st93_18 nameOk ok2 ix2 r g m n f (r.pubs.length : Nat)
    rw [lt0 (Nat.lt_irrefl _)] at st
    rw [cond_false] at st
    exact st) g 0 0 (fun _ => []) [] (.nil _) rfl (by omega) (by omega)
  exact kb
theorem k93a (r : SRel) (g : Nat) (h1 : r.sets.length ≤ 9000) (g1 : r.sets.length < g) (g4 : ∀ k, (r.sets.getD k set0).sigs.length < g) (hs : r.sets.all okSet = true) : L93_3 nameOk ok2 ix2 r g g 0 (fun _ => []) 0 = bif eSets r.sets != 0 then lN (eSets r.sets) else L93_18 nameOk ok2 ix2 r g g 0 (fun _ => []) 0 := by
  have ka := seenr_loop (valid := setOk) (key := SSet.name) (rest := rest0) (l := r.sets) (d0 := set0) (L := fun m n f i => L93_3 nameOk ok2 ix2 r g m n f i) (NX := L93_18 nameOk ok2 ix2 r g g 0 (fun _ => []) 0) h1 (fun m k n f seen hk hr hn => by
    have hi : L93_9 nameOk ok2 ix2 r g m g n f k 0 = _ := lp93i r g m n f k seen hr hk h1 hn (all_getD hs rfl k) (g4 k)
    have st := st93_3 nameOk ok2 ix2 r g m n f k
    rw [lt1 hk, ge0, tn, hi] at st
    refine Eq.trans st ?_
    unfold setOk
    simp only [tt, cond_true]
    generalize L93_3 nameOk ok2 ix2 r g m = LL
    generalize L93_18 nameOk ok2 ix2 r g g 0 (fun x => []) 0 = MM
    cases nameOk (r.sets.getD k set0).name <;> cases (r.sets.getD k set0).sigs.all nameOk <;> rfl) (fun m n f => by
    have st := st93_3 nameOk ok2 ix2 r g m n f (r.sets.length : Nat)
    rw [lt0 (Nat.lt_irrefl _)] at st
    rw [cond_false] at st
    exact st) g 0 0 (fun _ => []) [] (.nil _) rfl (by omega) (by omega)
  exact ka
theorem c93 (r : SRel) (h1 : r.sets.length ≤ 9000) (h2 : r.pubs.length ≤ 9000) (h3 : r.subs.length ≤ 9000) (hs : r.sets.all okSet = true) : CX Tryz.prog 93 [aRel r] [] (vI (refLists r)) [] := by
  obtain ⟨g, g1, g2, g3, g4⟩ : ∃ g, r.sets.length < g ∧ r.pubs.length < g ∧ r.subs.length < g ∧ ∀ k, (r.sets.getD k set0).sigs.length < g := by
    have key : ∀ l : List SSet, ∃ g, ∀ k, (l.getD k set0).sigs.length < g := by
      intro l
      induction l with
      | nil => exact ⟨1, fun k => by simp [set0]⟩
      | cons x t ih =>
        obtain ⟨g, hg⟩ := ih
        refine ⟨g + x.sigs.length + 1, fun k => ?_⟩
        cases k with
        | zero => simp only [List.getD_cons_zero]; omega
        | succ k => have := hg k; simp only [List.getD_cons_succ]; omega
    obtain ⟨g, hg⟩ := key r.sets
    exact ⟨g + r.sets.length + r.pubs.length + r.subs.length + 1, by omega, by omega, by omega, fun k => by have := hg k; omega⟩
  refine cx_of s93.ok Tryz.func93 b93 rfl ((ev93 _ _ _ r g).trans ?_)
  have ec := k93c r g h3 g3
  have eb := k93b r g h2 g2
  have ea := k93a r g h1 g1 g4 hs
  refine Eq.trans ea ?_
  rw [eb, ec]
  unfold refLists
  have z : ∀ n : Int, (bif n != 0 then lN n else lN 0) = lN n := fun n => by
    cases h : (n != 0) with
    | true => rfl
    | false => have : n = 0 := by simpa using h
               rw [this]; rfl
  rw [z]
  cases (eSets r.sets != 0) <;> cases (ePubs r.pubs != 0) <;> rfl
end Go.Proofs.YtngoglhlhlfknaaGreat.se
