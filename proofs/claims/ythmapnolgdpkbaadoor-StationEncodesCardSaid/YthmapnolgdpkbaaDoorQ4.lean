/-
  An evaluator of Go code on abstract values, proved sound, and what it computes of the functions that the statement reaches (part 4). No condition.
-/
import Derived.Test.YthmapnolgdpkbaaDoorQ3
import Derived.Test.YthmapnolgdpkbaaDoorProg
import Derived.KernelRfl
import Derived.Shelf.Strconv.Itoa3
import Derived.Ground.NamesProg
set_option maxRecDepth 100000
namespace Go.Proofs.YthmapnolgdpkbaaDoor.pe
open Go.RowKit Go.Eb Go.Proofs.YthmapnolgdpkbaaDoor.st Go.Proofs.YthmapnolgdpkbaaDoor.de
set_option maxRecDepth 100000

abbrev putF (n : Nat) (f : Nat → List D) (z ds : List D) : Nat → List D := fun j => bif Nat.beq j (Int.toNat (n : Int)) then splice (appF n f (chunk z ((3 : Nat) + (1 : Nat))) j) 0 ds else appF n f (chunk z ((3 : Nat) + (1 : Nat))) j
abbrev z4 : List D := [dI 0, .v (.slice none 0 0), dB false, .v (.slice none 0 0)]
theorem putF_eq' (n : Nat) (f : Nat → List D) (z ds : List D) (hz : z.length = 4) (hd : ds.length = 4) : putF n f z ds = appF n f (chunk ds 4) := by
  funext j
  unfold putF appF
  rw [bltD, beqD, tn]
  by_cases e : j < n
  · rw [decide_eq_true e, decide_eq_false (by omega)]; rfl
  · rw [decide_eq_false e]
    by_cases e2 : j = n
    · subst e2
      rw [decide_eq_true rfl, Nat.sub_self]
      show splice (chunk z 4 0) 0 ds = chunk ds 4 0
      have h1 : chunk z 4 0 = z := by rw [← hz]; exact chunk_one z
      have h2 : chunk ds 4 0 = ds := by rw [← hd]; exact chunk_one ds
      rw [h1, h2]
      unfold splice
      rw [List.drop_of_length_le (by omega)]
      simp
    · rw [decide_eq_false e2]
      show chunk z 4 (j - n) = chunk ds 4 (j - n)
      unfold chunk
      rw [List.drop_of_length_le (by omega), List.drop_of_length_le (by omega)]
theorem putF_eq (n : Nat) (f : Nat → List D) (z ds : List D) (hz : z.length = 4) (hd : ds.length = 4) : (fun j => bif Nat.beq j (Int.toNat (n : Int)) then splice (appF n f (chunk z ((3 : Nat) + (1 : Nat))) j) (0 : Nat) ds else appF n f (chunk z ((3 : Nat) + (1 : Nat))) j) = appF n f (chunk ds 4) := putF_eq' n f z ds hz hd
theorem ixn (n : Nat) : (decide ((0 : Int) ≤ (n : Int)) && decide ((n : Int) < ((n + (1 : Nat) : Nat) : Int))) = true := by
  rw [decide_eq_true (by omega), decide_eq_true (by omega)]; rfl
theorem sPit (hI : ∀ n : Int, 0 ≤ n → n < M12 → CX Tryd.prog 18 [vI n] [] (vS (dec n)) []) : OrcS Tryd.prog (oPit (okD M12) dcD) := .cons (.t' (enc := en1 vI) (c := fun k => decide (0 ≤ k) && decide (k < M12)) (r := fun k => vS (dec k)) fun k hk => by
  simp only [Bool.and_eq_true, decide_eq_true_eq] at hk
  exact hI k hk.1 hk.2) .nil
theorem sPst (hI : ∀ n : Int, 0 ≤ n → n < M12 → CX Tryd.prog 18 [vI n] [] (vS (dec n)) []) : OrcS Tryd.prog (oPst (okD M12) dcD) := .cons (.inl .nil Tryd.func16 (by kernel_rfl)) (.cons (.inl (sPit hI) Tryd.func17 (by kernel_rfl)) (sPit hI))
theorem sPeb (hI : ∀ n : Int, 0 ≤ n → n < M12 → CX Tryd.prog 18 [vI n] [] (vS (dec n)) []) : OrcS Tryd.prog (oPeb (okD M12) dcD) := .cons (.inl (sPst hI) Tryd.func49 (by kernel_rfl)) (sPst hI)
def leafB (w : D) (n : Nat) (f : Nat → List D) : Option (T (AV × Hp)) := some (T.leaf (AV.agg [.d (dI 0), .d w, .d (dB true), .row 0 4 n], [(0, Blk.row n f 4 47)]))
section
variable {s : SSta} {b : SBay} (h : BFit s b) (g : Nat) (hg : 200 < g) (x2 : Int) (x2' : Bool) (w : D)
include h
theorem t16 (m n : Nat) (f : Nat → List D) (bef : List It) (hn : n ≤ 100) (hm : b.links.length < m) (hr : RLe icells i0 n f bef) :
    ∃ n' f', RLe icells i0 n' f' (bef ++ b.links.map (encSel s.buses) ++ (bif !b.closed then [say [tBreaker, tOpen]] else [])) ∧ Leby_17 (okD M12) dcD s b g m n f 0 x2 x2' 0 w true = leafB w n' f' := by
  have hl := h.len
  obtain ⟨f', h1, h2⟩ := app_loop (L := fun m n f i => Leby_17 (okD M12) dcD s b g m n f i x2 x2' 0 w true)
    (K := fun n f => bif !b.closed then (bif decide ((n + (1 : Nat)) * (64 : Nat) ≤ (140737488355328 : Nat)) && decide (n + (1 : Nat) ≤ (9223372036854775807 : Nat)) then (bif decide ((0 : Int) ≤ (n : Int)) && decide ((n : Int) < ((n + (1 : Nat) : Nat) : Int)) then leafB w (n + 1) (putF n f z4 (sayC [tBreaker, tOpen])) else none) else none) else leafB w n f)
    (l := b.links) (d := link0) (c := icells) (d0 := i0) (ch := fun l => sayC [tSelect, s.buses.getD l.bus.toNat e0, bif l.pos == 1 then tClosed else tOpen]) (e := encSel s.buses) (sz := 4)
    (fun m k n f hk hn => by
      show Leby_17 (okD M12) dcD s b g (m + 1) n f k x2 x2' 0 w true = Leby_17 (okD M12) dcD s b g m (n + 1) _ _ x2 x2' 0 w true
      rw [steby_17]
      obtain ⟨b1, b2⟩ := h.bus k hk
      rw [lt1 hk, cond_true, ge0, tt, cond_true, tn, decide_eq_true b1, decide_eq_true b2, tt, nx hk (by omega), appOk5 hn, ixn]
      generalize Leby_17 (okD M12) dcD s b g m = LL
      cases ((b.links.getD k link0).pos == 1)
      · rw [cond_false, cond_true, cond_true, cond_true, putF_eq _ _ _ _ rfl rfl]; rfl
      · rw [cond_true, cond_true, cond_true, cond_true, putF_eq _ _ _ _ rfl rfl]; rfl)
    (fun m n f => by
      show Leby_17 (okD M12) dcD s b g (m + 1) n f (b.links.length : Int) x2 x2' 0 w true = _
      rw [steby_17, lt0 (Nat.lt_irrefl _)]
      rfl)
    (fun _ => rfl) (fun k _ => sayC_de _) m 0 n f bef (by omega) (by omega) (by omega) hr
  simp only [Nat.sub_zero, List.drop_zero] at h1 h2
  have h2 : Leby_17 (okD M12) dcD s b g m n f 0 x2 x2' 0 w true = _ := h2
  rw [h2]
  cases b.closed with
  | true => exact ⟨_, f', by simpa using h1, rfl⟩
  | false =>
    refine ⟨_, _, h1.app rfl (sayC_de [tBreaker, tOpen]), ?_⟩
    rw [Bool.not_false, cond_true, appOk5 (by omega), cond_true, ixn, cond_true]
    exact congrArg (leafB w _) (putF_eq' _ _ _ _ rfl rfl)
include hg
theorem t14 (n : Nat) (f : Nat → List D) (bef : List It) (hn : n ≤ 90) (hr : RLe icells i0 n f bef) :
    ∃ n' f', RLe icells i0 n' f' (bef ++ [say [tTravel, dec b.travel]] ++ b.links.map (encSel s.buses) ++ (bif !b.closed then [say [tBreaker, tOpen]] else [])) ∧ Leby_15 (okD M12) dcD s b g g n f x2 x2' 0 w true = leafB w n' f' := by
  have hl := h.len
  obtain ⟨m, rfl⟩ : ∃ m, g = m + 1 := ⟨g - 1, by omega⟩
  obtain ⟨n', f', h1, h2⟩ := t16 h (m + 1) x2 x2' w (m + 1) (n + 1) _ (bef ++ [say [tTravel, dec b.travel]]) (by omega) (by omega) (hr.app rfl (sayC_de _))
  refine ⟨n', f', h1, ?_⟩
  rw [steby_15, okN h.travel, dcN, cond_true, appOk5 (by omega), cond_true, ixn, cond_true, putF_eq _ _ _ _ rfl rfl]
  exact h2
theorem t12 (n : Nat) (f : Nat → List D) (bef : List It) (hn : n ≤ 80) (hr : RLe icells i0 n f bef) :
    ∃ n' f', RLe icells i0 n' f' (bef ++ (bif b.sat != 0 then [say [tSat, dec b.sat]] else []) ++ [say [tTravel, dec b.travel]] ++ b.links.map (encSel s.buses) ++ (bif !b.closed then [say [tBreaker, tOpen]] else [])) ∧ Leby_13 (okD M12) dcD s b g g n f x2 x2' 0 w true = leafB w n' f' := by
  obtain ⟨m, rfl⟩ : ∃ m, g = m + 1 := ⟨g - 1, by omega⟩
  rw [steby_13, okN h.sat, dcN]
  cases (b.sat != 0) with
  | false =>
    obtain ⟨n', f', h1, h2⟩ := t14 h (m + 1) hg x2 x2' w n f bef (by omega) hr
    refine ⟨n', f', by simpa using h1, ?_⟩
    rw [cond_false]
    exact h2
  | true =>
    obtain ⟨n', f', h1, h2⟩ := t14 h (m + 1) hg x2 x2' w (n + 1) _ (bef ++ [say [tSat, dec b.sat]]) (by omega) (hr.app rfl (sayC_de _))
    refine ⟨n', f', h1, ?_⟩
    rw [cond_true, cond_true, appOk5 (by omega), cond_true, ixn, cond_true, putF_eq _ _ _ _ rfl rfl]
    exact h2
theorem t10 (n : Nat) (f : Nat → List D) (bef : List It) (hn : n ≤ 70) (hr : RLe icells i0 n f bef) :
    ∃ n' f', RLe icells i0 n' f' (bef ++ (bif b.kind != 3 then [say [tVt, dec b.vt]] else []) ++ (bif b.sat != 0 then [say [tSat, dec b.sat]] else []) ++ [say [tTravel, dec b.travel]] ++ b.links.map (encSel s.buses) ++ (bif !b.closed then [say [tBreaker, tOpen]] else [])) ∧ Leby_11 (okD M12) dcD s b g g n f x2 x2' 0 w true = leafB w n' f' := by
  obtain ⟨m, rfl⟩ : ∃ m, g = m + 1 := ⟨g - 1, by omega⟩
  rw [steby_11, okN h.vt, dcN]
  cases (b.kind != 3) with
  | false =>
    obtain ⟨n', f', h1, h2⟩ := t12 h (m + 1) hg x2 x2' w n f bef (by omega) hr
    refine ⟨n', f', by simpa using h1, ?_⟩
    rw [cond_false]
    exact h2
  | true =>
    obtain ⟨n', f', h1, h2⟩ := t12 h (m + 1) hg x2 x2' w (n + 1) _ (bef ++ [say [tVt, dec b.vt]]) (by omega) (hr.app rfl (sayC_de _))
    refine ⟨n', f', h1, ?_⟩
    rw [cond_true, cond_true, appOk5 (by omega), cond_true, ixn, cond_true, putF_eq _ _ _ _ rfl rfl]
    exact h2
theorem t8 : ∃ n' f', RLe icells i0 n' f' (bayK s b) ∧ Leby_10 (okD M12) dcD s b g g 0 (fun _ => []) x2 x2' 0 w true = leafB w n' f' := by
  obtain ⟨m, rfl⟩ : ∃ m, g = m + 1 := ⟨g - 1, by omega⟩
  obtain ⟨n', f', h1, h2⟩ := t10 h (m + 1) hg x2 x2' w (0 + 1) _ ([] ++ [say [tCt, dec b.ct]]) (by omega) ((RLe.nil (c := icells) (d0 := i0) fun _ => []).app rfl (sayC_de _))
  refine ⟨n', f', h1, ?_⟩
  rw [steby_10, okN h.ct, dcN, cond_true, appOk5 (by omega), cond_true, ixn, cond_true, putF_eq _ _ _ _ rfl rfl]
  exact h2
end

theorem bayW_fix (s : SSta) (b : SBay) (l : List ByteArray) (hl : bayW s b = plainW l) : DE (wordsC l) (wordsD (bayW s b)) := hl ▸ wordsC_de l
theorem ceby (hI : ∀ n : Int, 0 ≤ n → n < M12 → CX Tryd.prog 18 [vI n] [] (vS (dec n)) []) (s : SSta) (b : SBay) (h : BFit s b) : CX Tryd.prog 19 [aSta s, aBay b] [] (.agg [.d (dI 0), .d (wordsD (bayW s b)), .d (dB true), .d (kidsD (encBay s b))]) [] := by
  obtain ⟨g, hg⟩ : ∃ g, 200 < g := ⟨201, by omega⟩
  have fin : ∀ (l : List ByteArray), bayW s b = plainW l → callC Tryd.prog (oPeb (okD M12) dcD) anneby g Tryd.f19 (bodyOf Tryd.f19) [aSta s, aBay b] [] = Leby_10 (okD M12) dcD s b g g 0 (fun _ => []) 0 false 0 (wordsC l) true →
      CX Tryd.prog 19 [aSta s, aBay b] [] (.agg [.d (dI 0), .d (wordsD (bayW s b)), .d (dB true), .d (kidsD (encBay s b))]) [] := fun l hl he => by
    obtain ⟨n', f', h1, h2⟩ := t8 h g hg 0 false (wordsC l)
    have hc := (cr_of (sPeb hI).ok Tryd.func19 beby rfl (he.trans h2)).data (y := .agg [.d (dI 0), .d (wordsC l), .d (dB true), .d (.sl 4 n' f')]) rfl
    refine (CX.of_cr Tryd.func19 beby hc).le ?_ (.refl _)
    refine ale_of_des (a := [dI 0, wordsC l, dB true, .sl 4 n' f']) (b := [dI 0, wordsD (bayW s b), dB true, kidsD (encBay s b)]) (.cons (.refl _) (.cons (bayW_fix s b l hl) (.cons (.refl _) (.cons ?_ .nil))))
    exact (h1.de (sz := 4)).trans (itemsD_de (encBay s b))
  have ev := eveby (okD M12) dcD s b g
  cases h1 : (b.kind == 1) with
  | true =>
    obtain ⟨o1, o2⟩ := h.off1 (by simpa using h1)
    refine fin [tBay', b.name, tLine', (s.lines.getD b.off.toNat line0).name, dec b.fin] (by unfold bayW; rw [h1]; rfl) (ev.trans ?_)
    rw [h1, cond_true, decide_eq_true o1, decide_eq_true o2, tt, cond_true, okN h.fin, cond_true, dcN]
    rfl
  | false =>
    cases h2 : (b.kind == 2) with
    | true =>
      obtain ⟨o1, o2⟩ := h.off2 (by simpa using h2)
      refine fin [tBay', b.name, tSource, (s.srcs.getD b.off.toNat src0).name] (by unfold bayW; rw [h1, h2]; rfl) (ev.trans ?_)
      rw [h1, cond_false, h2, cond_true, decide_eq_true o1, decide_eq_true o2, tt, cond_true]
      rfl
    | false =>
      refine fin [tBay', b.name, tCoupler, dec b.zr, dec b.zx] (by unfold bayW; rw [h1, h2]; rfl) (ev.trans ?_)
      rw [h1, cond_false, h2, cond_false, okN h.zr, cond_true, okN h.zx, cond_true, dcN, dcN]
      rfl
end Go.Proofs.YthmapnolgdpkbaaDoor.pe
namespace Go.Proofs.YthmapnolgdpkbaaDoor.pe
open Go.RowKit Go.Eb Go.Proofs.YthmapnolgdpkbaaDoor.st Go.Proofs.YthmapnolgdpkbaaDoor.de
set_option maxRecDepth 100000

noncomputable abbrev OPe : Orc := oPe (okD M12) dcD (okG (en1 aSta) okSta) (fun x => chkSta (theT (en1 aSta) x)) (okG eSB bFit) (fun x => wordsD (bayW (theT eSB x).1 (theT eSB x).2)) (fun x => kidsD (encBay (theT eSB x).1 (theT eSB x).2))
theorem sPe (hI : ∀ n : Int, 0 ≤ n → n < M12 → CX Tryd.prog 18 [vI n] [] (vS (dec n)) []) (hck : ∀ s, okSta s = true → CX Tryd.prog 15 [aSta s] [] (vI (chkSta s)) []) : OrcS Tryd.prog OPe :=
  .cons (.t' (r := fun a => vI (chkSta a)) fun a h => hck a h) (.cons (.t' (enc := eSB) (c := bFit) (r := fun a => .agg [.d (dI 0), .d (wordsD (bayW a.1 a.2)), .d (dB true), .d (kidsD (encBay a.1 a.2))]) fun a h => ceby hI a.1 a.2 (bFit_iff.1 h)) (sPst hI))
section
variable {s : SSta} (hs : SFit s) (g : Nat) (hg : 6000 < g)
include hs hg
noncomputable abbrev L5 (s : SSta) (g m n : Nat) (f : Nat → List D) (i : Int) := Lpen_5 (okD M12) dcD (okG (en1 aSta) okSta) (fun x => chkSta (theT (en1 aSta) x)) (okG eSB bFit) (fun x => wordsD (bayW (theT eSB x).1 (theT eSB x).2)) (fun x => kidsD (encBay (theT eSB x).1 (theT eSB x).2)) s g m n f i
noncomputable abbrev L9 (s : SSta) (g m n : Nat) (f : Nat → List D) (i : Int) := Lpen_10 (okD M12) dcD (okG (en1 aSta) okSta) (fun x => chkSta (theT (en1 aSta) x)) (okG eSB bFit) (fun x => wordsD (bayW (theT eSB x).1 (theT eSB x).2)) (fun x => kidsD (encBay (theT eSB x).1 (theT eSB x).2)) s g m n f i
noncomputable abbrev L14 (s : SSta) (g m n : Nat) (f : Nat → List D) (i : Int) := Lpen_16 (okD M12) dcD (okG (en1 aSta) okSta) (fun x => chkSta (theT (en1 aSta) x)) (okG eSB bFit) (fun x => wordsD (bayW (theT eSB x).1 (theT eSB x).2)) (fun x => kidsD (encBay (theT eSB x).1 (theT eSB x).2)) s g m n f i
noncomputable abbrev L19 (s : SSta) (g m n : Nat) (f : Nat → List D) (i : Int) := Lpen_22 (okD M12) dcD (okG (en1 aSta) okSta) (fun x => chkSta (theT (en1 aSta) x)) (okG eSB bFit) (fun x => wordsD (bayW (theT eSB x).1 (theT eSB x).2)) (fun x => kidsD (encBay (theT eSB x).1 (theT eSB x).2)) s g m n f i
def leafE (n : Nat) (f : Nat → List D) : Option (T (AV × Hp)) := some (T.leaf (AV.c (C.row 0 4 n), [(0, Blk.row n f 4 47)]))
theorem l19 (n : Nat) (f : Nat → List D) (bef : List It) (hn : n ≤ 4000) (hr : RLe icells i0 n f bef) : ∃ n' f', RLe icells i0 n' f' (bef ++ s.bays.map (encBay s)) ∧ L19 s g g n f 0 = leafE n' f' := by
  have hq := hs.nq
  obtain ⟨f', h1, h2⟩ := app_loop (L := fun m n f i => L19 s g m n f i) (K := leafE) (l := s.bays) (d := bay0) (c := icells) (d0 := i0) (ch := fun b => [dI 0, wordsD (bayW s b), dB true, kidsD (encBay s b)]) (e := encBay s) (sz := 4)
    (fun m k n f hk hn => by
      show L19 s g (m + 1) n f k = L19 s g m (n + 1) _ _
      unfold L19
      rw [stpen_22]
      have e1 : okG eSB bFit [AV.agg (List.map C.d (staC s)), AV.agg (List.map C.d (bayC (List.getD s.bays (Int.toNat (k : Int)) bay0)))] = true := by
        rw [tn]
        exact okG_enc eSB_inj (s, s.bays.getD k bay0) (bFit_iff.2 (hs.bays k hk))
      have e2 : theT eSB [AV.agg (List.map C.d (staC s)), AV.agg (List.map C.d (bayC (List.getD s.bays (Int.toNat (k : Int)) bay0)))] = (s, s.bays.getD k bay0) := by
        rw [tn]
        exact theT_enc eSB_inj (s, s.bays.getD k bay0)
      rw [e1, e2]
      simp -implicitDefEqProofs only [lt1 hk, ge0, tt, cond_true, nx hk (by omega), appOk5 hn])
    (fun m n f => by
      show L19 s g (m + 1) n f (s.bays.length : Int) = _
      unfold L19
      rw [stpen_22, lt0 (Nat.lt_irrefl _), cond_false]
      rfl)
    (fun _ => rfl) (fun k hk => bayC_de (x := encBay s (s.bays.getD k bay0)) rfl rfl (.refl _) (.refl _)) g 0 n f bef (by omega) (by omega) (by omega) hr
  simp only [Nat.sub_zero, List.drop_zero] at h1 h2
  exact ⟨_, f', h1, h2⟩
theorem l14 (n : Nat) (f : Nat → List D) (bef : List It) (hn : n ≤ 3000) (hr : RLe icells i0 n f bef) : ∃ n' f', RLe icells i0 n' f' (bef ++ s.srcs.map encSrc ++ s.bays.map (encBay s)) ∧ L14 s g g n f 0 = leafE n' f' := by
  have hq := hs.ns
  obtain ⟨f', h1, h2⟩ := app_loop (L := fun m n f i => L14 s g m n f i) (K := fun n f => L19 s g g n f 0) (l := s.srcs) (d := src0) (c := icells) (d0 := i0) (ch := fun l => sayC [tSource, l.name, dec l.emf, dec l.r1, dec l.x1, dec l.r0, dec l.x0]) (e := encSrc) (sz := 4)
    (fun m k n f hk hn => by
      show L14 s g (m + 1) n f k = L14 s g m (n + 1) _ _
      unfold L14
      have hf := hs.srcs k hk
      rw [stpen_16]
      simp -implicitDefEqProofs only [lt1 hk, ge0, tn, tt, cond_true, nx hk (by omega), appOk5 hn, okN hf.emf, okN hf.r1, okN hf.x1, okN hf.r0, okN hf.x0, dcN]
      generalize Lpen_16 (okD M12) dcD (okG (en1 aSta) okSta) (fun x => chkSta (theT (en1 aSta) x)) (okG eSB bFit) (fun x => wordsD (bayW (theT eSB x).1 (theT eSB x).2)) (fun x => kidsD (encBay (theT eSB x).1 (theT eSB x).2)) s g m = LL
      rfl)
    (fun m n f => by
      show L14 s g (m + 1) n f (s.srcs.length : Int) = _
      unfold L14
      rw [stpen_16, lt0 (Nat.lt_irrefl _), cond_false])
    (fun _ => rfl) (fun k _ => sayC_de _) g 0 n f bef (by omega) (by omega) (by omega) hr
  simp only [Nat.sub_zero, List.drop_zero] at h1 h2
  obtain ⟨n2, f2, k1, k2⟩ := l19 hs g hg _ f' _ (by omega) h1
  exact ⟨n2, f2, k1, h2.trans k2⟩
theorem l9 (n : Nat) (f : Nat → List D) (bef : List It) (hn : n ≤ 2000) (hr : RLe icells i0 n f bef) : ∃ n' f', RLe icells i0 n' f' (bef ++ s.lines.map encLine ++ s.srcs.map encSrc ++ s.bays.map (encBay s)) ∧ L9 s g g n f 0 = leafE n' f' := by
  have hq := hs.nl
  obtain ⟨f', h1, h2⟩ := app_loop (L := fun m n f i => L9 s g m n f i) (K := fun n f => L14 s g g n f 0) (l := s.lines) (d := line0) (c := icells) (d0 := i0) (ch := fun l => sayC [tLine', l.name, dec l.r1, dec l.x1, dec l.r0, dec l.x0]) (e := encLine) (sz := 4)
    (fun m k n f hk hn => by
      show L9 s g (m + 1) n f k = L9 s g m (n + 1) _ _
      unfold L9
      have hf := hs.lines k hk
      rw [stpen_10]
      simp -implicitDefEqProofs only [lt1 hk, ge0, tn, tt, cond_true, nx hk (by omega), appOk5 hn, okN hf.r1, okN hf.x1, okN hf.r0, okN hf.x0, dcN]
      generalize Lpen_10 (okD M12) dcD (okG (en1 aSta) okSta) (fun x => chkSta (theT (en1 aSta) x)) (okG eSB bFit) (fun x => wordsD (bayW (theT eSB x).1 (theT eSB x).2)) (fun x => kidsD (encBay (theT eSB x).1 (theT eSB x).2)) s g m = LL
      rfl)
    (fun m n f => by
      show L9 s g (m + 1) n f (s.lines.length : Int) = _
      unfold L9
      rw [stpen_10, lt0 (Nat.lt_irrefl _), cond_false])
    (fun _ => rfl) (fun k _ => sayC_de _) g 0 n f bef (by omega) (by omega) (by omega) hr
  simp only [Nat.sub_zero, List.drop_zero] at h1 h2
  obtain ⟨n2, f2, k1, k2⟩ := l14 hs g hg _ f' _ (by omega) h1
  exact ⟨n2, f2, k1, h2.trans k2⟩
theorem l5 (n : Nat) (f : Nat → List D) (bef : List It) (hn : n ≤ 1000) (hr : RLe icells i0 n f bef) : ∃ n' f', RLe icells i0 n' f' (bef ++ s.buses.map encBus ++ s.lines.map encLine ++ s.srcs.map encSrc ++ s.bays.map (encBay s)) ∧ L5 s g g n f 0 = leafE n' f' := by
  have hq := hs.nb
  obtain ⟨f', h1, h2⟩ := app_loop (L := fun m n f i => L5 s g m n f i) (K := fun n f => L9 s g g n f 0) (l := s.buses) (d := e0) (c := icells) (d0 := i0) (ch := fun x => sayC [tBus', x]) (e := encBus) (sz := 4)
    (fun m k n f hk hn => by
      show L5 s g (m + 1) n f k = L5 s g m (n + 1) _ _
      unfold L5
      rw [stpen_5]
      simp -implicitDefEqProofs only [lt1 hk, ge0, tn, tt, cond_true, nx hk (by omega), appOk5 hn]
      generalize Lpen_5 (okD M12) dcD (okG (en1 aSta) okSta) (fun x => chkSta (theT (en1 aSta) x)) (okG eSB bFit) (fun x => wordsD (bayW (theT eSB x).1 (theT eSB x).2)) (fun x => kidsD (encBay (theT eSB x).1 (theT eSB x).2)) s g m = LL
      rfl)
    (fun m n f => by
      show L5 s g (m + 1) n f (s.buses.length : Int) = _
      unfold L5
      rw [stpen_5, lt0 (Nat.lt_irrefl _), cond_false])
    (fun _ => rfl) (fun k _ => sayC_de _) g 0 n f bef (by omega) (by omega) (by omega) hr
  simp only [Nat.sub_zero, List.drop_zero] at h1 h2
  obtain ⟨n2, f2, k1, k2⟩ := l9 hs g hg _ f' _ (by omega) h1
  exact ⟨n2, f2, k1, h2.trans k2⟩
end

theorem cpen (hI : ∀ n : Int, 0 ≤ n → n < M12 → CX Tryd.prog 18 [vI n] [] (vS (dec n)) []) (hck : ∀ s, okSta s = true → CX Tryd.prog 15 [aSta s] [] (vI (chkSta s)) []) (s : SSta) (ho : okSta s = true) (h0 : chkSta s = 0) (hs : SFit s) : CX Tryd.prog 7 [aSta s] [] (.c (.d (itemsD (encSta s)))) [] := by
  obtain ⟨g, hg⟩ : ∃ g, 6000 < g := ⟨6001, by omega⟩
  have ev := evpen (okD M12) dcD (okG (en1 aSta) okSta) (fun x => chkSta (theT (en1 aSta) x)) (okG eSB bFit) (fun x => wordsD (bayW (theT eSB x).1 (theT eSB x).2)) (fun x => kidsD (encBay (theT eSB x).1 (theT eSB x).2)) s g
  have e1 : okG (en1 aSta) okSta [AV.agg (List.map C.d (staC s))] = true := okG_enc (en1_inj aSta_inj) s ho
  have e2 : theT (en1 aSta) [AV.agg (List.map C.d (staC s))] = s := theT_enc (en1_inj aSta_inj) s
  rw [e1, e2, h0] at ev
  simp only [cond_true, bne_self_eq_false, cond_false] at ev
  obtain ⟨n', f', h1, h2⟩ := l5 hs g hg 1 _ [say [tStation, s.name]] (by omega) (.one (sz := 4) rfl (sayC_de [tStation, s.name]))
  have hc := (cr_of (sPe hI hck).ok Tryd.func7 bpen rfl (ev.trans h2)).data (y := .c (.d (.sl 4 n' f'))) rfl
  refine (CX.of_cr Tryd.func7 bpen hc).le ?_ (.refl _)
  exact h1.de (sz := 4)
end Go.Proofs.YthmapnolgdpkbaaDoor.pe
namespace Go.Proofs.YthmapnolgdpkbaaDoor.sm
open Go.RowKit Go.Eb

noncomputable def o21 (N : Nat) (sm : List It → List It → Bool) : Orc := Orc.cons 8 (ans2 (fun x y => okI x && okI y && okL (theI x) && okL (theI y) && decide (dep (theI x) < N)) fun x y => vB (sm (theI x) (theI y))) Orc.nil
noncomputable def annsam : Ann := annOf [(4, ⟨[5, 1, 0], []⟩), (9, ⟨[5, 1, 0, 6], []⟩)]
noncomputable def Lsam_4 (N : Nat) (sm : List It → List It → Bool) (l l' : List It) (g m : Nat) (i5 : Int) := LK Tryd.prog (o21 N sm) annsam (List.length (α := Nat × Blk) []) g Tryd.f8 4 m ⟨frm [(0, AV.c (C.d (listD 4 icells i0 l))), (1, AV.c (C.d (listD 4 icells i0 l'))), (5, AV.c (C.d (D.v (Value.int IntKind.i64 i5))))] 0 Tryd.f8.ntmps, [], 0⟩
noncomputable def Lsam_9 (N : Nat) (sm : List It → List It → Bool) (l l' : List It) (g mo m : Nat) (i5 : Int) (i6 : Int) := LK2 Tryd.prog (o21 N sm) annsam (List.length (α := Nat × Blk) []) g Tryd.f8 4 mo 9 m ⟨frm [(0, AV.c (C.d (listD 4 icells i0 l))), (1, AV.c (C.d (listD 4 icells i0 l'))), (5, AV.c (C.d (D.v (Value.int IntKind.i64 i5)))), (6, AV.c (C.d (D.v (Value.int IntKind.i64 i6))))] 0 Tryd.f8.ntmps, [], 0⟩
theorem bsam : Tryd.f8.body = some (bodyOf Tryd.f8) := by kernel_rfl
theorem evsam (N : Nat) (sm : List It → List It → Bool) (l l' : List It) (g : Nat) : callC Tryd.prog (o21 N sm) annsam g Tryd.f8 (bodyOf Tryd.f8) [aI l, aI l'] [] =
 (bif (↑(List.length l) : Int) != (↑(List.length l') : Int) then some (T.leaf (AV.c (.d (.v (.bool false))), [])) else Lsam_4 N sm l l' g g ((0 : Int))) := by kernel_rfl
theorem stsam_4 (N : Nat) (sm : List It → List It → Bool) (l l' : List It) (g m : Nat) (i5 : Int) : Lsam_4 N sm l l' g (m + 1) i5 =
 (bif decide (i5 < (↑(List.length l) : Int)) then (bif decide ((0 : Int) ≤ i5) && decide (i5 < (↑(List.length l) : Int)) then (bif decide ((0 : Int) ≤ i5) && decide (i5 <
 (↑(List.length l') : Int)) then (bif !It.block (List.getD l (Int.toNat i5) i0) == It.block (List.getD l' (Int.toNat i5) i0) then some (T.leaf (AV.c (.d (.v (.bool false))),
 [])) else (bif decide ((0 : Int) ≤ i5) && decide (i5 < (↑(List.length l) : Int)) then (bif decide ((0 : Int) ≤ i5) && decide (i5 < (↑(List.length l') : Int)) then (bif
 (↑(List.length (It.words (List.getD l (Int.toNat i5) i0))) : Int) != (↑(List.length (It.words (List.getD l' (Int.toNat i5) i0))) : Int) then some (T.leaf (AV.c (C.d (D.v (Value.bool
 false))), [])) else (bif decide ((0 : Int) ≤ i5) && decide (i5 < (↑(List.length l) : Int)) then (bif decide ((0 : Int) ≤ i5) && decide (i5 < (↑(List.length l') : Int)) then (bif okI
 (kidsD (List.getD l (Int.toNat i5) i0)) && okI (kidsD (List.getD l' (Int.toNat i5) i0)) && okL (theI (kidsD (List.getD l (Int.toNat i5) i0))) && okL (theI (kidsD (List.getD l'
 (Int.toNat i5) i0))) && decide (dep (theI (kidsD (List.getD l (Int.toNat i5) i0))) < N) then (bif !sm (theI (kidsD (List.getD l (Int.toNat i5) i0))) (theI (kidsD (List.getD l'
 (Int.toNat i5) i0))) then some (T.leaf (AV.c (.d (.v (.bool false))), [])) else Lsam_9 N sm l l' g m g i5 ((0 : Int))) else none) else none) else none)) else none) else
 none)) else none) else none) else some (T.leaf (AV.c (.d (.v (.bool true))), []))) := by kernel_rfl
theorem stsam_9 (N : Nat) (sm : List It → List It → Bool) (l l' : List It) (g mo m : Nat) (i5 : Int) (i6 : Int) : Lsam_9 N sm l l' g mo (m + 1) i5 i6 =
 (bif decide ((0 : Int) ≤ i5) && decide (i5 < (↑(List.length l) : Int)) then (bif decide (i6 < (↑(List.length (It.words (List.getD l (Int.toNat i5) i0))) : Int)) then (bif decide ((0
 : Int) ≤ i5) && decide (i5 < (↑(List.length l) : Int)) then (bif decide ((0 : Int) ≤ i6) && decide (i6 < (↑(List.length (It.words (List.getD l (Int.toNat i5) i0))) : Int)) then (bif
 decide ((0 : Int) ≤ i5) && decide (i5 < (↑(List.length l') : Int)) then (bif decide ((0 : Int) ≤ i6) && decide (i6 < (↑(List.length (It.words (List.getD l' (Int.toNat i5) i0))) :
 Int)) then (bif !(ByteArray.toList (Wd.text (List.getD (It.words (List.getD l (Int.toNat i5) i0)) (Int.toNat i6) w0)) == ByteArray.toList (Wd.text (List.getD (It.words (List.getD l'
 (Int.toNat i5) i0)) (Int.toNat i6) w0)) && (Wd.q (List.getD (It.words (List.getD l (Int.toNat i5) i0)) (Int.toNat i6) w0) == Wd.q (List.getD (It.words (List.getD l' (Int.toNat i5)
 i0)) (Int.toNat i6) w0) && true)) then some (T.leaf (AV.c (.d (.v (.bool false))), [])) else Lsam_9 N sm l l' g mo m i5 (IntKind.wrap IntKind.i64 (i6 + (1 : Int)))) else
 none) else none) else none) else none) else Lsam_4 N sm l l' g mo (IntKind.wrap IntKind.i64 (i5 + (1 : Int)))) else none) := by kernel_rfl
end Go.Proofs.YthmapnolgdpkbaaDoor.sm
namespace Go.Proofs.YthmapnolgdpkbaaDoor.sm
open Go.RowKit Go.Eb
set_option maxRecDepth 100000

theorem drop_cons {α : Type} (l : List α) (d : α) {k : Nat} (h : k < l.length) : l.drop k = l.getD k d :: l.drop (k + 1) := drop_at' h
def eqW1 (a b : Wd) : Bool := a.text.toList == b.text.toList && (a.q == b.q && true)
def eqW : List Wd → List Wd → Bool
  | [], [] => true
  | a :: r, b :: r' => eqW1 a b && eqW r r'
  | _, _ => false
def same : List It → List It → Bool
  | [], [] => true
  | .mk _ w b k :: r, .mk _ w' b' k' :: r' => (b == b') && eqW w w' && same k k' && same r r'
  | _, _ => false
def same1 (x y : It) : Bool := (x.block == y.block) && eqW x.words y.words && same x.kids y.kids
theorem same_cons (x y : It) (r r' : List It) : same (x :: r) (y :: r') = (same1 x y && same r r') := by cases x; cases y; simp only [same, same1, It.block, It.words, It.kids]
theorem eqW_len : ∀ {l l' : List Wd}, eqW l l' = true → l.length = l'.length
  | [], [], _ => rfl
  | _ :: r, _ :: r', h => by simp [eqW] at h; simp [eqW_len h.2]
  | [], _ :: _, h => by simp [eqW] at h
  | _ :: _, [], h => by simp [eqW] at h
theorem same_len : ∀ {l l' : List It}, same l l' = true → l.length = l'.length
  | [], [], _ => rfl
  | x :: r, y :: r', h => by rw [same_cons] at h; simp at h; simp [same_len h.2]
  | [], _ :: _, h => by simp [same] at h
  | _ :: _, [], h => by simp [same] at h

theorem lenne {n m : Nat} : ((n : Int) != (m : Int)) = !decide (n = m) := by
  by_cases h : n = m
  · simp [h]
  · have : ¬ (n : Int) = (m : Int) := by omega
    simp [h, this]

theorem lj21 (N : Nat) (l l' : List It) (g m : Nat) {i : Nat} (hi : i < l.length) (hi' : i < l'.length) (hw : (l.getD i i0).words.length = (l'.getD i i0).words.length) (hb : (l.getD i i0).words.length ≤ 9223372036854775807) (hl : l.length ≤ 9223372036854775807) : ∀ (m1 k : Nat), k ≤ (l.getD i i0).words.length → (l.getD i i0).words.length - k < m1 →
    Lsam_9 N same l l' g m m1 i k = bif eqW ((l.getD i i0).words.drop k) ((l'.getD i i0).words.drop k) then Lsam_4 N same l l' g m ((i + 1 : Nat) : Int) else some (.leaf (vB false, []))
  | 0, k, _, h => by omega
  | m1 + 1, k, hk, h => by
    rw [stsam_9]
    by_cases hlt : k < (l.getD i i0).words.length
    · have hlt' : k < (l'.getD i i0).words.length := by omega
      simp -implicitDefEqProofs only [lt1 hi, lt1 hi', lt1 hlt, lt1 hlt', ge0, tn, tt, cond_true]
      rw [nx hlt hb, lj21 N l l' g m hi hi' hw hb hl m1 (k + 1) (by omega) (by omega), drop_cons (l.getD i i0).words w0 hlt, drop_cons (l'.getD i i0).words w0 hlt']
      simp only [eqW]
      show (bif !eqW1 ((l.getD i i0).words.getD k w0) ((l'.getD i i0).words.getD k w0) then _ else _) = _
      cases eqW1 ((l.getD i i0).words.getD k w0) ((l'.getD i i0).words.getD k w0) <;> rfl
    · simp -implicitDefEqProofs only [lt1 hi, ge0, tn, tt, cond_true, lt0 hlt, cond_false]
      rw [List.drop_of_length_le (by omega), List.drop_of_length_le (by omega), nx hi hl]
      rfl

theorem lp21 (N : Nat) (l l' : List It) (g : Nat) (hg : ∀ i, i < l.length → (l.getD i i0).words.length < g) (hl : l.length = l'.length) (hN : dep l ≤ N) (hL : okL l = true) (hL' : okL l' = true) : ∀ (m k : Nat), k ≤ l.length → l.length - k < m →
    Lsam_4 N same l l' g m k = some (.leaf (vB (same (l.drop k) (l'.drop k)), []))
  | 0, k, _, h => by omega
  | m + 1, k, hk, h => by
    rw [stsam_4]
    by_cases hlt : k < l.length
    · have hlt' : k < l'.length := by omega
      have hd := dep_get l k hlt
      obtain ⟨ho, hw⟩ := okL_get hL hlt
      obtain ⟨ho', hw'⟩ := okL_get hL' hlt'
      have hdd : decide (dep (l.getD k i0).kids < N) = true := decide_eq_true (by omega)
      simp -implicitDefEqProofs only [lt1 hlt, lt1 hlt', ge0, tn, tt, cond_true, okI_kids, theI_kids, ho, ho', hdd, lenne]
      rw [drop_cons l i0 hlt, drop_cons l' i0 hlt', same_cons, same1]
      by_cases hwl : (l.getD k i0).words.length = (l'.getD k i0).words.length
      · have hj := lj21 N l l' g m hlt hlt' hwl (okWs_len hw) (okL_len hL) g 0 (by omega) (by have := hg k hlt; omega)
        have hj' : Lsam_9 N same l l' g m g (k : Int) 0 = _ := hj
        rw [hj', lp21 N l l' g hg hl hN hL hL' m (k + 1) (by omega) (by omega)]
        simp only [hwl, decide_true, Bool.not_true, cond_false, List.drop_zero]
        cases ((l.getD k i0).block == (l'.getD k i0).block) <;> cases eqW (l.getD k i0).words (l'.getD k i0).words <;> cases same (l.getD k i0).kids (l'.getD k i0).kids <;> rfl
      · have e : eqW (l.getD k i0).words (l'.getD k i0).words = false := by
          cases he : eqW (l.getD k i0).words (l'.getD k i0).words with
          | false => rfl
          | true => exact absurd (eqW_len he) hwl
        simp only [hwl, decide_false, Bool.not_false, cond_true, e]
        cases ((l.getD k i0).block == (l'.getD k i0).block) <;> rfl
    · rw [lt0 hlt, List.drop_of_length_le (by omega), List.drop_of_length_le (by omega)]
      simp only [cond_false, same]

def wmax : List It → Nat
  | [] => 0
  | x :: r => max x.words.length (wmax r)
theorem wmax_le : ∀ (l : List It) (i : Nat), i < l.length → (l.getD i i0).words.length ≤ wmax l
  | [], i, h => by simp at h
  | x :: r, 0, _ => by simp only [List.getD_cons_zero, wmax]; omega
  | x :: r, i + 1, h => by simp only [List.getD_cons_succ, wmax]; have := wmax_le r i (by simpa using h); omega

theorem c21 : ∀ (N : Nat) (l l' : List It), dep l < N → okL l = true → okL l' = true → CX Tryd.prog 8 [aI l, aI l'] [] (vB (same l l')) []
  | 0, l, l', h, _, _ => by omega
  | N + 1, l, l', h, hL, hL' => by
    have ho : OrcOk Tryd.prog (o21 N same) := Orc.cons_ok (Orc.nil_ok _) (ans2_ok fun x y hx => by
      simp only [Bool.and_eq_true, decide_eq_true_eq] at hx
      exact (c21 N (theI x) (theI y) hx.2 hx.1.1.2 hx.1.2).ge (asle2 (theI_de hx.1.1.1.1) (theI_de hx.1.1.1.2)) .nil)
    refine cx_of ho Tryd.func8 bsam rfl ((evsam N same l l' (l.length + wmax l + 1)).trans ?_)
    rw [lenne]
    by_cases hl : l.length = l'.length
    · simp only [hl, decide_true, Bool.not_true, cond_false]
      rw [← hl]
      exact lp21 N l l' (l.length + wmax l + 1) (fun i hi => by have := wmax_le l i hi; omega) hl (by omega) hL hL' (l.length + wmax l + 1) 0 (by omega) (by omega)
    · have e : same l l' = false := by
        cases he : same l l' with
        | false => rfl
        | true => exact absurd (same_len he) hl
      simp [hl, e]
theorem eqW_refl : ∀ l : List Wd, eqW l l = true
  | [] => rfl
  | a :: r => by
    show (eqW1 a a && eqW r r) = true
    rw [eqW_refl r]
    unfold eqW1
    simp only [beq_self_eq_true, Bool.and_self]
theorem same_refl : ∀ l : List It, same l l = true
  | [] => by simp only [same]
  | .mk a w b k :: r => by simp only [same, eqW_refl, same_refl k, same_refl r, beq_self_eq_true, Bool.and_self]
end Go.Proofs.YthmapnolgdpkbaaDoor.sm
namespace Go.Proofs.YthmapnolgdpkbaaDoor.ito
open Go.Shelf
def lays171_ren : Go.Shelf.Ren := ⟨fun | 171 => 18 | 243 => 48 | 246 => 74 | 283 => 83 | 284 => 84 | 285 => 85 | 286 => 86 | 129 => 96 | 317 => 95 | 318 => 97 | 319 => 98 | 320 => 99 | 337 => 102 | 338 => 103 | n => n, fun | 3 => 3 | 9 => 9 | 2 => 2 | 4 => 4 | 171 => 124 | 0 => 0 | 53 => 125 | 37 => 117 | 5 => 5 | 173 => 128 | 212 => 139 | 51 => 140 | 20 => 20 | 213 => 141 | 46 => 143 | 232 => 148 | 233 => 149 | n => n, fun | 17 => 0 | 18 => 1 | 19 => 2 | n => n⟩
theorem lays171 : Go.Proofs.LaysM.n171 Tryd.prog lays171_ren := {
  mixed := by kernel_rfl
  f129 := Tryd.func96.trans (congrArg some (by kernel_rfl))
  f171 := Tryd.func18.trans (congrArg some (by kernel_rfl))
  f243 := Tryd.func48.trans (congrArg some (by kernel_rfl))
  f246 := Tryd.func74.trans (congrArg some (by kernel_rfl))
  f283 := Tryd.func83.trans (congrArg some (by kernel_rfl))
  f284 := Tryd.func84.trans (congrArg some (by kernel_rfl))
  f285 := Tryd.func85.trans (congrArg some (by kernel_rfl))
  f286 := Tryd.func86.trans (congrArg some (by kernel_rfl))
  f317 := Tryd.func95.trans (congrArg some (by kernel_rfl))
  f318 := Tryd.func97.trans (congrArg some (by kernel_rfl))
  f319 := Tryd.func98.trans (congrArg some (by kernel_rfl))
  f320 := Tryd.func99.trans (congrArg some (by kernel_rfl))
  f337 := Tryd.func102.trans (congrArg some (by kernel_rfl))
  f338 := Tryd.func103.trans (congrArg some (by kernel_rfl))
  t0 := Tryd.underlying0
  a0 := Tryd.isAgg0
  z0 := Tryd.sizeOf0
  v0 := Tryd.zeroValue0
  t2 := Tryd.underlying2
  a2 := Tryd.isAgg2
  z2 := Tryd.sizeOf2
  v2 := Tryd.zeroValue2
  t3 := Tryd.underlying3
  a3 := Tryd.isAgg3
  z3 := Tryd.sizeOf3
  v3 := Tryd.zeroValue3
  t4 := Tryd.underlying4
  a4 := Tryd.isAgg4
  z4 := Tryd.sizeOf4
  v4 := Tryd.zeroValue4
  t5 := Tryd.underlying5
  a5 := Tryd.isAgg5
  z5 := Tryd.sizeOf5
  v5 := Tryd.zeroValue5
  t9 := Tryd.underlying9
  a9 := Tryd.isAgg9
  z9 := Tryd.sizeOf9
  v9 := Tryd.zeroValue9
  t20 := Tryd.underlying20
  a20 := Tryd.isAgg20
  z20 := Tryd.sizeOf20
  v20 := Tryd.zeroValue20
  t37 := Tryd.underlying117
  a37 := Tryd.isAgg117
  z37 := Tryd.sizeOf117
  v37 := Tryd.zeroValue117
  t46 := Tryd.underlying143
  a46 := Tryd.isAgg143
  z46 := Tryd.sizeOf143
  v46 := Tryd.zeroValue143
  t51 := Tryd.underlying140
  a51 := Tryd.isAgg140
  z51 := Tryd.sizeOf140
  v51 := Tryd.zeroValue140
  t53 := Tryd.underlying125
  a53 := Tryd.isAgg125
  z53 := Tryd.sizeOf125
  v53 := Tryd.zeroValue125
  t171 := Tryd.underlying124
  a171 := Tryd.isAgg124
  z171 := Tryd.sizeOf124
  v171 := Tryd.zeroValue124
  t173 := Tryd.underlying128
  a173 := Tryd.isAgg128
  z173 := Tryd.sizeOf128
  v173 := Tryd.zeroValue128
  t212 := Tryd.underlying139
  a212 := Tryd.isAgg139
  z212 := Tryd.sizeOf139
  v212 := Tryd.zeroValue139
  t213 := Tryd.underlying141
  a213 := Tryd.isAgg141
  z213 := Tryd.sizeOf141
  t232 := Tryd.underlying148
  a232 := Tryd.isAgg148
  z232 := Tryd.sizeOf148
  v232 := Tryd.zeroValue148
  t233 := Tryd.underlying149
  a233 := Tryd.isAgg149
  z233 := Tryd.sizeOf149
  v233 := Tryd.zeroValue149
  g17 := by kernel_rfl
  g18 := by kernel_rfl
  g19 := by kernel_rfl
  i0 := by kernel_rfl
  i2 := by kernel_rfl
  i3 := by kernel_rfl
  i4 := by kernel_rfl
  i5 := by kernel_rfl
  i9 := by kernel_rfl
  i20 := by kernel_rfl
  i37 := by kernel_rfl
  i46 := by kernel_rfl
  i51 := by kernel_rfl
  i53 := by kernel_rfl
  i171 := by kernel_rfl
  i173 := by kernel_rfl
  i212 := by kernel_rfl
  i232 := by kernel_rfl
  i233 := by kernel_rfl
  m17 := by kernel_rfl
  m18 := by kernel_rfl
  m19 := by kernel_rfl }

end Go.Proofs.YthmapnolgdpkbaaDoor.ito
namespace Go.Proofs.YthmapnolgdpkbaaDoor.ito
open Go.RowKit Go.Eb
set_option maxRecDepth 100000

theorem digits_dec (u : Nat) : decB u = ⟨(Lib.decDigits u).toArray⟩ := by
  induction u using Nat.strongRecOn with
  | ind u ih =>
    rw [Lib.decDigits]
    by_cases h : u < 10
    · rw [dif_pos h, decB_lt h]
    · rw [dif_neg h, decB_ge h, ih (u / 10) (by omega), decB_lt (by omega)]
      apply ByteArray.ext
      rw [ByteArray.data_append]
      simp
theorem itoa_dec {n : Int} (h : 0 ≤ n) : (⟨(Lib.itoa n).toArray⟩ : ByteArray) = dec n := by
  unfold Lib.itoa dec
  rw [if_neg (by omega), digits_dec]
def tab : Array Value := (Lib.pow10Tab.map fun z => Value.int .u64 z).toArray
theorem tab_size : tab.size = 20 := by simp [tab, Lib.pow10Tab]
theorem tab_get (i : Nat) (h : i < 20) : tab[i]? = some (.int .u64 ((10 ^ i : Nat) : Int)) := by
  simp [tab, Lib.pow10Tab, h]
theorem glob_at {I : Im} {w : World} (hg : Glob I w) (i : Nat) (h : i < 21) : w.cell? ⟨0, i, none⟩ = (bif Nat.blt i 20 then some (.int .u64 ((10 ^ i : Nat) : Int)) else none) := by
  have := hg (0, i, bif Nat.blt i 20 then some (.int .u64 ((10 ^ i : Nat) : Int)) else none) (by
    unfold gcells
    exact List.mem_map.2 ⟨i, List.mem_range.2 h, rfl⟩)
  exact this.2
theorem tab_of {I : Im} {w : World} (hg : Glob I w) : ∃ t fz, w.heap[0]? = some (.cells tab t fz) := by
  have h0 := glob_at hg 0 (by omega)
  rw [show (bif Nat.blt 0 20 then some (Value.int .u64 ((10 ^ 0 : Nat) : Int)) else none) = some (Value.int .u64 1) from rfl] at h0
  have hc : ∀ {c : Array Value} {t : TypeId} {fz : Nat × Nat}, w.heap[0]? = some (.cells c t fz) → ∀ i, w.cell? ⟨0, i, none⟩ = c[i]? := fun hh i => by
    unfold World.cell?
    rw [hh]
    rfl
  cases hh : w.heap[0]? with
  | none => unfold World.cell? at h0; rw [hh] at h0; cases h0
  | some o =>
    cases o with
    | cells c t fz =>
      refine ⟨t, fz, ?_⟩
      have e : c = tab := by
        apply Array.ext_getElem?
        intro i
        by_cases h : i < 20
        · have := glob_at hg i (by omega)
          rw [hc hh, bltD, decide_eq_true h] at this
          rw [this, tab_get i h]
          rfl
        · have := glob_at hg 20 (by omega)
          rw [hc hh] at this
          have h20 : c[20]? = none := this
          have hs : c.size ≤ 20 := by simpa using h20
          rw [Array.getElem?_eq_none (by omega), Array.getElem?_eq_none (by rw [tab_size]; omega)]
      rw [e]
    | _ => unfold World.cell? at h0; rw [hh] at h0; cases h0
theorem grow_at (w : World) (k : Nat) (os : Array Obj) {b : Nat} (h : b < w.heap.size) : (Sort.grow (w.drewN k) os).heap[b]? = w.heap[b]? := by
  show (w.heap ++ os)[b]? = _
  rw [Array.getElem?_append, if_pos h]
theorem grow_cell (w : World) (k : Nat) (os : Array Obj) {b o : Nat} (h : b < w.heap.size) : (Sort.grow (w.drewN k) os).cell? ⟨b, o, none⟩ = w.cell? ⟨b, o, none⟩ := by
  unfold World.cell?
  rw [grow_at w k os h]
theorem cItoa (n : Int) (h0 : 0 ≤ n) (h1 : n < 1000000000000) : CX Tryd.prog 18 [vI n] [] (vS (dec n)) [] := by
  refine CX.of_cr Tryd.func18 (by kernel_rfl : Tryd.f18.body = some (bodyOf Tryd.f18)) ?_
  intro β I w vs hr ha
  obtain ⟨hl, hv⟩ := ha
  have hs : vs.size = 1 := by rw [← hl]; rfl
  obtain ⟨v, rfl⟩ : ∃ v, vs = #[v] := by
    refine ⟨vs[0]'(by omega), ?_⟩
    apply Array.ext
    · simp [hs]
    · intro i h1 h2
      have : i = 0 := by omega
      subst this
      rfl
  have hx : RepA β w I (vI n) v := hv 0 _ v rfl (by simp)
  have hd : RepD w I (.v (.int .i64 n)) v := hx
  obtain rfl := RepD.v_eq hd
  obtain ⟨t, fz, hh⟩ := tab_of hr.gl
  have hi : ∀ h, β h = .free := fun h => hr.dom h rfl
  refine (Any.strconv_Itoa lays171 n (by omega) (by omega) w ?_).mono ?_
  · unfold Lib.TabIs World.var?
    refine Eq.trans (congrArg (fun o => Option.bind o _) (?_ : _ = some 0)) ?_
    · kernel_rfl
    · show (match w.heap[0]? with | some (.cells cs _ _) => some cs | _ => none) = _
      rw [hh]
      rfl
  · rintro e w' ⟨rfl, k, os, rfl⟩
    have hsz : w.heap.size ≤ (Sort.grow (w.drewN k) os).heap.size := by
      show _ ≤ (w.heap ++ os).size
      simp
    have hE : Ext β I β I w (Sort.grow (w.drewN k) os) := ⟨rfl, rfl, rfl, hsz, fun b hb _ => grow_at w k os hb, fun _ _ hi => hi, fun b o hi => grow_cell w k os (hr.old b o hi), fun _ _ hi => .inl hi, fun x b hb => .inl ⟨x, hb⟩, fun b vs t fz hb => ⟨vs, fz, by rw [grow_at w k os (Array.getElem?_eq_some_iff.1 hb).1]; exact hb, rfl⟩⟩
    refine ⟨_, β, I, rfl, ⟨⟨hr.inj, fun h b hb => Nat.lt_of_lt_of_le (hr.lt h b hb) hsz, hr.off, fun b o hi => Nat.lt_of_lt_of_le (hr.old b o hi) hsz, hr.gl.step (fun _ _ hi => hi) hE.cell⟩, hr.dom, fun h B hB => by have hB' : (none : Option Blk) = some B := hB; cases hB'⟩, ?_, hE, .refl β⟩
    rw [itoa_dec h0]
    exact RepD.v _ rfl
end Go.Proofs.YthmapnolgdpkbaaDoor.ito
namespace Go.Proofs.YthmapnolgdpkbaaDoor.de
open Go.RowKit Go.Eb Go.Proofs.YthmapnolgdpkbaaDoor.st
set_option maxRecDepth 100000

noncomputable def oLw (okl lg okc : List AV → Bool) (ck : List AV → Int) (oke : List AV → Bool) (en : List AV → List It) (r : Orc) : Orc := Orc.cons 5 (ansP dec0 fun _ => vB true) (Orc.cons 6 (ansG okl fun x => vB (lg x)) (Orc.cons 10 (ansG okc fun x => vI (ck x)) (Orc.cons 7 (ansG oke fun x => .c (.d (itemsD (en x)))) r)))
noncomputable def oEL (okl lg okc : List AV → Bool) (ck : List AV → Int) (oke : List AV → Bool) (en : List AV → List It) (okS : List AV → Bool) : Orc := oLw okl lg okc ck oke en (Orc.cons 9 (ansG oke fun x => .c (.d (itemsD (en x)))) (Orc.cons 8 (ansG okS fun _ => vB true) Orc.nil))
noncomputable def annenl : Ann := annOf []
theorem benl : Tryd.f3.body = some (bodyOf Tryd.f3) := by kernel_rfl
theorem evenl (okl lg okc : List AV → Bool) (ck : List AV → Int) (oke : List AV → Bool) (en : List AV → List It) (okS : List AV → Bool) (s : SSta) (g : Nat) : callC Tryd.prog (oEL okl lg okc ck oke en okS) annenl g Tryd.f3 (bodyOf Tryd.f3) [aSta s] [] =
 (bif okl [AV.agg (List.map C.d (staC s))] then (bif lg [AV.agg (List.map C.d (staC s))] then some (T.leaf (AV.c (.d (.v (.bool true))), [])) else (bif oke [AV.agg (List.map
 C.d (staC s))] then (bif oke [AV.agg (List.map C.d (staC s))] then (bif okS [AV.c (C.d (listD (4) icells i0 (en [AV.agg (List.map C.d (staC s))]))), AV.c (C.d (listD ((4 :
 Nat)) icells i0 (en [AV.agg (List.map C.d (staC s))])))] then (bif okc [AV.agg (List.map C.d (staC s))] then some (T.leaf (AV.c (.d (.v (.bool ((ck [AV.agg (List.map C.d
 (staC s))] == (0 : Int)) == decide ((↑(List.length (en [AV.agg (List.map C.d (staC s))])) : Int) > (0 : Int)))))), [])) else none) else none) else none) else none)) else none) := by kernel_rfl
end Go.Proofs.YthmapnolgdpkbaaDoor.de
namespace Go.Proofs.YthmapnolgdpkbaaDoor.st
open Go.RowKit Go.Eb

end Go.Proofs.YthmapnolgdpkbaaDoor.st
namespace Go.Proofs.YthmapnolgdpkbaaDoor.st
open Go.RowKit Go.Eb

end Go.Proofs.YthmapnolgdpkbaaDoor.st
namespace Go.Proofs.YthmapnolgdpkbaaDoor.st
open Go.RowKit Go.Eb

end Go.Proofs.YthmapnolgdpkbaaDoor.st
namespace Go.Proofs.YthmapnolgdpkbaaDoor.st
open Go.RowKit Go.Eb

end Go.Proofs.YthmapnolgdpkbaaDoor.st
namespace Go.Proofs.YthmapnolgdpkbaaDoor.st
open Go.RowKit Go.Eb

end Go.Proofs.YthmapnolgdpkbaaDoor.st
namespace Go.Proofs.YthmapnolgdpkbaaDoor.st
open Go.RowKit Go.Eb

abbrev nilC : C := .d (.v (.slice none 0 0))
noncomputable def oNm (nk : ByteArray → Bool) : Orc := Orc.cons 39 (ansP decS fun s => vB (nk s)) Orc.nil
noncomputable def oNam (nk : ByteArray → Bool) : Orc := Orc.cons 69 (inl Tryd.prog (oNm nk) na 1 Tryd.f69) Orc.nil
noncomputable def o26 (nk : ByteArray → Bool) : Orc := Orc.cons 41 (inl Tryd.prog (oNam nk) na 1 Tryd.f41) Orc.nil
noncomputable def oWi : Orc := Orc.cons 71 (inl Tryd.prog Orc.nil na 1 Tryd.f71) Orc.nil
noncomputable def oIm (nk : ByteArray → Bool) : Orc := Orc.cons 70 (inl Tryd.prog oWi na 1 Tryd.f70) (Orc.cons 71 (inl Tryd.prog Orc.nil na 1 Tryd.f71) (oNam nk))
noncomputable def o28 (nk : ByteArray → Bool) : Orc := Orc.cons 43 (inl Tryd.prog (oIm nk) na 1 Tryd.f43) Orc.nil
noncomputable def o30 (nk : ByteArray → Bool) : Orc := Orc.cons 45 (inl Tryd.prog (oIm nk) na 1 Tryd.f45) Orc.nil
abbrev fnOf (f : FuncId) : AV := .c (.fn f [.ptr 0 0] [])
abbrev H1 (s0 : ByteArray) (mpa : List (Value × Value)) : Hp := [(0, .cells [.d (dS s0), nilC, nilC, nilC, nilC, .mp 1] 69), (1, .map 0 mpa)]
abbrev H1' (s0 : ByteArray) (mpa : List (Value × Value)) (ka : Nat) (ga : Nat → List D) : Hp := [(0, .cells [.d (dS s0), .row 2 1 ka, nilC, nilC, nilC, .mp 1] 69), (1, .map 0 mpa), (2, .row ka ga 1 9)]
abbrev H2 (s0 : ByteArray) (ka : Nat) (ga : Nat → List D) (mpa : List (Value × Value)) : Hp := [(0, .cells [.d (dS s0), .row 1 1 ka, nilC, nilC, nilC, .mp 2] 69), (1, .row ka ga 1 9), (2, .map 0 mpa)]
abbrev H2' (s0 : ByteArray) (ka : Nat) (ga : Nat → List D) (mpa : List (Value × Value)) (kb : Nat) (gb : Nat → List D) : Hp := [(0, .cells [.d (dS s0), .row 1 1 ka, .row 3 5 kb, nilC, nilC, .mp 2] 69), (1, .row ka ga 1 9), (2, .map 0 mpa), (3, .row kb gb 5 50)]
abbrev H3 (s0 : ByteArray) (ka : Nat) (ga : Nat → List D) (kb : Nat) (gb : Nat → List D) (mpa : List (Value × Value)) : Hp := [(0, .cells [.d (dS s0), .row 1 1 ka, .row 2 5 kb, nilC, nilC, .mp 3] 69), (1, .row ka ga 1 9), (2, .row kb gb 5 50), (3, .map 0 mpa)]
abbrev H3' (s0 : ByteArray) (ka : Nat) (ga : Nat → List D) (kb : Nat) (gb : Nat → List D) (mpa : List (Value × Value)) (kc : Nat) (gc : Nat → List D) : Hp := [(0, .cells [.d (dS s0), .row 1 1 ka, .row 2 5 kb, .row 4 6 kc, nilC, .mp 3] 69), (1, .row ka ga 1 9), (2, .row kb gb 5 50), (3, .map 0 mpa), (4, .row kc gc 6 53)]
abbrev H4 (s0 : ByteArray) (ka : Nat) (ga : Nat → List D) (kb : Nat) (gb : Nat → List D) (kc : Nat) (gc : Nat → List D) (mpa : List (Value × Value)) : Hp := [(0, .cells [.d (dS s0), .row 1 1 ka, .row 2 5 kb, .row 3 6 kc, nilC, .mp 4] 69), (1, .row ka ga 1 9), (2, .row kb gb 5 50), (3, .row kc gc 6 53), (4, .map 0 mpa)]
abbrev H4' (s0 : ByteArray) (ka : Nat) (ga : Nat → List D) (kb : Nat) (gb : Nat → List D) (kc : Nat) (gc : Nat → List D) (mpa : List (Value × Value)) (kd : Nat) (gd : Nat → List D) : Hp := [(0, .cells [.d (dS s0), .row 1 1 ka, .row 2 5 kb, .row 3 6 kc, .row 5 12 kd, .mp 4] 69), (1, .row ka ga 1 9), (2, .row kb gb 5 50), (3, .row kc gc 6 53), (4, .map 0 mpa), (5, .row kd gd 12 44)]
abbrev H5 (s0 : ByteArray) (ka : Nat) (ga : Nat → List D) (kb : Nat) (gb : Nat → List D) (kc : Nat) (gc : Nat → List D) (kd : Nat) (gd : Nat → List D) (mpa : List (Value × Value)) : Hp := [(0, .cells [.d (dS s0), .row 1 1 ka, .row 2 5 kb, .row 3 6 kc, .row 4 12 kd, .mp 5] 69), (1, .row ka ga 1 9), (2, .row kb gb 5 50), (3, .row kc gc 6 53), (4, .row kd gd 12 44), (5, .map 0 mpa)]
noncomputable def ann26 : Ann := annOf [(2, ⟨[1, 8, 9, 10], [(1, 1, 1, 9)]⟩)]
noncomputable def L26_2 (nk : ByteArray → Bool) (l : List ByteArray) (s0 : ByteArray) (mpa : List (Value × Value)) (g m : Nat) (l1 : List (Value × Value)) (n2 : Nat) (f2 : Nat → List D) (i10 : Int) := LK Tryd.prog (o26 nk) ann26 (List.length (α := Nat × Blk) [(0, .cells [.d (dS s0), nilC, nilC, nilC, nilC, .mp 1] 69), (1, .map 0 mpa)]) g Tryd.f40 2 m ⟨frm [(1, AV.c (C.fn 41 [Rf.ptr 0 0] [])), (8, AV.c (C.d (D.sl 1 (List.length l) fun i => busC (List.getD l i e0)))), (9, AV.c (C.d (D.v (Value.int IntKind.i64 (↑(List.length l) : Int))))), (10, AV.c (C.d (D.v (Value.int IntKind.i64 i10))))] 0 Tryd.f40.ntmps, [(0, Blk.cells [C.d (D.v (Value.string s0)), C.row 2 1 n2, C.d (D.v (Value.slice none (0 : Nat) (0 : Nat))), C.d (D.v (Value.slice none (0 : Nat) (0 : Nat))), C.d (D.v (Value.slice none (0 : Nat) (0 : Nat))), C.mp 1] 69), (1, Blk.map 0 l1), (2, Blk.row n2 f2 1 9)], 3⟩
theorem b26 : Tryd.f40.body = some (bodyOf Tryd.f40) := by kernel_rfl
theorem ev26 (nk : ByteArray → Bool) (l : List ByteArray) (s0 : ByteArray) (mpa : List (Value × Value)) (g : Nat) : callC Tryd.prog (o26 nk) ann26 g Tryd.f40 (bodyOf Tryd.f40) [.c (.d (busesD l)), fnOf 41] [(0, .cells [.d (dS s0), nilC, nilC, nilC, nilC, .mp 1] 69), (1, .map 0 mpa)] =
 L26_2 nk l s0 mpa g g mpa 0 (fun x => []) ((0 : Int)) := by kernel_rfl
theorem st26_2 (nk : ByteArray → Bool) (l : List ByteArray) (s0 : ByteArray) (mpa : List (Value × Value)) (g m : Nat) (l1 : List (Value × Value)) (n2 : Nat) (f2 : Nat → List D) (i10 : Int) : L26_2 nk l s0 mpa g (m + 1) l1 n2 f2 i10 =
 (bif decide (i10 < (↑(List.length l) : Int)) then (bif decide ((0 : Int) ≤ i10) && decide (i10 < (↑(List.length l) : Int)) then (bif !nk (List.getD l (Int.toNat i10) e0) then some
 (T.leaf (AV.c (.d (.v (.int .i64 (7 : Int)))), [(0, Blk.cells [C.d (.v (.string s0)), C.row (2) (1) n2, C.d (D.v (Value.slice none (0 :
 Nat) 0)), C.d (.v (.slice none 0 0)), C.d (.v (.slice none 0 0)), C.mp (1)] (69)), (1, Blk.map ((0 :
 Nat)) l1), (2, Blk.row n2 f2 (1) (9))])) else (bif boolOf (assoc l1 (Value.string (List.getD l (Int.toNat i10) e0))) then some (T.leaf (AV.c (C.d (D.v
 (Value.int IntKind.i64 (8 : Int)))), [(0, Blk.cells [C.d (.v (.string s0)), C.row (2) (1) n2, C.d (.v (.slice none 0 0)), C.d
 (D.v (.slice none 0 0)), C.d (.v (.slice none 0 0)), C.mp (1)] (69)), (1, Blk.map (0) l1), (2,
 Blk.row n2 f2 (1) (9))])) else (bif decide ((n2 + 1) * 16 ≤ 140737488355328) && decide (n2 + 1 ≤ 9223372036854775807) then
 L26_2 nk l s0 mpa g m ((Value.string (List.getD l (Int.toNat i10) e0), Value.bool true) :: l1) (n2 + 1) (appF n2 f2 (chunk [dS (List.getD l (Int.toNat i10) e0)] (0 +
 1))) (IntKind.wrap IntKind.i64 (i10 + (1 : Int))) else none))) else none) else some (T.leaf (AV.c (.d (.v (.int .i64 (0 : Int)))), [(0, Blk.cells [C.d
 (D.v (.string s0)), C.row (2) (1) n2, C.d (.v (.slice none 0 0)), C.d (.v (.slice none 0 0)), C.d (D.v (Value.slice
 none 0 0)), C.mp (1)] (69)), (1, Blk.map (0) l1), (2, Blk.row n2 f2 (1) (9))]))) := by kernel_rfl
noncomputable def ann28 : Ann := annOf [(2, ⟨[1, 8, 9, 10], [(1, 2, 5, 50)]⟩)]
noncomputable def L28_2 (nk : ByteArray → Bool) (l : List SLine) (s0 : ByteArray) (ka : Nat) (ga : Nat → List D) (mpa : List (Value × Value)) (g m : Nat) (l2 : List (Value × Value)) (n3 : Nat) (f3 : Nat → List D) (i10 : Int) := LK Tryd.prog (o28 nk) ann28 (List.length (α := Nat × Blk) [(0, .cells [.d (dS s0), .row 1 1 ka, nilC, nilC, nilC, .mp 2] 69), (1, .row ka ga 1 9), (2, .map 0 mpa)]) g Tryd.f42 2 m ⟨frm [(1, AV.c (C.fn 43 [Rf.ptr 0 0] [])), (8, AV.c (C.d (D.sl 5 (List.length l) fun i => lineC (List.getD l i line0)))), (9, AV.c (C.d (D.v (Value.int IntKind.i64 (↑(List.length l) : Int))))), (10, AV.c (C.d (D.v (Value.int IntKind.i64 i10))))] 0 Tryd.f42.ntmps, [(0, Blk.cells [C.d (D.v (Value.string s0)), C.row 1 1 ka, C.row 3 5 n3, C.d (D.v (Value.slice none (0 : Nat) (0 : Nat))), C.d (D.v (Value.slice none (0 : Nat) (0 : Nat))), C.mp 2] 69), (1, Blk.row ka ga 1 9), (2, Blk.map 0 l2), (3, Blk.row n3 f3 5 50)], 4⟩
theorem b28 : Tryd.f42.body = some (bodyOf Tryd.f42) := by kernel_rfl
theorem ev28 (nk : ByteArray → Bool) (l : List SLine) (s0 : ByteArray) (ka : Nat) (ga : Nat → List D) (mpa : List (Value × Value)) (g : Nat) : callC Tryd.prog (o28 nk) ann28 g Tryd.f42 (bodyOf Tryd.f42) [.c (.d (linesD l)), fnOf 43] [(0, .cells [.d (dS s0), .row 1 1 ka, nilC, nilC, nilC, .mp 2] 69), (1, .row ka ga 1 9), (2, .map 0 mpa)] =
 L28_2 nk l s0 ka ga mpa g g mpa 0 (fun x => []) ((0 : Int)) := by kernel_rfl
theorem st28_2 (nk : ByteArray → Bool) (l : List SLine) (s0 : ByteArray) (ka : Nat) (ga : Nat → List D) (mpa : List (Value × Value)) (g m : Nat) (l2 : List (Value × Value)) (n3 : Nat) (f3 : Nat → List D) (i10 : Int) : L28_2 nk l s0 ka ga mpa g (m + 1) l2 n3 f3 i10 =
 (bif decide (i10 < (↑(List.length l) : Int)) then (bif decide ((0 : Int) ≤ i10) && decide (i10 < (↑(List.length l) : Int)) then (bif !nk (SLine.name (List.getD l (Int.toNat i10)
 line0)) then some (T.leaf (AV.c (.d (.v (.int .i64 (7 : Int)))), [(0, Blk.cells [C.d (.v (.string s0)), C.row (1) (1) ka, C.row ((3 :
 Nat)) (5) n3, C.d (.v (.slice none 0 0)), C.d (.v (.slice none 0 0)), C.mp (2)] (69)), (1, Blk.row ka ga
 (1) (9)), (2, Blk.map (0) l2), (3, Blk.row n3 f3 (5) (50))])) else (bif boolOf (assoc l2 (Value.string (SLine.name (List.getD
 l (Int.toNat i10) line0)))) then some (T.leaf (AV.c (.d (.v (.int .i64 (8 : Int)))), [(0, Blk.cells [C.d (.v (.string s0)), C.row (1) (1)
 ka, C.row (3) (5) n3, C.d (.v (.slice none 0 0)), C.d (.v (.slice none 0 0)), C.mp (2)] (69)), ((1 :
 Nat), Blk.row ka ga (1) (9)), (2, Blk.map (0) l2), (3, Blk.row n3 f3 (5) (50))])) else (bif decide (SLine.r1 (List.getD l
 (Int.toNat i10) line0) ≥ (0 : Int)) then (bif decide (SLine.r1 (List.getD l (Int.toNat i10) line0) ≤ (1000 : Int)) then (bif decide (SLine.x1 (List.getD l (Int.toNat i10) line0) ≥
 (1 : Int)) then (bif !decide (SLine.x1 (List.getD l (Int.toNat i10) line0) ≤ (1000 : Int)) then some (T.leaf (AV.c (.d (.v (.int .i64 (2 : Int)))), [(0,
 Blk.cells [C.d (.v (.string s0)), C.row (1) (1) ka, C.row (3) (5) n3, C.d (.v (.slice none 0 0)), C.d (D.v (Value.slice
 none 0 0)), C.mp (2)] (69)), (1, Blk.row ka ga (1) (9)), (2, Blk.map (0) l2), (3, Blk.row n3 f3 ((5 :
 Nat)) (50))])) else (bif decide (SLine.r0 (List.getD l (Int.toNat i10) line0) ≥ (0 : Int)) then (bif decide (SLine.r0 (List.getD l (Int.toNat i10) line0) ≤ (1000 : Int))
 then (bif decide (SLine.x0 (List.getD l (Int.toNat i10) line0) ≥ (1 : Int)) then (bif !decide (SLine.x0 (List.getD l (Int.toNat i10) line0) ≤ (1000 : Int)) then some (T.leaf (AV.c
 (C.d (.v (.int .i64 (2 : Int)))), [(0, Blk.cells [C.d (.v (.string s0)), C.row (1) (1) ka, C.row (3) (5) n3, C.d (D.v
 (Value.slice none 0 0)), C.d (.v (.slice none 0 0)), C.mp (2)] (69)), (1, Blk.row ka ga (1) (9)), ((2 :
 Nat), Blk.map (0) l2), (3, Blk.row n3 f3 (5) (50))])) else (bif decide ((n3 + 1) * 48 ≤ 140737488355328) && decide (n3 + (1 :
 Nat) ≤ 9223372036854775807) then L28_2 nk l s0 ka ga mpa g m ((Value.string (SLine.name (List.getD l (Int.toNat i10) line0)), Value.bool true) :: l2) (n3 + 1) (appF
 n3 f3 (chunk [dS (SLine.name (List.getD l (Int.toNat i10) line0)), dI (SLine.r1 (List.getD l (Int.toNat i10) line0)), dI (SLine.x1 (List.getD l (Int.toNat i10) line0)), dI (SLine.r0
 (List.getD l (Int.toNat i10) line0)), dI (SLine.x0 (List.getD l (Int.toNat i10) line0))] (4 + 1))) (IntKind.wrap IntKind.i64 (i10 + (1 : Int))) else none)) else some
 (T.leaf (AV.c (.d (.v (.int .i64 (2 : Int)))), [(0, Blk.cells [C.d (.v (.string s0)), C.row (1) (1) ka, C.row (3) (5) n3,
 C.d (.v (.slice none 0 0)), C.d (.v (.slice none 0 0)), C.mp (2)] (69)), (1, Blk.row ka ga (1) ((9 :
 Nat))), (2, Blk.map (0) l2), (3, Blk.row n3 f3 (5) (50))]))) else some (T.leaf (AV.c (.d (.v (.int .i64 (2 : Int)))), [((0 :
 Nat), Blk.cells [C.d (.v (.string s0)), C.row (1) (1) ka, C.row (3) (5) n3, C.d (.v (.slice none 0 0)), C.d (D.v
 (Value.slice none 0 0)), C.mp (2)] (69)), (1, Blk.row ka ga (1) (9)), (2, Blk.map (0) l2), (3,
 Blk.row n3 f3 (5) (50))]))) else some (T.leaf (AV.c (.d (.v (.int .i64 (2 : Int)))), [(0, Blk.cells [C.d (.v (.string s0)), C.row ((1 :
 Nat)) (1) ka, C.row (3) (5) n3, C.d (.v (.slice none 0 0)), C.d (.v (.slice none 0 0)), C.mp (2)] ((69 :
 Nat))), (1, Blk.row ka ga (1) (9)), (2, Blk.map (0) l2), (3, Blk.row n3 f3 (5) (50))])))) else some (T.leaf (AV.c
 (C.d (.v (.int .i64 (2 : Int)))), [(0, Blk.cells [C.d (.v (.string s0)), C.row (1) (1) ka, C.row (3) (5) n3, C.d (D.v
 (Value.slice none 0 0)), C.d (.v (.slice none 0 0)), C.mp (2)] (69)), (1, Blk.row ka ga (1) (9)), ((2 :
 Nat), Blk.map (0) l2), (3, Blk.row n3 f3 (5) (50))]))) else some (T.leaf (AV.c (.d (.v (.int .i64 (2 : Int)))), [(0, Blk.cells
 [C.d (.v (.string s0)), C.row (1) (1) ka, C.row (3) (5) n3, C.d (.v (.slice none 0 0)), C.d (D.v (Value.slice none (0 :
 Nat) 0)), C.mp (2)] (69)), (1, Blk.row ka ga (1) (9)), (2, Blk.map (0) l2), (3, Blk.row n3 f3 (5)
 (50))]))) else some (T.leaf (AV.c (.d (.v (.int .i64 (2 : Int)))), [(0, Blk.cells [C.d (.v (.string s0)), C.row (1) (1) ka, C.row
 (3) (5) n3, C.d (.v (.slice none 0 0)), C.d (.v (.slice none 0 0)), C.mp (2)] (69)), (1, Blk.row
 ka ga (1) (9)), (2, Blk.map (0) l2), (3, Blk.row n3 f3 (5) (50))]))))) else none) else some (T.leaf (AV.c (C.d (D.v
 (Value.int IntKind.i64 (0 : Int)))), [(0, Blk.cells [C.d (.v (.string s0)), C.row (1) (1) ka, C.row (3) (5) n3, C.d (D.v (Value.slice
 none 0 0)), C.d (.v (.slice none 0 0)), C.mp (2)] (69)), (1, Blk.row ka ga (1) (9)), (2,
 Blk.map (0) l2), (3, Blk.row n3 f3 (5) (50))]))) := by kernel_rfl
noncomputable def ann30 : Ann := annOf [(2, ⟨[1, 8, 9, 10], [(1, 3, 6, 53)]⟩)]
noncomputable def L30_2 (nk : ByteArray → Bool) (l : List SSrc) (s0 : ByteArray) (ka : Nat) (ga : Nat → List D) (kb : Nat) (gb : Nat → List D) (mpa : List (Value × Value)) (g m : Nat) (l3 : List (Value × Value)) (n4 : Nat) (f4 : Nat → List D) (i10 : Int) := LK Tryd.prog (o30 nk) ann30 (List.length (α := Nat × Blk) [(0, .cells [.d (dS s0), .row 1 1 ka, .row 2 5 kb, nilC, nilC, .mp 3] 69), (1, .row ka ga 1 9), (2, .row kb gb 5 50), (3, .map 0 mpa)]) g Tryd.f44 2 m ⟨frm [(1, AV.c (C.fn 45 [Rf.ptr 0 0] [])), (8, AV.c (C.d (D.sl 6 (List.length l) fun i => srcC' (List.getD l i src0)))), (9, AV.c (C.d (D.v (Value.int IntKind.i64 (↑(List.length l) : Int))))), (10, AV.c (C.d (D.v (Value.int IntKind.i64 i10))))] 0 Tryd.f44.ntmps, [(0, Blk.cells [C.d (D.v (Value.string s0)), C.row 1 1 ka, C.row 2 5 kb, C.row 4 6 n4, C.d (D.v (Value.slice none (0 : Nat) (0 : Nat))), C.mp 3] 69), (1, Blk.row ka ga 1 9), (2, Blk.row kb gb 5 50), (3, Blk.map 0 l3), (4, Blk.row n4 f4 6 53)], 5⟩
theorem b30 : Tryd.f44.body = some (bodyOf Tryd.f44) := by kernel_rfl
theorem ev30 (nk : ByteArray → Bool) (l : List SSrc) (s0 : ByteArray) (ka : Nat) (ga : Nat → List D) (kb : Nat) (gb : Nat → List D) (mpa : List (Value × Value)) (g : Nat) : callC Tryd.prog (o30 nk) ann30 g Tryd.f44 (bodyOf Tryd.f44) [.c (.d (srcsD l)), fnOf 45] [(0, .cells [.d (dS s0), .row 1 1 ka, .row 2 5 kb, nilC, nilC, .mp 3] 69), (1, .row ka ga 1 9), (2, .row kb gb 5 50), (3, .map 0 mpa)] =
 L30_2 nk l s0 ka ga kb gb mpa g g mpa 0 (fun x => []) ((0 : Int)) := by kernel_rfl
theorem st30_2 (nk : ByteArray → Bool) (l : List SSrc) (s0 : ByteArray) (ka : Nat) (ga : Nat → List D) (kb : Nat) (gb : Nat → List D) (mpa : List (Value × Value)) (g m : Nat) (l3 : List (Value × Value)) (n4 : Nat) (f4 : Nat → List D) (i10 : Int) : L30_2 nk l s0 ka ga kb gb mpa g (m + 1) l3 n4 f4 i10 =
 (bif decide (i10 < (↑(List.length l) : Int)) then (bif decide ((0 : Int) ≤ i10) && decide (i10 < (↑(List.length l) : Int)) then (bif !nk (SSrc.name (List.getD l (Int.toNat i10)
 src0)) then some (T.leaf (AV.c (.d (.v (.int .i64 (7 : Int)))), [(0, Blk.cells [C.d (.v (.string s0)), C.row (1) (1) ka, C.row ((2 :
 Nat)) (5) kb, C.row (4) (6) n4, C.d (.v (.slice none 0 0)), C.mp (3)] (69)), (1, Blk.row ka ga (1) ((9
 : Nat))), (2, Blk.row kb gb (5) (50)), (3, Blk.map (0) l3), (4, Blk.row n4 f4 (6) (53))])) else (bif boolOf (assoc l3
 (Value.string (SSrc.name (List.getD l (Int.toNat i10) src0)))) then some (T.leaf (AV.c (.d (.v (.int .i64 (8 : Int)))), [(0, Blk.cells [C.d (D.v (Value.string
 s0)), C.row (1) (1) ka, C.row (2) (5) kb, C.row (4) (6) n4, C.d (.v (.slice none 0 0)), C.mp (3)] ((69
 : Nat))), (1, Blk.row ka ga (1) (9)), (2, Blk.row kb gb (5) (50)), (3, Blk.map (0) l3), (4, Blk.row n4 f4 ((6
 : Nat)) (53))])) else (bif decide (SSrc.emf (List.getD l (Int.toNat i10) src0) ≥ (1 : Int)) then (bif !decide (SSrc.emf (List.getD l (Int.toNat i10) src0) ≤ (1000000 : Int))
 then some (T.leaf (AV.c (.d (.v (.int .i64 (2 : Int)))), [(0, Blk.cells [C.d (.v (.string s0)), C.row (1) (1) ka, C.row (2) ((5 :
 Nat)) kb, C.row (4) (6) n4, C.d (.v (.slice none 0 0)), C.mp (3)] (69)), (1, Blk.row ka ga (1) (9)),
 (2, Blk.row kb gb (5) (50)), (3, Blk.map (0) l3), (4, Blk.row n4 f4 (6) (53))])) else (bif decide (SSrc.r1 (List.getD
 l (Int.toNat i10) src0) ≥ (0 : Int)) then (bif decide (SSrc.r1 (List.getD l (Int.toNat i10) src0) ≤ (1000 : Int)) then (bif decide (SSrc.x1 (List.getD l (Int.toNat i10) src0) ≥ (1 :
 Int)) then (bif !decide (SSrc.x1 (List.getD l (Int.toNat i10) src0) ≤ (1000 : Int)) then some (T.leaf (AV.c (.d (.v (.int .i64 (2 : Int)))), [(0, Blk.cells
 [C.d (.v (.string s0)), C.row (1) (1) ka, C.row (2) (5) kb, C.row (4) (6) n4, C.d (.v (.slice none 0 0)),
 C.mp (3)] (69)), (1, Blk.row ka ga (1) (9)), (2, Blk.row kb gb (5) (50)), (3, Blk.map (0) l3), ((4 :
 Nat), Blk.row n4 f4 (6) (53))])) else (bif decide (SSrc.r0 (List.getD l (Int.toNat i10) src0) ≥ (0 : Int)) then (bif decide (SSrc.r0 (List.getD l (Int.toNat i10)
 src0) ≤ (1000 : Int)) then (bif decide (SSrc.x0 (List.getD l (Int.toNat i10) src0) ≥ (1 : Int)) then (bif !decide (SSrc.x0 (List.getD l (Int.toNat i10) src0) ≤ (1000 : Int)) then
 some (T.leaf (AV.c (.d (.v (.int .i64 (2 : Int)))), [(0, Blk.cells [C.d (.v (.string s0)), C.row (1) (1) ka, C.row (2) ((5 :
 Nat)) kb, C.row (4) (6) n4, C.d (.v (.slice none 0 0)), C.mp (3)] (69)), (1, Blk.row ka ga (1) (9)),
 (2, Blk.row kb gb (5) (50)), (3, Blk.map (0) l3), (4, Blk.row n4 f4 (6) (53))])) else (bif decide ((n4 + 1) *
 56 ≤ 140737488355328) && decide (n4 + 1 ≤ 9223372036854775807) then L30_2 nk l s0 ka ga kb gb mpa g m ((Value.string (SSrc.name (List.getD l
 (Int.toNat i10) src0)), Value.bool true) :: l3) (n4 + 1) (appF n4 f4 (chunk [dS (SSrc.name (List.getD l (Int.toNat i10) src0)), dI (SSrc.emf (List.getD l (Int.toNat i10)
 src0)), dI (SSrc.r1 (List.getD l (Int.toNat i10) src0)), dI (SSrc.x1 (List.getD l (Int.toNat i10) src0)), dI (SSrc.r0 (List.getD l (Int.toNat i10) src0)), dI (SSrc.x0 (List.getD l
 (Int.toNat i10) src0))] (5 + 1))) (IntKind.wrap IntKind.i64 (i10 + (1 : Int))) else none)) else some (T.leaf (AV.c (.d (.v (.int .i64 (2 : Int)))),
 [(0, Blk.cells [C.d (.v (.string s0)), C.row (1) (1) ka, C.row (2) (5) kb, C.row (4) (6) n4, C.d (D.v (Value.slice none
 0 0)), C.mp (3)] (69)), (1, Blk.row ka ga (1) (9)), (2, Blk.row kb gb (5) (50)), (3, Blk.map
 (0) l3), (4, Blk.row n4 f4 (6) (53))]))) else some (T.leaf (AV.c (.d (.v (.int .i64 (2 : Int)))), [(0, Blk.cells [C.d (D.v
 (Value.string s0)), C.row (1) (1) ka, C.row (2) (5) kb, C.row (4) (6) n4, C.d (.v (.slice none 0 0)), C.mp ((3
 : Nat))] (69)), (1, Blk.row ka ga (1) (9)), (2, Blk.row kb gb (5) (50)), (3, Blk.map (0) l3), (4,
 Blk.row n4 f4 (6) (53))]))) else some (T.leaf (AV.c (.d (.v (.int .i64 (2 : Int)))), [(0, Blk.cells [C.d (.v (.string s0)), C.row ((1 :
 Nat)) (1) ka, C.row (2) (5) kb, C.row (4) (6) n4, C.d (.v (.slice none 0 0)), C.mp (3)] (69)), ((1 :
 Nat), Blk.row ka ga (1) (9)), (2, Blk.row kb gb (5) (50)), (3, Blk.map (0) l3), (4, Blk.row n4 f4 (6) ((53 :
 Nat)))])))) else some (T.leaf (AV.c (.d (.v (.int .i64 (2 : Int)))), [(0, Blk.cells [C.d (.v (.string s0)), C.row (1) (1) ka, C.row ((2 :
 Nat)) (5) kb, C.row (4) (6) n4, C.d (.v (.slice none 0 0)), C.mp (3)] (69)), (1, Blk.row ka ga (1) ((9
 : Nat))), (2, Blk.row kb gb (5) (50)), (3, Blk.map (0) l3), (4, Blk.row n4 f4 (6) (53))]))) else some (T.leaf (AV.c
 (C.d (.v (.int .i64 (2 : Int)))), [(0, Blk.cells [C.d (.v (.string s0)), C.row (1) (1) ka, C.row (2) (5) kb, C.row ((4 :
 Nat)) (6) n4, C.d (.v (.slice none 0 0)), C.mp (3)] (69)), (1, Blk.row ka ga (1) (9)), (2, Blk.row kb
 gb (5) (50)), (3, Blk.map (0) l3), (4, Blk.row n4 f4 (6) (53))]))) else some (T.leaf (AV.c (C.d (D.v (Value.int IntKind.i64
 (2 : Int)))), [(0, Blk.cells [C.d (.v (.string s0)), C.row (1) (1) ka, C.row (2) (5) kb, C.row (4) (6) n4, C.d (D.v
 (Value.slice none 0 0)), C.mp (3)] (69)), (1, Blk.row ka ga (1) (9)), (2, Blk.row kb gb (5) (50)),
 (3, Blk.map (0) l3), (4, Blk.row n4 f4 (6) (53))])))) else some (T.leaf (AV.c (.d (.v (.int .i64 (2 : Int)))), [(0,
 Blk.cells [C.d (.v (.string s0)), C.row (1) (1) ka, C.row (2) (5) kb, C.row (4) (6) n4, C.d (D.v (Value.slice none 0 (0
 : Nat))), C.mp (3)] (69)), (1, Blk.row ka ga (1) (9)), (2, Blk.row kb gb (5) (50)), (3, Blk.map (0)
 l3), (4, Blk.row n4 f4 (6) (53))]))))) else none) else some (T.leaf (AV.c (.d (.v (.int .i64 (0 : Int)))), [(0, Blk.cells [C.d (D.v
 (Value.string s0)), C.row (1) (1) ka, C.row (2) (5) kb, C.row (4) (6) n4, C.d (.v (.slice none 0 0)), C.mp ((3
 : Nat))] (69)), (1, Blk.row ka ga (1) (9)), (2, Blk.row kb gb (5) (50)), (3, Blk.map (0) l3), (4,
 Blk.row n4 f4 (6) (53))]))) := by kernel_rfl
end Go.Proofs.YthmapnolgdpkbaaDoor.st
namespace Go.Proofs.YthmapnolgdpkbaaDoor.st
open Go.RowKit Go.Eb

abbrev A5 := (ByteArray × Nat × Nat × Nat × Nat × Unit × Unit) × (Nat × (Nat → List D)) × (Nat × (Nat → List D)) × (Nat × (Nat → List D)) × (Nat × (Nat → List D)) × (List (Value × Value)) × Unit
def dH5 : Dec Hp A5 := .cons (.blk 0 (.cells 69 (.cons .str (.cons (.row 1 1) (.cons (.row 2 5) (.cons (.row 3 6) (.cons (.row 4 12) (.cons (.mp 5) .nil)))))))) (.cons (.blk 1 (.rowB 1 9)) (.cons (.blk 2 (.rowB 5 50)) (.cons (.blk 3 (.rowB 6 53)) (.cons (.blk 4 (.rowB 12 44)) (.cons (.blk 5 (.mapB 0)) .nil)))))
def dBay : Dec (List AV) (Unit × RBay × Unit) := .cons (.c (.ptr 0 0)) (.cons (.agg bayD) .nil)
def d55 : Dec (List AV × Hp) ((Unit × RBay × Unit) × A5) := .pair dBay dH5
noncomputable def o55 : Orc := oWi
noncomputable def ann55 : Ann := annOf [(5, ⟨[3, 0, 27, 28, 29], []⟩)]
noncomputable def L55_5 (x : SBay) (s0 : ByteArray) (ka : Nat) (ga : Nat → List D) (kb : Nat) (gb : Nat → List D) (kc : Nat) (gc : Nat → List D) (kd : Nat) (gd : Nat → List D) (mpa : List (Value × Value)) (g m : Nat) (i29 : Int) := LK Tryd.prog o55 ann55 (List.length (α := Nat × Blk) [(0, .cells [.d (dS s0), .row 1 1 ka, .row 2 5 kb, .row 3 6 kc, .row 4 12 kd, .mp 5] 69), (1, .row ka ga 1 9), (2, .row kb gb 5 50), (3, .row kc gc 6 53), (4, .row kd gd 12 44), (5, .map 0 mpa)]) g Tryd.f73 5 m ⟨frm [(0, AV.c (C.ptr 0 0)), (3, AV.c (C.ptr 6 0)), (27, AV.c (C.d (D.sl 2 (List.length (SBay.links x)) fun i => linkC (List.getD (SBay.links x) i link0)))), (28, AV.c (C.d (D.v (Value.int IntKind.i64 (↑(List.length (SBay.links x)) : Int))))), (29, AV.c (C.d (D.v (Value.int IntKind.i64 i29))))] 0 Tryd.f73.ntmps, [(0, Blk.cells [C.d (D.v (Value.string s0)), C.row 1 1 ka, C.row 2 5 kb, C.row 3 6 kc, C.row 4 12 kd, C.mp 5] 69), (1, Blk.row ka ga 1 9), (2, Blk.row kb gb 5 50), (3, Blk.row kc gc 6 53), (4, Blk.row kd gd 12 44), (5, Blk.map 0 mpa), (6, Blk.cells [C.d (D.v (Value.string (SBay.name x))), C.d (D.v (Value.int IntKind.i64 (SBay.kind x))), C.d (D.v (Value.int IntKind.i64 (SBay.off x))), C.d (D.v (Value.int IntKind.i64 (SBay.fin x))), C.d (D.v (Value.int IntKind.i64 (SBay.zr x))), C.d (D.v (Value.int IntKind.i64 (SBay.zx x))), C.d (D.sl 2 (List.length (SBay.links x)) fun i => linkC (List.getD (SBay.links x) i link0)), C.d (D.v (Value.bool (SBay.closed x))), C.d (D.v (Value.int IntKind.i64 (SBay.ct x))), C.d (D.v (Value.int IntKind.i64 (SBay.vt x))), C.d (D.v (Value.int IntKind.i64 (SBay.sat x))), C.d (D.v (Value.int IntKind.i64 (SBay.travel x)))] 44)], 7⟩
theorem b55 : Tryd.f73.body = some (bodyOf Tryd.f73) := by kernel_rfl
theorem ev55 (x : SBay) (s0 : ByteArray) (ka : Nat) (ga : Nat → List D) (kb : Nat) (gb : Nat → List D) (kc : Nat) (gc : Nat → List D) (kd : Nat) (gd : Nat → List D) (mpa : List (Value × Value)) (g : Nat) : callC Tryd.prog o55 ann55 g Tryd.f73 (bodyOf Tryd.f73) [.c (.ptr 0 0), aBay x] [(0, .cells [.d (dS s0), .row 1 1 ka, .row 2 5 kb, .row 3 6 kc, .row 4 12 kd, .mp 5] 69), (1, .row ka ga 1 9), (2, .row kb gb 5 50), (3, .row kc gc 6 53), (4, .row kd gd 12 44), (5, .map 0 mpa)] =
 (bif decide ((↑(List.length (SBay.links x)) : Int) < (1 : Int)) then some (T.leaf (AV.c (.d (.v (.int .i64 (3 : Int)))), [(0, Blk.cells [C.d (D.v (Value.string
 s0)), C.row (1) (1) ka, C.row (2) (5) kb, C.row (3) (6) kc, C.row (4) (12) kd, C.mp (5)] (69)), ((1 :
 Nat), Blk.row ka ga (1) (9)), (2, Blk.row kb gb (5) (50)), (3, Blk.row kc gc (6) (53)), (4, Blk.row kd gd
 (12) (44)), (5, Blk.map (0) mpa)])) else (bif decide ((↑(List.length (SBay.links x)) : Int) > (2 : Int)) then some (T.leaf (AV.c (C.d (D.v (Value.int
 IntKind.i64 (3 : Int)))), [(0, Blk.cells [C.d (.v (.string s0)), C.row (1) (1) ka, C.row (2) (5) kb, C.row (3) (6) kc,
 C.row (4) (12) kd, C.mp (5)] (69)), (1, Blk.row ka ga (1) (9)), (2, Blk.row kb gb (5) (50)), ((3 :
 Nat), Blk.row kc gc (6) (53)), (4, Blk.row kd gd (12) (44)), (5, Blk.map (0) mpa)])) else (bif SBay.kind x == (3 : Int) then
 (bif (↑(List.length (SBay.links x)) : Int) != (2 : Int) then some (T.leaf (AV.c (.d (.v (.int .i64 (3 : Int)))), [(0, Blk.cells [C.d (.v (.string s0)),
 C.row (1) (1) ka, C.row (2) (5) kb, C.row (3) (6) kc, C.row (4) (12) kd, C.mp (5)] (69)), (1,
 Blk.row ka ga (1) (9)), (2, Blk.row kb gb (5) (50)), (3, Blk.row kc gc (6) (53)), (4, Blk.row kd gd ((12 :
 Nat)) (44)), (5, Blk.map (0) mpa)])) else L55_5 x s0 ka ga kb gb kc gc kd gd mpa g g ((0 : Int))) else L55_5 x s0 ka ga kb gb kc gc kd gd mpa g g ((0 :
 Int))))) := by kernel_rfl
theorem st55_5 (x : SBay) (s0 : ByteArray) (ka : Nat) (ga : Nat → List D) (kb : Nat) (gb : Nat → List D) (kc : Nat) (gc : Nat → List D) (kd : Nat) (gd : Nat → List D) (mpa : List (Value × Value)) (g m : Nat) (i29 : Int) : L55_5 x s0 ka ga kb gb kc gc kd gd mpa g (m + 1) i29 =
 (bif decide (i29 < (↑(List.length (SBay.links x)) : Int)) then (bif decide ((0 : Int) ≤ i29) && decide (i29 < (↑(List.length (SBay.links x)) : Int)) then (bif decide (SLink.bus
 (List.getD (SBay.links x) (Int.toNat i29) link0) ≥ (0 : Int)) then (bif !decide (SLink.bus (List.getD (SBay.links x) (Int.toNat i29) link0) ≤ IntKind.wrap IntKind.i64 ((↑ka : Int) -
 (1 : Int))) then some (T.leaf (AV.c (.d (.v (.int .i64 (9 : Int)))), [(0, Blk.cells [C.d (.v (.string s0)), C.row (1) (1) ka, C.row ((2 :
 Nat)) (5) kb, C.row (3) (6) kc, C.row (4) (12) kd, C.mp (5)] (69)), (1, Blk.row ka ga (1) (9)), ((2 :
 Nat), Blk.row kb gb (5) (50)), (3, Blk.row kc gc (6) (53)), (4, Blk.row kd gd (12) (44)), (5, Blk.map ((0 :
 Nat)) mpa)])) else (bif SLink.pos (List.getD (SBay.links x) (Int.toNat i29) link0) != (1 : Int) then (bif SLink.pos (List.getD (SBay.links x) (Int.toNat i29) link0) != (0 : Int)
 then some (T.leaf (AV.c (.d (.v (.int .i64 (16 : Int)))), [(0, Blk.cells [C.d (.v (.string s0)), C.row (1) (1) ka, C.row (2) ((5
 : Nat)) kb, C.row (3) (6) kc, C.row (4) (12) kd, C.mp (5)] (69)), (1, Blk.row ka ga (1) (9)), (2,
 Blk.row kb gb (5) (50)), (3, Blk.row kc gc (6) (53)), (4, Blk.row kd gd (12) (44)), (5, Blk.map (0)
 mpa)])) else (bif SBay.kind x == (3 : Int) then some (T.leaf (AV.c (.d (.v (.int .i64 (16 : Int)))), [(0, Blk.cells [C.d (.v (.string s0)), C.row ((1 :
 Nat)) (1) ka, C.row (2) (5) kb, C.row (3) (6) kc, C.row (4) (12) kd, C.mp (5)] (69)), (1, Blk.row ka
 ga (1) (9)), (2, Blk.row kb gb (5) (50)), (3, Blk.row kc gc (6) (53)), (4, Blk.row kd gd (12) ((44 :
 Nat))), (5, Blk.map (0) mpa)])) else (bif decide (i29 > (0 : Int)) then (bif decide ((0 : Int) ≤ IntKind.wrap IntKind.i64 (i29 - (1 : Int))) && decide (IntKind.wrap
 IntKind.i64 (i29 - (1 : Int)) < (↑(List.length (SBay.links x)) : Int)) then (bif SLink.bus (List.getD (SBay.links x) (Int.toNat (IntKind.wrap IntKind.i64 (i29 - (1 : Int)))) link0)
 == SLink.bus (List.getD (SBay.links x) (Int.toNat i29) link0) then some (T.leaf (AV.c (.d (.v (.int .i64 (12 : Int)))), [(0, Blk.cells [C.d (D.v (Value.string
 s0)), C.row (1) (1) ka, C.row (2) (5) kb, C.row (3) (6) kc, C.row (4) (12) kd, C.mp (5)] (69)), ((1 :
 Nat), Blk.row ka ga (1) (9)), (2, Blk.row kb gb (5) (50)), (3, Blk.row kc gc (6) (53)), (4, Blk.row kd gd
 (12) (44)), (5, Blk.map (0) mpa)])) else L55_5 x s0 ka ga kb gb kc gc kd gd mpa g m (IntKind.wrap IntKind.i64 (i29 + (1 : Int)))) else none) else
 L55_5 x s0 ka ga kb gb kc gc kd gd mpa g m (IntKind.wrap IntKind.i64 (i29 + (1 : Int)))))) else (bif decide (i29 > (0 : Int)) then (bif decide ((0 : Int) ≤ IntKind.wrap IntKind.i64
 (i29 - (1 : Int))) && decide (IntKind.wrap IntKind.i64 (i29 - (1 : Int)) < (↑(List.length (SBay.links x)) : Int)) then (bif SLink.bus (List.getD (SBay.links x) (Int.toNat
 (IntKind.wrap IntKind.i64 (i29 - (1 : Int)))) link0) == SLink.bus (List.getD (SBay.links x) (Int.toNat i29) link0) then some (T.leaf (AV.c (.d (.v (.int .i64 (12 :
 Int)))), [(0, Blk.cells [C.d (.v (.string s0)), C.row (1) (1) ka, C.row (2) (5) kb, C.row (3) (6) kc, C.row (4)
 (12) kd, C.mp (5)] (69)), (1, Blk.row ka ga (1) (9)), (2, Blk.row kb gb (5) (50)), (3, Blk.row kc gc
 (6) (53)), (4, Blk.row kd gd (12) (44)), (5, Blk.map (0) mpa)])) else L55_5 x s0 ka ga kb gb kc gc kd gd mpa g m
 (IntKind.wrap IntKind.i64 (i29 + (1 : Int)))) else none) else L55_5 x s0 ka ga kb gb kc gc kd gd mpa g m (IntKind.wrap IntKind.i64 (i29 + (1 : Int)))))) else some (T.leaf (AV.c (C.d
 (D.v (.int .i64 (9 : Int)))), [(0, Blk.cells [C.d (.v (.string s0)), C.row (1) (1) ka, C.row (2) (5) kb, C.row (3)
 (6) kc, C.row (4) (12) kd, C.mp (5)] (69)), (1, Blk.row ka ga (1) (9)), (2, Blk.row kb gb (5) ((50 :
 Nat))), (3, Blk.row kc gc (6) (53)), (4, Blk.row kd gd (12) (44)), (5, Blk.map (0) mpa)]))) else none) else some
 (T.leaf (AV.c (.d (.v (.int .i64 (0 : Int)))), [(0, Blk.cells [C.d (.v (.string s0)), C.row (1) (1) ka, C.row (2) (5) kb,
 C.row (3) (6) kc, C.row (4) (12) kd, C.mp (5)] (69)), (1, Blk.row ka ga (1) (9)), (2, Blk.row kb gb
 (5) (50)), (3, Blk.row kc gc (6) (53)), (4, Blk.row kd gd (12) (44)), (5, Blk.map (0) mpa)]))) := by kernel_rfl
noncomputable def o54 : Orc := Orc.cons 70 (inl Tryd.prog oWi na 1 Tryd.f70) oWi
noncomputable def ann54 : Ann := annOf []
theorem b54 : Tryd.f72.body = some (bodyOf Tryd.f72) := by kernel_rfl
theorem ev54 (x : SBay) (g : Nat) : callC Tryd.prog o54 ann54 g Tryd.f72 (bodyOf Tryd.f72) [aBay x] [] =
 (bif SBay.kind x == (3 : Int) then (bif decide (SBay.zr x ≥ (0 : Int)) then (bif decide (SBay.zr x ≤ (1000 : Int)) then (bif decide (SBay.zx x ≥ (1 : Int)) then (bif !decide
 (SBay.zx x ≤ (1000 : Int)) then some (T.leaf (AV.c (.d (.v (.bool false))), [])) else (bif SBay.vt x != (0 : Int) then some (T.leaf (AV.c (.d (.v (.bool false))), []))
 else (bif SBay.kind x == (1 : Int) then (bif decide (SBay.fin x ≥ (0 : Int)) then (bif decide (SBay.fin x ≤ (1 : Int)) then (bif decide (SBay.ct x ≥ (1 : Int)) then (bif decide
 (SBay.ct x ≤ (100 : Int)) then (bif decide (SBay.sat x ≥ (0 : Int)) then (bif decide (SBay.sat x ≤ (16383 : Int)) then (bif decide (SBay.travel x ≥ (1 : Int)) then some (T.leaf
 (AV.c (.d (.v (.bool (decide (SBay.travel x ≤ (6 : Int)))))), [])) else some (T.leaf (AV.c (.d (.v (.bool false))), []))) else some (T.leaf (AV.c (C.d (D.v (Value.bool
 false))), []))) else some (T.leaf (AV.c (.d (.v (.bool false))), []))) else some (T.leaf (AV.c (.d (.v (.bool false))), []))) else some (T.leaf (AV.c (C.d (D.v
 (Value.bool false))), []))) else some (T.leaf (AV.c (.d (.v (.bool false))), []))) else some (T.leaf (AV.c (.d (.v (.bool false))), []))) else (bif decide (SBay.fin x
 ≥ (0 : Int)) then (bif decide (SBay.fin x ≤ (0 : Int)) then (bif decide (SBay.ct x ≥ (1 : Int)) then (bif decide (SBay.ct x ≤ (100 : Int)) then (bif decide (SBay.sat x ≥ (0 : Int))
 then (bif decide (SBay.sat x ≤ (16383 : Int)) then (bif decide (SBay.travel x ≥ (1 : Int)) then some (T.leaf (AV.c (.d (.v (.bool (decide (SBay.travel x ≤ (6 : Int)))))),
 [])) else some (T.leaf (AV.c (.d (.v (.bool false))), []))) else some (T.leaf (AV.c (.d (.v (.bool false))), []))) else some (T.leaf (AV.c (C.d (D.v (Value.bool
 false))), []))) else some (T.leaf (AV.c (.d (.v (.bool false))), []))) else some (T.leaf (AV.c (.d (.v (.bool false))), []))) else some (T.leaf (AV.c (C.d (D.v
 (Value.bool false))), []))) else some (T.leaf (AV.c (.d (.v (.bool false))), [])))))) else some (T.leaf (AV.c (.d (.v (.bool false))), []))) else some (T.leaf (AV.c
 (C.d (.v (.bool false))), []))) else some (T.leaf (AV.c (.d (.v (.bool false))), []))) else (bif !(SBay.zr x == (0 : Int) && (SBay.zx x == (0 : Int) && true)) then some
 (T.leaf (AV.c (.d (.v (.bool false))), [])) else (bif decide (SBay.vt x ≥ (1 : Int)) then (bif !decide (SBay.vt x ≤ (10000 : Int)) then some (T.leaf (AV.c (C.d (D.v
 (Value.bool false))), [])) else (bif SBay.kind x == (1 : Int) then (bif decide (SBay.fin x ≥ (0 : Int)) then (bif decide (SBay.fin x ≤ (1 : Int)) then (bif decide (SBay.ct x ≥ (1 :
 Int)) then (bif decide (SBay.ct x ≤ (100 : Int)) then (bif decide (SBay.sat x ≥ (0 : Int)) then (bif decide (SBay.sat x ≤ (16383 : Int)) then (bif decide (SBay.travel x ≥ (1 : Int))
 then some (T.leaf (AV.c (.d (.v (.bool (decide (SBay.travel x ≤ (6 : Int)))))), [])) else some (T.leaf (AV.c (.d (.v (.bool false))), []))) else some (T.leaf (AV.c
 (C.d (.v (.bool false))), []))) else some (T.leaf (AV.c (.d (.v (.bool false))), []))) else some (T.leaf (AV.c (.d (.v (.bool false))), []))) else some (T.leaf
 (AV.c (.d (.v (.bool false))), []))) else some (T.leaf (AV.c (.d (.v (.bool false))), []))) else some (T.leaf (AV.c (.d (.v (.bool false))), []))) else (bif
 decide (SBay.fin x ≥ (0 : Int)) then (bif decide (SBay.fin x ≤ (0 : Int)) then (bif decide (SBay.ct x ≥ (1 : Int)) then (bif decide (SBay.ct x ≤ (100 : Int)) then (bif decide
 (SBay.sat x ≥ (0 : Int)) then (bif decide (SBay.sat x ≤ (16383 : Int)) then (bif decide (SBay.travel x ≥ (1 : Int)) then some (T.leaf (AV.c (.d (.v (.bool (decide
 (SBay.travel x ≤ (6 : Int)))))), [])) else some (T.leaf (AV.c (.d (.v (.bool false))), []))) else some (T.leaf (AV.c (.d (.v (.bool false))), []))) else some (T.leaf
 (AV.c (.d (.v (.bool false))), []))) else some (T.leaf (AV.c (.d (.v (.bool false))), []))) else some (T.leaf (AV.c (.d (.v (.bool false))), []))) else some
 (T.leaf (AV.c (.d (.v (.bool false))), []))) else some (T.leaf (AV.c (.d (.v (.bool false))), []))))) else some (T.leaf (AV.c (.d (.v (.bool false))), []))))) := by kernel_rfl
def d54 : Dec (List AV × Hp) ((RBay × Unit) × Unit) := .pair (.cons (.agg bayD) .nil) .nil
noncomputable def oRa (nk : ByteArray → Bool) (okr rg : RBay → Bool) : Orc := Orc.cons 72 (ansD d54 (fun a => okr a.1.1) (fun a => vB (rg a.1.1)) fun _ => []) (oIm nk)
noncomputable def o33 (nk : ByteArray → Bool) (okr rg : RBay → Bool) (ok : (Unit × RBay × Unit) × A5 → Bool) (lk : (Unit × RBay × Unit) × A5 → Int) : Orc := Orc.cons 73 (ansD d55 ok (fun a => vI (lk a)) (fun a => (d55.enc a).2)) (oRa nk okr rg)
noncomputable def ann33 : Ann := annOf [(18, ⟨[3, 50, 0, 51, 52], []⟩)]
noncomputable def L33_18 (nk : ByteArray → Bool) (okr rg : RBay → Bool) (ok : (Unit × RBay × Unit) × A5 → Bool) (lk : (Unit × RBay × Unit) × A5 → Int) (x : SBay) (s0 : ByteArray) (ka : Nat) (ga : Nat → List D) (kb : Nat) (gb : Nat → List D) (kc : Nat) (gc : Nat → List D) (bs : List SBay) (mpa : List (Value × Value)) (g m : Nat) (i52 : Int) := LK Tryd.prog (o33 nk okr rg ok lk) ann33 (List.length (α := Nat × Blk) [(0, .cells [.d (dS s0), .row 1 1 ka, .row 2 5 kb, .row 3 6 kc, .row 4 12 bs.length, .mp 5] 69), (1, .row ka ga 1 9), (2, .row kb gb 5 50), (3, .row kc gc 6 53), (4, .row bs.length (fun i => bayC (bs.getD i bay0)) 12 44), (5, .map 0 mpa)]) g Tryd.f47 18 m ⟨frm [(0, AV.c (C.ptr 0 0)), (3, AV.c (C.ptr 6 0)), (50, AV.c (C.row 4 12 (List.length bs))), (51, AV.c (C.d (D.v (Value.int IntKind.i64 (↑(List.length bs) : Int))))), (52, AV.c (C.d (D.v (Value.int IntKind.i64 i52))))] 0 Tryd.f47.ntmps, [(0, Blk.cells [C.d (D.v (Value.string s0)), C.row 1 1 ka, C.row 2 5 kb, C.row 3 6 kc, C.row 4 12 (List.length bs), C.mp 5] 69), (1, Blk.row ka ga 1 9), (2, Blk.row kb gb 5 50), (3, Blk.row kc gc 6 53), (4, Blk.row (List.length bs) (fun i => bayC (List.getD bs i bay0)) 12 44), (5, Blk.map 0 mpa), (6, Blk.cells [C.d (D.v (Value.string (SBay.name x))), C.d (D.v (Value.int IntKind.i64 (SBay.kind x))), C.d (D.v (Value.int IntKind.i64 (SBay.off x))), C.d (D.v (Value.int IntKind.i64 (SBay.fin x))), C.d (D.v (Value.int IntKind.i64 (SBay.zr x))), C.d (D.v (Value.int IntKind.i64 (SBay.zx x))), C.d (D.sl 2 (List.length (SBay.links x)) fun i => linkC (List.getD (SBay.links x) i link0)), C.d (D.v (Value.bool (SBay.closed x))), C.d (D.v (Value.int IntKind.i64 (SBay.ct x))), C.d (D.v (Value.int IntKind.i64 (SBay.vt x))), C.d (D.v (Value.int IntKind.i64 (SBay.sat x))), C.d (D.v (Value.int IntKind.i64 (SBay.travel x)))] 44)], 7⟩
theorem b33 : Tryd.f47.body = some (bodyOf Tryd.f47) := by kernel_rfl
theorem ev33 (nk : ByteArray → Bool) (okr rg : RBay → Bool) (ok : (Unit × RBay × Unit) × A5 → Bool) (lk : (Unit × RBay × Unit) × A5 → Int) (x : SBay) (s0 : ByteArray) (ka : Nat) (ga : Nat → List D) (kb : Nat) (gb : Nat → List D) (kc : Nat) (gc : Nat → List D) (bs : List SBay) (mpa : List (Value × Value)) (g : Nat) : callC Tryd.prog (o33 nk okr rg ok lk) ann33 g Tryd.f47 (bodyOf Tryd.f47) [.c (.ptr 0 0), aBay x] [(0, .cells [.d (dS s0), .row 1 1 ka, .row 2 5 kb, .row 3 6 kc, .row 4 12 bs.length, .mp 5] 69), (1, .row ka ga 1 9), (2, .row kb gb 5 50), (3, .row kc gc 6 53), (4, .row bs.length (fun i => bayC (bs.getD i bay0)) 12 44), (5, .map 0 mpa)] =
 (bif !nk (SBay.name x) then some (T.leaf (AV.c (.d (.v (.int .i64 (7 : Int)))), [(0, Blk.cells [C.d (.v (.string s0)), C.row (1) (1) ka,
 C.row (2) (5) kb, C.row (3) (6) kc, C.row (4) (12) (List.length bs), C.mp (5)] (69)), (1, Blk.row ka ga ((1 :
 Nat)) (9)), (2, Blk.row kb gb (5) (50)), (3, Blk.row kc gc (6) (53)), (4, Blk.row (List.length bs) (fun i => bayC
 (List.getD bs i bay0)) (12) (44)), (5, Blk.map (0) mpa)])) else (bif boolOf (assoc mpa (Value.string (SBay.name x))) then some (T.leaf (AV.c (C.d
 (D.v (.int .i64 (8 : Int)))), [(0, Blk.cells [C.d (.v (.string s0)), C.row (1) (1) ka, C.row (2) (5) kb, C.row (3)
 (6) kc, C.row (4) (12) (List.length bs), C.mp (5)] (69)), (1, Blk.row ka ga (1) (9)), (2, Blk.row kb gb ((5 :
 Nat)) (50)), (3, Blk.row kc gc (6) (53)), (4, Blk.row (List.length bs) (fun i => bayC (List.getD bs i bay0)) (12) (44)), ((5
 : Nat), Blk.map (0) mpa)])) else (bif SBay.kind x == (1 : Int) then (bif decide (SBay.off x ≥ (0 : Int)) then (bif !decide (SBay.off x ≤ IntKind.wrap IntKind.i64 ((↑kb :
 Int) - (1 : Int))) then some (T.leaf (AV.c (.d (.v (.int .i64 (9 : Int)))), [(0, Blk.cells [C.d (.v (.string s0)), C.row (1) (1) ka,
 C.row (2) (5) kb, C.row (3) (6) kc, C.row (4) (12) (List.length bs), C.mp (5)] (69)), (1, Blk.row ka ga ((1 :
 Nat)) (9)), (2, Blk.row kb gb (5) (50)), (3, Blk.row kc gc (6) (53)), (4, Blk.row (List.length bs) (fun i => bayC
 (List.getD bs i bay0)) (12) (44)), (5, Blk.map (0) mpa)])) else (bif okr (SBay.name x, SBay.kind x, SBay.off x, SBay.fin x, SBay.zr x, SBay.zx x,
 linksD (SBay.links x), SBay.closed x, SBay.ct x, SBay.vt x, SBay.sat x, SBay.travel x, ()) then (bif !rg (SBay.name x, SBay.kind x, SBay.off x, SBay.fin x, SBay.zr x, SBay.zx x,
 linksD (SBay.links x), SBay.closed x, SBay.ct x, SBay.vt x, SBay.sat x, SBay.travel x, ()) then some (T.leaf (AV.c (.d (.v (.int .i64 (2 : Int)))), [(0,
 Blk.cells [C.d (.v (.string s0)), C.row (1) (1) ka, C.row (2) (5) kb, C.row (3) (6) kc, C.row (4) (12)
 (List.length bs), C.mp (5)] (69)), (1, Blk.row ka ga (1) (9)), (2, Blk.row kb gb (5) (50)), (3, Blk.row kc gc
 (6) (53)), (4, Blk.row (List.length bs) (fun i => bayC (List.getD bs i bay0)) (12) (44)), (5, Blk.map (0) mpa)])) else L33_18
 nk okr rg ok lk x s0 ka ga kb gb kc gc bs mpa g g ((0 : Int))) else none)) else some (T.leaf (AV.c (.d (.v (.int .i64 (9 : Int)))), [(0, Blk.cells [C.d (D.v
 (Value.string s0)), C.row (1) (1) ka, C.row (2) (5) kb, C.row (3) (6) kc, C.row (4) (12) (List.length bs), C.mp ((5 :
 Nat))] (69)), (1, Blk.row ka ga (1) (9)), (2, Blk.row kb gb (5) (50)), (3, Blk.row kc gc (6) (53)),
 (4, Blk.row (List.length bs) (fun i => bayC (List.getD bs i bay0)) (12) (44)), (5, Blk.map (0) mpa)]))) else (bif SBay.kind x == (2 : Int)
 then (bif decide (SBay.off x ≥ (0 : Int)) then (bif !decide (SBay.off x ≤ IntKind.wrap IntKind.i64 ((↑kc : Int) - (1 : Int))) then some (T.leaf (AV.c (C.d (D.v (Value.int
 IntKind.i64 (9 : Int)))), [(0, Blk.cells [C.d (.v (.string s0)), C.row (1) (1) ka, C.row (2) (5) kb, C.row (3) (6) kc,
 C.row (4) (12) (List.length bs), C.mp (5)] (69)), (1, Blk.row ka ga (1) (9)), (2, Blk.row kb gb (5) ((50 :
 Nat))), (3, Blk.row kc gc (6) (53)), (4, Blk.row (List.length bs) (fun i => bayC (List.getD bs i bay0)) (12) (44)), (5,
 Blk.map (0) mpa)])) else (bif okr (SBay.name x, SBay.kind x, SBay.off x, SBay.fin x, SBay.zr x, SBay.zx x, linksD (SBay.links x), SBay.closed x, SBay.ct x, SBay.vt x,
 SBay.sat x, SBay.travel x, ()) then (bif !rg (SBay.name x, SBay.kind x, SBay.off x, SBay.fin x, SBay.zr x, SBay.zx x, linksD (SBay.links x), SBay.closed x, SBay.ct x, SBay.vt x,
 SBay.sat x, SBay.travel x, ()) then some (T.leaf (AV.c (.d (.v (.int .i64 (2 : Int)))), [(0, Blk.cells [C.d (.v (.string s0)), C.row (1) ((1 :
 Nat)) ka, C.row (2) (5) kb, C.row (3) (6) kc, C.row (4) (12) (List.length bs), C.mp (5)] (69)), (1, Blk.row
 ka ga (1) (9)), (2, Blk.row kb gb (5) (50)), (3, Blk.row kc gc (6) (53)), (4, Blk.row (List.length bs) (fun i
 => bayC (List.getD bs i bay0)) (12) (44)), (5, Blk.map (0) mpa)])) else L33_18 nk okr rg ok lk x s0 ka ga kb gb kc gc bs mpa g g ((0 : Int))) else
 none)) else some (T.leaf (AV.c (.d (.v (.int .i64 (9 : Int)))), [(0, Blk.cells [C.d (.v (.string s0)), C.row (1) (1) ka, C.row ((2 :
 Nat)) (5) kb, C.row (3) (6) kc, C.row (4) (12) (List.length bs), C.mp (5)] (69)), (1, Blk.row ka ga (1) ((9 :
 Nat))), (2, Blk.row kb gb (5) (50)), (3, Blk.row kc gc (6) (53)), (4, Blk.row (List.length bs) (fun i => bayC (List.getD bs i
 bay0)) (12) (44)), (5, Blk.map (0) mpa)]))) else (bif SBay.kind x == (3 : Int) then (bif decide (SBay.off x ≥ (0 : Int)) then (bif !decide (SBay.off
 x ≤ IntKind.wrap IntKind.i64 ((1 : Int) - (1 : Int))) then some (T.leaf (AV.c (.d (.v (.int .i64 (9 : Int)))), [(0, Blk.cells [C.d (.v (.string s0)),
 C.row (1) (1) ka, C.row (2) (5) kb, C.row (3) (6) kc, C.row (4) (12) (List.length bs), C.mp (5)] ((69 :
 Nat))), (1, Blk.row ka ga (1) (9)), (2, Blk.row kb gb (5) (50)), (3, Blk.row kc gc (6) (53)), (4,
 Blk.row (List.length bs) (fun i => bayC (List.getD bs i bay0)) (12) (44)), (5, Blk.map (0) mpa)])) else (bif okr (SBay.name x, SBay.kind x, SBay.off
 x, SBay.fin x, SBay.zr x, SBay.zx x, linksD (SBay.links x), SBay.closed x, SBay.ct x, SBay.vt x, SBay.sat x, SBay.travel x, ()) then (bif !rg (SBay.name x, SBay.kind x, SBay.off x,
 SBay.fin x, SBay.zr x, SBay.zx x, linksD (SBay.links x), SBay.closed x, SBay.ct x, SBay.vt x, SBay.sat x, SBay.travel x, ()) then some (T.leaf (AV.c (C.d (D.v (Value.int IntKind.i64
 (2 : Int)))), [(0, Blk.cells [C.d (.v (.string s0)), C.row (1) (1) ka, C.row (2) (5) kb, C.row (3) (6) kc, C.row ((4 :
 Nat)) (12) (List.length bs), C.mp (5)] (69)), (1, Blk.row ka ga (1) (9)), (2, Blk.row kb gb (5) (50)), ((3 :
 Nat), Blk.row kc gc (6) (53)), (4, Blk.row (List.length bs) (fun i => bayC (List.getD bs i bay0)) (12) (44)), (5, Blk.map (0)
 mpa)])) else L33_18 nk okr rg ok lk x s0 ka ga kb gb kc gc bs mpa g g ((0 : Int))) else none)) else some (T.leaf (AV.c (.d (.v (.int .i64 (9 : Int)))), [(0,
 Blk.cells [C.d (.v (.string s0)), C.row (1) (1) ka, C.row (2) (5) kb, C.row (3) (6) kc, C.row (4) (12)
 (List.length bs), C.mp (5)] (69)), (1, Blk.row ka ga (1) (9)), (2, Blk.row kb gb (5) (50)), (3, Blk.row kc gc
 (6) (53)), (4, Blk.row (List.length bs) (fun i => bayC (List.getD bs i bay0)) (12) (44)), (5, Blk.map (0) mpa)]))) else some
 (T.leaf (AV.c (.d (.v (.int .i64 (10 : Int)))), [(0, Blk.cells [C.d (.v (.string s0)), C.row (1) (1) ka, C.row (2) (5)
 kb, C.row (3) (6) kc, C.row (4) (12) (List.length bs), C.mp (5)] (69)), (1, Blk.row ka ga (1) (9)), ((2 :
 Nat), Blk.row kb gb (5) (50)), (3, Blk.row kc gc (6) (53)), (4, Blk.row (List.length bs) (fun i => bayC (List.getD bs i bay0)) ((12 :
 Nat)) (44)), (5, Blk.map (0) mpa)]))))))) := by kernel_rfl
theorem st33_18 (nk : ByteArray → Bool) (okr rg : RBay → Bool) (ok : (Unit × RBay × Unit) × A5 → Bool) (lk : (Unit × RBay × Unit) × A5 → Int) (x : SBay) (s0 : ByteArray) (ka : Nat) (ga : Nat → List D) (kb : Nat) (gb : Nat → List D) (kc : Nat) (gc : Nat → List D) (bs : List SBay) (mpa : List (Value × Value)) (g m : Nat) (i52 : Int) : L33_18 nk okr rg ok lk x s0 ka ga kb gb kc gc bs mpa g (m + 1) i52 =
 (bif decide (i52 < (↑(List.length bs) : Int)) then (bif decide ((0 : Int) ≤ i52) && decide (i52 < (↑(List.length bs) : Int)) then (bif SBay.kind x != (3 : Int) then (bif SBay.kind x
 == SBay.kind (List.getD bs (Int.toNat i52) bay0) then (bif SBay.off x == SBay.off (List.getD bs (Int.toNat i52) bay0) then (bif SBay.fin x == SBay.fin (List.getD bs (Int.toNat i52)
 bay0) then some (T.leaf (AV.c (.d (.v (.int .i64 (12 : Int)))), [(0, Blk.cells [C.d (.v (.string s0)), C.row (1) (1) ka, C.row ((2 :
 Nat)) (5) kb, C.row (3) (6) kc, C.row (4) (12) (List.length bs), C.mp (5)] (69)), (1, Blk.row ka ga (1) ((9 :
 Nat))), (2, Blk.row kb gb (5) (50)), (3, Blk.row kc gc (6) (53)), (4, Blk.row (List.length bs) (fun i => bayC (List.getD bs i
 bay0)) (12) (44)), (5, Blk.map (0) mpa)])) else L33_18 nk okr rg ok lk x s0 ka ga kb gb kc gc bs mpa g m (IntKind.wrap IntKind.i64 (i52 + (1 :
 Int)))) else L33_18 nk okr rg ok lk x s0 ka ga kb gb kc gc bs mpa g m (IntKind.wrap IntKind.i64 (i52 + (1 : Int)))) else L33_18 nk okr rg ok lk x s0 ka ga kb gb kc gc bs mpa g m
 (IntKind.wrap IntKind.i64 (i52 + (1 : Int)))) else L33_18 nk okr rg ok lk x s0 ka ga kb gb kc gc bs mpa g m (IntKind.wrap IntKind.i64 (i52 + (1 : Int)))) else none) else (bif ok
 (((), (SBay.name x, SBay.kind x, SBay.off x, SBay.fin x, SBay.zr x, SBay.zx x, D.sl 2 (List.length (SBay.links x)) fun i => linkC (List.getD (SBay.links x) i link0),
 SBay.closed x, SBay.ct x, SBay.vt x, SBay.sat x, SBay.travel x, ()), ()), (s0, ka, kb, kc, List.length bs, (), ()), (ka, ga), (kb, gb), (kc, gc), (List.length bs, fun i => bayC
 (List.getD bs i bay0)), mpa, ()) then (bif lk (((), (SBay.name x, SBay.kind x, SBay.off x, SBay.fin x, SBay.zr x, SBay.zx x, D.sl 2 (List.length (SBay.links x)) fun i =>
 linkC (List.getD (SBay.links x) i link0), SBay.closed x, SBay.ct x, SBay.vt x, SBay.sat x, SBay.travel x, ()), ()), (s0, ka, kb, kc, List.length bs, (), ()), (ka, ga), (kb, gb),
 (kc, gc), (List.length bs, fun i => bayC (List.getD bs i bay0)), mpa, ()) != (0 : Int) then some (T.leaf (AV.c (.d (.v (.int .i64 (lk (((), (SBay.name x, SBay.kind x,
 SBay.off x, SBay.fin x, SBay.zr x, SBay.zx x, D.sl 2 (List.length (SBay.links x)) fun i => linkC (List.getD (SBay.links x) i link0), SBay.closed x, SBay.ct x, SBay.vt x,
 SBay.sat x, SBay.travel x, ()), ()), (s0, ka, kb, kc, List.length bs, (), ()), (ka, ga), (kb, gb), (kc, gc), (List.length bs, fun i => bayC (List.getD bs i bay0)), mpa, ()))))),
 [(0, Blk.cells [C.d (.v (.string s0)), C.row (1) (1) ka, C.row (2) (5) kb, C.row (3) (6) kc, C.row (4) ((12 :
 Nat)) (List.length bs), C.mp (5)] (69)), (1, Blk.row ka ga (1) (9)), (2, Blk.row kb gb (5) (50)), (3, Blk.row
 kc gc (6) (53)), (4, Blk.row (List.length bs) (fun i => bayC (List.getD bs i bay0)) (12) (44)), (5, Blk.map (0) (Prod.fst
 (Prod.snd (Prod.snd (Prod.snd (Prod.snd (Prod.snd (Prod.snd (((), (SBay.name x, SBay.kind x, SBay.off x, SBay.fin x, SBay.zr x, SBay.zx x, D.sl 2 (List.length (SBay.links
 x)) fun i => linkC (List.getD (SBay.links x) i link0), SBay.closed x, SBay.ct x, SBay.vt x, SBay.sat x, SBay.travel x, ()), ()), (s0, ka, kb, kc, List.length bs, (), ()), (ka, ga),
 (kb, gb), (kc, gc), (List.length bs, fun i => bayC (List.getD bs i bay0)), mpa, ())))))))))])) else (bif decide ((List.length bs + 1) * 120 ≤ (140737488355328 :
 Nat)) && decide (List.length bs + 1 ≤ 9223372036854775807) then some (T.leaf (AV.c (.d (.v (.int .i64 (0 : Int)))), [(0, Blk.cells [C.d (D.v
 (Value.string s0)), C.row (1) (1) ka, C.row (2) (5) kb, C.row (3) (6) kc, C.row (6) (12) (List.length bs + (1 :
 Nat)), C.mp (5)] (69)), (1, Blk.row ka ga (1) (9)), (2, Blk.row kb gb (5) (50)), (3, Blk.row kc gc ((6 :
 Nat)) (53)), (4, Blk.dead), (5, Blk.map (0) ((Value.string (SBay.name x), Value.bool true) :: Prod.fst (Prod.snd (Prod.snd (Prod.snd (Prod.snd
 (Prod.snd (Prod.snd (((), (SBay.name x, SBay.kind x, SBay.off x, SBay.fin x, SBay.zr x, SBay.zx x, D.sl 2 (List.length (SBay.links x)) fun i => linkC (List.getD (SBay.links
 x) i link0), SBay.closed x, SBay.ct x, SBay.vt x, SBay.sat x, SBay.travel x, ()), ()), (s0, ka, kb, kc, List.length bs, (), ()), (ka, ga), (kb, gb), (kc, gc), (List.length bs, fun i
 => bayC (List.getD bs i bay0)), mpa, ()))))))))), (6, Blk.row (List.length bs + 1) (appF (List.length bs) (fun i => bayC (List.getD bs i bay0)) (chunk [D.v
 (Value.string (SBay.name x)), D.v (.int .i64 (SBay.kind x)), D.v (.int .i64 (SBay.off x)), D.v (.int .i64 (SBay.fin x)), D.v (Value.int
 IntKind.i64 (SBay.zr x)), D.v (.int .i64 (SBay.zx x)), D.sl 2 (List.length (SBay.links x)) fun i => linkC (List.getD (SBay.links x) i link0), D.v (Value.bool
 (SBay.closed x)), D.v (.int .i64 (SBay.ct x)), D.v (.int .i64 (SBay.vt x)), D.v (.int .i64 (SBay.sat x)), D.v (.int .i64 (SBay.travel
 x))] (11 + 1))) (12) (44))])) else none)) else none)) := by kernel_rfl
noncomputable def h33 (cn : Nat → (Nat → List D) → (Nat → List D)) (bc : RBay → List D) (a : (Unit × RBay × Unit) × A5) : Hp := [(0, .cells [.d (dS a.2.1.1), .row 1 1 a.2.2.1.1, .row 2 5 a.2.2.2.1.1, .row 3 6 a.2.2.2.2.1.1, .row 6 12 (a.2.2.2.2.2.1.1 + 1), .mp 5] 69), (1, .row a.2.2.1.1 a.2.2.1.2 1 9), (2, .row a.2.2.2.1.1 a.2.2.2.1.2 5 50), (3, .row a.2.2.2.2.1.1 a.2.2.2.2.1.2 6 53), (4, .dead), (5, .map 0 ((.string a.1.2.1.1, .bool true) :: a.2.2.2.2.2.2.1)), (6, .row (a.2.2.2.2.2.1.1 + 1) (appF a.2.2.2.2.2.1.1 (cn a.2.2.2.2.2.1.1 a.2.2.2.2.2.1.2) (chunk (bc a.1.2.1) 12)) 12 44)]
noncomputable def h33e (cn : Nat → (Nat → List D) → (Nat → List D)) (a : (Unit × RBay × Unit) × A5) : Hp := [(0, .cells [.d (dS a.2.1.1), .row 1 1 a.2.2.1.1, .row 2 5 a.2.2.2.1.1, .row 3 6 a.2.2.2.2.1.1, .row 4 12 a.2.2.2.2.2.1.1, .mp 5] 69), (1, .row a.2.2.1.1 a.2.2.1.2 1 9), (2, .row a.2.2.2.1.1 a.2.2.2.1.2 5 50), (3, .row a.2.2.2.2.1.1 a.2.2.2.2.1.2 6 53), (4, .row a.2.2.2.2.2.1.1 (cn a.2.2.2.2.2.1.1 a.2.2.2.2.2.1.2) 12 44), (5, .map 0 a.2.2.2.2.2.2.1)]
noncomputable def o32 (cn : Nat → (Nat → List D) → (Nat → List D)) (bc : RBay → List D) (ok : (Unit × RBay × Unit) × A5 → Bool) (er : (Unit × RBay × Unit) × A5 → Int) : Orc := Orc.cons 47 (ansB d55 ok (fun a => er a == 0) (fun _ => vI 0) (h33 cn bc) (fun a => vI (er a)) (h33e cn)) Orc.nil
noncomputable def ann32 : Ann := annOf [(2, ⟨[1, 8, 9, 10], [(1, 4, 12, 44)]⟩)]
noncomputable def L32_2 (cn : Nat → (Nat → List D) → (Nat → List D)) (bc : RBay → List D) (ok : (Unit × RBay × Unit) × A5 → Bool) (er : (Unit × RBay × Unit) × A5 → Int) (l : List SBay) (s0 : ByteArray) (ka : Nat) (ga : Nat → List D) (kb : Nat) (gb : Nat → List D) (kc : Nat) (gc : Nat → List D) (mpa : List (Value × Value)) (g m : Nat) (l4 : List (Value × Value)) (n5 : Nat) (f5 : Nat → List D) (i10 : Int) := LK Tryd.prog (o32 cn bc ok er) ann32 (List.length (α := Nat × Blk) [(0, .cells [.d (dS s0), .row 1 1 ka, .row 2 5 kb, .row 3 6 kc, nilC, .mp 4] 69), (1, .row ka ga 1 9), (2, .row kb gb 5 50), (3, .row kc gc 6 53), (4, .map 0 mpa)]) g Tryd.f46 2 m ⟨frm [(1, AV.c (C.fn 47 [Rf.ptr 0 0] [])), (8, AV.c (C.d (D.sl 12 (List.length l) fun i => bayC (List.getD l i bay0)))), (9, AV.c (C.d (D.v (Value.int IntKind.i64 (↑(List.length l) : Int))))), (10, AV.c (C.d (D.v (Value.int IntKind.i64 i10))))] 0 Tryd.f46.ntmps, [(0, Blk.cells [C.d (D.v (Value.string s0)), C.row 1 1 ka, C.row 2 5 kb, C.row 3 6 kc, C.row 5 12 n5, C.mp 4] 69), (1, Blk.row ka ga 1 9), (2, Blk.row kb gb 5 50), (3, Blk.row kc gc 6 53), (4, Blk.map 0 l4), (5, Blk.row n5 f5 12 44)], 6⟩
theorem b32 : Tryd.f46.body = some (bodyOf Tryd.f46) := by kernel_rfl
theorem ev32 (cn : Nat → (Nat → List D) → (Nat → List D)) (bc : RBay → List D) (ok : (Unit × RBay × Unit) × A5 → Bool) (er : (Unit × RBay × Unit) × A5 → Int) (l : List SBay) (s0 : ByteArray) (ka : Nat) (ga : Nat → List D) (kb : Nat) (gb : Nat → List D) (kc : Nat) (gc : Nat → List D) (mpa : List (Value × Value)) (g : Nat) : callC Tryd.prog (o32 cn bc ok er) ann32 g Tryd.f46 (bodyOf Tryd.f46) [.c (.d (baysD l)), fnOf 47] [(0, .cells [.d (dS s0), .row 1 1 ka, .row 2 5 kb, .row 3 6 kc, nilC, .mp 4] 69), (1, .row ka ga 1 9), (2, .row kb gb 5 50), (3, .row kc gc 6 53), (4, .map 0 mpa)] =
 L32_2 cn bc ok er l s0 ka ga kb gb kc gc mpa g g mpa 0 (fun x => []) ((0 : Int)) := by kernel_rfl
theorem st32_2 (cn : Nat → (Nat → List D) → (Nat → List D)) (bc : RBay → List D) (ok : (Unit × RBay × Unit) × A5 → Bool) (er : (Unit × RBay × Unit) × A5 → Int) (l : List SBay) (s0 : ByteArray) (ka : Nat) (ga : Nat → List D) (kb : Nat) (gb : Nat → List D) (kc : Nat) (gc : Nat → List D) (mpa : List (Value × Value)) (g m : Nat) (l4 : List (Value × Value)) (n5 : Nat) (f5 : Nat → List D) (i10 : Int) : L32_2 cn bc ok er l s0 ka ga kb gb kc gc mpa g (m + 1) l4 n5 f5 i10 =
 (bif decide (i10 < (↑(List.length l) : Int)) then (bif decide ((0 : Int) ≤ i10) && decide (i10 < (↑(List.length l) : Int)) then (bif ok (((), (SBay.name (List.getD l (Int.toNat i10)
 bay0), SBay.kind (List.getD l (Int.toNat i10) bay0), SBay.off (List.getD l (Int.toNat i10) bay0), SBay.fin (List.getD l (Int.toNat i10) bay0), SBay.zr (List.getD l (Int.toNat i10)
 bay0), SBay.zx (List.getD l (Int.toNat i10) bay0), linksD (SBay.links (List.getD l (Int.toNat i10) bay0)), SBay.closed (List.getD l (Int.toNat i10) bay0), SBay.ct (List.getD l
 (Int.toNat i10) bay0), SBay.vt (List.getD l (Int.toNat i10) bay0), SBay.sat (List.getD l (Int.toNat i10) bay0), SBay.travel (List.getD l (Int.toNat i10) bay0), ()), ()), (s0, ka,
 kb, kc, n5, (), ()), (ka, ga), (kb, gb), (kc, gc), (n5, f5), l4, ()) then (bif er (((), (SBay.name (List.getD l (Int.toNat i10) bay0), SBay.kind (List.getD l (Int.toNat i10) bay0),
 SBay.off (List.getD l (Int.toNat i10) bay0), SBay.fin (List.getD l (Int.toNat i10) bay0), SBay.zr (List.getD l (Int.toNat i10) bay0), SBay.zx (List.getD l (Int.toNat i10) bay0),
 linksD (SBay.links (List.getD l (Int.toNat i10) bay0)), SBay.closed (List.getD l (Int.toNat i10) bay0), SBay.ct (List.getD l (Int.toNat i10) bay0), SBay.vt (List.getD l (Int.toNat
 i10) bay0), SBay.sat (List.getD l (Int.toNat i10) bay0), SBay.travel (List.getD l (Int.toNat i10) bay0), ()), ()), (s0, ka, kb, kc, n5, (), ()), (ka, ga), (kb, gb), (kc, gc), (n5,
 f5), l4, ()) == (0 : Int) then L32_2 cn bc ok er l s0 ka ga kb gb kc gc mpa g m ((Value.string (SBay.name (List.getD l (Int.toNat i10) bay0)), Value.bool true) :: Prod.fst (Prod.snd
 (Prod.snd (Prod.snd (Prod.snd (Prod.snd (Prod.snd (((), (SBay.name (List.getD l (Int.toNat i10) bay0), SBay.kind (List.getD l (Int.toNat i10) bay0), SBay.off (List.getD l (Int.toNat
 i10) bay0), SBay.fin (List.getD l (Int.toNat i10) bay0), SBay.zr (List.getD l (Int.toNat i10) bay0), SBay.zx (List.getD l (Int.toNat i10) bay0), linksD (SBay.links (List.getD l
 (Int.toNat i10) bay0)), SBay.closed (List.getD l (Int.toNat i10) bay0), SBay.ct (List.getD l (Int.toNat i10) bay0), SBay.vt (List.getD l (Int.toNat i10) bay0), SBay.sat (List.getD l
 (Int.toNat i10) bay0), SBay.travel (List.getD l (Int.toNat i10) bay0), ()), ()), (s0, ka, kb, kc, n5, (), ()), (ka, ga), (kb, gb), (kc, gc), (n5, f5), l4, ())))))))) (n5 + (1 :
 Nat)) (appF n5 (cn n5 f5) (chunk (bc (SBay.name (List.getD l (Int.toNat i10) bay0), SBay.kind (List.getD l (Int.toNat i10) bay0), SBay.off (List.getD l (Int.toNat i10) bay0),
 SBay.fin (List.getD l (Int.toNat i10) bay0), SBay.zr (List.getD l (Int.toNat i10) bay0), SBay.zx (List.getD l (Int.toNat i10) bay0), linksD (SBay.links (List.getD l (Int.toNat i10)
 bay0)), SBay.closed (List.getD l (Int.toNat i10) bay0), SBay.ct (List.getD l (Int.toNat i10) bay0), SBay.vt (List.getD l (Int.toNat i10) bay0), SBay.sat (List.getD l (Int.toNat i10)
 bay0), SBay.travel (List.getD l (Int.toNat i10) bay0), ())) 12)) (IntKind.wrap IntKind.i64 (i10 + (1 : Int))) else (bif er (((), (SBay.name (List.getD l (Int.toNat i10)
 bay0), SBay.kind (List.getD l (Int.toNat i10) bay0), SBay.off (List.getD l (Int.toNat i10) bay0), SBay.fin (List.getD l (Int.toNat i10) bay0), SBay.zr (List.getD l (Int.toNat i10)
 bay0), SBay.zx (List.getD l (Int.toNat i10) bay0), linksD (SBay.links (List.getD l (Int.toNat i10) bay0)), SBay.closed (List.getD l (Int.toNat i10) bay0), SBay.ct (List.getD l
 (Int.toNat i10) bay0), SBay.vt (List.getD l (Int.toNat i10) bay0), SBay.sat (List.getD l (Int.toNat i10) bay0), SBay.travel (List.getD l (Int.toNat i10) bay0), ()), ()), (s0, ka,
 kb, kc, n5, (), ()), (ka, ga), (kb, gb), (kc, gc), (n5, f5), l4, ()) != (0 : Int) then some (T.leaf (AV.c (.d (.v (.int .i64 (er (((), (SBay.name (List.getD l
 (Int.toNat i10) bay0), SBay.kind (List.getD l (Int.toNat i10) bay0), SBay.off (List.getD l (Int.toNat i10) bay0), SBay.fin (List.getD l (Int.toNat i10) bay0), SBay.zr (List.getD l
 (Int.toNat i10) bay0), SBay.zx (List.getD l (Int.toNat i10) bay0), linksD (SBay.links (List.getD l (Int.toNat i10) bay0)), SBay.closed (List.getD l (Int.toNat i10) bay0), SBay.ct
 (List.getD l (Int.toNat i10) bay0), SBay.vt (List.getD l (Int.toNat i10) bay0), SBay.sat (List.getD l (Int.toNat i10) bay0), SBay.travel (List.getD l (Int.toNat i10) bay0), ()),
 ()), (s0, ka, kb, kc, n5, (), ()), (ka, ga), (kb, gb), (kc, gc), (n5, f5), l4, ()))))), [(0, Blk.cells [C.d (.v (.string s0)), C.row (1) (1) ka, C.row
 (2) (5) kb, C.row (3) (6) kc, C.row (5) (12) n5, C.mp (4)] (69)), (1, Blk.row ka ga (1) (9)),
 (2, Blk.row kb gb (5) (50)), (3, Blk.row kc gc (6) (53)), (4, Blk.map (0) (Prod.fst (Prod.snd (Prod.snd (Prod.snd
 (Prod.snd (Prod.snd (Prod.snd (((), (SBay.name (List.getD l (Int.toNat i10) bay0), SBay.kind (List.getD l (Int.toNat i10) bay0), SBay.off (List.getD l (Int.toNat i10) bay0),
 SBay.fin (List.getD l (Int.toNat i10) bay0), SBay.zr (List.getD l (Int.toNat i10) bay0), SBay.zx (List.getD l (Int.toNat i10) bay0), linksD (SBay.links (List.getD l (Int.toNat i10)
 bay0)), SBay.closed (List.getD l (Int.toNat i10) bay0), SBay.ct (List.getD l (Int.toNat i10) bay0), SBay.vt (List.getD l (Int.toNat i10) bay0), SBay.sat (List.getD l (Int.toNat i10)
 bay0), SBay.travel (List.getD l (Int.toNat i10) bay0), ()), ()), (s0, ka, kb, kc, n5, (), ()), (ka, ga), (kb, gb), (kc, gc), (n5, f5), l4, ()))))))))), (5, Blk.row n5 (cn n5
 f5) (12) (44))])) else L32_2 cn bc ok er l s0 ka ga kb gb kc gc mpa g m (Prod.fst (Prod.snd (Prod.snd (Prod.snd (Prod.snd (Prod.snd (Prod.snd (((), (SBay.name
 (List.getD l (Int.toNat i10) bay0), SBay.kind (List.getD l (Int.toNat i10) bay0), SBay.off (List.getD l (Int.toNat i10) bay0), SBay.fin (List.getD l (Int.toNat i10) bay0), SBay.zr
 (List.getD l (Int.toNat i10) bay0), SBay.zx (List.getD l (Int.toNat i10) bay0), linksD (SBay.links (List.getD l (Int.toNat i10) bay0)), SBay.closed (List.getD l (Int.toNat i10)
 bay0), SBay.ct (List.getD l (Int.toNat i10) bay0), SBay.vt (List.getD l (Int.toNat i10) bay0), SBay.sat (List.getD l (Int.toNat i10) bay0), SBay.travel (List.getD l (Int.toNat i10)
 bay0), ()), ()), (s0, ka, kb, kc, n5, (), ()), (ka, ga), (kb, gb), (kc, gc), (n5, f5), l4, ())))))))) n5 (cn n5 f5) (IntKind.wrap IntKind.i64 (i10 + (1 : Int))))) else none) else
 none) else some (T.leaf (AV.c (.d (.v (.int .i64 (0 : Int)))), [(0, Blk.cells [C.d (.v (.string s0)), C.row (1) (1) ka, C.row (2)
 (5) kb, C.row (3) (6) kc, C.row (5) (12) n5, C.mp (4)] (69)), (1, Blk.row ka ga (1) (9)), (2,
 Blk.row kb gb (5) (50)), (3, Blk.row kc gc (6) (53)), (4, Blk.map (0) l4), (5, Blk.row n5 f5 (12) ((44 :
 Nat)))]))) := by kernel_rfl
end Go.Proofs.YthmapnolgdpkbaaDoor.st
namespace Go.Proofs.YthmapnolgdpkbaaDoor.st
open Go.RowKit Go.Eb

theorem appOk {k b : Nat} (h : k + 1 ≤ 1000) (hb : b ≤ 1000) : (decide ((k + 1) * b ≤ 140737488355328) && decide (k + 1 ≤ 9223372036854775807)) = true := by
  have h1 : (k + 1) * b ≤ 1000 * 1000 := Nat.mul_le_mul h hb
  rw [decide_eq_true (by omega), decide_eq_true (by omega)]; rfl

theorem sNm : OrcS Tryd.prog (oNm nameOk) := .cons (.p decS_ok c15) .nil
theorem sNam : OrcS Tryd.prog (oNam nameOk) := .cons (.inl sNm Tryd.func69 (by kernel_rfl)) .nil
theorem s26 : OrcS Tryd.prog (o26 nameOk) := .cons (.inl sNam Tryd.func41 (by kernel_rfl)) .nil
theorem sWi : OrcS Tryd.prog oWi := .cons (.inl .nil Tryd.func71 (by kernel_rfl)) .nil
theorem sIm : OrcS Tryd.prog (oIm nameOk) := .cons (.inl sWi Tryd.func70 (by kernel_rfl)) (.cons (.inl .nil Tryd.func71 (by kernel_rfl)) sNam)
theorem s28 : OrcS Tryd.prog (o28 nameOk) := .cons (.inl sIm Tryd.func43 (by kernel_rfl)) .nil
theorem s30 : OrcS Tryd.prog (o30 nameOk) := .cons (.inl sIm Tryd.func45 (by kernel_rfl)) .nil

theorem c26 (l : List ByteArray) (s0 : ByteArray) (N : List ByteArray) (hl : l.length ≤ 900) :
    CX Tryd.prog 40 [.c (.d (busesD l)), fnOf 41] (H1 s0 (mapOf N)) (vI (takeN id (fun N _ x => namErr N x) N [] l).1)
      (H1' s0 (mapOf (N ++ (takeN id (fun N _ x => namErr N x) N [] l).2.map id)) (takeN id (fun N _ x => namErr N x) N [] l).2.length (fun i => busC ((takeN id (fun N _ x => namErr N x) N [] l).2.getD i e0))) := by
  obtain ⟨g, hg⟩ : ∃ g, l.length < g := ⟨l.length + 1, by omega⟩
  obtain ⟨f', hr, he⟩ := first_loop (nm := id) (F := fun N _ x => namErr N x) (N := N) (c := busC) (d0 := e0) (l := l) (L := fun m mp n f i => L26_2 nameOk l s0 (mapOf N) g m mp n f i) (HX := fun mp n f => H1' s0 mp n f)
    (fun m k before f hk hb hr => by
      refine ⟨_, f, hr.app' rfl, hr, ?_⟩
      rw [st26_2]
      simp only [lt1 hk, ge0, tn, Bool.and_self, cond_true, nx hk (by omega), assoc_mapOf, appOk (k := k) (b := 16) (by omega) (by omega)]
      unfold namErr
      simp only [id]
      cases nameOk (l.getD k e0) with
      | false => rfl
      | true => cases inB (N ++ before.map id) (l.getD k e0) <;> rfl)
    (fun m mp n f => by
      rw [st26_2, lt0 (Nat.lt_irrefl _)]
      rfl) g 0 [] (fun _ => []) (by omega) (by omega) rfl (.nil _)
  have hev := ev26 nameOk l s0 (mapOf N) g
  simp only [List.map_nil, List.append_nil, List.drop_zero] at he hr
  refine (cx_of s26.ok Tryd.func40 b26 rfl (hev.trans he)).le (.refl _) ?_
  exact .cons (.refl _) (.cons (.refl _) (.cons hr.ble .nil))

theorem c28 (l : List SLine) (s0 : ByteArray) (ka : Nat) (ga : Nat → List D) (N : List ByteArray) (hl : l.length ≤ 900) :
    CX Tryd.prog 42 [.c (.d (linesD l)), fnOf 43] (H2 s0 ka ga (mapOf N)) (vI (tLine N l).1)
      (H2' s0 ka ga (mapOf (N ++ (tLine N l).2.map SLine.name)) (tLine N l).2.length (fun i => lineC ((tLine N l).2.getD i line0))) := by
  obtain ⟨g, hg⟩ : ∃ g, l.length < g := ⟨l.length + 1, by omega⟩
  obtain ⟨f', hr, he⟩ := first_loop (nm := SLine.name) (F := fun N _ x => lineErr N x) (N := N) (c := lineC) (d0 := line0) (l := l) (L := fun m mp n f i => L28_2 nameOk l s0 ka ga (mapOf N) g m mp n f i) (HX := fun mp n f => H2' s0 ka ga mp n f)
    (fun m k before f hk hb hr => by
      refine ⟨_, f, hr.app' rfl, hr, ?_⟩
      rw [st28_2]
      simp only [lt1 hk, ge0, tn, Bool.and_self, cond_true, nx hk (by omega), assoc_mapOf, appOk (k := k) (b := 48) (by omega) (by omega), fNot, fAnd]
      unfold lineErr namErr impOk within
      cases nameOk (l.getD k line0).name with
      | false => rfl
      | true =>
        cases inB (N ++ before.map SLine.name) (l.getD k line0).name with
        | true => rfl
        | false =>
          generalize decide ((l.getD k line0).r1 ≥ 0) = b1
          generalize decide ((l.getD k line0).r1 ≤ 1000) = b2
          generalize decide ((l.getD k line0).x1 ≥ 1) = b3
          generalize decide ((l.getD k line0).x1 ≤ 1000) = b4
          generalize decide ((l.getD k line0).r0 ≥ 0) = b5
          generalize decide ((l.getD k line0).r0 ≤ 1000) = b6
          generalize decide ((l.getD k line0).x0 ≥ 1) = b7
          generalize decide ((l.getD k line0).x0 ≤ 1000) = b8
          cases b1 <;> cases b2 <;> cases b3 <;> cases b4 <;> first | rfl | (cases b5 <;> cases b6 <;> cases b7 <;> cases b8 <;> rfl))
    (fun m mp n f => by
      rw [st28_2, lt0 (Nat.lt_irrefl _)]
      rfl) g 0 [] (fun _ => []) (by omega) (by omega) rfl (.nil _)
  have hev := ev28 nameOk l s0 ka ga (mapOf N) g
  simp only [List.map_nil, List.append_nil, List.drop_zero] at he hr
  refine (cx_of s28.ok Tryd.func42 b28 rfl (hev.trans he)).le (.refl _) ?_
  exact .cons (.refl _) (.cons (.refl _) (.cons (.refl _) (.cons hr.ble .nil)))

theorem c30 (l : List SSrc) (s0 : ByteArray) (ka : Nat) (ga : Nat → List D) (kb : Nat) (gb : Nat → List D) (N : List ByteArray) (hl : l.length ≤ 900) :
    CX Tryd.prog 44 [.c (.d (srcsD l)), fnOf 45] (H3 s0 ka ga kb gb (mapOf N)) (vI (tSrc N l).1)
      (H3' s0 ka ga kb gb (mapOf (N ++ (tSrc N l).2.map SSrc.name)) (tSrc N l).2.length (fun i => srcC' ((tSrc N l).2.getD i src0))) := by
  obtain ⟨g, hg⟩ : ∃ g, l.length < g := ⟨l.length + 1, by omega⟩
  obtain ⟨f', hr, he⟩ := first_loop (nm := SSrc.name) (F := fun N _ x => srcErr N x) (N := N) (c := srcC') (d0 := src0) (l := l) (L := fun m mp n f i => L30_2 nameOk l s0 ka ga kb gb (mapOf N) g m mp n f i) (HX := fun mp n f => H3' s0 ka ga kb gb mp n f)
    (fun m k before f hk hb hr => by
      refine ⟨_, f, hr.app' rfl, hr, ?_⟩
      rw [st30_2]
      simp only [lt1 hk, ge0, tn, Bool.and_self, cond_true, nx hk (by omega), assoc_mapOf, appOk (k := k) (b := 56) (by omega) (by omega), fNot, fAnd]
      unfold srcErr namErr impOk within
      cases nameOk (l.getD k src0).name with
      | false => rfl
      | true =>
        cases inB (N ++ before.map SSrc.name) (l.getD k src0).name with
        | true => rfl
        | false =>
          generalize decide ((l.getD k src0).emf ≥ 1) = a1
          generalize decide ((l.getD k src0).emf ≤ 1000000) = a2
          generalize decide ((l.getD k src0).r1 ≥ 0) = b1
          generalize decide ((l.getD k src0).r1 ≤ 1000) = b2
          generalize decide ((l.getD k src0).x1 ≥ 1) = b3
          generalize decide ((l.getD k src0).x1 ≤ 1000) = b4
          generalize decide ((l.getD k src0).r0 ≥ 0) = b5
          generalize decide ((l.getD k src0).r0 ≤ 1000) = b6
          generalize decide ((l.getD k src0).x0 ≥ 1) = b7
          generalize decide ((l.getD k src0).x0 ≤ 1000) = b8
          cases a1 <;> cases a2 <;> first | rfl | (cases b1 <;> cases b2 <;> cases b3 <;> cases b4 <;> first | rfl | (cases b5 <;> cases b6 <;> cases b7 <;> cases b8 <;> rfl)))
    (fun m mp n f => by
      rw [st30_2, lt0 (Nat.lt_irrefl _)]
      rfl) g 0 [] (fun _ => []) (by omega) (by omega) rfl (.nil _)
  have hev := ev30 nameOk l s0 ka ga kb gb (mapOf N) g
  simp only [List.map_nil, List.append_nil, List.drop_zero] at he hr
  refine (cx_of s30.ok Tryd.func44 b30 rfl (hev.trans he)).le (.refl _) ?_
  exact .cons (.refl _) (.cons (.refl _) (.cons (.refl _) (.cons (.refl _) (.cons hr.ble .nil))))
end Go.Proofs.YthmapnolgdpkbaaDoor.st
namespace Go.Proofs.YthmapnolgdpkbaaDoor.st
open Go.RowKit Go.Eb

abbrev lI (e : Int) (H : Hp) : Option (T (AV × Hp)) := some (.leaf (vI e, H))
theorem w1 {k : Nat} (h : k ≤ 9223372036854775807) : IntKind.wrap IntKind.i64 ((k : Int) - 1) = (k : Int) - 1 := wrap_id (by omega) (by omega)
theorem len_lt1 (n : Nat) : decide ((n : Int) < 1) = decide (n < 1) := by rw [decide_eq_decide]; omega
theorem len_gt2 (n : Nat) : decide ((n : Int) > 2) = decide (2 < n) := by rw [decide_eq_decide]; omega
theorem len_ne2 (n : Nat) : ((n : Int) != 2) = (n != 2) := by
  rw [Bool.eq_iff_iff]; simp only [bne_iff_ne]; omega
theorem gt0 (k : Nat) : decide ((k : Int) > 0) = decide (0 < k) := by rw [decide_eq_decide]; omega

section
variable (x : SBay) (s0 : ByteArray) (ka : Nat) (ga : Nat → List D) (kb : Nat) (gb : Nat → List D) (kc : Nat) (gc : Nat → List D) (kd : Nat) (gd : Nat → List D) (mpa : List (Value × Value))
def prevB (l : List SLink) : Nat → Option Int
  | 0 => none
  | k + 1 => some (l.getD k link0).bus
theorem lp55 (hka : ka ≤ 9223372036854775807) (hl : x.links.length ≤ 9223372036854775807) (g : Nat) : ∀ (m k : Nat), k ≤ x.links.length → x.links.length - k < m →
    L55_5 x s0 ka ga kb gb kc gc kd gd mpa g m k = lI (linkErr ka x.kind (prevB x.links k) (x.links.drop k)) (H5 s0 ka ga kb gb kc gc kd gd mpa)
  | 0, k, _, h => by omega
  | m + 1, k, hk, h => by
    rw [st55_5]
    by_cases hlt : k < x.links.length
    · have ih := lp55 hka hl g m (k + 1) (by omega) (by omega)
      rw [drop_at' (d := link0) hlt]
      simp only [lt1 hlt, ge0, tn, Bool.and_self, cond_true, nx hlt (by omega), ih, w1 hka, linkErr, within]
      cases k with
      | zero =>
        simp only [prevB, List.getD_cons_zero]
        generalize decide ((x.links.getD 0 link0).bus ≥ 0) = b1
        generalize decide ((x.links.getD 0 link0).bus ≤ (ka : Int) - 1) = b2
        generalize ((x.links.getD 0 link0).pos != 1) = b3
        generalize ((x.links.getD 0 link0).pos != 0) = b4
        generalize (x.kind == 3) = b5
        cases b1 <;> cases b2 <;> cases b3 <;> cases b4 <;> cases b5 <;> rfl
      | succ k =>
        have e1 : IntKind.wrap IntKind.i64 (((k + 1 : Nat) : Int) - 1) = (k : Int) := by rw [wrap_id (by omega) (by omega)]; omega
        have e2 : decide (((k + 1 : Nat) : Int) > 0) = true := by rw [gt0]; simp
        have e3 : decide ((k : Int) < (x.links.length : Int)) = true := lt1 (by omega)
        have e4 : (some (x.links.getD k link0).bus == some (x.links.getD (k + 1) link0).bus) = ((x.links.getD k link0).bus == (x.links.getD (k + 1) link0).bus) := rfl
        simp only [prevB, e1, e2, e3, e4, ge0, tn, Bool.and_self, cond_true]
        generalize decide ((x.links.getD (k + 1) link0).bus ≥ 0) = b1
        generalize decide ((x.links.getD (k + 1) link0).bus ≤ (ka : Int) - 1) = b2
        generalize ((x.links.getD (k + 1) link0).pos != 1) = b3
        generalize ((x.links.getD (k + 1) link0).pos != 0) = b4
        generalize (x.kind == 3) = b5
        generalize ((x.links.getD k link0).bus == (x.links.getD (k + 1) link0).bus) = b6
        cases b1 <;> cases b2 <;> cases b3 <;> cases b4 <;> cases b5 <;> cases b6 <;> rfl
    · rw [lt0 hlt, List.drop_of_length_le (by omega)]
      rfl
theorem c55 (hka : ka ≤ 9223372036854775807) (hl : x.links.length ≤ 9223372036854775807) : CX Tryd.prog 73 [.c (.ptr 0 0), aBay x] (H5 s0 ka ga kb gb kc gc kd gd mpa) (vI (linksErr ka x)) (H5 s0 ka ga kb gb kc gc kd gd mpa) := by
  obtain ⟨g, hg⟩ : ∃ g, x.links.length < g := ⟨x.links.length + 1, by omega⟩
  refine cx_of (sWi.ok) Tryd.func73 b55 rfl ((ev55 x s0 ka ga kb gb kc gc kd gd mpa g).trans ?_)
  have := lp55 x s0 ka ga kb gb kc gc kd gd mpa hka hl g g 0 (by omega) (by omega)
  have e0 : L55_5 x s0 ka ga kb gb kc gc kd gd mpa g g 0 = lI (linkErr ka x.kind none x.links) (H5 s0 ka ga kb gb kc gc kd gd mpa) := this
  rw [e0, len_lt1, len_gt2, len_ne2]
  unfold linksErr
  generalize decide (x.links.length < 1) = b1
  generalize decide (2 < x.links.length) = b2
  generalize (x.kind == 3) = b3
  generalize (x.links.length != 2) = b4
  cases b1 <;> cases b2 <;> cases b3 <;> cases b4 <;> rfl
end

theorem s54 : OrcS Tryd.prog o54 := .cons (.inl sWi Tryd.func70 (by kernel_rfl)) sWi
theorem c54 (x : SBay) : CX Tryd.prog 72 [aBay x] [] (vB (rngOk x)) [] := by
  refine cx_of s54.ok Tryd.func72 b54 rfl ((ev54 x 1).trans ?_)
  simp only [fNot, bAnd, neN, Bool.and_true]
  unfold rngOk impOk within
  cases (x.kind == 3) with
  | true =>
    simp only [cond_true]
    cases (x.kind == 1) <;> simp only [cond_true, cond_false, Bool.and_assoc, bAnd]
  | false =>
    simp only [cond_false]
    cases (x.kind == 1) <;> simp only [cond_true, cond_false, Bool.and_assoc, bAnd]

def eqs (a : A5) : Bool := Nat.beq a.1.2.1 a.2.1.1 && (Nat.beq a.1.2.2.1 a.2.2.1.1 && (Nat.beq a.1.2.2.2.1 a.2.2.2.1.1 && (Nat.beq a.1.2.2.2.2.1 a.2.2.2.2.1.1 && (Nat.ble a.1.2.1 900 && (Nat.ble a.1.2.2.1 900 && (Nat.ble a.1.2.2.2.1 900 && Nat.ble a.1.2.2.2.2.1 900))))))
theorem enc55 (a : (Unit × RBay × Unit) × A5) (h : eqs a.2 = true) : (d55.enc a).2 = H5 a.2.1.1 a.2.2.1.1 a.2.2.1.2 a.2.2.2.1.1 a.2.2.2.1.2 a.2.2.2.2.1.1 a.2.2.2.2.1.2 a.2.2.2.2.2.1.1 a.2.2.2.2.2.1.2 a.2.2.2.2.2.2.1 ∧ (a.2.2.1.1 ≤ 900 ∧ a.2.2.2.1.1 ≤ 900 ∧ a.2.2.2.2.1.1 ≤ 900 ∧ a.2.2.2.2.2.1.1 ≤ 900) := by
  unfold eqs at h
  simp only [Bool.and_eq_true] at h
  obtain ⟨h1, h2, h3, h4, h5, h6, h7, h8⟩ := h
  have e1 := Nat.eq_of_beq_eq_true h1
  have e2 := Nat.eq_of_beq_eq_true h2
  have e3 := Nat.eq_of_beq_eq_true h3
  have e4 := Nat.eq_of_beq_eq_true h4
  have g5 := Nat.le_of_ble_eq_true h5
  have g6 := Nat.le_of_ble_eq_true h6
  have g7 := Nat.le_of_ble_eq_true h7
  have g8 := Nat.le_of_ble_eq_true h8
  refine ⟨?_, by omega, by omega, by omega, by omega⟩
  show [(0, Blk.cells [.d (dS a.2.1.1), .row 1 1 a.2.1.2.1, .row 2 5 a.2.1.2.2.1, .row 3 6 a.2.1.2.2.2.1, .row 4 12 a.2.1.2.2.2.2.1, .mp 5] 69), (1, .row a.2.2.1.1 a.2.2.1.2 1 9), (2, .row a.2.2.2.1.1 a.2.2.2.1.2 5 50), (3, .row a.2.2.2.2.1.1 a.2.2.2.2.1.2 6 53), (4, .row a.2.2.2.2.2.1.1 a.2.2.2.2.2.1.2 12 44), (5, .map 0 a.2.2.2.2.2.2.1)] = _
  rw [e1, e2, e3, e4]

noncomputable def ok33 (a : (Unit × RBay × Unit) × A5) : Bool := okRB a.1.2.1 && eqs a.2
noncomputable def lk33 (a : (Unit × RBay × Unit) × A5) : Int := linksErr a.2.2.1.1 (rbay a.1.2.1)
theorem okRB_len {x : RBay} (h : okRB x = true) : (rbay x).links.length ≤ 9223372036854775807 := by
  unfold okRB okLk at h
  simp only [Bool.and_eq_true, decide_eq_true_eq] at h
  exact h.2
theorem s33 : OrcS Tryd.prog (o33 nameOk okRB (fun a => rngOk (rbay a)) ok33 lk33) := by
  refine .cons (.d fun a ha => ?_) (.cons (.d fun a ha => ?_) sIm)
  · unfold ok33 at ha
    simp only [Bool.and_eq_true] at ha
    obtain ⟨e, h1, _⟩ := enc55 a ha.2
    rw [e]
    exact (c55 (rbay a.1.2.1) _ _ _ _ _ _ _ _ _ _ (by omega) (okRB_len ha.1)).ge (.cons (.refl _) (.cons (bay_le _ ha.1) .nil)) (.refl _)
  · exact (c54 (rbay a.1.1)).ge (.cons (bay_le _ ha) .nil) (.refl _)

section
variable (x : SBay) (s0 : ByteArray) (ka : Nat) (ga : Nat → List D) (kb : Nat) (gb : Nat → List D) (kc : Nat) (gc : Nat → List D) (bs : List SBay) (mpa : List (Value × Value))
abbrev cnB (bs : List SBay) : Nat → List D := fun i => bayC (bs.getD i bay0)
def H33 : Hp := [(0, .cells [.d (dS s0), .row 1 1 ka, .row 2 5 kb, .row 3 6 kc, .row 6 12 (bs.length + 1), .mp 5] 69), (1, .row ka ga 1 9), (2, .row kb gb 5 50), (3, .row kc gc 6 53), (4, .dead), (5, .map 0 ((.string x.name, .bool true) :: mpa)), (6, .row (bs.length + 1) (appF bs.length (cnB bs) (chunk (bayC x) 12)) 12 44)]
def aft33 : Option (T (AV × Hp)) := bif linksErr ka x != 0 then lI (linksErr ka x) (H5 s0 ka ga kb gb kc gc bs.length (cnB bs) mpa) else lI 0 (H33 x s0 ka ga kb gb kc gc bs mpa)
theorem lp33 (hka : ka ≤ 900) (hkb : kb ≤ 900) (hkc : kc ≤ 900) (hbs : bs.length ≤ 900) (hl : x.links.length ≤ 9223372036854775807) (g : Nat) : ∀ (m k : Nat), k ≤ bs.length → bs.length - k < m →
    L33_18 nameOk okRB (fun a => rngOk (rbay a)) ok33 lk33 x s0 ka ga kb gb kc gc bs mpa g m k = bif (bs.drop k).any (clash x) then lI 12 (H5 s0 ka ga kb gb kc gc bs.length (cnB bs) mpa) else aft33 x s0 ka ga kb gb kc gc bs mpa
  | 0, k, _, h => by omega
  | m + 1, k, hk, h => by
    rw [st33_18]
    by_cases hlt : k < bs.length
    · have ih := lp33 hka hkb hkc hbs hl g m (k + 1) (by omega) (by omega)
      rw [drop_at' (d := bay0) hlt]
      simp only [lt1 hlt, ge0, tn, Bool.and_self, cond_true, nx hlt (by omega), ih, List.any_cons, clash]
      generalize (x.kind != 3) = b1
      generalize (x.kind == (bs.getD k bay0).kind) = b2
      generalize (x.off == (bs.getD k bay0).off) = b3
      generalize (x.fin == (bs.getD k bay0).fin) = b4
      cases b1 <;> cases b2 <;> cases b3 <;> cases b4 <;> rfl
    · rw [lt0 hlt, List.drop_of_length_le (by omega)]
      have hok : ok33 (((), bayR x, ()), (s0, ka, kb, kc, bs.length, (), ()), (ka, ga), (kb, gb), (kc, gc), (bs.length, cnB bs), mpa, ()) = true := by
        unfold ok33
        have e1 : okRB (bayR x) = true := okLk_links hl
        have e2 : eqs ((s0, ka, kb, kc, bs.length, (), ()), (ka, ga), (kb, gb), (kc, gc), (bs.length, cnB bs), mpa, ()) = true := by
          unfold eqs
          simp only [Nat.beq_refl, Bool.true_and, bleD, decide_eq_true hka, decide_eq_true hkb, decide_eq_true hkc, decide_eq_true hbs]
        simp only [e1, e2, Bool.and_self]
      have hlk : lk33 (((), bayR x, ()), (s0, ka, kb, kc, bs.length, (), ()), (ka, ga), (kb, gb), (kc, gc), (bs.length, cnB bs), mpa, ()) = linksErr ka x := by
        unfold lk33
        simp only [rbay_bayR]
      simp only [cond_false, List.any_nil]
      show (bif ok33 (((), bayR x, ()), (s0, ka, kb, kc, bs.length, (), ()), (ka, ga), (kb, gb), (kc, gc), (bs.length, cnB bs), mpa, ()) then (bif lk33 (((), bayR x, ()), (s0, ka, kb, kc, bs.length, (), ()), (ka, ga), (kb, gb), (kc, gc), (bs.length, cnB bs), mpa, ()) != 0 then
        lI (lk33 (((), bayR x, ()), (s0, ka, kb, kc, bs.length, (), ()), (ka, ga), (kb, gb), (kc, gc), (bs.length, cnB bs), mpa, ())) (H5 s0 ka ga kb gb kc gc bs.length (cnB bs) mpa) else
        (bif decide ((bs.length + 1) * 120 ≤ 140737488355328) && decide (bs.length + 1 ≤ 9223372036854775807) then lI 0 (H33 x s0 ka ga kb gb kc gc bs mpa) else none)) else none) = _
      rw [hok, hlk, appOk (k := bs.length) (b := 120) (by omega) (by omega)]
      unfold aft33
      cases (linksErr ka x != 0) <;> rfl

def r33 : Option (T (AV × Hp)) := bif bayErrD ka kb kc (boolOf (assoc mpa (.string x.name))) bs x != 0 then lI (bayErrD ka kb kc (boolOf (assoc mpa (.string x.name))) bs x) (H5 s0 ka ga kb gb kc gc bs.length (cnB bs) mpa) else lI 0 (H33 x s0 ka ga kb gb kc gc bs mpa)
theorem e33 (hka : ka ≤ 900) (hkb : kb ≤ 900) (hkc : kc ≤ 900) (hbs : bs.length ≤ 900) (hl : x.links.length ≤ 9223372036854775807) (g : Nat) (hg : bs.length < g) :
    callC Tryd.prog (o33 nameOk okRB (fun a => rngOk (rbay a)) ok33 lk33) ann33 g Tryd.f47 (bodyOf Tryd.f47) [.c (.ptr 0 0), aBay x] (H5 s0 ka ga kb gb kc gc bs.length (cnB bs) mpa) = r33 x s0 ka ga kb gb kc gc bs mpa := by
  refine (ev33 nameOk okRB (fun a => rngOk (rbay a)) ok33 lk33 x s0 ka ga kb gb kc gc bs mpa g).trans ?_
  have hL := lp33 x s0 ka ga kb gb kc gc bs mpa hka hkb hkc hbs hl g g 0 (by omega) (by omega)
  have hL0 : L33_18 nameOk okRB (fun a => rngOk (rbay a)) ok33 lk33 x s0 ka ga kb gb kc gc bs mpa g g 0 = bif bs.any (clash x) then lI 12 (H5 s0 ka ga kb gb kc gc bs.length (cnB bs) mpa) else aft33 x s0 ka ga kb gb kc gc bs mpa := hL
  have e1 : okRB (bayR x) = true := okLk_links hl
  have e2 : rngOk (rbay (bayR x)) = rngOk x := by rw [rbay_bayR]
  have e1' : okRB (x.name, x.kind, x.off, x.fin, x.zr, x.zx, linksD x.links, x.closed, x.ct, x.vt, x.sat, x.travel, ()) = true := e1
  have e2' : rngOk (rbay (x.name, x.kind, x.off, x.fin, x.zr, x.zx, linksD x.links, x.closed, x.ct, x.vt, x.sat, x.travel, ())) = rngOk x := e2
  have w0 : IntKind.wrap IntKind.i64 ((1 : Int) - 1) = (1 : Int) - 1 := by decide
  rw [hL0]
  simp only [e1', e2', w1 (show kb ≤ 9223372036854775807 by omega), w1 (show kc ≤ 9223372036854775807 by omega), w0, cond_true]
  unfold r33 bayErrD cntOf within aft33
  cases nameOk x.name with
  | false => rfl
  | true =>
    cases boolOf (assoc mpa (Value.string x.name)) with
    | true => rfl
    | false =>
      cases (x.kind == 1) with
      | true =>
        simp only [cond_true, cond_false, Bool.not_true]
        generalize decide (x.off ≥ 0) = b1
        generalize decide (x.off ≤ (kb : Int) - 1) = b2
        cases b1 <;> cases b2 <;> first | rfl | (cases rngOk x <;> first | rfl | (cases bs.any (clash x) <;> rfl))
      | false =>
        cases (x.kind == 2) with
        | true =>
          simp only [cond_true, cond_false, Bool.not_true]
          generalize decide (x.off ≥ 0) = b1
          generalize decide (x.off ≤ (kc : Int) - 1) = b2
          cases b1 <;> cases b2 <;> first | rfl | (cases rngOk x <;> first | rfl | (cases bs.any (clash x) <;> rfl))
        | false =>
          cases (x.kind == 3) with
          | true =>
            simp only [cond_true, cond_false, Bool.not_true]
            generalize decide (x.off ≥ 0) = b1
            generalize decide (x.off ≤ (1 : Int) - 1) = b2
            cases b1 <;> cases b2 <;> first | rfl | (cases rngOk x <;> first | rfl | (cases bs.any (clash x) <;> rfl))
          | false => rfl
end
end Go.Proofs.YthmapnolgdpkbaaDoor.st
namespace Go.Proofs.YthmapnolgdpkbaaDoor.st
open Go.RowKit Go.Eb

noncomputable def ok32 (a : (Unit × RBay × Unit) × A5) : Bool := (okRB a.1.2.1 && eqs a.2) && okE baysD (.sl 12 a.2.2.2.2.2.1.1 a.2.2.2.2.2.1.2)
noncomputable def er32 (a : (Unit × RBay × Unit) × A5) : Int := bayErrD a.2.2.1.1 a.2.2.2.1.1 a.2.2.2.2.1.1 (boolOf (assoc a.2.2.2.2.2.2.1 (.string (rbay a.1.2.1).name))) (theE baysD (.sl 12 a.2.2.2.2.2.1.1 a.2.2.2.2.2.1.2)) (rbay a.1.2.1)
noncomputable def cn32 (n : Nat) (f : Nat → List D) : Nat → List D := cnB (theE baysD (.sl 12 n f))
noncomputable def bc32 (x : RBay) : List D := bayC (rbay x)
theorem s32 : OrcS Tryd.prog (o32 cn32 bc32 ok32 er32) := by
  have key : ∀ a, ok32 a = true → ∀ e K, r33 (rbay a.1.2.1) a.2.1.1 a.2.2.1.1 a.2.2.1.2 a.2.2.2.1.1 a.2.2.2.1.2 a.2.2.2.2.1.1 a.2.2.2.2.1.2 (theE baysD (.sl 12 a.2.2.2.2.2.1.1 a.2.2.2.2.2.1.2)) a.2.2.2.2.2.2.1 = lI e K → CX Tryd.prog 47 (d55.enc a).1 (d55.enc a).2 (vI e) K := by
    intro a ha e K hr
    unfold ok32 at ha
    simp only [Bool.and_eq_true] at ha
    obtain ⟨⟨h1, h2⟩, h3⟩ := ha
    obtain ⟨he, g1, g2, g3, g4⟩ := enc55 a h2
    have hn := (RL.of_ok h3).1
    have hb := ble_of_ok (t := 44) h3
    generalize hbs : theE baysD (.sl 12 a.2.2.2.2.2.1.1 a.2.2.2.2.2.1.2) = bs at hr hn hb
    have hc := e33 (rbay a.1.2.1) a.2.1.1 a.2.2.1.1 a.2.2.1.2 a.2.2.2.1.1 a.2.2.2.1.2 a.2.2.2.2.1.1 a.2.2.2.2.1.2 bs a.2.2.2.2.2.2.1 g1 g2 g3 (by omega) (okRB_len h1) (bs.length + 1) (by omega)
    rw [hr] at hc
    refine (cx_of s33.ok Tryd.func47 b33 rfl hc).ge (.cons (.refl _) (.cons (bay_le _ h1) .nil)) ?_
    rw [he]
    have e0 : a.2.2.2.2.2.1.1 = bs.length := hn
    refine .cons ?_ (.cons (.refl _) (.cons (.refl _) (.cons (.refl _) (.cons hb (.cons (.refl _) .nil)))))
    rw [e0]
    exact .refl _
  refine .cons (.b (fun a ha hb => ?_) (fun a ha hb => ?_)) .nil
  · have hb' : er32 a = 0 := by simpa using hb
    have h3 : okE baysD (.sl 12 a.2.2.2.2.2.1.1 a.2.2.2.2.2.1.2) = true := by unfold ok32 at ha; simp only [Bool.and_eq_true] at ha; exact ha.2
    have hn := (RL.of_ok h3).1
    refine (key a ha 0 _ ?_).le (.refl _) (.refl _)
    unfold r33
    unfold er32 at hb'
    rw [hb']
    simp only [bne_self_eq_false, cond_false]
    congr 3
    unfold h33 H33 cn32 bc32
    rw [← hn]
    rfl
  · have hb' : er32 a ≠ 0 := by intro e; rw [e] at hb; simp at hb
    have h3 : okE baysD (.sl 12 a.2.2.2.2.2.1.1 a.2.2.2.2.2.1.2) = true := by unfold ok32 at ha; simp only [Bool.and_eq_true] at ha; exact ha.2
    have h2 : eqs a.2 = true := by unfold ok32 at ha; simp only [Bool.and_eq_true] at ha; exact ha.1.2
    have hx := key a ha (er32 a) (H5 a.2.1.1 a.2.2.1.1 a.2.2.1.2 a.2.2.2.1.1 a.2.2.2.1.2 a.2.2.2.2.1.1 a.2.2.2.2.1.2 (theE baysD (.sl 12 a.2.2.2.2.2.1.1 a.2.2.2.2.2.1.2)).length (cnB (theE baysD (.sl 12 a.2.2.2.2.2.1.1 a.2.2.2.2.2.1.2))) a.2.2.2.2.2.2.1) (by
      unfold r33
      have : (bayErrD a.2.2.1.1 a.2.2.2.1.1 a.2.2.2.2.1.1 (boolOf (assoc a.2.2.2.2.2.2.1 (Value.string (rbay a.1.2.1).name))) (theE baysD (.sl 12 a.2.2.2.2.2.1.1 a.2.2.2.2.2.1.2)) (rbay a.1.2.1) != 0) = true := by
        unfold er32 at hb'
        simpa using hb'
      rw [this]
      rfl)
    refine hx.le (.refl _) ?_
    unfold h33e cn32
    have hn := (RL.of_ok h3).1
    rw [← hn]
    exact .refl _
theorem c32 (l : List SBay) (s0 : ByteArray) (ka : Nat) (ga : Nat → List D) (kb : Nat) (gb : Nat → List D) (kc : Nat) (gc : Nat → List D) (N : List ByteArray) (hl : l.length ≤ 900) (hka : ka ≤ 900) (hkb : kb ≤ 900) (hkc : kc ≤ 900) (hlk : ∀ i, i < l.length → (l.getD i bay0).links.length ≤ 9223372036854775807) :
    CX Tryd.prog 46 [.c (.d (baysD l)), fnOf 47] (H4 s0 ka ga kb gb kc gc (mapOf N)) (vI (tBay ka kb kc N l).1)
      (H4' s0 ka ga kb gb kc gc (mapOf (N ++ (tBay ka kb kc N l).2.map SBay.name)) (tBay ka kb kc N l).2.length (fun i => bayC ((tBay ka kb kc N l).2.getD i bay0))) := by
  obtain ⟨g, hg⟩ : ∃ g, l.length < g := ⟨l.length + 1, by omega⟩
  obtain ⟨f', hr, he⟩ := first_loop (nm := SBay.name) (F := fun N before x => bayErr ka kb kc N before x) (N := N) (c := bayC) (d0 := bay0) (l := l) (L := fun m mp n f i => L32_2 cn32 bc32 ok32 er32 l s0 ka ga kb gb kc gc (mapOf N) g m mp n f i) (HX := fun mp n f => H4' s0 ka ga kb gb kc gc mp n f)
    (fun m k before f hk hb hr => by
      have hthe := hr.the (sz := 12) bayC_inj
      have hx : rbay (bayR (l.getD k bay0)) = l.getD k bay0 := rbay_bayR _
      have hok : ok32 (((), bayR (l.getD k bay0), ()), (s0, ka, kb, kc, k, (), ()), (ka, ga), (kb, gb), (kc, gc), (k, f), mapOf (N ++ before.map SBay.name), ()) = true := by
        unfold ok32
        have e1 : okRB (bayR (l.getD k bay0)) = true := okLk_links (hlk k hk)
        have e2 : eqs ((s0, ka, kb, kc, k, (), ()), (ka, ga), (kb, gb), (kc, gc), (k, f), mapOf (N ++ before.map SBay.name), ()) = true := by
          unfold eqs
          simp only [Nat.beq_refl, Bool.true_and, bleD, decide_eq_true hka, decide_eq_true hkb, decide_eq_true hkc, decide_eq_true (show k ≤ 900 by omega)]
        simp only [e1, e2, hthe.1, Bool.and_self]
      have her : er32 (((), bayR (l.getD k bay0), ()), (s0, ka, kb, kc, k, (), ()), (ka, ga), (kb, gb), (kc, gc), (k, f), mapOf (N ++ before.map SBay.name), ()) = bayErr ka kb kc (N ++ before.map SBay.name) before (l.getD k bay0) := by
        unfold er32 bayErr
        simp only [hx, hthe.2, assoc_mapOf]
      refine ⟨appF k (cn32 k f) (chunk (bc32 (bayR (l.getD k bay0))) 12), cn32 k f, ?_, ?_, ?_⟩
      · unfold bc32 cn32
        rw [hx, hthe.2]
        have := (RL.data (c := bayC) (d0 := bay0) before).app' (x := l.getD k bay0) (sz := 12) rfl
        rw [hb] at this
        exact this
      · unfold cn32
        rw [hthe.2]
        have := RL.data (c := bayC) (d0 := bay0) before
        rw [hb] at this
        exact this
      · rw [st32_2]
        simp only [lt1 hk, ge0, tn, Bool.and_self, cond_true, nx hk (by omega)]
        show (bif ok32 (((), bayR (l.getD k bay0), ()), (s0, ka, kb, kc, k, (), ()), (ka, ga), (kb, gb), (kc, gc), (k, f), mapOf (N ++ before.map SBay.name), ()) then
          (bif er32 (((), bayR (l.getD k bay0), ()), (s0, ka, kb, kc, k, (), ()), (ka, ga), (kb, gb), (kc, gc), (k, f), mapOf (N ++ before.map SBay.name), ()) == 0 then
            L32_2 cn32 bc32 ok32 er32 l s0 ka ga kb gb kc gc (mapOf N) g m ((Value.string (l.getD k bay0).name, Value.bool true) :: mapOf (N ++ before.map SBay.name)) (k + 1) (appF k (cn32 k f) (chunk (bc32 (bayR (l.getD k bay0))) 12)) ((k + 1 : Nat) : Int)
          else (bif er32 (((), bayR (l.getD k bay0), ()), (s0, ka, kb, kc, k, (), ()), (ka, ga), (kb, gb), (kc, gc), (k, f), mapOf (N ++ before.map SBay.name), ()) != 0 then lI (er32 (((), bayR (l.getD k bay0), ()), (s0, ka, kb, kc, k, (), ()), (ka, ga), (kb, gb), (kc, gc), (k, f), mapOf (N ++ before.map SBay.name), ())) (H4' s0 ka ga kb gb kc gc (mapOf (N ++ before.map SBay.name)) k (cn32 k f)) else L32_2 cn32 bc32 ok32 er32 l s0 ka ga kb gb kc gc (mapOf N) g m (mapOf (N ++ before.map SBay.name)) k (cn32 k f) ((k + 1 : Nat) : Int))) else none) = _
        rw [hok, her]
        unfold bne
        cases (bayErr ka kb kc (N ++ before.map SBay.name) before (l.getD k bay0) == 0) <;> rfl)
    (fun m mp n f => by
      rw [st32_2, lt0 (Nat.lt_irrefl _)]
      rfl) g 0 [] (fun _ => []) (by omega) (by omega) rfl (.nil _)
  have hev := ev32 cn32 bc32 ok32 er32 l s0 ka ga kb gb kc gc (mapOf N) g
  simp only [List.map_nil, List.append_nil, List.drop_zero] at he hr
  refine (cx_of s32.ok Tryd.func46 b32 rfl (hev.trans he)).le (.refl _) ?_
  exact .cons (.refl _) (.cons (.refl _) (.cons (.refl _) (.cons (.refl _) (.cons (.refl _) (.cons hr.ble .nil)))))
end Go.Proofs.YthmapnolgdpkbaaDoor.st
namespace Go.Proofs.YthmapnolgdpkbaaDoor.st
open Go.RowKit Go.Eb

abbrev AL := D × Unit × Unit
abbrev RW1 := Nat × (Nat → List D)
abbrev A26 := AL × (ByteArray × Unit × Unit × Unit × Unit × Unit × Unit) × List (Value × Value) × Unit
def d26 : Dec (List AV × Hp) A26 := .pair (.cons (.c .data) (.cons (.c (.meth 41)) .nil)) (.cons (.blk 0 (.cells 69 (.cons .str (.cons .nilS (.cons .nilS (.cons .nilS (.cons .nilS (.cons (.mp 1) .nil)))))))) (.cons (.blk 1 (.mapB 0)) .nil))
abbrev A28 := AL × (ByteArray × Nat × Unit × Unit × Unit × Unit × Unit) × RW1 × List (Value × Value) × Unit
def d28 : Dec (List AV × Hp) A28 := .pair (.cons (.c .data) (.cons (.c (.meth 43)) .nil)) (.cons (.blk 0 (.cells 69 (.cons .str (.cons (.row 1 1) (.cons .nilS (.cons .nilS (.cons .nilS (.cons (.mp 2) .nil)))))))) (.cons (.blk 1 (.rowB 1 9)) (.cons (.blk 2 (.mapB 0)) .nil)))
abbrev A30 := AL × (ByteArray × Nat × Nat × Unit × Unit × Unit × Unit) × RW1 × RW1 × List (Value × Value) × Unit
def d30 : Dec (List AV × Hp) A30 := .pair (.cons (.c .data) (.cons (.c (.meth 45)) .nil)) (.cons (.blk 0 (.cells 69 (.cons .str (.cons (.row 1 1) (.cons (.row 2 5) (.cons .nilS (.cons .nilS (.cons (.mp 3) .nil)))))))) (.cons (.blk 1 (.rowB 1 9)) (.cons (.blk 2 (.rowB 5 50)) (.cons (.blk 3 (.mapB 0)) .nil))))
abbrev A32 := AL × (ByteArray × Nat × Nat × Nat × Unit × Unit × Unit) × RW1 × RW1 × RW1 × List (Value × Value) × Unit
def d32 : Dec (List AV × Hp) A32 := .pair (.cons (.c .data) (.cons (.c (.meth 47)) .nil)) (.cons (.blk 0 (.cells 69 (.cons .str (.cons (.row 1 1) (.cons (.row 2 5) (.cons (.row 3 6) (.cons .nilS (.cons (.mp 4) .nil)))))))) (.cons (.blk 1 (.rowB 1 9)) (.cons (.blk 2 (.rowB 5 50)) (.cons (.blk 3 (.rowB 6 53)) (.cons (.blk 4 (.mapB 0)) .nil)))))
structure K12 where
  nk : ByteArray → Bool
  ok1 : A26 → Bool
  e1 : A26 → Int
  m1 : A26 → List (Value × Value)
  n1 : A26 → Nat
  f1 : A26 → Nat → List D
  ok2 : A28 → Bool
  e2 : A28 → Int
  m2 : A28 → List (Value × Value)
  n2 : A28 → Nat
  f2 : A28 → Nat → List D
  ok3 : A30 → Bool
  e3 : A30 → Int
  m3 : A30 → List (Value × Value)
  n3 : A30 → Nat
  f3 : A30 → Nat → List D
  ok4 : A32 → Bool
  e4 : A32 → Int
  m4 : A32 → List (Value × Value)
  n4 : A32 → Nat
  f4 : A32 → Nat → List D
noncomputable def o12 (Z : K12) : Orc := Orc.cons 39 (ansP decS fun s => vB (Z.nk s)) (Orc.cons 29 (inl Tryd.prog Orc.nil na 1 Tryd.f29)
  (Orc.cons 40 (ansD d26 Z.ok1 (fun a => vI (Z.e1 a)) fun a => H1' a.2.1.1 (Z.m1 a) (Z.n1 a) (Z.f1 a))
  (Orc.cons 42 (ansD d28 Z.ok2 (fun a => vI (Z.e2 a)) fun a => H2' a.2.1.1 a.2.2.1.1 a.2.2.1.2 (Z.m2 a) (Z.n2 a) (Z.f2 a))
  (Orc.cons 44 (ansD d30 Z.ok3 (fun a => vI (Z.e3 a)) fun a => H3' a.2.1.1 a.2.2.1.1 a.2.2.1.2 a.2.2.2.1.1 a.2.2.2.1.2 (Z.m3 a) (Z.n3 a) (Z.f3 a))
  (Orc.cons 46 (ansD d32 Z.ok4 (fun a => vI (Z.e4 a)) fun a => H4' a.2.1.1 a.2.2.1.1 a.2.2.1.2 a.2.2.2.1.1 a.2.2.2.1.2 a.2.2.2.2.1.1 a.2.2.2.2.1.2 (Z.m4 a) (Z.n4 a) (Z.f4 a)) Orc.nil)))))
noncomputable def ann12 : Ann := annOf []
theorem b12 : Tryd.f15.body = some (bodyOf Tryd.f15) := by kernel_rfl
theorem ev12 (Z : K12) (s : SSta) (g : Nat) : callC Tryd.prog (o12 Z) ann12 g Tryd.f15 (bodyOf Tryd.f15) [aSta s] [] =
 (bif !K12.nk Z (SSta.name s) then some (T.leaf (AV.c (.d (.v (.int .i64 (7 : Int)))), [])) else (bif (↑(List.length (SSta.buses s)) : Int) == (0 : Int) then some
 (T.leaf (AV.c (.d (.v (.int .i64 (3 : Int)))), [])) else (bif decide ((↑(List.length (SSta.buses s)) : Int) > (4 : Int)) then some (T.leaf (AV.c (C.d (D.v (Value.int
 IntKind.i64 (3 : Int)))), [])) else (bif decide ((↑(List.length (SSta.lines s)) : Int) > (6 : Int)) then some (T.leaf (AV.c (.d (.v (.int .i64 (3 : Int)))), [])) else
 (bif decide ((↑(List.length (SSta.srcs s)) : Int) > (4 : Int)) then some (T.leaf (AV.c (.d (.v (.int .i64 (3 : Int)))), [])) else (bif decide ((↑(List.length
 (SSta.bays s)) : Int) > (16 : Int)) then some (T.leaf (AV.c (.d (.v (.int .i64 (3 : Int)))), [])) else (bif K12.ok1 Z ((busesD (SSta.buses s), (), ()), (ByteArray.mk
 #[], (), (), (), (), (), ()), [], ()) then (bif K12.e1 Z ((busesD (SSta.buses s), (), ()), (ByteArray.mk #[], (), (), (), (), (), ()), [], ()) == (0 : Int) then (bif K12.ok2 Z
 ((linesD (SSta.lines s), (), ()), (ByteArray.mk #[], K12.n1 Z ((busesD (SSta.buses s), (), ()), (ByteArray.mk #[], (), (), (), (), (), ()), [], ()), (), (), (), (), ()), (K12.n1 Z
 ((busesD (SSta.buses s), (), ()), (ByteArray.mk #[], (), (), (), (), (), ()), [], ()), K12.f1 Z ((busesD (SSta.buses s), (), ()), (ByteArray.mk #[], (), (), (), (), (), ()), [],
 ())), K12.m1 Z ((busesD (SSta.buses s), (), ()), (ByteArray.mk #[], (), (), (), (), (), ()), [], ()), ()) then (bif K12.e2 Z ((linesD (SSta.lines s), (), ()), (ByteArray.mk #[],
 K12.n1 Z ((busesD (SSta.buses s), (), ()), (ByteArray.mk #[], (), (), (), (), (), ()), [], ()), (), (), (), (), ()), (K12.n1 Z ((busesD (SSta.buses s), (), ()), (ByteArray.mk #[],
 (), (), (), (), (), ()), [], ()), K12.f1 Z ((busesD (SSta.buses s), (), ()), (ByteArray.mk #[], (), (), (), (), (), ()), [], ())), K12.m1 Z ((busesD (SSta.buses s), (), ()),
 (ByteArray.mk #[], (), (), (), (), (), ()), [], ()), ()) == (0 : Int) then (bif K12.ok3 Z ((srcsD (SSta.srcs s), (), ()), (ByteArray.mk #[], K12.n1 Z ((busesD (SSta.buses s), (),
 ()), (ByteArray.mk #[], (), (), (), (), (), ()), [], ()), K12.n2 Z ((linesD (SSta.lines s), (), ()), (ByteArray.mk #[], K12.n1 Z ((busesD (SSta.buses s), (), ()), (ByteArray.mk #[],
 (), (), (), (), (), ()), [], ()), (), (), (), (), ()), (K12.n1 Z ((busesD (SSta.buses s), (), ()), (ByteArray.mk #[], (), (), (), (), (), ()), [], ()), K12.f1 Z ((busesD (SSta.buses
 s), (), ()), (ByteArray.mk #[], (), (), (), (), (), ()), [], ())), K12.m1 Z ((busesD (SSta.buses s), (), ()), (ByteArray.mk #[], (), (), (), (), (), ()), [], ()), ()), (), (), (),
 ()), (K12.n1 Z ((busesD (SSta.buses s), (), ()), (ByteArray.mk #[], (), (), (), (), (), ()), [], ()), K12.f1 Z ((busesD (SSta.buses s), (), ()), (ByteArray.mk #[], (), (), (), (),
 (), ()), [], ())), (K12.n2 Z ((linesD (SSta.lines s), (), ()), (ByteArray.mk #[], K12.n1 Z ((busesD (SSta.buses s), (), ()), (ByteArray.mk #[], (), (), (), (), (), ()), [], ()), (),
 (), (), (), ()), (K12.n1 Z ((busesD (SSta.buses s), (), ()), (ByteArray.mk #[], (), (), (), (), (), ()), [], ()), K12.f1 Z ((busesD (SSta.buses s), (), ()), (ByteArray.mk #[], (),
 (), (), (), (), ()), [], ())), K12.m1 Z ((busesD (SSta.buses s), (), ()), (ByteArray.mk #[], (), (), (), (), (), ()), [], ()), ()), K12.f2 Z ((linesD (SSta.lines s), (), ()),
 (ByteArray.mk #[], K12.n1 Z ((busesD (SSta.buses s), (), ()), (ByteArray.mk #[], (), (), (), (), (), ()), [], ()), (), (), (), (), ()), (K12.n1 Z ((busesD (SSta.buses s), (), ()),
 (ByteArray.mk #[], (), (), (), (), (), ()), [], ()), K12.f1 Z ((busesD (SSta.buses s), (), ()), (ByteArray.mk #[], (), (), (), (), (), ()), [], ())), K12.m1 Z ((busesD (SSta.buses
 s), (), ()), (ByteArray.mk #[], (), (), (), (), (), ()), [], ()), ())), K12.m2 Z ((linesD (SSta.lines s), (), ()), (ByteArray.mk #[], K12.n1 Z ((busesD (SSta.buses s), (), ()),
 (ByteArray.mk #[], (), (), (), (), (), ()), [], ()), (), (), (), (), ()), (K12.n1 Z ((busesD (SSta.buses s), (), ()), (ByteArray.mk #[], (), (), (), (), (), ()), [], ()), K12.f1 Z
 ((busesD (SSta.buses s), (), ()), (ByteArray.mk #[], (), (), (), (), (), ()), [], ())), K12.m1 Z ((busesD (SSta.buses s), (), ()), (ByteArray.mk #[], (), (), (), (), (), ()), [],
 ()), ()), ()) then (bif K12.e3 Z ((srcsD (SSta.srcs s), (), ()), (ByteArray.mk #[], K12.n1 Z ((busesD (SSta.buses s), (), ()), (ByteArray.mk #[], (), (), (), (), (), ()), [], ()),
 K12.n2 Z ((linesD (SSta.lines s), (), ()), (ByteArray.mk #[], K12.n1 Z ((busesD (SSta.buses s), (), ()), (ByteArray.mk #[], (), (), (), (), (), ()), [], ()), (), (), (), (), ()),
 (K12.n1 Z ((busesD (SSta.buses s), (), ()), (ByteArray.mk #[], (), (), (), (), (), ()), [], ()), K12.f1 Z ((busesD (SSta.buses s), (), ()), (ByteArray.mk #[], (), (), (), (), (),
 ()), [], ())), K12.m1 Z ((busesD (SSta.buses s), (), ()), (ByteArray.mk #[], (), (), (), (), (), ()), [], ()), ()), (), (), (), ()), (K12.n1 Z ((busesD (SSta.buses s), (), ()),
 (ByteArray.mk #[], (), (), (), (), (), ()), [], ()), K12.f1 Z ((busesD (SSta.buses s), (), ()), (ByteArray.mk #[], (), (), (), (), (), ()), [], ())), (K12.n2 Z ((linesD (SSta.lines
 s), (), ()), (ByteArray.mk #[], K12.n1 Z ((busesD (SSta.buses s), (), ()), (ByteArray.mk #[], (), (), (), (), (), ()), [], ()), (), (), (), (), ()), (K12.n1 Z ((busesD (SSta.buses
 s), (), ()), (ByteArray.mk #[], (), (), (), (), (), ()), [], ()), K12.f1 Z ((busesD (SSta.buses s), (), ()), (ByteArray.mk #[], (), (), (), (), (), ()), [], ())), K12.m1 Z ((busesD
 (SSta.buses s), (), ()), (ByteArray.mk #[], (), (), (), (), (), ()), [], ()), ()), K12.f2 Z ((linesD (SSta.lines s), (), ()), (ByteArray.mk #[], K12.n1 Z ((busesD (SSta.buses s),
 (), ()), (ByteArray.mk #[], (), (), (), (), (), ()), [], ()), (), (), (), (), ()), (K12.n1 Z ((busesD (SSta.buses s), (), ()), (ByteArray.mk #[], (), (), (), (), (), ()), [], ()),
 K12.f1 Z ((busesD (SSta.buses s), (), ()), (ByteArray.mk #[], (), (), (), (), (), ()), [], ())), K12.m1 Z ((busesD (SSta.buses s), (), ()), (ByteArray.mk #[], (), (), (), (), (),
 ()), [], ()), ())), K12.m2 Z ((linesD (SSta.lines s), (), ()), (ByteArray.mk #[], K12.n1 Z ((busesD (SSta.buses s), (), ()), (ByteArray.mk #[], (), (), (), (), (), ()), [], ()), (),
 (), (), (), ()), (K12.n1 Z ((busesD (SSta.buses s), (), ()), (ByteArray.mk #[], (), (), (), (), (), ()), [], ()), K12.f1 Z ((busesD (SSta.buses s), (), ()), (ByteArray.mk #[], (),
 (), (), (), (), ()), [], ())), K12.m1 Z ((busesD (SSta.buses s), (), ()), (ByteArray.mk #[], (), (), (), (), (), ()), [], ()), ()), ()) == (0 : Int) then (bif K12.ok4 Z ((baysD
 (SSta.bays s), (), ()), (ByteArray.mk #[], K12.n1 Z ((busesD (SSta.buses s), (), ()), (ByteArray.mk #[], (), (), (), (), (), ()), [], ()), K12.n2 Z ((linesD (SSta.lines s), (), ()),
 (ByteArray.mk #[], K12.n1 Z ((busesD (SSta.buses s), (), ()), (ByteArray.mk #[], (), (), (), (), (), ()), [], ()), (), (), (), (), ()), (K12.n1 Z ((busesD (SSta.buses s), (), ()),
 (ByteArray.mk #[], (), (), (), (), (), ()), [], ()), K12.f1 Z ((busesD (SSta.buses s), (), ()), (ByteArray.mk #[], (), (), (), (), (), ()), [], ())), K12.m1 Z ((busesD (SSta.buses
 s), (), ()), (ByteArray.mk #[], (), (), (), (), (), ()), [], ()), ()), K12.n3 Z ((srcsD (SSta.srcs s), (), ()), (ByteArray.mk #[], K12.n1 Z ((busesD (SSta.buses s), (), ()),
 (ByteArray.mk #[], (), (), (), (), (), ()), [], ()), K12.n2 Z ((linesD (SSta.lines s), (), ()), (ByteArray.mk #[], K12.n1 Z ((busesD (SSta.buses s), (), ()), (ByteArray.mk #[], (),
 (), (), (), (), ()), [], ()), (), (), (), (), ()), (K12.n1 Z ((busesD (SSta.buses s), (), ()), (ByteArray.mk #[], (), (), (), (), (), ()), [], ()), K12.f1 Z ((busesD (SSta.buses s),
 (), ()), (ByteArray.mk #[], (), (), (), (), (), ()), [], ())), K12.m1 Z ((busesD (SSta.buses s), (), ()), (ByteArray.mk #[], (), (), (), (), (), ()), [], ()), ()), (), (), (), ()),
 (K12.n1 Z ((busesD (SSta.buses s), (), ()), (ByteArray.mk #[], (), (), (), (), (), ()), [], ()), K12.f1 Z ((busesD (SSta.buses s), (), ()), (ByteArray.mk #[], (), (), (), (), (),
 ()), [], ())), (K12.n2 Z ((linesD (SSta.lines s), (), ()), (ByteArray.mk #[], K12.n1 Z ((busesD (SSta.buses s), (), ()), (ByteArray.mk #[], (), (), (), (), (), ()), [], ()), (), (),
 (), (), ()), (K12.n1 Z ((busesD (SSta.buses s), (), ()), (ByteArray.mk #[], (), (), (), (), (), ()), [], ()), K12.f1 Z ((busesD (SSta.buses s), (), ()), (ByteArray.mk #[], (), (),
 (), (), (), ()), [], ())), K12.m1 Z ((busesD (SSta.buses s), (), ()), (ByteArray.mk #[], (), (), (), (), (), ()), [], ()), ()), K12.f2 Z ((linesD (SSta.lines s), (), ()),
 (ByteArray.mk #[], K12.n1 Z ((busesD (SSta.buses s), (), ()), (ByteArray.mk #[], (), (), (), (), (), ()), [], ()), (), (), (), (), ()), (K12.n1 Z ((busesD (SSta.buses s), (), ()),
 (ByteArray.mk #[], (), (), (), (), (), ()), [], ()), K12.f1 Z ((busesD (SSta.buses s), (), ()), (ByteArray.mk #[], (), (), (), (), (), ()), [], ())), K12.m1 Z ((busesD (SSta.buses
 s), (), ()), (ByteArray.mk #[], (), (), (), (), (), ()), [], ()), ())), K12.m2 Z ((linesD (SSta.lines s), (), ()), (ByteArray.mk #[], K12.n1 Z ((busesD (SSta.buses s), (), ()),
 (ByteArray.mk #[], (), (), (), (), (), ()), [], ()), (), (), (), (), ()), (K12.n1 Z ((busesD (SSta.buses s), (), ()), (ByteArray.mk #[], (), (), (), (), (), ()), [], ()), K12.f1 Z
 ((busesD (SSta.buses s), (), ()), (ByteArray.mk #[], (), (), (), (), (), ()), [], ())), K12.m1 Z ((busesD (SSta.buses s), (), ()), (ByteArray.mk #[], (), (), (), (), (), ()), [],
 ()), ()), ()), (), (), ()), (K12.n1 Z ((busesD (SSta.buses s), (), ()), (ByteArray.mk #[], (), (), (), (), (), ()), [], ()), K12.f1 Z ((busesD (SSta.buses s), (), ()), (ByteArray.mk
 #[], (), (), (), (), (), ()), [], ())), (K12.n2 Z ((linesD (SSta.lines s), (), ()), (ByteArray.mk #[], K12.n1 Z ((busesD (SSta.buses s), (), ()), (ByteArray.mk #[], (), (), (), (),
 (), ()), [], ()), (), (), (), (), ()), (K12.n1 Z ((busesD (SSta.buses s), (), ()), (ByteArray.mk #[], (), (), (), (), (), ()), [], ()), K12.f1 Z ((busesD (SSta.buses s), (), ()),
 (ByteArray.mk #[], (), (), (), (), (), ()), [], ())), K12.m1 Z ((busesD (SSta.buses s), (), ()), (ByteArray.mk #[], (), (), (), (), (), ()), [], ()), ()), K12.f2 Z ((linesD
 (SSta.lines s), (), ()), (ByteArray.mk #[], K12.n1 Z ((busesD (SSta.buses s), (), ()), (ByteArray.mk #[], (), (), (), (), (), ()), [], ()), (), (), (), (), ()), (K12.n1 Z ((busesD
 (SSta.buses s), (), ()), (ByteArray.mk #[], (), (), (), (), (), ()), [], ()), K12.f1 Z ((busesD (SSta.buses s), (), ()), (ByteArray.mk #[], (), (), (), (), (), ()), [], ())), K12.m1
 Z ((busesD (SSta.buses s), (), ()), (ByteArray.mk #[], (), (), (), (), (), ()), [], ()), ())), (K12.n3 Z ((srcsD (SSta.srcs s), (), ()), (ByteArray.mk #[], K12.n1 Z ((busesD
 (SSta.buses s), (), ()), (ByteArray.mk #[], (), (), (), (), (), ()), [], ()), K12.n2 Z ((linesD (SSta.lines s), (), ()), (ByteArray.mk #[], K12.n1 Z ((busesD (SSta.buses s), (),
 ()), (ByteArray.mk #[], (), (), (), (), (), ()), [], ()), (), (), (), (), ()), (K12.n1 Z ((busesD (SSta.buses s), (), ()), (ByteArray.mk #[], (), (), (), (), (), ()), [], ()),
 K12.f1 Z ((busesD (SSta.buses s), (), ()), (ByteArray.mk #[], (), (), (), (), (), ()), [], ())), K12.m1 Z ((busesD (SSta.buses s), (), ()), (ByteArray.mk #[], (), (), (), (), (),
 ()), [], ()), ()), (), (), (), ()), (K12.n1 Z ((busesD (SSta.buses s), (), ()), (ByteArray.mk #[], (), (), (), (), (), ()), [], ()), K12.f1 Z ((busesD (SSta.buses s), (), ()),
 (ByteArray.mk #[], (), (), (), (), (), ()), [], ())), (K12.n2 Z ((linesD (SSta.lines s), (), ()), (ByteArray.mk #[], K12.n1 Z ((busesD (SSta.buses s), (), ()), (ByteArray.mk #[],
 (), (), (), (), (), ()), [], ()), (), (), (), (), ()), (K12.n1 Z ((busesD (SSta.buses s), (), ()), (ByteArray.mk #[], (), (), (), (), (), ()), [], ()), K12.f1 Z ((busesD (SSta.buses
 s), (), ()), (ByteArray.mk #[], (), (), (), (), (), ()), [], ())), K12.m1 Z ((busesD (SSta.buses s), (), ()), (ByteArray.mk #[], (), (), (), (), (), ()), [], ()), ()), K12.f2 Z
 ((linesD (SSta.lines s), (), ()), (ByteArray.mk #[], K12.n1 Z ((busesD (SSta.buses s), (), ()), (ByteArray.mk #[], (), (), (), (), (), ()), [], ()), (), (), (), (), ()), (K12.n1 Z
 ((busesD (SSta.buses s), (), ()), (ByteArray.mk #[], (), (), (), (), (), ()), [], ()), K12.f1 Z ((busesD (SSta.buses s), (), ()), (ByteArray.mk #[], (), (), (), (), (), ()), [],
 ())), K12.m1 Z ((busesD (SSta.buses s), (), ()), (ByteArray.mk #[], (), (), (), (), (), ()), [], ()), ())), K12.m2 Z ((linesD (SSta.lines s), (), ()), (ByteArray.mk #[], K12.n1 Z
 ((busesD (SSta.buses s), (), ()), (ByteArray.mk #[], (), (), (), (), (), ()), [], ()), (), (), (), (), ()), (K12.n1 Z ((busesD (SSta.buses s), (), ()), (ByteArray.mk #[], (), (),
 (), (), (), ()), [], ()), K12.f1 Z ((busesD (SSta.buses s), (), ()), (ByteArray.mk #[], (), (), (), (), (), ()), [], ())), K12.m1 Z ((busesD (SSta.buses s), (), ()), (ByteArray.mk
 #[], (), (), (), (), (), ()), [], ()), ()), ()), K12.f3 Z ((srcsD (SSta.srcs s), (), ()), (ByteArray.mk #[], K12.n1 Z ((busesD (SSta.buses s), (), ()), (ByteArray.mk #[], (), (),
 (), (), (), ()), [], ()), K12.n2 Z ((linesD (SSta.lines s), (), ()), (ByteArray.mk #[], K12.n1 Z ((busesD (SSta.buses s), (), ()), (ByteArray.mk #[], (), (), (), (), (), ()), [],
 ()), (), (), (), (), ()), (K12.n1 Z ((busesD (SSta.buses s), (), ()), (ByteArray.mk #[], (), (), (), (), (), ()), [], ()), K12.f1 Z ((busesD (SSta.buses s), (), ()), (ByteArray.mk
 #[], (), (), (), (), (), ()), [], ())), K12.m1 Z ((busesD (SSta.buses s), (), ()), (ByteArray.mk #[], (), (), (), (), (), ()), [], ()), ()), (), (), (), ()), (K12.n1 Z ((busesD
 (SSta.buses s), (), ()), (ByteArray.mk #[], (), (), (), (), (), ()), [], ()), K12.f1 Z ((busesD (SSta.buses s), (), ()), (ByteArray.mk #[], (), (), (), (), (), ()), [], ())),
 (K12.n2 Z ((linesD (SSta.lines s), (), ()), (ByteArray.mk #[], K12.n1 Z ((busesD (SSta.buses s), (), ()), (ByteArray.mk #[], (), (), (), (), (), ()), [], ()), (), (), (), (), ()),
 (K12.n1 Z ((busesD (SSta.buses s), (), ()), (ByteArray.mk #[], (), (), (), (), (), ()), [], ()), K12.f1 Z ((busesD (SSta.buses s), (), ()), (ByteArray.mk #[], (), (), (), (), (),
 ()), [], ())), K12.m1 Z ((busesD (SSta.buses s), (), ()), (ByteArray.mk #[], (), (), (), (), (), ()), [], ()), ()), K12.f2 Z ((linesD (SSta.lines s), (), ()), (ByteArray.mk #[],
 K12.n1 Z ((busesD (SSta.buses s), (), ()), (ByteArray.mk #[], (), (), (), (), (), ()), [], ()), (), (), (), (), ()), (K12.n1 Z ((busesD (SSta.buses s), (), ()), (ByteArray.mk #[],
 (), (), (), (), (), ()), [], ()), K12.f1 Z ((busesD (SSta.buses s), (), ()), (ByteArray.mk #[], (), (), (), (), (), ()), [], ())), K12.m1 Z ((busesD (SSta.buses s), (), ()),
 (ByteArray.mk #[], (), (), (), (), (), ()), [], ()), ())), K12.m2 Z ((linesD (SSta.lines s), (), ()), (ByteArray.mk #[], K12.n1 Z ((busesD (SSta.buses s), (), ()), (ByteArray.mk
 #[], (), (), (), (), (), ()), [], ()), (), (), (), (), ()), (K12.n1 Z ((busesD (SSta.buses s), (), ()), (ByteArray.mk #[], (), (), (), (), (), ()), [], ()), K12.f1 Z ((busesD
 (SSta.buses s), (), ()), (ByteArray.mk #[], (), (), (), (), (), ()), [], ())), K12.m1 Z ((busesD (SSta.buses s), (), ()), (ByteArray.mk #[], (), (), (), (), (), ()), [], ()), ()),
 ())), K12.m3 Z ((srcsD (SSta.srcs s), (), ()), (ByteArray.mk #[], K12.n1 Z ((busesD (SSta.buses s), (), ()), (ByteArray.mk #[], (), (), (), (), (), ()), [], ()), K12.n2 Z ((linesD
 (SSta.lines s), (), ()), (ByteArray.mk #[], K12.n1 Z ((busesD (SSta.buses s), (), ()), (ByteArray.mk #[], (), (), (), (), (), ()), [], ()), (), (), (), (), ()), (K12.n1 Z ((busesD
 (SSta.buses s), (), ()), (ByteArray.mk #[], (), (), (), (), (), ()), [], ()), K12.f1 Z ((busesD (SSta.buses s), (), ()), (ByteArray.mk #[], (), (), (), (), (), ()), [], ())), K12.m1
 Z ((busesD (SSta.buses s), (), ()), (ByteArray.mk #[], (), (), (), (), (), ()), [], ()), ()), (), (), (), ()), (K12.n1 Z ((busesD (SSta.buses s), (), ()), (ByteArray.mk #[], (), (),
 (), (), (), ()), [], ()), K12.f1 Z ((busesD (SSta.buses s), (), ()), (ByteArray.mk #[], (), (), (), (), (), ()), [], ())), (K12.n2 Z ((linesD (SSta.lines s), (), ()), (ByteArray.mk
 #[], K12.n1 Z ((busesD (SSta.buses s), (), ()), (ByteArray.mk #[], (), (), (), (), (), ()), [], ()), (), (), (), (), ()), (K12.n1 Z ((busesD (SSta.buses s), (), ()), (ByteArray.mk
 #[], (), (), (), (), (), ()), [], ()), K12.f1 Z ((busesD (SSta.buses s), (), ()), (ByteArray.mk #[], (), (), (), (), (), ()), [], ())), K12.m1 Z ((busesD (SSta.buses s), (), ()),
 (ByteArray.mk #[], (), (), (), (), (), ()), [], ()), ()), K12.f2 Z ((linesD (SSta.lines s), (), ()), (ByteArray.mk #[], K12.n1 Z ((busesD (SSta.buses s), (), ()), (ByteArray.mk #[],
 (), (), (), (), (), ()), [], ()), (), (), (), (), ()), (K12.n1 Z ((busesD (SSta.buses s), (), ()), (ByteArray.mk #[], (), (), (), (), (), ()), [], ()), K12.f1 Z ((busesD (SSta.buses
 s), (), ()), (ByteArray.mk #[], (), (), (), (), (), ()), [], ())), K12.m1 Z ((busesD (SSta.buses s), (), ()), (ByteArray.mk #[], (), (), (), (), (), ()), [], ()), ())), K12.m2 Z
 ((linesD (SSta.lines s), (), ()), (ByteArray.mk #[], K12.n1 Z ((busesD (SSta.buses s), (), ()), (ByteArray.mk #[], (), (), (), (), (), ()), [], ()), (), (), (), (), ()), (K12.n1 Z
 ((busesD (SSta.buses s), (), ()), (ByteArray.mk #[], (), (), (), (), (), ()), [], ()), K12.f1 Z ((busesD (SSta.buses s), (), ()), (ByteArray.mk #[], (), (), (), (), (), ()), [],
 ())), K12.m1 Z ((busesD (SSta.buses s), (), ()), (ByteArray.mk #[], (), (), (), (), (), ()), [], ()), ()), ()), ()) then some (T.leaf (AV.c (.d (.v (.int .i64 (K12.e4
 Z ((baysD (SSta.bays s), (), ()), (ByteArray.mk #[], K12.n1 Z ((busesD (SSta.buses s), (), ()), (ByteArray.mk #[], (), (), (), (), (), ()), [], ()), K12.n2 Z ((linesD (SSta.lines
 s), (), ()), (ByteArray.mk #[], K12.n1 Z ((busesD (SSta.buses s), (), ()), (ByteArray.mk #[], (), (), (), (), (), ()), [], ()), (), (), (), (), ()), (K12.n1 Z ((busesD (SSta.buses
 s), (), ()), (ByteArray.mk #[], (), (), (), (), (), ()), [], ()), K12.f1 Z ((busesD (SSta.buses s), (), ()), (ByteArray.mk #[], (), (), (), (), (), ()), [], ())), K12.m1 Z ((busesD
 (SSta.buses s), (), ()), (ByteArray.mk #[], (), (), (), (), (), ()), [], ()), ()), K12.n3 Z ((srcsD (SSta.srcs s), (), ()), (ByteArray.mk #[], K12.n1 Z ((busesD (SSta.buses s), (),
 ()), (ByteArray.mk #[], (), (), (), (), (), ()), [], ()), K12.n2 Z ((linesD (SSta.lines s), (), ()), (ByteArray.mk #[], K12.n1 Z ((busesD (SSta.buses s), (), ()), (ByteArray.mk #[],
 (), (), (), (), (), ()), [], ()), (), (), (), (), ()), (K12.n1 Z ((busesD (SSta.buses s), (), ()), (ByteArray.mk #[], (), (), (), (), (), ()), [], ()), K12.f1 Z ((busesD (SSta.buses
 s), (), ()), (ByteArray.mk #[], (), (), (), (), (), ()), [], ())), K12.m1 Z ((busesD (SSta.buses s), (), ()), (ByteArray.mk #[], (), (), (), (), (), ()), [], ()), ()), (), (), (),
 ()), (K12.n1 Z ((busesD (SSta.buses s), (), ()), (ByteArray.mk #[], (), (), (), (), (), ()), [], ()), K12.f1 Z ((busesD (SSta.buses s), (), ()), (ByteArray.mk #[], (), (), (), (),
 (), ()), [], ())), (K12.n2 Z ((linesD (SSta.lines s), (), ()), (ByteArray.mk #[], K12.n1 Z ((busesD (SSta.buses s), (), ()), (ByteArray.mk #[], (), (), (), (), (), ()), [], ()), (),
 (), (), (), ()), (K12.n1 Z ((busesD (SSta.buses s), (), ()), (ByteArray.mk #[], (), (), (), (), (), ()), [], ()), K12.f1 Z ((busesD (SSta.buses s), (), ()), (ByteArray.mk #[], (),
 (), (), (), (), ()), [], ())), K12.m1 Z ((busesD (SSta.buses s), (), ()), (ByteArray.mk #[], (), (), (), (), (), ()), [], ()), ()), K12.f2 Z ((linesD (SSta.lines s), (), ()),
 (ByteArray.mk #[], K12.n1 Z ((busesD (SSta.buses s), (), ()), (ByteArray.mk #[], (), (), (), (), (), ()), [], ()), (), (), (), (), ()), (K12.n1 Z ((busesD (SSta.buses s), (), ()),
 (ByteArray.mk #[], (), (), (), (), (), ()), [], ()), K12.f1 Z ((busesD (SSta.buses s), (), ()), (ByteArray.mk #[], (), (), (), (), (), ()), [], ())), K12.m1 Z ((busesD (SSta.buses
 s), (), ()), (ByteArray.mk #[], (), (), (), (), (), ()), [], ()), ())), K12.m2 Z ((linesD (SSta.lines s), (), ()), (ByteArray.mk #[], K12.n1 Z ((busesD (SSta.buses s), (), ()),
 (ByteArray.mk #[], (), (), (), (), (), ()), [], ()), (), (), (), (), ()), (K12.n1 Z ((busesD (SSta.buses s), (), ()), (ByteArray.mk #[], (), (), (), (), (), ()), [], ()), K12.f1 Z
 ((busesD (SSta.buses s), (), ()), (ByteArray.mk #[], (), (), (), (), (), ()), [], ())), K12.m1 Z ((busesD (SSta.buses s), (), ()), (ByteArray.mk #[], (), (), (), (), (), ()), [],
 ()), ()), ()), (), (), ()), (K12.n1 Z ((busesD (SSta.buses s), (), ()), (ByteArray.mk #[], (), (), (), (), (), ()), [], ()), K12.f1 Z ((busesD (SSta.buses s), (), ()), (ByteArray.mk
 #[], (), (), (), (), (), ()), [], ())), (K12.n2 Z ((linesD (SSta.lines s), (), ()), (ByteArray.mk #[], K12.n1 Z ((busesD (SSta.buses s), (), ()), (ByteArray.mk #[], (), (), (), (),
 (), ()), [], ()), (), (), (), (), ()), (K12.n1 Z ((busesD (SSta.buses s), (), ()), (ByteArray.mk #[], (), (), (), (), (), ()), [], ()), K12.f1 Z ((busesD (SSta.buses s), (), ()),
 (ByteArray.mk #[], (), (), (), (), (), ()), [], ())), K12.m1 Z ((busesD (SSta.buses s), (), ()), (ByteArray.mk #[], (), (), (), (), (), ()), [], ()), ()), K12.f2 Z ((linesD
 (SSta.lines s), (), ()), (ByteArray.mk #[], K12.n1 Z ((busesD (SSta.buses s), (), ()), (ByteArray.mk #[], (), (), (), (), (), ()), [], ()), (), (), (), (), ()), (K12.n1 Z ((busesD
 (SSta.buses s), (), ()), (ByteArray.mk #[], (), (), (), (), (), ()), [], ()), K12.f1 Z ((busesD (SSta.buses s), (), ()), (ByteArray.mk #[], (), (), (), (), (), ()), [], ())), K12.m1
 Z ((busesD (SSta.buses s), (), ()), (ByteArray.mk #[], (), (), (), (), (), ()), [], ()), ())), (K12.n3 Z ((srcsD (SSta.srcs s), (), ()), (ByteArray.mk #[], K12.n1 Z ((busesD
 (SSta.buses s), (), ()), (ByteArray.mk #[], (), (), (), (), (), ()), [], ()), K12.n2 Z ((linesD (SSta.lines s), (), ()), (ByteArray.mk #[], K12.n1 Z ((busesD (SSta.buses s), (),
 ()), (ByteArray.mk #[], (), (), (), (), (), ()), [], ()), (), (), (), (), ()), (K12.n1 Z ((busesD (SSta.buses s), (), ()), (ByteArray.mk #[], (), (), (), (), (), ()), [], ()),
 K12.f1 Z ((busesD (SSta.buses s), (), ()), (ByteArray.mk #[], (), (), (), (), (), ()), [], ())), K12.m1 Z ((busesD (SSta.buses s), (), ()), (ByteArray.mk #[], (), (), (), (), (),
 ()), [], ()), ()), (), (), (), ()), (K12.n1 Z ((busesD (SSta.buses s), (), ()), (ByteArray.mk #[], (), (), (), (), (), ()), [], ()), K12.f1 Z ((busesD (SSta.buses s), (), ()),
 (ByteArray.mk #[], (), (), (), (), (), ()), [], ())), (K12.n2 Z ((linesD (SSta.lines s), (), ()), (ByteArray.mk #[], K12.n1 Z ((busesD (SSta.buses s), (), ()), (ByteArray.mk #[],
 (), (), (), (), (), ()), [], ()), (), (), (), (), ()), (K12.n1 Z ((busesD (SSta.buses s), (), ()), (ByteArray.mk #[], (), (), (), (), (), ()), [], ()), K12.f1 Z ((busesD (SSta.buses
 s), (), ()), (ByteArray.mk #[], (), (), (), (), (), ()), [], ())), K12.m1 Z ((busesD (SSta.buses s), (), ()), (ByteArray.mk #[], (), (), (), (), (), ()), [], ()), ()), K12.f2 Z
 ((linesD (SSta.lines s), (), ()), (ByteArray.mk #[], K12.n1 Z ((busesD (SSta.buses s), (), ()), (ByteArray.mk #[], (), (), (), (), (), ()), [], ()), (), (), (), (), ()), (K12.n1 Z
 ((busesD (SSta.buses s), (), ()), (ByteArray.mk #[], (), (), (), (), (), ()), [], ()), K12.f1 Z ((busesD (SSta.buses s), (), ()), (ByteArray.mk #[], (), (), (), (), (), ()), [],
 ())), K12.m1 Z ((busesD (SSta.buses s), (), ()), (ByteArray.mk #[], (), (), (), (), (), ()), [], ()), ())), K12.m2 Z ((linesD (SSta.lines s), (), ()), (ByteArray.mk #[], K12.n1 Z
 ((busesD (SSta.buses s), (), ()), (ByteArray.mk #[], (), (), (), (), (), ()), [], ()), (), (), (), (), ()), (K12.n1 Z ((busesD (SSta.buses s), (), ()), (ByteArray.mk #[], (), (),
 (), (), (), ()), [], ()), K12.f1 Z ((busesD (SSta.buses s), (), ()), (ByteArray.mk #[], (), (), (), (), (), ()), [], ())), K12.m1 Z ((busesD (SSta.buses s), (), ()), (ByteArray.mk
 #[], (), (), (), (), (), ()), [], ()), ()), ()), K12.f3 Z ((srcsD (SSta.srcs s), (), ()), (ByteArray.mk #[], K12.n1 Z ((busesD (SSta.buses s), (), ()), (ByteArray.mk #[], (), (),
 (), (), (), ()), [], ()), K12.n2 Z ((linesD (SSta.lines s), (), ()), (ByteArray.mk #[], K12.n1 Z ((busesD (SSta.buses s), (), ()), (ByteArray.mk #[], (), (), (), (), (), ()), [],
 ()), (), (), (), (), ()), (K12.n1 Z ((busesD (SSta.buses s), (), ()), (ByteArray.mk #[], (), (), (), (), (), ()), [], ()), K12.f1 Z ((busesD (SSta.buses s), (), ()), (ByteArray.mk
 #[], (), (), (), (), (), ()), [], ())), K12.m1 Z ((busesD (SSta.buses s), (), ()), (ByteArray.mk #[], (), (), (), (), (), ()), [], ()), ()), (), (), (), ()), (K12.n1 Z ((busesD
 (SSta.buses s), (), ()), (ByteArray.mk #[], (), (), (), (), (), ()), [], ()), K12.f1 Z ((busesD (SSta.buses s), (), ()), (ByteArray.mk #[], (), (), (), (), (), ()), [], ())),
 (K12.n2 Z ((linesD (SSta.lines s), (), ()), (ByteArray.mk #[], K12.n1 Z ((busesD (SSta.buses s), (), ()), (ByteArray.mk #[], (), (), (), (), (), ()), [], ()), (), (), (), (), ()),
 (K12.n1 Z ((busesD (SSta.buses s), (), ()), (ByteArray.mk #[], (), (), (), (), (), ()), [], ()), K12.f1 Z ((busesD (SSta.buses s), (), ()), (ByteArray.mk #[], (), (), (), (), (),
 ()), [], ())), K12.m1 Z ((busesD (SSta.buses s), (), ()), (ByteArray.mk #[], (), (), (), (), (), ()), [], ()), ()), K12.f2 Z ((linesD (SSta.lines s), (), ()), (ByteArray.mk #[],
 K12.n1 Z ((busesD (SSta.buses s), (), ()), (ByteArray.mk #[], (), (), (), (), (), ()), [], ()), (), (), (), (), ()), (K12.n1 Z ((busesD (SSta.buses s), (), ()), (ByteArray.mk #[],
 (), (), (), (), (), ()), [], ()), K12.f1 Z ((busesD (SSta.buses s), (), ()), (ByteArray.mk #[], (), (), (), (), (), ()), [], ())), K12.m1 Z ((busesD (SSta.buses s), (), ()),
 (ByteArray.mk #[], (), (), (), (), (), ()), [], ()), ())), K12.m2 Z ((linesD (SSta.lines s), (), ()), (ByteArray.mk #[], K12.n1 Z ((busesD (SSta.buses s), (), ()), (ByteArray.mk
 #[], (), (), (), (), (), ()), [], ()), (), (), (), (), ()), (K12.n1 Z ((busesD (SSta.buses s), (), ()), (ByteArray.mk #[], (), (), (), (), (), ()), [], ()), K12.f1 Z ((busesD
 (SSta.buses s), (), ()), (ByteArray.mk #[], (), (), (), (), (), ()), [], ())), K12.m1 Z ((busesD (SSta.buses s), (), ()), (ByteArray.mk #[], (), (), (), (), (), ()), [], ()), ()),
 ())), K12.m3 Z ((srcsD (SSta.srcs s), (), ()), (ByteArray.mk #[], K12.n1 Z ((busesD (SSta.buses s), (), ()), (ByteArray.mk #[], (), (), (), (), (), ()), [], ()), K12.n2 Z ((linesD
 (SSta.lines s), (), ()), (ByteArray.mk #[], K12.n1 Z ((busesD (SSta.buses s), (), ()), (ByteArray.mk #[], (), (), (), (), (), ()), [], ()), (), (), (), (), ()), (K12.n1 Z ((busesD
 (SSta.buses s), (), ()), (ByteArray.mk #[], (), (), (), (), (), ()), [], ()), K12.f1 Z ((busesD (SSta.buses s), (), ()), (ByteArray.mk #[], (), (), (), (), (), ()), [], ())), K12.m1
 Z ((busesD (SSta.buses s), (), ()), (ByteArray.mk #[], (), (), (), (), (), ()), [], ()), ()), (), (), (), ()), (K12.n1 Z ((busesD (SSta.buses s), (), ()), (ByteArray.mk #[], (), (),
 (), (), (), ()), [], ()), K12.f1 Z ((busesD (SSta.buses s), (), ()), (ByteArray.mk #[], (), (), (), (), (), ()), [], ())), (K12.n2 Z ((linesD (SSta.lines s), (), ()), (ByteArray.mk
 #[], K12.n1 Z ((busesD (SSta.buses s), (), ()), (ByteArray.mk #[], (), (), (), (), (), ()), [], ()), (), (), (), (), ()), (K12.n1 Z ((busesD (SSta.buses s), (), ()), (ByteArray.mk
 #[], (), (), (), (), (), ()), [], ()), K12.f1 Z ((busesD (SSta.buses s), (), ()), (ByteArray.mk #[], (), (), (), (), (), ()), [], ())), K12.m1 Z ((busesD (SSta.buses s), (), ()),
 (ByteArray.mk #[], (), (), (), (), (), ()), [], ()), ()), K12.f2 Z ((linesD (SSta.lines s), (), ()), (ByteArray.mk #[], K12.n1 Z ((busesD (SSta.buses s), (), ()), (ByteArray.mk #[],
 (), (), (), (), (), ()), [], ()), (), (), (), (), ()), (K12.n1 Z ((busesD (SSta.buses s), (), ()), (ByteArray.mk #[], (), (), (), (), (), ()), [], ()), K12.f1 Z ((busesD (SSta.buses
 s), (), ()), (ByteArray.mk #[], (), (), (), (), (), ()), [], ())), K12.m1 Z ((busesD (SSta.buses s), (), ()), (ByteArray.mk #[], (), (), (), (), (), ()), [], ()), ())), K12.m2 Z
 ((linesD (SSta.lines s), (), ()), (ByteArray.mk #[], K12.n1 Z ((busesD (SSta.buses s), (), ()), (ByteArray.mk #[], (), (), (), (), (), ()), [], ()), (), (), (), (), ()), (K12.n1 Z
 ((busesD (SSta.buses s), (), ()), (ByteArray.mk #[], (), (), (), (), (), ()), [], ()), K12.f1 Z ((busesD (SSta.buses s), (), ()), (ByteArray.mk #[], (), (), (), (), (), ()), [],
 ())), K12.m1 Z ((busesD (SSta.buses s), (), ()), (ByteArray.mk #[], (), (), (), (), (), ()), [], ()), ()), ()), ()))))), [])) else none) else some (T.leaf (AV.c (C.d (D.v (Value.int
 IntKind.i64 (K12.e3 Z ((srcsD (SSta.srcs s), (), ()), (ByteArray.mk #[], K12.n1 Z ((busesD (SSta.buses s), (), ()), (ByteArray.mk #[], (), (), (), (), (), ()), [], ()), K12.n2 Z
 ((linesD (SSta.lines s), (), ()), (ByteArray.mk #[], K12.n1 Z ((busesD (SSta.buses s), (), ()), (ByteArray.mk #[], (), (), (), (), (), ()), [], ()), (), (), (), (), ()), (K12.n1 Z
 ((busesD (SSta.buses s), (), ()), (ByteArray.mk #[], (), (), (), (), (), ()), [], ()), K12.f1 Z ((busesD (SSta.buses s), (), ()), (ByteArray.mk #[], (), (), (), (), (), ()), [],
 ())), K12.m1 Z ((busesD (SSta.buses s), (), ()), (ByteArray.mk #[], (), (), (), (), (), ()), [], ()), ()), (), (), (), ()), (K12.n1 Z ((busesD (SSta.buses s), (), ()), (ByteArray.mk
 #[], (), (), (), (), (), ()), [], ()), K12.f1 Z ((busesD (SSta.buses s), (), ()), (ByteArray.mk #[], (), (), (), (), (), ()), [], ())), (K12.n2 Z ((linesD (SSta.lines s), (), ()),
 (ByteArray.mk #[], K12.n1 Z ((busesD (SSta.buses s), (), ()), (ByteArray.mk #[], (), (), (), (), (), ()), [], ()), (), (), (), (), ()), (K12.n1 Z ((busesD (SSta.buses s), (), ()),
 (ByteArray.mk #[], (), (), (), (), (), ()), [], ()), K12.f1 Z ((busesD (SSta.buses s), (), ()), (ByteArray.mk #[], (), (), (), (), (), ()), [], ())), K12.m1 Z ((busesD (SSta.buses
 s), (), ()), (ByteArray.mk #[], (), (), (), (), (), ()), [], ()), ()), K12.f2 Z ((linesD (SSta.lines s), (), ()), (ByteArray.mk #[], K12.n1 Z ((busesD (SSta.buses s), (), ()),
 (ByteArray.mk #[], (), (), (), (), (), ()), [], ()), (), (), (), (), ()), (K12.n1 Z ((busesD (SSta.buses s), (), ()), (ByteArray.mk #[], (), (), (), (), (), ()), [], ()), K12.f1 Z
 ((busesD (SSta.buses s), (), ()), (ByteArray.mk #[], (), (), (), (), (), ()), [], ())), K12.m1 Z ((busesD (SSta.buses s), (), ()), (ByteArray.mk #[], (), (), (), (), (), ()), [],
 ()), ())), K12.m2 Z ((linesD (SSta.lines s), (), ()), (ByteArray.mk #[], K12.n1 Z ((busesD (SSta.buses s), (), ()), (ByteArray.mk #[], (), (), (), (), (), ()), [], ()), (), (), (),
 (), ()), (K12.n1 Z ((busesD (SSta.buses s), (), ()), (ByteArray.mk #[], (), (), (), (), (), ()), [], ()), K12.f1 Z ((busesD (SSta.buses s), (), ()), (ByteArray.mk #[], (), (), (),
 (), (), ()), [], ())), K12.m1 Z ((busesD (SSta.buses s), (), ()), (ByteArray.mk #[], (), (), (), (), (), ()), [], ()), ()), ()))))), []))) else none) else (bif K12.e2 Z ((linesD
 (SSta.lines s), (), ()), (ByteArray.mk #[], K12.n1 Z ((busesD (SSta.buses s), (), ()), (ByteArray.mk #[], (), (), (), (), (), ()), [], ()), (), (), (), (), ()), (K12.n1 Z ((busesD
 (SSta.buses s), (), ()), (ByteArray.mk #[], (), (), (), (), (), ()), [], ()), K12.f1 Z ((busesD (SSta.buses s), (), ()), (ByteArray.mk #[], (), (), (), (), (), ()), [], ())), K12.m1
 Z ((busesD (SSta.buses s), (), ()), (ByteArray.mk #[], (), (), (), (), (), ()), [], ()), ()) == (0 : Int) then none else some (T.leaf (AV.c (.d (.v (.int .i64 (K12.e2
 Z ((linesD (SSta.lines s), (), ()), (ByteArray.mk #[], K12.n1 Z ((busesD (SSta.buses s), (), ()), (ByteArray.mk #[], (), (), (), (), (), ()), [], ()), (), (), (), (), ()), (K12.n1 Z
 ((busesD (SSta.buses s), (), ()), (ByteArray.mk #[], (), (), (), (), (), ()), [], ()), K12.f1 Z ((busesD (SSta.buses s), (), ()), (ByteArray.mk #[], (), (), (), (), (), ()), [],
 ())), K12.m1 Z ((busesD (SSta.buses s), (), ()), (ByteArray.mk #[], (), (), (), (), (), ()), [], ()), ()))))), [])))) else none) else (bif K12.e1 Z ((busesD (SSta.buses s), (), ()),
 (ByteArray.mk #[], (), (), (), (), (), ()), [], ()) == (0 : Int) then none else (bif K12.e1 Z ((busesD (SSta.buses s), (), ()), (ByteArray.mk #[], (), (), (), (), (), ()), [], ())
 == (0 : Int) then none else some (T.leaf (AV.c (.d (.v (.int .i64 (K12.e1 Z ((busesD (SSta.buses s), (), ()), (ByteArray.mk #[], (), (), (), (), (), ()), [], ()))))),
 []))))) else none))))))) := by kernel_rfl
end Go.Proofs.YthmapnolgdpkbaaDoor.st
namespace Go.Proofs.YthmapnolgdpkbaaDoor.st
open Go.RowKit Go.Eb

noncomputable abbrev u1 (a : A26) := takeN id (fun N _ x => namErr N x) (theM a.2.2.1) [] (theE busesD a.1.1)
noncomputable abbrev u2 (a : A28) := tLine (theM a.2.2.2.1) (theE linesD a.1.1)
noncomputable abbrev u3 (a : A30) := tSrc (theM a.2.2.2.2.1) (theE srcsD a.1.1)
noncomputable abbrev u4 (a : A32) := tBay a.2.2.1.1 a.2.2.2.1.1 a.2.2.2.2.1.1 (theM a.2.2.2.2.2.1) (theE baysD a.1.1)
noncomputable def Z12 : K12 where
  nk := nameOk
  ok1 a := okE busesD a.1.1 && (decide ((theE busesD a.1.1).length ≤ 900) && okM a.2.2.1)
  e1 a := (u1 a).1
  m1 a := mapOf (theM a.2.2.1 ++ (u1 a).2.map id)
  n1 a := (u1 a).2.length
  f1 a := fun i => busC ((u1 a).2.getD i e0)
  ok2 a := okE linesD a.1.1 && (decide ((theE linesD a.1.1).length ≤ 900) && (okM a.2.2.2.1 && Nat.beq a.2.1.2.1 a.2.2.1.1))
  e2 a := (u2 a).1
  m2 a := mapOf (theM a.2.2.2.1 ++ (u2 a).2.map SLine.name)
  n2 a := (u2 a).2.length
  f2 a := fun i => lineC ((u2 a).2.getD i line0)
  ok3 a := okE srcsD a.1.1 && (decide ((theE srcsD a.1.1).length ≤ 900) && (okM a.2.2.2.2.1 && (Nat.beq a.2.1.2.1 a.2.2.1.1 && Nat.beq a.2.1.2.2.1 a.2.2.2.1.1)))
  e3 a := (u3 a).1
  m3 a := mapOf (theM a.2.2.2.2.1 ++ (u3 a).2.map SSrc.name)
  n3 a := (u3 a).2.length
  f3 a := fun i => srcC' ((u3 a).2.getD i src0)
  ok4 a := okE baysD a.1.1 && (decide ((theE baysD a.1.1).length ≤ 900) && (okM a.2.2.2.2.2.1 && (Nat.beq a.2.1.2.1 a.2.2.1.1 && (Nat.beq a.2.1.2.2.1 a.2.2.2.1.1 && (Nat.beq a.2.1.2.2.2.1 a.2.2.2.2.1.1 && (Nat.ble a.2.2.1.1 900 && (Nat.ble a.2.2.2.1.1 900 && (Nat.ble a.2.2.2.2.1.1 900 && lksOk (theE baysD a.1.1)))))))))
  e4 a := (u4 a).1
  m4 a := mapOf (theM a.2.2.2.2.2.1 ++ (u4 a).2.map SBay.name)
  n4 a := (u4 a).2.length
  f4 a := fun i => bayC ((u4 a).2.getD i bay0)

theorem s12 : OrcS Tryd.prog (o12 Z12) := by
  refine .cons (.p decS_ok c15) (.cons (.inl .nil Tryd.func29 (by kernel_rfl)) (.cons (.d fun a ha => ?_) (.cons (.d fun a ha => ?_) (.cons (.d fun a ha => ?_) (.cons (.d fun a ha => ?_) .nil)))))
  · have ha' : (okE busesD a.1.1 && (decide ((theE busesD a.1.1).length ≤ 900) && okM a.2.2.1)) = true := ha
    simp only [Bool.and_eq_true, decide_eq_true_eq] at ha'
    obtain ⟨h1, h2, h3⟩ := ha'
    have hm := theM_spec h3
    refine (c26 (theE busesD a.1.1) a.2.1.1 (theM a.2.2.1) h2).ge (.cons (theE_de h1) (.cons (.refl _) .nil)) ?_
    show Hle (H1 a.2.1.1 a.2.2.1) _
    rw [← hm]
    exact .refl _
  · have ha' : (okE linesD a.1.1 && (decide ((theE linesD a.1.1).length ≤ 900) && (okM a.2.2.2.1 && Nat.beq a.2.1.2.1 a.2.2.1.1))) = true := ha
    simp only [Bool.and_eq_true, decide_eq_true_eq] at ha'
    obtain ⟨h1, h2, h3, h4⟩ := ha'
    have hm := theM_spec h3
    have e4 := Nat.eq_of_beq_eq_true h4
    refine (c28 (theE linesD a.1.1) a.2.1.1 a.2.2.1.1 a.2.2.1.2 (theM a.2.2.2.1) h2).ge (.cons (theE_de h1) (.cons (.refl _) .nil)) ?_
    show Hle [(0, .cells [.d (dS a.2.1.1), .row 1 1 a.2.1.2.1, nilC, nilC, nilC, .mp 2] 69), (1, .row a.2.2.1.1 a.2.2.1.2 1 9), (2, .map 0 a.2.2.2.1)] _
    rw [← hm, e4]
    exact .refl _
  · have ha' : (okE srcsD a.1.1 && (decide ((theE srcsD a.1.1).length ≤ 900) && (okM a.2.2.2.2.1 && (Nat.beq a.2.1.2.1 a.2.2.1.1 && Nat.beq a.2.1.2.2.1 a.2.2.2.1.1)))) = true := ha
    simp only [Bool.and_eq_true, decide_eq_true_eq] at ha'
    obtain ⟨h1, h2, h3, h4, h5⟩ := ha'
    have hm := theM_spec h3
    have e4 := Nat.eq_of_beq_eq_true h4
    have e5 := Nat.eq_of_beq_eq_true h5
    refine (c30 (theE srcsD a.1.1) a.2.1.1 a.2.2.1.1 a.2.2.1.2 a.2.2.2.1.1 a.2.2.2.1.2 (theM a.2.2.2.2.1) h2).ge (.cons (theE_de h1) (.cons (.refl _) .nil)) ?_
    show Hle [(0, .cells [.d (dS a.2.1.1), .row 1 1 a.2.1.2.1, .row 2 5 a.2.1.2.2.1, nilC, nilC, .mp 3] 69), (1, .row a.2.2.1.1 a.2.2.1.2 1 9), (2, .row a.2.2.2.1.1 a.2.2.2.1.2 5 50), (3, .map 0 a.2.2.2.2.1)] _
    rw [← hm, e4, e5]
    exact .refl _
  · have ha' : (okE baysD a.1.1 && (decide ((theE baysD a.1.1).length ≤ 900) && (okM a.2.2.2.2.2.1 && (Nat.beq a.2.1.2.1 a.2.2.1.1 && (Nat.beq a.2.1.2.2.1 a.2.2.2.1.1 && (Nat.beq a.2.1.2.2.2.1 a.2.2.2.2.1.1 && (Nat.ble a.2.2.1.1 900 && (Nat.ble a.2.2.2.1.1 900 && (Nat.ble a.2.2.2.2.1.1 900 && lksOk (theE baysD a.1.1)))))))))) = true := ha
    simp only [Bool.and_eq_true, decide_eq_true_eq] at ha'
    obtain ⟨h1, h2, h3, h4, h5, h6, h7, h8, h9, h10⟩ := ha'
    have hm := theM_spec h3
    have e4 := Nat.eq_of_beq_eq_true h4
    have e5 := Nat.eq_of_beq_eq_true h5
    have e6 := Nat.eq_of_beq_eq_true h6
    refine (c32 (theE baysD a.1.1) a.2.1.1 a.2.2.1.1 a.2.2.1.2 a.2.2.2.1.1 a.2.2.2.1.2 a.2.2.2.2.1.1 a.2.2.2.2.1.2 (theM a.2.2.2.2.2.1) h2 (Nat.le_of_ble_eq_true h7) (Nat.le_of_ble_eq_true h8) (Nat.le_of_ble_eq_true h9) (lksOk_get h10)).ge (.cons (theE_de h1) (.cons (.refl _) .nil)) ?_
    show Hle [(0, .cells [.d (dS a.2.1.1), .row 1 1 a.2.1.2.1, .row 2 5 a.2.1.2.2.1, .row 3 6 a.2.1.2.2.2.1, nilC, .mp 4] 69), (1, .row a.2.2.1.1 a.2.2.1.2 1 9), (2, .row a.2.2.2.1.1 a.2.2.2.1.2 5 50), (3, .row a.2.2.2.2.1.1 a.2.2.2.2.1.2 6 53), (4, .map 0 a.2.2.2.2.2.1)] _
    rw [← hm, e4, e5, e6]
    exact .refl _

theorem len_eq0 (n : Nat) : ((n : Int) == 0) = (n == 0) := by cases n <;> rfl
theorem len_gt (n k : Nat) : decide ((n : Int) > (k : Int)) = decide (k < n) := by rw [decide_eq_decide]; omega

theorem c12 (s : SSta) (hlk : lksOk s.bays = true) : CX Tryd.prog 15 [aSta s] [] (vI (chkSta s)) [] := by
  refine cx_of s12.ok Tryd.func15 b12 rfl ((ev12 Z12 s 1).trans ?_)
  have t4 : ∀ n : Nat, decide ((n : Int) > 4) = decide (4 < n) := fun n => len_gt n 4
  have t6 : ∀ n : Nat, decide ((n : Int) > 6) = decide (6 < n) := fun n => len_gt n 6
  have t16 : ∀ n : Nat, decide ((n : Int) > 16) = decide (16 < n) := fun n => len_gt n 16
  simp only [len_eq0, t4, t6, t16, fOr]
  unfold chkSta
  show (bif !nameOk s.name then _ else _) = _
  cases nameOk s.name with
  | false => rfl
  | true =>
    simp only [Bool.not_true, cond_false]
    have hcb : (s.buses.length == 0 || (decide (4 < s.buses.length) || (decide (6 < s.lines.length) || (decide (4 < s.srcs.length) || decide (16 < s.bays.length))))) = cntBad s := rfl
    rw [hcb]
    cases hc : cntBad s with
    | true => rfl
    | false =>
      simp only [cond_false]
      unfold cntBad at hc
      simp only [Bool.or_eq_false_iff, decide_eq_false_iff_not] at hc
      obtain ⟨_, h4, h6, h4', h16⟩ := hc
      have M0 : okM ([] : List (Value × Value)) = true := okM_mapOf []
      have M0' : theM ([] : List (Value × Value)) = [] := theM_mapOf []
      obtain ⟨L1, L1'⟩ := the_list (sz := 1) (d0 := e0) busC_inj s.buses
      obtain ⟨L2, L2'⟩ := the_list (sz := 5) (d0 := line0) lineC_inj s.lines
      obtain ⟨L3, L3'⟩ := the_list (sz := 6) (d0 := src0) srcC_inj s.srcs
      obtain ⟨L4, L4'⟩ := the_list (sz := 12) (d0 := bay0) bayC_inj s.bays
      have x1 : ∀ y, Z12.ok1 ((busesD s.buses, (), ()), y, [], ()) = true := fun y => by
        show (okE busesD (busesD s.buses) && (decide ((theE busesD (busesD s.buses)).length ≤ 900) && okM [])) = true
        rw [L1, L1', M0, decide_eq_true (by omega)]; rfl
      have y1 : ∀ y, u1 ((busesD s.buses, (), ()), y, [], ()) = tBus s.buses := fun y => by
        show takeN id (fun N _ x => namErr N x) (theM []) [] (theE busesD (busesD s.buses)) = _
        rw [L1', M0']; rfl
      have z1 : ∀ y, Z12.e1 ((busesD s.buses, (), ()), y, [], ()) = (tBus s.buses).1 := fun y => by show (u1 _).1 = _; rw [y1]
      rw [x1, z1]
      simp only [cond_true]
      cases E1 : ((tBus s.buses).1 == 0) with
      | false =>
        have : ((tBus s.buses).1 != 0) = true := by unfold bne; rw [E1]; rfl
        rw [this]; rfl
      | true =>
        have E1' : (tBus s.buses).1 = 0 := by simpa using E1
        have N1 : (tBus s.buses).2 = s.buses := by have := takeN_ok (nm := id) (f := fun N _ x => namErr N x) (N := []) [] s.buses E1'; rw [List.nil_append] at this; exact this
        have n1 : ∀ y, Z12.n1 ((busesD s.buses, (), ()), y, [], ()) = s.buses.length := fun y => by show (u1 _).2.length = _; rw [y1, N1]
        have m1 : ∀ y, Z12.m1 ((busesD s.buses, (), ()), y, [], ()) = mapOf s.buses := fun y => by
          show mapOf (theM [] ++ (u1 _).2.map id) = _
          rw [y1, N1, M0']; simp
        rw [E1']
        simp only [cond_true, n1, m1, bne_self_eq_false, cond_false]
        have x2 : ∀ a b c d, Z12.ok2 ((linesD s.lines, (), ()), (a, s.buses.length, b), (s.buses.length, c), mapOf s.buses, d) = true := fun a b c d => by
          show (okE linesD (linesD s.lines) && (decide ((theE linesD (linesD s.lines)).length ≤ 900) && (okM (mapOf s.buses) && Nat.beq s.buses.length s.buses.length))) = true
          rw [L2, L2', okM_mapOf, decide_eq_true (by omega), Nat.beq_refl]; rfl
        have y2 : ∀ a b c d, u2 ((linesD s.lines, (), ()), (a, s.buses.length, b), (s.buses.length, c), mapOf s.buses, d) = tLine s.buses s.lines := fun a b c d => by
          show tLine (theM (mapOf s.buses)) (theE linesD (linesD s.lines)) = _
          rw [L2', theM_mapOf]
        have z2 : ∀ a b c d, Z12.e2 ((linesD s.lines, (), ()), (a, s.buses.length, b), (s.buses.length, c), mapOf s.buses, d) = (tLine s.buses s.lines).1 := fun a b c d => by show (u2 _).1 = _; rw [y2]
        rw [x2, z2]
        simp only [cond_true]
        cases E2 : ((tLine s.buses s.lines).1 == 0) with
        | false =>
          have : ((tLine s.buses s.lines).1 != 0) = true := by unfold bne; rw [E2]; rfl
          rw [this]; rfl
        | true =>
          have E2' : (tLine s.buses s.lines).1 = 0 := by simpa using E2
          have N2 : (tLine s.buses s.lines).2 = s.lines := by have := takeN_ok (nm := SLine.name) (f := fun N _ x => lineErr N x) (N := s.buses) [] s.lines E2'; rw [List.nil_append] at this; exact this
          have n2 : ∀ a b c d, Z12.n2 ((linesD s.lines, (), ()), (a, s.buses.length, b), (s.buses.length, c), mapOf s.buses, d) = s.lines.length := fun a b c d => by show (u2 _).2.length = _; rw [y2, N2]
          have m2 : ∀ a b c d, Z12.m2 ((linesD s.lines, (), ()), (a, s.buses.length, b), (s.buses.length, c), mapOf s.buses, d) = mapOf (s.buses ++ s.lines.map SLine.name) := fun a b c d => by
            show mapOf (theM (mapOf s.buses) ++ (u2 _).2.map SLine.name) = _
            rw [y2, N2, theM_mapOf]
          rw [E2']
          simp only [cond_true, n2, m2, bne_self_eq_false, cond_false]
          have x3 : ∀ a b c d e, Z12.ok3 ((srcsD s.srcs, (), ()), (a, s.buses.length, s.lines.length, b), (s.buses.length, c), (s.lines.length, d), mapOf (s.buses ++ s.lines.map SLine.name), e) = true := fun a b c d e => by
            show (okE srcsD (srcsD s.srcs) && (decide ((theE srcsD (srcsD s.srcs)).length ≤ 900) && (okM (mapOf (s.buses ++ s.lines.map SLine.name)) && (Nat.beq s.buses.length s.buses.length && Nat.beq s.lines.length s.lines.length)))) = true
            rw [L3, L3', okM_mapOf, decide_eq_true (by omega), Nat.beq_refl, Nat.beq_refl]; rfl
          have y3 : ∀ a b c d e, u3 ((srcsD s.srcs, (), ()), (a, s.buses.length, s.lines.length, b), (s.buses.length, c), (s.lines.length, d), mapOf (s.buses ++ s.lines.map SLine.name), e) = tSrc (s.buses ++ s.lines.map SLine.name) s.srcs := fun a b c d e => by
            show tSrc (theM (mapOf (s.buses ++ s.lines.map SLine.name))) (theE srcsD (srcsD s.srcs)) = _
            rw [L3', theM_mapOf]
          have z3 : ∀ a b c d e, Z12.e3 ((srcsD s.srcs, (), ()), (a, s.buses.length, s.lines.length, b), (s.buses.length, c), (s.lines.length, d), mapOf (s.buses ++ s.lines.map SLine.name), e) = (tSrc (s.buses ++ s.lines.map SLine.name) s.srcs).1 := fun a b c d e => by show (u3 _).1 = _; rw [y3]
          rw [x3, z3]
          simp only [cond_true]
          cases E3 : ((tSrc (s.buses ++ s.lines.map SLine.name) s.srcs).1 == 0) with
          | false =>
            have : ((tSrc (s.buses ++ s.lines.map SLine.name) s.srcs).1 != 0) = true := by unfold bne; rw [E3]; rfl
            rw [this]; rfl
          | true =>
            have E3' : (tSrc (s.buses ++ s.lines.map SLine.name) s.srcs).1 = 0 := by simpa using E3
            have N3 : (tSrc (s.buses ++ s.lines.map SLine.name) s.srcs).2 = s.srcs := by have := takeN_ok (nm := SSrc.name) (f := fun N _ x => srcErr N x) (N := s.buses ++ s.lines.map SLine.name) [] s.srcs E3'; rw [List.nil_append] at this; exact this
            have n3 : ∀ a b c d e, Z12.n3 ((srcsD s.srcs, (), ()), (a, s.buses.length, s.lines.length, b), (s.buses.length, c), (s.lines.length, d), mapOf (s.buses ++ s.lines.map SLine.name), e) = s.srcs.length := fun a b c d e => by show (u3 _).2.length = _; rw [y3, N3]
            have m3 : ∀ a b c d e, Z12.m3 ((srcsD s.srcs, (), ()), (a, s.buses.length, s.lines.length, b), (s.buses.length, c), (s.lines.length, d), mapOf (s.buses ++ s.lines.map SLine.name), e) = mapOf (s.buses ++ s.lines.map SLine.name ++ s.srcs.map SSrc.name) := fun a b c d e => by
              show mapOf (theM (mapOf (s.buses ++ s.lines.map SLine.name)) ++ (u3 _).2.map SSrc.name) = _
              rw [y3, N3, theM_mapOf]
            rw [E3']
            simp only [cond_true, n3, m3, bne_self_eq_false, cond_false]
            have x4 : ∀ a b c d e f, Z12.ok4 ((baysD s.bays, (), ()), (a, s.buses.length, s.lines.length, s.srcs.length, b), (s.buses.length, c), (s.lines.length, d), (s.srcs.length, e), mapOf (s.buses ++ s.lines.map SLine.name ++ s.srcs.map SSrc.name), f) = true := fun a b c d e f => by
              show (okE baysD (baysD s.bays) && (decide ((theE baysD (baysD s.bays)).length ≤ 900) && (okM (mapOf (s.buses ++ s.lines.map SLine.name ++ s.srcs.map SSrc.name)) && (Nat.beq s.buses.length s.buses.length && (Nat.beq s.lines.length s.lines.length && (Nat.beq s.srcs.length s.srcs.length && (Nat.ble s.buses.length 900 && (Nat.ble s.lines.length 900 && (Nat.ble s.srcs.length 900 && lksOk (theE baysD (baysD s.bays))))))))))) = true
              rw [L4, L4', okM_mapOf, decide_eq_true (by omega), Nat.beq_refl, Nat.beq_refl, Nat.beq_refl, bleD, bleD, bleD, decide_eq_true (by omega), decide_eq_true (by omega), decide_eq_true (by omega), hlk]; rfl
            have z4 : ∀ a b c d e f, Z12.e4 ((baysD s.bays, (), ()), (a, s.buses.length, s.lines.length, s.srcs.length, b), (s.buses.length, c), (s.lines.length, d), (s.srcs.length, e), mapOf (s.buses ++ s.lines.map SLine.name ++ s.srcs.map SSrc.name), f) = (tBay s.buses.length s.lines.length s.srcs.length (s.buses ++ s.lines.map SLine.name ++ s.srcs.map SSrc.name) s.bays).1 := fun a b c d e f => by
              show (tBay s.buses.length s.lines.length s.srcs.length (theM (mapOf (s.buses ++ s.lines.map SLine.name ++ s.srcs.map SSrc.name))) (theE baysD (baysD s.bays))).1 = _
              rw [L4', theM_mapOf]
            rw [x4, z4]
            rfl
end Go.Proofs.YthmapnolgdpkbaaDoor.st
namespace Go.Proofs.YthmapnolgdpkbaaDoor.st
open Go.RowKit Go.Eb

/-! bays -/
/-! Same of the program -/
end Go.Proofs.YthmapnolgdpkbaaDoor.st
namespace Go.Proofs.YthmapnolgdpkbaaDoor.st
open Go.RowKit Go.Eb

section
variable (a b : SSta) (g : Nat)
end
end Go.Proofs.YthmapnolgdpkbaaDoor.st
namespace Go.Proofs.YthmapnolgdpkbaaDoor.st
open Go.RowKit Go.Eb

noncomputable def oBe : Orc := Orc.cons 52 (inl Tryd.prog Orc.nil na 1 Tryd.f52) Orc.nil
noncomputable def oOh : Orc := Orc.cons 25 (inl Tryd.prog oBe na 1 Tryd.f25) oBe
noncomputable def ann49 : Ann := annOf []
theorem b49 : Tryd.f54.body = some (bodyOf Tryd.f54) := by kernel_rfl
theorem ev49 (x : SBay) (g : Nat) : callC Tryd.prog oOh ann49 g Tryd.f54 (bodyOf Tryd.f54) [aBay x] [] =
 (bif SBay.kind x == (1 : Int) then (bif decide (SBay.fin x ≥ (0 : Int)) then (bif !decide (SBay.fin x ≤ (1 : Int)) then some (T.leaf (AV.c (.d (.v (.bool false))), [])) else
 (bif !SBay.kind x == (1 : Int) then (bif SBay.fin x != (0 : Int) then some (T.leaf (AV.c (.d (.v (.bool false))), [])) else (bif SBay.kind x == (3 : Int) then (bif decide
 (SBay.zr x ≥ (0 : Int)) then (bif decide (SBay.zr x ≤ (1000 : Int)) then (bif decide (SBay.zx x ≥ (1 : Int)) then (bif !decide (SBay.zx x ≤ (1000 : Int)) then some (T.leaf (AV.c
 (C.d (.v (.bool false))), [])) else (bif !SBay.kind x == (3 : Int) then (bif !(SBay.zr x == (0 : Int) && (SBay.zx x == (0 : Int) && true)) then some (T.leaf (AV.c (C.d (D.v
 (Value.bool false))), [])) else (bif decide (SBay.ct x ≥ (1 : Int)) then (bif !decide (SBay.ct x ≤ (100 : Int)) then some (T.leaf (AV.c (.d (.v (.bool false))), [])) else
 (bif SBay.kind x == (3 : Int) then (bif SBay.vt x != (0 : Int) then some (T.leaf (AV.c (.d (.v (.bool false))), [])) else (bif !SBay.kind x == (3 : Int) then (bif decide
 (SBay.vt x ≥ (1 : Int)) then (bif !decide (SBay.vt x ≤ (10000 : Int)) then some (T.leaf (AV.c (.d (.v (.bool false))), [])) else (bif decide (SBay.sat x ≥ (0 : Int)) then
 (bif decide (SBay.sat x ≤ (16383 : Int)) then (bif decide (SBay.travel x ≥ (1 : Int)) then some (T.leaf (AV.c (.d (.v (.bool (decide (SBay.travel x ≤ (6 : Int)))))), []))
 else some (T.leaf (AV.c (.d (.v (.bool false))), []))) else some (T.leaf (AV.c (.d (.v (.bool false))), []))) else some (T.leaf (AV.c (.d (.v (.bool false))),
 [])))) else some (T.leaf (AV.c (.d (.v (.bool false))), []))) else (bif decide (SBay.sat x ≥ (0 : Int)) then (bif decide (SBay.sat x ≤ (16383 : Int)) then (bif decide
 (SBay.travel x ≥ (1 : Int)) then some (T.leaf (AV.c (.d (.v (.bool (decide (SBay.travel x ≤ (6 : Int)))))), [])) else some (T.leaf (AV.c (.d (.v (.bool false))), [])))
 else some (T.leaf (AV.c (.d (.v (.bool false))), []))) else some (T.leaf (AV.c (.d (.v (.bool false))), []))))) else (bif !SBay.kind x == (3 : Int) then (bif decide
 (SBay.vt x ≥ (1 : Int)) then (bif !decide (SBay.vt x ≤ (10000 : Int)) then some (T.leaf (AV.c (.d (.v (.bool false))), [])) else (bif decide (SBay.sat x ≥ (0 : Int)) then
 (bif decide (SBay.sat x ≤ (16383 : Int)) then (bif decide (SBay.travel x ≥ (1 : Int)) then some (T.leaf (AV.c (.d (.v (.bool (decide (SBay.travel x ≤ (6 : Int)))))), []))
 else some (T.leaf (AV.c (.d (.v (.bool false))), []))) else some (T.leaf (AV.c (.d (.v (.bool false))), []))) else some (T.leaf (AV.c (.d (.v (.bool false))),
 [])))) else some (T.leaf (AV.c (.d (.v (.bool false))), []))) else (bif decide (SBay.sat x ≥ (0 : Int)) then (bif decide (SBay.sat x ≤ (16383 : Int)) then (bif decide
 (SBay.travel x ≥ (1 : Int)) then some (T.leaf (AV.c (.d (.v (.bool (decide (SBay.travel x ≤ (6 : Int)))))), [])) else some (T.leaf (AV.c (.d (.v (.bool false))), [])))
 else some (T.leaf (AV.c (.d (.v (.bool false))), []))) else some (T.leaf (AV.c (.d (.v (.bool false))), [])))))) else some (T.leaf (AV.c (C.d (D.v (Value.bool
 false))), [])))) else (bif decide (SBay.ct x ≥ (1 : Int)) then (bif !decide (SBay.ct x ≤ (100 : Int)) then some (T.leaf (AV.c (.d (.v (.bool false))), [])) else (bif
 SBay.kind x == (3 : Int) then (bif SBay.vt x != (0 : Int) then some (T.leaf (AV.c (.d (.v (.bool false))), [])) else (bif !SBay.kind x == (3 : Int) then (bif decide (SBay.vt
 x ≥ (1 : Int)) then (bif !decide (SBay.vt x ≤ (10000 : Int)) then some (T.leaf (AV.c (.d (.v (.bool false))), [])) else (bif decide (SBay.sat x ≥ (0 : Int)) then (bif decide
 (SBay.sat x ≤ (16383 : Int)) then (bif decide (SBay.travel x ≥ (1 : Int)) then some (T.leaf (AV.c (.d (.v (.bool (decide (SBay.travel x ≤ (6 : Int)))))), [])) else some
 (T.leaf (AV.c (.d (.v (.bool false))), []))) else some (T.leaf (AV.c (.d (.v (.bool false))), []))) else some (T.leaf (AV.c (.d (.v (.bool false))), [])))) else
 some (T.leaf (AV.c (.d (.v (.bool false))), []))) else (bif decide (SBay.sat x ≥ (0 : Int)) then (bif decide (SBay.sat x ≤ (16383 : Int)) then (bif decide (SBay.travel x ≥ (1
 : Int)) then some (T.leaf (AV.c (.d (.v (.bool (decide (SBay.travel x ≤ (6 : Int)))))), [])) else some (T.leaf (AV.c (.d (.v (.bool false))), []))) else some (T.leaf
 (AV.c (.d (.v (.bool false))), []))) else some (T.leaf (AV.c (.d (.v (.bool false))), []))))) else (bif !SBay.kind x == (3 : Int) then (bif decide (SBay.vt x ≥ (1 :
 Int)) then (bif !decide (SBay.vt x ≤ (10000 : Int)) then some (T.leaf (AV.c (.d (.v (.bool false))), [])) else (bif decide (SBay.sat x ≥ (0 : Int)) then (bif decide (SBay.sat
 x ≤ (16383 : Int)) then (bif decide (SBay.travel x ≥ (1 : Int)) then some (T.leaf (AV.c (.d (.v (.bool (decide (SBay.travel x ≤ (6 : Int)))))), [])) else some (T.leaf (AV.c
 (C.d (.v (.bool false))), []))) else some (T.leaf (AV.c (.d (.v (.bool false))), []))) else some (T.leaf (AV.c (.d (.v (.bool false))), [])))) else some (T.leaf
 (AV.c (.d (.v (.bool false))), []))) else (bif decide (SBay.sat x ≥ (0 : Int)) then (bif decide (SBay.sat x ≤ (16383 : Int)) then (bif decide (SBay.travel x ≥ (1 : Int)) then
 some (T.leaf (AV.c (.d (.v (.bool (decide (SBay.travel x ≤ (6 : Int)))))), [])) else some (T.leaf (AV.c (.d (.v (.bool false))), []))) else some (T.leaf (AV.c (C.d
 (D.v (.bool false))), []))) else some (T.leaf (AV.c (.d (.v (.bool false))), [])))))) else some (T.leaf (AV.c (.d (.v (.bool false))), []))))) else some (T.leaf
 (AV.c (.d (.v (.bool false))), []))) else some (T.leaf (AV.c (.d (.v (.bool false))), []))) else some (T.leaf (AV.c (.d (.v (.bool false))), []))) else (bif
 !SBay.kind x == (3 : Int) then (bif !(SBay.zr x == (0 : Int) && (SBay.zx x == (0 : Int) && true)) then some (T.leaf (AV.c (.d (.v (.bool false))), [])) else (bif decide
 (SBay.ct x ≥ (1 : Int)) then (bif !decide (SBay.ct x ≤ (100 : Int)) then some (T.leaf (AV.c (.d (.v (.bool false))), [])) else (bif SBay.kind x == (3 : Int) then (bif SBay.vt
 x != (0 : Int) then some (T.leaf (AV.c (.d (.v (.bool false))), [])) else (bif !SBay.kind x == (3 : Int) then (bif decide (SBay.vt x ≥ (1 : Int)) then (bif !decide (SBay.vt x
 ≤ (10000 : Int)) then some (T.leaf (AV.c (.d (.v (.bool false))), [])) else (bif decide (SBay.sat x ≥ (0 : Int)) then (bif decide (SBay.sat x ≤ (16383 : Int)) then (bif
 decide (SBay.travel x ≥ (1 : Int)) then some (T.leaf (AV.c (.d (.v (.bool (decide (SBay.travel x ≤ (6 : Int)))))), [])) else some (T.leaf (AV.c (C.d (D.v (Value.bool
 false))), []))) else some (T.leaf (AV.c (.d (.v (.bool false))), []))) else some (T.leaf (AV.c (.d (.v (.bool false))), [])))) else some (T.leaf (AV.c (C.d (D.v
 (Value.bool false))), []))) else (bif decide (SBay.sat x ≥ (0 : Int)) then (bif decide (SBay.sat x ≤ (16383 : Int)) then (bif decide (SBay.travel x ≥ (1 : Int)) then some (T.leaf
 (AV.c (.d (.v (.bool (decide (SBay.travel x ≤ (6 : Int)))))), [])) else some (T.leaf (AV.c (.d (.v (.bool false))), []))) else some (T.leaf (AV.c (C.d (D.v (Value.bool
 false))), []))) else some (T.leaf (AV.c (.d (.v (.bool false))), []))))) else (bif !SBay.kind x == (3 : Int) then (bif decide (SBay.vt x ≥ (1 : Int)) then (bif !decide
 (SBay.vt x ≤ (10000 : Int)) then some (T.leaf (AV.c (.d (.v (.bool false))), [])) else (bif decide (SBay.sat x ≥ (0 : Int)) then (bif decide (SBay.sat x ≤ (16383 : Int)) then
 (bif decide (SBay.travel x ≥ (1 : Int)) then some (T.leaf (AV.c (.d (.v (.bool (decide (SBay.travel x ≤ (6 : Int)))))), [])) else some (T.leaf (AV.c (C.d (D.v (Value.bool
 false))), []))) else some (T.leaf (AV.c (.d (.v (.bool false))), []))) else some (T.leaf (AV.c (.d (.v (.bool false))), [])))) else some (T.leaf (AV.c (C.d (D.v
 (Value.bool false))), []))) else (bif decide (SBay.sat x ≥ (0 : Int)) then (bif decide (SBay.sat x ≤ (16383 : Int)) then (bif decide (SBay.travel x ≥ (1 : Int)) then some (T.leaf
 (AV.c (.d (.v (.bool (decide (SBay.travel x ≤ (6 : Int)))))), [])) else some (T.leaf (AV.c (.d (.v (.bool false))), []))) else some (T.leaf (AV.c (C.d (D.v (Value.bool
 false))), []))) else some (T.leaf (AV.c (.d (.v (.bool false))), [])))))) else some (T.leaf (AV.c (.d (.v (.bool false))), [])))) else (bif decide (SBay.ct x ≥ (1 :
 Int)) then (bif !decide (SBay.ct x ≤ (100 : Int)) then some (T.leaf (AV.c (.d (.v (.bool false))), [])) else (bif SBay.kind x == (3 : Int) then (bif SBay.vt x != (0 : Int)
 then some (T.leaf (AV.c (.d (.v (.bool false))), [])) else (bif !SBay.kind x == (3 : Int) then (bif decide (SBay.vt x ≥ (1 : Int)) then (bif !decide (SBay.vt x ≤ (10000 :
 Int)) then some (T.leaf (AV.c (.d (.v (.bool false))), [])) else (bif decide (SBay.sat x ≥ (0 : Int)) then (bif decide (SBay.sat x ≤ (16383 : Int)) then (bif decide
 (SBay.travel x ≥ (1 : Int)) then some (T.leaf (AV.c (.d (.v (.bool (decide (SBay.travel x ≤ (6 : Int)))))), [])) else some (T.leaf (AV.c (.d (.v (.bool false))), [])))
 else some (T.leaf (AV.c (.d (.v (.bool false))), []))) else some (T.leaf (AV.c (.d (.v (.bool false))), [])))) else some (T.leaf (AV.c (.d (.v (.bool false))),
 []))) else (bif decide (SBay.sat x ≥ (0 : Int)) then (bif decide (SBay.sat x ≤ (16383 : Int)) then (bif decide (SBay.travel x ≥ (1 : Int)) then some (T.leaf (AV.c (C.d (D.v
 (Value.bool (decide (SBay.travel x ≤ (6 : Int)))))), [])) else some (T.leaf (AV.c (.d (.v (.bool false))), []))) else some (T.leaf (AV.c (.d (.v (.bool false))), [])))
 else some (T.leaf (AV.c (.d (.v (.bool false))), []))))) else (bif !SBay.kind x == (3 : Int) then (bif decide (SBay.vt x ≥ (1 : Int)) then (bif !decide (SBay.vt x ≤ (10000 :
 Int)) then some (T.leaf (AV.c (.d (.v (.bool false))), [])) else (bif decide (SBay.sat x ≥ (0 : Int)) then (bif decide (SBay.sat x ≤ (16383 : Int)) then (bif decide
 (SBay.travel x ≥ (1 : Int)) then some (T.leaf (AV.c (.d (.v (.bool (decide (SBay.travel x ≤ (6 : Int)))))), [])) else some (T.leaf (AV.c (.d (.v (.bool false))), [])))
 else some (T.leaf (AV.c (.d (.v (.bool false))), []))) else some (T.leaf (AV.c (.d (.v (.bool false))), [])))) else some (T.leaf (AV.c (.d (.v (.bool false))),
 []))) else (bif decide (SBay.sat x ≥ (0 : Int)) then (bif decide (SBay.sat x ≤ (16383 : Int)) then (bif decide (SBay.travel x ≥ (1 : Int)) then some (T.leaf (AV.c (C.d (D.v
 (Value.bool (decide (SBay.travel x ≤ (6 : Int)))))), [])) else some (T.leaf (AV.c (.d (.v (.bool false))), []))) else some (T.leaf (AV.c (.d (.v (.bool false))), [])))
 else some (T.leaf (AV.c (.d (.v (.bool false))), [])))))) else some (T.leaf (AV.c (.d (.v (.bool false))), [])))))) else (bif SBay.kind x == (3 : Int) then (bif decide
 (SBay.zr x ≥ (0 : Int)) then (bif decide (SBay.zr x ≤ (1000 : Int)) then (bif decide (SBay.zx x ≥ (1 : Int)) then (bif !decide (SBay.zx x ≤ (1000 : Int)) then some (T.leaf (AV.c
 (C.d (.v (.bool false))), [])) else (bif !SBay.kind x == (3 : Int) then (bif !(SBay.zr x == (0 : Int) && (SBay.zx x == (0 : Int) && true)) then some (T.leaf (AV.c (C.d (D.v
 (Value.bool false))), [])) else (bif decide (SBay.ct x ≥ (1 : Int)) then (bif !decide (SBay.ct x ≤ (100 : Int)) then some (T.leaf (AV.c (.d (.v (.bool false))), [])) else
 (bif SBay.kind x == (3 : Int) then (bif SBay.vt x != (0 : Int) then some (T.leaf (AV.c (.d (.v (.bool false))), [])) else (bif !SBay.kind x == (3 : Int) then (bif decide
 (SBay.vt x ≥ (1 : Int)) then (bif !decide (SBay.vt x ≤ (10000 : Int)) then some (T.leaf (AV.c (.d (.v (.bool false))), [])) else (bif decide (SBay.sat x ≥ (0 : Int)) then
 (bif decide (SBay.sat x ≤ (16383 : Int)) then (bif decide (SBay.travel x ≥ (1 : Int)) then some (T.leaf (AV.c (.d (.v (.bool (decide (SBay.travel x ≤ (6 : Int)))))), []))
 else some (T.leaf (AV.c (.d (.v (.bool false))), []))) else some (T.leaf (AV.c (.d (.v (.bool false))), []))) else some (T.leaf (AV.c (.d (.v (.bool false))),
 [])))) else some (T.leaf (AV.c (.d (.v (.bool false))), []))) else (bif decide (SBay.sat x ≥ (0 : Int)) then (bif decide (SBay.sat x ≤ (16383 : Int)) then (bif decide
 (SBay.travel x ≥ (1 : Int)) then some (T.leaf (AV.c (.d (.v (.bool (decide (SBay.travel x ≤ (6 : Int)))))), [])) else some (T.leaf (AV.c (.d (.v (.bool false))), [])))
 else some (T.leaf (AV.c (.d (.v (.bool false))), []))) else some (T.leaf (AV.c (.d (.v (.bool false))), []))))) else (bif !SBay.kind x == (3 : Int) then (bif decide
 (SBay.vt x ≥ (1 : Int)) then (bif !decide (SBay.vt x ≤ (10000 : Int)) then some (T.leaf (AV.c (.d (.v (.bool false))), [])) else (bif decide (SBay.sat x ≥ (0 : Int)) then
 (bif decide (SBay.sat x ≤ (16383 : Int)) then (bif decide (SBay.travel x ≥ (1 : Int)) then some (T.leaf (AV.c (.d (.v (.bool (decide (SBay.travel x ≤ (6 : Int)))))), []))
 else some (T.leaf (AV.c (.d (.v (.bool false))), []))) else some (T.leaf (AV.c (.d (.v (.bool false))), []))) else some (T.leaf (AV.c (.d (.v (.bool false))),
 [])))) else some (T.leaf (AV.c (.d (.v (.bool false))), []))) else (bif decide (SBay.sat x ≥ (0 : Int)) then (bif decide (SBay.sat x ≤ (16383 : Int)) then (bif decide
 (SBay.travel x ≥ (1 : Int)) then some (T.leaf (AV.c (.d (.v (.bool (decide (SBay.travel x ≤ (6 : Int)))))), [])) else some (T.leaf (AV.c (.d (.v (.bool false))), [])))
 else some (T.leaf (AV.c (.d (.v (.bool false))), []))) else some (T.leaf (AV.c (.d (.v (.bool false))), [])))))) else some (T.leaf (AV.c (C.d (D.v (Value.bool
 false))), [])))) else (bif decide (SBay.ct x ≥ (1 : Int)) then (bif !decide (SBay.ct x ≤ (100 : Int)) then some (T.leaf (AV.c (.d (.v (.bool false))), [])) else (bif
 SBay.kind x == (3 : Int) then (bif SBay.vt x != (0 : Int) then some (T.leaf (AV.c (.d (.v (.bool false))), [])) else (bif !SBay.kind x == (3 : Int) then (bif decide (SBay.vt
 x ≥ (1 : Int)) then (bif !decide (SBay.vt x ≤ (10000 : Int)) then some (T.leaf (AV.c (.d (.v (.bool false))), [])) else (bif decide (SBay.sat x ≥ (0 : Int)) then (bif decide
 (SBay.sat x ≤ (16383 : Int)) then (bif decide (SBay.travel x ≥ (1 : Int)) then some (T.leaf (AV.c (.d (.v (.bool (decide (SBay.travel x ≤ (6 : Int)))))), [])) else some
 (T.leaf (AV.c (.d (.v (.bool false))), []))) else some (T.leaf (AV.c (.d (.v (.bool false))), []))) else some (T.leaf (AV.c (.d (.v (.bool false))), [])))) else
 some (T.leaf (AV.c (.d (.v (.bool false))), []))) else (bif decide (SBay.sat x ≥ (0 : Int)) then (bif decide (SBay.sat x ≤ (16383 : Int)) then (bif decide (SBay.travel x ≥ (1
 : Int)) then some (T.leaf (AV.c (.d (.v (.bool (decide (SBay.travel x ≤ (6 : Int)))))), [])) else some (T.leaf (AV.c (.d (.v (.bool false))), []))) else some (T.leaf
 (AV.c (.d (.v (.bool false))), []))) else some (T.leaf (AV.c (.d (.v (.bool false))), []))))) else (bif !SBay.kind x == (3 : Int) then (bif decide (SBay.vt x ≥ (1 :
 Int)) then (bif !decide (SBay.vt x ≤ (10000 : Int)) then some (T.leaf (AV.c (.d (.v (.bool false))), [])) else (bif decide (SBay.sat x ≥ (0 : Int)) then (bif decide (SBay.sat
 x ≤ (16383 : Int)) then (bif decide (SBay.travel x ≥ (1 : Int)) then some (T.leaf (AV.c (.d (.v (.bool (decide (SBay.travel x ≤ (6 : Int)))))), [])) else some (T.leaf (AV.c
 (C.d (.v (.bool false))), []))) else some (T.leaf (AV.c (.d (.v (.bool false))), []))) else some (T.leaf (AV.c (.d (.v (.bool false))), [])))) else some (T.leaf
 (AV.c (.d (.v (.bool false))), []))) else (bif decide (SBay.sat x ≥ (0 : Int)) then (bif decide (SBay.sat x ≤ (16383 : Int)) then (bif decide (SBay.travel x ≥ (1 : Int)) then
 some (T.leaf (AV.c (.d (.v (.bool (decide (SBay.travel x ≤ (6 : Int)))))), [])) else some (T.leaf (AV.c (.d (.v (.bool false))), []))) else some (T.leaf (AV.c (C.d
 (D.v (.bool false))), []))) else some (T.leaf (AV.c (.d (.v (.bool false))), [])))))) else some (T.leaf (AV.c (.d (.v (.bool false))), []))))) else some (T.leaf
 (AV.c (.d (.v (.bool false))), []))) else some (T.leaf (AV.c (.d (.v (.bool false))), []))) else some (T.leaf (AV.c (.d (.v (.bool false))), []))) else (bif
 !SBay.kind x == (3 : Int) then (bif !(SBay.zr x == (0 : Int) && (SBay.zx x == (0 : Int) && true)) then some (T.leaf (AV.c (.d (.v (.bool false))), [])) else (bif decide
 (SBay.ct x ≥ (1 : Int)) then (bif !decide (SBay.ct x ≤ (100 : Int)) then some (T.leaf (AV.c (.d (.v (.bool false))), [])) else (bif SBay.kind x == (3 : Int) then (bif SBay.vt
 x != (0 : Int) then some (T.leaf (AV.c (.d (.v (.bool false))), [])) else (bif !SBay.kind x == (3 : Int) then (bif decide (SBay.vt x ≥ (1 : Int)) then (bif !decide (SBay.vt x
 ≤ (10000 : Int)) then some (T.leaf (AV.c (.d (.v (.bool false))), [])) else (bif decide (SBay.sat x ≥ (0 : Int)) then (bif decide (SBay.sat x ≤ (16383 : Int)) then (bif
 decide (SBay.travel x ≥ (1 : Int)) then some (T.leaf (AV.c (.d (.v (.bool (decide (SBay.travel x ≤ (6 : Int)))))), [])) else some (T.leaf (AV.c (C.d (D.v (Value.bool
 false))), []))) else some (T.leaf (AV.c (.d (.v (.bool false))), []))) else some (T.leaf (AV.c (.d (.v (.bool false))), [])))) else some (T.leaf (AV.c (C.d (D.v
 (Value.bool false))), []))) else (bif decide (SBay.sat x ≥ (0 : Int)) then (bif decide (SBay.sat x ≤ (16383 : Int)) then (bif decide (SBay.travel x ≥ (1 : Int)) then some (T.leaf
 (AV.c (.d (.v (.bool (decide (SBay.travel x ≤ (6 : Int)))))), [])) else some (T.leaf (AV.c (.d (.v (.bool false))), []))) else some (T.leaf (AV.c (C.d (D.v (Value.bool
 false))), []))) else some (T.leaf (AV.c (.d (.v (.bool false))), []))))) else (bif !SBay.kind x == (3 : Int) then (bif decide (SBay.vt x ≥ (1 : Int)) then (bif !decide
 (SBay.vt x ≤ (10000 : Int)) then some (T.leaf (AV.c (.d (.v (.bool false))), [])) else (bif decide (SBay.sat x ≥ (0 : Int)) then (bif decide (SBay.sat x ≤ (16383 : Int)) then
 (bif decide (SBay.travel x ≥ (1 : Int)) then some (T.leaf (AV.c (.d (.v (.bool (decide (SBay.travel x ≤ (6 : Int)))))), [])) else some (T.leaf (AV.c (C.d (D.v (Value.bool
 false))), []))) else some (T.leaf (AV.c (.d (.v (.bool false))), []))) else some (T.leaf (AV.c (.d (.v (.bool false))), [])))) else some (T.leaf (AV.c (C.d (D.v
 (Value.bool false))), []))) else (bif decide (SBay.sat x ≥ (0 : Int)) then (bif decide (SBay.sat x ≤ (16383 : Int)) then (bif decide (SBay.travel x ≥ (1 : Int)) then some (T.leaf
 (AV.c (.d (.v (.bool (decide (SBay.travel x ≤ (6 : Int)))))), [])) else some (T.leaf (AV.c (.d (.v (.bool false))), []))) else some (T.leaf (AV.c (C.d (D.v (Value.bool
 false))), []))) else some (T.leaf (AV.c (.d (.v (.bool false))), [])))))) else some (T.leaf (AV.c (.d (.v (.bool false))), [])))) else (bif decide (SBay.ct x ≥ (1 :
 Int)) then (bif !decide (SBay.ct x ≤ (100 : Int)) then some (T.leaf (AV.c (.d (.v (.bool false))), [])) else (bif SBay.kind x == (3 : Int) then (bif SBay.vt x != (0 : Int)
 then some (T.leaf (AV.c (.d (.v (.bool false))), [])) else (bif !SBay.kind x == (3 : Int) then (bif decide (SBay.vt x ≥ (1 : Int)) then (bif !decide (SBay.vt x ≤ (10000 :
 Int)) then some (T.leaf (AV.c (.d (.v (.bool false))), [])) else (bif decide (SBay.sat x ≥ (0 : Int)) then (bif decide (SBay.sat x ≤ (16383 : Int)) then (bif decide
 (SBay.travel x ≥ (1 : Int)) then some (T.leaf (AV.c (.d (.v (.bool (decide (SBay.travel x ≤ (6 : Int)))))), [])) else some (T.leaf (AV.c (.d (.v (.bool false))), [])))
 else some (T.leaf (AV.c (.d (.v (.bool false))), []))) else some (T.leaf (AV.c (.d (.v (.bool false))), [])))) else some (T.leaf (AV.c (.d (.v (.bool false))),
 []))) else (bif decide (SBay.sat x ≥ (0 : Int)) then (bif decide (SBay.sat x ≤ (16383 : Int)) then (bif decide (SBay.travel x ≥ (1 : Int)) then some (T.leaf (AV.c (C.d (D.v
 (Value.bool (decide (SBay.travel x ≤ (6 : Int)))))), [])) else some (T.leaf (AV.c (.d (.v (.bool false))), []))) else some (T.leaf (AV.c (.d (.v (.bool false))), [])))
 else some (T.leaf (AV.c (.d (.v (.bool false))), []))))) else (bif !SBay.kind x == (3 : Int) then (bif decide (SBay.vt x ≥ (1 : Int)) then (bif !decide (SBay.vt x ≤ (10000 :
 Int)) then some (T.leaf (AV.c (.d (.v (.bool false))), [])) else (bif decide (SBay.sat x ≥ (0 : Int)) then (bif decide (SBay.sat x ≤ (16383 : Int)) then (bif decide
 (SBay.travel x ≥ (1 : Int)) then some (T.leaf (AV.c (.d (.v (.bool (decide (SBay.travel x ≤ (6 : Int)))))), [])) else some (T.leaf (AV.c (.d (.v (.bool false))), [])))
 else some (T.leaf (AV.c (.d (.v (.bool false))), []))) else some (T.leaf (AV.c (.d (.v (.bool false))), [])))) else some (T.leaf (AV.c (.d (.v (.bool false))),
 []))) else (bif decide (SBay.sat x ≥ (0 : Int)) then (bif decide (SBay.sat x ≤ (16383 : Int)) then (bif decide (SBay.travel x ≥ (1 : Int)) then some (T.leaf (AV.c (C.d (D.v
 (Value.bool (decide (SBay.travel x ≤ (6 : Int)))))), [])) else some (T.leaf (AV.c (.d (.v (.bool false))), []))) else some (T.leaf (AV.c (.d (.v (.bool false))), [])))
 else some (T.leaf (AV.c (.d (.v (.bool false))), [])))))) else some (T.leaf (AV.c (.d (.v (.bool false))), []))))))) else some (T.leaf (AV.c (C.d (D.v (Value.bool
 false))), []))) else (bif !SBay.kind x == (1 : Int) then (bif SBay.fin x != (0 : Int) then some (T.leaf (AV.c (.d (.v (.bool false))), [])) else (bif SBay.kind x == (3 : Int)
 then (bif decide (SBay.zr x ≥ (0 : Int)) then (bif decide (SBay.zr x ≤ (1000 : Int)) then (bif decide (SBay.zx x ≥ (1 : Int)) then (bif !decide (SBay.zx x ≤ (1000 : Int)) then some
 (T.leaf (AV.c (.d (.v (.bool false))), [])) else (bif !SBay.kind x == (3 : Int) then (bif !(SBay.zr x == (0 : Int) && (SBay.zx x == (0 : Int) && true)) then some (T.leaf
 (AV.c (.d (.v (.bool false))), [])) else (bif decide (SBay.ct x ≥ (1 : Int)) then (bif !decide (SBay.ct x ≤ (100 : Int)) then some (T.leaf (AV.c (C.d (D.v (Value.bool
 false))), [])) else (bif SBay.kind x == (3 : Int) then (bif SBay.vt x != (0 : Int) then some (T.leaf (AV.c (.d (.v (.bool false))), [])) else (bif !SBay.kind x == (3 : Int)
 then (bif decide (SBay.vt x ≥ (1 : Int)) then (bif !decide (SBay.vt x ≤ (10000 : Int)) then some (T.leaf (AV.c (.d (.v (.bool false))), [])) else (bif decide (SBay.sat x ≥ (0
 : Int)) then (bif decide (SBay.sat x ≤ (16383 : Int)) then (bif decide (SBay.travel x ≥ (1 : Int)) then some (T.leaf (AV.c (.d (.v (.bool (decide (SBay.travel x ≤ (6 :
 Int)))))), [])) else some (T.leaf (AV.c (.d (.v (.bool false))), []))) else some (T.leaf (AV.c (.d (.v (.bool false))), []))) else some (T.leaf (AV.c (C.d (D.v
 (Value.bool false))), [])))) else some (T.leaf (AV.c (.d (.v (.bool false))), []))) else (bif decide (SBay.sat x ≥ (0 : Int)) then (bif decide (SBay.sat x ≤ (16383 : Int))
 then (bif decide (SBay.travel x ≥ (1 : Int)) then some (T.leaf (AV.c (.d (.v (.bool (decide (SBay.travel x ≤ (6 : Int)))))), [])) else some (T.leaf (AV.c (C.d (D.v
 (Value.bool false))), []))) else some (T.leaf (AV.c (.d (.v (.bool false))), []))) else some (T.leaf (AV.c (.d (.v (.bool false))), []))))) else (bif !SBay.kind x ==
 (3 : Int) then (bif decide (SBay.vt x ≥ (1 : Int)) then (bif !decide (SBay.vt x ≤ (10000 : Int)) then some (T.leaf (AV.c (.d (.v (.bool false))), [])) else (bif decide
 (SBay.sat x ≥ (0 : Int)) then (bif decide (SBay.sat x ≤ (16383 : Int)) then (bif decide (SBay.travel x ≥ (1 : Int)) then some (T.leaf (AV.c (.d (.v (.bool (decide
 (SBay.travel x ≤ (6 : Int)))))), [])) else some (T.leaf (AV.c (.d (.v (.bool false))), []))) else some (T.leaf (AV.c (.d (.v (.bool false))), []))) else some (T.leaf
 (AV.c (.d (.v (.bool false))), [])))) else some (T.leaf (AV.c (.d (.v (.bool false))), []))) else (bif decide (SBay.sat x ≥ (0 : Int)) then (bif decide (SBay.sat x ≤
 (16383 : Int)) then (bif decide (SBay.travel x ≥ (1 : Int)) then some (T.leaf (AV.c (.d (.v (.bool (decide (SBay.travel x ≤ (6 : Int)))))), [])) else some (T.leaf (AV.c (C.d
 (D.v (.bool false))), []))) else some (T.leaf (AV.c (.d (.v (.bool false))), []))) else some (T.leaf (AV.c (.d (.v (.bool false))), [])))))) else some (T.leaf
 (AV.c (.d (.v (.bool false))), [])))) else (bif decide (SBay.ct x ≥ (1 : Int)) then (bif !decide (SBay.ct x ≤ (100 : Int)) then some (T.leaf (AV.c (C.d (D.v (Value.bool
 false))), [])) else (bif SBay.kind x == (3 : Int) then (bif SBay.vt x != (0 : Int) then some (T.leaf (AV.c (.d (.v (.bool false))), [])) else (bif !SBay.kind x == (3 : Int)
 then (bif decide (SBay.vt x ≥ (1 : Int)) then (bif !decide (SBay.vt x ≤ (10000 : Int)) then some (T.leaf (AV.c (.d (.v (.bool false))), [])) else (bif decide (SBay.sat x ≥ (0
 : Int)) then (bif decide (SBay.sat x ≤ (16383 : Int)) then (bif decide (SBay.travel x ≥ (1 : Int)) then some (T.leaf (AV.c (.d (.v (.bool (decide (SBay.travel x ≤ (6 :
 Int)))))), [])) else some (T.leaf (AV.c (.d (.v (.bool false))), []))) else some (T.leaf (AV.c (.d (.v (.bool false))), []))) else some (T.leaf (AV.c (C.d (D.v
 (Value.bool false))), [])))) else some (T.leaf (AV.c (.d (.v (.bool false))), []))) else (bif decide (SBay.sat x ≥ (0 : Int)) then (bif decide (SBay.sat x ≤ (16383 : Int))
 then (bif decide (SBay.travel x ≥ (1 : Int)) then some (T.leaf (AV.c (.d (.v (.bool (decide (SBay.travel x ≤ (6 : Int)))))), [])) else some (T.leaf (AV.c (C.d (D.v
 (Value.bool false))), []))) else some (T.leaf (AV.c (.d (.v (.bool false))), []))) else some (T.leaf (AV.c (.d (.v (.bool false))), []))))) else (bif !SBay.kind x ==
 (3 : Int) then (bif decide (SBay.vt x ≥ (1 : Int)) then (bif !decide (SBay.vt x ≤ (10000 : Int)) then some (T.leaf (AV.c (.d (.v (.bool false))), [])) else (bif decide
 (SBay.sat x ≥ (0 : Int)) then (bif decide (SBay.sat x ≤ (16383 : Int)) then (bif decide (SBay.travel x ≥ (1 : Int)) then some (T.leaf (AV.c (.d (.v (.bool (decide
 (SBay.travel x ≤ (6 : Int)))))), [])) else some (T.leaf (AV.c (.d (.v (.bool false))), []))) else some (T.leaf (AV.c (.d (.v (.bool false))), []))) else some (T.leaf
 (AV.c (.d (.v (.bool false))), [])))) else some (T.leaf (AV.c (.d (.v (.bool false))), []))) else (bif decide (SBay.sat x ≥ (0 : Int)) then (bif decide (SBay.sat x ≤
 (16383 : Int)) then (bif decide (SBay.travel x ≥ (1 : Int)) then some (T.leaf (AV.c (.d (.v (.bool (decide (SBay.travel x ≤ (6 : Int)))))), [])) else some (T.leaf (AV.c (C.d
 (D.v (.bool false))), []))) else some (T.leaf (AV.c (.d (.v (.bool false))), []))) else some (T.leaf (AV.c (.d (.v (.bool false))), [])))))) else some (T.leaf
 (AV.c (.d (.v (.bool false))), []))))) else some (T.leaf (AV.c (.d (.v (.bool false))), []))) else some (T.leaf (AV.c (.d (.v (.bool false))), []))) else some
 (T.leaf (AV.c (.d (.v (.bool false))), []))) else (bif !SBay.kind x == (3 : Int) then (bif !(SBay.zr x == (0 : Int) && (SBay.zx x == (0 : Int) && true)) then some (T.leaf
 (AV.c (.d (.v (.bool false))), [])) else (bif decide (SBay.ct x ≥ (1 : Int)) then (bif !decide (SBay.ct x ≤ (100 : Int)) then some (T.leaf (AV.c (C.d (D.v (Value.bool
 false))), [])) else (bif SBay.kind x == (3 : Int) then (bif SBay.vt x != (0 : Int) then some (T.leaf (AV.c (.d (.v (.bool false))), [])) else (bif !SBay.kind x == (3 : Int)
 then (bif decide (SBay.vt x ≥ (1 : Int)) then (bif !decide (SBay.vt x ≤ (10000 : Int)) then some (T.leaf (AV.c (.d (.v (.bool false))), [])) else (bif decide (SBay.sat x ≥ (0
 : Int)) then (bif decide (SBay.sat x ≤ (16383 : Int)) then (bif decide (SBay.travel x ≥ (1 : Int)) then some (T.leaf (AV.c (.d (.v (.bool (decide (SBay.travel x ≤ (6 :
 Int)))))), [])) else some (T.leaf (AV.c (.d (.v (.bool false))), []))) else some (T.leaf (AV.c (.d (.v (.bool false))), []))) else some (T.leaf (AV.c (C.d (D.v
 (Value.bool false))), [])))) else some (T.leaf (AV.c (.d (.v (.bool false))), []))) else (bif decide (SBay.sat x ≥ (0 : Int)) then (bif decide (SBay.sat x ≤ (16383 : Int))
 then (bif decide (SBay.travel x ≥ (1 : Int)) then some (T.leaf (AV.c (.d (.v (.bool (decide (SBay.travel x ≤ (6 : Int)))))), [])) else some (T.leaf (AV.c (C.d (D.v
 (Value.bool false))), []))) else some (T.leaf (AV.c (.d (.v (.bool false))), []))) else some (T.leaf (AV.c (.d (.v (.bool false))), []))))) else (bif !SBay.kind x ==
 (3 : Int) then (bif decide (SBay.vt x ≥ (1 : Int)) then (bif !decide (SBay.vt x ≤ (10000 : Int)) then some (T.leaf (AV.c (.d (.v (.bool false))), [])) else (bif decide
 (SBay.sat x ≥ (0 : Int)) then (bif decide (SBay.sat x ≤ (16383 : Int)) then (bif decide (SBay.travel x ≥ (1 : Int)) then some (T.leaf (AV.c (.d (.v (.bool (decide
 (SBay.travel x ≤ (6 : Int)))))), [])) else some (T.leaf (AV.c (.d (.v (.bool false))), []))) else some (T.leaf (AV.c (.d (.v (.bool false))), []))) else some (T.leaf
 (AV.c (.d (.v (.bool false))), [])))) else some (T.leaf (AV.c (.d (.v (.bool false))), []))) else (bif decide (SBay.sat x ≥ (0 : Int)) then (bif decide (SBay.sat x ≤
 (16383 : Int)) then (bif decide (SBay.travel x ≥ (1 : Int)) then some (T.leaf (AV.c (.d (.v (.bool (decide (SBay.travel x ≤ (6 : Int)))))), [])) else some (T.leaf (AV.c (C.d
 (D.v (.bool false))), []))) else some (T.leaf (AV.c (.d (.v (.bool false))), []))) else some (T.leaf (AV.c (.d (.v (.bool false))), [])))))) else some (T.leaf
 (AV.c (.d (.v (.bool false))), [])))) else (bif decide (SBay.ct x ≥ (1 : Int)) then (bif !decide (SBay.ct x ≤ (100 : Int)) then some (T.leaf (AV.c (C.d (D.v (Value.bool
 false))), [])) else (bif SBay.kind x == (3 : Int) then (bif SBay.vt x != (0 : Int) then some (T.leaf (AV.c (.d (.v (.bool false))), [])) else (bif !SBay.kind x == (3 : Int)
 then (bif decide (SBay.vt x ≥ (1 : Int)) then (bif !decide (SBay.vt x ≤ (10000 : Int)) then some (T.leaf (AV.c (.d (.v (.bool false))), [])) else (bif decide (SBay.sat x ≥ (0
 : Int)) then (bif decide (SBay.sat x ≤ (16383 : Int)) then (bif decide (SBay.travel x ≥ (1 : Int)) then some (T.leaf (AV.c (.d (.v (.bool (decide (SBay.travel x ≤ (6 :
 Int)))))), [])) else some (T.leaf (AV.c (.d (.v (.bool false))), []))) else some (T.leaf (AV.c (.d (.v (.bool false))), []))) else some (T.leaf (AV.c (C.d (D.v
 (Value.bool false))), [])))) else some (T.leaf (AV.c (.d (.v (.bool false))), []))) else (bif decide (SBay.sat x ≥ (0 : Int)) then (bif decide (SBay.sat x ≤ (16383 : Int))
 then (bif decide (SBay.travel x ≥ (1 : Int)) then some (T.leaf (AV.c (.d (.v (.bool (decide (SBay.travel x ≤ (6 : Int)))))), [])) else some (T.leaf (AV.c (C.d (D.v
 (Value.bool false))), []))) else some (T.leaf (AV.c (.d (.v (.bool false))), []))) else some (T.leaf (AV.c (.d (.v (.bool false))), []))))) else (bif !SBay.kind x ==
 (3 : Int) then (bif decide (SBay.vt x ≥ (1 : Int)) then (bif !decide (SBay.vt x ≤ (10000 : Int)) then some (T.leaf (AV.c (.d (.v (.bool false))), [])) else (bif decide
 (SBay.sat x ≥ (0 : Int)) then (bif decide (SBay.sat x ≤ (16383 : Int)) then (bif decide (SBay.travel x ≥ (1 : Int)) then some (T.leaf (AV.c (.d (.v (.bool (decide
 (SBay.travel x ≤ (6 : Int)))))), [])) else some (T.leaf (AV.c (.d (.v (.bool false))), []))) else some (T.leaf (AV.c (.d (.v (.bool false))), []))) else some (T.leaf
 (AV.c (.d (.v (.bool false))), [])))) else some (T.leaf (AV.c (.d (.v (.bool false))), []))) else (bif decide (SBay.sat x ≥ (0 : Int)) then (bif decide (SBay.sat x ≤
 (16383 : Int)) then (bif decide (SBay.travel x ≥ (1 : Int)) then some (T.leaf (AV.c (.d (.v (.bool (decide (SBay.travel x ≤ (6 : Int)))))), [])) else some (T.leaf (AV.c (C.d
 (D.v (.bool false))), []))) else some (T.leaf (AV.c (.d (.v (.bool false))), []))) else some (T.leaf (AV.c (.d (.v (.bool false))), [])))))) else some (T.leaf
 (AV.c (.d (.v (.bool false))), [])))))) else (bif SBay.kind x == (3 : Int) then (bif decide (SBay.zr x ≥ (0 : Int)) then (bif decide (SBay.zr x ≤ (1000 : Int)) then (bif
 decide (SBay.zx x ≥ (1 : Int)) then (bif !decide (SBay.zx x ≤ (1000 : Int)) then some (T.leaf (AV.c (.d (.v (.bool false))), [])) else (bif !SBay.kind x == (3 : Int) then
 (bif !(SBay.zr x == (0 : Int) && (SBay.zx x == (0 : Int) && true)) then some (T.leaf (AV.c (.d (.v (.bool false))), [])) else (bif decide (SBay.ct x ≥ (1 : Int)) then (bif
 !decide (SBay.ct x ≤ (100 : Int)) then some (T.leaf (AV.c (.d (.v (.bool false))), [])) else (bif SBay.kind x == (3 : Int) then (bif SBay.vt x != (0 : Int) then some (T.leaf
 (AV.c (.d (.v (.bool false))), [])) else (bif !SBay.kind x == (3 : Int) then (bif decide (SBay.vt x ≥ (1 : Int)) then (bif !decide (SBay.vt x ≤ (10000 : Int)) then some
 (T.leaf (AV.c (.d (.v (.bool false))), [])) else (bif decide (SBay.sat x ≥ (0 : Int)) then (bif decide (SBay.sat x ≤ (16383 : Int)) then (bif decide (SBay.travel x ≥ (1 :
 Int)) then some (T.leaf (AV.c (.d (.v (.bool (decide (SBay.travel x ≤ (6 : Int)))))), [])) else some (T.leaf (AV.c (.d (.v (.bool false))), []))) else some (T.leaf
 (AV.c (.d (.v (.bool false))), []))) else some (T.leaf (AV.c (.d (.v (.bool false))), [])))) else some (T.leaf (AV.c (.d (.v (.bool false))), []))) else (bif
 decide (SBay.sat x ≥ (0 : Int)) then (bif decide (SBay.sat x ≤ (16383 : Int)) then (bif decide (SBay.travel x ≥ (1 : Int)) then some (T.leaf (AV.c (.d (.v (.bool (decide
 (SBay.travel x ≤ (6 : Int)))))), [])) else some (T.leaf (AV.c (.d (.v (.bool false))), []))) else some (T.leaf (AV.c (.d (.v (.bool false))), []))) else some (T.leaf
 (AV.c (.d (.v (.bool false))), []))))) else (bif !SBay.kind x == (3 : Int) then (bif decide (SBay.vt x ≥ (1 : Int)) then (bif !decide (SBay.vt x ≤ (10000 : Int)) then some
 (T.leaf (AV.c (.d (.v (.bool false))), [])) else (bif decide (SBay.sat x ≥ (0 : Int)) then (bif decide (SBay.sat x ≤ (16383 : Int)) then (bif decide (SBay.travel x ≥ (1 :
 Int)) then some (T.leaf (AV.c (.d (.v (.bool (decide (SBay.travel x ≤ (6 : Int)))))), [])) else some (T.leaf (AV.c (.d (.v (.bool false))), []))) else some (T.leaf
 (AV.c (.d (.v (.bool false))), []))) else some (T.leaf (AV.c (.d (.v (.bool false))), [])))) else some (T.leaf (AV.c (.d (.v (.bool false))), []))) else (bif
 decide (SBay.sat x ≥ (0 : Int)) then (bif decide (SBay.sat x ≤ (16383 : Int)) then (bif decide (SBay.travel x ≥ (1 : Int)) then some (T.leaf (AV.c (.d (.v (.bool (decide
 (SBay.travel x ≤ (6 : Int)))))), [])) else some (T.leaf (AV.c (.d (.v (.bool false))), []))) else some (T.leaf (AV.c (.d (.v (.bool false))), []))) else some (T.leaf
 (AV.c (.d (.v (.bool false))), [])))))) else some (T.leaf (AV.c (.d (.v (.bool false))), [])))) else (bif decide (SBay.ct x ≥ (1 : Int)) then (bif !decide (SBay.ct x ≤
 (100 : Int)) then some (T.leaf (AV.c (.d (.v (.bool false))), [])) else (bif SBay.kind x == (3 : Int) then (bif SBay.vt x != (0 : Int) then some (T.leaf (AV.c (C.d (D.v
 (Value.bool false))), [])) else (bif !SBay.kind x == (3 : Int) then (bif decide (SBay.vt x ≥ (1 : Int)) then (bif !decide (SBay.vt x ≤ (10000 : Int)) then some (T.leaf (AV.c (C.d
 (D.v (.bool false))), [])) else (bif decide (SBay.sat x ≥ (0 : Int)) then (bif decide (SBay.sat x ≤ (16383 : Int)) then (bif decide (SBay.travel x ≥ (1 : Int)) then some
 (T.leaf (AV.c (.d (.v (.bool (decide (SBay.travel x ≤ (6 : Int)))))), [])) else some (T.leaf (AV.c (.d (.v (.bool false))), []))) else some (T.leaf (AV.c (C.d (D.v
 (Value.bool false))), []))) else some (T.leaf (AV.c (.d (.v (.bool false))), [])))) else some (T.leaf (AV.c (.d (.v (.bool false))), []))) else (bif decide (SBay.sat x
 ≥ (0 : Int)) then (bif decide (SBay.sat x ≤ (16383 : Int)) then (bif decide (SBay.travel x ≥ (1 : Int)) then some (T.leaf (AV.c (.d (.v (.bool (decide (SBay.travel x ≤ (6 :
 Int)))))), [])) else some (T.leaf (AV.c (.d (.v (.bool false))), []))) else some (T.leaf (AV.c (.d (.v (.bool false))), []))) else some (T.leaf (AV.c (C.d (D.v
 (Value.bool false))), []))))) else (bif !SBay.kind x == (3 : Int) then (bif decide (SBay.vt x ≥ (1 : Int)) then (bif !decide (SBay.vt x ≤ (10000 : Int)) then some (T.leaf (AV.c (C.d
 (D.v (.bool false))), [])) else (bif decide (SBay.sat x ≥ (0 : Int)) then (bif decide (SBay.sat x ≤ (16383 : Int)) then (bif decide (SBay.travel x ≥ (1 : Int)) then some
 (T.leaf (AV.c (.d (.v (.bool (decide (SBay.travel x ≤ (6 : Int)))))), [])) else some (T.leaf (AV.c (.d (.v (.bool false))), []))) else some (T.leaf (AV.c (C.d (D.v
 (Value.bool false))), []))) else some (T.leaf (AV.c (.d (.v (.bool false))), [])))) else some (T.leaf (AV.c (.d (.v (.bool false))), []))) else (bif decide (SBay.sat x
 ≥ (0 : Int)) then (bif decide (SBay.sat x ≤ (16383 : Int)) then (bif decide (SBay.travel x ≥ (1 : Int)) then some (T.leaf (AV.c (.d (.v (.bool (decide (SBay.travel x ≤ (6 :
 Int)))))), [])) else some (T.leaf (AV.c (.d (.v (.bool false))), []))) else some (T.leaf (AV.c (.d (.v (.bool false))), []))) else some (T.leaf (AV.c (C.d (D.v
 (Value.bool false))), [])))))) else some (T.leaf (AV.c (.d (.v (.bool false))), []))))) else some (T.leaf (AV.c (.d (.v (.bool false))), []))) else some (T.leaf (AV.c
 (C.d (.v (.bool false))), []))) else some (T.leaf (AV.c (.d (.v (.bool false))), []))) else (bif !SBay.kind x == (3 : Int) then (bif !(SBay.zr x == (0 : Int) &&
 (SBay.zx x == (0 : Int) && true)) then some (T.leaf (AV.c (.d (.v (.bool false))), [])) else (bif decide (SBay.ct x ≥ (1 : Int)) then (bif !decide (SBay.ct x ≤ (100 : Int))
 then some (T.leaf (AV.c (.d (.v (.bool false))), [])) else (bif SBay.kind x == (3 : Int) then (bif SBay.vt x != (0 : Int) then some (T.leaf (AV.c (C.d (D.v (Value.bool
 false))), [])) else (bif !SBay.kind x == (3 : Int) then (bif decide (SBay.vt x ≥ (1 : Int)) then (bif !decide (SBay.vt x ≤ (10000 : Int)) then some (T.leaf (AV.c (C.d (D.v
 (Value.bool false))), [])) else (bif decide (SBay.sat x ≥ (0 : Int)) then (bif decide (SBay.sat x ≤ (16383 : Int)) then (bif decide (SBay.travel x ≥ (1 : Int)) then some (T.leaf
 (AV.c (.d (.v (.bool (decide (SBay.travel x ≤ (6 : Int)))))), [])) else some (T.leaf (AV.c (.d (.v (.bool false))), []))) else some (T.leaf (AV.c (C.d (D.v (Value.bool
 false))), []))) else some (T.leaf (AV.c (.d (.v (.bool false))), [])))) else some (T.leaf (AV.c (.d (.v (.bool false))), []))) else (bif decide (SBay.sat x ≥ (0 :
 Int)) then (bif decide (SBay.sat x ≤ (16383 : Int)) then (bif decide (SBay.travel x ≥ (1 : Int)) then some (T.leaf (AV.c (.d (.v (.bool (decide (SBay.travel x ≤ (6 :
 Int)))))), [])) else some (T.leaf (AV.c (.d (.v (.bool false))), []))) else some (T.leaf (AV.c (.d (.v (.bool false))), []))) else some (T.leaf (AV.c (C.d (D.v
 (Value.bool false))), []))))) else (bif !SBay.kind x == (3 : Int) then (bif decide (SBay.vt x ≥ (1 : Int)) then (bif !decide (SBay.vt x ≤ (10000 : Int)) then some (T.leaf (AV.c (C.d
 (D.v (.bool false))), [])) else (bif decide (SBay.sat x ≥ (0 : Int)) then (bif decide (SBay.sat x ≤ (16383 : Int)) then (bif decide (SBay.travel x ≥ (1 : Int)) then some
 (T.leaf (AV.c (.d (.v (.bool (decide (SBay.travel x ≤ (6 : Int)))))), [])) else some (T.leaf (AV.c (.d (.v (.bool false))), []))) else some (T.leaf (AV.c (C.d (D.v
 (Value.bool false))), []))) else some (T.leaf (AV.c (.d (.v (.bool false))), [])))) else some (T.leaf (AV.c (.d (.v (.bool false))), []))) else (bif decide (SBay.sat x
 ≥ (0 : Int)) then (bif decide (SBay.sat x ≤ (16383 : Int)) then (bif decide (SBay.travel x ≥ (1 : Int)) then some (T.leaf (AV.c (.d (.v (.bool (decide (SBay.travel x ≤ (6 :
 Int)))))), [])) else some (T.leaf (AV.c (.d (.v (.bool false))), []))) else some (T.leaf (AV.c (.d (.v (.bool false))), []))) else some (T.leaf (AV.c (C.d (D.v
 (Value.bool false))), [])))))) else some (T.leaf (AV.c (.d (.v (.bool false))), [])))) else (bif decide (SBay.ct x ≥ (1 : Int)) then (bif !decide (SBay.ct x ≤ (100 : Int))
 then some (T.leaf (AV.c (.d (.v (.bool false))), [])) else (bif SBay.kind x == (3 : Int) then (bif SBay.vt x != (0 : Int) then some (T.leaf (AV.c (C.d (D.v (Value.bool
 false))), [])) else (bif !SBay.kind x == (3 : Int) then (bif decide (SBay.vt x ≥ (1 : Int)) then (bif !decide (SBay.vt x ≤ (10000 : Int)) then some (T.leaf (AV.c (C.d (D.v
 (Value.bool false))), [])) else (bif decide (SBay.sat x ≥ (0 : Int)) then (bif decide (SBay.sat x ≤ (16383 : Int)) then (bif decide (SBay.travel x ≥ (1 : Int)) then some (T.leaf
 (AV.c (.d (.v (.bool (decide (SBay.travel x ≤ (6 : Int)))))), [])) else some (T.leaf (AV.c (.d (.v (.bool false))), []))) else some (T.leaf (AV.c (C.d (D.v (Value.bool
 false))), []))) else some (T.leaf (AV.c (.d (.v (.bool false))), [])))) else some (T.leaf (AV.c (.d (.v (.bool false))), []))) else (bif decide (SBay.sat x ≥ (0 :
 Int)) then (bif decide (SBay.sat x ≤ (16383 : Int)) then (bif decide (SBay.travel x ≥ (1 : Int)) then some (T.leaf (AV.c (.d (.v (.bool (decide (SBay.travel x ≤ (6 :
 Int)))))), [])) else some (T.leaf (AV.c (.d (.v (.bool false))), []))) else some (T.leaf (AV.c (.d (.v (.bool false))), []))) else some (T.leaf (AV.c (C.d (D.v
 (Value.bool false))), []))))) else (bif !SBay.kind x == (3 : Int) then (bif decide (SBay.vt x ≥ (1 : Int)) then (bif !decide (SBay.vt x ≤ (10000 : Int)) then some (T.leaf (AV.c (C.d
 (D.v (.bool false))), [])) else (bif decide (SBay.sat x ≥ (0 : Int)) then (bif decide (SBay.sat x ≤ (16383 : Int)) then (bif decide (SBay.travel x ≥ (1 : Int)) then some
 (T.leaf (AV.c (.d (.v (.bool (decide (SBay.travel x ≤ (6 : Int)))))), [])) else some (T.leaf (AV.c (.d (.v (.bool false))), []))) else some (T.leaf (AV.c (C.d (D.v
 (Value.bool false))), []))) else some (T.leaf (AV.c (.d (.v (.bool false))), [])))) else some (T.leaf (AV.c (.d (.v (.bool false))), []))) else (bif decide (SBay.sat x
 ≥ (0 : Int)) then (bif decide (SBay.sat x ≤ (16383 : Int)) then (bif decide (SBay.travel x ≥ (1 : Int)) then some (T.leaf (AV.c (.d (.v (.bool (decide (SBay.travel x ≤ (6 :
 Int)))))), [])) else some (T.leaf (AV.c (.d (.v (.bool false))), []))) else some (T.leaf (AV.c (.d (.v (.bool false))), []))) else some (T.leaf (AV.c (C.d (D.v
 (Value.bool false))), [])))))) else some (T.leaf (AV.c (.d (.v (.bool false))), []))))))) := by kernel_rfl
noncomputable def ann50 : Ann := annOf [(5, ⟨[3, 2, 5, 6], []⟩)]
noncomputable def L50_5 (s : SSta) (x : SBay) (g m : Nat) (i6 : Int) := LK Tryd.prog Orc.nil ann50 (List.length (α := Nat × Blk) []) g Tryd.f55 5 m ⟨frm [(2, AV.c (C.ptr 0 0)), (3, AV.c (C.ptr 1 0)), (5, AV.c (C.d (D.v (Value.int IntKind.i64 (↑(List.length (SBay.links x)) : Int))))), (6, AV.c (C.d (D.v (Value.int IntKind.i64 i6))))] 0 Tryd.f55.ntmps, [(0, Blk.cells [C.d (D.v (Value.string (SSta.name s))), C.d (D.sl 1 (List.length (SSta.buses s)) fun i => busC (List.getD (SSta.buses s) i e0)), C.d (D.sl 5 (List.length (SSta.lines s)) fun i => lineC (List.getD (SSta.lines s) i line0)), C.d (D.sl 6 (List.length (SSta.srcs s)) fun i => srcC' (List.getD (SSta.srcs s) i src0)), C.d (D.sl 12 (List.length (SSta.bays s)) fun i => bayC (List.getD (SSta.bays s) i bay0))] 27), (1, Blk.cells [C.d (D.v (Value.string (SBay.name x))), C.d (D.v (Value.int IntKind.i64 (SBay.kind x))), C.d (D.v (Value.int IntKind.i64 (SBay.off x))), C.d (D.v (Value.int IntKind.i64 (SBay.fin x))), C.d (D.v (Value.int IntKind.i64 (SBay.zr x))), C.d (D.v (Value.int IntKind.i64 (SBay.zx x))), C.d (D.sl 2 (List.length (SBay.links x)) fun i => linkC (List.getD (SBay.links x) i link0)), C.d (D.v (Value.bool (SBay.closed x))), C.d (D.v (Value.int IntKind.i64 (SBay.ct x))), C.d (D.v (Value.int IntKind.i64 (SBay.vt x))), C.d (D.v (Value.int IntKind.i64 (SBay.sat x))), C.d (D.v (Value.int IntKind.i64 (SBay.travel x)))] 44)], 2⟩
theorem b50 : Tryd.f55.body = some (bodyOf Tryd.f55) := by kernel_rfl
theorem ev50 (s : SSta) (x : SBay) (g : Nat) : callC Tryd.prog Orc.nil ann50 g Tryd.f55 (bodyOf Tryd.f55) [aSta s, aBay x] [] =
 (bif decide ((↑(List.length (SBay.links x)) : Int) < (1 : Int)) then some (T.leaf (AV.c (.d (.v (.int .i64 (3 : Int)))), [])) else (bif decide ((↑(List.length
 (SBay.links x)) : Int) > (2 : Int)) then some (T.leaf (AV.c (.d (.v (.int .i64 (3 : Int)))), [])) else (bif SBay.kind x == (3 : Int) then (bif (↑(List.length
 (SBay.links x)) : Int) != (2 : Int) then some (T.leaf (AV.c (.d (.v (.int .i64 (3 : Int)))), [])) else L50_5 s x g g ((0 : Int))) else L50_5 s x g g ((0 : Int))))) := by kernel_rfl
theorem st50_5 (s : SSta) (x : SBay) (g m : Nat) (i6 : Int) : L50_5 s x g (m + 1) i6 =
 (bif decide (i6 < (↑(List.length (SBay.links x)) : Int)) then (bif decide ((0 : Int) ≤ i6) && decide (i6 < (↑(List.length (SBay.links x)) : Int)) then (bif decide (SLink.bus
 (List.getD (SBay.links x) (Int.toNat i6) link0) < (0 : Int)) then some (T.leaf (AV.c (.d (.v (.int .i64 (9 : Int)))), [])) else (bif decide (SLink.bus (List.getD
 (SBay.links x) (Int.toNat i6) link0) ≥ (↑(List.length (SSta.buses s)) : Int)) then some (T.leaf (AV.c (.d (.v (.int .i64 (9 : Int)))), [])) else (bif SLink.pos
 (List.getD (SBay.links x) (Int.toNat i6) link0) != (1 : Int) then (bif SLink.pos (List.getD (SBay.links x) (Int.toNat i6) link0) != (0 : Int) then some (T.leaf (AV.c (C.d (D.v
 (Value.int IntKind.i64 (16 : Int)))), [])) else (bif SBay.kind x == (3 : Int) then some (T.leaf (AV.c (.d (.v (.int .i64 (16 : Int)))), [])) else (bif decide (i6 > (0
 : Int)) then (bif decide ((0 : Int) ≤ IntKind.wrap IntKind.i64 (i6 - (1 : Int))) && decide (IntKind.wrap IntKind.i64 (i6 - (1 : Int)) < (↑(List.length (SBay.links x)) : Int)) then
 (bif SLink.bus (List.getD (SBay.links x) (Int.toNat i6) link0) == SLink.bus (List.getD (SBay.links x) (Int.toNat (IntKind.wrap IntKind.i64 (i6 - (1 : Int)))) link0) then some
 (T.leaf (AV.c (.d (.v (.int .i64 (12 : Int)))), [])) else L50_5 s x g m (IntKind.wrap IntKind.i64 (i6 + (1 : Int)))) else none) else L50_5 s x g m (IntKind.wrap
 IntKind.i64 (i6 + (1 : Int)))))) else (bif decide (i6 > (0 : Int)) then (bif decide ((0 : Int) ≤ IntKind.wrap IntKind.i64 (i6 - (1 : Int))) && decide (IntKind.wrap IntKind.i64 (i6 -
 (1 : Int)) < (↑(List.length (SBay.links x)) : Int)) then (bif SLink.bus (List.getD (SBay.links x) (Int.toNat i6) link0) == SLink.bus (List.getD (SBay.links x) (Int.toNat
 (IntKind.wrap IntKind.i64 (i6 - (1 : Int)))) link0) then some (T.leaf (AV.c (.d (.v (.int .i64 (12 : Int)))), [])) else L50_5 s x g m (IntKind.wrap IntKind.i64 (i6 +
 (1 : Int)))) else none) else L50_5 s x g m (IntKind.wrap IntKind.i64 (i6 + (1 : Int))))))) else none) else some (T.leaf (AV.c (.d (.v (.int .i64 (0 : Int)))), []))) := by kernel_rfl
def dSB : Dec (List AV × Hp) ((RSta × RBay × Unit) × Unit) := .pair (.cons (.agg staD) (.cons (.agg bayD) .nil)) .nil
def dSI : Dec (List AV × Hp) ((RSta × Int × Unit) × Unit) := .pair (.cons (.agg staD) (.cons (.c .i64) .nil)) .nil
def dSI4 : Dec (List AV × Hp) ((RSta × Int × Int × Int × Int × Unit) × Unit) := .pair (.cons (.agg staD) (.cons (.c .i64) (.cons (.c .i64) (.cons (.c .i64) (.cons (.c .i64) .nil))))) .nil
def dDS : Dec (List AV × Hp) ((D × ByteArray × Unit) × Unit) := .pair (.cons (.c .data) (.cons (.c .str) .nil)) .nil
noncomputable def o24 (rg okr : RBay → Bool) (ok : RSta → RBay → Bool) (lk : RSta → RBay → Int) : Orc := Orc.cons 53 (inl Tryd.prog Orc.nil na 1 Tryd.f53) (Orc.cons 54 (ansD d54 (fun a => okr a.1.1) (fun a => vB (rg a.1.1)) fun _ => [])
  (Orc.cons 55 (ansD dSB (fun a => ok a.1.1 a.1.2.1) (fun a => vI (lk a.1.1 a.1.2.1)) fun _ => []) Orc.nil))
noncomputable def ann24 : Ann := annOf [(8, ⟨[5, 2, 1, 7], []⟩)]
noncomputable def L24_8 (rg okr : RBay → Bool) (ok : RSta → RBay → Bool) (lk : RSta → RBay → Int) (s : SSta) (n : Int) (g m : Nat) (i7 : Int) := LK Tryd.prog (o24 rg okr ok lk) ann24 (List.length (α := Nat × Blk) []) g Tryd.f27 8 m ⟨frm [(1, AV.c (C.d (D.v (Value.int IntKind.i64 n)))), (2, AV.c (C.ptr 0 0)), (5, AV.c (C.ptr 1 0)), (7, AV.c (C.d (D.v (Value.int IntKind.i64 i7))))] 0 Tryd.f27.ntmps, [(0, Blk.cells [C.d (D.v (Value.string (SSta.name s))), C.d (D.sl 1 (List.length (SSta.buses s)) fun i => busC (List.getD (SSta.buses s) i e0)), C.d (D.sl 5 (List.length (SSta.lines s)) fun i => lineC (List.getD (SSta.lines s) i line0)), C.d (D.sl 6 (List.length (SSta.srcs s)) fun i => srcC' (List.getD (SSta.srcs s) i src0)), C.d (D.sl 12 (List.length (SSta.bays s)) fun i => bayC (List.getD (SSta.bays s) i bay0))] 27), (1, Blk.cells [C.d (D.v (Value.string (SBay.name (List.getD (SSta.bays s) (Int.toNat n) bay0)))), C.d (D.v (Value.int IntKind.i64 (SBay.kind (List.getD (SSta.bays s) (Int.toNat n) bay0)))), C.d (D.v (Value.int IntKind.i64 (SBay.off (List.getD (SSta.bays s) (Int.toNat n) bay0)))), C.d (D.v (Value.int IntKind.i64 (SBay.fin (List.getD (SSta.bays s) (Int.toNat n) bay0)))), C.d (D.v (Value.int IntKind.i64 (SBay.zr (List.getD (SSta.bays s) (Int.toNat n) bay0)))), C.d (D.v (Value.int IntKind.i64 (SBay.zx (List.getD (SSta.bays s) (Int.toNat n) bay0)))), C.d (D.sl 2 (List.length (SBay.links (List.getD (SSta.bays s) (Int.toNat n) bay0))) fun i => linkC (List.getD (SBay.links (List.getD (SSta.bays s) (Int.toNat n) bay0)) i link0)), C.d (D.v (Value.bool (SBay.closed (List.getD (SSta.bays s) (Int.toNat n) bay0)))), C.d (D.v (Value.int IntKind.i64 (SBay.ct (List.getD (SSta.bays s) (Int.toNat n) bay0)))), C.d (D.v (Value.int IntKind.i64 (SBay.vt (List.getD (SSta.bays s) (Int.toNat n) bay0)))), C.d (D.v (Value.int IntKind.i64 (SBay.sat (List.getD (SSta.bays s) (Int.toNat n) bay0)))), C.d (D.v (Value.int IntKind.i64 (SBay.travel (List.getD (SSta.bays s) (Int.toNat n) bay0))))] 44)], 2⟩
theorem b24 : Tryd.f27.body = some (bodyOf Tryd.f27) := by kernel_rfl
theorem ev24 (rg okr : RBay → Bool) (ok : RSta → RBay → Bool) (lk : RSta → RBay → Int) (s : SSta) (n : Int) (g : Nat) : callC Tryd.prog (o24 rg okr ok lk) ann24 g Tryd.f27 (bodyOf Tryd.f27) [aSta s, vI n] [] =
 (bif decide ((0 : Int) ≤ n) && decide (n < (↑(List.length (SSta.bays s)) : Int)) then (bif SBay.kind (List.getD (SSta.bays s) (Int.toNat n) bay0) == (1 : Int) then (bif decide
 (SBay.off (List.getD (SSta.bays s) (Int.toNat n) bay0) < (0 : Int)) then some (T.leaf (AV.c (.d (.v (.int .i64 (9 : Int)))), [])) else (bif decide (SBay.off (List.getD
 (SSta.bays s) (Int.toNat n) bay0) ≥ (↑(List.length (SSta.lines s)) : Int)) then some (T.leaf (AV.c (.d (.v (.int .i64 (9 : Int)))), [])) else (bif okr (SBay.name
 (List.getD (SSta.bays s) (Int.toNat n) bay0), SBay.kind (List.getD (SSta.bays s) (Int.toNat n) bay0), SBay.off (List.getD (SSta.bays s) (Int.toNat n) bay0), SBay.fin (List.getD
 (SSta.bays s) (Int.toNat n) bay0), SBay.zr (List.getD (SSta.bays s) (Int.toNat n) bay0), SBay.zx (List.getD (SSta.bays s) (Int.toNat n) bay0), linksD (SBay.links (List.getD
 (SSta.bays s) (Int.toNat n) bay0)), SBay.closed (List.getD (SSta.bays s) (Int.toNat n) bay0), SBay.ct (List.getD (SSta.bays s) (Int.toNat n) bay0), SBay.vt (List.getD (SSta.bays s)
 (Int.toNat n) bay0), SBay.sat (List.getD (SSta.bays s) (Int.toNat n) bay0), SBay.travel (List.getD (SSta.bays s) (Int.toNat n) bay0), ()) then (bif !rg (SBay.name (List.getD
 (SSta.bays s) (Int.toNat n) bay0), SBay.kind (List.getD (SSta.bays s) (Int.toNat n) bay0), SBay.off (List.getD (SSta.bays s) (Int.toNat n) bay0), SBay.fin (List.getD (SSta.bays s)
 (Int.toNat n) bay0), SBay.zr (List.getD (SSta.bays s) (Int.toNat n) bay0), SBay.zx (List.getD (SSta.bays s) (Int.toNat n) bay0), linksD (SBay.links (List.getD (SSta.bays s)
 (Int.toNat n) bay0)), SBay.closed (List.getD (SSta.bays s) (Int.toNat n) bay0), SBay.ct (List.getD (SSta.bays s) (Int.toNat n) bay0), SBay.vt (List.getD (SSta.bays s) (Int.toNat n)
 bay0), SBay.sat (List.getD (SSta.bays s) (Int.toNat n) bay0), SBay.travel (List.getD (SSta.bays s) (Int.toNat n) bay0), ()) then some (T.leaf (AV.c (C.d (D.v (Value.int IntKind.i64
 (2 : Int)))), [])) else L24_8 rg okr ok lk s n g g ((0 : Int))) else none))) else (bif SBay.kind (List.getD (SSta.bays s) (Int.toNat n) bay0) == (2 : Int) then (bif decide (SBay.off
 (List.getD (SSta.bays s) (Int.toNat n) bay0) < (0 : Int)) then some (T.leaf (AV.c (.d (.v (.int .i64 (9 : Int)))), [])) else (bif decide (SBay.off (List.getD
 (SSta.bays s) (Int.toNat n) bay0) ≥ (↑(List.length (SSta.srcs s)) : Int)) then some (T.leaf (AV.c (.d (.v (.int .i64 (9 : Int)))), [])) else (bif okr (SBay.name
 (List.getD (SSta.bays s) (Int.toNat n) bay0), SBay.kind (List.getD (SSta.bays s) (Int.toNat n) bay0), SBay.off (List.getD (SSta.bays s) (Int.toNat n) bay0), SBay.fin (List.getD
 (SSta.bays s) (Int.toNat n) bay0), SBay.zr (List.getD (SSta.bays s) (Int.toNat n) bay0), SBay.zx (List.getD (SSta.bays s) (Int.toNat n) bay0), linksD (SBay.links (List.getD
 (SSta.bays s) (Int.toNat n) bay0)), SBay.closed (List.getD (SSta.bays s) (Int.toNat n) bay0), SBay.ct (List.getD (SSta.bays s) (Int.toNat n) bay0), SBay.vt (List.getD (SSta.bays s)
 (Int.toNat n) bay0), SBay.sat (List.getD (SSta.bays s) (Int.toNat n) bay0), SBay.travel (List.getD (SSta.bays s) (Int.toNat n) bay0), ()) then (bif !rg (SBay.name (List.getD
 (SSta.bays s) (Int.toNat n) bay0), SBay.kind (List.getD (SSta.bays s) (Int.toNat n) bay0), SBay.off (List.getD (SSta.bays s) (Int.toNat n) bay0), SBay.fin (List.getD (SSta.bays s)
 (Int.toNat n) bay0), SBay.zr (List.getD (SSta.bays s) (Int.toNat n) bay0), SBay.zx (List.getD (SSta.bays s) (Int.toNat n) bay0), linksD (SBay.links (List.getD (SSta.bays s)
 (Int.toNat n) bay0)), SBay.closed (List.getD (SSta.bays s) (Int.toNat n) bay0), SBay.ct (List.getD (SSta.bays s) (Int.toNat n) bay0), SBay.vt (List.getD (SSta.bays s) (Int.toNat n)
 bay0), SBay.sat (List.getD (SSta.bays s) (Int.toNat n) bay0), SBay.travel (List.getD (SSta.bays s) (Int.toNat n) bay0), ()) then some (T.leaf (AV.c (C.d (D.v (Value.int IntKind.i64
 (2 : Int)))), [])) else L24_8 rg okr ok lk s n g g ((0 : Int))) else none))) else (bif SBay.kind (List.getD (SSta.bays s) (Int.toNat n) bay0) == (3 : Int) then (bif SBay.off
 (List.getD (SSta.bays s) (Int.toNat n) bay0) != (0 : Int) then some (T.leaf (AV.c (.d (.v (.int .i64 (9 : Int)))), [])) else (bif okr (SBay.name (List.getD (SSta.bays
 s) (Int.toNat n) bay0), SBay.kind (List.getD (SSta.bays s) (Int.toNat n) bay0), SBay.off (List.getD (SSta.bays s) (Int.toNat n) bay0), SBay.fin (List.getD (SSta.bays s) (Int.toNat
 n) bay0), SBay.zr (List.getD (SSta.bays s) (Int.toNat n) bay0), SBay.zx (List.getD (SSta.bays s) (Int.toNat n) bay0), linksD (SBay.links (List.getD (SSta.bays s) (Int.toNat n)
 bay0)), SBay.closed (List.getD (SSta.bays s) (Int.toNat n) bay0), SBay.ct (List.getD (SSta.bays s) (Int.toNat n) bay0), SBay.vt (List.getD (SSta.bays s) (Int.toNat n) bay0),
 SBay.sat (List.getD (SSta.bays s) (Int.toNat n) bay0), SBay.travel (List.getD (SSta.bays s) (Int.toNat n) bay0), ()) then (bif !rg (SBay.name (List.getD (SSta.bays s) (Int.toNat n)
 bay0), SBay.kind (List.getD (SSta.bays s) (Int.toNat n) bay0), SBay.off (List.getD (SSta.bays s) (Int.toNat n) bay0), SBay.fin (List.getD (SSta.bays s) (Int.toNat n) bay0), SBay.zr
 (List.getD (SSta.bays s) (Int.toNat n) bay0), SBay.zx (List.getD (SSta.bays s) (Int.toNat n) bay0), linksD (SBay.links (List.getD (SSta.bays s) (Int.toNat n) bay0)), SBay.closed
 (List.getD (SSta.bays s) (Int.toNat n) bay0), SBay.ct (List.getD (SSta.bays s) (Int.toNat n) bay0), SBay.vt (List.getD (SSta.bays s) (Int.toNat n) bay0), SBay.sat (List.getD
 (SSta.bays s) (Int.toNat n) bay0), SBay.travel (List.getD (SSta.bays s) (Int.toNat n) bay0), ()) then some (T.leaf (AV.c (.d (.v (.int .i64 (2 : Int)))), [])) else
 L24_8 rg okr ok lk s n g g ((0 : Int))) else none)) else some (T.leaf (AV.c (.d (.v (.int .i64 (10 : Int)))), []))))) else none) := by kernel_rfl
theorem st24_8 (rg okr : RBay → Bool) (ok : RSta → RBay → Bool) (lk : RSta → RBay → Int) (s : SSta) (n : Int) (g m : Nat) (i7 : Int) : L24_8 rg okr ok lk s n g (m + 1) i7 =
 (bif decide (i7 < n) then (bif SBay.kind (List.getD (SSta.bays s) (Int.toNat n) bay0) != (3 : Int) then (bif decide ((0 : Int) ≤ i7) && decide (i7 < (↑(List.length (SSta.bays s)) :
 Int)) then (bif SBay.kind (List.getD (SSta.bays s) (Int.toNat i7) bay0) == SBay.kind (List.getD (SSta.bays s) (Int.toNat n) bay0) then (bif decide ((0 : Int) ≤ i7) && decide (i7 <
 (↑(List.length (SSta.bays s)) : Int)) then (bif SBay.off (List.getD (SSta.bays s) (Int.toNat i7) bay0) == SBay.off (List.getD (SSta.bays s) (Int.toNat n) bay0) then (bif decide ((0
 : Int) ≤ i7) && decide (i7 < (↑(List.length (SSta.bays s)) : Int)) then (bif SBay.fin (List.getD (SSta.bays s) (Int.toNat i7) bay0) == SBay.fin (List.getD (SSta.bays s) (Int.toNat
 n) bay0) then some (T.leaf (AV.c (.d (.v (.int .i64 (12 : Int)))), [])) else L24_8 rg okr ok lk s n g m (IntKind.wrap IntKind.i64 (i7 + (1 : Int)))) else none) else
 L24_8 rg okr ok lk s n g m (IntKind.wrap IntKind.i64 (i7 + (1 : Int)))) else none) else L24_8 rg okr ok lk s n g m (IntKind.wrap IntKind.i64 (i7 + (1 : Int)))) else none) else (bif
 ok (SSta.name s, D.sl 1 (List.length (SSta.buses s)) fun i => busC (List.getD (SSta.buses s) i e0), D.sl 5 (List.length (SSta.lines s)) fun i => lineC (List.getD
 (SSta.lines s) i line0), D.sl 6 (List.length (SSta.srcs s)) fun i => srcC' (List.getD (SSta.srcs s) i src0), D.sl 12 (List.length (SSta.bays s)) fun i => bayC
 (List.getD (SSta.bays s) i bay0), ()) (SBay.name (List.getD (SSta.bays s) (Int.toNat n) bay0), SBay.kind (List.getD (SSta.bays s) (Int.toNat n) bay0), SBay.off (List.getD (SSta.bays
 s) (Int.toNat n) bay0), SBay.fin (List.getD (SSta.bays s) (Int.toNat n) bay0), SBay.zr (List.getD (SSta.bays s) (Int.toNat n) bay0), SBay.zx (List.getD (SSta.bays s) (Int.toNat n)
 bay0), D.sl 2 (List.length (SBay.links (List.getD (SSta.bays s) (Int.toNat n) bay0))) fun i => linkC (List.getD (SBay.links (List.getD (SSta.bays s) (Int.toNat n) bay0)) i
 link0), SBay.closed (List.getD (SSta.bays s) (Int.toNat n) bay0), SBay.ct (List.getD (SSta.bays s) (Int.toNat n) bay0), SBay.vt (List.getD (SSta.bays s) (Int.toNat n) bay0),
 SBay.sat (List.getD (SSta.bays s) (Int.toNat n) bay0), SBay.travel (List.getD (SSta.bays s) (Int.toNat n) bay0), ()) then some (T.leaf (AV.c (.d (.v (.int .i64 (lk
 (SSta.name s, D.sl 1 (List.length (SSta.buses s)) fun i => busC (List.getD (SSta.buses s) i e0), D.sl 5 (List.length (SSta.lines s)) fun i => lineC (List.getD
 (SSta.lines s) i line0), D.sl 6 (List.length (SSta.srcs s)) fun i => srcC' (List.getD (SSta.srcs s) i src0), D.sl 12 (List.length (SSta.bays s)) fun i => bayC
 (List.getD (SSta.bays s) i bay0), ()) (SBay.name (List.getD (SSta.bays s) (Int.toNat n) bay0), SBay.kind (List.getD (SSta.bays s) (Int.toNat n) bay0), SBay.off (List.getD (SSta.bays
 s) (Int.toNat n) bay0), SBay.fin (List.getD (SSta.bays s) (Int.toNat n) bay0), SBay.zr (List.getD (SSta.bays s) (Int.toNat n) bay0), SBay.zx (List.getD (SSta.bays s) (Int.toNat n)
 bay0), D.sl 2 (List.length (SBay.links (List.getD (SSta.bays s) (Int.toNat n) bay0))) fun i => linkC (List.getD (SBay.links (List.getD (SSta.bays s) (Int.toNat n) bay0)) i
 link0), SBay.closed (List.getD (SSta.bays s) (Int.toNat n) bay0), SBay.ct (List.getD (SSta.bays s) (Int.toNat n) bay0), SBay.vt (List.getD (SSta.bays s) (Int.toNat n) bay0),
 SBay.sat (List.getD (SSta.bays s) (Int.toNat n) bay0), SBay.travel (List.getD (SSta.bays s) (Int.toNat n) bay0), ()))))), [])) else none)) else (bif ok (SSta.name s, D.sl 1
 (List.length (SSta.buses s)) fun i => busC (List.getD (SSta.buses s) i e0), D.sl 5 (List.length (SSta.lines s)) fun i => lineC (List.getD (SSta.lines s) i line0), D.sl (6 :
 Nat) (List.length (SSta.srcs s)) fun i => srcC' (List.getD (SSta.srcs s) i src0), D.sl 12 (List.length (SSta.bays s)) fun i => bayC (List.getD (SSta.bays s) i bay0), ())
 (SBay.name (List.getD (SSta.bays s) (Int.toNat n) bay0), SBay.kind (List.getD (SSta.bays s) (Int.toNat n) bay0), SBay.off (List.getD (SSta.bays s) (Int.toNat n) bay0), SBay.fin
 (List.getD (SSta.bays s) (Int.toNat n) bay0), SBay.zr (List.getD (SSta.bays s) (Int.toNat n) bay0), SBay.zx (List.getD (SSta.bays s) (Int.toNat n) bay0), D.sl 2 (List.length
 (SBay.links (List.getD (SSta.bays s) (Int.toNat n) bay0))) fun i => linkC (List.getD (SBay.links (List.getD (SSta.bays s) (Int.toNat n) bay0)) i link0), SBay.closed (List.getD
 (SSta.bays s) (Int.toNat n) bay0), SBay.ct (List.getD (SSta.bays s) (Int.toNat n) bay0), SBay.vt (List.getD (SSta.bays s) (Int.toNat n) bay0), SBay.sat (List.getD (SSta.bays s)
 (Int.toNat n) bay0), SBay.travel (List.getD (SSta.bays s) (Int.toNat n) bay0), ()) then some (T.leaf (AV.c (.d (.v (.int .i64 (lk (SSta.name s, D.sl 1
 (List.length (SSta.buses s)) fun i => busC (List.getD (SSta.buses s) i e0), D.sl 5 (List.length (SSta.lines s)) fun i => lineC (List.getD (SSta.lines s) i line0), D.sl (6 :
 Nat) (List.length (SSta.srcs s)) fun i => srcC' (List.getD (SSta.srcs s) i src0), D.sl 12 (List.length (SSta.bays s)) fun i => bayC (List.getD (SSta.bays s) i bay0), ())
 (SBay.name (List.getD (SSta.bays s) (Int.toNat n) bay0), SBay.kind (List.getD (SSta.bays s) (Int.toNat n) bay0), SBay.off (List.getD (SSta.bays s) (Int.toNat n) bay0), SBay.fin
 (List.getD (SSta.bays s) (Int.toNat n) bay0), SBay.zr (List.getD (SSta.bays s) (Int.toNat n) bay0), SBay.zx (List.getD (SSta.bays s) (Int.toNat n) bay0), D.sl 2 (List.length
 (SBay.links (List.getD (SSta.bays s) (Int.toNat n) bay0))) fun i => linkC (List.getD (SBay.links (List.getD (SSta.bays s) (Int.toNat n) bay0)) i link0), SBay.closed (List.getD
 (SSta.bays s) (Int.toNat n) bay0), SBay.ct (List.getD (SSta.bays s) (Int.toNat n) bay0), SBay.vt (List.getD (SSta.bays s) (Int.toNat n) bay0), SBay.sat (List.getD (SSta.bays s)
 (Int.toNat n) bay0), SBay.travel (List.getD (SSta.bays s) (Int.toNat n) bay0), ()))))), [])) else none)) := by kernel_rfl
noncomputable def o20 (nk : ByteArray → Bool) (ok : D → ByteArray → Bool) (ix : D → ByteArray → Int) : Orc := Orc.cons 22 (ansP decS fun s => vB (nk s)) (Orc.cons 51 (ansD dDS (fun a => ok a.1.1 a.1.2.1) (fun a => vI (ix a.1.1 a.1.2.1)) fun _ => []) Orc.nil)
noncomputable def ann20 : Ann := annOf []
theorem b20 : Tryd.f23.body = some (bodyOf Tryd.f23) := by kernel_rfl
theorem ev20 (nk : ByteArray → Bool) (ok : D → ByteArray → Bool) (ix : D → ByteArray → Int) (l : List ByteArray) (s : ByteArray) (g : Nat) : callC Tryd.prog (o20 nk ok ix) ann20 g Tryd.f23 (bodyOf Tryd.f23) [.c (.d (busesD l)), vS s] [] =
 (bif !nk s then some (T.leaf (AV.c (.d (.v (.int .i64 (7 : Int)))), [])) else (bif ok (busesD l) s then (bif decide (ix (busesD l) s ≥ (0 : Int)) then some (T.leaf
 (AV.c (.d (.v (.int .i64 (8 : Int)))), [])) else some (T.leaf (AV.c (.d (.v (.int .i64 (0 : Int)))), []))) else none)) := by kernel_rfl
structure K8 where
  nk : ByteArray → Bool
  okn : (RSta × Int × Int × Int × Int × Unit) → Bool
  nm : (RSta × Int × Int × Int × Int × Unit) → D
  okd : D → ByteArray → Bool
  nd : D → ByteArray → Int
  okb : RSta → Int → Bool
  be : RSta → Int → Int
noncomputable def o8 (Z : K8) : Orc := Orc.cons 22 (ansP decS fun s => vB (Z.nk s)) (Orc.cons 24 (ansD dSI4 (fun a => Z.okn a.1) (fun a => .c (.d (Z.nm a.1))) fun _ => []) (Orc.cons 23 (ansD dDS (fun a => Z.okd a.1.1 a.1.2.1) (fun a => vI (Z.nd a.1.1 a.1.2.1)) fun _ => [])
  (Orc.cons 26 (inl Tryd.prog oOh na 1 Tryd.f26) (Orc.cons 27 (ansD dSI (fun a => Z.okb a.1.1 a.1.2.1) (fun a => vI (Z.be a.1.1 a.1.2.1)) fun _ => []) oOh))))
noncomputable def ann8 : Ann := annOf [(7, ⟨[1, 3, 4, 5, 6, 7], []⟩), (13, ⟨[1, 3, 4, 5, 6, 9], []⟩), (21, ⟨[1, 4, 3, 5, 6, 11], []⟩), (29, ⟨[1, 5, 4, 3, 6, 13], []⟩)]
noncomputable def L8_7 (Z : K8) (s : SSta) (g m : Nat) (i7 : Int) := LK Tryd.prog (o8 Z) ann8 (List.length (α := Nat × Blk) []) g Tryd.f10 7 m ⟨frm [(1, AV.c (C.ptr 0 0)), (3, AV.c (C.d (D.v (Value.int IntKind.i64 (↑(List.length (SSta.buses s)) : Int))))), (4, AV.c (C.d (D.v (Value.int IntKind.i64 (↑(List.length (SSta.lines s)) : Int))))), (5, AV.c (C.d (D.v (Value.int IntKind.i64 (↑(List.length (SSta.srcs s)) : Int))))), (6, AV.c (C.d (D.v (Value.int IntKind.i64 (↑(List.length (SSta.bays s)) : Int))))), (7, AV.c (C.d (D.v (Value.int IntKind.i64 i7))))] 0 Tryd.f10.ntmps, [(0, Blk.cells [C.d (D.v (Value.string (SSta.name s))), C.d (D.sl 1 (List.length (SSta.buses s)) fun i => busC (List.getD (SSta.buses s) i e0)), C.d (D.sl 5 (List.length (SSta.lines s)) fun i => lineC (List.getD (SSta.lines s) i line0)), C.d (D.sl 6 (List.length (SSta.srcs s)) fun i => srcC' (List.getD (SSta.srcs s) i src0)), C.d (D.sl 12 (List.length (SSta.bays s)) fun i => bayC (List.getD (SSta.bays s) i bay0))] 27)], 1⟩
noncomputable def L8_13 (Z : K8) (s : SSta) (g m : Nat) (i9 : Int) := LK Tryd.prog (o8 Z) ann8 (List.length (α := Nat × Blk) []) g Tryd.f10 13 m ⟨frm [(1, AV.c (C.ptr 0 0)), (3, AV.c (C.d (D.v (Value.int IntKind.i64 (↑(List.length (SSta.buses s)) : Int))))), (4, AV.c (C.d (D.v (Value.int IntKind.i64 (↑(List.length (SSta.lines s)) : Int))))), (5, AV.c (C.d (D.v (Value.int IntKind.i64 (↑(List.length (SSta.srcs s)) : Int))))), (6, AV.c (C.d (D.v (Value.int IntKind.i64 (↑(List.length (SSta.bays s)) : Int))))), (9, AV.c (C.d (D.v (Value.int IntKind.i64 i9))))] 0 Tryd.f10.ntmps, [(0, Blk.cells [C.d (D.v (Value.string (SSta.name s))), C.d (D.sl 1 (List.length (SSta.buses s)) fun i => busC (List.getD (SSta.buses s) i e0)), C.d (D.sl 5 (List.length (SSta.lines s)) fun i => lineC (List.getD (SSta.lines s) i line0)), C.d (D.sl 6 (List.length (SSta.srcs s)) fun i => srcC' (List.getD (SSta.srcs s) i src0)), C.d (D.sl 12 (List.length (SSta.bays s)) fun i => bayC (List.getD (SSta.bays s) i bay0))] 27)], 1⟩
noncomputable def L8_21 (Z : K8) (s : SSta) (g m : Nat) (i11 : Int) := LK Tryd.prog (o8 Z) ann8 (List.length (α := Nat × Blk) []) g Tryd.f10 21 m ⟨frm [(1, AV.c (C.ptr 0 0)), (3, AV.c (C.d (D.v (Value.int IntKind.i64 (↑(List.length (SSta.buses s)) : Int))))), (4, AV.c (C.d (D.v (Value.int IntKind.i64 (↑(List.length (SSta.lines s)) : Int))))), (5, AV.c (C.d (D.v (Value.int IntKind.i64 (↑(List.length (SSta.srcs s)) : Int))))), (6, AV.c (C.d (D.v (Value.int IntKind.i64 (↑(List.length (SSta.bays s)) : Int))))), (11, AV.c (C.d (D.v (Value.int IntKind.i64 i11))))] 0 Tryd.f10.ntmps, [(0, Blk.cells [C.d (D.v (Value.string (SSta.name s))), C.d (D.sl 1 (List.length (SSta.buses s)) fun i => busC (List.getD (SSta.buses s) i e0)), C.d (D.sl 5 (List.length (SSta.lines s)) fun i => lineC (List.getD (SSta.lines s) i line0)), C.d (D.sl 6 (List.length (SSta.srcs s)) fun i => srcC' (List.getD (SSta.srcs s) i src0)), C.d (D.sl 12 (List.length (SSta.bays s)) fun i => bayC (List.getD (SSta.bays s) i bay0))] 27)], 1⟩
noncomputable def L8_29 (Z : K8) (s : SSta) (g m : Nat) (i13 : Int) := LK Tryd.prog (o8 Z) ann8 (List.length (α := Nat × Blk) []) g Tryd.f10 29 m ⟨frm [(1, AV.c (C.ptr 0 0)), (3, AV.c (C.d (D.v (Value.int IntKind.i64 (↑(List.length (SSta.buses s)) : Int))))), (4, AV.c (C.d (D.v (Value.int IntKind.i64 (↑(List.length (SSta.lines s)) : Int))))), (5, AV.c (C.d (D.v (Value.int IntKind.i64 (↑(List.length (SSta.srcs s)) : Int))))), (6, AV.c (C.d (D.v (Value.int IntKind.i64 (↑(List.length (SSta.bays s)) : Int))))), (13, AV.c (C.d (D.v (Value.int IntKind.i64 i13))))] 0 Tryd.f10.ntmps, [(0, Blk.cells [C.d (D.v (Value.string (SSta.name s))), C.d (D.sl 1 (List.length (SSta.buses s)) fun i => busC (List.getD (SSta.buses s) i e0)), C.d (D.sl 5 (List.length (SSta.lines s)) fun i => lineC (List.getD (SSta.lines s) i line0)), C.d (D.sl 6 (List.length (SSta.srcs s)) fun i => srcC' (List.getD (SSta.srcs s) i src0)), C.d (D.sl 12 (List.length (SSta.bays s)) fun i => bayC (List.getD (SSta.bays s) i bay0))] 27)], 1⟩
theorem b8 : Tryd.f10.body = some (bodyOf Tryd.f10) := by kernel_rfl
theorem ev8 (Z : K8) (s : SSta) (g : Nat) : callC Tryd.prog (o8 Z) ann8 g Tryd.f10 (bodyOf Tryd.f10) [aSta s] [] =
 (bif !K8.nk Z (SSta.name s) then some (T.leaf (AV.c (.d (.v (.int .i64 (7 : Int)))), [])) else (bif decide ((↑(List.length (SSta.buses s)) : Int) < (1 : Int)) then
 some (T.leaf (AV.c (.d (.v (.int .i64 (3 : Int)))), [])) else (bif decide ((↑(List.length (SSta.buses s)) : Int) > (4 : Int)) then some (T.leaf (AV.c (C.d (D.v
 (Value.int IntKind.i64 (3 : Int)))), [])) else (bif decide ((↑(List.length (SSta.lines s)) : Int) > (6 : Int)) then some (T.leaf (AV.c (.d (.v (.int .i64 (3 : Int)))),
 [])) else (bif decide ((↑(List.length (SSta.srcs s)) : Int) > (4 : Int)) then some (T.leaf (AV.c (.d (.v (.int .i64 (3 : Int)))), [])) else (bif decide ((↑(List.length
 (SSta.bays s)) : Int) > (16 : Int)) then some (T.leaf (AV.c (.d (.v (.int .i64 (3 : Int)))), [])) else L8_7 Z s g g ((0 : Int)))))))) := by kernel_rfl
theorem st8_7 (Z : K8) (s : SSta) (g m : Nat) (i7 : Int) : L8_7 Z s g (m + 1) i7 =
 (bif decide (i7 < (↑(List.length (SSta.buses s)) : Int)) then (bif K8.okn Z ((SSta.name s, D.sl 1 (List.length (SSta.buses s)) fun i => busC (List.getD (SSta.buses s) i e0),
 D.sl 5 (List.length (SSta.lines s)) fun i => lineC (List.getD (SSta.lines s) i line0), D.sl 6 (List.length (SSta.srcs s)) fun i => srcC' (List.getD (SSta.srcs s) i
 src0), D.sl 12 (List.length (SSta.bays s)) fun i => bayC (List.getD (SSta.bays s) i bay0), ()), i7, (0 : Int), (0 : Int), (0 : Int), ()) then (bif decide ((0 : Int) ≤ i7) &&
 decide (i7 < (↑(List.length (SSta.buses s)) : Int)) then (bif K8.okd Z (K8.nm Z ((SSta.name s, D.sl 1 (List.length (SSta.buses s)) fun i => busC (List.getD (SSta.buses s) i
 e0), D.sl 5 (List.length (SSta.lines s)) fun i => lineC (List.getD (SSta.lines s) i line0), D.sl 6 (List.length (SSta.srcs s)) fun i => srcC' (List.getD (SSta.srcs
 s) i src0), D.sl 12 (List.length (SSta.bays s)) fun i => bayC (List.getD (SSta.bays s) i bay0), ()), i7, (0 : Int), (0 : Int), (0 : Int), ())) (List.getD (SSta.buses s)
 (Int.toNat i7) e0) then (bif K8.nd Z (K8.nm Z ((SSta.name s, D.sl 1 (List.length (SSta.buses s)) fun i => busC (List.getD (SSta.buses s) i e0), D.sl 5 (List.length
 (SSta.lines s)) fun i => lineC (List.getD (SSta.lines s) i line0), D.sl 6 (List.length (SSta.srcs s)) fun i => srcC' (List.getD (SSta.srcs s) i src0), D.sl 12
 (List.length (SSta.bays s)) fun i => bayC (List.getD (SSta.bays s) i bay0), ()), i7, (0 : Int), (0 : Int), (0 : Int), ())) (List.getD (SSta.buses s) (Int.toNat i7) e0) != (0 : Int)
 then some (T.leaf (AV.c (.d (.v (.int .i64 (K8.nd Z (K8.nm Z ((SSta.name s, D.sl 1 (List.length (SSta.buses s)) fun i => busC (List.getD (SSta.buses s) i e0),
 D.sl 5 (List.length (SSta.lines s)) fun i => lineC (List.getD (SSta.lines s) i line0), D.sl 6 (List.length (SSta.srcs s)) fun i => srcC' (List.getD (SSta.srcs s) i
 src0), D.sl 12 (List.length (SSta.bays s)) fun i => bayC (List.getD (SSta.bays s) i bay0), ()), i7, (0 : Int), (0 : Int), (0 : Int), ())) (List.getD (SSta.buses s)
 (Int.toNat i7) e0))))), [])) else L8_7 Z s g m (IntKind.wrap IntKind.i64 (i7 + (1 : Int)))) else none) else none) else none) else L8_13 Z s g g ((0 : Int))) := by kernel_rfl
theorem st8_13 (Z : K8) (s : SSta) (g m : Nat) (i9 : Int) : L8_13 Z s g (m + 1) i9 =
 (bif decide (i9 < (↑(List.length (SSta.lines s)) : Int)) then (bif K8.okn Z ((SSta.name s, D.sl 1 (List.length (SSta.buses s)) fun i => busC (List.getD (SSta.buses s) i e0),
 D.sl 5 (List.length (SSta.lines s)) fun i => lineC (List.getD (SSta.lines s) i line0), D.sl 6 (List.length (SSta.srcs s)) fun i => srcC' (List.getD (SSta.srcs s) i
 src0), D.sl 12 (List.length (SSta.bays s)) fun i => bayC (List.getD (SSta.bays s) i bay0), ()), (↑(List.length (SSta.buses s)) : Int), i9, (0 : Int), (0 : Int), ()) then
 (bif decide ((0 : Int) ≤ i9) && decide (i9 < (↑(List.length (SSta.lines s)) : Int)) then (bif K8.okd Z (K8.nm Z ((SSta.name s, D.sl 1 (List.length (SSta.buses s)) fun i =>
 busC (List.getD (SSta.buses s) i e0), D.sl 5 (List.length (SSta.lines s)) fun i => lineC (List.getD (SSta.lines s) i line0), D.sl 6 (List.length (SSta.srcs s)) fun i
 => srcC' (List.getD (SSta.srcs s) i src0), D.sl 12 (List.length (SSta.bays s)) fun i => bayC (List.getD (SSta.bays s) i bay0), ()), (↑(List.length (SSta.buses s)) : Int),
 i9, (0 : Int), (0 : Int), ())) (SLine.name (List.getD (SSta.lines s) (Int.toNat i9) line0)) then (bif K8.nd Z (K8.nm Z ((SSta.name s, D.sl 1 (List.length (SSta.buses s)) fun
 i => busC (List.getD (SSta.buses s) i e0), D.sl 5 (List.length (SSta.lines s)) fun i => lineC (List.getD (SSta.lines s) i line0), D.sl 6 (List.length (SSta.srcs s))
 fun i => srcC' (List.getD (SSta.srcs s) i src0), D.sl 12 (List.length (SSta.bays s)) fun i => bayC (List.getD (SSta.bays s) i bay0), ()), (↑(List.length (SSta.buses s)) :
 Int), i9, (0 : Int), (0 : Int), ())) (SLine.name (List.getD (SSta.lines s) (Int.toNat i9) line0)) == (0 : Int) then (bif decide ((0 : Int) ≤ i9) && decide (i9 < (↑(List.length
 (SSta.lines s)) : Int)) then (bif decide (SLine.r1 (List.getD (SSta.lines s) (Int.toNat i9) line0) ≥ (0 : Int)) then (bif decide (SLine.r1 (List.getD (SSta.lines s) (Int.toNat i9)
 line0) ≤ (1000 : Int)) then (bif decide (SLine.x1 (List.getD (SSta.lines s) (Int.toNat i9) line0) ≥ (1 : Int)) then (bif !decide (SLine.x1 (List.getD (SSta.lines s) (Int.toNat i9)
 line0) ≤ (1000 : Int)) then some (T.leaf (AV.c (.d (.v (.int .i64 (2 : Int)))), [])) else (bif decide ((0 : Int) ≤ i9) && decide (i9 < (↑(List.length (SSta.lines s)) :
 Int)) then (bif decide (SLine.r0 (List.getD (SSta.lines s) (Int.toNat i9) line0) ≥ (0 : Int)) then (bif decide (SLine.r0 (List.getD (SSta.lines s) (Int.toNat i9) line0) ≤ (1000 :
 Int)) then (bif decide (SLine.x0 (List.getD (SSta.lines s) (Int.toNat i9) line0) ≥ (1 : Int)) then (bif !decide (SLine.x0 (List.getD (SSta.lines s) (Int.toNat i9) line0) ≤ (1000 :
 Int)) then some (T.leaf (AV.c (.d (.v (.int .i64 (2 : Int)))), [])) else (bif K8.nd Z (K8.nm Z ((SSta.name s, D.sl 1 (List.length (SSta.buses s)) fun i => busC
 (List.getD (SSta.buses s) i e0), D.sl 5 (List.length (SSta.lines s)) fun i => lineC (List.getD (SSta.lines s) i line0), D.sl 6 (List.length (SSta.srcs s)) fun i =>
 srcC' (List.getD (SSta.srcs s) i src0), D.sl 12 (List.length (SSta.bays s)) fun i => bayC (List.getD (SSta.bays s) i bay0), ()), (↑(List.length (SSta.buses s)) : Int), i9,
 (0 : Int), (0 : Int), ())) (SLine.name (List.getD (SSta.lines s) (Int.toNat i9) line0)) != (0 : Int) then some (T.leaf (AV.c (.d (.v (.int .i64 (K8.nd Z (K8.nm Z
 ((SSta.name s, D.sl 1 (List.length (SSta.buses s)) fun i => busC (List.getD (SSta.buses s) i e0), D.sl 5 (List.length (SSta.lines s)) fun i => lineC (List.getD
 (SSta.lines s) i line0), D.sl 6 (List.length (SSta.srcs s)) fun i => srcC' (List.getD (SSta.srcs s) i src0), D.sl 12 (List.length (SSta.bays s)) fun i => bayC
 (List.getD (SSta.bays s) i bay0), ()), (↑(List.length (SSta.buses s)) : Int), i9, (0 : Int), (0 : Int), ())) (SLine.name (List.getD (SSta.lines s) (Int.toNat i9) line0)))))), []))
 else L8_13 Z s g m (IntKind.wrap IntKind.i64 (i9 + (1 : Int))))) else some (T.leaf (AV.c (.d (.v (.int .i64 (2 : Int)))), []))) else some (T.leaf (AV.c (C.d (D.v
 (Value.int IntKind.i64 (2 : Int)))), []))) else some (T.leaf (AV.c (.d (.v (.int .i64 (2 : Int)))), []))) else none)) else some (T.leaf (AV.c (C.d (D.v (Value.int
 IntKind.i64 (2 : Int)))), []))) else some (T.leaf (AV.c (.d (.v (.int .i64 (2 : Int)))), []))) else some (T.leaf (AV.c (.d (.v (.int .i64 (2 : Int)))),
 []))) else none) else (bif K8.nd Z (K8.nm Z ((SSta.name s, D.sl 1 (List.length (SSta.buses s)) fun i => busC (List.getD (SSta.buses s) i e0), D.sl 5 (List.length
 (SSta.lines s)) fun i => lineC (List.getD (SSta.lines s) i line0), D.sl 6 (List.length (SSta.srcs s)) fun i => srcC' (List.getD (SSta.srcs s) i src0), D.sl 12
 (List.length (SSta.bays s)) fun i => bayC (List.getD (SSta.bays s) i bay0), ()), (↑(List.length (SSta.buses s)) : Int), i9, (0 : Int), (0 : Int), ())) (SLine.name (List.getD
 (SSta.lines s) (Int.toNat i9) line0)) != (0 : Int) then some (T.leaf (AV.c (.d (.v (.int .i64 (K8.nd Z (K8.nm Z ((SSta.name s, D.sl 1 (List.length (SSta.buses
 s)) fun i => busC (List.getD (SSta.buses s) i e0), D.sl 5 (List.length (SSta.lines s)) fun i => lineC (List.getD (SSta.lines s) i line0), D.sl 6 (List.length
 (SSta.srcs s)) fun i => srcC' (List.getD (SSta.srcs s) i src0), D.sl 12 (List.length (SSta.bays s)) fun i => bayC (List.getD (SSta.bays s) i bay0), ()), (↑(List.length
 (SSta.buses s)) : Int), i9, (0 : Int), (0 : Int), ())) (SLine.name (List.getD (SSta.lines s) (Int.toNat i9) line0)))))), [])) else L8_13 Z s g m (IntKind.wrap IntKind.i64 (i9 + (1 :
 Int))))) else none) else none) else none) else L8_21 Z s g g ((0 : Int))) := by kernel_rfl
theorem st8_21 (Z : K8) (s : SSta) (g m : Nat) (i11 : Int) : L8_21 Z s g (m + 1) i11 =
 (bif decide (i11 < (↑(List.length (SSta.srcs s)) : Int)) then (bif K8.okn Z ((SSta.name s, D.sl 1 (List.length (SSta.buses s)) fun i => busC (List.getD (SSta.buses s) i e0),
 D.sl 5 (List.length (SSta.lines s)) fun i => lineC (List.getD (SSta.lines s) i line0), D.sl 6 (List.length (SSta.srcs s)) fun i => srcC' (List.getD (SSta.srcs s) i
 src0), D.sl 12 (List.length (SSta.bays s)) fun i => bayC (List.getD (SSta.bays s) i bay0), ()), (↑(List.length (SSta.buses s)) : Int), (↑(List.length (SSta.lines s)) : Int),
 i11, (0 : Int), ()) then (bif decide ((0 : Int) ≤ i11) && decide (i11 < (↑(List.length (SSta.srcs s)) : Int)) then (bif K8.okd Z (K8.nm Z ((SSta.name s, D.sl 1 (List.length
 (SSta.buses s)) fun i => busC (List.getD (SSta.buses s) i e0), D.sl 5 (List.length (SSta.lines s)) fun i => lineC (List.getD (SSta.lines s) i line0), D.sl 6
 (List.length (SSta.srcs s)) fun i => srcC' (List.getD (SSta.srcs s) i src0), D.sl 12 (List.length (SSta.bays s)) fun i => bayC (List.getD (SSta.bays s) i bay0), ()),
 (↑(List.length (SSta.buses s)) : Int), (↑(List.length (SSta.lines s)) : Int), i11, (0 : Int), ())) (SSrc.name (List.getD (SSta.srcs s) (Int.toNat i11) src0)) then (bif K8.nd Z
 (K8.nm Z ((SSta.name s, D.sl 1 (List.length (SSta.buses s)) fun i => busC (List.getD (SSta.buses s) i e0), D.sl 5 (List.length (SSta.lines s)) fun i => lineC
 (List.getD (SSta.lines s) i line0), D.sl 6 (List.length (SSta.srcs s)) fun i => srcC' (List.getD (SSta.srcs s) i src0), D.sl 12 (List.length (SSta.bays s)) fun i =>
 bayC (List.getD (SSta.bays s) i bay0), ()), (↑(List.length (SSta.buses s)) : Int), (↑(List.length (SSta.lines s)) : Int), i11, (0 : Int), ())) (SSrc.name (List.getD (SSta.srcs s)
 (Int.toNat i11) src0)) == (0 : Int) then (bif decide ((0 : Int) ≤ i11) && decide (i11 < (↑(List.length (SSta.srcs s)) : Int)) then (bif decide (SSrc.emf (List.getD (SSta.srcs s)
 (Int.toNat i11) src0) ≥ (1 : Int)) then (bif decide (SSrc.emf (List.getD (SSta.srcs s) (Int.toNat i11) src0) ≤ (1000000 : Int)) then (bif decide (SSrc.r1 (List.getD (SSta.srcs s)
 (Int.toNat i11) src0) ≥ (0 : Int)) then (bif decide (SSrc.r1 (List.getD (SSta.srcs s) (Int.toNat i11) src0) ≤ (1000 : Int)) then (bif decide (SSrc.x1 (List.getD (SSta.srcs s)
 (Int.toNat i11) src0) ≥ (1 : Int)) then (bif decide (SSrc.x1 (List.getD (SSta.srcs s) (Int.toNat i11) src0) ≤ (1000 : Int)) then (bif decide (SSrc.r0 (List.getD (SSta.srcs s)
 (Int.toNat i11) src0) ≥ (0 : Int)) then (bif decide (SSrc.r0 (List.getD (SSta.srcs s) (Int.toNat i11) src0) ≤ (1000 : Int)) then (bif decide (SSrc.x0 (List.getD (SSta.srcs s)
 (Int.toNat i11) src0) ≥ (1 : Int)) then (bif !decide (SSrc.x0 (List.getD (SSta.srcs s) (Int.toNat i11) src0) ≤ (1000 : Int)) then some (T.leaf (AV.c (C.d (D.v (Value.int IntKind.i64
 (2 : Int)))), [])) else (bif K8.nd Z (K8.nm Z ((SSta.name s, D.sl 1 (List.length (SSta.buses s)) fun i => busC (List.getD (SSta.buses s) i e0), D.sl 5 (List.length
 (SSta.lines s)) fun i => lineC (List.getD (SSta.lines s) i line0), D.sl 6 (List.length (SSta.srcs s)) fun i => srcC' (List.getD (SSta.srcs s) i src0), D.sl 12
 (List.length (SSta.bays s)) fun i => bayC (List.getD (SSta.bays s) i bay0), ()), (↑(List.length (SSta.buses s)) : Int), (↑(List.length (SSta.lines s)) : Int), i11, (0 : Int), ()))
 (SSrc.name (List.getD (SSta.srcs s) (Int.toNat i11) src0)) != (0 : Int) then some (T.leaf (AV.c (.d (.v (.int .i64 (K8.nd Z (K8.nm Z ((SSta.name s, D.sl 1
 (List.length (SSta.buses s)) fun i => busC (List.getD (SSta.buses s) i e0), D.sl 5 (List.length (SSta.lines s)) fun i => lineC (List.getD (SSta.lines s) i line0), D.sl (6 :
 Nat) (List.length (SSta.srcs s)) fun i => srcC' (List.getD (SSta.srcs s) i src0), D.sl 12 (List.length (SSta.bays s)) fun i => bayC (List.getD (SSta.bays s) i bay0), ()),
 (↑(List.length (SSta.buses s)) : Int), (↑(List.length (SSta.lines s)) : Int), i11, (0 : Int), ())) (SSrc.name (List.getD (SSta.srcs s) (Int.toNat i11) src0)))))), [])) else L8_21 Z
 s g m (IntKind.wrap IntKind.i64 (i11 + (1 : Int))))) else some (T.leaf (AV.c (.d (.v (.int .i64 (2 : Int)))), []))) else some (T.leaf (AV.c (C.d (D.v (Value.int
 IntKind.i64 (2 : Int)))), []))) else some (T.leaf (AV.c (.d (.v (.int .i64 (2 : Int)))), []))) else some (T.leaf (AV.c (.d (.v (.int .i64 (2 : Int)))),
 []))) else some (T.leaf (AV.c (.d (.v (.int .i64 (2 : Int)))), []))) else some (T.leaf (AV.c (.d (.v (.int .i64 (2 : Int)))), []))) else some (T.leaf
 (AV.c (.d (.v (.int .i64 (2 : Int)))), []))) else some (T.leaf (AV.c (.d (.v (.int .i64 (2 : Int)))), []))) else some (T.leaf (AV.c (C.d (D.v (Value.int
 IntKind.i64 (2 : Int)))), []))) else none) else (bif K8.nd Z (K8.nm Z ((SSta.name s, D.sl 1 (List.length (SSta.buses s)) fun i => busC (List.getD (SSta.buses s) i e0), D.sl
 5 (List.length (SSta.lines s)) fun i => lineC (List.getD (SSta.lines s) i line0), D.sl 6 (List.length (SSta.srcs s)) fun i => srcC' (List.getD (SSta.srcs s) i src0),
 D.sl 12 (List.length (SSta.bays s)) fun i => bayC (List.getD (SSta.bays s) i bay0), ()), (↑(List.length (SSta.buses s)) : Int), (↑(List.length (SSta.lines s)) : Int), i11,
 (0 : Int), ())) (SSrc.name (List.getD (SSta.srcs s) (Int.toNat i11) src0)) != (0 : Int) then some (T.leaf (AV.c (.d (.v (.int .i64 (K8.nd Z (K8.nm Z ((SSta.name s,
 D.sl 1 (List.length (SSta.buses s)) fun i => busC (List.getD (SSta.buses s) i e0), D.sl 5 (List.length (SSta.lines s)) fun i => lineC (List.getD (SSta.lines s) i
 line0), D.sl 6 (List.length (SSta.srcs s)) fun i => srcC' (List.getD (SSta.srcs s) i src0), D.sl 12 (List.length (SSta.bays s)) fun i => bayC (List.getD (SSta.bays
 s) i bay0), ()), (↑(List.length (SSta.buses s)) : Int), (↑(List.length (SSta.lines s)) : Int), i11, (0 : Int), ())) (SSrc.name (List.getD (SSta.srcs s) (Int.toNat i11) src0)))))),
 [])) else L8_21 Z s g m (IntKind.wrap IntKind.i64 (i11 + (1 : Int))))) else none) else none) else none) else L8_29 Z s g g ((0 : Int))) := by kernel_rfl
theorem st8_29 (Z : K8) (s : SSta) (g m : Nat) (i13 : Int) : L8_29 Z s g (m + 1) i13 =
 (bif decide (i13 < (↑(List.length (SSta.bays s)) : Int)) then (bif K8.okn Z ((SSta.name s, D.sl 1 (List.length (SSta.buses s)) fun i => busC (List.getD (SSta.buses s) i e0),
 D.sl 5 (List.length (SSta.lines s)) fun i => lineC (List.getD (SSta.lines s) i line0), D.sl 6 (List.length (SSta.srcs s)) fun i => srcC' (List.getD (SSta.srcs s) i
 src0), D.sl 12 (List.length (SSta.bays s)) fun i => bayC (List.getD (SSta.bays s) i bay0), ()), (↑(List.length (SSta.buses s)) : Int), (↑(List.length (SSta.lines s)) : Int),
 (↑(List.length (SSta.srcs s)) : Int), i13, ()) then (bif decide ((0 : Int) ≤ i13) && decide (i13 < (↑(List.length (SSta.bays s)) : Int)) then (bif K8.okd Z (K8.nm Z ((SSta.name s,
 D.sl 1 (List.length (SSta.buses s)) fun i => busC (List.getD (SSta.buses s) i e0), D.sl 5 (List.length (SSta.lines s)) fun i => lineC (List.getD (SSta.lines s) i
 line0), D.sl 6 (List.length (SSta.srcs s)) fun i => srcC' (List.getD (SSta.srcs s) i src0), D.sl 12 (List.length (SSta.bays s)) fun i => bayC (List.getD (SSta.bays
 s) i bay0), ()), (↑(List.length (SSta.buses s)) : Int), (↑(List.length (SSta.lines s)) : Int), (↑(List.length (SSta.srcs s)) : Int), i13, ())) (SBay.name (List.getD (SSta.bays s)
 (Int.toNat i13) bay0)) then (bif K8.nd Z (K8.nm Z ((SSta.name s, D.sl 1 (List.length (SSta.buses s)) fun i => busC (List.getD (SSta.buses s) i e0), D.sl 5
 (List.length (SSta.lines s)) fun i => lineC (List.getD (SSta.lines s) i line0), D.sl 6 (List.length (SSta.srcs s)) fun i => srcC' (List.getD (SSta.srcs s) i src0), D.sl (12
 : Nat) (List.length (SSta.bays s)) fun i => bayC (List.getD (SSta.bays s) i bay0), ()), (↑(List.length (SSta.buses s)) : Int), (↑(List.length (SSta.lines s)) : Int), (↑(List.length
 (SSta.srcs s)) : Int), i13, ())) (SBay.name (List.getD (SSta.bays s) (Int.toNat i13) bay0)) == (0 : Int) then (bif K8.okb Z (SSta.name s, D.sl 1 (List.length (SSta.buses s))
 fun i => busC (List.getD (SSta.buses s) i e0), D.sl 5 (List.length (SSta.lines s)) fun i => lineC (List.getD (SSta.lines s) i line0), D.sl 6 (List.length (SSta.srcs
 s)) fun i => srcC' (List.getD (SSta.srcs s) i src0), D.sl 12 (List.length (SSta.bays s)) fun i => bayC (List.getD (SSta.bays s) i bay0), ()) i13 then (bif K8.be Z (SSta.name
 s, D.sl 1 (List.length (SSta.buses s)) fun i => busC (List.getD (SSta.buses s) i e0), D.sl 5 (List.length (SSta.lines s)) fun i => lineC (List.getD (SSta.lines s) i
 line0), D.sl 6 (List.length (SSta.srcs s)) fun i => srcC' (List.getD (SSta.srcs s) i src0), D.sl 12 (List.length (SSta.bays s)) fun i => bayC (List.getD (SSta.bays
 s) i bay0), ()) i13 != (0 : Int) then some (T.leaf (AV.c (.d (.v (.int .i64 (K8.be Z (SSta.name s, D.sl 1 (List.length (SSta.buses s)) fun i => busC (List.getD
 (SSta.buses s) i e0), D.sl 5 (List.length (SSta.lines s)) fun i => lineC (List.getD (SSta.lines s) i line0), D.sl 6 (List.length (SSta.srcs s)) fun i => srcC'
 (List.getD (SSta.srcs s) i src0), D.sl 12 (List.length (SSta.bays s)) fun i => bayC (List.getD (SSta.bays s) i bay0), ()) i13)))), [])) else L8_29 Z s g m (IntKind.wrap
 IntKind.i64 (i13 + (1 : Int)))) else none) else (bif K8.nd Z (K8.nm Z ((SSta.name s, D.sl 1 (List.length (SSta.buses s)) fun i => busC (List.getD (SSta.buses s) i e0), D.sl
 5 (List.length (SSta.lines s)) fun i => lineC (List.getD (SSta.lines s) i line0), D.sl 6 (List.length (SSta.srcs s)) fun i => srcC' (List.getD (SSta.srcs s) i src0),
 D.sl 12 (List.length (SSta.bays s)) fun i => bayC (List.getD (SSta.bays s) i bay0), ()), (↑(List.length (SSta.buses s)) : Int), (↑(List.length (SSta.lines s)) : Int),
 (↑(List.length (SSta.srcs s)) : Int), i13, ())) (SBay.name (List.getD (SSta.bays s) (Int.toNat i13) bay0)) != (0 : Int) then some (T.leaf (AV.c (C.d (D.v (Value.int IntKind.i64
 (K8.nd Z (K8.nm Z ((SSta.name s, D.sl 1 (List.length (SSta.buses s)) fun i => busC (List.getD (SSta.buses s) i e0), D.sl 5 (List.length (SSta.lines s)) fun i =>
 lineC (List.getD (SSta.lines s) i line0), D.sl 6 (List.length (SSta.srcs s)) fun i => srcC' (List.getD (SSta.srcs s) i src0), D.sl 12 (List.length (SSta.bays s)) fun
 i => bayC (List.getD (SSta.bays s) i bay0), ()), (↑(List.length (SSta.buses s)) : Int), (↑(List.length (SSta.lines s)) : Int), (↑(List.length (SSta.srcs s)) : Int), i13, ()))
 (SBay.name (List.getD (SSta.bays s) (Int.toNat i13) bay0)))))), [])) else L8_29 Z s g m (IntKind.wrap IntKind.i64 (i13 + (1 : Int))))) else none) else none) else none) else some
 (T.leaf (AV.c (.d (.v (.int .i64 (0 : Int)))), []))) := by kernel_rfl
end Go.Proofs.YthmapnolgdpkbaaDoor.st
namespace Go.Proofs.YthmapnolgdpkbaaDoor.st
open Go.RowKit Go.Eb

noncomputable def ann21 : Ann := annOf [(3, ⟨[5, 4, 3, 2, 12, 11], []⟩), (7, ⟨[5, 4, 3, 13, 11], []⟩), (11, ⟨[5, 4, 14, 11], []⟩)]
noncomputable def L21_3 (s : SSta) (nb nl ns nq : Int) (g m : Nat) (n1 : Nat) (f1 : Nat → List D) (i12 : Int) := LK Tryd.prog Orc.nil ann21 (List.length (α := Nat × Blk) []) g Tryd.f24 3 m ⟨frm [(2, AV.c (C.d (D.v (Value.int IntKind.i64 nl)))), (3, AV.c (C.d (D.v (Value.int IntKind.i64 ns)))), (4, AV.c (C.d (D.v (Value.int IntKind.i64 nq)))), (5, AV.c (C.ptr 0 0)), (11, AV.c (C.row 1 1 n1)), (12, AV.c (C.d (D.v (Value.int IntKind.i64 i12))))] 0 Tryd.f24.ntmps, [(0, Blk.cells [C.d (D.v (Value.string (SSta.name s))), C.d (D.sl 1 (List.length (SSta.buses s)) fun i => busC (List.getD (SSta.buses s) i e0)), C.d (D.sl 5 (List.length (SSta.lines s)) fun i => lineC (List.getD (SSta.lines s) i line0)), C.d (D.sl 6 (List.length (SSta.srcs s)) fun i => srcC' (List.getD (SSta.srcs s) i src0)), C.d (D.sl 12 (List.length (SSta.bays s)) fun i => bayC (List.getD (SSta.bays s) i bay0))] 27), (1, Blk.row n1 f1 1 9)], 2⟩
noncomputable def L21_7 (s : SSta) (nb nl ns nq : Int) (g m : Nat) (n1 : Nat) (f1 : Nat → List D) (i13 : Int) := LK Tryd.prog Orc.nil ann21 (List.length (α := Nat × Blk) []) g Tryd.f24 7 m ⟨frm [(3, AV.c (C.d (D.v (Value.int IntKind.i64 ns)))), (4, AV.c (C.d (D.v (Value.int IntKind.i64 nq)))), (5, AV.c (C.ptr 0 0)), (11, AV.c (C.row 1 1 n1)), (13, AV.c (C.d (D.v (Value.int IntKind.i64 i13))))] 0 Tryd.f24.ntmps, [(0, Blk.cells [C.d (D.v (Value.string (SSta.name s))), C.d (D.sl 1 (List.length (SSta.buses s)) fun i => busC (List.getD (SSta.buses s) i e0)), C.d (D.sl 5 (List.length (SSta.lines s)) fun i => lineC (List.getD (SSta.lines s) i line0)), C.d (D.sl 6 (List.length (SSta.srcs s)) fun i => srcC' (List.getD (SSta.srcs s) i src0)), C.d (D.sl 12 (List.length (SSta.bays s)) fun i => bayC (List.getD (SSta.bays s) i bay0))] 27), (1, Blk.row n1 f1 1 9)], 2⟩
noncomputable def L21_11 (s : SSta) (nb nl ns nq : Int) (g m : Nat) (n1 : Nat) (f1 : Nat → List D) (i14 : Int) := LK Tryd.prog Orc.nil ann21 (List.length (α := Nat × Blk) []) g Tryd.f24 11 m ⟨frm [(4, AV.c (C.d (D.v (Value.int IntKind.i64 nq)))), (5, AV.c (C.ptr 0 0)), (11, AV.c (C.row 1 1 n1)), (14, AV.c (C.d (D.v (Value.int IntKind.i64 i14))))] 0 Tryd.f24.ntmps, [(0, Blk.cells [C.d (D.v (Value.string (SSta.name s))), C.d (D.sl 1 (List.length (SSta.buses s)) fun i => busC (List.getD (SSta.buses s) i e0)), C.d (D.sl 5 (List.length (SSta.lines s)) fun i => lineC (List.getD (SSta.lines s) i line0)), C.d (D.sl 6 (List.length (SSta.srcs s)) fun i => srcC' (List.getD (SSta.srcs s) i src0)), C.d (D.sl 12 (List.length (SSta.bays s)) fun i => bayC (List.getD (SSta.bays s) i bay0))] 27), (1, Blk.row n1 f1 1 9)], 2⟩
theorem b21 : Tryd.f24.body = some (bodyOf Tryd.f24) := by kernel_rfl
theorem ev21 (s : SSta) (nb nl ns nq : Int) (g : Nat) : callC Tryd.prog Orc.nil ann21 g Tryd.f24 (bodyOf Tryd.f24) [aSta s, vI nb, vI nl, vI ns, vI nq] [] =
 (bif decide ((0 : Int) ≤ (↑(0 : Nat) : Int)) && decide ((↑(0 : Nat) : Int) ≤ nb) && decide (nb ≤ (↑(List.length (SSta.buses s)) : Int)) then (bif decide ((0 + (Int.toNat nb
 - Int.toNat (↑(0 : Nat) : Int))) * 16 ≤ 140737488355328) && decide (0 + (Int.toNat nb - Int.toNat (↑(0 : Nat) : Int)) ≤ 9223372036854775807) then
 L21_3 s nb nl ns nq g g (0 + (Int.toNat nb - Int.toNat (↑(0 : Nat) : Int))) (appF 0 (chunk [] (0 + 1)) fun i => busC (List.getD (SSta.buses s)
 (Int.toNat (↑(0 : Nat) : Int) + i) e0)) ((0 : Int)) else none) else none) := by kernel_rfl
theorem st21_3 (s : SSta) (nb nl ns nq : Int) (g m : Nat) (n1 : Nat) (f1 : Nat → List D) (i12 : Int) : L21_3 s nb nl ns nq g (m + 1) n1 f1 i12 =
 (bif decide (i12 < nl) then (bif decide ((0 : Int) ≤ i12) && decide (i12 < (↑(List.length (SSta.lines s)) : Int)) then (bif decide ((n1 + 1) * 16 ≤ (140737488355328
 : Nat)) && decide (n1 + 1 ≤ 9223372036854775807) then L21_3 s nb nl ns nq g m (n1 + 1) (appF n1 f1 (chunk [dS (SLine.name (List.getD (SSta.lines s)
 (Int.toNat i12) line0))] (0 + 1))) (IntKind.wrap IntKind.i64 (i12 + (1 : Int))) else none) else none) else L21_7 s nb nl ns nq g g n1 f1 ((0 : Int))) := by kernel_rfl
theorem st21_7 (s : SSta) (nb nl ns nq : Int) (g m : Nat) (n1 : Nat) (f1 : Nat → List D) (i13 : Int) : L21_7 s nb nl ns nq g (m + 1) n1 f1 i13 =
 (bif decide (i13 < ns) then (bif decide ((0 : Int) ≤ i13) && decide (i13 < (↑(List.length (SSta.srcs s)) : Int)) then (bif decide ((n1 + 1) * 16 ≤ (140737488355328 :
 Nat)) && decide (n1 + 1 ≤ 9223372036854775807) then L21_7 s nb nl ns nq g m (n1 + 1) (appF n1 f1 (chunk [dS (SSrc.name (List.getD (SSta.srcs s) (Int.toNat
 i13) src0))] (0 + 1))) (IntKind.wrap IntKind.i64 (i13 + (1 : Int))) else none) else none) else L21_11 s nb nl ns nq g g n1 f1 ((0 : Int))) := by kernel_rfl
theorem st21_11 (s : SSta) (nb nl ns nq : Int) (g m : Nat) (n1 : Nat) (f1 : Nat → List D) (i14 : Int) : L21_11 s nb nl ns nq g (m + 1) n1 f1 i14 =
 (bif decide (i14 < nq) then (bif decide ((0 : Int) ≤ i14) && decide (i14 < (↑(List.length (SSta.bays s)) : Int)) then (bif decide ((n1 + 1) * 16 ≤ (140737488355328 :
 Nat)) && decide (n1 + 1 ≤ 9223372036854775807) then L21_11 s nb nl ns nq g m (n1 + 1) (appF n1 f1 (chunk [dS (SBay.name (List.getD (SSta.bays s) (Int.toNat
 i14) bay0))] (0 + 1))) (IntKind.wrap IntKind.i64 (i14 + (1 : Int))) else none) else none) else some (T.leaf (AV.c (C.row (0) (1) n1), [(0,
 Blk.row n1 f1 (1) (9))]))) := by kernel_rfl
end Go.Proofs.YthmapnolgdpkbaaDoor.st
namespace Go.Proofs.YthmapnolgdpkbaaDoor.st
open Go.RowKit Go.Eb

theorem b46 : Tryd.f51.body = some (bodyOf Tryd.f51) := by kernel_rfl
def idxF (s : ByteArray) : Nat → List ByteArray → Int
  | _, [] => -1
  | i, x :: r => bif x.toList == s.toList then (i : Int) else idxF s (i + 1) r
theorem strEq' (a b : ByteArray) : (a.toList == b.toList) = (b.data.toList == a.data.toList) := by
  rw [ByteArray.toList_eq, ByteArray.toList_eq, Bool.beq_comm]
theorem idxF_ge (s : ByteArray) : ∀ (l : List ByteArray) (i : Nat), decide (idxF s i l ≥ 0) = inB l s
  | [], i => rfl
  | x :: r, i => by
    have ih := idxF_ge s r (i + 1)
    unfold inB at ih ⊢
    simp only [idxF, List.any_cons, strEq']
    cases (s.data.toList == x.data.toList) with
    | true => simp only [cond_true, Bool.true_or]; exact decide_eq_true (by omega)
    | false => simp only [cond_false, Bool.false_or]; exact ih
theorem lp46 (l : List ByteArray) (s : ByteArray) (g : Nat) (hl : l.length ≤ 9223372036854775807) : ∀ (m k : Nat), k ≤ l.length → l.length - k < m → L46 l s g m k = some (.leaf (vI (idxF s k (l.drop k)), []))
  | 0, k, _, h => by omega
  | m + 1, k, hk, h => by
    rw [st46]
    by_cases hlt : k < l.length
    · have ih := lp46 l s g hl m (k + 1) (by omega) (by omega)
      rw [drop_at' (d := e0) hlt]
      simp only [lt1 hlt, ge0, tn, Bool.and_self, cond_true, nx hlt hl, ih, idxF]
      cases ((l.getD k e0).toList == s.toList) <;> rfl
    · rw [lt0 hlt, List.drop_of_length_le (by omega)]
      rfl
theorem c46 (l : List ByteArray) (s : ByteArray) (hl : l.length ≤ 9223372036854775807) : CX Tryd.prog 51 [.c (.d (busesD l)), vS s] [] (vI (idxF s 0 l)) [] := by
  obtain ⟨g, hg⟩ : ∃ g, l.length < g := ⟨l.length + 1, by omega⟩
  exact cx_of (Orc.nil_ok _) Tryd.func51 b46 rfl ((ev46 l s g).trans (lp46 l s g hl g 0 (by omega) (by omega)))

noncomputable def okDS (x : D) (_ : ByteArray) : Bool := okE busesD x && decide ((theE busesD x).length ≤ 9223372036854775807)
noncomputable def ixDS (x : D) (s : ByteArray) : Int := idxF s 0 (theE busesD x)
theorem s20 : OrcS Tryd.prog (o20 nameOk okDS ixDS) := by
  refine .cons (.p decS_ok c16) (.cons (.d fun a ha => ?_) .nil)
  unfold okDS at ha
  simp only [Bool.and_eq_true, decide_eq_true_eq] at ha
  exact (c46 (theE busesD a.1.1) a.1.2.1 ha.2).ge (.cons (theE_de ha.1) (.cons (.refl _) .nil)) (.refl _)
theorem c20 (l : List ByteArray) (s : ByteArray) (hl : l.length ≤ 9223372036854775807) : CX Tryd.prog 23 [.c (.d (busesD l)), vS s] [] (vI (namErr l s)) [] := by
  refine cx_of s20.ok Tryd.func23 b20 rfl ((ev20 nameOk okDS ixDS l s 1).trans ?_)
  have e1 : okDS (busesD l) s = true := by unfold okDS; rw [(the_list busC_inj l).1, (the_list busC_inj l).2]; simp [hl]
  have e2 : ixDS (busesD l) s = idxF s 0 l := by unfold ixDS; rw [(the_list busC_inj l).2]
  rw [e1, e2, idxF_ge]
  unfold namErr
  cases nameOk s <;> cases inB l s <;> rfl

theorem app_loop {α : Type} {nm : α → ByteArray} {d0 : α} {l : List α} {q : Nat} {L : Nat → Nat → (Nat → List D) → Int → Option (T (AV × Hp))} {E : Nat → (Nat → List D) → Option (T (AV × Hp))} (hq : q ≤ l.length) (hq2 : q ≤ 900)
    (hst : ∀ (m k n : Nat) (f : Nat → List D), k < q → n ≤ 9000 → L (m + 1) n f k = L m (n + 1) (appF n f (chunk (busC (nm (l.getD k d0))) 1)) ((k + 1 : Nat) : Int)) (hend : ∀ m n f, L (m + 1) n f q = E n f) :
    ∀ (m k n : Nat) (f : Nat → List D) (acc : List ByteArray), RL busC e0 n f acc → k ≤ q → q - k < m → acc.length + (q - k) ≤ 9000 → ∃ n' f', RL busC e0 n' f' (acc ++ ((l.take q).drop k).map nm) ∧ L m n f k = E n' f'
  | 0, k, n, f, acc, _, _, h, _ => by omega
  | m + 1, k, n, f, acc, hr, hk, h, hb => by
    by_cases e : k = q
    · subst e
      rw [hend, List.drop_of_length_le (by simp; omega)]
      exact ⟨n, f, by simpa using hr, rfl⟩
    · have hlt : k < q := by omega
      rw [hst m k n f hlt (by have := hr.len; omega)]
      have ht : k < (l.take q).length := by simp; omega
      have hg : (l.take q).getD k d0 = l.getD k d0 := by simp [List.getD, hlt]
      rw [drop_at' (d := d0) ht, hg]
      obtain ⟨n', f', h1, h2⟩ := app_loop hq hq2 hst hend m (k + 1) (n + 1) (appF n f (chunk (busC (nm (l.getD k d0))) 1)) (acc ++ [nm (l.getD k d0)]) (hr.app' rfl) (by omega) (by omega) (by simp; omega)
      exact ⟨n', f', by simpa using h1, h2⟩

def namesOf (s : SSta) (nb nl ns nq : Nat) : List ByteArray := s.buses.take nb ++ (s.lines.take nl).map SLine.name ++ (s.srcs.take ns).map SSrc.name ++ (s.bays.take nq).map SBay.name
theorem apOk {n : Nat} (h : n ≤ 9000) : (decide ((n + 1) * 16 ≤ 140737488355328) && decide (n + 1 ≤ 9223372036854775807)) = true := by
  rw [decide_eq_true (by omega), decide_eq_true (by omega)]; rfl
theorem c21 (s : SSta) (nb nl ns nq : Nat) (h1 : nb ≤ s.buses.length) (h2 : nl ≤ s.lines.length) (h3 : ns ≤ s.srcs.length) (h4 : nq ≤ s.bays.length) (g1 : nb ≤ 900) (g2 : nl ≤ 900) (g3 : ns ≤ 900) (g4 : nq ≤ 900) :
    CX Tryd.prog 24 [aSta s, vI nb, vI nl, vI ns, vI nq] [] (.c (.d (busesD (namesOf s nb nl ns nq)))) [] := by
  obtain ⟨g, hg⟩ : ∃ g, 900 < g := ⟨901, by omega⟩
  have lt1' : ∀ {k n : Nat}, k < n → decide ((k : Int) < (n : Int)) = true := lt1
  have p4 := fun n f acc (hr : RL busC e0 n f acc) (hb : acc.length ≤ 8000) => app_loop (nm := SBay.name) (d0 := bay0) (l := s.bays) (q := nq) (L := fun m n f i => L21_11 s nb nl ns nq g m n f i) (E := fun n f => some (.leaf (.c (.row 0 1 n), [(0, .row n f 1 9)]))) h4 g4
    (fun m k n f hk hn => by
      rw [st21_11]
      simp only [lt1 hk, lt1 (show k < s.bays.length by omega), ge0, tn, Bool.and_self, cond_true, nx hk (by omega), apOk hn]
      rfl)
    (fun m n f => by rw [st21_11, lt0 (Nat.lt_irrefl _)]; rfl) g 0 n f acc hr (by omega) (by omega) (by omega)
  have p3 := fun n f acc (hr : RL busC e0 n f acc) (hb : acc.length ≤ 7000) => app_loop (nm := SSrc.name) (d0 := src0) (l := s.srcs) (q := ns) (L := fun m n f i => L21_7 s nb nl ns nq g m n f i) (E := fun n f => L21_11 s nb nl ns nq g g n f 0) h3 g3
    (fun m k n f hk hn => by
      rw [st21_7]
      simp only [lt1 hk, lt1 (show k < s.srcs.length by omega), ge0, tn, Bool.and_self, cond_true, nx hk (by omega), apOk hn]
      rfl)
    (fun m n f => by rw [st21_7, lt0 (Nat.lt_irrefl _)]; rfl) g 0 n f acc hr (by omega) (by omega) (by omega)
  have p2 := fun n f acc (hr : RL busC e0 n f acc) (hb : acc.length ≤ 6000) => app_loop (nm := SLine.name) (d0 := line0) (l := s.lines) (q := nl) (L := fun m n f i => L21_3 s nb nl ns nq g m n f i) (E := fun n f => L21_7 s nb nl ns nq g g n f 0) h2 g2
    (fun m k n f hk hn => by
      rw [st21_3]
      simp only [lt1 hk, lt1 (show k < s.lines.length by omega), ge0, tn, Bool.and_self, cond_true, nx hk (by omega), apOk hn]
      rfl)
    (fun m n f => by rw [st21_3, lt0 (Nat.lt_irrefl _)]; rfl) g 0 n f acc hr (by omega) (by omega) (by omega)
  have hr0 : RL busC e0 (0 + (Int.toNat (nb : Int) - Int.toNat ((0 : Nat) : Int))) (appF 0 (chunk [] (0 + 1)) fun i => busC (s.buses.getD (Int.toNat ((0 : Nat) : Int) + i) e0)) (s.buses.take nb) := by
    have : RL busC e0 nb (fun i => busC (s.buses.getD (Int.toNat ((0 : Nat) : Int) + i) e0)) (s.buses.take nb) := .eq (by simp; omega) fun i hi => by
      have e : (s.buses.take nb).getD i e0 = s.buses.getD i e0 := by simp [List.getD, hi]
      rw [e]; simp
    have h := (RL.nil (c := busC) (d0 := e0) (chunk [] (0 + 1))).cat this
    simpa using h
  obtain ⟨n2, f2, r2, q2⟩ := p2 _ _ _ hr0 (by simp; omega)
  obtain ⟨n3, f3, r3, q3⟩ := p3 _ _ _ r2 (by simp; omega)
  obtain ⟨n4, f4, r4, q4⟩ := p4 _ _ _ r3 (by simp; omega)
  have hev := ev21 s nb nl ns nq g
  have e1 : (decide ((0 : Int) ≤ ((0 : Nat) : Int)) && decide (((0 : Nat) : Int) ≤ (nb : Int)) && decide ((nb : Int) ≤ (s.buses.length : Int))) = true := by
    rw [decide_eq_true (by omega), decide_eq_true (by omega), decide_eq_true (by omega)]; rfl
  have e2 : (decide ((0 + (Int.toNat (nb : Int) - Int.toNat ((0 : Nat) : Int))) * 16 ≤ 140737488355328) && decide (0 + (Int.toNat (nb : Int) - Int.toNat ((0 : Nat) : Int)) ≤ 9223372036854775807)) = true := by
    rw [decide_eq_true (by omega), decide_eq_true (by omega)]; rfl
  rw [e1, e2] at hev
  simp only [cond_true] at hev
  have hc := cr_of (Orc.nil_ok Tryd.prog) Tryd.func24 b21 rfl (hev.trans (q2.trans (q3.trans q4)))
  have hd := hc.data (y := .c (.d (.sl 1 n4 f4))) rfl
  refine (CX.of_cr Tryd.func24 b21 hd).le ?_ (.refl _)
  have r4' : RL busC e0 n4 f4 (namesOf s nb nl ns nq) := by unfold namesOf; simpa using r4
  exact r4'.de
end Go.Proofs.YthmapnolgdpkbaaDoor.st
