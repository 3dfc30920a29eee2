/-
  StationNames returns true for every diagram and every two numbers. No condition.
-/
import Derived.Test.YthmapnolgdpkbaaTb
import Derived.Test.YthmapnolgdpkbaaRows
namespace Go.Proofs.Ythmapnolgdpkbaa.names
open Go.ChangeShapes Go.WideShapes Go.ChangeAt Go.RowKit
open Go.Eb Go.Proofs.Ythmapnolgdpkbaa.st

abbrev eS := en1 aSta
theorem eS_inj : InjT eS := en1_inj aSta_inj
abbrev eW := en2 vI vN
theorem eW_inj : InjT eW := en2_inj vI_inj vN_inj
abbrev eR := en3 aSta vN vS
theorem eR_inj : InjT eR := en3_inj aSta_inj vN_inj vS_inj
def okN (s : SSta) : Bool := decide (s.buses.length ≤ 900) && (decide (s.lines.length ≤ 900) && (decide (s.srcs.length ≤ 900) && decide (s.bays.length ≤ 900)))
def okW (a : Int × Nat) : Bool := (decide (-9223372036854775808 ≤ a.1) && decide (a.1 ≤ 9223372036854775807)) && (decide (0 < a.2) && decide (a.2 ≤ 9000))
def okR (a : SSta × Nat × ByteArray) : Bool := okN a.1 && decide (a.2.1 < (namesS a.1).length)
noncomputable abbrev O3 : Orc := o3 (okG eS okSta) (fun x => large (theT eS x)) (okG eS okSta) (fun x => chkSta (theT eS x)) (okG eS okN) (fun x => namesS (theT eS x)) (okG eW okW) (fun x => (theT eW x).1 % ((theT eW x).2 : Int)) (okG eR okR) (fun x => renS (theT eR x).1 (theT eR x).2.1 (theT eR x).2.2)
theorem okN_len {s : SSta} (h : okN s = true) : s.buses.length ≤ 900 ∧ s.lines.length ≤ 900 ∧ s.srcs.length ≤ 900 ∧ s.bays.length ≤ 900 := by
  unfold okN at h; simpa using h
theorem s3 : OrcS Try.prog O3 := by
  refine .cons (.p dec0_ok kn.c6) (.cons (.t' (r := fun a => vB (large a)) fun a h => c7 a h) (.cons (.t' (r := fun a => vI (chkSta a)) fun a h => c8 a (okSta_len h).2.2.2.2) (.cons (.t' (r := fun a => vI (chkSta a)) fun a h => c12 a (okSta_len h).2.2.2.2)
    (.cons (.t' (r := fun a => .c (.d (busesD (namesS a)))) fun a h => ?_) (.cons (.t' (r := fun (a : Int × Nat) => vI (a.1 % (a.2 : Int))) fun a h => ?_) (.cons (.t' (r := fun (a : SSta × Nat × ByteArray) => aSta (renS a.1 a.2.1 a.2.2)) fun a h => ?_) .nil))))))
  · obtain ⟨h1, h2, h3, h4⟩ := okN_len h; exact c9 a h1 h2 h3 h4
  · unfold okW at h; simp only [Bool.and_eq_true, decide_eq_true_eq] at h; exact c10 a.1 a.2 h.1 h.2.1 h.2.2
  · unfold okR at h
    simp only [Bool.and_eq_true, decide_eq_true_eq] at h
    obtain ⟨h1, h2, h3, h4⟩ := okN_len h.1
    exact c11 a.1 a.2.1 a.2.2 h1 h2 h3 h4 h.2
theorem okSta_ren (s : SSta) (i : Nat) (n : ByteArray) (h : okSta s = true) : okSta (renS s i n) = true := by
  unfold renS
  split
  · unfold okSta lenOk at h ⊢; simpa only [List.length_set] using h
  · split
    · unfold okSta lenOk at h ⊢; simpa only [List.length_set] using h
    · split
      · unfold okSta lenOk at h ⊢; simpa only [List.length_set] using h
      · have e : ∀ (l : List SBay), (l.all fun b => lenOk b.links) = (l.map core).all fun b => lenOk b.links := fun l => by rw [List.all_map]; rfl
        have hm := map_set' core (l := s.bays) (i := i - s.buses.length - s.lines.length - s.srcs.length) (d := bay0) (x := { s.bays.getD (i - s.buses.length - s.lines.length - s.srcs.length) bay0 with name := n }) rfl
        unfold okSta at h ⊢
        rw [e, hm, ← e]
        have hl : lenOk (s.bays.set (i - s.buses.length - s.lines.length - s.srcs.length) { s.bays.getD (i - s.buses.length - s.lines.length - s.srcs.length) bay0 with name := n }) = lenOk s.bays := by unfold lenOk; rw [List.length_set]
        rw [hl]; exact h
theorem chk_cnt {s : SSta} (h : chkSta s = 0) : cntBad s = false := by
  rw [chk_fst] at h
  cases hn : nameOk s.name with
  | false => rw [hn] at h; simp at h
  | true =>
    rw [hn] at h
    cases hc : cntBad s with
    | true => rw [hc] at h; simp at h
    | false => rfl
theorem cL (s : SSta) (p q : Int) (hs : okSta s = true) (hp : -9223372036854775808 ≤ p ∧ p ≤ 9223372036854775807) (hq : -9223372036854775808 ≤ q ∧ q ≤ 9223372036854775807) : CR Try.prog 3 [aSta s, vI p, vI q] [] (vB true) [] := by
  refine cr_of s3.ok Try.func3 b3 rfl ((ev3 _ _ _ _ _ _ _ _ _ _ s p q 1).trans ?_)
  have k1 := okG_enc eS_inj (c := okSta) s hs
  have t1 := theT_enc eS_inj s
  simp only [en1] at k1 t1
  simp only [k1, t1, cond_true]
  cases large s with
  | true => rfl
  | false =>
    simp only [cond_false]
    cases hc : (chkSta s != 0) with
    | true => rfl
    | false =>
      simp only [cond_false]
      have h0 : chkSta s = 0 := by simpa using hc
      have hcb := chk_cnt h0
      unfold cntBad at hcb
      simp only [Bool.or_eq_false_iff, decide_eq_false_iff_not, beq_eq_false_iff_ne, ne_eq] at hcb
      obtain ⟨g0, g1, g2, g3, g4⟩ := hcb
      have hnl : (namesS s).length = s.buses.length + (s.lines.length + (s.srcs.length + s.bays.length)) := by unfold namesS; simp
      have k2 := okG_enc eS_inj (c := okN) s (by unfold okN; simp only [Bool.and_eq_true, decide_eq_true_eq]; omega)
      have k3 := okG_enc eW_inj (c := okW) (p, (namesS s).length) (by unfold okW; simp only [Bool.and_eq_true, decide_eq_true_eq]; omega)
      have k4 := okG_enc eW_inj (c := okW) (q, (namesS s).length) (by unfold okW; simp only [Bool.and_eq_true, decide_eq_true_eq]; omega)
      have t3 := theT_enc eW_inj (p, (namesS s).length)
      have t4 := theT_enc eW_inj (q, (namesS s).length)
      simp only [en1, en2, vN] at k2 k3 k4 t3 t4
      simp only [k2, k3, k4, t3, t4, cond_true]
      have hL : (0 : Int) < ((namesS s).length : Int) := by omega
      obtain ⟨a, ha⟩ : ∃ a : Nat, p % ((namesS s).length : Int) = (a : Int) := ⟨(p % ((namesS s).length : Int)).toNat, by rw [Int.toNat_of_nonneg (Int.emod_nonneg _ (by omega))]⟩
      obtain ⟨b, hb⟩ : ∃ b : Nat, q % ((namesS s).length : Int) = (b : Int) := ⟨(q % ((namesS s).length : Int)).toNat, by rw [Int.toNat_of_nonneg (Int.emod_nonneg _ (by omega))]⟩
      have ha' : a < (namesS s).length := by have := Int.emod_lt_of_pos p hL; omega
      have hb' : b < (namesS s).length := by have := Int.emod_lt_of_pos q hL; omega
      simp only [ha, hb, tn]
      rw [ge0, lt1 hb']
      simp only [tt, cond_true]
      have k5 := okG_enc eR_inj (c := okR) (s, a, (namesS s).getD b e0) (by unfold okR okN; simp only [Bool.and_eq_true, decide_eq_true_eq]; omega)
      have t5 := theT_enc eR_inj (s, a, (namesS s).getD b e0)
      simp only [en3, vN] at k5 t5
      simp only [k5, t5, cond_true]
      have k6 := okG_enc eS_inj (c := okSta) (renS s a ((namesS s).getD b e0)) (okSta_ren s a _ hs)
      have t6 := theT_enc eS_inj (renS s a ((namesS s).getD b e0))
      simp only [en1] at k6 t6
      simp only [k6, t6, cond_true]
      rw [ren_law s a b h0 ha' hb']
      by_cases e : a = b
      · rw [if_pos e, show ((a : Int) == (b : Int)) = true by simp [e]]; rfl
      · rw [if_neg e, show ((a : Int) == (b : Int)) = false by simp; omega]; rfl

theorem own : ownKnob Try.prog.godebug = none := by kernel_rfl
theorem laidOut : laidOutB Try.prog = true := by kernel_rfl
theorem okS : [27, 22, 23, 24, 25, 58, 61, 54, 51, 52, 108, 9, 3, 4].all (okT Try.prog [27, 22, 23, 24, 25, 58, 61, 54, 51, 52, 108, 9, 3, 4]) = true := by kernel_rfl

set_option maxRecDepth 100000 in
theorem lifted (os : Os) (started : os.Started) (H : Type) (enc : TypeId × Value → H) :
    ReturnsInHanded {} Try.checked os 3 .any (Rows.stationNamesSpec.pre6 enc Try.prog Try.f3 Rows.stationNamesRow.domain false) (Rows.stationNamesSpec.post enc Try.prog Try.f3 false true false false) := by
  refine returnsInHanded_of_change (C := Try.checked) own started (by kernel_rfl) Try.func3
    (ChangeSpec.witness6 (enc := enc) (C := Try.checked) false ⟨#[], #[.agg #[.string ⟨#[]⟩, .slice none 0 0, .slice none 0 0, .slice none 0 0, .slice none 0 0], .int .i64 0, .int .i64 0], []⟩ 8 (by kernel_rfl) (by kernel_rfl) (by kernel_rfl) (by kernel_rfl)) ?_
  intro W base args ds gs before hval hW hcnd _
  have hW' := hW
  obtain ⟨p, q, hA0, hV, rfl, hfz, hnd⟩ := hW
  have hA : DataW.TrodAll enc Try.prog W 0 (fun _ => true) true Try.f3.params.toList args.toList ds p := hA0
  rw [Try.params3] at hA hval
  have hA1 := hA
  obtain ⟨v0, vs0, d0, ds0, p0, q0, hargs0, rfl, rfl, h0, r0⟩ := trodAll_cons hA
  obtain ⟨v1, vs1, d1, ds1, p1, q1, hargs1, rfl, rfl, h1, r1⟩ := trodAll_cons r0
  obtain ⟨v2, vs2, d2, ds2, p2, q2, hargs2, rfl, rfl, h2, r2⟩ := trodAll_cons r1
  obtain ⟨rfl, rfl, rfl⟩ := trodAll_nil r2
  obtain rfl : args = #[v0, v1, v2] := by cases args; simp_all
  obtain ⟨rfl, rfl⟩ := trodVars_none hV
  have f0 : aggT Try.prog 27 = some true := by simp [aggT, Try.underlying27]
  obtain ⟨e0, a0, hr0, hs0, hk0⟩ := arg_open (β := fun _ => .free) okS (by kernel_rfl) (hval 0 27 v0 rfl rfl) h0
  obtain rfl : a0 = .agg (e0.map .d) := by rcases hk0 with ⟨_, rfl⟩ | ⟨hf, _⟩ <;> first | rfl | (rw [f0] at hf; cases hf)
  obtain ⟨x0, hx0, ho0⟩ := shp_sta hs0
  have f1 : aggT Try.prog 3 = some false := by simp [aggT, Try.underlying3]
  obtain ⟨e1, a1, hr1, hs1, hk1⟩ := arg_open (β := fun _ => .free) okS (by kernel_rfl) (hval 1 3 v1 rfl rfl) h1
  obtain ⟨y1, rfl, rfl⟩ : ∃ x, e1 = [x] ∧ a1 = .c (.d x) := by rcases hk1 with ⟨hf, _⟩ | ⟨_, h⟩ <;> first | exact h | (rw [f1] at hf; cases hf)
  obtain ⟨x1, hx1, ho1⟩ := hs1.int_inv Try.underlying3
  obtain rfl : y1 = .v (.int .i64 x1) := by simpa using hx1
  have f2 : aggT Try.prog 3 = some false := by simp [aggT, Try.underlying3]
  obtain ⟨e2, a2, hr2, hs2, hk2⟩ := arg_open (β := fun _ => .free) okS (by kernel_rfl) (hval 2 3 v2 rfl rfl) h2
  obtain ⟨y2, rfl, rfl⟩ : ∃ x, e2 = [x] ∧ a2 = .c (.d x) := by rcases hk2 with ⟨hf, _⟩ | ⟨_, h⟩ <;> first | exact h | (rw [f2] at hf; cases hf)
  obtain ⟨x2, hx2, ho2⟩ := hs2.int_inv Try.underlying3
  obtain rfl : y2 = .v (.int .i64 x2) := by simpa using hx2
  have hcalls := calls_of_cr (w := W) (vs := #[v0, v1, v2]) rfl ((cL x0 x1 x2 ho0 (int_rng ho1) (int_rng ho2)).ge (.cons (ale_of_des hx0) (.cons (.refl _) (.cons (.refl _) .nil))) (.refl _)) ⟨rfl, fun i x v hx hv => by
    match i, hx, hv with
    | 0, hx, hv => simp at hx hv; subst hx hv; exact hr0
    | 1, hx, hv => simp at hx hv; subst hx hv; exact hr1
    | 2, hx, hv => simp at hx hv; subst hx hv; exact hr2
    | i + 3, hx, hv => simp at hx⟩
  refine hcalls.mono fun e W' ⟨he, bel⟩ => ?_
  subst he
  exact ⟨_, rfl, _, _, _, [], _, [], hW', trodAll_mk1 (shut_bool Try.underlying4 _), trodAll_stays laidOut bel (by
    intro t ht
    have : t = 27 ∨ t = 3 := by simpa using ht
    rcases this with rfl | rfl <;> exact ⟨by kernel_rfl, of_decide_eq_true (by kernel_rfl)⟩) hA1, rfl, bel.frame _, fun h => by cases h⟩

theorem proved : Rows.StationNamesSaid :=
  OpenClaim.holds_of_wide 3 Try.f3 rfl rfl rfl rfl rfl rfl rfl ⟨rfl, rfl, rfl, rfl, rfl⟩ rfl rfl rfl rfl rfl (by kernel_rfl) Try.func3 (by kernel_rfl)
    (of_decide_eq_true (by kernel_rfl)) (by unfold Func.isWrapper; first | (rw [if_pos (by decide +kernel)]; kernel_rfl) | (rw [if_neg (by decide +kernel)]; exact ⟨rfl, rfl⟩))
    (fun os started H enc _ => lifted os started H enc)
end Go.Proofs.Ythmapnolgdpkbaa.names
