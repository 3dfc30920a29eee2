/-
  RelayPhasors returns true for every wave; its listed variables are tied to the program's text. No condition.
-/
import Derived.Test.YtihcidopklhikaaGreatDoorPg
import Derived.Test.YtihcidopklhikaaGreatDoorPh
import Derived.Test.YtihcidopklhikaaGreatDoorPz
import Derived.Test.YtihcidopklhikaaGreatDoorCards
import Derived.SevenTiedAt
import Derived.Test.YtihcidopklhikaaGreatDoorNj
import Derived.Test.YtihcidopklhikaaGreatDoorEc
namespace Go.Proofs.YtihcidopklhikaaGreatDoor.phasors
open Go
open Go.ChangeShapes Go.WideShapes Go.ChangeAt Go.WideMaps Go.WideElems Go.RowKit
open Go.Eb Go.Proofs.YtihcidopklhikaaGreatDoor.ph
set_option maxRecDepth 100000
open Go.Proofs.YtihcidopklhikaaGreatDoor.cl (own laidL block_of door_met)
set_option maxRecDepth 100000

abbrev enc36 : List Int → List AV := en1 (aG fun l => l.map iD)
theorem enc36_inj : InjT enc36 := en1_inj (aG_inj fun a b h => by
  refine List.ext_getElem (by simpa using h.1) fun i h1 h2 => ?_
  have := h.2 i (iD a[i]) (iD b[i]) (by simp [h1]) (by simp [h2])
  exact iD_inj this)
def c36 (l : List Int) : Bool := decide (l.length = 36)
theorem ints_gl {l : List Int} {n : Nat} (h : l.length = n) : [ints (gl l) n] = [AV.agg ((l.map iD).map .d)] := by
  unfold ints
  congr 2
  refine List.ext_getElem (by simp [h]) fun i h1 h2 => ?_
  have h3 : i < l.length := by simpa using h2
  simp [gl, h3]
def l36 (X : Nat → Int) : List Int := (List.range 36).map X
theorem l36_enc (X : Nat → Int) : [ints X 36] = enc36 (l36 X) := by
  unfold ints enc36 en1 aG l36
  simp only [List.map_map]
  rfl
def ph12 (Y : Nat → Int) : List Int := [(phP Y 0).1, (phP Y 0).2.1, (phP Y 0).2.2.1, (phP Y 0).2.2.2, (phP Y 1).1, (phP Y 1).2.1, (phP Y 1).2.2.1, (phP Y 1).2.2.2, (phP Y 2).1, (phP Y 2).2.1, (phP Y 2).2.2.1, (phP Y 2).2.2.2]
def prP (Y : Nat → Int) (n : Nat) : I4 := h12 (W Y n)
def pr12 (Y : Nat → Int) : List Int := [(prP Y 0).1, (prP Y 0).2.1, (prP Y 0).2.2.1, (prP Y 0).2.2.2, (prP Y 1).1, (prP Y 1).2.1, (prP Y 1).2.2.1, (prP Y 1).2.2.2, (prP Y 2).1, (prP Y 2).2.1, (prP Y 2).2.2.1, (prP Y 2).2.2.2]
noncomputable def th (x : List AV) : Nat → Int := gl (theT enc36 x)
noncomputable abbrev oL : Orc := oLw (okG enc36 c36) (fun i x => (ph12 (th x)).getD i 0) (fun x => phE (th x)) (okG enc36 c36) (fun i x => (pr12 (th x)).getD i 0)
theorem sL : OrcS Tryz.prog oL :=
  .cons (.p dec0_ok fun _ => known_cx) (.cons (.t' (enc := enc36) (c := c36) (r := fun l => phO (gl l)) fun l h => by
    have := cPh (gl l)
    rw [ints_gl (of_decide_eq_true h)] at this
    exact this) (.cons (.t' (enc := enc36) (c := c36) (r := fun l => prO (gl l)) fun l h => by
    have := cPr (gl l)
    rw [ints_gl (of_decide_eq_true h)] at this
    exact this) .nil))
theorem th_at (X : Nat → Int) : th [ints X 36] = gl (l36 X) := by
  unfold th
  rw [l36_enc, theT_enc enc36_inj]
theorem okp_at (X : Nat → Int) : okG enc36 c36 [ints X 36] = true := by
  rw [l36_enc]
  exact okG_enc enc36_inj (c := c36) (l36 X) (by simp [c36, l36])
theorem ok36_l (X : Nat → Int) : ok36 (gl (l36 X)) = ok36 X := by
  have e : ∀ i, i < 36 → gl (l36 X) i = X i := fun i hi => by simp [gl, l36, hi]
  unfold ok36
  rw [Bool.eq_iff_iff, List.all_eq_true, List.all_eq_true]
  constructor
  · intro h i hi
    have := h i hi
    rwa [e i (by simpa using hi)] at this
  · intro h i hi
    rw [e i (by simpa using hi)]
    exact h i hi
theorem q12_z {Y : Nat → Int} (h : ok36 Y = false) : q12 (fun i => (ph12 Y).getD i 0) (fun _ => 0) = true := q12_of fun i hi => by
  unfold ph12 phP
  rw [h]
  match i, hi with
  | 0, _ | 1, _ | 2, _ | 3, _ | 4, _ | 5, _ | 6, _ | 7, _ | 8, _ | 9, _ | 10, _ | 11, _ => rfl
theorem q12_e {Y : Nat → Int} (h : ok36 Y = true) : q12 (fun i => (ph12 Y).getD i 0) (fun i => (pr12 Y).getD i 0) = true := q12_of fun i hi => by
  have h' := h
  rw [ok36_eq] at h'
  simp only [Bool.and_eq_true] at h'
  obtain ⟨h0, h1, h2⟩ := h'
  unfold ph12 pr12 phP prP h12
  rw [h, h0, h1, h2]
theorem cLaw (X : Nat → Int) : CR Tryz.prog 3 [ints X 72] [] (vB true) [] := by
  refine cr_of sL.ok Tryz.func3 (by kernel_rfl) rfl ((evLw _ _ _ _ _ X).trans ?_)
  rw [okp_at, tst_eq, th_at, cond_true]
  have hk := ok36_l X
  generalize gl (l36 X) = Y at hk ⊢
  show (bif ok36 X then _ else _) = _
  rw [← hk]
  cases h : ok36 Y with
  | true =>
    have e : (phE Y == 0) = true := by unfold phE; rw [h]; rfl
    rw [e, q12_e h]
    rfl
  | false =>
    have e : (phE Y == 2) = true := by unfold phE; rw [h]; rfl
    rw [e, q12_z h]
    rfl

/-! the argument -/
theorem shp_arr {t e : TypeId} {n m : Nat} (hu : Tryz.prog.underlying t = some (.array n e)) (he : ∀ ds, Shp Tryz.prog e ds → ∃ l : List Int, ds = l.map iD ∧ l.length = m) {ds : List D} (h : Shp Tryz.prog t ds) : ∃ l : List Int, ds = l.map iD ∧ l.length = n * m := by
  obtain ⟨ps, rfl, hl, hp⟩ := h.array_inv hu
  subst hl
  clear h hu
  induction ps with
  | nil => exact ⟨[], rfl, by simp⟩
  | cons p r ih =>
    obtain ⟨l1, e1, n1⟩ := he p (hp p (List.mem_cons_self ..))
    obtain ⟨l2, e2, n2⟩ := ih fun q hq => hp q (List.mem_cons_of_mem _ hq)
    exact ⟨l1 ++ l2, by rw [List.flatten_cons, e1, e2, List.map_append], by rw [List.length_append, n1, n2, List.length_cons, Nat.add_mul]; omega⟩
theorem shp_int {ds : List D} (h : Shp Tryz.prog 3 ds) : ∃ l : List Int, ds = l.map iD ∧ l.length = 1 := by
  obtain ⟨n, rfl, _⟩ := h.int_inv Tryz.underlying3
  exact ⟨[n], rfl, rfl⟩
theorem shp_wave {ds : List D} (h : Shp Tryz.prog 25 ds) : ∃ l : List Int, ds = l.map iD ∧ l.length = 72 := by
  obtain ⟨ps, rfl, hl, hp⟩ := h.struct_inv Tryz.underlying25
  have h36 : ∀ ds, Shp Tryz.prog 23 ds → ∃ l : List Int, ds = l.map iD ∧ l.length = 36 := fun ds h => shp_arr (m := 12) Tryz.underlying23 (fun ds h => shp_arr (m := 1) Tryz.underlying22 (fun ds h => shp_int h) h) h
  match ps, hl, hp with
  | [a, b], _, hp =>
    obtain ⟨l1, rfl, n1⟩ := h36 a (hp 0 _ a rfl rfl)
    obtain ⟨l2, rfl, n2⟩ := h36 b (hp 1 _ b rfl rfl)
    exact ⟨l1 ++ l2, by simp, by simp [n1, n2]⟩
theorem laidOut : laidOutB Tryz.prog = true := by kernel_rfl
theorem okS : [25, 23, 22, 3].all (okT Tryz.prog [25, 23, 22, 3]) = true := by kernel_rfl
theorem glob_of {W : World} (h : laidMetH Tryz.prog laidL W) : Glob (allI W) W := glob_of_blk (block_of h)

theorem lifted (os : Os) (started : os.Started) (H : Type) (enc : TypeId × Value → H) :
    ReturnsInHanded {} Tryz.checked os 3 .any (fun w args => (Rows.relayPhasorsSpec.pre enc Tryz.prog Tryz.f3 Rows.relayPhasorsRow.domain false w args ∧ laidMetH Tryz.prog laidL w) ∧ sizedMet enc Tryz.prog Tryz.f3 (OpenSpec.ofChange Rows.relayPhasorsSpec) false w args)
      (Rows.relayPhasorsSpec.post enc Tryz.prog Tryz.f3 false true false false) := by
  refine returnsInHanded_of_change_and (C := Tryz.checked) (X := fun w _ => laidMetH Tryz.prog laidL w) (fun _ _ _ hh h => h.of_heap hh) own started (by kernel_rfl) Tryz.func3
    (ChangeSpec.witness_shaped (enc := enc) (C := Tryz.checked) (os := os) (X := fun w _ => laidMetH Tryz.prog laidL w) false (World.doorLaid Tryz.prog 400 os) #[.agg ⟨List.replicate 72 (.int .i64 0)⟩] 8 rfl (World.shaped_of_RefB (by kernel_rfl) (by kernel_rfl)) (by kernel_rfl) (by kernel_rfl) (by kernel_rfl) (door_met os _)) ?_
  intro W base args ds gs before hval hW _ _ hL _
  have hW' := hW
  obtain ⟨p, q, hA0, hV, rfl, hfz, hnd⟩ := hW
  have hA : DataW.TrodAll enc Tryz.prog W 0 (fun _ => true) true Tryz.f3.params.toList args.toList ds p := hA0
  rw [Tryz.params3] at hA hval
  have hA1 := hA
  obtain ⟨v0, vs0, d0, ds0, p0, q0, hargs0, rfl, rfl, h0, r0⟩ := trodAll_cons hA
  obtain ⟨rfl, rfl, rfl⟩ := trodAll_nil r0
  obtain rfl : args = #[v0] := by cases args; simp_all
  obtain ⟨rfl, rfl⟩ := trodVars_none hV
  have f0 : aggT Tryz.prog 25 = some true := by simp [aggT, Tryz.underlying25]
  obtain ⟨e0, a0, hr0, hs0, hk0⟩ := arg_open (β := fun _ => .free) okS (by kernel_rfl) (hval 0 25 v0 rfl rfl) h0
  obtain rfl : a0 = .agg (e0.map .d) := by rcases hk0 with ⟨_, rfl⟩ | ⟨hf, _⟩ <;> first | rfl | (rw [f0] at hf; cases hf)
  obtain ⟨x0, rfl, ho0⟩ := shp_wave hs0
  have hlaw := cLaw (gl x0)
  rw [ints_gl ho0] at hlaw
  have hcalls := calls_of_cr (w := W) (vs := #[v0]) rfl hlaw ⟨rfl, fun i x v hx hv => by
    match i, hx, hv with
    | 0, hx, hv => simp at hx hv; subst hx hv; simpa using hr0
    | i + 1, hx, hv => simp at hx⟩ (glob_of hL)
  refine hcalls.mono fun e W' ⟨he, bel⟩ => ?_
  subst he
  exact ⟨_, rfl, _, _, _, [], _, [], hW', trodAll_mk1 (shut_bool Tryz.underlying4 _), trodAll_stays laidOut bel (by
    intro t ht
    have : t = 25 := by simpa using ht
    subst this
    exact ⟨by kernel_rfl, of_decide_eq_true (by kernel_rfl)⟩) hA1, rfl, bel.frame _, fun h => by cases h⟩

theorem said : Rows.RelayPhasorsSaid :=
  OpenClaim.holds_of_wide 3 Tryz.f3 rfl rfl rfl rfl rfl rfl rfl ⟨rfl, rfl, rfl, rfl, rfl⟩ rfl rfl rfl rfl rfl (by kernel_rfl) Tryz.func3 Go.Proofs.YtihcidopklhikaaGreatDoor.facts.joined
    (of_decide_eq_true (by kernel_rfl)) (by unfold Func.isWrapper; first | (rw [if_pos (by decide +kernel)]; kernel_rfl) | (rw [if_neg (by decide +kernel)]; exact ⟨rfl, rfl⟩))
    (fun os started H enc _ => lifted os started H enc)
theorem proved : Rows.RelayPhasorsCardSaid :=
  Claim7.holds_tied_plain_at .later [] [.data, .data, .data, .sentinel, .sentinel, .data] true (true, "511a97f59c5f379a3383de423d30f090e69f7f6f91cdd2ca5047362880e9e335") true
    said (fun _ h => by cases h) (by kernel_rfl) (fun _ h => by cases h) relayPhasors_row_tie rfl ⟨rfl, rfl⟩ (by kernel_rfl) rfl
    (fun f fn hf hfn => by
      have e0 : some f = some 3 := hf.symm.trans (by kernel_rfl)
      obtain rfl := Option.some.inj e0
      obtain rfl : fn = Tryz.f3 := (Option.some.inj (Tryz.func3.symm.trans hfn)).symm
      exact ⟨by kernel_rfl, fun j t ht => by
        rw [Tryz.params3] at ht
        have ht' : t ∈ [25] := List.mem_of_getElem? (by simpa using ht)
        simp only [List.mem_cons, List.not_mem_nil, or_false] at ht'
        rcases ht' with rfl
        exact (show Tryz.prog.wantsStandIn 25 = false by kernel_rfl)⟩)
    (by kernel_rfl)

end Go.Proofs.YtihcidopklhikaaGreatDoor.phasors
