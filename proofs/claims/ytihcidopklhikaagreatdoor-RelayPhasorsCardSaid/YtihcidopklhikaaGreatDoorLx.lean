/-
  What a closed run gives a law: the listed table of roots, as the law's condition lays it, is what the run starts from. No condition.
-/
import Derived.Test.YtihcidopklhikaaGreatDoorT0
import Derived.Test.YtihcidopklhikaaGreatDoorD0
import Derived.Test.YtihcidopklhikaaGreatDoorTie
import Derived.ProofKit
import Derived.LaidMore
import Derived.OpenShut
import Derived.Stop.Joined
import Derived.KernelRfl
namespace Go.Proofs.YtihcidopklhikaaGreatDoor.cl
open Go Go.Ez
open Go.ChangeShapes Go.WideShapes Go.ChangeAt Go.WideMaps Go.WideElems Go.RowKit
set_option maxRecDepth 100000

theorem own : ownKnob Tryz.prog.godebug = none := by kernel_rfl
theorem gRoots : Tryz.prog.globalNamed "substation/cyclo.roots" = some 0 := by kernel_rfl
theorem tRoots : (Tryz.prog.globals[0]?).map (·.type) = some 160 := by kernel_rfl
theorem uRoots : Tryz.prog.underlying 160 = some (.array 6 27) := by kernel_rfl
theorem uRow : Tryz.prog.underlying 27 = some (.array 4 3) := by kernel_rfl
theorem uInt : Tryz.prog.underlying 3 = some (.int .i64) := by kernel_rfl
theorem cRoots : Tryz.prog.cellsOf 160 = 24 := by kernel_rfl
theorem cRow : Tryz.prog.cellsOf 27 = 4 := by kernel_rfl
theorem cInt : Tryz.prog.cellsOf 3 = 1 := by kernel_rfl
def laidL : List (String × DataW Unit) := [("math/bits.deBruijn32tab", Rows.laid_math_bits_deBruijn32tab), ("math/bits.deBruijn64tab", Rows.laid_math_bits_deBruijn64tab), ("internal/strconv.uint64pow10", Rows.laid_internal_strconv_uint64pow10), ("strconv.ErrRange", Rows.laid_strconv_ErrRange), ("strconv.ErrSyntax", Rows.laid_strconv_ErrSyntax), ("substation/cyclo.roots", Rows.laid_substation_cyclo_roots)]
def rowsL : List (List Int) := [[1, 0, 0, 0], [0, 1, 0, 0], [0, 0, 1, 0], [0, 0, 0, 1], [-1, 0, 1, 0], [0, -1, 0, 1]]

section
variable {W : World} {base : Nat} {sp : Nat → Bool} {held : Bool} {fuel : Nat}
theorem row_of {ns : List Int} (h4 : ns.length = 4) {cs : List Value} {p : List MemPlace} (h : DataW.trod (fun _ => ()) Tryz.prog W base sp held fuel 27 cs = some (.agg (ns.map fun k => .lit (.int .i64 k)), p)) : cs = ns.map (.int .i64) := by
  obtain ⟨xs, m, rfl, hx, hlen, hn, hel⟩ := DataW.trod_array uRow h
  rw [cRow] at hlen
  rw [cInt] at hel
  simp only [Prod.mk.injEq, DataW.agg.injEq] at hx
  refine List.ext_getElem (by simp [hlen, h4]) fun i h1 h2 => ?_
  have hi : i < 4 := by omega
  have he := hel i hi
  have hxi : i < xs.length := by omega
  rw [List.getElem?_eq_getElem hxi] at he
  obtain ⟨k, e1, e2, _⟩ := DataW.trod_int uInt he
  have e3 : xs[i].1 = .lit (.int .i64 ns[i]) := by
    have := congrArg (fun l => l[i]?) hx.1
    simpa [hxi, (by omega : i < ns.length)] using this.symm
  rw [e2] at e3
  simp only [DataW.lit.injEq, Lit.int.injEq, true_and] at e3
  have e4 : (cs.drop (i * 1)).take 1 = [cs[i]] := by
    rw [Nat.mul_one, List.drop_eq_getElem_cons h1]; rfl
  rw [e4] at e1
  simp only [List.cons.injEq, and_true] at e1
  simp [e1, e3]
theorem roots_of {cs : List Value} {p : List MemPlace} (h : DataW.trod (fun _ => ()) Tryz.prog W base sp held fuel 160 cs = some (Rows.laid_substation_cyclo_roots, p)) : cs = rowsL.flatten.map (.int .i64) := by
  obtain ⟨xs, m, rfl, hx, hlen, hn, hel⟩ := DataW.trod_array uRoots h
  rw [cRoots] at hlen
  rw [cRow] at hel
  have hx1 : rowsL.map (fun r => DataW.agg (H := Unit) (r.map fun k => .lit (.int .i64 k))) = xs.map (·.1) := by
    simp only [Prod.mk.injEq] at hx
    have := hx.1
    simp only [Rows.laid_substation_cyclo_roots, DataW.agg.injEq] at this
    exact this
  have hr : ∀ i, i < 6 → (cs.drop (i * 4)).take 4 = (rowsL.getD i []).map (.int .i64) := fun i hi => by
    have he := hel i hi
    have hxi : i < xs.length := by omega
    rw [List.getElem?_eq_getElem hxi] at he
    have e3 : xs[i].1 = .agg ((rowsL.getD i []).map fun k => .lit (.int .i64 k)) := by
      have := congrArg (fun l => l[i]?) hx1
      simp only [List.getElem?_map] at this
      rw [List.getElem?_eq_getElem hxi] at this
      match i, hi with
      | 0, _ | 1, _ | 2, _ | 3, _ | 4, _ | 5, _ => simpa [rowsL] using this.symm
    have e5 : xs[i] = (.agg ((rowsL.getD i []).map fun k => .lit (.int .i64 k)), xs[i].2) := by rw [← e3]
    rw [e5] at he
    refine row_of ?_ he
    match i, hi with
    | 0, _ | 1, _ | 2, _ | 3, _ | 4, _ | 5, _ => rfl
  have split : ∀ l : List Value, l.length = 24 → l = (l.drop 0).take 4 ++ ((l.drop 4).take 4 ++ ((l.drop 8).take 4 ++ ((l.drop 12).take 4 ++ ((l.drop 16).take 4 ++ (l.drop 20).take 4)))) := fun l hl => by
    have step : ∀ k, l.drop k = (l.drop k).take 4 ++ l.drop (k + 4) := fun k => by
      have := List.take_append_drop 4 (l.drop k)
      rw [List.drop_drop] at this
      exact this.symm
    have hend : (l.drop 20).take 4 = l.drop 20 := List.take_of_length_le (by simp; omega)
    rw [hend, ← step 16, ← step 12, ← step 8, ← step 4, ← step 0, List.drop_zero]
  rw [split cs hlen]
  have r0 := hr 0 (by decide)
  have r1 := hr 1 (by decide)
  have r2 := hr 2 (by decide)
  have r3 := hr 3 (by decide)
  have r4 := hr 4 (by decide)
  have r5 := hr 5 (by decide)
  simp only [Nat.zero_mul, Nat.one_mul, Nat.reduceMul] at r0 r1 r2 r3 r4 r5
  rw [r0, r1, r2, r3, r4, r5]
  rfl
end
/-- the table's block -/
theorem block_of {W : World} (h : laidMetH Tryz.prog laidL W) : ∃ t fz, W.heap[0]? = some (.cells (rowsL.flatten.map (Value.int .i64)).toArray t fz) := by
  rw [MakeChecks.laidMetH_plain _ _ _ (by kernel_rfl)] at h
  obtain ⟨ps, ⟨_, _, _, _, _, _, _, _, _, _, ⟨_, _, _, _, _, _, _, _, _, _, ⟨_, _, _, _, _, _, _, _, _, _, ⟨_, _, _, _, _, _, _, _, _, _, ⟨_, _, _, _, _, _, _, _, _, _, ⟨g, t, cs, f, p, q, hg, ht, hv, hd, _, _⟩, _⟩, _⟩, _⟩, _⟩, _⟩, _, _⟩ := h
  obtain rfl := Option.some.inj (gRoots.symm.trans hg)
  obtain rfl := Option.some.inj (tRoots.symm.trans ht)
  have e := roots_of hd
  simp only [World.var?, gRoots, Option.bind_some] at hv
  split at hv
  · rename_i cs' t' fz hw
    simp only [Option.some.injEq] at hv
    subst hv
    exact ⟨t', fz, by rw [hw, ← e]⟩
  · cases hv
/-- integers as cells -/
def ci (k : Int) : CV := .i (k + 9223372036854775808).toNat
theorem ci_rep {β : Bz} : ∀ (l : List Int), (∀ k ∈ l, -9223372036854775808 ≤ k ∧ k < 9223372036854775808) → ∀ (j : Nat) c v, (l.map ci)[j]? = some c → (l.map (Value.int .i64))[j]? = some v → Rep β c v := fun l hl j c v h1 h2 => by
  simp only [List.getElem?_map, Option.map_eq_some_iff] at h1 h2
  obtain ⟨k, hk, rfl⟩ := h1
  obtain ⟨k', hk', rfl⟩ := h2
  rw [hk] at hk'
  cases hk'
  obtain ⟨h1, h2⟩ := hl k (List.mem_of_getElem? hk)
  refine ⟨by show _ < 18446744073709551616; omega, ?_⟩
  show Value.int .i64 k = .int .i64 (((k + 9223372036854775808).toNat : Int) - (9223372036854775808 : Nat))
  congr 1
  omega
theorem b0_eq : b0 = .cells true 160 24 [rowsL.flatten.map ci] := by rfl
/-- a closed call by its entry -/
theorem calls_of_blk {m : Me} {b : Bool} (hargs : m.args = []) (hpre : m.pre = [(.e, b0)]) (hx : m.x = .c (.b b)) (hnx : 1 ≤ m.nx.num) (h : MeOk Tryz.prog 1 m) {W : World} (hb : ∃ t fz, W.heap[0]? = some (.cells (rowsL.flatten.map (Value.int .i64)).toArray t fz)) :
    Calls Tryz.prog m.f #[] W fun e w' => e = .returned (.bool b) ∧ Below W.heap.size W w' := by
  obtain ⟨H', hcz, _⟩ := h
  obtain ⟨t, fz, hw⟩ := hb
  have hget : ∀ p B, (treeOf m.pre).get p = some B → p = .e ∧ B = b0 := fun p B hp => by
    have := treeOf_get hp
    rw [hpre] at this
    simpa using this
  have hlt : 0 < W.heap.size := (Array.getElem?_eq_some_iff.1 hw).1
  have hrel : Rel (fun p => if p = .e then some (0, 24) else none) (treeOf m.pre) (fun p => p ≠ .e) W := by
    refine ⟨fun p hp => by simp [hp], fun p b N hb => ?_, fun p B hp => ?_, fun p q b N N' hp hq _ _ => ?_⟩
    · by_cases e : p = .e
      · rw [if_pos e] at hb; cases hb; exact hlt
      · rw [if_neg e] at hb; cases hb
    · obtain ⟨rfl, rfl⟩ := hget p B hp
      rw [b0_eq]
      refine ⟨0, 24, _, (t, fz), by simp, hw, fun h => (by cases h), by rfl, by decide, fun i r hr => ?_⟩
      cases i with
      | zero =>
        simp at hr
        subst hr
        refine ⟨by rfl, fun j c v h1 h2 => ?_⟩
        refine ci_rep (rowsL.flatten) (by decide) j c v h1 ?_
        simpa using h2
      | succ i => simp at hr
    · have e1 : p = .e := by
        cases hB : (treeOf m.pre).get p with
        | none => exact absurd hB hp
        | some B => exact (hget p B hB).1
      have e2 : q = .e := by
        cases hB : (treeOf m.pre).get q with
        | none => exact absurd hB hq
        | some B => exact (hget q B hB).1
      rw [e1, e2]
  obtain ⟨fn, _, _, _, hc⟩ := hcz _ W _ #[] hrel (fun p hp e => by subst e; simp only [Pa.num] at hp; omega) (fun g hg => ⟨24, by
    obtain rfl : g = 0 := by omega
    rfl⟩) (by rw [hargs]; exact ⟨rfl, fun i x v h => by simp at h⟩)
  refine hc.mono ?_
  rintro e w' ⟨v, β', F', rfl, hr, _, hext, _⟩
  rw [hx] at hr
  have ev : v = .bool b := hr
  refine ⟨by rw [ev], hext.os, hext.tape, hext.output, hext.size, fun k hk => hext.old k hk fun p N hwr => ?_⟩
  obtain ⟨B, hB, hro⟩ := hwr
  obtain ⟨_, rfl⟩ := hget p B hB
  rw [b0_eq] at hro
  cases hro
/-- the door's own heap meets the condition -/
theorem door_met (os : Os) (args : Array Value) : laidMetH Tryz.prog laidL ((World.doorLaid Tryz.prog 400 os).forCall (fun _ _ => 0) ⟨#[], args, []⟩).memory :=
  laidMetH_of_parts3 (fuel := 8) (laidMet_of_run' 8 (by kernel_rfl) (by kernel_rfl)) (by kernel_rfl) (by kernel_rfl)
end Go.Proofs.YtihcidopklhikaaGreatDoor.cl
