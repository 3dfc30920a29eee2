/-
  The sanity check of relays returns true, as a contract: out of its closed run. No condition.
-/
import Derived.Test.YtihcidopklhikaaGreatDoorZCy
import Derived.Test.YtihcidopklhikaaGreatDoorLx
import Derived.Test.YtihcidopklhikaaGreatDoorK1
namespace Go.Proofs.YtihcidopklhikaaGreatDoor.ph
open Go.RowKit Go.Eb
set_option maxRecDepth 100000
open Go.Proofs.YtihcidopklhikaaGreatDoor.cl (rowsL calls_of_blk m50 m50_all)
set_option maxRecDepth 100000

def rootV : List Value := rowsL.flatten.map (Value.int .i64)
theorem rows_eq : rowsL.flatten = [1, 0, 0, 0, 0, 1, 0, 0, 0, 0, 1, 0, 0, 0, 0, 1, -1, 0, 1, 0, 0, -1, 0, 1] := by decide
theorem rootV_len : rootV.length = 24 := by unfold rootV; rw [rows_eq]; rfl
theorem rootV_get (i : Nat) (h : i < 24) : rootV[i]? = some (.int .i64 (([1, 0, 0, 0, 0, 1, 0, 0, 0, 0, 1, 0, 0, 0, 0, 1, -1, 0, 1, 0, 0, -1, 0, 1] : List Int).getD i 0)) := by
  have hl : ([1, 0, 0, 0, 0, 1, 0, 0, 0, 0, 1, 0, 0, 0, 0, 1, -1, 0, 1, 0, 0, -1, 0, 1] : List Int).length = 24 := by rfl
  unfold rootV
  rw [rows_eq, List.getElem?_map, List.getD_eq_getElem?_getD, List.getElem?_eq_getElem (by rw [hl]; exact h)]
  rfl
theorem glob_at {I : Im} {w : World} (hg : Glob I w) (i : Nat) (h : i < 25) : w.cell? ⟨0, i, none⟩ = (bif Nat.blt i 24 then some (.int .i64 (([1, 0, 0, 0, 0, 1, 0, 0, 0, 0, 1, 0, 0, 0, 0, 1, -1, 0, 1, 0, 0, -1, 0, 1] : List Int).getD i 0)) else none) := by
  have := hg (0, i, bif Nat.blt i 24 then some (.int .i64 (([1, 0, 0, 0, 0, 1, 0, 0, 0, 0, 1, 0, 0, 0, 0, 1, -1, 0, 1, 0, 0, -1, 0, 1] : List Int).getD i 0)) else none) (by
    unfold gcells
    exact List.mem_map.2 ⟨i, List.mem_range.2 h, rfl⟩)
  exact this.2
theorem tab_of {I : Im} {w : World} (hg : Glob I w) : ∃ t fz, w.heap[0]? = some (.cells rootV.toArray t fz) := by
  have h0 := glob_at hg 0 (by omega)
  rw [show (bif Nat.blt 0 24 then some (Value.int .i64 (([1, 0, 0, 0, 0, 1, 0, 0, 0, 0, 1, 0, 0, 0, 0, 1, -1, 0, 1, 0, 0, -1, 0, 1] : List Int).getD 0 0)) else none) = some (Value.int .i64 1) from rfl] at h0
  have hc : ∀ {c : Array Value} {t : TypeId} {fz : Nat × Nat}, w.heap[0]? = some (.cells c t fz) → ∀ i, w.cell? ⟨0, i, none⟩ = c[i]? := fun hh i => by
    unfold World.cell?
    rw [hh]
    rfl
  cases hh : w.heap[0]? with
  | none => unfold World.cell? at h0; rw [hh] at h0; cases h0
  | some o =>
    cases o with
    | cells c t fz =>
      refine ⟨t, fz, ?_⟩
      have e : c = rootV.toArray := by
        apply Array.ext_getElem?
        intro i
        by_cases h : i < 24
        · have := glob_at hg i (by omega)
          rw [hc hh, bltD, decide_eq_true h] at this
          rw [this, List.getElem?_toArray, rootV_get i h]
          rfl
        · have := glob_at hg 24 (by omega)
          rw [hc hh] at this
          have h24 : c[24]? = none := this
          have hs : c.size ≤ 24 := by simpa using h24
          rw [Array.getElem?_eq_none (by omega), Array.getElem?_eq_none (by rw [List.size_toArray, rootV_len]; omega)]
      rw [e]
    | _ => unfold World.cell? at h0; rw [hh] at h0; cases h0
theorem glob_of_blk {W : World} (h : ∃ t fz, W.heap[0]? = some (.cells rootV.toArray t fz)) : Glob (allI W) W := by
  obtain ⟨t, fz, hw⟩ := h
  intro x hx
  unfold gcells at hx
  obtain ⟨i, hi, rfl⟩ := List.mem_map.1 hx
  refine ⟨(Array.getElem?_eq_some_iff.1 hw).1, ?_⟩
  show World.cell? W ⟨0, i, none⟩ = _
  unfold World.cell?
  rw [hw]
  show rootV.toArray[i]? = _
  rw [bltD]
  by_cases h24 : i < 24
  · rw [List.getElem?_toArray, rootV_get i h24, decide_eq_true h24]; rfl
  · rw [decide_eq_false h24, Array.getElem?_eq_none (by rw [List.size_toArray, rootV_len]; omega)]; rfl

/-- a closed call without arguments, as a contract -/
theorem cr_of_calls {P : Program} {f : FuncId} {b : Bool} (h : ∀ (I : Im) (w : World), Glob I w → Calls P f #[] w fun e w' => e = .returned (.bool b) ∧ Below w.heap.size w w') : CR P f [] [] (vB b) [] := by
  intro β I w vs hr hf
  have hv : vs = #[] := by
    have := hf.1
    simpa using this.symm
  subst hv
  refine (h I w hr.gl).mono ?_
  rintro e w' ⟨rfl, hb⟩
  have hheap : ∀ k, k < w.heap.size → w'.heap[k]? = w.heap[k]? := hb.block
  have hcell : ∀ b o, I b o → w'.cell? ⟨b, o, none⟩ = w.cell? ⟨b, o, none⟩ := fun b o hi => World.cell?_of_block (hheap b (hr.old b o hi))
  refine ⟨_, β, I, rfl, ⟨⟨hr.inj, fun h b hh => Nat.lt_of_lt_of_le (hr.lt h b hh) hb.size, hr.off, fun b o hi => Nat.lt_of_lt_of_le (hr.old b o hi) hb.size, hr.gl.step (fun _ _ hi => hi) hcell⟩, fun h _ => hr.dom h rfl, fun h B hh => by cases hh⟩, .v _ rfl,
    ⟨hb.os, hb.tape, hb.output, hb.size, fun k hk _ => hheap k hk, fun _ _ hi => hi, hcell, fun _ _ hi => .inl hi, fun h b hh => .inl ⟨h, hh⟩, fun b vs t fz hh => ⟨vs, fz, by rw [hheap b (Array.getElem?_eq_some_iff.1 hh).1]; exact hh, rfl⟩⟩, .refl β⟩
theorem known_cx : CX Tryz.prog 6 [] [] (vB true) [] := by
  have h := cr_of_calls (P := Tryz.prog) (f := 6) (b := true) fun I w hg => calls_of_blk (m := m50) rfl rfl rfl (by decide) m50_all (tab_of hg)
  unfold CX
  rw [Tryz.func6]
  exact h
end Go.Proofs.YtihcidopklhikaaGreatDoor.ph
