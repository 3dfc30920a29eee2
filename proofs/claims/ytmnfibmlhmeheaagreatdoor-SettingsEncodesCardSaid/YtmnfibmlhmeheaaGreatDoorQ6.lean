/-
  An evaluator of Go code on abstract values, proved sound, and what it computes of the functions that the statement reaches (part 6). No condition.
-/
import Derived.Test.YtmnfibmlhmeheaaGreatDoorQ5
import Derived.Test.YtmnfibmlhmeheaaGreatDoorTie
import Derived.ProofKit
import Derived.LaidMore
import Derived.OpenShut
import Derived.Stop.Joined
import Derived.KernelRfl
import Derived.Test.YtmnfibmlhmeheaaGreatDoorProg
set_option maxRecDepth 100000
namespace Go.Proofs.YtmnfibmlhmeheaaGreatDoor.ito
open Go Go.Eb
open Go.ChangeShapes Go.WideShapes Go.ChangeAt Go.WideMaps Go.WideElems Go.RowKit
theorem own : ownKnob Tryz.prog.godebug = none := by kernel_rfl
abbrev laidL : List (String × DataW Unit) := Rows.settingsEncodesRow.laid
abbrev tT : TypeId := 202
theorem tTab : (Tryz.prog.globals[0]?).map (·.type) = some tT := by kernel_rfl
theorem uTab : Tryz.prog.underlying tT = some (.array 20 193) := by kernel_rfl
theorem uInt : Tryz.prog.underlying 193 = some (.int .u64) := by kernel_rfl
theorem cTab : Tryz.prog.cellsOf tT = 20 := by kernel_rfl
theorem cInt : Tryz.prog.cellsOf 193 = 1 := by kernel_rfl
section
variable {W : World} {base : Nat} {sp : Nat → Bool} {held : Bool} {fuel : Nat}
theorem tab_cells {cs : List Value} {p : List MemPlace} (h : DataW.trod (fun _ => ()) Tryz.prog W base sp held fuel tT cs = some (Rows.laid_internal_strconv_uint64pow10, p)) : cs = Lib.pow10Tab.map (.int .u64) := by
  obtain ⟨xs, m, rfl, hx, hlen, hn, hel⟩ := DataW.trod_array uTab h
  rw [cTab] at hlen
  rw [cInt] at hel
  have hx1 : (Lib.pow10Tab.map fun k => DataW.lit (H := Unit) (.int .u64 k)) = xs.map (·.1) := by
    simp only [Prod.mk.injEq] at hx
    have := hx.1
    simp only [Rows.laid_internal_strconv_uint64pow10, DataW.agg.injEq] at this
    exact this
  have h20 : Lib.pow10Tab.length = 20 := by simp [Lib.pow10Tab]
  refine List.ext_getElem (by simp [hlen, h20]) fun i h1 h2 => ?_
  have hi : i < 20 := by omega
  have he := hel i hi
  have hxi : i < xs.length := by omega
  rw [List.getElem?_eq_getElem hxi] at he
  obtain ⟨k, e1, e2, _⟩ := DataW.trod_int uInt he
  have hi' : i < Lib.pow10Tab.length := by omega
  have e3 : xs[i].1 = .lit (.int .u64 Lib.pow10Tab[i]) := by
    have := congrArg (fun l => l[i]?) hx1
    simpa [hxi, hi'] using this.symm
  rw [e2] at e3
  simp only [DataW.lit.injEq, Lit.int.injEq, true_and] at e3
  have e4 : (cs.drop (i * 1)).take 1 = [cs[i]] := by
    rw [Nat.mul_one, List.drop_eq_getElem_cons h1]; rfl
  rw [e4] at e1
  simp only [List.cons.injEq, and_true] at e1
  rw [List.getElem_map]
  simp [e1, e3]
end
theorem block_of {W : World} (h : laidMetH Tryz.prog laidL W) : ∃ t fz, W.heap[0]? = some (.cells tab t fz) := by
  rw [MakeChecks.laidMetH_plain _ _ _ (by kernel_rfl)] at h
  obtain ⟨ps, ⟨_, _, _, _, _, _, _, _, _, _, ⟨_, _, _, _, _, _, _, _, _, _, ⟨g, t, cs, f, p, q, hg, ht, hv, hd, _, _⟩, _⟩, _⟩, _, _⟩ := h
  have e0 : some g = some 0 := hg.symm.trans (by kernel_rfl)
  obtain rfl := Option.some.inj e0
  obtain rfl := Option.some.inj (tTab.symm.trans ht)
  have e := tab_cells hd
  unfold World.var? at hv
  rw [hg] at hv
  simp only [Option.bind_some] at hv
  split at hv
  · rename_i cs' t' fz hw
    simp only [Option.some.injEq] at hv
    subst hv
    refine ⟨t', fz, ?_⟩
    rw [hw]
    have e1 : cs' = tab := by
      apply Array.ext'
      rw [e]
      rfl
    rw [e1]
  · cases hv
theorem glob_of {W : World} (h : laidMetH Tryz.prog laidL W) : Glob (allI W) W := by
  obtain ⟨t, fz, hw⟩ := block_of h
  intro x hx
  unfold gcells at hx
  obtain ⟨i, hi, rfl⟩ := List.mem_map.1 hx
  refine ⟨(Array.getElem?_eq_some_iff.1 hw).1, ?_⟩
  show World.cell? W ⟨0, i, none⟩ = _
  unfold World.cell?
  rw [hw]
  show tab[i]? = _
  rw [bltD]
  by_cases h20 : i < 20
  · rw [tab_get i h20, decide_eq_true h20]; rfl
  · rw [decide_eq_false h20, Array.getElem?_eq_none (by rw [tab_size]; omega)]; rfl
theorem door_met (os : Os) (args : Array Value) : laidMetH Tryz.prog laidL ((World.doorLaid Tryz.prog 400 os).forCall (fun _ _ => 0) ⟨#[], args, []⟩).memory :=
  laidMetH_of_parts3 (fuel := 8) (laidMet_of_run' 8 (by kernel_rfl) (by kernel_rfl)) (by kernel_rfl) (by kernel_rfl)
end Go.Proofs.YtmnfibmlhmeheaaGreatDoor.ito
namespace Go.Proofs.YtmnfibmlhmeheaaGreatDoor.se
open Go.RowKit Go.Eb
theorem ev133_t (s : ByteArray) : Aal Tryz.prog (Orc.cons 85 (inl Tryz.prog Orc.nil na 20 Tryz.f85) Orc.nil) na 20 Tryz.f136 (Aad Tryz.f136) [vS s] [] =
 (bif ByteArray.toList (⟨#[116, 114, 117, 101]⟩) == ByteArray.toList s then some (T.leaf (AV.c (.d (.v (.bool true))), []))
 else (bif ByteArray.toList (⟨#[102, 97, 108, 115, 101]⟩) == ByteArray.toList s then some (T.leaf (AV.c (C.d (D.v
 (Value.bool true))), [])) else (bif ByteArray.toList (⟨#[110, 111, 116]⟩) == ByteArray.toList s then some (T.leaf (AV.c (C.d (D.v
 (Value.bool true))), [])) else (bif ByteArray.toList (⟨#[97, 110, 100]⟩) == ByteArray.toList s then some (T.leaf (AV.c (C.d (D.v (Value.bool
 true))), [])) else (bif ByteArray.toList (⟨#[111, 114]⟩) == ByteArray.toList s then some (T.leaf (AV.c (.d (.v (.bool true))), [])) else (bif
 ByteArray.toList (⟨#[120, 111, 114]⟩) == ByteArray.toList s then some (T.leaf (AV.c (.d (.v (.bool true))), [])) else (bif
 ByteArray.toList (⟨#[109, 105, 110]⟩) == ByteArray.toList s then some (T.leaf (AV.c (.d (.v (.bool true))), [])) else (bif
 ByteArray.toList (⟨#[109, 97, 120]⟩) == ByteArray.toList s then some (T.leaf (AV.c (.d (.v (.bool true))), [])) else (bif
 ByteArray.toList (⟨#[97, 98, 115]⟩) == ByteArray.toList s then some (T.leaf (AV.c (.d (.v (.bool true))), [])) else (bif
 ByteArray.toList (⟨#[105, 102]⟩) == ByteArray.toList s then some (T.leaf (AV.c (.d (.v (.bool true))), [])) else (bif ByteArray.toList
 (⟨#[114, 105, 115, 101]⟩) == ByteArray.toList s then some (T.leaf (AV.c (.d (.v (.bool true))), [])) else (bif
 ByteArray.toList (⟨#[102, 97, 108, 108]⟩) == ByteArray.toList s then some (T.leaf (AV.c (.d (.v (.bool true))), [])) else
 (bif ByteArray.toList (⟨#[100, 101, 108, 97, 121]⟩) == ByteArray.toList s then some (T.leaf (AV.c (C.d (D.v (Value.bool
 true))), [])) else (bif ByteArray.toList (⟨#[104, 111, 108, 100]⟩) == ByteArray.toList s then some (T.leaf (AV.c (C.d (D.v
 (Value.bool true))), [])) else (bif ByteArray.toList (⟨#[108, 97, 116, 99, 104]⟩) == ByteArray.toList s then some
 (T.leaf (AV.c (.d (.v (.bool true))), [])) else (bif ByteArray.toList (⟨#[99, 111, 117, 110, 116]⟩) ==
 ByteArray.toList s then some (T.leaf (AV.c (.d (.v (.bool true))), [])) else some (T.leaf (AV.c (.d (.v (.bool false))), [])))))))))))))))))) := by kernel_rfl
noncomputable def ev133_v (s : ByteArray) : Bool :=
 (bif ByteArray.toList (ByteArray.mk #[(116 : UInt8), (114 : UInt8), (117 : UInt8), (101 : UInt8)]) == ByteArray.toList s then (true) else (bif ByteArray.toList (ByteArray.mk #[(102
 : UInt8), (97 : UInt8), (108 : UInt8), (115 : UInt8), (101 : UInt8)]) == ByteArray.toList s then (true) else (bif ByteArray.toList (ByteArray.mk #[(110 : UInt8), (111 : UInt8), (116
 : UInt8)]) == ByteArray.toList s then (true) else (bif ByteArray.toList (ByteArray.mk #[(97 : UInt8), (110 : UInt8), (100 : UInt8)]) == ByteArray.toList s then (true) else (bif
 ByteArray.toList (ByteArray.mk #[(111 : UInt8), (114 : UInt8)]) == ByteArray.toList s then (true) else (bif ByteArray.toList (ByteArray.mk #[(120 : UInt8), (111 : UInt8), (114 :
 UInt8)]) == ByteArray.toList s then (true) else (bif ByteArray.toList (ByteArray.mk #[(109 : UInt8), (105 : UInt8), (110 : UInt8)]) == ByteArray.toList s then (true) else (bif
 ByteArray.toList (ByteArray.mk #[(109 : UInt8), (97 : UInt8), (120 : UInt8)]) == ByteArray.toList s then (true) else (bif ByteArray.toList (ByteArray.mk #[(97 : UInt8), (98 :
 UInt8), (115 : UInt8)]) == ByteArray.toList s then (true) else (bif ByteArray.toList (ByteArray.mk #[(105 : UInt8), (102 : UInt8)]) == ByteArray.toList s then (true) else (bif
 ByteArray.toList (ByteArray.mk #[(114 : UInt8), (105 : UInt8), (115 : UInt8), (101 : UInt8)]) == ByteArray.toList s then (true) else (bif ByteArray.toList (ByteArray.mk #[(102 :
 UInt8), (97 : UInt8), (108 : UInt8), (108 : UInt8)]) == ByteArray.toList s then (true) else (bif ByteArray.toList (ByteArray.mk #[(100 : UInt8), (101 : UInt8), (108 : UInt8), (97 :
 UInt8), (121 : UInt8)]) == ByteArray.toList s then (true) else (bif ByteArray.toList (ByteArray.mk #[(104 : UInt8), (111 : UInt8), (108 : UInt8), (100 : UInt8)]) == ByteArray.toList
 s then (true) else (bif ByteArray.toList (ByteArray.mk #[(108 : UInt8), (97 : UInt8), (116 : UInt8), (99 : UInt8), (104 : UInt8)]) == ByteArray.toList s then (true) else (bif
 ByteArray.toList (ByteArray.mk #[(99 : UInt8), (111 : UInt8), (117 : UInt8), (110 : UInt8), (116 : UInt8)]) == ByteArray.toList s then (true) else (false)))))))))))))))))
theorem ev133 (s : ByteArray) : Aal Tryz.prog (Orc.cons 85 (inl Tryz.prog Orc.nil na 20 Tryz.f85) Orc.nil) na 20 Tryz.f136 (Aad Tryz.f136) [vS s] [] = some (.leaf (vB (ev133_v s), [])) := by
  rw [ev133_t]
  unfold ev133_v
  simp only [bLeaf]
noncomputable def ann91 : Ann := annOf [(4, ⟨[1, 3], []⟩)]
noncomputable def L91_4 (r : SRel) (g m : Nat) (i3 : Int) := LK Tryz.prog Orc.nil ann91 0 g Tryz.f96 4 m ⟨frm [(1, .c (.ptr 0 0)), (3, .c (.d (.v (.int .i64 i3))))] 0 Tryz.f96.ntmps, [(0, Blk.cells (List.map C.d (relC r)) 51)], 1⟩
theorem b91 : Tryz.f96.body = some (Aad Tryz.f96) := by kernel_rfl
theorem ev91 (r : SRel) (g : Nat) : Aal Tryz.prog Orc.nil ann91 g Tryz.f96 (Aad Tryz.f96) [aRel r] [] =
 (bif decide ((↑(List.length (SRel.rules r)) : Int) > (16 : Int)) then some (T.leaf (AV.c (.d (.v (.bool true))), [])) else (bif decide ((↑(List.length (SRel.sets r)) : Int) >
 (4 : Int)) then some (T.leaf (AV.c (.d (.v (.bool true))), [])) else (bif decide ((↑(List.length (SRel.pubs r)) : Int) > (4 : Int)) then some (T.leaf (AV.c (C.d (D.v
 (Value.bool true))), [])) else (bif decide ((↑(List.length (SRel.subs r)) : Int) > (24 : Int)) then some (T.leaf (AV.c (.d (.v (.bool true))), [])) else L91_4 r g g ((0 :
 Int)))))) := by kernel_rfl
theorem st91_4 (r : SRel) (g m : Nat) (i3 : Int) : L91_4 r g (m + 1) i3 =
 (bif decide (i3 < (↑(List.length (SRel.sets r)) : Int)) then (bif decide ((0 : Int) ≤ i3) && decide (i3 < (↑(List.length (SRel.sets r)) : Int)) then (bif decide ((↑(List.length
 (SSet.sigs (List.getD (SRel.sets r) (Int.toNat i3) set0))) : Int) < (1 : Int)) then some (T.leaf (AV.c (.d (.v (.bool true))), [])) else (bif decide ((0 : Int) ≤ i3) &&
 decide (i3 < (↑(List.length (SRel.sets r)) : Int)) then (bif decide ((↑(List.length (SSet.sigs (List.getD (SRel.sets r) (Int.toNat i3) set0))) : Int) > (24 : Int)) then some (T.leaf
 (AV.c (.d (.v (.bool true))), [])) else L91_4 r g m (IntKind.wrap .i64 (i3 + (1 : Int)))) else none)) else none) else some (T.leaf (AV.c (C.d (D.v (Value.bool
 false))), []))) := by kernel_rfl
noncomputable def ann87 : Ann := annOf [(16, ⟨[5, 1, 8], []⟩)]
noncomputable def L87_16 (s : SSta) (b : List SRel) (r : SRel) (g m : Nat) (i8 : Int) := LK Tryz.prog Orc.nil ann87 0 g Tryz.f92 16 m ⟨frm [(1, .c (.d (Aac 53 relC rel0 b))), (5, .c (.ptr 0 0)), (8, .c (.d (.v (.int .i64 i8))))] 0 Tryz.f92.ntmps, [(0, Blk.cells (List.map C.d (relC r)) 51)], 1⟩
theorem b87 : Tryz.f92.body = some (Aad Tryz.f92) := by kernel_rfl
theorem ev87 (s : SSta) (b : List SRel) (r : SRel) (g : Nat) : Aal Tryz.prog Orc.nil ann87 g Tryz.f92 (Aad Tryz.f92) [aSta s, .c (.d (relsD b)), aRel r] [] =
 (bif SRel.kind r == (1 : Int) then (bif decide (SRel.bay r < (0 : Int)) then some (T.leaf (AV.c (.d (.v (.int .i64 (9 : Int)))), [])) else (bif decide (SRel.bay r ≥
 (↑(List.length (SSta.bays s)) : Int)) then some (T.leaf (AV.c (.d (.v (.int .i64 (9 : Int)))), [])) else (bif decide ((0 : Int) ≤ SRel.bay r) && decide (SRel.bay r <
 (↑(List.length (SSta.bays s)) : Int)) then (bif SBay.kind (List.getD (SSta.bays s) (Int.toNat (SRel.bay r)) bay0) != (1 : Int) then some (T.leaf (AV.c (C.d (D.v (Value.int
 IntKind.i64 (9 : Int)))), [])) else L87_16 s b r g g ((0 : Int))) else none))) else (bif SRel.kind r == (2 : Int) then (bif decide (SRel.bay r < (0 : Int)) then some (T.leaf (AV.c
 (C.d (.v (.int .i64 (9 : Int)))), [])) else (bif decide (SRel.bay r ≥ (↑(List.length (SSta.bays s)) : Int)) then some (T.leaf (AV.c (.d (.v (.int .i64 (9
 : Int)))), [])) else (bif decide ((0 : Int) ≤ SRel.bay r) && decide (SRel.bay r < (↑(List.length (SSta.bays s)) : Int)) then (bif SBay.kind (List.getD (SSta.bays s) (Int.toNat
 (SRel.bay r)) bay0) != (2 : Int) then some (T.leaf (AV.c (.d (.v (.int .i64 (9 : Int)))), [])) else L87_16 s b r g g ((0 : Int))) else none))) else (bif SRel.kind r ==
 (3 : Int) then (bif decide (SRel.bay r < (0 : Int)) then some (T.leaf (AV.c (.d (.v (.int .i64 (9 : Int)))), [])) else (bif decide (SRel.bay r ≥ (↑(List.length
 (SSta.bays s)) : Int)) then some (T.leaf (AV.c (.d (.v (.int .i64 (9 : Int)))), [])) else (bif decide ((0 : Int) ≤ SRel.bay r) && decide (SRel.bay r < (↑(List.length
 (SSta.bays s)) : Int)) then (bif SBay.kind (List.getD (SSta.bays s) (Int.toNat (SRel.bay r)) bay0) != (3 : Int) then some (T.leaf (AV.c (.d (.v (.int .i64 (9 :
 Int)))), [])) else L87_16 s b r g g ((0 : Int))) else none))) else (bif SRel.kind r == (4 : Int) then (bif SRel.bay r != (-1 : Int) then some (T.leaf (AV.c (C.d (D.v (Value.int
 IntKind.i64 (9 : Int)))), [])) else L87_16 s b r g g ((0 : Int))) else some (T.leaf (AV.c (.d (.v (.int .i64 (10 : Int)))), [])))))) := by kernel_rfl
theorem st87_16 (s : SSta) (b : List SRel) (r : SRel) (g m : Nat) (i8 : Int) : L87_16 s b r g (m + 1) i8 =
 (bif decide (i8 < (↑(List.length b) : Int)) then (bif decide ((0 : Int) ≤ i8) && decide (i8 < (↑(List.length b) : Int)) then (bif SRel.bay (List.getD b (Int.toNat i8) rel0) ==
 SRel.bay r then some (T.leaf (AV.c (.d (.v (.int .i64 (12 : Int)))), [])) else L87_16 s b r g m (IntKind.wrap .i64 (i8 + (1 : Int)))) else none) else some
 (T.leaf (AV.c (.d (.v (.int .i64 (0 : Int)))), []))) := by kernel_rfl
noncomputable def oIx (oki : List AV → Bool) (ix : List AV → Int) (r : Orc) : Orc := Orc.cons 85 (ansL oki fun x => vI (ix x)) r
noncomputable def o92 (nk rv : ByteArray → Bool) (oki : List AV → Bool) (ix : List AV → Int) : Orc := oIx oki ix (Orc.cons 31 (ansP decS fun s => vB (nk s)) (Orc.cons 136 (ansP decS fun s => vB (rv s)) Orc.nil))
noncomputable def ann92 : Ann := annOf [(3, ⟨[1, 4, 3], [(3, 0, 1, 9)]⟩), (13, ⟨[5, 1, 4, 3, 6], []⟩)]
noncomputable def L92_3 (nk rv : ByteArray → Bool) (oki : List AV → Bool) (ix : List AV → Int) (r : SRel) (g m : Nat) (n1 : Nat) (f1 : Nat → List D) (i4 : Int) := LK Tryz.prog (o92 nk rv oki ix) ann92 0 g Tryz.f97 3 m ⟨frm [(1, .c (.ptr 0 0)), (3, .c (.row 1 1 n1)), (4, .c (.d (.v (.int .i64 i4))))] 0 Tryz.f97.ntmps, [(0, Blk.cells (List.map C.d (relC r)) 51), (1, Blk.row n1 f1 1 9)], 2⟩
noncomputable def L92_13 (nk rv : ByteArray → Bool) (oki : List AV → Bool) (ix : List AV → Int) (r : SRel) (g mo m : Nat) (n1 : Nat) (f1 : Nat → List D) (i4 : Int) (i6 : Int) := LK2 Tryz.prog (o92 nk rv oki ix) ann92 0 g Tryz.f97 3 mo 13 m ⟨frm [(1, .c (.ptr 0 0)), (3, .c (.row 1 1 n1)), (4, .c (.d (.v (.int .i64 i4)))), (5, .c (.ptr 2 0)), (6, .c (.d (.v (.int .i64 i6))))] 0 Tryz.f97.ntmps, [(0, Blk.cells (List.map C.d (relC r)) 51), (1, Blk.row n1 f1 1 9), (2, Blk.cells (List.map C.d (ruleC (List.getD (SRel.rules r) (Int.toNat i4) rule0))) 107)], 3⟩
theorem b92 : Tryz.f97.body = some (Aad Tryz.f97) := by kernel_rfl
theorem ev92 (nk rv : ByteArray → Bool) (oki : List AV → Bool) (ix : List AV → Int) (r : SRel) (g : Nat) : Aal Tryz.prog (o92 nk rv oki ix) ann92 g Tryz.f97 (Aad Tryz.f97) [aRel r] [] =
 L92_3 nk rv oki ix r g g 0 (fun x => []) ((0 : Int)) := by kernel_rfl
theorem st92_3 (nk rv : ByteArray → Bool) (oki : List AV → Bool) (ix : List AV → Int) (r : SRel) (g m : Nat) (n1 : Nat) (f1 : Nat → List D) (i4 : Int) : L92_3 nk rv oki ix r g (m + 1) n1 f1 i4 =
 (bif decide (i4 < (↑(List.length (SRel.rules r)) : Int)) then (bif decide ((0 : Int) ≤ i4) && decide (i4 < (↑(List.length (SRel.rules r)) : Int)) then (bif !nk (SRule.name
 (List.getD (SRel.rules r) (Int.toNat i4) rule0)) then some (T.leaf (AV.c (.d (.v (.int .i64 (7 : Int)))), [])) else (bif rv (SRule.name (List.getD (SRel.rules r)
 (Int.toNat i4) rule0)) then some (T.leaf (AV.c (.d (.v (.int .i64 (7 : Int)))), [])) else (bif oki [AV.c (C.d (D.sl (1) n1 f1)), AV.c (C.d (D.v (Value.string
 (SRule.name (List.getD (SRel.rules r) (Int.toNat i4) rule0)))))] then (bif decide (ix [AV.c (C.d (D.sl (1) n1 f1)), AV.c (.d (.v (.string (SRule.name (List.getD
 (SRel.rules r) (Int.toNat i4) rule0)))))] ≥ (0 : Int)) then some (T.leaf (AV.c (.d (.v (.int .i64 (8 : Int)))), [])) else (bif decide ((↑(ByteArray.size (SRule.text
 (List.getD (SRel.rules r) (Int.toNat i4) rule0))) : Int) > (120 : Int)) then some (T.leaf (AV.c (.d (.v (.int .i64 (4 : Int)))), [])) else L92_13 nk rv oki ix r g m g
 n1 f1 i4 ((0 : Int)))) else none))) else none) else some (T.leaf (AV.c (.d (.v (.int .i64 (0 : Int)))), []))) := by kernel_rfl
theorem st92_13 (nk rv : ByteArray → Bool) (oki : List AV → Bool) (ix : List AV → Int) (r : SRel) (g mo m : Nat) (n1 : Nat) (f1 : Nat → List D) (i4 : Int) (i6 : Int) : L92_13 nk rv oki ix r g mo (m + 1) n1 f1 i4 i6 =
 (bif decide (i6 < (↑(ByteArray.size (SRule.text (List.getD (SRel.rules r) (Int.toNat i4) rule0))) : Int)) then (bif decide ((0 : Int) ≤ i6) && decide (i6 < (↑(ByteArray.size
 (SRule.text (List.getD (SRel.rules r) (Int.toNat i4) rule0))) : Int)) then (bif decide ((↑(UInt8.toNat (List.getD (Array.toList (ByteArray.data (SRule.text (List.getD (SRel.rules r)
 (Int.toNat i4) rule0)))) (Int.toNat i6) 0)) : Int) < (32 : Int)) then some (T.leaf (AV.c (.d (.v (.int .i64 (5 : Int)))), [])) else (bif decide ((0 : Int) ≤
 i6) && decide (i6 < (↑(ByteArray.size (SRule.text (List.getD (SRel.rules r) (Int.toNat i4) rule0))) : Int)) then (bif decide ((↑(UInt8.toNat (List.getD (Array.toList (ByteArray.data
 (SRule.text (List.getD (SRel.rules r) (Int.toNat i4) rule0)))) (Int.toNat i6) 0)) : Int) > (126 : Int)) then some (T.leaf (AV.c (.d (.v (.int .i64 (5 :
 Int)))), [])) else (bif decide ((0 : Int) ≤ i6) && decide (i6 < (↑(ByteArray.size (SRule.text (List.getD (SRel.rules r) (Int.toNat i4) rule0))) : Int)) then (bif (↑(UInt8.toNat
 (List.getD (Array.toList (ByteArray.data (SRule.text (List.getD (SRel.rules r) (Int.toNat i4) rule0)))) (Int.toNat i6) 0)) : Int) == (34 : Int) then some (T.leaf (AV.c
 (C.d (.v (.int .i64 (5 : Int)))), [])) else L92_13 nk rv oki ix r g mo m n1 f1 i4 (IntKind.wrap .i64 (i6 + (1 : Int)))) else none)) else none)) else none) else
 (bif decide ((n1 + 1) * 16 ≤ 140737488355328) && decide (n1 + 1 ≤ 9223372036854775807) then L92_3 nk rv oki ix r g mo (n1 + 1) (appF
 n1 f1 (Aaf [dS (SRule.name (List.getD (SRel.rules r) (Int.toNat i4) rule0))] (0 + 1))) (IntKind.wrap .i64 (i4 + (1 : Int))) else none)) := by kernel_rfl
noncomputable def o93 (nk : ByteArray → Bool) (oki : List AV → Bool) (ix : List AV → Int) : Orc := oIx oki ix (Orc.cons 31 (ansP decS fun s => vB (nk s)) (Orc.cons 134 (ansP dec3 fun a => vB (Aaa a.1 a.2.1 a.2.2)) Orc.nil))
noncomputable def ann93 : Ann := annOf [(3, ⟨[1, 4, 3], [(3, 0, 1, 9)]⟩), (9, ⟨[5, 1, 4, 3, 6], []⟩), (18, ⟨[1, 7, 3], [(3, 0, 1, 9)]⟩), (30, ⟨[1, 9, 3], [(3, 0, 1, 9)]⟩)]
noncomputable def L93_3 (nk : ByteArray → Bool) (oki : List AV → Bool) (ix : List AV → Int) (r : SRel) (g m : Nat) (n1 : Nat) (f1 : Nat → List D) (i4 : Int) := LK Tryz.prog (o93 nk oki ix) ann93 0 g Tryz.f98 3 m ⟨frm [(1, .c (.ptr 0 0)), (3, .c (.row 1 1 n1)), (4, .c (.d (.v (.int .i64 i4))))] 0 Tryz.f98.ntmps, [(0, Blk.cells (List.map C.d (relC r)) 51), (1, Blk.row n1 f1 1 9)], 2⟩
noncomputable def L93_9 (nk : ByteArray → Bool) (oki : List AV → Bool) (ix : List AV → Int) (r : SRel) (g mo m : Nat) (n1 : Nat) (f1 : Nat → List D) (i4 : Int) (i6 : Int) := LK2 Tryz.prog (o93 nk oki ix) ann93 0 g Tryz.f98 3 mo 9 m ⟨frm [(1, .c (.ptr 0 0)), (3, .c (.row 1 1 n1)), (4, .c (.d (.v (.int .i64 i4)))), (5, .c (.ptr 2 0)), (6, .c (.d (.v (.int .i64 i6))))] 0 Tryz.f98.ntmps, [(0, Blk.cells (List.map C.d (relC r)) 51), (1, Blk.row n1 f1 1 9), (2, Blk.cells (List.map C.d (setC (List.getD (SRel.sets r) (Int.toNat i4) set0))) 105)], 3⟩
noncomputable def L93_18 (nk : ByteArray → Bool) (oki : List AV → Bool) (ix : List AV → Int) (r : SRel) (g m : Nat) (n1 : Nat) (f1 : Nat → List D) (i7 : Int) := LK Tryz.prog (o93 nk oki ix) ann93 0 g Tryz.f98 18 m ⟨frm [(1, .c (.ptr 0 0)), (3, .c (.row 1 1 n1)), (7, .c (.d (.v (.int .i64 i7))))] 0 Tryz.f98.ntmps, [(0, Blk.cells (List.map C.d (relC r)) 51), (1, Blk.row n1 f1 1 9)], 2⟩
noncomputable def L93_30 (nk : ByteArray → Bool) (oki : List AV → Bool) (ix : List AV → Int) (r : SRel) (g m : Nat) (n1 : Nat) (f1 : Nat → List D) (i9 : Int) := LK Tryz.prog (o93 nk oki ix) ann93 0 g Tryz.f98 30 m ⟨frm [(1, .c (.ptr 0 0)), (3, .c (.row 1 1 n1)), (9, .c (.d (.v (.int .i64 i9))))] 0 Tryz.f98.ntmps, [(0, Blk.cells (List.map C.d (relC r)) 51), (1, Blk.row n1 f1 1 9)], 2⟩
theorem b93 : Tryz.f98.body = some (Aad Tryz.f98) := by kernel_rfl
theorem ev93 (nk : ByteArray → Bool) (oki : List AV → Bool) (ix : List AV → Int) (r : SRel) (g : Nat) : Aal Tryz.prog (o93 nk oki ix) ann93 g Tryz.f98 (Aad Tryz.f98) [aRel r] [] =
 L93_3 nk oki ix r g g 0 (fun x => []) ((0 : Int)) := by kernel_rfl
theorem st93_3 (nk : ByteArray → Bool) (oki : List AV → Bool) (ix : List AV → Int) (r : SRel) (g m : Nat) (n1 : Nat) (f1 : Nat → List D) (i4 : Int) : L93_3 nk oki ix r g (m + 1) n1 f1 i4 =
 (bif decide (i4 < (↑(List.length (SRel.sets r)) : Int)) then (bif decide ((0 : Int) ≤ i4) && decide (i4 < (↑(List.length (SRel.sets r)) : Int)) then (bif !nk (SSet.name (List.getD
 (SRel.sets r) (Int.toNat i4) set0)) then some (T.leaf (AV.c (.d (.v (.int .i64 (7 : Int)))), [])) else L93_9 nk oki ix r g m g n1 f1 i4 ((0 : Int))) else none) else
 L93_18 nk oki ix r g g 0 (fun x => []) ((0 : Int))) := by kernel_rfl
theorem st93_9 (nk : ByteArray → Bool) (oki : List AV → Bool) (ix : List AV → Int) (r : SRel) (g mo m : Nat) (n1 : Nat) (f1 : Nat → List D) (i4 : Int) (i6 : Int) : L93_9 nk oki ix r g mo (m + 1) n1 f1 i4 i6 =
 (bif decide (i6 < (↑(List.length (SSet.sigs (List.getD (SRel.sets r) (Int.toNat i4) set0))) : Int)) then (bif decide ((0 : Int) ≤ i6) && decide (i6 < (↑(List.length (SSet.sigs
 (List.getD (SRel.sets r) (Int.toNat i4) set0))) : Int)) then (bif !nk (List.getD (SSet.sigs (List.getD (SRel.sets r) (Int.toNat i4) set0)) (Int.toNat i6) e0) then some (T.leaf (AV.c
 (C.d (.v (.int .i64 (7 : Int)))), [])) else L93_9 nk oki ix r g mo m n1 f1 i4 (IntKind.wrap .i64 (i6 + (1 : Int)))) else none) else (bif oki [AV.c (C.d (D.sl ((1
 : Nat)) n1 f1)), AV.c (.d (.v (.string (SSet.name (List.getD (SRel.sets r) (Int.toNat i4) set0)))))] then (bif decide (ix [AV.c (C.d (D.sl (1) n1 f1)), AV.c (C.d (D.v
 (Value.string (SSet.name (List.getD (SRel.sets r) (Int.toNat i4) set0)))))] ≥ (0 : Int)) then some (T.leaf (AV.c (.d (.v (.int .i64 (8 : Int)))), [])) else (bif decide
 ((n1 + 1) * 16 ≤ 140737488355328) && decide (n1 + 1 ≤ 9223372036854775807) then L93_3 nk oki ix r g mo (n1 + 1) (appF n1 f1 (Aaf
 [dS (SSet.name (List.getD (SRel.sets r) (Int.toNat i4) set0))] (0 + 1))) (IntKind.wrap .i64 (i4 + (1 : Int))) else none)) else none)) := by kernel_rfl
theorem st93_18 (nk : ByteArray → Bool) (oki : List AV → Bool) (ix : List AV → Int) (r : SRel) (g m : Nat) (n1 : Nat) (f1 : Nat → List D) (i7 : Int) : L93_18 nk oki ix r g (m + 1) n1 f1 i7 =
 (bif decide (i7 < (↑(List.length (SRel.pubs r)) : Int)) then (bif decide ((0 : Int) ≤ i7) && decide (i7 < (↑(List.length (SRel.pubs r)) : Int)) then (bif !nk (SPub.set (List.getD
 (SRel.pubs r) (Int.toNat i7) pub0)) then some (T.leaf (AV.c (.d (.v (.int .i64 (7 : Int)))), [])) else (bif oki [AV.c (C.d (D.sl (1) n1 f1)), AV.c (C.d (D.v
 (Value.string (SPub.set (List.getD (SRel.pubs r) (Int.toNat i7) pub0)))))] then (bif decide (ix [AV.c (C.d (D.sl (1) n1 f1)), AV.c (.d (.v (.string (SPub.set
 (List.getD (SRel.pubs r) (Int.toNat i7) pub0)))))] ≥ (0 : Int)) then some (T.leaf (AV.c (.d (.v (.int .i64 (8 : Int)))), [])) else (bif !Aaa (SPub.fst (List.getD
 (SRel.pubs r) (Int.toNat i7) pub0)) (1 : Int) (100 : Int) then some (T.leaf (AV.c (.d (.v (.int .i64 (2 : Int)))), [])) else (bif !Aaa (SPub.max (List.getD
 (SRel.pubs r) (Int.toNat i7) pub0)) (SPub.fst (List.getD (SRel.pubs r) (Int.toNat i7) pub0)) (1000 : Int) then some (T.leaf (AV.c (.d (.v (.int .i64 (2 : Int)))), []))
 else (bif decide ((n1 + 1) * 16 ≤ 140737488355328) && decide (n1 + 1 ≤ 9223372036854775807) then L93_18 nk oki ix r g m (n1 + 1)
 (appF n1 f1 (Aaf [dS (SPub.set (List.getD (SRel.pubs r) (Int.toNat i7) pub0))] (0 + 1))) (IntKind.wrap .i64 (i7 + (1 : Int))) else none)))) else none)) else
 none) else L93_30 nk oki ix r g g 0 (fun x => []) ((0 : Int))) := by kernel_rfl
theorem st93_30 (nk : ByteArray → Bool) (oki : List AV → Bool) (ix : List AV → Int) (r : SRel) (g m : Nat) (n1 : Nat) (f1 : Nat → List D) (i9 : Int) : L93_30 nk oki ix r g (m + 1) n1 f1 i9 =
 (bif decide (i9 < (↑(List.length (SRel.subs r)) : Int)) then (bif decide ((0 : Int) ≤ i9) && decide (i9 < (↑(List.length (SRel.subs r)) : Int)) then (bif !nk (SSub.loc (List.getD
 (SRel.subs r) (Int.toNat i9) sub0)) then some (T.leaf (AV.c (.d (.v (.int .i64 (7 : Int)))), [])) else (bif !nk (SSub.dev (List.getD (SRel.subs r) (Int.toNat i9)
 sub0)) then some (T.leaf (AV.c (.d (.v (.int .i64 (7 : Int)))), [])) else (bif !nk (SSub.set (List.getD (SRel.subs r) (Int.toNat i9) sub0)) then some (T.leaf (AV.c
 (C.d (.v (.int .i64 (7 : Int)))), [])) else (bif !nk (SSub.sig (List.getD (SRel.subs r) (Int.toNat i9) sub0)) then some (T.leaf (AV.c (C.d (D.v (Value.int IntKind.i64
 (7 : Int)))), [])) else (bif oki [AV.c (C.d (D.sl (1) n1 f1)), AV.c (.d (.v (.string (SSub.loc (List.getD (SRel.subs r) (Int.toNat i9) sub0)))))] then (bif decide (ix
 [AV.c (C.d (D.sl (1) n1 f1)), AV.c (.d (.v (.string (SSub.loc (List.getD (SRel.subs r) (Int.toNat i9) sub0)))))] ≥ (0 : Int)) then some (T.leaf (AV.c (C.d (D.v
 (Value.int IntKind.i64 (8 : Int)))), [])) else (bif decide ((n1 + 1) * 16 ≤ 140737488355328) && decide (n1 + 1 ≤ 9223372036854775807) then
 L93_30 nk oki ix r g m (n1 + 1) (appF n1 f1 (Aaf [dS (SSub.loc (List.getD (SRel.subs r) (Int.toNat i9) sub0))] (0 + 1))) (IntKind.wrap .i64 (i9 + (1
 : Int))) else none)) else none))))) else none) else some (T.leaf (AV.c (.d (.v (.int .i64 (0 : Int)))), []))) := by kernel_rfl
end Go.Proofs.YtmnfibmlhmeheaaGreatDoor.se
namespace Go.Proofs.YtmnfibmlhmeheaaGreatDoor.se
open Go.RowKit Go.Eb
noncomputable def oB3 : Orc := Orc.cons 134 (ansP dec3 fun a => vB (Aaa a.1 a.2.1 a.2.2)) Orc.nil
noncomputable def oNu (okr zo : List AV → Bool) : Orc := Orc.cons 133 (ansG okr fun x => vB (zo x)) (Orc.cons 135 (ansP decE fun a => vB (elOk a.1 a.2.1 a.2.2.1 a.2.2.2)) oB3)
theorem evBt_t (a b c : Int) : Aal Tryz.prog Orc.nil na 5 Tryz.f134 (Aad Tryz.f134) [vI a, vI b, vI c] [] =
 (bif decide (a ≥ b) then some (T.leaf (AV.c (.d (.v (.bool (decide (a ≤ c))))), [])) else some (T.leaf (AV.c (.d (.v (.bool false))), []))) := by kernel_rfl
noncomputable def evBt_v (a b c : Int) : Bool :=
 (bif decide (a ≥ b) then ((decide (a ≤ c))) else (false))
theorem evBt (a b c : Int) : Aal Tryz.prog Orc.nil na 5 Tryz.f134 (Aad Tryz.f134) [vI a, vI b, vI c] [] = some (.leaf (vB (evBt_v a b c), [])) := by
  rw [evBt_t]
  unfold evBt_v
  simp only [bLeaf]
theorem evEm_t (o : Bool) (a b c : Int) : Aal Tryz.prog oB3 na 5 Tryz.f135 (Aad Tryz.f135) [.agg [.d (dB o), .d (dI a), .d (dI b)], vI c] [] =
 (bif !o then some (T.leaf (AV.c (.d (.v (.bool (o == false && (a == (0 : Int) && (b == (0 : Int) && true)))))), [])) else (bif Aaa a (1 : Int) (16383 : Int) then some
 (T.leaf (AV.c (.d (.v (.bool (Aaa b c (500 : Int))))), [])) else some (T.leaf (AV.c (.d (.v (.bool false))), [])))) := by kernel_rfl
noncomputable def evEm_v (o : Bool) (a b c : Int) : Bool :=
 (bif !o then ((o == false && (a == (0 : Int) && (b == (0 : Int) && true)))) else (bif Aaa a (1 : Int) (16383 : Int) then ((Aaa b c (500 : Int))) else (false)))
theorem evEm (o : Bool) (a b c : Int) : Aal Tryz.prog oB3 na 5 Tryz.f135 (Aad Tryz.f135) [.agg [.d (dB o), .d (dI a), .d (dI b)], vI c] [] = some (.leaf (vB (evEm_v o a b c), [])) := by
  rw [evEm_t]
  unfold evEm_v
  simp only [bLeaf]
theorem ev88_t (r : SRel) : Aal Tryz.prog oB3 na 5 Tryz.f93 (Aad Tryz.f93) [aRel r] [] =
 (bif !SRel.kind r == (1 : Int) then (bif !(SRel.zon0 r == false && (SRel.zfw0 r == false && (SRel.zx0 r == (0 : Int) && (SRel.zr0 r == (0 : Int) && (SRel.zl0 r == (0 : Int) &&
 (SRel.zd0 r == (0 : Int) && true))))) && (SRel.zon1 r == false && (SRel.zfw1 r == false && (SRel.zx1 r == (0 : Int) && (SRel.zr1 r == (0 : Int) && (SRel.zl1 r == (0 : Int) &&
 (SRel.zd1 r == (0 : Int) && true))))) && (SRel.zon2 r == false && (SRel.zfw2 r == false && (SRel.zx2 r == (0 : Int) && (SRel.zr2 r == (0 : Int) && (SRel.zl2 r == (0 : Int) &&
 (SRel.zd2 r == (0 : Int) && true))))) && true))) then some (T.leaf (AV.c (.d (.v (.bool true))), [])) else (bif SRel.min r != (0 : Int) then some (T.leaf (AV.c (C.d (D.v
 (Value.bool true))), [])) else (bif SRel.kre r != (0 : Int) then some (T.leaf (AV.c (.d (.v (.bool true))), [])) else (bif SRel.kim r != (0 : Int) then some (T.leaf (AV.c
 (C.d (.v (.bool true))), [])) else (bif SRel.scheme r != (0 : Int) then some (T.leaf (AV.c (.d (.v (.bool true))), [])) else (bif SRel.wait r != (0 : Int) then some
 (T.leaf (AV.c (.d (.v (.bool true))), [])) else (bif SRel.guard r != (0 : Int) then some (T.leaf (AV.c (.d (.v (.bool true))), [])) else (bif SRel.shots r != (0 : Int)
 then some (T.leaf (AV.c (.d (.v (.bool true))), [])) else (bif SRel.dead r != (0 : Int) then some (T.leaf (AV.c (.d (.v (.bool true))), [])) else (bif SRel.reclaim r
 != (0 : Int) then some (T.leaf (AV.c (.d (.v (.bool true))), [])) else (bif !SRel.kind r == (2 : Int) then (bif !(SRel.uon r == false && (SRel.upk r == (0 : Int) && (SRel.udl
 r == (0 : Int) && true))) then some (T.leaf (AV.c (.d (.v (.bool true))), [])) else (bif !(SRel.oon r == false && (SRel.opk r == (0 : Int) && (SRel.odl r == (0 : Int) &&
 true))) then some (T.leaf (AV.c (.d (.v (.bool true))), [])) else (bif SRel.kind r == (4 : Int) then (bif !(SRel.don r == false && (SRel.dpk r == (0 : Int) && (SRel.ddl r ==
 (0 : Int) && true))) then some (T.leaf (AV.c (.d (.v (.bool true))), [])) else (bif !(SRel.ion r == false && (SRel.ipk r == (0 : Int) && (SRel.idl r == (0 : Int) && true)))
 then some (T.leaf (AV.c (.d (.v (.bool true))), [])) else (bif !(SRel.fon r == false && (SRel.fpk r == (0 : Int) && (SRel.fdl r == (0 : Int) && true))) then some (T.leaf
 (AV.c (.d (.v (.bool true))), [])) else (bif !SRel.kind r == (4 : Int) then (bif SRel.diff r != (0 : Int) then some (T.leaf (AV.c (.d (.v (.bool true))), [])) else
 (bif SRel.num r != (0 : Int) then some (T.leaf (AV.c (.d (.v (.bool true))), [])) else (bif SRel.den r != (0 : Int) then some (T.leaf (AV.c (.d (.v (.bool true))),
 [])) else some (T.leaf (AV.c (.d (.v (.bool (SRel.harm r != (0 : Int))))), []))))) else some (T.leaf (AV.c (.d (.v (.bool false))), [])))))) else (bif !SRel.kind r ==
 (4 : Int) then (bif SRel.diff r != (0 : Int) then some (T.leaf (AV.c (.d (.v (.bool true))), [])) else (bif SRel.num r != (0 : Int) then some (T.leaf (AV.c (C.d (D.v
 (Value.bool true))), [])) else (bif SRel.den r != (0 : Int) then some (T.leaf (AV.c (.d (.v (.bool true))), [])) else some (T.leaf (AV.c (.d (.v (.bool (SRel.harm r !=
 (0 : Int))))), []))))) else some (T.leaf (AV.c (.d (.v (.bool false))), [])))))) else (bif SRel.kind r == (4 : Int) then (bif !(SRel.don r == false && (SRel.dpk r == (0 :
 Int) && (SRel.ddl r == (0 : Int) && true))) then some (T.leaf (AV.c (.d (.v (.bool true))), [])) else (bif !(SRel.ion r == false && (SRel.ipk r == (0 : Int) && (SRel.idl r ==
 (0 : Int) && true))) then some (T.leaf (AV.c (.d (.v (.bool true))), [])) else (bif !(SRel.fon r == false && (SRel.fpk r == (0 : Int) && (SRel.fdl r == (0 : Int) && true)))
 then some (T.leaf (AV.c (.d (.v (.bool true))), [])) else (bif !SRel.kind r == (4 : Int) then (bif SRel.diff r != (0 : Int) then some (T.leaf (AV.c (C.d (D.v (Value.bool
 true))), [])) else (bif SRel.num r != (0 : Int) then some (T.leaf (AV.c (.d (.v (.bool true))), [])) else (bif SRel.den r != (0 : Int) then some (T.leaf (AV.c (C.d (D.v
 (Value.bool true))), [])) else some (T.leaf (AV.c (.d (.v (.bool (SRel.harm r != (0 : Int))))), []))))) else some (T.leaf (AV.c (.d (.v (.bool false))), [])))))) else
 (bif !SRel.kind r == (4 : Int) then (bif SRel.diff r != (0 : Int) then some (T.leaf (AV.c (.d (.v (.bool true))), [])) else (bif SRel.num r != (0 : Int) then some (T.leaf
 (AV.c (.d (.v (.bool true))), [])) else (bif SRel.den r != (0 : Int) then some (T.leaf (AV.c (.d (.v (.bool true))), [])) else some (T.leaf (AV.c (C.d (D.v (Value.bool
 (SRel.harm r != (0 : Int))))), []))))) else some (T.leaf (AV.c (.d (.v (.bool false))), []))))))))))))))) else (bif !SRel.kind r == (2 : Int) then (bif !(SRel.uon r == false
 && (SRel.upk r == (0 : Int) && (SRel.udl r == (0 : Int) && true))) then some (T.leaf (AV.c (.d (.v (.bool true))), [])) else (bif !(SRel.oon r == false && (SRel.opk r == (0 :
 Int) && (SRel.odl r == (0 : Int) && true))) then some (T.leaf (AV.c (.d (.v (.bool true))), [])) else (bif SRel.kind r == (4 : Int) then (bif !(SRel.don r == false &&
 (SRel.dpk r == (0 : Int) && (SRel.ddl r == (0 : Int) && true))) then some (T.leaf (AV.c (.d (.v (.bool true))), [])) else (bif !(SRel.ion r == false && (SRel.ipk r == (0 :
 Int) && (SRel.idl r == (0 : Int) && true))) then some (T.leaf (AV.c (.d (.v (.bool true))), [])) else (bif !(SRel.fon r == false && (SRel.fpk r == (0 : Int) && (SRel.fdl r ==
 (0 : Int) && true))) then some (T.leaf (AV.c (.d (.v (.bool true))), [])) else (bif !SRel.kind r == (4 : Int) then (bif SRel.diff r != (0 : Int) then some (T.leaf (AV.c (C.d
 (D.v (.bool true))), [])) else (bif SRel.num r != (0 : Int) then some (T.leaf (AV.c (.d (.v (.bool true))), [])) else (bif SRel.den r != (0 : Int) then some (T.leaf
 (AV.c (.d (.v (.bool true))), [])) else some (T.leaf (AV.c (.d (.v (.bool (SRel.harm r != (0 : Int))))), []))))) else some (T.leaf (AV.c (C.d (D.v (Value.bool
 false))), [])))))) else (bif !SRel.kind r == (4 : Int) then (bif SRel.diff r != (0 : Int) then some (T.leaf (AV.c (.d (.v (.bool true))), [])) else (bif SRel.num r != (0 :
 Int) then some (T.leaf (AV.c (.d (.v (.bool true))), [])) else (bif SRel.den r != (0 : Int) then some (T.leaf (AV.c (.d (.v (.bool true))), [])) else some (T.leaf
 (AV.c (.d (.v (.bool (SRel.harm r != (0 : Int))))), []))))) else some (T.leaf (AV.c (.d (.v (.bool false))), [])))))) else (bif SRel.kind r == (4 : Int) then (bif
 !(SRel.don r == false && (SRel.dpk r == (0 : Int) && (SRel.ddl r == (0 : Int) && true))) then some (T.leaf (AV.c (.d (.v (.bool true))), [])) else (bif !(SRel.ion r == false
 && (SRel.ipk r == (0 : Int) && (SRel.idl r == (0 : Int) && true))) then some (T.leaf (AV.c (.d (.v (.bool true))), [])) else (bif !(SRel.fon r == false && (SRel.fpk r == (0 :
 Int) && (SRel.fdl r == (0 : Int) && true))) then some (T.leaf (AV.c (.d (.v (.bool true))), [])) else (bif !SRel.kind r == (4 : Int) then (bif SRel.diff r != (0 : Int) then
 some (T.leaf (AV.c (.d (.v (.bool true))), [])) else (bif SRel.num r != (0 : Int) then some (T.leaf (AV.c (.d (.v (.bool true))), [])) else (bif SRel.den r != (0 :
 Int) then some (T.leaf (AV.c (.d (.v (.bool true))), [])) else some (T.leaf (AV.c (.d (.v (.bool (SRel.harm r != (0 : Int))))), []))))) else some (T.leaf (AV.c (C.d
 (D.v (.bool false))), [])))))) else (bif !SRel.kind r == (4 : Int) then (bif SRel.diff r != (0 : Int) then some (T.leaf (AV.c (.d (.v (.bool true))), [])) else (bif
 SRel.num r != (0 : Int) then some (T.leaf (AV.c (.d (.v (.bool true))), [])) else (bif SRel.den r != (0 : Int) then some (T.leaf (AV.c (.d (.v (.bool true))), []))
 else some (T.leaf (AV.c (.d (.v (.bool (SRel.harm r != (0 : Int))))), []))))) else some (T.leaf (AV.c (.d (.v (.bool false))), [])))))) := by kernel_rfl
noncomputable def ev88_v (r : SRel) : Bool :=
 (bif !SRel.kind r == (1 : Int) then (bif !(SRel.zon0 r == false && (SRel.zfw0 r == false && (SRel.zx0 r == (0 : Int) && (SRel.zr0 r == (0 : Int) && (SRel.zl0 r == (0 : Int) &&
 (SRel.zd0 r == (0 : Int) && true))))) && (SRel.zon1 r == false && (SRel.zfw1 r == false && (SRel.zx1 r == (0 : Int) && (SRel.zr1 r == (0 : Int) && (SRel.zl1 r == (0 : Int) &&
 (SRel.zd1 r == (0 : Int) && true))))) && (SRel.zon2 r == false && (SRel.zfw2 r == false && (SRel.zx2 r == (0 : Int) && (SRel.zr2 r == (0 : Int) && (SRel.zl2 r == (0 : Int) &&
 (SRel.zd2 r == (0 : Int) && true))))) && true))) then (true) else (bif SRel.min r != (0 : Int) then (true) else (bif SRel.kre r != (0 : Int) then (true) else (bif SRel.kim r != (0 :
 Int) then (true) else (bif SRel.scheme r != (0 : Int) then (true) else (bif SRel.wait r != (0 : Int) then (true) else (bif SRel.guard r != (0 : Int) then (true) else (bif SRel.shots
 r != (0 : Int) then (true) else (bif SRel.dead r != (0 : Int) then (true) else (bif SRel.reclaim r != (0 : Int) then (true) else (bif !SRel.kind r == (2 : Int) then (bif !(SRel.uon
 r == false && (SRel.upk r == (0 : Int) && (SRel.udl r == (0 : Int) && true))) then (true) else (bif !(SRel.oon r == false && (SRel.opk r == (0 : Int) && (SRel.odl r == (0 : Int) &&
 true))) then (true) else (bif SRel.kind r == (4 : Int) then (bif !(SRel.don r == false && (SRel.dpk r == (0 : Int) && (SRel.ddl r == (0 : Int) && true))) then (true) else (bif
 !(SRel.ion r == false && (SRel.ipk r == (0 : Int) && (SRel.idl r == (0 : Int) && true))) then (true) else (bif !(SRel.fon r == false && (SRel.fpk r == (0 : Int) && (SRel.fdl r == (0
 : Int) && true))) then (true) else (bif !SRel.kind r == (4 : Int) then (bif SRel.diff r != (0 : Int) then (true) else (bif SRel.num r != (0 : Int) then (true) else (bif SRel.den r
 != (0 : Int) then (true) else ((SRel.harm r != (0 : Int)))))) else (false))))) else (bif !SRel.kind r == (4 : Int) then (bif SRel.diff r != (0 : Int) then (true) else (bif SRel.num
 r != (0 : Int) then (true) else (bif SRel.den r != (0 : Int) then (true) else ((SRel.harm r != (0 : Int)))))) else (false))))) else (bif SRel.kind r == (4 : Int) then (bif
 !(SRel.don r == false && (SRel.dpk r == (0 : Int) && (SRel.ddl r == (0 : Int) && true))) then (true) else (bif !(SRel.ion r == false && (SRel.ipk r == (0 : Int) && (SRel.idl r == (0
 : Int) && true))) then (true) else (bif !(SRel.fon r == false && (SRel.fpk r == (0 : Int) && (SRel.fdl r == (0 : Int) && true))) then (true) else (bif !SRel.kind r == (4 : Int) then
 (bif SRel.diff r != (0 : Int) then (true) else (bif SRel.num r != (0 : Int) then (true) else (bif SRel.den r != (0 : Int) then (true) else ((SRel.harm r != (0 : Int)))))) else
 (false))))) else (bif !SRel.kind r == (4 : Int) then (bif SRel.diff r != (0 : Int) then (true) else (bif SRel.num r != (0 : Int) then (true) else (bif SRel.den r != (0 : Int) then
 (true) else ((SRel.harm r != (0 : Int)))))) else (false)))))))))))))) else (bif !SRel.kind r == (2 : Int) then (bif !(SRel.uon r == false && (SRel.upk r == (0 : Int) && (SRel.udl r
 == (0 : Int) && true))) then (true) else (bif !(SRel.oon r == false && (SRel.opk r == (0 : Int) && (SRel.odl r == (0 : Int) && true))) then (true) else (bif SRel.kind r == (4 : Int)
 then (bif !(SRel.don r == false && (SRel.dpk r == (0 : Int) && (SRel.ddl r == (0 : Int) && true))) then (true) else (bif !(SRel.ion r == false && (SRel.ipk r == (0 : Int) &&
 (SRel.idl r == (0 : Int) && true))) then (true) else (bif !(SRel.fon r == false && (SRel.fpk r == (0 : Int) && (SRel.fdl r == (0 : Int) && true))) then (true) else (bif !SRel.kind r
 == (4 : Int) then (bif SRel.diff r != (0 : Int) then (true) else (bif SRel.num r != (0 : Int) then (true) else (bif SRel.den r != (0 : Int) then (true) else ((SRel.harm r != (0 :
 Int)))))) else (false))))) else (bif !SRel.kind r == (4 : Int) then (bif SRel.diff r != (0 : Int) then (true) else (bif SRel.num r != (0 : Int) then (true) else (bif SRel.den r !=
 (0 : Int) then (true) else ((SRel.harm r != (0 : Int)))))) else (false))))) else (bif SRel.kind r == (4 : Int) then (bif !(SRel.don r == false && (SRel.dpk r == (0 : Int) &&
 (SRel.ddl r == (0 : Int) && true))) then (true) else (bif !(SRel.ion r == false && (SRel.ipk r == (0 : Int) && (SRel.idl r == (0 : Int) && true))) then (true) else (bif !(SRel.fon r
 == false && (SRel.fpk r == (0 : Int) && (SRel.fdl r == (0 : Int) && true))) then (true) else (bif !SRel.kind r == (4 : Int) then (bif SRel.diff r != (0 : Int) then (true) else (bif
 SRel.num r != (0 : Int) then (true) else (bif SRel.den r != (0 : Int) then (true) else ((SRel.harm r != (0 : Int)))))) else (false))))) else (bif !SRel.kind r == (4 : Int) then (bif
 SRel.diff r != (0 : Int) then (true) else (bif SRel.num r != (0 : Int) then (true) else (bif SRel.den r != (0 : Int) then (true) else ((SRel.harm r != (0 : Int)))))) else
 (false)))))
theorem ev88 (r : SRel) : Aal Tryz.prog oB3 na 5 Tryz.f93 (Aad Tryz.f93) [aRel r] [] = some (.leaf (vB (ev88_v r), [])) := by
  rw [ev88_t]
  unfold ev88_v
  simp only [bLeaf]
theorem ev130_t (r : SRel) : Aal Tryz.prog oB3 na 5 Tryz.f133 (Aad Tryz.f133) [aRel r] [] =
 (bif !SRel.zon0 r then (bif !(SRel.zon0 r == false && (SRel.zfw0 r == false && (SRel.zx0 r == (0 : Int) && (SRel.zr0 r == (0 : Int) && (SRel.zl0 r == (0 : Int) && (SRel.zd0 r == (0
 : Int) && true)))))) then some (T.leaf (AV.c (.d (.v (.bool false))), [])) else (bif !SRel.zon1 r then (bif !(SRel.zon1 r == false && (SRel.zfw1 r == false && (SRel.zx1 r ==
 (0 : Int) && (SRel.zr1 r == (0 : Int) && (SRel.zl1 r == (0 : Int) && (SRel.zd1 r == (0 : Int) && true)))))) then some (T.leaf (AV.c (.d (.v (.bool false))), [])) else (bif
 !SRel.zon2 r then (bif !(SRel.zon2 r == false && (SRel.zfw2 r == false && (SRel.zx2 r == (0 : Int) && (SRel.zr2 r == (0 : Int) && (SRel.zl2 r == (0 : Int) && (SRel.zd2 r == (0 :
 Int) && true)))))) then some (T.leaf (AV.c (.d (.v (.bool false))), [])) else (bif SRel.min r == (0 : Int) then (bif SRel.kre r == (0 : Int) then some (T.leaf (AV.c (C.d (D.v
 (Value.bool (SRel.kim r == (0 : Int))))), [])) else some (T.leaf (AV.c (.d (.v (.bool false))), []))) else some (T.leaf (AV.c (.d (.v (.bool false))), [])))) else (bif
 !Aaa (SRel.zx2 r) (1 : Int) (4000 : Int) then some (T.leaf (AV.c (.d (.v (.bool false))), [])) else (bif !Aaa (SRel.zr2 r) (0 : Int) (4000 : Int) then some (T.leaf
 (AV.c (.d (.v (.bool false))), [])) else (bif !Aaa (SRel.zl2 r) (0 : Int) (4000 : Int) then some (T.leaf (AV.c (.d (.v (.bool false))), [])) else (bif !Aaa
 (SRel.zd2 r) (0 : Int) (500 : Int) then some (T.leaf (AV.c (.d (.v (.bool false))), [])) else (bif Aaa (SRel.min r) (1 : Int) (16383 : Int) then (bif Aaa (SRel.kre r)
 (-200 : Int) (200 : Int) then some (T.leaf (AV.c (.d (.v (.bool (Aaa (SRel.kim r) (-200 : Int) (200 : Int))))), [])) else some (T.leaf (AV.c (C.d (D.v (Value.bool
 false))), []))) else some (T.leaf (AV.c (.d (.v (.bool false))), []))))))))) else (bif !Aaa (SRel.zx1 r) (1 : Int) (4000 : Int) then some (T.leaf (AV.c (C.d (D.v
 (Value.bool false))), [])) else (bif !Aaa (SRel.zr1 r) (0 : Int) (4000 : Int) then some (T.leaf (AV.c (.d (.v (.bool false))), [])) else (bif !Aaa (SRel.zl1 r) (0 :
 Int) (4000 : Int) then some (T.leaf (AV.c (.d (.v (.bool false))), [])) else (bif !Aaa (SRel.zd1 r) (0 : Int) (500 : Int) then some (T.leaf (AV.c (C.d (D.v (Value.bool
 false))), [])) else (bif !SRel.zon2 r then (bif !(SRel.zon2 r == false && (SRel.zfw2 r == false && (SRel.zx2 r == (0 : Int) && (SRel.zr2 r == (0 : Int) && (SRel.zl2 r == (0 : Int)
 && (SRel.zd2 r == (0 : Int) && true)))))) then some (T.leaf (AV.c (.d (.v (.bool false))), [])) else (bif Aaa (SRel.min r) (1 : Int) (16383 : Int) then (bif Aaa
 (SRel.kre r) (-200 : Int) (200 : Int) then some (T.leaf (AV.c (.d (.v (.bool (Aaa (SRel.kim r) (-200 : Int) (200 : Int))))), [])) else some (T.leaf (AV.c (C.d (D.v
 (Value.bool false))), []))) else some (T.leaf (AV.c (.d (.v (.bool false))), [])))) else (bif !Aaa (SRel.zx2 r) (1 : Int) (4000 : Int) then some (T.leaf (AV.c (C.d (D.v
 (Value.bool false))), [])) else (bif !Aaa (SRel.zr2 r) (0 : Int) (4000 : Int) then some (T.leaf (AV.c (.d (.v (.bool false))), [])) else (bif !Aaa (SRel.zl2 r) (0 :
 Int) (4000 : Int) then some (T.leaf (AV.c (.d (.v (.bool false))), [])) else (bif !Aaa (SRel.zd2 r) (0 : Int) (500 : Int) then some (T.leaf (AV.c (C.d (D.v (Value.bool
 false))), [])) else (bif Aaa (SRel.min r) (1 : Int) (16383 : Int) then (bif Aaa (SRel.kre r) (-200 : Int) (200 : Int) then some (T.leaf (AV.c (.d (.v (.bool (Aaa
 (SRel.kim r) (-200 : Int) (200 : Int))))), [])) else some (T.leaf (AV.c (.d (.v (.bool false))), []))) else some (T.leaf (AV.c (.d (.v (.bool false))),
 [])))))))))))))) else (bif !Aaa (SRel.zx0 r) (1 : Int) (4000 : Int) then some (T.leaf (AV.c (.d (.v (.bool false))), [])) else (bif !Aaa (SRel.zr0 r) (0 : Int) (4000 :
 Int) then some (T.leaf (AV.c (.d (.v (.bool false))), [])) else (bif !Aaa (SRel.zl0 r) (0 : Int) (4000 : Int) then some (T.leaf (AV.c (.d (.v (.bool false))), []))
 else (bif !Aaa (SRel.zd0 r) (0 : Int) (500 : Int) then some (T.leaf (AV.c (.d (.v (.bool false))), [])) else (bif !SRel.zon1 r then (bif !(SRel.zon1 r == false &&
 (SRel.zfw1 r == false && (SRel.zx1 r == (0 : Int) && (SRel.zr1 r == (0 : Int) && (SRel.zl1 r == (0 : Int) && (SRel.zd1 r == (0 : Int) && true)))))) then some (T.leaf (AV.c (C.d (D.v
 (Value.bool false))), [])) else (bif !SRel.zon2 r then (bif !(SRel.zon2 r == false && (SRel.zfw2 r == false && (SRel.zx2 r == (0 : Int) && (SRel.zr2 r == (0 : Int) && (SRel.zl2 r ==
 (0 : Int) && (SRel.zd2 r == (0 : Int) && true)))))) then some (T.leaf (AV.c (.d (.v (.bool false))), [])) else (bif Aaa (SRel.min r) (1 : Int) (16383 : Int) then (bif
 Aaa (SRel.kre r) (-200 : Int) (200 : Int) then some (T.leaf (AV.c (.d (.v (.bool (Aaa (SRel.kim r) (-200 : Int) (200 : Int))))), [])) else some (T.leaf (AV.c (C.d (D.v
 (Value.bool false))), []))) else some (T.leaf (AV.c (.d (.v (.bool false))), [])))) else (bif !Aaa (SRel.zx2 r) (1 : Int) (4000 : Int) then some (T.leaf (AV.c (C.d (D.v
 (Value.bool false))), [])) else (bif !Aaa (SRel.zr2 r) (0 : Int) (4000 : Int) then some (T.leaf (AV.c (.d (.v (.bool false))), [])) else (bif !Aaa (SRel.zl2 r) (0 :
 Int) (4000 : Int) then some (T.leaf (AV.c (.d (.v (.bool false))), [])) else (bif !Aaa (SRel.zd2 r) (0 : Int) (500 : Int) then some (T.leaf (AV.c (C.d (D.v (Value.bool
 false))), [])) else (bif Aaa (SRel.min r) (1 : Int) (16383 : Int) then (bif Aaa (SRel.kre r) (-200 : Int) (200 : Int) then some (T.leaf (AV.c (.d (.v (.bool (Aaa
 (SRel.kim r) (-200 : Int) (200 : Int))))), [])) else some (T.leaf (AV.c (.d (.v (.bool false))), []))) else some (T.leaf (AV.c (.d (.v (.bool false))), [])))))))))
 else (bif !Aaa (SRel.zx1 r) (1 : Int) (4000 : Int) then some (T.leaf (AV.c (.d (.v (.bool false))), [])) else (bif !Aaa (SRel.zr1 r) (0 : Int) (4000 : Int) then some
 (T.leaf (AV.c (.d (.v (.bool false))), [])) else (bif !Aaa (SRel.zl1 r) (0 : Int) (4000 : Int) then some (T.leaf (AV.c (.d (.v (.bool false))), [])) else (bif
 !Aaa (SRel.zd1 r) (0 : Int) (500 : Int) then some (T.leaf (AV.c (.d (.v (.bool false))), [])) else (bif !SRel.zon2 r then (bif !(SRel.zon2 r == false && (SRel.zfw2 r ==
 false && (SRel.zx2 r == (0 : Int) && (SRel.zr2 r == (0 : Int) && (SRel.zl2 r == (0 : Int) && (SRel.zd2 r == (0 : Int) && true)))))) then some (T.leaf (AV.c (C.d (D.v (Value.bool
 false))), [])) else (bif Aaa (SRel.min r) (1 : Int) (16383 : Int) then (bif Aaa (SRel.kre r) (-200 : Int) (200 : Int) then some (T.leaf (AV.c (.d (.v (.bool (Aaa
 (SRel.kim r) (-200 : Int) (200 : Int))))), [])) else some (T.leaf (AV.c (.d (.v (.bool false))), []))) else some (T.leaf (AV.c (.d (.v (.bool false))), [])))) else
 (bif !Aaa (SRel.zx2 r) (1 : Int) (4000 : Int) then some (T.leaf (AV.c (.d (.v (.bool false))), [])) else (bif !Aaa (SRel.zr2 r) (0 : Int) (4000 : Int) then some (T.leaf
 (AV.c (.d (.v (.bool false))), [])) else (bif !Aaa (SRel.zl2 r) (0 : Int) (4000 : Int) then some (T.leaf (AV.c (.d (.v (.bool false))), [])) else (bif !Aaa
 (SRel.zd2 r) (0 : Int) (500 : Int) then some (T.leaf (AV.c (.d (.v (.bool false))), [])) else (bif Aaa (SRel.min r) (1 : Int) (16383 : Int) then (bif Aaa (SRel.kre r)
 (-200 : Int) (200 : Int) then some (T.leaf (AV.c (.d (.v (.bool (Aaa (SRel.kim r) (-200 : Int) (200 : Int))))), [])) else some (T.leaf (AV.c (C.d (D.v (Value.bool
 false))), []))) else some (T.leaf (AV.c (.d (.v (.bool false))), [])))))))))))))))))) := by kernel_rfl
noncomputable def ev130_v (r : SRel) : Bool :=
 (bif !SRel.zon0 r then (bif !(SRel.zon0 r == false && (SRel.zfw0 r == false && (SRel.zx0 r == (0 : Int) && (SRel.zr0 r == (0 : Int) && (SRel.zl0 r == (0 : Int) && (SRel.zd0 r == (0
 : Int) && true)))))) then (false) else (bif !SRel.zon1 r then (bif !(SRel.zon1 r == false && (SRel.zfw1 r == false && (SRel.zx1 r == (0 : Int) && (SRel.zr1 r == (0 : Int) &&
 (SRel.zl1 r == (0 : Int) && (SRel.zd1 r == (0 : Int) && true)))))) then (false) else (bif !SRel.zon2 r then (bif !(SRel.zon2 r == false && (SRel.zfw2 r == false && (SRel.zx2 r == (0
 : Int) && (SRel.zr2 r == (0 : Int) && (SRel.zl2 r == (0 : Int) && (SRel.zd2 r == (0 : Int) && true)))))) then (false) else (bif SRel.min r == (0 : Int) then (bif SRel.kre r == (0 :
 Int) then ((SRel.kim r == (0 : Int))) else (false)) else (false))) else (bif !Aaa (SRel.zx2 r) (1 : Int) (4000 : Int) then (false) else (bif !Aaa (SRel.zr2 r) (0 : Int) (4000
 : Int) then (false) else (bif !Aaa (SRel.zl2 r) (0 : Int) (4000 : Int) then (false) else (bif !Aaa (SRel.zd2 r) (0 : Int) (500 : Int) then (false) else (bif Aaa (SRel.min
 r) (1 : Int) (16383 : Int) then (bif Aaa (SRel.kre r) (-200 : Int) (200 : Int) then ((Aaa (SRel.kim r) (-200 : Int) (200 : Int))) else (false)) else (false)))))))) else (bif
 !Aaa (SRel.zx1 r) (1 : Int) (4000 : Int) then (false) else (bif !Aaa (SRel.zr1 r) (0 : Int) (4000 : Int) then (false) else (bif !Aaa (SRel.zl1 r) (0 : Int) (4000 : Int)
 then (false) else (bif !Aaa (SRel.zd1 r) (0 : Int) (500 : Int) then (false) else (bif !SRel.zon2 r then (bif !(SRel.zon2 r == false && (SRel.zfw2 r == false && (SRel.zx2 r == (0
 : Int) && (SRel.zr2 r == (0 : Int) && (SRel.zl2 r == (0 : Int) && (SRel.zd2 r == (0 : Int) && true)))))) then (false) else (bif Aaa (SRel.min r) (1 : Int) (16383 : Int) then (bif
 Aaa (SRel.kre r) (-200 : Int) (200 : Int) then ((Aaa (SRel.kim r) (-200 : Int) (200 : Int))) else (false)) else (false))) else (bif !Aaa (SRel.zx2 r) (1 : Int) (4000 : Int)
 then (false) else (bif !Aaa (SRel.zr2 r) (0 : Int) (4000 : Int) then (false) else (bif !Aaa (SRel.zl2 r) (0 : Int) (4000 : Int) then (false) else (bif !Aaa (SRel.zd2 r) (0
 : Int) (500 : Int) then (false) else (bif Aaa (SRel.min r) (1 : Int) (16383 : Int) then (bif Aaa (SRel.kre r) (-200 : Int) (200 : Int) then ((Aaa (SRel.kim r) (-200 : Int)
 (200 : Int))) else (false)) else (false))))))))))))) else (bif !Aaa (SRel.zx0 r) (1 : Int) (4000 : Int) then (false) else (bif !Aaa (SRel.zr0 r) (0 : Int) (4000 : Int) then
 (false) else (bif !Aaa (SRel.zl0 r) (0 : Int) (4000 : Int) then (false) else (bif !Aaa (SRel.zd0 r) (0 : Int) (500 : Int) then (false) else (bif !SRel.zon1 r then (bif
 !(SRel.zon1 r == false && (SRel.zfw1 r == false && (SRel.zx1 r == (0 : Int) && (SRel.zr1 r == (0 : Int) && (SRel.zl1 r == (0 : Int) && (SRel.zd1 r == (0 : Int) && true)))))) then
 (false) else (bif !SRel.zon2 r then (bif !(SRel.zon2 r == false && (SRel.zfw2 r == false && (SRel.zx2 r == (0 : Int) && (SRel.zr2 r == (0 : Int) && (SRel.zl2 r == (0 : Int) &&
 (SRel.zd2 r == (0 : Int) && true)))))) then (false) else (bif Aaa (SRel.min r) (1 : Int) (16383 : Int) then (bif Aaa (SRel.kre r) (-200 : Int) (200 : Int) then ((Aaa
 (SRel.kim r) (-200 : Int) (200 : Int))) else (false)) else (false))) else (bif !Aaa (SRel.zx2 r) (1 : Int) (4000 : Int) then (false) else (bif !Aaa (SRel.zr2 r) (0 : Int)
 (4000 : Int) then (false) else (bif !Aaa (SRel.zl2 r) (0 : Int) (4000 : Int) then (false) else (bif !Aaa (SRel.zd2 r) (0 : Int) (500 : Int) then (false) else (bif Aaa
 (SRel.min r) (1 : Int) (16383 : Int) then (bif Aaa (SRel.kre r) (-200 : Int) (200 : Int) then ((Aaa (SRel.kim r) (-200 : Int) (200 : Int))) else (false)) else (false))))))))
 else (bif !Aaa (SRel.zx1 r) (1 : Int) (4000 : Int) then (false) else (bif !Aaa (SRel.zr1 r) (0 : Int) (4000 : Int) then (false) else (bif !Aaa (SRel.zl1 r) (0 : Int) (4000
 : Int) then (false) else (bif !Aaa (SRel.zd1 r) (0 : Int) (500 : Int) then (false) else (bif !SRel.zon2 r then (bif !(SRel.zon2 r == false && (SRel.zfw2 r == false && (SRel.zx2 r
 == (0 : Int) && (SRel.zr2 r == (0 : Int) && (SRel.zl2 r == (0 : Int) && (SRel.zd2 r == (0 : Int) && true)))))) then (false) else (bif Aaa (SRel.min r) (1 : Int) (16383 : Int)
 then (bif Aaa (SRel.kre r) (-200 : Int) (200 : Int) then ((Aaa (SRel.kim r) (-200 : Int) (200 : Int))) else (false)) else (false))) else (bif !Aaa (SRel.zx2 r) (1 : Int)
 (4000 : Int) then (false) else (bif !Aaa (SRel.zr2 r) (0 : Int) (4000 : Int) then (false) else (bif !Aaa (SRel.zl2 r) (0 : Int) (4000 : Int) then (false) else (bif !Aaa
 (SRel.zd2 r) (0 : Int) (500 : Int) then (false) else (bif Aaa (SRel.min r) (1 : Int) (16383 : Int) then (bif Aaa (SRel.kre r) (-200 : Int) (200 : Int) then ((Aaa (SRel.kim
 r) (-200 : Int) (200 : Int))) else (false)) else (false)))))))))))))))))
theorem ev130 (r : SRel) : Aal Tryz.prog oB3 na 5 Tryz.f133 (Aad Tryz.f133) [aRel r] [] = some (.leaf (vB (ev130_v r), [])) := by
  rw [ev130_t]
  unfold ev130_v
  simp only [bLeaf]
theorem ev90_t (r : SRel) : Aal Tryz.prog oB3 na 5 Tryz.f95 (Aad Tryz.f95) [aRel r] [] =
 (bif SRel.zon0 r then (bif SRel.zon1 r then (bif SRel.scheme r == (1 : Int) then (bif !SRel.zfw0 r then some (T.leaf (AV.c (.d (.v (.bool true))), [])) else some (T.leaf
 (AV.c (.d (.v (.bool !SRel.zfw1 r))), []))) else (bif SRel.scheme r == (2 : Int) then some (T.leaf (AV.c (.d (.v (.bool !SRel.zfw1 r))), [])) else (bif SRel.scheme r
 == (3 : Int) then (bif !SRel.zfw1 r then some (T.leaf (AV.c (.d (.v (.bool true))), [])) else (bif !SRel.zon2 r then some (T.leaf (AV.c (.d (.v (.bool true))), []))
 else some (T.leaf (AV.c (.d (.v (.bool (SRel.zfw2 r)))), [])))) else some (T.leaf (AV.c (.d (.v (.bool false))), []))))) else (bif SRel.scheme r == (1 : Int) then (bif
 !SRel.zfw0 r then some (T.leaf (AV.c (.d (.v (.bool true))), [])) else some (T.leaf (AV.c (.d (.v (.bool true))), []))) else (bif SRel.scheme r == (2 : Int) then some
 (T.leaf (AV.c (.d (.v (.bool true))), [])) else (bif SRel.scheme r == (3 : Int) then some (T.leaf (AV.c (.d (.v (.bool true))), [])) else some (T.leaf (AV.c (C.d (D.v
 (Value.bool false))), [])))))) else (bif SRel.zon1 r then (bif SRel.scheme r == (1 : Int) then some (T.leaf (AV.c (.d (.v (.bool true))), [])) else (bif SRel.scheme r == (2 :
 Int) then some (T.leaf (AV.c (.d (.v (.bool !SRel.zfw1 r))), [])) else (bif SRel.scheme r == (3 : Int) then (bif !SRel.zfw1 r then some (T.leaf (AV.c (C.d (D.v (Value.bool
 true))), [])) else (bif !SRel.zon2 r then some (T.leaf (AV.c (.d (.v (.bool true))), [])) else some (T.leaf (AV.c (.d (.v (.bool (SRel.zfw2 r)))), [])))) else some
 (T.leaf (AV.c (.d (.v (.bool false))), []))))) else (bif SRel.scheme r == (1 : Int) then some (T.leaf (AV.c (.d (.v (.bool true))), [])) else (bif SRel.scheme r == (2
 : Int) then some (T.leaf (AV.c (.d (.v (.bool true))), [])) else (bif SRel.scheme r == (3 : Int) then some (T.leaf (AV.c (.d (.v (.bool true))), [])) else some (T.leaf
 (AV.c (.d (.v (.bool false))), []))))))) := by kernel_rfl
noncomputable def ev90_v (r : SRel) : Bool :=
 (bif SRel.zon0 r then (bif SRel.zon1 r then (bif SRel.scheme r == (1 : Int) then (bif !SRel.zfw0 r then (true) else (!SRel.zfw1 r)) else (bif SRel.scheme r == (2 : Int) then
 (!SRel.zfw1 r) else (bif SRel.scheme r == (3 : Int) then (bif !SRel.zfw1 r then (true) else (bif !SRel.zon2 r then (true) else ((SRel.zfw2 r)))) else (false)))) else (bif
 SRel.scheme r == (1 : Int) then (bif !SRel.zfw0 r then (true) else (true)) else (bif SRel.scheme r == (2 : Int) then (true) else (bif SRel.scheme r == (3 : Int) then (true) else
 (false))))) else (bif SRel.zon1 r then (bif SRel.scheme r == (1 : Int) then (true) else (bif SRel.scheme r == (2 : Int) then (!SRel.zfw1 r) else (bif SRel.scheme r == (3 : Int) then
 (bif !SRel.zfw1 r then (true) else (bif !SRel.zon2 r then (true) else ((SRel.zfw2 r)))) else (false)))) else (bif SRel.scheme r == (1 : Int) then (true) else (bif SRel.scheme r ==
 (2 : Int) then (true) else (bif SRel.scheme r == (3 : Int) then (true) else (false))))))
theorem ev90 (r : SRel) : Aal Tryz.prog oB3 na 5 Tryz.f95 (Aad Tryz.f95) [aRel r] [] = some (.leaf (vB (ev90_v r), [])) := by
  rw [ev90_t]
  unfold ev90_v
  simp only [bLeaf]
noncomputable def ann89 : Ann := annOf [(100003, ⟨[1], []⟩), (100005, ⟨[1], []⟩), (100007, ⟨[1], []⟩), (100009, ⟨[1], []⟩), (100011, ⟨[1], []⟩), (100013, ⟨[1], []⟩)]
noncomputable def L89_3 (okr zo : List AV → Bool) (r : SRel) (g m : Nat)  := GK Tryz.prog (oNu okr zo) ann89 0 g Tryz.f94 3 m ⟨frm [(1, .c (.ptr 0 0))] 0 Tryz.f94.ntmps, [(0, Blk.cells (List.map C.d (relC r)) 51)], 1⟩
noncomputable def L89_5 (okr zo : List AV → Bool) (r : SRel) (g m : Nat)  := GK Tryz.prog (oNu okr zo) ann89 0 g Tryz.f94 5 m ⟨frm [(1, .c (.ptr 0 0))] 0 Tryz.f94.ntmps, [(0, Blk.cells (List.map C.d (relC r)) 51)], 1⟩
noncomputable def L89_7 (okr zo : List AV → Bool) (r : SRel) (g m : Nat)  := GK Tryz.prog (oNu okr zo) ann89 0 g Tryz.f94 7 m ⟨frm [(1, .c (.ptr 0 0))] 0 Tryz.f94.ntmps, [(0, Blk.cells (List.map C.d (relC r)) 51)], 1⟩
noncomputable def L89_9 (okr zo : List AV → Bool) (r : SRel) (g m : Nat)  := GK Tryz.prog (oNu okr zo) ann89 0 g Tryz.f94 9 m ⟨frm [(1, .c (.ptr 0 0))] 0 Tryz.f94.ntmps, [(0, Blk.cells (List.map C.d (relC r)) 51)], 1⟩
noncomputable def L89_11 (okr zo : List AV → Bool) (r : SRel) (g m : Nat)  := GK Tryz.prog (oNu okr zo) ann89 0 g Tryz.f94 11 m ⟨frm [(1, .c (.ptr 0 0))] 0 Tryz.f94.ntmps, [(0, Blk.cells (List.map C.d (relC r)) 51)], 1⟩
noncomputable def L89_13 (okr zo : List AV → Bool) (r : SRel) (g m : Nat)  := GK Tryz.prog (oNu okr zo) ann89 0 g Tryz.f94 13 m ⟨frm [(1, .c (.ptr 0 0))] 0 Tryz.f94.ntmps, [(0, Blk.cells (List.map C.d (relC r)) 51)], 1⟩
theorem b89 : Tryz.f94.body = some (Aad Tryz.f94) := by kernel_rfl
theorem ev89 (okr zo : List AV → Bool) (r : SRel) (g : Nat) : Aal Tryz.prog (oNu okr zo) ann89 g Tryz.f94 (Aad Tryz.f94) [aRel r] [] =
 (bif okr [AV.agg (List.map C.d (relC r))] then (bif !zo [AV.agg (List.map C.d (relC r))] then some (T.leaf (AV.c (.d (.v (.bool false))), [])) else (bif !Aaa (SRel.scheme
 r) (0 : Int) (3 : Int) then some (T.leaf (AV.c (.d (.v (.bool false))), [])) else (bif !Aaa (SRel.guard r) (0 : Int) (50 : Int) then some (T.leaf (AV.c (C.d (D.v
 (Value.bool false))), [])) else (bif SRel.scheme r == (0 : Int) then (bif SRel.guard r != (0 : Int) then some (T.leaf (AV.c (.d (.v (.bool false))), [])) else L89_3 okr zo r
 g g) else L89_3 okr zo r g g)))) else none) := by kernel_rfl
theorem st89_3 (okr zo : List AV → Bool) (r : SRel) (g m : Nat) : L89_3 okr zo r g (m + 1) =
 (bif SRel.scheme r == (3 : Int) then (bif !Aaa (SRel.wait r) (1 : Int) (50 : Int) then some (T.leaf (AV.c (.d (.v (.bool false))), [])) else (bif SRel.scheme r != (3 :
 Int) then (bif SRel.wait r != (0 : Int) then some (T.leaf (AV.c (.d (.v (.bool false))), [])) else L89_5 okr zo r g g) else L89_5 okr zo r g g)) else (bif SRel.scheme r != (3
 : Int) then (bif SRel.wait r != (0 : Int) then some (T.leaf (AV.c (.d (.v (.bool false))), [])) else L89_5 okr zo r g g) else L89_5 okr zo r g g)) := by kernel_rfl
theorem st89_5 (okr zo : List AV → Bool) (r : SRel) (g m : Nat) : L89_5 okr zo r g (m + 1) =
 (bif !elOk (SRel.don r) (SRel.dpk r) (SRel.ddl r) (0 : Int) then some (T.leaf (AV.c (.d (.v (.bool false))), [])) else (bif !elOk (SRel.uon r) (SRel.upk r) (SRel.udl r) (0 :
 Int) then some (T.leaf (AV.c (.d (.v (.bool false))), [])) else (bif !elOk (SRel.oon r) (SRel.opk r) (SRel.odl r) (0 : Int) then some (T.leaf (AV.c (C.d (D.v (Value.bool
 false))), [])) else (bif !elOk (SRel.fon r) (SRel.fpk r) (SRel.fdl r) (1 : Int) then some (T.leaf (AV.c (.d (.v (.bool false))), [])) else L89_7 okr zo r g g)))) := by kernel_rfl
theorem st89_7 (okr zo : List AV → Bool) (r : SRel) (g m : Nat) : L89_7 okr zo r g (m + 1) =
 (bif SRel.ion r then (bif !Aaa (SRel.ipk r) (1 : Int) (16383 : Int) then some (T.leaf (AV.c (.d (.v (.bool false))), [])) else (bif !Aaa (SRel.idl r) (1 : Int) (1000 :
 Int) then some (T.leaf (AV.c (.d (.v (.bool false))), [])) else (bif !SRel.ion r then (bif !(SRel.ion r == false && (SRel.ipk r == (0 : Int) && (SRel.idl r == (0 : Int) &&
 true))) then some (T.leaf (AV.c (.d (.v (.bool false))), [])) else L89_9 okr zo r g g) else L89_9 okr zo r g g))) else (bif !SRel.ion r then (bif !(SRel.ion r == false &&
 (SRel.ipk r == (0 : Int) && (SRel.idl r == (0 : Int) && true))) then some (T.leaf (AV.c (.d (.v (.bool false))), [])) else L89_9 okr zo r g g) else L89_9 okr zo r g g)) := by kernel_rfl
theorem st89_9 (okr zo : List AV → Bool) (r : SRel) (g m : Nat) : L89_9 okr zo r g (m + 1) =
 (bif !Aaa (SRel.shots r) (0 : Int) (3 : Int) then some (T.leaf (AV.c (.d (.v (.bool false))), [])) else (bif SRel.shots r == (0 : Int) then (bif SRel.dead r != (0 : Int)
 then some (T.leaf (AV.c (.d (.v (.bool false))), [])) else (bif SRel.reclaim r != (0 : Int) then some (T.leaf (AV.c (.d (.v (.bool false))), [])) else (bif decide
 (SRel.shots r > (0 : Int)) then (bif !Aaa (SRel.dead r) (1 : Int) (100 : Int) then some (T.leaf (AV.c (.d (.v (.bool false))), [])) else (bif !Aaa (SRel.reclaim r) (1 :
 Int) (1000 : Int) then some (T.leaf (AV.c (.d (.v (.bool false))), [])) else L89_11 okr zo r g g)) else L89_11 okr zo r g g))) else (bif decide (SRel.shots r > (0 : Int))
 then (bif !Aaa (SRel.dead r) (1 : Int) (100 : Int) then some (T.leaf (AV.c (.d (.v (.bool false))), [])) else (bif !Aaa (SRel.reclaim r) (1 : Int) (1000 : Int) then
 some (T.leaf (AV.c (.d (.v (.bool false))), [])) else L89_11 okr zo r g g)) else L89_11 okr zo r g g))) := by kernel_rfl
theorem st89_11 (okr zo : List AV → Bool) (r : SRel) (g m : Nat) : L89_11 okr zo r g (m + 1) =
 (bif !Aaa (SRel.diff r) (0 : Int) (16383 : Int) then some (T.leaf (AV.c (.d (.v (.bool false))), [])) else (bif SRel.diff r == (0 : Int) then (bif SRel.num r != (0 : Int)
 then some (T.leaf (AV.c (.d (.v (.bool false))), [])) else (bif SRel.den r != (0 : Int) then some (T.leaf (AV.c (.d (.v (.bool false))), [])) else (bif SRel.harm r !=
 (0 : Int) then some (T.leaf (AV.c (.d (.v (.bool false))), [])) else L89_13 okr zo r g g))) else L89_13 okr zo r g g)) := by kernel_rfl
theorem st89_13 (okr zo : List AV → Bool) (r : SRel) (g m : Nat) : L89_13 okr zo r g (m + 1) =
 (bif SRel.diff r == (0 : Int) then some (T.leaf (AV.c (.d (.v (.bool true))), [])) else (bif Aaa (SRel.den r) (1 : Int) (100 : Int) then (bif Aaa (SRel.num r) (0 : Int)
 (SRel.den r) then some (T.leaf (AV.c (.d (.v (.bool (Aaa (SRel.harm r) (0 : Int) (100 : Int))))), [])) else some (T.leaf (AV.c (.d (.v (.bool false))), []))) else
 some (T.leaf (AV.c (.d (.v (.bool false))), [])))) := by kernel_rfl
end Go.Proofs.YtmnfibmlhmeheaaGreatDoor.se
namespace Go.Proofs.YtmnfibmlhmeheaaGreatDoor.se
open Go.RowKit Go.Eb Go.Proofs.YtmnfibmlhmeheaaGreatDoor.st
theorem bIx : Tryz.f85.body = some (Aad Tryz.f85) := by kernel_rfl
theorem sIx {r : Orc} (h : OrcS Tryz.prog r) : OrcS Tryz.prog (oIx (okG eIx cIx) (fun x => idxF (theT eIx x).2 0 (theT eIx x).1) r) :=
  .cons (.lt (r := fun (a : List ByteArray × ByteArray) => vI (idxF a.2 0 a.1)) Tryz.func85 bIx (fun _ => rfl) fun a h => c46 a.1 a.2 (lenOk_le h)) h
theorem cSelf (a b : Bool) : (bif a then (bif a then true else false) else b) = bif a then true else b := by cases a <;> rfl
theorem res_eq (s : ByteArray) : ev133_v s = ev115_v s := by
  have h : ∀ a : ByteArray, (a.toList == s.toList) = (s.toList == a.toList) := fun a => Bool.beq_comm ..
  unfold ev133_v ev115_v
  simp only [h, cSelf]
theorem c133 (s : ByteArray) : CX Tryz.prog 136 [vS s] [] (vB (ev115_v s)) [] := by
  have hs : OrcS Tryz.prog (Orc.cons 85 (inl Tryz.prog Orc.nil na 20 Tryz.f85) Orc.nil) := .cons (.inl .nil Tryz.func85 bIx) .nil
  have := cx_of hs.ok Tryz.func136 (by kernel_rfl) rfl (ev133 s)
  rw [res_eq] at this
  exact this
theorem c91 (r : SRel) (hr : okRel r = true) : CX Tryz.prog 96 [aRel r] [] (vB (!countsOk r)) [] := by
  obtain ⟨h1, h2, h3, h4, h5⟩ := okRel_len hr
  obtain ⟨g, hg⟩ : ∃ g, r.sets.length < g := ⟨r.sets.length + 1, by omega⟩
  refine cx_of (Orc.nil_ok _) Tryz.func96 b91 rfl ((ev91 r g).trans ?_)
  have l1 := anyL_loop (p := setBad) (l := r.sets) (d0 := set0) (L := fun m i => L91_4 r g m i) (A := lB true) (B := lB false) (fun m k hk => by
    rw [st91_4, lt1 hk, ge0, tn, nx hk h2]
    unfold setBad
    have e1 : decide (((r.sets.getD k set0).sigs.length : Int) < 1) = !decide (1 ≤ (r.sets.getD k set0).sigs.length) := by
      rw [Bool.eq_iff_iff, decide_eq_true_eq, Bool.not_eq_true', decide_eq_false_iff_not]; omega
    have e2 : decide (((r.sets.getD k set0).sigs.length : Int) > 24) = !decide ((r.sets.getD k set0).sigs.length ≤ 24) := by
      rw [Bool.eq_iff_iff, decide_eq_true_eq, Bool.not_eq_true', decide_eq_false_iff_not]; omega
    rw [e1, e2]
    cases decide (1 ≤ (r.sets.getD k set0).sigs.length) <;> cases decide ((r.sets.getD k set0).sigs.length ≤ 24) <;> rfl) (fun m => by rw [st91_4, lt0 (Nat.lt_irrefl _)]; rfl) g 0 (by omega) (by omega)
  have e1 : L91_4 r g g 0 = _ := l1
  have g1 : ∀ n k : Nat, decide ((n : Int) > (k : Int)) = !decide (n ≤ k) := fun n k => by
    rw [Bool.eq_iff_iff, decide_eq_true_eq, Bool.not_eq_true', decide_eq_false_iff_not]; omega
  have g16 := g1 r.rules.length 16
  have g4 := g1 r.sets.length 4
  have g4' := g1 r.pubs.length 4
  have g24 := g1 r.subs.length 24
  have f16 : decide ((r.rules.length : Int) > 16) = !decide (r.rules.length ≤ 16) := g16
  have f4 : decide ((r.sets.length : Int) > 4) = !decide (r.sets.length ≤ 4) := g4
  have f4' : decide ((r.pubs.length : Int) > 4) = !decide (r.pubs.length ≤ 4) := g4'
  have f24 : decide ((r.subs.length : Int) > 24) = !decide (r.subs.length ≤ 24) := g24
  rw [e1, f16, f4, f4', f24]
  simp only [List.drop_zero]
  unfold countsOk
  cases decide (r.rules.length ≤ 16) <;> cases decide (r.sets.length ≤ 4) <;> cases decide (r.pubs.length ≤ 4) <;> cases decide (r.subs.length ≤ 24) <;> cases r.sets.any setBad <;> rfl
theorem lp87 (s : SSta) (b : List SRel) (r : SRel) (g : Nat) (hb : b.length ≤ 9223372036854775807) (hg : b.length < g) : L87_16 s b r g g 0 = lN (seenB (b.map SRel.bay) r.bay) := by
  have l1 := anyL_loop (p := fun x : SRel => x.bay == r.bay) (l := b) (d0 := rel0) (L := fun m i => L87_16 s b r g m i) (A := lN 12) (B := lN 0) (fun m k hk => by
    rw [st87_16, lt1 hk, ge0, tn, nx hk hb]; rfl) (fun m => by rw [st87_16, lt0 (Nat.lt_irrefl _)]; rfl) g 0 (by omega) (by omega)
  have e1 : L87_16 s b r g g 0 = _ := l1
  rw [e1]
  simp only [List.drop_zero]
  unfold seenB
  rw [List.any_map]
  have e2 : (b.any fun x => x.bay == r.bay) = b.any ((fun m => r.bay == m) ∘ SRel.bay) := by
    congr 1; funext x; exact Bool.beq_comm ..
  rw [e2]
  cases b.any ((fun m => r.bay == m) ∘ SRel.bay) <;> rfl
theorem c87 (s : SSta) (b : List SRel) (r : SRel) (hs : s.bays.length ≤ 9223372036854775807) (hb : lenOk b = true) : CX Tryz.prog 92 [aSta s, .c (.d (relsD b)), aRel r] [] (vI (placeErr s.bays (b.map SRel.bay) r)) [] := by
  obtain ⟨g, hg⟩ : ∃ g, b.length < g := ⟨b.length + 1, by omega⟩
  refine cx_of (Orc.nil_ok _) Tryz.func92 b87 rfl ((ev87 s b r g).trans ?_)
  rw [lp87 s b r g (lenOk_le hb) hg]
  have w : Aaa r.bay 0 ((s.bays.length : Int) - 1) = (!decide (r.bay < 0) && !decide (r.bay ≥ (s.bays.length : Int))) := by
    unfold Aaa
    by_cases h1 : r.bay < 0
    · rw [decide_eq_true h1, decide_eq_false (by omega)]; rfl
    · by_cases h2 : r.bay ≥ (s.bays.length : Int)
      · rw [decide_eq_false h1, decide_eq_true h2, decide_eq_false (show ¬ r.bay ≤ (s.bays.length : Int) - 1 by omega)]; simp
      · rw [decide_eq_false h1, decide_eq_false h2, decide_eq_true (show r.bay ≤ (s.bays.length : Int) - 1 by omega), decide_eq_true (show r.bay ≥ 0 by omega)]; rfl
  have i : r.bay < (0 : Int) ∨ r.bay ≥ (s.bays.length : Int) ∨ (decide ((0 : Int) ≤ r.bay) && decide (r.bay < (s.bays.length : Int))) = true := by
    by_cases h1 : r.bay < 0
    · exact .inl h1
    · by_cases h2 : r.bay ≥ (s.bays.length : Int)
      · exact .inr (.inl h2)
      · refine .inr (.inr ?_); rw [decide_eq_true (by omega), decide_eq_true (by omega)]; rfl
  unfold placeErr placeK
  rw [w]
  generalize seenB (b.map SRel.bay) r.bay = sb
  generalize (s.bays.getD r.bay.toNat bay0).kind = kd
  rcases i with h | h | h
  · rw [decide_eq_true h]
    cases (r.kind == 1) <;> cases (r.kind == 2) <;> cases (r.kind == 3) <;> cases (r.kind == 4) <;> cases (r.bay != -1) <;> rfl
  · rw [decide_eq_true h]
    cases decide (r.bay < 0) <;> cases (r.kind == 1) <;> cases (r.kind == 2) <;> cases (r.kind == 3) <;> cases (r.kind == 4) <;> cases (r.bay != -1) <;> rfl
  · rw [h]
    cases decide (r.bay < 0) <;> cases decide (r.bay ≥ (s.bays.length : Int)) <;> cases (r.kind == 1) <;> cases (r.kind == 2) <;> cases (r.kind == 3) <;> cases (r.kind == 4) <;> cases (r.bay != -1) <;> cases (kd != 1) <;> cases (kd != 2) <;> cases (kd != 3) <;> rfl
noncomputable abbrev ix2 : List AV → Int := fun x => idxF (theT eIx x).2 0 (theT eIx x).1
noncomputable abbrev ok2 : List AV → Bool := okG eIx cIx
theorem ix_ge {n : Nat} {f : Nat → List D} {l : List ByteArray} (hr : RL busC e0 n f l) (hn : n ≤ 9000) (s : ByteArray) : ok2 [.c (.d (.sl 1 n f)), vS s] = true ∧ decide (ix2 [.c (.d (.sl 1 n f)), vS s] ≥ 0) = inB l s := by
  obtain ⟨h1, h2⟩ := ix_okr hr hn s
  refine ⟨h1, ?_⟩
  unfold ix2
  rw [h2, idxF_ge]
theorem s92 : OrcS Tryz.prog (o92 Aae ev115_v ok2 ix2) := sIx (.cons (.p decS_ok c16) (.cons (.p decS_ok c133) .nil))
theorem lp92i (r : SRel) (g mo n : Nat) (f : Nat → List D) (k : Nat) (hs : (r.rules.getD k rule0).text.size ≤ 120) (hk : k < r.rules.length) (hl : r.rules.length ≤ 9000) (hn : n ≤ 9000) : ∀ (m j : Nat), j ≤ (r.rules.getD k rule0).text.size → (r.rules.getD k rule0).text.size - j < m →
    L92_13 Aae ev115_v ok2 ix2 r g mo m n f k j = bif ((r.rules.getD k rule0).text.data.toList.drop j).any badByte then lN 5 else L92_3 Aae ev115_v ok2 ix2 r g mo (n + 1) (appF n f (Aaf (busC (r.rules.getD k rule0).name) 1)) ((k + 1 : Nat) : Int)
  | 0, j, _, h => by omega
  | m + 1, j, hj, h => by
    rw [st92_13, tn]
    have ih := lp92i r g mo n f k hs hk hl hn m (j + 1)
    generalize hx : r.rules.getD k rule0 = x at ih hs hj h ⊢
    by_cases hlt : j < x.text.size
    · have hlt' : j < x.text.data.toList.length := by simpa using hlt
      rw [drop_at' (d := 0) hlt', lt1 hlt, ge0, tn, nx hlt (by omega), ih (by omega) (by omega)]
      simp only [tt, cond_true, List.any_cons, badByte]
      generalize decide (((x.text.data.toList.getD j 0).toNat : Int) < 32) = a1
      generalize decide (((x.text.data.toList.getD j 0).toNat : Int) > 126) = a2
      generalize (((x.text.data.toList.getD j 0).toNat : Int) == 34) = a3
      cases a1 <;> cases a2 <;> cases a3 <;> rfl
    · rw [lt0 hlt, List.drop_of_length_le (by simp; omega), apOk16 hn, nx hk (by omega)]
      rfl
theorem c92 (r : SRel) (h1 : r.rules.length ≤ 9000) : CX Tryz.prog 97 [aRel r] [] (vI (eRules r.rules)) [] := by
  obtain ⟨g, g1, g2⟩ : ∃ g, r.rules.length < g ∧ 120 < g := ⟨r.rules.length + 121, by omega, by omega⟩
  refine cx_of s92.ok Tryz.func97 b92 rfl ((ev92 _ _ _ _ r g).trans ?_)
  have key := seenr_loop (valid := ruleOk) (key := SRule.name) (rest := fun x => textErr x.text) (l := r.rules) (d0 := rule0) (L := fun m n f i => L92_3 Aae ev115_v ok2 ix2 r g m n f i) (NX := lN 0) h1 (fun m k n f seen hk hr hn => by
    obtain ⟨q1, q2⟩ := ix_ge hr hn (r.rules.getD k rule0).name
    show L92_3 Aae ev115_v ok2 ix2 r g (m + 1) n f k = _
    rw [st92_3, lt1 hk, ge0, tn]
    have q1' : ok2 [AV.c (C.d (D.sl 1 n f)), AV.c (C.d (D.v (Value.string (r.rules.getD k rule0).name)))] = true := q1
    have q2' : decide (ix2 [AV.c (C.d (D.sl 1 n f)), AV.c (C.d (D.v (Value.string (r.rules.getD k rule0).name)))] ≥ 0) = inB seen (r.rules.getD k rule0).name := q2
    rw [q1', q2']
    have hi := fun hs => lp92i r g m n f k hs hk h1 hn g 0 (by omega) (by omega)
    unfold ruleOk textErr
    simp only [tt, cond_true]
    have e120 : decide (((r.rules.getD k rule0).text.size : Int) > 120) = decide (120 < (r.rules.getD k rule0).text.size) := by
      rw [Bool.eq_iff_iff, decide_eq_true_eq, decide_eq_true_eq]; omega
    rw [e120]
    cases Aae (r.rules.getD k rule0).name with
    | false => rfl
    | true =>
      cases ev115_v (r.rules.getD k rule0).name with
      | true => rfl
      | false =>
        cases inB seen (r.rules.getD k rule0).name with
        | true => rfl
        | false =>
          by_cases hs : 120 < (r.rules.getD k rule0).text.size
          · rw [decide_eq_true hs]; rfl
          · have hi' : L92_13 Aae ev115_v ok2 ix2 r g m g n f k 0 = _ := hi (by omega)
            rw [decide_eq_false hs]
            simp only [Bool.not_true, Bool.not_false, Bool.and_self, cond_true, cond_false]
            refine Eq.trans hi' ?_
            simp only [List.drop_zero]
            cases ((r.rules.getD k rule0).text.data.toList.any badByte) <;> rfl) (fun m n f => by show L92_3 Aae ev115_v ok2 ix2 r g (m + 1) n f (r.rules.length : Nat) = _; rw [st92_3, lt0 (Nat.lt_irrefl _)]; rfl) g 0 0 (fun _ => []) [] (.nil _) rfl (by omega) (by omega)
  refine Eq.trans (b := bif eRules r.rules != 0 then lN (eRules r.rules) else lN 0) key ?_
  cases hz : (eRules r.rules != 0) with
  | true => rfl
  | false =>
    have : eRules r.rules = 0 := by simpa using hz
    rw [this]; rfl
theorem cBt (a : Int × Int × Int) : CX Tryz.prog 134 [vI a.1, vI a.2.1, vI a.2.2] [] (vB (Aaa a.1 a.2.1 a.2.2)) [] := by
  refine cx_of (Orc.nil_ok _) Tryz.func134 (by kernel_rfl) rfl ((evBt a.1 a.2.1 a.2.2).trans ?_)
  unfold evBt_v Aaa
  cases decide (a.1 ≥ a.2.1) <;> rfl
theorem s93 : OrcS Tryz.prog (o93 Aae ok2 ix2) := sIx (.cons (.p decS_ok c16) (.cons (.p dec3_ok cBt) .nil))
theorem lp93i (r : SRel) (g mo n : Nat) (f : Nat → List D) (k : Nat) (seen : List ByteArray) (hr : RL busC e0 n f seen) (hk : k < r.sets.length) (hl : r.sets.length ≤ 9000) (hn : n ≤ 9000) (hs : okSet (r.sets.getD k set0) = true) (hg : (r.sets.getD k set0).sigs.length < g) :
    L93_9 Aae ok2 ix2 r g mo g n f k 0 = bif !(r.sets.getD k set0).sigs.all Aae then lN 7 else bif inB seen (r.sets.getD k set0).name then lN 8 else L93_3 Aae ok2 ix2 r g mo (n + 1) (appF n f (Aaf (busC (r.sets.getD k set0).name) 1)) ((k + 1 : Nat) : Int) := by
  have hS := lenOk_le hs
  obtain ⟨q1, q2⟩ := ix_ge hr hn (r.sets.getD k set0).name
  have q1' : ok2 [AV.c (C.d (D.sl 1 n f)), AV.c (C.d (D.v (Value.string (r.sets.getD k set0).name)))] = true := q1
  have q2' : decide (ix2 [AV.c (C.d (D.sl 1 n f)), AV.c (C.d (D.v (Value.string (r.sets.getD k set0).name)))] ≥ 0) = inB seen (r.sets.getD k set0).name := q2
  have l1 := anyL_loop (p := fun s => !Aae s) (l := (r.sets.getD k set0).sigs) (d0 := e0) (L := fun m i => L93_9 Aae ok2 ix2 r g mo m n f k i) (A := lN 7) (B := bif inB seen (r.sets.getD k set0).name then lN 8 else L93_3 Aae ok2 ix2 r g mo (n + 1) (appF n f (Aaf (busC (r.sets.getD k set0).name) 1)) ((k + 1 : Nat) : Int)) (fun m j hj => by
    show L93_9 Aae ok2 ix2 r g mo (m + 1) n f k j = _
    rw [st93_9, tn, lt1 hj, ge0, tn, nx hj hS]; rfl) (fun m => by
    show L93_9 Aae ok2 ix2 r g mo (m + 1) n f k ((r.sets.getD k set0).sigs.length : Nat) = _
    rw [st93_9, tn, lt0 (Nat.lt_irrefl _), q1', q2', apOk16 hn, nx hk (by omega)]; rfl) g 0 (by omega) (by omega)
  have e1 : L93_9 Aae ok2 ix2 r g mo g n f k 0 = _ := l1
  rw [e1]
  simp only [List.drop_zero]
  rw [← anyAll, Bool.not_not]
theorem int_eq (x : SPub) : ev123_v x = bif !Aaa x.fst 1 100 then 2 else bif !Aaa x.max x.fst 1000 then 2 else 0 := by
  unfold ev123_v Aaa
  cases decide (x.fst ≥ 1) <;> cases decide (x.fst ≤ 100) <;> cases decide (x.max ≥ x.fst) <;> cases decide (x.max ≤ 1000) <;> rfl
noncomputable def refLists (r : SRel) : Int := bif eSets r.sets != 0 then eSets r.sets else bif ePubs r.pubs != 0 then ePubs r.pubs else eSubs r.subs
theorem k93c (r : SRel) (g : Nat) (h3 : r.subs.length ≤ 9000) (g3 : r.subs.length < g) : L93_30 Aae ok2 ix2 r g g 0 (fun _ => []) 0 = bif eSubs r.subs != 0 then lN (eSubs r.subs) else lN 0 := by
  have kc := seenr_loop (valid := subOk) (key := SSub.loc) (rest := rest0) (l := r.subs) (d0 := sub0) (L := fun m n f i => L93_30 Aae ok2 ix2 r g m n f i) (NX := lN 0) h3 (fun m k n f seen hk hr hn => by
    obtain ⟨q1, q2⟩ := ix_ge hr hn (r.subs.getD k sub0).loc
    have q1' : ok2 [AV.c (C.d (D.sl 1 n f)), AV.c (C.d (D.v (Value.string (r.subs.getD k sub0).loc)))] = true := q1
    have q2' : decide (ix2 [AV.c (C.d (D.sl 1 n f)), AV.c (C.d (D.v (Value.string (r.subs.getD k sub0).loc)))] ≥ 0) = inB seen (r.subs.getD k sub0).loc := q2
    have st := st93_30 Aae ok2 ix2 r g m n f k
    rw [lt1 hk, ge0, tn, q1', q2', apOk16 hn, nx hk (by omega)] at st
    refine Eq.trans st ?_
    unfold subOk
    simp only [tt, cond_true]
    generalize L93_30 Aae ok2 ix2 r g m = LL
    cases Aae (r.subs.getD k sub0).loc <;> cases Aae (r.subs.getD k sub0).dev <;> cases Aae (r.subs.getD k sub0).set <;> cases Aae (r.subs.getD k sub0).sig <;> rfl) (fun m n f => by
    have st := st93_30 Aae ok2 ix2 r g m n f (r.subs.length : Nat)
    rw [lt0 (Nat.lt_irrefl _)] at st
    rw [cond_false] at st
    exact st) g 0 0 (fun _ => []) [] (.nil _) rfl (by omega) (by omega)
  exact kc
theorem k93b (r : SRel) (g : Nat) (h2 : r.pubs.length ≤ 9000) (g2 : r.pubs.length < g) : L93_18 Aae ok2 ix2 r g g 0 (fun _ => []) 0 = bif ePubs r.pubs != 0 then lN (ePubs r.pubs) else L93_30 Aae ok2 ix2 r g g 0 (fun _ => []) 0 := by
  have kb := seenr_loop (valid := pubOk) (key := SPub.set) (rest := ev123_v) (l := r.pubs) (d0 := pub0) (L := fun m n f i => L93_18 Aae ok2 ix2 r g m n f i) (NX := L93_30 Aae ok2 ix2 r g g 0 (fun _ => []) 0) h2 (fun m k n f seen hk hr hn => by
    obtain ⟨q1, q2⟩ := ix_ge hr hn (r.pubs.getD k pub0).set
    have q1' : ok2 [AV.c (C.d (D.sl 1 n f)), AV.c (C.d (D.v (Value.string (r.pubs.getD k pub0).set)))] = true := q1
    have q2' : decide (ix2 [AV.c (C.d (D.sl 1 n f)), AV.c (C.d (D.v (Value.string (r.pubs.getD k pub0).set)))] ≥ 0) = inB seen (r.pubs.getD k pub0).set := q2
    have st := st93_18 Aae ok2 ix2 r g m n f k
    rw [lt1 hk, ge0, tn, q1', q2', apOk16 hn, nx hk (by omega)] at st
    refine Eq.trans st ?_
    rw [int_eq]
    unfold pubOk
    simp only [tt, cond_true]
    generalize L93_18 Aae ok2 ix2 r g m = LL
    generalize L93_30 Aae ok2 ix2 r g g 0 (fun x => []) 0 = MM
    cases Aae (r.pubs.getD k pub0).set <;> cases Aaa (r.pubs.getD k pub0).fst 1 100 <;> cases Aaa (r.pubs.getD k pub0).max (r.pubs.getD k pub0).fst 1000 <;> rfl) (fun m n f => by
    have st := st93_18 Aae ok2 ix2 r g m n f (r.pubs.length : Nat)
    rw [lt0 (Nat.lt_irrefl _)] at st
    rw [cond_false] at st
    exact st) g 0 0 (fun _ => []) [] (.nil _) rfl (by omega) (by omega)
  exact kb
theorem k93a (r : SRel) (g : Nat) (h1 : r.sets.length ≤ 9000) (g1 : r.sets.length < g) (g4 : ∀ k, (r.sets.getD k set0).sigs.length < g) (hs : r.sets.all okSet = true) : L93_3 Aae ok2 ix2 r g g 0 (fun _ => []) 0 = bif eSets r.sets != 0 then lN (eSets r.sets) else L93_18 Aae ok2 ix2 r g g 0 (fun _ => []) 0 := by
  have ka := seenr_loop (valid := setOk) (key := SSet.name) (rest := rest0) (l := r.sets) (d0 := set0) (L := fun m n f i => L93_3 Aae ok2 ix2 r g m n f i) (NX := L93_18 Aae ok2 ix2 r g g 0 (fun _ => []) 0) h1 (fun m k n f seen hk hr hn => by
    have hi : L93_9 Aae ok2 ix2 r g m g n f k 0 = _ := lp93i r g m n f k seen hr hk h1 hn (all_getD hs rfl k) (g4 k)
    have st := st93_3 Aae ok2 ix2 r g m n f k
    rw [lt1 hk, ge0, tn, hi] at st
    refine Eq.trans st ?_
    unfold setOk
    simp only [tt, cond_true]
    generalize L93_3 Aae ok2 ix2 r g m = LL
    generalize L93_18 Aae ok2 ix2 r g g 0 (fun x => []) 0 = MM
    cases Aae (r.sets.getD k set0).name <;> cases (r.sets.getD k set0).sigs.all Aae <;> rfl) (fun m n f => by
    have st := st93_3 Aae ok2 ix2 r g m n f (r.sets.length : Nat)
    rw [lt0 (Nat.lt_irrefl _)] at st
    rw [cond_false] at st
    exact st) g 0 0 (fun _ => []) [] (.nil _) rfl (by omega) (by omega)
  exact ka
theorem c93 (r : SRel) (h1 : r.sets.length ≤ 9000) (h2 : r.pubs.length ≤ 9000) (h3 : r.subs.length ≤ 9000) (hs : r.sets.all okSet = true) : CX Tryz.prog 98 [aRel r] [] (vI (refLists r)) [] := by
  obtain ⟨g, g1, g2, g3, g4⟩ : ∃ g, r.sets.length < g ∧ r.pubs.length < g ∧ r.subs.length < g ∧ ∀ k, (r.sets.getD k set0).sigs.length < g := by
    have key : ∀ l : List SSet, ∃ g, ∀ k, (l.getD k set0).sigs.length < g := by
      intro l
      induction l with
      | nil => exact ⟨1, fun k => by simp [set0]⟩
      | cons x t ih =>
        obtain ⟨g, hg⟩ := ih
        refine ⟨g + x.sigs.length + 1, fun k => ?_⟩
        cases k with
        | zero => simp only [List.getD_cons_zero]; omega
        | succ k => have := hg k; simp only [List.getD_cons_succ]; omega
    obtain ⟨g, hg⟩ := key r.sets
    exact ⟨g + r.sets.length + r.pubs.length + r.subs.length + 1, by omega, by omega, by omega, fun k => by have := hg k; omega⟩
  refine cx_of s93.ok Tryz.func98 b93 rfl ((ev93 _ _ _ r g).trans ?_)
  have ec := k93c r g h3 g3
  have eb := k93b r g h2 g2
  have ea := k93a r g h1 g1 g4 hs
  refine Eq.trans ea ?_
  rw [eb, ec]
  unfold refLists
  have z : ∀ n : Int, (bif n != 0 then lN n else lN 0) = lN n := fun n => by
    cases h : (n != 0) with
    | true => rfl
    | false => have : n = 0 := by simpa using h
               rw [this]; rfl
  rw [z]
  cases (eSets r.sets != 0) <;> cases (ePubs r.pubs != 0) <;> rfl
end Go.Proofs.YtmnfibmlhmeheaaGreatDoor.se
namespace Go.Proofs.YtmnfibmlhmeheaaGreatDoor.se
open Go.RowKit Go.Eb
theorem tAnd (a b : Bool) : (bif a then b else false) = (a && b) := by cases a <;> rfl
theorem tNand (a b : Bool) : (bif !a then true else b) = !(a && !b) := by cases a <;> cases b <;> rfl
theorem neI (a b : Int) : (a != b) = !(a == b) := rfl
def zLine (r : SRel) : Bool :=
  ((r.zon0 == false && (r.zfw0 == false && (r.zx0 == 0 && (r.zr0 == 0 && (r.zl0 == 0 && (r.zd0 == 0 && true)))))) &&
    ((r.zon1 == false && (r.zfw1 == false && (r.zx1 == 0 && (r.zr1 == 0 && (r.zl1 == 0 && (r.zd1 == 0 && true)))))) &&
      ((r.zon2 == false && (r.zfw2 == false && (r.zx2 == 0 && (r.zr2 == 0 && (r.zl2 == 0 && (r.zd2 == 0 && true)))))) && true))) &&
  (r.min == 0 && (r.kre == 0 && (r.kim == 0 && (r.scheme == 0 && (r.wait == 0 && (r.guard == 0 && (r.shots == 0 && (r.dead == 0 && r.reclaim == 0))))))))
def zSrc (r : SRel) : Bool := (r.uon == false && (r.upk == 0 && (r.udl == 0 && true))) && (r.oon == false && (r.opk == 0 && (r.odl == 0 && true)))
def zBus (r : SRel) : Bool := (r.don == false && (r.dpk == 0 && (r.ddl == 0 && true))) && ((r.ion == false && (r.ipk == 0 && (r.idl == 0 && true))) && (r.fon == false && (r.fpk == 0 && (r.fdl == 0 && true))))
def zDif (r : SRel) : Bool := r.diff == 0 && (r.num == 0 && (r.den == 0 && r.harm == 0))
def usedOk (r : SRel) : Bool := (r.kind == 1 || zLine r) && ((r.kind == 2 || zSrc r) && (bif r.kind == 4 then zBus r else zDif r))
theorem used_eq (r : SRel) : ev78_v r = usedOk r := by
  unfold ev78_v usedOk zLine zSrc zBus zDif
  simp only [neI]
  generalize (r.kind == 1) = k1
  generalize (r.kind == 2) = k2
  generalize (r.kind == 4) = k4
  cases k1 <;> cases k2 <;> cases k4 <;> simp only [cond_true, cond_false, Bool.not_true, Bool.not_false, tAnd, Bool.and_assoc, Bool.true_and, Bool.and_true, Bool.false_and, Bool.and_false, Bool.true_or, Bool.false_or, Bool.cond_self]
theorem foreign_eq (r : SRel) : ev88_v r = !usedOk r := by
  unfold ev88_v usedOk zLine zSrc zBus zDif
  simp only [neI]
  generalize (r.kind == 1) = k1
  generalize (r.kind == 2) = k2
  generalize (r.kind == 4) = k4
  cases k1 <;> cases k2 <;> cases k4 <;> simp only [cond_true, cond_false, Bool.not_true, Bool.not_false, tNand, Bool.not_not, Bool.and_assoc, Bool.true_and, Bool.and_true, Bool.false_and, Bool.and_false, Bool.true_or, Bool.false_or, Bool.cond_self]
theorem zones_eq (r : SRel) : ev130_v r = ev79_v r := rfl
theorem missing_eq (r : SRel) : ev90_v r = !ev83_v r := by
  unfold ev90_v ev83_v
  generalize (r.scheme == 1) = k1
  generalize (r.scheme == 2) = k2
  generalize (r.scheme == 3) = k3
  generalize r.zon0 = a
  generalize r.zfw0 = b
  generalize r.zon1 = c
  generalize r.zfw1 = d
  generalize r.zon2 = e
  generalize r.zfw2 = f
  cases k1 <;> cases k2 <;> cases k3 <;> cases a <;> cases b <;> cases c <;> cases d <;> cases e <;> cases f <;> rfl
def nSch (r : SRel) : Bool := Aaa r.scheme 0 3 && (Aaa r.guard 0 50 && !(r.scheme == 0 && r.guard != 0))
def nWait (r : SRel) : Bool := bif r.scheme == 3 then Aaa r.wait 1 50 else r.wait == 0
def nEl (r : SRel) : Bool := elOk r.don r.dpk r.ddl 0 && (elOk r.uon r.upk r.udl 0 && (elOk r.oon r.opk r.odl 0 && elOk r.fon r.fpk r.fdl 1))
def nInv (r : SRel) : Bool := bif r.ion then Aaa r.ipk 1 16383 && Aaa r.idl 1 1000 else r.ipk == 0 && r.idl == 0
def nRec (r : SRel) : Bool := Aaa r.shots 0 3 && (bif r.shots == 0 then r.dead == 0 && r.reclaim == 0 else Aaa r.dead 1 100 && Aaa r.reclaim 1 1000)
def nDif (r : SRel) : Bool := bif r.diff == 0 then r.num == 0 && (r.den == 0 && r.harm == 0) else Aaa r.diff 0 16383 && (Aaa r.den 1 100 && (Aaa r.num 0 r.den && Aaa r.harm 0 100))
theorem g13 (okr zo : List AV → Bool) (r : SRel) : L89_13 okr zo r 1 1 = lB (bif r.diff == 0 then true else Aaa r.den 1 100 && (Aaa r.num 0 r.den && Aaa r.harm 0 100)) := by
  rw [st89_13]
  cases (r.diff == 0) <;> cases Aaa r.den 1 100 <;> cases Aaa r.num 0 r.den <;> rfl
theorem g11 (okr zo : List AV → Bool) (r : SRel) : L89_11 okr zo r 1 1 = lB (nDif r) := by
  rw [st89_11, g13]
  unfold nDif
  by_cases h : r.diff = 0
  · rw [h]
    simp only [neI]
    have w : Aaa 0 0 16383 = true := rfl
    rw [w]
    cases (r.num == 0) <;> cases (r.den == 0) <;> cases (r.harm == 0) <;> rfl
  · have h' : (r.diff == 0) = false := by simpa using h
    rw [h']
    cases Aaa r.diff 0 16383 <;> rfl
theorem g9 (okr zo : List AV → Bool) (r : SRel) : L89_9 okr zo r 1 1 = lB (nRec r && nDif r) := by
  rw [st89_9, g11]
  unfold nRec
  by_cases h : r.shots = 0
  · rw [h]
    simp only [neI]
    have w : Aaa 0 0 3 = true := rfl
    have w2 : decide ((0 : Int) > 0) = false := rfl
    rw [w, w2]
    cases (r.dead == 0) <;> cases (r.reclaim == 0) <;> rfl
  · have h' : (r.shots == 0) = false := by simpa using h
    rw [h']
    by_cases h2 : r.shots > 0
    · rw [decide_eq_true h2]
      cases Aaa r.shots 0 3 <;> cases Aaa r.dead 1 100 <;> cases Aaa r.reclaim 1 1000 <;> rfl
    · have w : Aaa r.shots 0 3 = false := by unfold Aaa; rw [decide_eq_false (by omega)]; rfl
      rw [w]
      rfl
theorem g7 (okr zo : List AV → Bool) (r : SRel) : L89_7 okr zo r 1 1 = lB (nInv r && (nRec r && nDif r)) := by
  rw [st89_7, g9]
  unfold nInv
  generalize (nRec r && nDif r) = q
  cases r.ion <;> cases Aaa r.ipk 1 16383 <;> cases Aaa r.idl 1 1000 <;> cases (r.ipk == 0) <;> cases (r.idl == 0) <;> rfl
theorem g5 (okr zo : List AV → Bool) (r : SRel) : L89_5 okr zo r 1 1 = lB (nEl r && (nInv r && (nRec r && nDif r))) := by
  rw [st89_5, g7]
  unfold nEl
  generalize (nInv r && (nRec r && nDif r)) = q
  cases elOk r.don r.dpk r.ddl 0 <;> cases elOk r.uon r.upk r.udl 0 <;> cases elOk r.oon r.opk r.odl 0 <;> cases elOk r.fon r.fpk r.fdl 1 <;> rfl
theorem g3 (okr zo : List AV → Bool) (r : SRel) : L89_3 okr zo r 1 1 = lB (nWait r && (nEl r && (nInv r && (nRec r && nDif r)))) := by
  rw [st89_3, g5]
  unfold nWait
  generalize (nEl r && (nInv r && (nRec r && nDif r))) = q
  simp only [neI]
  cases (r.scheme == 3) <;> cases Aaa r.wait 1 50 <;> cases (r.wait == 0) <;> rfl
def nums (r : SRel) : Bool := nSch r && (nWait r && (nEl r && (nInv r && (nRec r && nDif r))))
theorem g1 (okr zo : List AV → Bool) (r : SRel) (h1 : okr [aRel r] = true) : Aal Tryz.prog (oNu okr zo) ann89 1 Tryz.f94 (Aad Tryz.f94) [aRel r] [] = lB (zo [aRel r] && nums r) := by
  refine (ev89 okr zo r 1).trans ?_
  rw [h1, g3]
  unfold nums nSch
  generalize (nWait r && (nEl r && (nInv r && (nRec r && nDif r)))) = q
  simp only [neI]
  cases zo [aRel r] <;> cases Aaa r.scheme 0 3 <;> cases Aaa r.guard 0 50 <;> cases (r.scheme == 0) <;> cases (r.guard == 0) <;> rfl
theorem e80 (r : SRel) : ev80_v r = (nSch r && nWait r) := by
  unfold ev80_v nSch nWait
  simp only [neI]
  by_cases h : r.guard = 0
  · rw [h]
    have w : Aaa 0 0 50 = true := rfl
    rw [w]
    cases Aaa r.scheme 0 3 <;> cases (r.scheme == 3) <;> cases Aaa r.wait 1 50 <;> cases (r.scheme == 0) <;> cases (r.wait == 0) <;> rfl
  · have h' : (r.guard == 0) = false := by simpa using h
    rw [h']
    cases Aaa r.scheme 0 3 <;> cases (r.scheme == 3) <;> cases Aaa r.wait 1 50 <;> cases (r.scheme == 0) <;> cases (r.wait == 0) <;> cases Aaa r.guard 0 50 <;> rfl
theorem e81 (r : SRel) : ev81_v r = (nInv r && nEl r) := by
  unfold ev81_v nInv nEl
  cases r.ion <;> cases Aaa r.ipk 1 16383 <;> cases Aaa r.idl 1 1000 <;> cases (r.ipk == 0) <;> cases (r.idl == 0) <;> cases elOk r.don r.dpk r.ddl 0 <;> cases elOk r.uon r.upk r.udl 0 <;> cases elOk r.oon r.opk r.odl 0 <;> rfl
theorem within_pos (n k : Int) (h : (n == 0) = false) : Aaa n 1 k = Aaa n 0 k := by
  have h' : n ≠ 0 := by simpa using h
  unfold Aaa
  by_cases h1 : n ≥ 1
  · rw [decide_eq_true h1, decide_eq_true (show n ≥ 0 by omega)]
  · rw [decide_eq_false h1, decide_eq_false (show ¬ n ≥ 0 by omega)]
theorem e82 (r : SRel) : ev82_v r = (nRec r && nDif r) := by
  unfold ev82_v nRec nDif
  simp only [neI]
  have hs : (r.shots == 0) = true → Aaa r.shots 0 3 = true := fun h => by
    have : r.shots = 0 := by simpa using h
    rw [this]; rfl
  have hs2 := within_pos r.shots 3
  have hd2 := within_pos r.diff 16383
  cases a : (r.shots == 0) with
  | true =>
    rw [hs a]
    cases b : (r.diff == 0) with
    | true => cases (r.dead == 0) <;> cases (r.reclaim == 0) <;> cases (r.num == 0) <;> cases (r.den == 0) <;> rfl
    | false =>
      rw [hd2 b]
      cases (r.dead == 0) <;> cases (r.reclaim == 0) <;> cases Aaa r.diff 0 16383 <;> cases Aaa r.den 1 100 <;> cases Aaa r.num 0 r.den <;> rfl
  | false =>
    rw [hs2 a]
    cases b : (r.diff == 0) with
    | true => cases Aaa r.shots 0 3 <;> cases Aaa r.dead 1 100 <;> cases Aaa r.reclaim 1 1000 <;> cases (r.num == 0) <;> cases (r.den == 0) <;> rfl
    | false =>
      rw [hd2 b]
      cases Aaa r.shots 0 3 <;> cases Aaa r.dead 1 100 <;> cases Aaa r.reclaim 1 1000 <;> cases Aaa r.diff 0 16383 <;> cases Aaa r.den 1 100 <;> cases Aaa r.num 0 r.den <;> rfl
theorem nums_eq (r : SRel) : nums r = (ev80_v r && (ev81_v r && ev82_v r)) := by
  rw [e80, e81, e82]
  unfold nums
  cases nSch r <;> cases nWait r <;> cases nEl r <;> cases nInv r <;> rfl
end Go.Proofs.YtmnfibmlhmeheaaGreatDoor.se
namespace Go.Proofs.YtmnfibmlhmeheaaGreatDoor.se
open Go.RowKit Go.Eb
structure KOn where
  okn : List AV → Bool
  nm : List AV → List ByteArray
  oki : List AV → Bool
  ix : List AV → Int
  okp : List AV → Bool
  pl : List AV → Int
  okr : List AV → Bool
  fo : List AV → Bool
  nu : List AV → Bool
  mi : List AV → Bool
  ma : List AV → Bool
  oku : List AV → Bool
  ru : List AV → Int
  li : List AV → Int
noncomputable def oOn (Z : KOn) (nk : ByteArray → Bool) : Orc := Orc.cons 31 (ansP decS fun s => vB (nk s)) (Orc.cons 91 (ansG Z.okn fun x => .c (.d (Aab (Z.nm x)))) (Orc.cons 85 (ansL Z.oki fun x => vI (Z.ix x)) (Orc.cons 92 (ansG Z.okp fun x => vI (Z.pl x))
  (Orc.cons 93 (ansG Z.okr fun x => vB (Z.fo x)) (Orc.cons 94 (ansG Z.okr fun x => vB (Z.nu x)) (Orc.cons 95 (ansG Z.okr fun x => vB (Z.mi x)) (Orc.cons 96 (ansG Z.okr fun x => vB (Z.ma x))
  (Orc.cons 97 (ansG Z.oku fun x => vI (Z.ru x)) (Orc.cons 98 (ansG Z.oku fun x => vI (Z.li x)) Orc.nil)))))))))
noncomputable def annon7 : Ann := annOf [(6, ⟨[5, 1, 3, 7], []⟩)]
noncomputable def Lon7_6 (Z : KOn) (nk : ByteArray → Bool) (s : SSta) (b : List SRel) (r : SRel) (g m : Nat) (i7 : Int) := LK Tryz.prog (oOn Z nk) annon7 0 g Tryz.f41 6 m ⟨frm [(1, .c (.d (Aac 53 relC rel0 b))), (3, .c (.ptr 0 0)), (5, .c (.ptr 1 0)), (7, .c (.d (.v (.int .i64 i7))))] 0 Tryz.f41.ntmps, [(0, Blk.cells (List.map C.d (staC s)) 27), (1, Blk.cells (List.map C.d (relC r)) 51)], 2⟩
theorem bon7 : Tryz.f41.body = some (Aad Tryz.f41) := by kernel_rfl
theorem evon7 (Z : KOn) (nk : ByteArray → Bool) (s : SSta) (b : List SRel) (r : SRel) (g : Nat) : Aal Tryz.prog (oOn Z nk) annon7 g Tryz.f41 (Aad Tryz.f41) [aSta s, .c (.d (relsD b)), aRel r] [] =
 (bif !nk (SRel.name r) then some (T.leaf (AV.c (.d (.v (.int .i64 (7 : Int)))), [])) else (bif KOn.okn Z [AV.agg (List.map C.d (staC s))] then (bif KOn.oki Z [AV.c
 (C.d (Aac (1) busC e0 (KOn.nm Z [AV.agg (List.map C.d (staC s))]))), AV.c (.d (.v (.string (SRel.name r))))] then (bif decide (KOn.ix Z [AV.c (C.d (Aac ((1 :
 Nat)) busC e0 (KOn.nm Z [AV.agg (List.map C.d (staC s))]))), AV.c (.d (.v (.string (SRel.name r))))] ≥ (0 : Int)) then some (T.leaf (AV.c (.d (.v (.int .i64 (8
 : Int)))), [])) else Lon7_6 Z nk s b r g g ((0 : Int))) else none) else none)) := by kernel_rfl
theorem ston7_6 (Z : KOn) (nk : ByteArray → Bool) (s : SSta) (b : List SRel) (r : SRel) (g m : Nat) (i7 : Int) : Lon7_6 Z nk s b r g (m + 1) i7 =
 (bif decide (i7 < (↑(List.length b) : Int)) then (bif decide ((0 : Int) ≤ i7) && decide (i7 < (↑(List.length b) : Int)) then (bif ByteArray.toList (SRel.name (List.getD b (Int.toNat
 i7) rel0)) == ByteArray.toList (SRel.name r) then some (T.leaf (AV.c (.d (.v (.int .i64 (8 : Int)))), [])) else Lon7_6 Z nk s b r g m (IntKind.wrap .i64 (i7 +
 (1 : Int)))) else none) else (bif KOn.okp Z [AV.agg (List.map C.d (staC s)), AV.c (C.d (Aac (53) relC rel0 b)), AV.agg (List.map C.d (relC r))] then (bif KOn.pl Z [AV.agg
 (List.map C.d (staC s)), AV.c (C.d (Aac (53) relC rel0 b)), AV.agg (List.map C.d (relC r))] != (0 : Int) then some (T.leaf (AV.c (.d (.v (.int .i64 (KOn.pl Z
 [AV.agg (List.map C.d (staC s)), AV.c (C.d (Aac (53) relC rel0 b)), AV.agg (List.map C.d (relC r))])))), [])) else (bif KOn.okr Z [AV.agg (List.map C.d (relC r))] then
 (bif KOn.fo Z [AV.agg (List.map C.d (relC r))] then some (T.leaf (AV.c (.d (.v (.int .i64 (12 : Int)))), [])) else (bif KOn.okr Z [AV.agg (List.map C.d (relC r))] then
 (bif !KOn.nu Z [AV.agg (List.map C.d (relC r))] then some (T.leaf (AV.c (.d (.v (.int .i64 (2 : Int)))), [])) else (bif KOn.okr Z [AV.agg (List.map C.d (relC r))] then
 (bif KOn.mi Z [AV.agg (List.map C.d (relC r))] then some (T.leaf (AV.c (.d (.v (.int .i64 (11 : Int)))), [])) else (bif KOn.okr Z [AV.agg (List.map C.d (relC r))] then
 (bif KOn.ma Z [AV.agg (List.map C.d (relC r))] then some (T.leaf (AV.c (.d (.v (.int .i64 (3 : Int)))), [])) else (bif KOn.oku Z [AV.agg (List.map C.d (relC r))] then
 (bif KOn.ru Z [AV.agg (List.map C.d (relC r))] != (0 : Int) then some (T.leaf (AV.c (.d (.v (.int .i64 (KOn.ru Z [AV.agg (List.map C.d (relC r))])))), [])) else (bif
 KOn.oku Z [AV.agg (List.map C.d (relC r))] then some (T.leaf (AV.c (.d (.v (.int .i64 (KOn.li Z [AV.agg (List.map C.d (relC r))])))), [])) else none)) else none)) else
 none)) else none)) else none)) else none)) else none)) := by kernel_rfl
noncomputable def oCk (oko : List AV → Bool) (on : List AV → Int) : Orc := Orc.cons 41 (ansG oko fun x => vI (on x)) Orc.nil
noncomputable def annck7 : Ann := annOf [(2, ⟨[6, 1, 2], []⟩)]
noncomputable def Lck7_2 (oko : List AV → Bool) (on : List AV → Int) (s : SSta) (l : List SRel) (g m : Nat) (i6 : Int) := LK Tryz.prog (oCk oko on) annck7 0 g Tryz.f20 2 m ⟨frm [(1, .c (.d (Aac 53 relC rel0 l))), (2, .c (.ptr 0 0)), (6, .c (.d (.v (.int .i64 i6))))] 0 Tryz.f20.ntmps, [(0, Blk.cells (List.map C.d (staC s)) 27)], 1⟩
theorem bck7 : Tryz.f20.body = some (Aad Tryz.f20) := by kernel_rfl
theorem evck7 (oko : List AV → Bool) (on : List AV → Int) (s : SSta) (l : List SRel) (g : Nat) : Aal Tryz.prog (oCk oko on) annck7 g Tryz.f20 (Aad Tryz.f20) [aSta s, .c (.d (relsD l))] [] =
 Lck7_2 oko on s l g g ((0 : Int)) := by kernel_rfl
theorem stck7_2 (oko : List AV → Bool) (on : List AV → Int) (s : SSta) (l : List SRel) (g m : Nat) (i6 : Int) : Lck7_2 oko on s l g (m + 1) i6 =
 (bif decide (i6 < (↑(List.length l) : Int)) then (bif decide ((0 : Int) ≤ (↑(0 : Nat) : Int)) && decide ((↑(0 : Nat) : Int) ≤ i6) && decide (i6 ≤ (↑(List.length l) : Int)) then (bif
 decide ((0 : Int) ≤ i6) && decide (i6 < (↑(List.length l) : Int)) then (bif oko [AV.agg (List.map C.d (staC s)), AV.c (C.d (D.sl (53) (Int.toNat i6 - Int.toNat (↑(0 : Nat) :
 Int)) fun i => relC (List.getD l (Int.toNat (↑(0 : Nat) : Int) + i) rel0))), AV.agg (List.map C.d (relC (List.getD l (Int.toNat i6) rel0)))] then (bif on [AV.agg (List.map C.d (staC
 s)), AV.c (C.d (D.sl (53) (Int.toNat i6 - Int.toNat (↑(0 : Nat) : Int)) fun i => relC (List.getD l (Int.toNat (↑(0 : Nat) : Int) + i) rel0))), AV.agg (List.map C.d (relC
 (List.getD l (Int.toNat i6) rel0)))] != (0 : Int) then some (T.leaf (AV.tup [(false, [C.d (.v (.int .i64 i6))]), (false, [C.d (.v (.int .i64 (on [AV.agg
 (List.map C.d (staC s)), AV.c (C.d (D.sl (53) (Int.toNat i6 - Int.toNat (↑(0 : Nat) : Int)) fun i => relC (List.getD l (Int.toNat (↑(0 : Nat) : Int) + i) rel0))), AV.agg
 (List.map C.d (relC (List.getD l (Int.toNat i6) rel0)))])))])], [])) else Lck7_2 oko on s l g m (IntKind.wrap .i64 (i6 + (1 : Int)))) else none) else none) else none) else
 some (T.leaf (AV.tup [(false, [C.d (.v (.int .i64 (0 : Int)))]), (false, [C.d (.v (.int .i64 (0 : Int)))])], []))) := by kernel_rfl
end Go.Proofs.YtmnfibmlhmeheaaGreatDoor.se
namespace Go.Proofs.YtmnfibmlhmeheaaGreatDoor.st
open Go.RowKit Go.Eb
noncomputable def o9n (okn : List AV → Bool) (nm : List AV → List ByteArray) : Orc := Orc.cons 33 (ansG okn fun x => .c (.d (Aab (nm x)))) Orc.nil
noncomputable def ann9n : Ann := annOf []
theorem b9n : Tryz.f91.body = some (Aad Tryz.f91) := by kernel_rfl
theorem ev9n (okn : List AV → Bool) (nm : List AV → List ByteArray) (s : SSta) (g : Nat) : Aal Tryz.prog (o9n okn nm) ann9n g Tryz.f91 (Aad Tryz.f91) [aSta s] [] =
 (bif okn [AV.agg (List.map C.d (staC s)), AV.c (.d (.v (.int .i64 (↑(List.length (SSta.buses s)) : Int)))), AV.c (.d (.v (.int .i64 (↑(List.length
 (SSta.lines s)) : Int)))), AV.c (.d (.v (.int .i64 (↑(List.length (SSta.srcs s)) : Int)))), AV.c (.d (.v (.int .i64 (↑(List.length (SSta.bays s)) :
 Int))))] then some (T.leaf (AV.c (C.d (Aac (1) busC e0 (nm [AV.agg (List.map C.d (staC s)), AV.c (.d (.v (.int .i64 (↑(List.length (SSta.buses s)) : Int)))),
 AV.c (.d (.v (.int .i64 (↑(List.length (SSta.lines s)) : Int)))), AV.c (.d (.v (.int .i64 (↑(List.length (SSta.srcs s)) : Int)))), AV.c (C.d (D.v
 (Value.int IntKind.i64 (↑(List.length (SSta.bays s)) : Int))))]))), [])) else none) := by kernel_rfl
end Go.Proofs.YtmnfibmlhmeheaaGreatDoor.st
namespace Go.Proofs.YtmnfibmlhmeheaaGreatDoor.st
open Go.RowKit Go.Eb
abbrev eN5 := en5 aSta vN vN vN vN
theorem eN5_inj : InjT eN5 := en5_inj aSta_inj vN_inj vN_inj vN_inj vN_inj
def c5 (a : SSta × Nat × Nat × Nat × Nat) : Bool := (decide (a.2.1 ≤ a.1.buses.length) && (decide (a.2.2.1 ≤ a.1.lines.length) && (decide (a.2.2.2.1 ≤ a.1.srcs.length) && decide (a.2.2.2.2 ≤ a.1.bays.length)))) && (decide (a.2.1 ≤ 900) && (decide (a.2.2.1 ≤ 900) && (decide (a.2.2.2.1 ≤ 900) && decide (a.2.2.2.2 ≤ 900))))
def nm5 (a : SSta × Nat × Nat × Nat × Nat) : List ByteArray := namesOf a.1 a.2.1 a.2.2.1 a.2.2.2.1 a.2.2.2.2
theorem s9n : OrcS Tryz.prog (o9n (okG eN5 c5) fun x => nm5 (theT eN5 x)) := by
  refine .cons (.t' (r := fun a => .c (.d (Aab (nm5 a)))) fun a h => ?_) .nil
  unfold c5 at h
  simp only [Bool.and_eq_true, decide_eq_true_eq] at h
  exact c21 a.1 a.2.1 a.2.2.1 a.2.2.2.1 a.2.2.2.2 h.1.1 h.1.2.1 h.1.2.2.1 h.1.2.2.2 h.2.1 h.2.2.1 h.2.2.2.1 h.2.2.2.2
theorem cNm (s : SSta) (h1 : s.buses.length ≤ 900) (h2 : s.lines.length ≤ 900) (h3 : s.srcs.length ≤ 900) (h4 : s.bays.length ≤ 900) : CX Tryz.prog 91 [aSta s] [] (.c (.d (Aab (namesS s)))) [] := by
  refine cx_of s9n.ok Tryz.func91 b9n rfl ((ev9n _ _ s 1).trans ?_)
  have k := okG_enc eN5_inj (c := c5) (s, s.buses.length, s.lines.length, s.srcs.length, s.bays.length) (by unfold c5; simp only [h1, h2, h3, h4, Nat.le_refl, decide_true, tt])
  have t := theT_enc eN5_inj (s, s.buses.length, s.lines.length, s.srcs.length, s.bays.length)
  have e : nm5 (s, s.buses.length, s.lines.length, s.srcs.length, s.bays.length) = namesS s := by unfold nm5 namesOf namesS; simp
  simp only [en5, vN] at k t
  rw [k, t, e]
  rfl
end Go.Proofs.YtmnfibmlhmeheaaGreatDoor.st
namespace Go.Proofs.YtmnfibmlhmeheaaGreatDoor.se
open Go.RowKit Go.Eb Go.Proofs.YtmnfibmlhmeheaaGreatDoor.st
theorem cEm (a : Bool × Int × Int × Int) : CX Tryz.prog 135 [.agg [.d (dB a.1), .d (dI a.2.1), .d (dI a.2.2.1)], vI a.2.2.2] [] (vB (elOk a.1 a.2.1 a.2.2.1 a.2.2.2)) [] := by
  have hs : OrcS Tryz.prog oB3 := .cons (.p dec3_ok cBt) .nil
  refine cx_of hs.ok Tryz.func135 (by kernel_rfl) rfl ((evEm a.1 a.2.1 a.2.2.1 a.2.2.2).trans ?_)
  unfold evEm_v elOk
  cases a.1 <;> cases (a.2.1 == 0) <;> cases (a.2.2.1 == 0) <;> cases Aaa a.2.1 1 16383 <;> rfl
theorem sB3 : OrcS Tryz.prog oB3 := .cons (.p dec3_ok cBt) .nil
theorem c88 (r : SRel) : CX Tryz.prog 93 [aRel r] [] (vB (!usedOk r)) [] := by
  have := cx_of sB3.ok Tryz.func93 (by kernel_rfl) rfl (ev88 r)
  rw [foreign_eq] at this
  exact this
theorem c130 (r : SRel) : CX Tryz.prog 133 [aRel r] [] (vB (ev79_v r)) [] := by
  have := cx_of sB3.ok Tryz.func133 (by kernel_rfl) rfl (ev130 r)
  rw [zones_eq] at this
  exact this
theorem c90 (r : SRel) : CX Tryz.prog 95 [aRel r] [] (vB (!ev83_v r)) [] := by
  have := cx_of sB3.ok Tryz.func95 (by kernel_rfl) rfl (ev90 r)
  rw [missing_eq] at this
  exact this
theorem c89 (r : SRel) : CX Tryz.prog 94 [aRel r] [] (vB (ev79_v r && (ev80_v r && (ev81_v r && ev82_v r)))) [] := by
  have hs : OrcS Tryz.prog (oNu (okG eR fun _ => true) fun x => ev79_v (theT eR x)) := .cons (.t' (r := fun a => vB (ev79_v a)) fun a _ => c130 a) (.cons (.p decE_ok cEm) sB3)
  have k := okG_enc eR_inj (c := fun _ => true) r rfl
  have t := theT_enc eR_inj r
  have := cx_of hs.ok Tryz.func94 b89 rfl (g1 _ _ r k)
  have e : ev79_v (theT eR [aRel r]) = ev79_v r := congrArg ev79_v t
  rw [e, nums_eq] at this
  exact this
abbrev ePl := en3 aSta (aD relsD) aRel
theorem relsD_inj (a b : List SRel) (h : DE (relsD a) (relsD b)) : a = b := listD_inj relC_inj a b h
theorem ePl_inj : InjT ePl := en3_inj aSta_inj (aD_inj relsD_inj) aRel_inj
def cPl (a : SSta × List SRel × SRel) : Bool := lenOk a.1.bays && lenOk a.2.1
def cOu (r : SRel) : Bool := countsOk r && okRel r
def cSz (s : SSta) : Bool := decide (s.buses.length ≤ 900) && (decide (s.lines.length ≤ 900) && (decide (s.srcs.length ≤ 900) && decide (s.bays.length ≤ 900)))
noncomputable def ZOn : KOn where
  okn := okG eSt cSz
  nm x := namesS (theT eSt x)
  oki := ok2
  ix := ix2
  okp := okG ePl cPl
  pl x := placeErr (theT ePl x).1.bays ((theT ePl x).2.1.map SRel.bay) (theT ePl x).2.2
  okr := okG eR okRel
  fo x := !usedOk (theT eR x)
  nu x := ev79_v (theT eR x) && (ev80_v (theT eR x) && (ev81_v (theT eR x) && ev82_v (theT eR x)))
  mi x := !ev83_v (theT eR x)
  ma x := !countsOk (theT eR x)
  oku := okG eR cOu
  ru x := eRules (theT eR x).rules
  li x := refLists (theT eR x)
theorem countsOk_le {r : SRel} (h : countsOk r = true) : r.rules.length ≤ 16 ∧ r.sets.length ≤ 4 ∧ r.pubs.length ≤ 4 ∧ r.subs.length ≤ 24 := by
  unfold countsOk at h
  simp only [Bool.and_eq_true, decide_eq_true_eq] at h
  exact ⟨h.1, h.2.1, h.2.2.1, h.2.2.2.1⟩
theorem sOn : OrcS Tryz.prog (oOn ZOn Aae) := by
  refine .cons (.p decS_ok c16) (.cons (.t' (r := fun a => .c (.d (Aab (namesS a)))) fun a h => ?_) (.cons (.lt (r := fun (a : List ByteArray × ByteArray) => vI (idxF a.2 0 a.1)) Tryz.func85 bIx (fun _ => rfl) fun a h => c46 a.1 a.2 (lenOk_le h))
    (.cons (.t' (r := fun (a : SSta × List SRel × SRel) => vI (placeErr a.1.bays (a.2.1.map SRel.bay) a.2.2)) fun a h => ?_) (.cons (.t' (r := fun a => vB (!usedOk a)) fun a _ => c88 a) (.cons (.t' (r := fun a => vB (ev79_v a && (ev80_v a && (ev81_v a && ev82_v a)))) fun a _ => c89 a)
    (.cons (.t' (r := fun a => vB (!ev83_v a)) fun a _ => c90 a) (.cons (.t' (r := fun a => vB (!countsOk a)) fun a h => c91 a h) (.cons (.t' (r := fun (a : SRel) => vI (eRules a.rules)) fun a h => ?_) (.cons (.t' (r := fun a => vI (refLists a)) fun a h => ?_) .nil)))))))))
  · unfold cSz at h
    simp only [Bool.and_eq_true, decide_eq_true_eq] at h
    exact cNm a h.1 h.2.1 h.2.2.1 h.2.2.2
  · unfold cPl at h
    simp only [Bool.and_eq_true] at h
    exact c87 a.1 a.2.1 a.2.2 (lenOk_le h.1) h.2
  · unfold cOu at h
    simp only [Bool.and_eq_true] at h
    have := countsOk_le h.1
    exact c92 a (by omega)
  · unfold cOu at h
    simp only [Bool.and_eq_true] at h
    have := countsOk_le h.1
    exact c93 a (by omega) (by omega) (by omega) (okRel_len h.2).2.2.2.2
theorem inB_app (a b : List ByteArray) (s : ByteArray) : inB (a ++ b) s = (inB a s || inB b s) := by unfold inB; rw [List.any_append]
theorem cOn (s : SSta) (b : List SRel) (r : SRel) (hs : cSz s = true) (hb : lenOk b = true) (hr : okRel r = true) :
    CX Tryz.prog 41 [aSta s, .c (.d (relsD b)), aRel r] [] (vI (addErr s.bays (namesS s ++ b.map SRel.name) (b.map SRel.bay) r)) [] := by
  obtain ⟨g, hg⟩ : ∃ g, b.length < g := ⟨b.length + 1, by omega⟩
  have hs' := hs
  unfold cSz at hs'
  simp only [Bool.and_eq_true, decide_eq_true_eq] at hs'
  refine cx_of sOn.ok Tryz.func41 bon7 rfl ((evon7 ZOn Aae s b r g).trans ?_)
  have k1 : ZOn.okn [aSta s] = true := okG_enc eSt_inj (c := cSz) s hs
  have k2 : ZOn.nm [aSta s] = namesS s := congrArg namesS (theT_enc eSt_inj s)
  have hN : (namesS s).length ≤ 9000 := by unfold namesS; simp; omega
  have k3 : ZOn.oki [.c (.d (Aab (namesS s))), vS r.name] = true := okG_enc eIx_inj (c := cIx) (namesS s, r.name) (by unfold cIx lenOk; rw [decide_eq_true (by simp only; omega)])
  have k4 : ZOn.ix [.c (.d (Aab (namesS s))), vS r.name] = idxF r.name 0 (namesS s) := by
    show idxF (theT eIx _).2 0 (theT eIx _).1 = _
    have t : theT eIx [.c (.d (Aab (namesS s))), vS r.name] = (namesS s, r.name) := theT_enc eIx_inj (namesS s, r.name)
    rw [t]
  have k5 : ZOn.okp [aSta s, .c (.d (relsD b)), aRel r] = true := okG_enc ePl_inj (c := cPl) (s, b, r) (by unfold cPl; rw [hb]; unfold lenOk; rw [decide_eq_true (by simp only; omega)]; rfl)
  have t5 : theT ePl [aSta s, .c (.d (relsD b)), aRel r] = (s, b, r) := theT_enc ePl_inj (s, b, r)
  have k6 : ZOn.pl [aSta s, .c (.d (relsD b)), aRel r] = placeErr s.bays (b.map SRel.bay) r := by dsimp only [ZOn]; rw [t5]
  have k7 : ZOn.okr [aRel r] = true := okG_enc eR_inj (c := okRel) r hr
  have t := theT_enc eR_inj r
  have k8 : ZOn.fo [aRel r] = !usedOk r := congrArg (fun a => !usedOk a) t
  have k9 : ZOn.nu [aRel r] = (ev79_v r && (ev80_v r && (ev81_v r && ev82_v r))) := congrArg (fun a => ev79_v a && (ev80_v a && (ev81_v a && ev82_v a))) t
  have k10 : ZOn.mi [aRel r] = !ev83_v r := congrArg (fun a => !ev83_v a) t
  have k11 : ZOn.ma [aRel r] = !countsOk r := congrArg (fun a => !countsOk a) t
  have k12 : countsOk r = true → ZOn.oku [aRel r] = true := fun h => okG_enc eR_inj (c := cOu) r (by unfold cOu; rw [h, hr]; rfl)
  have k13 : ZOn.ru [aRel r] = eRules r.rules := congrArg (fun a : SRel => eRules a.rules) t
  have k14 : ZOn.li [aRel r] = refLists r := congrArg refLists t
  have fin : Lon7_6 ZOn Aae s b r g g 0 = bif b.any (fun x => x.name.toList == r.name.toList) then lN 8 else lN (bif placeErr s.bays (b.map SRel.bay) r != 0 then placeErr s.bays (b.map SRel.bay) r else restErr r) := by
    have l1 := anyL_loop (p := fun x : SRel => x.name.toList == r.name.toList) (l := b) (d0 := rel0) (L := fun m i => Lon7_6 ZOn Aae s b r g m i) (A := lN 8) (B := lN (bif placeErr s.bays (b.map SRel.bay) r != 0 then placeErr s.bays (b.map SRel.bay) r else restErr r)) (fun m k hk => by
      rw [ston7_6, lt1 hk, ge0, tn, nx hk (lenOk_le hb)]; rfl) (fun m => by
      rw [ston7_6, lt0 (Nat.lt_irrefl _), k5, k6, k7, k8, k9, k10, k11, k13, k14]
      unfold restErr
      rw [used_eq]
      cases hp : (placeErr s.bays (b.map SRel.bay) r != 0) with
      | true => rfl
      | false =>
        cases usedOk r with
        | false => rfl
        | true =>
          cases ev79_v r with
          | false => rfl
          | true =>
            cases ev80_v r with
            | false => rfl
            | true =>
              cases ev81_v r with
              | false => rfl
              | true =>
                cases ev82_v r with
                | false => rfl
                | true =>
                  cases ev83_v r with
                  | false => rfl
                  | true =>
                    cases hc : countsOk r with
                    | false => rfl
                    | true =>
                      rw [k12 hc]
                      unfold eLists refLists
                      cases (eRules r.rules != 0) <;> rfl) g 0 (by omega) (by omega)
    have e1 : Lon7_6 ZOn Aae s b r g g 0 = _ := l1
    rw [e1]
    simp only [List.drop_zero]
  rw [k1, k2, k3, k4, fin, idxF_ge]
  unfold addErr
  rw [inB_app]
  have hb2 : inB (b.map SRel.name) r.name = b.any (fun x => x.name.toList == r.name.toList) := by
    unfold inB
    rw [List.any_map]
    congr 1
    funext x
    rw [strEq']
    rfl
  rw [hb2]
  cases Aae r.name <;> cases inB (namesS s) r.name <;> cases b.any (fun x => x.name.toList == r.name.toList) <;> rfl
theorem ref_chk (s : SSta) : ∀ (l : List SRel) (i : Nat), i ≤ l.length → chkRels s.bays (namesS s ++ (l.take i).map SRel.name) ((l.take i).map SRel.bay) i (l.drop i) =
    if h : i < l.length then (bif addErr s.bays (namesS s ++ (l.take i).map SRel.name) ((l.take i).map SRel.bay) (l.getD i rel0) != 0 then ((i : Int), addErr s.bays (namesS s ++ (l.take i).map SRel.name) ((l.take i).map SRel.bay) (l.getD i rel0))
      else chkRels s.bays (namesS s ++ (l.take (i + 1)).map SRel.name) ((l.take (i + 1)).map SRel.bay) (i + 1) (l.drop (i + 1))) else (0, 0) := fun l i hi => by
  by_cases h : i < l.length
  · rw [dif_pos h, drop_at' (d := rel0) h]
    simp only [chkRels]
    have e : l.take (i + 1) = l.take i ++ [l.getD i rel0] := by
      rw [List.take_succ_eq_append_getElem h]
      simp [List.getD, h]
    rw [e]
    simp only [List.map_append, List.map_cons, List.map_nil, List.append_assoc]
  · rw [dif_neg h, List.drop_of_length_le (by omega)]
    rfl
abbrev tk (l : List SRel) (i : Int) : D := .sl 53 (i.toNat - ((0 : Nat) : Int).toNat) fun j => relC (l.getD (((0 : Nat) : Int).toNat + j) rel0)
theorem tk_take (l : List SRel) (k : Nat) (hk : k ≤ l.length) : DE (tk l k) (relsD (l.take k)) ∧ DE (relsD (l.take k)) (tk l k) := by
  have e : (k : Int).toNat - ((0 : Nat) : Int).toNat = (l.take k).length := by simp; omega
  have f : ∀ i, i < (l.take k).length → relC (l.getD (((0 : Nat) : Int).toNat + i) rel0) = relC ((l.take k).getD i rel0) := fun i hi => by
    have hi' : i < k := by simp at hi; omega
    have e0 : ((0 : Nat) : Int).toNat + i = i := by simp
    rw [e0]
    congr 1
    simp only [List.getD_eq_getElem?_getD, List.getElem?_take, hi', if_true]
  unfold tk
  rw [e]
  exact ⟨.sl_eq f, .sl_eq fun i hi => (f i hi).symm⟩
def cOe (a : SSta × List SRel × SRel) : Bool := cSz a.1 && (lenOk a.2.1 && okRel a.2.2)
theorem cCk (s : SSta) (l : List SRel) (hs : cSz s = true) (hl : lenOk l = true) (ha : l.all okRel = true) : CX Tryz.prog 20 [aSta s, .c (.d (relsD l))] [] (vP (chkRels s.bays (namesS s) [] 0 l)) [] := by
  have hS : OrcS Tryz.prog (oCk (okG ePl cOe) fun x => addErr (theT ePl x).1.bays (namesS (theT ePl x).1 ++ (theT ePl x).2.1.map SRel.name) ((theT ePl x).2.1.map SRel.bay) (theT ePl x).2.2) :=
    .cons (.t' (r := fun (a : SSta × List SRel × SRel) => vI (addErr a.1.bays (namesS a.1 ++ a.2.1.map SRel.name) (a.2.1.map SRel.bay) a.2.2)) fun a h => by
      unfold cOe at h
      simp only [Bool.and_eq_true] at h
      exact cOn a.1 a.2.1 a.2.2 h.1 h.2.1 h.2.2) .nil
  obtain ⟨g, hg⟩ : ∃ g, l.length < g := ⟨l.length + 1, by omega⟩
  refine cx_of hS.ok Tryz.func20 bck7 rfl ((evck7 _ _ s l g).trans ?_)
  have hl' := lenOk_le hl
  have lp : ∀ (m k : Nat), k ≤ l.length → l.length - k < m → Lck7_2 (okG ePl cOe) (fun x => addErr (theT ePl x).1.bays (namesS (theT ePl x).1 ++ (theT ePl x).2.1.map SRel.name) ((theT ePl x).2.1.map SRel.bay) (theT ePl x).2.2) s l g m k =
      some (.leaf (vP (chkRels s.bays (namesS s ++ (l.take k).map SRel.name) ((l.take k).map SRel.bay) k (l.drop k)), [])) := by
    intro m
    induction m with
    | zero => intro k _ h; omega
    | succ m ih =>
      intro k hk h
      rw [stck7_2, ref_chk s l k hk]
      by_cases hlt : k < l.length
      · rw [dif_pos hlt, lt1 hlt, ge0 k, tn, nx hlt hl', ih (k + 1) (by omega) (by omega)]
        have b1 : decide (((0 : Nat) : Int) ≤ (k : Int)) = true := decide_eq_true (by omega)
        have b2 : decide ((k : Int) ≤ (l.length : Int)) = true := decide_eq_true (by omega)
        have b3 : decide ((0 : Int) ≤ ((0 : Nat) : Int)) = true := rfl
        rw [b1, b2, b3]
        obtain ⟨d1, d2⟩ := tk_take l k hk
        have hr : okRel (l.getD k rel0) = true := all_getD ha rfl k
        have a1 : Asle [aSta s, .c (.d (tk l k)), aRel (l.getD k rel0)] (ePl (s, l.take k, l.getD k rel0)) := .cons (.refl _) (.cons d1 (.cons (.refl _) .nil))
        have a2 : Asle (ePl (s, l.take k, l.getD k rel0)) [aSta s, .c (.d (tk l k)), aRel (l.getD k rel0)] := .cons (.refl _) (.cons d2 (.cons (.refl _) .nil))
        have q1 : okG ePl cOe [aSta s, .c (.d (tk l k)), aRel (l.getD k rel0)] = true := okG_of ePl_inj a1 a2 (by
          unfold cOe lenOk
          rw [hs, hr, decide_eq_true (by simp; omega)]; rfl)
        have q2 : theT ePl [aSta s, .c (.d (tk l k)), aRel (l.getD k rel0)] = (s, l.take k, l.getD k rel0) := theT_of ePl_inj a1 a2
        unfold tk at q1 q2
        rw [tn] at q1 q2
        rw [q1, q2]
        simp only [tt, cond_true]
        generalize addErr s.bays (namesS s ++ (l.take k).map SRel.name) ((l.take k).map SRel.bay) (l.getD k rel0) = e
        cases (e != 0) <;> rfl
      · rw [dif_neg hlt, lt0 hlt]
        rfl
  have e := lp g 0 (by omega) (by omega)
  simp only [List.take_zero, List.map_nil, List.append_nil, List.drop_zero] at e
  exact e
end Go.Proofs.YtmnfibmlhmeheaaGreatDoor.se
namespace Go.Proofs.YtmnfibmlhmeheaaGreatDoor.st
open Go.RowKit Go.Eb
theorem shp_str {ds : List D} (h : Shp Tryz.prog 9 ds) : ∃ s, DEs ds (busC s) ∧ (fun _ => true) s = true := by
  obtain ⟨s, rfl, _⟩ := h.str_inv Tryz.underlying9
  exact ⟨s, .refl _, rfl⟩
theorem shp_imp {ds : List D} (h : Shp Tryz.prog 66 ds) : ∃ r x, ds = [dI r, dI x] := by
  obtain ⟨ps, rfl, hl, hp⟩ := h.struct_inv Tryz.underlying66
  match ps, hl with
  | [p0, p1], _ =>
    obtain ⟨r, rfl, _⟩ := (hp 0 _ p0 rfl rfl).int_inv Tryz.underlying3
    obtain ⟨x, rfl, _⟩ := (hp 1 _ p1 rfl rfl).int_inv Tryz.underlying3
    exact ⟨r, x, rfl⟩
theorem shp_line {ds : List D} (h : Shp Tryz.prog 98 ds) : ∃ x, DEs ds (Aao x) ∧ (fun _ => true) x = true := by
  obtain ⟨ps, rfl, hl, hp⟩ := h.struct_inv Tryz.underlying98
  match ps, hl with
  | [p0, p1, p2], _ =>
    obtain ⟨s, rfl, _⟩ := (hp 0 _ p0 rfl rfl).str_inv Tryz.underlying9
    obtain ⟨r1, x1, rfl⟩ := shp_imp (hp 1 _ p1 rfl rfl)
    obtain ⟨r0, x0, rfl⟩ := shp_imp (hp 2 _ p2 rfl rfl)
    exact ⟨⟨s, r1, x1, r0, x0⟩, .refl _, rfl⟩
theorem shp_src {ds : List D} (h : Shp Tryz.prog 101 ds) : ∃ x, DEs ds (Aan x) ∧ (fun _ => true) x = true := by
  obtain ⟨ps, rfl, hl, hp⟩ := h.struct_inv Tryz.underlying101
  match ps, hl with
  | [p0, p1, p2, p3], _ =>
    obtain ⟨s, rfl, _⟩ := (hp 0 _ p0 rfl rfl).str_inv Tryz.underlying9
    obtain ⟨e, rfl, _⟩ := (hp 1 _ p1 rfl rfl).int_inv Tryz.underlying3
    obtain ⟨r1, x1, rfl⟩ := shp_imp (hp 2 _ p2 rfl rfl)
    obtain ⟨r0, x0, rfl⟩ := shp_imp (hp 3 _ p3 rfl rfl)
    exact ⟨⟨s, e, r1, x1, r0, x0⟩, .refl _, rfl⟩
theorem shp_link {ds : List D} (h : Shp Tryz.prog 185 ds) : ∃ x, DEs ds (linkC x) ∧ (fun _ => true) x = true := by
  obtain ⟨ps, rfl, hl, hp⟩ := h.struct_inv Tryz.underlying185
  match ps, hl with
  | [p0, p1], _ =>
    obtain ⟨r, rfl, _⟩ := (hp 0 _ p0 rfl rfl).int_inv Tryz.underlying3
    obtain ⟨x, rfl, _⟩ := (hp 1 _ p1 rfl rfl).int_inv (k := .i64) (by kernel_rfl)
    exact ⟨⟨r, x⟩, .refl _, rfl⟩
theorem shp_bay {ds : List D} (h : Shp Tryz.prog 69 ds) : ∃ x, DEs ds (bayC x) ∧ (fun x => lenOk x.links) x = true := by
  obtain ⟨ps, rfl, hl, hp⟩ := h.struct_inv Tryz.underlying69
  match ps, hl with
  | [p0, p1, p2, p3, p4, p5, p6, p7, p8, p9, p10], _ =>
    obtain ⟨s, rfl, _⟩ := (hp 0 _ p0 rfl rfl).str_inv Tryz.underlying9
    obtain ⟨k, rfl, _⟩ := (hp 1 _ p1 rfl rfl).int_inv (k := .i64) (by kernel_rfl)
    obtain ⟨o, rfl, _⟩ := (hp 2 _ p2 rfl rfl).int_inv Tryz.underlying3
    obtain ⟨e, rfl, _⟩ := (hp 3 _ p3 rfl rfl).int_inv Tryz.underlying3
    obtain ⟨r, x, rfl⟩ := shp_imp (hp 4 _ p4 rfl rfl)
    obtain ⟨d, l, rfl, hd, hn, _⟩ := shp_list (d0 := link0) Tryz.underlying67 (show Tryz.prog.cellsOf 185 = 2 by kernel_rfl) (fun ds => shp_link) (hp 5 _ p5 rfl rfl)
    obtain ⟨c, rfl⟩ := (hp 6 _ p6 rfl rfl).bool_inv Tryz.underlying4
    obtain ⟨n1, rfl, _⟩ := (hp 7 _ p7 rfl rfl).int_inv Tryz.underlying3
    obtain ⟨n2, rfl, _⟩ := (hp 8 _ p8 rfl rfl).int_inv Tryz.underlying3
    obtain ⟨n3, rfl, _⟩ := (hp 9 _ p9 rfl rfl).int_inv Tryz.underlying3
    obtain ⟨n4, rfl, _⟩ := (hp 10 _ p10 rfl rfl).int_inv Tryz.underlying3
    exact ⟨⟨s, k, o, e, r, x, l, c, n1, n2, n3, n4⟩, .cons (.refl _) (.cons (.refl _) (.cons (.refl _) (.cons (.refl _) (.cons (.refl _) (.cons (.refl _) (.cons hd (.refl _))))))), hn⟩
theorem shp_sta {ds : List D} (h : Shp Tryz.prog 27 ds) : ∃ x, DEs ds (staC x) ∧ okSta x = true := by
  obtain ⟨ps, rfl, hl, hp⟩ := h.struct_inv Tryz.underlying27
  match ps, hl with
  | [p0, p1, p2, p3, p4], _ =>
    obtain ⟨s, rfl, _⟩ := (hp 0 _ p0 rfl rfl).str_inv Tryz.underlying9
    obtain ⟨d1, l1, rfl, h1, n1, _⟩ := shp_list (d0 := e0) Tryz.underlying22 (show Tryz.prog.cellsOf 9 = 1 by kernel_rfl) (fun ds => shp_str) (hp 1 _ p1 rfl rfl)
    obtain ⟨d2, l2, rfl, h2, n2, _⟩ := shp_list (d0 := Aah) Tryz.underlying23 (show Tryz.prog.cellsOf 98 = 5 by kernel_rfl) (fun ds => shp_line) (hp 2 _ p2 rfl rfl)
    obtain ⟨d3, l3, rfl, h3, n3, _⟩ := shp_list (d0 := src0) Tryz.underlying24 (show Tryz.prog.cellsOf 101 = 6 by kernel_rfl) (fun ds => shp_src) (hp 3 _ p3 rfl rfl)
    obtain ⟨d4, l4, rfl, h4, n4, a4⟩ := shp_list (d0 := bay0) Tryz.underlying25 (show Tryz.prog.cellsOf 69 = 12 by kernel_rfl) (fun ds => shp_bay) (hp 4 _ p4 rfl rfl)
    refine ⟨⟨s, l1, l2, l3, l4⟩, .cons (.refl _) (.cons h1 (.cons h2 (.cons h3 (.cons h4 .nil)))), ?_⟩
    unfold okSta
    simp only [n1, n2, n3, n4, a4, Bool.and_self]
end Go.Proofs.YtmnfibmlhmeheaaGreatDoor.st
namespace Go.Proofs.YtmnfibmlhmeheaaGreatDoor.se
open Go.RowKit Go.Eb Go.Proofs.YtmnfibmlhmeheaaGreatDoor.st
theorem shp_rule {ds : List D} (h : Shp Tryz.prog 107 ds) : ∃ x, DEs ds (ruleC x) ∧ (fun _ => true) x = true := by
  obtain ⟨ps, rfl, hl, hp⟩ := h.struct_inv Tryz.underlying107
  match ps, hl with
  | [p0, p1], _ =>
    obtain ⟨a, rfl, _⟩ := (hp 0 _ p0 rfl rfl).str_inv Tryz.underlying9
    obtain ⟨b, rfl, _⟩ := (hp 1 _ p1 rfl rfl).str_inv Tryz.underlying9
    exact ⟨⟨a, b⟩, .refl _, rfl⟩
theorem shp_set {ds : List D} (h : Shp Tryz.prog 105 ds) : ∃ x, DEs ds (setC x) ∧ okSet x = true := by
  obtain ⟨ps, rfl, hl, hp⟩ := h.struct_inv Tryz.underlying105
  match ps, hl with
  | [p0, p1], _ =>
    obtain ⟨a, rfl, _⟩ := (hp 0 _ p0 rfl rfl).str_inv Tryz.underlying9
    obtain ⟨d1, l1, rfl, h1, n1, _⟩ := shp_list (d0 := e0) Tryz.underlying22 (show Tryz.prog.cellsOf 9 = 1 by kernel_rfl) (fun ds => shp_str) (hp 1 _ p1 rfl rfl)
    exact ⟨⟨a, l1⟩, .cons (.refl _) (.cons h1 .nil), n1⟩
theorem shp_pub {ds : List D} (h : Shp Tryz.prog 112 ds) : ∃ x, DEs ds (pubC x) ∧ (fun _ => true) x = true := by
  obtain ⟨ps, rfl, hl, hp⟩ := h.struct_inv Tryz.underlying112
  match ps, hl with
  | [p0, p1, p2], _ =>
    obtain ⟨a, rfl, _⟩ := (hp 0 _ p0 rfl rfl).str_inv Tryz.underlying9
    obtain ⟨b, rfl, _⟩ := (hp 1 _ p1 rfl rfl).int_inv Tryz.underlying3
    obtain ⟨c, rfl, _⟩ := (hp 2 _ p2 rfl rfl).int_inv Tryz.underlying3
    exact ⟨⟨a, b, c⟩, .refl _, rfl⟩
theorem shp_sub {ds : List D} (h : Shp Tryz.prog 114 ds) : ∃ x, DEs ds (subC x) ∧ (fun _ => true) x = true := by
  obtain ⟨ps, rfl, hl, hp⟩ := h.struct_inv Tryz.underlying114
  match ps, hl with
  | [p0, p1, p2, p3], _ =>
    obtain ⟨a, rfl, _⟩ := (hp 0 _ p0 rfl rfl).str_inv Tryz.underlying9
    obtain ⟨b, rfl, _⟩ := (hp 1 _ p1 rfl rfl).str_inv Tryz.underlying9
    obtain ⟨c, rfl, _⟩ := (hp 2 _ p2 rfl rfl).str_inv Tryz.underlying9
    obtain ⟨d, rfl, _⟩ := (hp 3 _ p3 rfl rfl).str_inv Tryz.underlying9
    exact ⟨⟨a, b, c, d⟩, .refl _, rfl⟩
theorem shp_el {ds : List D} (h : Shp Tryz.prog 43 ds) : ∃ a b c, ds = [dB a, dI b, dI c] := by
  obtain ⟨ps, rfl, hl, hp⟩ := h.struct_inv Tryz.underlying43
  match ps, hl with
  | [p0, p1, p2], _ =>
    obtain ⟨a, rfl⟩ := (hp 0 _ p0 rfl rfl).bool_inv Tryz.underlying4
    obtain ⟨b, rfl, _⟩ := (hp 1 _ p1 rfl rfl).int_inv Tryz.underlying3
    obtain ⟨c, rfl, _⟩ := (hp 2 _ p2 rfl rfl).int_inv Tryz.underlying3
    exact ⟨a, b, c, rfl⟩
theorem shp_cu {ds : List D} (h : Shp Tryz.prog 45 ds) : ∃ a b c, ds = [dB a, dI b, dI c] := by
  obtain ⟨ps, rfl, hl, hp⟩ := h.struct_inv Tryz.underlying45
  match ps, hl with
  | [p0, p1, p2], _ =>
    obtain ⟨a, rfl⟩ := (hp 0 _ p0 rfl rfl).bool_inv Tryz.underlying4
    obtain ⟨b, rfl, _⟩ := (hp 1 _ p1 rfl rfl).int_inv Tryz.underlying3
    obtain ⟨c, rfl, _⟩ := (hp 2 _ p2 rfl rfl).int_inv Tryz.underlying3
    exact ⟨a, b, c, rfl⟩
theorem shp_zo {ds : List D} (h : Shp Tryz.prog 40 ds) : ∃ a b c d e f, ds = [dB a, dB b, dI c, dI d, dI e, dI f] := by
  obtain ⟨ps, rfl, hl, hp⟩ := h.struct_inv Tryz.underlying40
  match ps, hl with
  | [p0, p1, p2, p3, p4, p5], _ =>
    obtain ⟨a, rfl⟩ := (hp 0 _ p0 rfl rfl).bool_inv Tryz.underlying4
    obtain ⟨b, rfl⟩ := (hp 1 _ p1 rfl rfl).bool_inv Tryz.underlying4
    obtain ⟨c, rfl, _⟩ := (hp 2 _ p2 rfl rfl).int_inv Tryz.underlying3
    obtain ⟨d, rfl, _⟩ := (hp 3 _ p3 rfl rfl).int_inv Tryz.underlying3
    obtain ⟨e, rfl, _⟩ := (hp 4 _ p4 rfl rfl).int_inv Tryz.underlying3
    obtain ⟨f, rfl, _⟩ := (hp 5 _ p5 rfl rfl).int_inv Tryz.underlying3
    exact ⟨a, b, c, d, e, f, rfl⟩
theorem shp_zs {ds : List D} (h : Shp Tryz.prog 41 ds) : ∃ a b c d e f a1 b1 c1 d1 e1 f1 a2 b2 c2 d2 e2 f2, ds = [dB a, dB b, dI c, dI d, dI e, dI f, dB a1, dB b1, dI c1, dI d1, dI e1, dI f1, dB a2, dB b2, dI c2, dI d2, dI e2, dI f2] := by
  obtain ⟨ps, rfl, hl, hp⟩ := h.array_inv Tryz.underlying41
  match ps, hl with
  | [p0, p1, p2], _ =>
    obtain ⟨a, b, c, d, e, f, rfl⟩ := shp_zo (hp p0 (by simp))
    obtain ⟨a1, b1, c1, d1, e1, f1, rfl⟩ := shp_zo (hp p1 (by simp))
    obtain ⟨a2, b2, c2, d2, e2, f2, rfl⟩ := shp_zo (hp p2 (by simp))
    exact ⟨a, b, c, d, e, f, a1, b1, c1, d1, e1, f1, a2, b2, c2, d2, e2, f2, rfl⟩
theorem shp_rel {ds : List D} (h : Shp Tryz.prog 51 ds) : ∃ x, DEs ds (relC x) ∧ okRel x = true := by
  obtain ⟨ps, rfl, hl, hp⟩ := h.struct_inv Tryz.underlying51
  match ps, hl with
  | [p0, p1, p2, p3, p4, p5, p6, p7, p8, p9, p10, p11, p12, p13, p14, p15, p16, p17, p18, p19, p20, p21, p22, p23, p24, p25], _ =>
    obtain ⟨x0, rfl, _⟩ := (hp 0 _ p0 rfl rfl).str_inv Tryz.underlying9
    obtain ⟨x1, rfl, _⟩ := (hp 1 _ p1 rfl rfl).int_inv Tryz.underlying3
    obtain ⟨x2, rfl, _⟩ := (hp 2 _ p2 rfl rfl).int_inv Tryz.underlying3
    obtain ⟨z0a, z0b, z0c, z0d, z0e, z0f, z1a, z1b, z1c, z1d, z1e, z1f, z2a, z2b, z2c, z2d, z2e, z2f, rfl⟩ := shp_zs (hp 3 _ p3 rfl rfl)
    obtain ⟨x4, rfl, _⟩ := (hp 4 _ p4 rfl rfl).int_inv Tryz.underlying3
    obtain ⟨x5, rfl, _⟩ := (hp 5 _ p5 rfl rfl).int_inv Tryz.underlying3
    obtain ⟨x6, rfl, _⟩ := (hp 6 _ p6 rfl rfl).int_inv Tryz.underlying3
    obtain ⟨x7, rfl, _⟩ := (hp 7 _ p7 rfl rfl).int_inv Tryz.underlying3
    obtain ⟨x8, rfl, _⟩ := (hp 8 _ p8 rfl rfl).int_inv Tryz.underlying3
    obtain ⟨x9, rfl, _⟩ := (hp 9 _ p9 rfl rfl).int_inv Tryz.underlying3
    obtain ⟨x10a, x10b, x10c, rfl⟩ := shp_el (hp 10 _ p10 rfl rfl)
    obtain ⟨x11a, x11b, x11c, rfl⟩ := shp_cu (hp 11 _ p11 rfl rfl)
    obtain ⟨x12a, x12b, x12c, rfl⟩ := shp_el (hp 12 _ p12 rfl rfl)
    obtain ⟨x13, rfl, _⟩ := (hp 13 _ p13 rfl rfl).int_inv Tryz.underlying3
    obtain ⟨x14, rfl, _⟩ := (hp 14 _ p14 rfl rfl).int_inv Tryz.underlying3
    obtain ⟨x15, rfl, _⟩ := (hp 15 _ p15 rfl rfl).int_inv Tryz.underlying3
    obtain ⟨x16a, x16b, x16c, rfl⟩ := shp_el (hp 16 _ p16 rfl rfl)
    obtain ⟨x17a, x17b, x17c, rfl⟩ := shp_el (hp 17 _ p17 rfl rfl)
    obtain ⟨x18, rfl, _⟩ := (hp 18 _ p18 rfl rfl).int_inv Tryz.underlying3
    obtain ⟨x19, rfl, _⟩ := (hp 19 _ p19 rfl rfl).int_inv Tryz.underlying3
    obtain ⟨x20, rfl, _⟩ := (hp 20 _ p20 rfl rfl).int_inv Tryz.underlying3
    obtain ⟨x21, rfl, _⟩ := (hp 21 _ p21 rfl rfl).int_inv Tryz.underlying3
    obtain ⟨d22, l22, rfl, h22, n22, a22⟩ := shp_list (d0 := rule0) Tryz.underlying46 (show Tryz.prog.cellsOf 107 = 2 by kernel_rfl) (fun ds => shp_rule) (hp 22 _ p22 rfl rfl)
    obtain ⟨d23, l23, rfl, h23, n23, a23⟩ := shp_list (d0 := set0) Tryz.underlying47 (show Tryz.prog.cellsOf 105 = 2 by kernel_rfl) (fun ds => shp_set) (hp 23 _ p23 rfl rfl)
    obtain ⟨d24, l24, rfl, h24, n24, a24⟩ := shp_list (d0 := pub0) Tryz.underlying48 (show Tryz.prog.cellsOf 112 = 3 by kernel_rfl) (fun ds => shp_pub) (hp 24 _ p24 rfl rfl)
    obtain ⟨d25, l25, rfl, h25, n25, a25⟩ := shp_list (d0 := sub0) Tryz.underlying49 (show Tryz.prog.cellsOf 114 = 4 by kernel_rfl) (fun ds => shp_sub) (hp 25 _ p25 rfl rfl)
    refine ⟨⟨x0, x1, x2, z0a, z0b, z0c, z0d, z0e, z0f, z1a, z1b, z1c, z1d, z1e, z1f, z2a, z2b, z2c, z2d, z2e, z2f, x4, x5, x6, x7, x8, x9, x10a, x10b, x10c, x11a, x11b, x11c, x12a, x12b, x12c, x13, x14, x15, x16a, x16b, x16c, x17a, x17b, x17c, x18, x19, x20, x21, l22, l23, l24, l25⟩, ?_, ?_⟩
    · exact DEs.app (a := [_, _, _, _, _, _, _, _, _, _, _, _, _, _, _, _, _, _, _, _, _, _, _, _, _, _, _, _, _, _, _, _, _, _, _, _, _, _, _, _, _, _, _, _, _, _, _, _, _]) (.refl _) (.cons h22 (.cons h23 (.cons h24 (.cons h25 .nil))))
    · unfold okRel
      simp only [n22, n23, n24, n25, a23, Bool.and_self]
theorem shp_rels {ds : List D} (h : Shp Tryz.prog 28 ds) : ∃ (d : D) (l : List SRel), ds = [d] ∧ DE d (relsD l) ∧ lenOk l = true ∧ l.all okRel = true :=
  shp_list (d0 := rel0) Tryz.underlying28 (show Tryz.prog.cellsOf 51 = 53 by kernel_rfl) (fun ds => shp_rel) h
end Go.Proofs.YtmnfibmlhmeheaaGreatDoor.se
namespace Go.Proofs.YtmnfibmlhmeheaaGreatDoor.kn
open Go.RowKit Go.Eb
theorem ev7k : callQ Tryz.prog (deepQ Tryz.prog (fun _ => na) Orc.nil 120 30) na 120 Tryz.f4 (Aad Tryz.f4) [] [] (fun x H' => some (.leaf (x, H'))) = some (.leaf (vB true, [])) := by kernel_rfl
theorem b7k : Tryz.f4.body = some (Aad Tryz.f4) := by kernel_rfl
theorem c7k (_ : Unit) : CX Tryz.prog 4 [] [] (vB true) [] := cxQ_of (deepQ_ok Tryz.prog _ (Orc.nil_ok _) 120 30) Tryz.func4 b7k rfl ev7k
end Go.Proofs.YtmnfibmlhmeheaaGreatDoor.kn
