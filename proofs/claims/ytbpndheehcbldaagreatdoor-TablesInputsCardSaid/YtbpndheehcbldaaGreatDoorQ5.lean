/-
  An evaluator of Go code on abstract values, proved sound, and what it computes of the functions that the statement reaches (part 5). No condition.
-/
import Derived.Test.YtbpndheehcbldaaGreatDoorQ4
set_option maxRecDepth 100000
namespace Go.Proofs.YtbpndheehcbldaaGreatDoor.st
open Go.RowKit Go.Eb
noncomputable def oBe : Orc := Orc.cons 113 (inl Tryz.prog Orc.nil na 1 Tryz.f113) Orc.nil
noncomputable def oOh : Orc := Orc.cons 60 (inl Tryz.prog oBe na 1 Tryz.f60) oBe
noncomputable def ann49 : Ann := AaE []
theorem b49 : Tryz.f115.body = some (Aad Tryz.f115) := by kernel_rfl
noncomputable def ev49_6 (x : SBay) : Option (T (AV × Hp)) :=
 (bif decide (x.sat ≥ 0) then (bif decide (x.sat ≤ 16383) then (bif decide (x.travel ≥ 1) then leB (decide (x.travel ≤ 6)) else leB false) else leB false) else leB false)
noncomputable def ev49_5 (x : SBay) : Option (T (AV × Hp)) :=
 (bif !x.kind == 3 then (bif decide (x.vt ≥ 1) then (bif !decide (x.vt ≤ 10000) then leB false else (ev49_6 x)) else leB false) else (ev49_6 x))
noncomputable def ev49_4 (x : SBay) : Option (T (AV × Hp)) :=
 (bif decide (x.ct ≥ 1) then (bif !decide (x.ct ≤ 100) then leB false else (bif x.kind == 3 then (bif x.vt != 0 then leB false else (ev49_5 x)) else (ev49_5 x))) else leB false)
noncomputable def ev49_3 (x : SBay) : Option (T (AV × Hp)) :=
 (bif !x.kind == 3 then (bif !(x.zr == 0 && (x.zx == 0 && true)) then leB false else (ev49_4 x)) else (ev49_4 x))
noncomputable def ev49_2 (x : SBay) : Option (T (AV × Hp)) :=
 (bif x.kind == 3 then (bif decide (x.zr ≥ 0) then (bif decide (x.zr ≤ 1000) then (bif decide (x.zx ≥ 1) then (bif !decide (x.zx ≤ 1000) then leB false else (ev49_3 x)) else leB
 false) else leB false) else leB false) else (ev49_3 x))
noncomputable def ev49_1 (x : SBay) : Option (T (AV × Hp)) :=
 (bif !x.kind == 1 then (bif x.fin != 0 then leB false else (ev49_2 x)) else (ev49_2 x))
theorem ev49 (x : SBay) (g : Nat) : Aai Tryz.prog oOh ann49 g Tryz.f115 (Aad Tryz.f115) [aBay x] [] =
 (bif x.kind == 1 then (bif decide (x.fin ≥ 0) then (bif !decide (x.fin ≤ 1) then leB false else (ev49_1 x)) else leB false) else (ev49_1 x)) := by kernel_rfl
noncomputable def ann50 : Ann := AaE [(5, ⟨[3, 2, 5, 6], []⟩)]
noncomputable def L50_5 (s : SSta) (x : SBay) (g m : Nat) (i6 : Int) := LK Tryz.prog Orc.nil ann50 0 g Tryz.f116 5 m ⟨frm [(2, .c (.ptr 0 0)), (3, .c (.ptr 1 0)), (5, .c (.d (.v (.int .i64 (↑(List.length (SBay.links x)) : Int))))), (6, .c (.d (.v (.int .i64 i6))))] 0 Tryz.f116.ntmps, [(0, Blk.cells [.d (.v (.string (SSta.name s))), C.d (D.sl 1 (List.length (SSta.buses s)) fun i => busC (List.getD (SSta.buses s) i e0)), C.d (D.sl 5 (List.length (SSta.lines s)) fun i => Aap (List.getD (SSta.lines s) i Aaf)), C.d (D.sl 6 (List.length (SSta.srcs s)) fun i => Aao (List.getD (SSta.srcs s) i src0)), C.d (D.sl 12 (List.length (SSta.bays s)) fun i => bayC (List.getD (SSta.bays s) i bay0))] 27), (1, Blk.cells [.d (.v (.string (SBay.name x))), .d (.v (.int .i64 (SBay.kind x))), .d (.v (.int .i64 (SBay.off x))), .d (.v (.int .i64 (SBay.fin x))), .d (.v (.int .i64 (SBay.zr x))), .d (.v (.int .i64 (SBay.zx x))), C.d (D.sl 2 (List.length (SBay.links x)) fun i => Adu (List.getD (SBay.links x) i AaH)), .d (.v (.bool (SBay.closed x))), .d (.v (.int .i64 (SBay.ct x))), .d (.v (.int .i64 (SBay.vt x))), .d (.v (.int .i64 (SBay.sat x))), .d (.v (.int .i64 (SBay.travel x)))] 118)], 2⟩
theorem b50 : Tryz.f116.body = some (Aad Tryz.f116) := by kernel_rfl
theorem ev50 (s : SSta) (x : SBay) (g : Nat) : Aai Tryz.prog Orc.nil ann50 g Tryz.f116 (Aad Tryz.f116) [aSta s, aBay x] [] =
 (bif decide ((↑x.links.length : Int) < 1) then leI 3 else (bif decide ((↑x.links.length : Int) > 2) then leI 3 else (bif x.kind == 3 then (bif (↑x.links.length : Int) != 2 then leI
 3 else L50_5 s x g g 0) else L50_5 s x g g 0))) := by kernel_rfl
theorem st50_5 (s : SSta) (x : SBay) (g m : Nat) (i6 : Int) : L50_5 s x g (m + 1) i6 =
 (bif decide (i6 < (↑x.links.length : Int)) then (bif decide (0 ≤ i6) && decide (i6 < (↑x.links.length : Int)) then (bif decide (SLink.bus (x.links.getD i6.toNat AaH) < 0) then leI
 9 else (bif decide (SLink.bus (x.links.getD i6.toNat AaH) ≥ (↑s.buses.length : Int)) then leI 9 else (bif SLink.pos (x.links.getD i6.toNat AaH) != 1 then (bif SLink.pos
 (x.links.getD i6.toNat AaH) != 0 then leI 16 else (bif x.kind == 3 then leI 16 else (bif decide (i6 > 0) then (bif decide (0 ≤ IntKind.wrap .i64 (i6 - 1)) && decide (IntKind.wrap
 .i64 (i6 - 1) < (↑x.links.length : Int)) then (bif SLink.bus (x.links.getD i6.toNat AaH) == SLink.bus (x.links.getD (Int.toNat (IntKind.wrap .i64 (i6 - 1))) AaH) then leI 12 else
 L50_5 s x g m (IntKind.wrap .i64 (i6 + 1))) else none) else L50_5 s x g m (IntKind.wrap IntKind.i64 (i6 + 1))))) else (bif decide (i6 > 0) then (bif decide (0 ≤ IntKind.wrap .i64
 (i6 - 1)) && decide (IntKind.wrap .i64 (i6 - 1) < (↑x.links.length : Int)) then (bif SLink.bus (x.links.getD i6.toNat AaH) == SLink.bus (x.links.getD (Int.toNat (IntKind.wrap .i64
 (i6 - 1))) AaH) then leI 12 else L50_5 s x g m (IntKind.wrap .i64 (i6 + 1))) else none) else L50_5 s x g m (IntKind.wrap .i64 (i6 + 1)))))) else none) else leI 0) := by kernel_rfl
def dSB : Dec (List AV × Hp) ((RSta × RBay × Unit) × Unit) := .pair (.cons (.agg staD) (.cons (.agg bayD) .nil)) .nil
def dSI : Dec (List AV × Hp) ((RSta × Int × Unit) × Unit) := .pair (.cons (.agg staD) (.cons (.c .i64) .nil)) .nil
def dSI4 : Dec (List AV × Hp) ((RSta × Int × Int × Int × Int × Unit) × Unit) := .pair (.cons (.agg staD) (.cons (.c .i64) (.cons (.c .i64) (.cons (.c .i64) (.cons (.c .i64) .nil))))) .nil
def dDS : Dec (List AV × Hp) ((D × ByteArray × Unit) × Unit) := .pair (.cons (.c .data) (.cons (.c .str) .nil)) .nil
noncomputable def o24 (rg okr : RBay → Bool) (ok : RSta → RBay → Bool) (lk : RSta → RBay → Int) : Orc := Orc.cons 114 (inl Tryz.prog Orc.nil na 1 Tryz.f114) (Orc.cons 115 (ansD d54 (fun a => okr a.1.1) (fun a => vB (rg a.1.1)) fun _ => [])
 (Orc.cons 116 (ansD dSB (fun a => ok a.1.1 a.1.2.1) (fun a => vI (lk a.1.1 a.1.2.1)) fun _ => []) Orc.nil))
noncomputable def ann24 : Ann := AaE [(8, ⟨[5, 2, 1, 7], []⟩)]
noncomputable def L24_8 (rg okr : RBay → Bool) (ok : RSta → RBay → Bool) (lk : RSta → RBay → Int) (s : SSta) (n : Int) (g m : Nat) (i7 : Int) := LK Tryz.prog (o24 rg okr ok lk) ann24 0 g Tryz.f62 8 m ⟨frm [(1, .c (.d (.v (.int .i64 n)))), (2, .c (.ptr 0 0)), (5, .c (.ptr 1 0)), (7, .c (.d (.v (.int .i64 i7))))] 0 Tryz.f62.ntmps, [(0, Blk.cells [.d (.v (.string (SSta.name s))), C.d (D.sl 1 (List.length (SSta.buses s)) fun i => busC (List.getD (SSta.buses s) i e0)), C.d (D.sl 5 (List.length (SSta.lines s)) fun i => Aap (List.getD (SSta.lines s) i Aaf)), C.d (D.sl 6 (List.length (SSta.srcs s)) fun i => Aao (List.getD (SSta.srcs s) i src0)), C.d (D.sl 12 (List.length (SSta.bays s)) fun i => bayC (List.getD (SSta.bays s) i bay0))] 27), (1, Blk.cells [.d (.v (.string (SBay.name (List.getD (SSta.bays s) (Int.toNat n) bay0)))), .d (.v (.int .i64 (SBay.kind (List.getD (SSta.bays s) (Int.toNat n) bay0)))), .d (.v (.int .i64 (SBay.off (List.getD (SSta.bays s) (Int.toNat n) bay0)))), .d (.v (.int .i64 (SBay.fin (List.getD (SSta.bays s) (Int.toNat n) bay0)))), .d (.v (.int .i64 (SBay.zr (List.getD (SSta.bays s) (Int.toNat n) bay0)))), .d (.v (.int .i64 (SBay.zx (List.getD (SSta.bays s) (Int.toNat n) bay0)))), C.d (D.sl 2 (List.length (SBay.links (List.getD (SSta.bays s) (Int.toNat n) bay0))) fun i => Adu (List.getD (SBay.links (List.getD (SSta.bays s) (Int.toNat n) bay0)) i AaH)), .d (.v (.bool (SBay.closed (List.getD (SSta.bays s) (Int.toNat n) bay0)))), .d (.v (.int .i64 (SBay.ct (List.getD (SSta.bays s) (Int.toNat n) bay0)))), .d (.v (.int .i64 (SBay.vt (List.getD (SSta.bays s) (Int.toNat n) bay0)))), .d (.v (.int .i64 (SBay.sat (List.getD (SSta.bays s) (Int.toNat n) bay0)))), .d (.v (.int .i64 (SBay.travel (List.getD (SSta.bays s) (Int.toNat n) bay0))))] 118)], 2⟩
theorem b24 : Tryz.f62.body = some (Aad Tryz.f62) := by kernel_rfl
theorem ev24 (rg okr : RBay → Bool) (ok : RSta → RBay → Bool) (lk : RSta → RBay → Int) (s : SSta) (n : Int) (g : Nat) : Aai Tryz.prog (o24 rg okr ok lk) ann24 g Tryz.f62 (Aad Tryz.f62) [aSta s, vI n] [] =
 (bif decide (0 ≤ n) && decide (n < (↑s.bays.length : Int)) then (bif SBay.kind (s.bays.getD n.toNat bay0) == 1 then (bif decide (SBay.off (s.bays.getD n.toNat bay0) < 0) then leI 9
 else (bif decide (SBay.off (s.bays.getD n.toNat bay0) ≥ (↑s.lines.length : Int)) then leI 9 else (bif okr (SBay.name (s.bays.getD n.toNat bay0), SBay.kind (s.bays.getD n.toNat
 bay0), SBay.off (s.bays.getD n.toNat bay0), SBay.fin (s.bays.getD n.toNat bay0), SBay.zr (s.bays.getD n.toNat bay0), SBay.zx (s.bays.getD n.toNat bay0), Abe (SBay.links
 (s.bays.getD n.toNat bay0)), SBay.closed (s.bays.getD n.toNat bay0), SBay.ct (s.bays.getD n.toNat bay0), SBay.vt (s.bays.getD n.toNat bay0), SBay.sat (s.bays.getD n.toNat bay0),
 SBay.travel (s.bays.getD n.toNat bay0), ()) then (bif !rg (SBay.name (s.bays.getD n.toNat bay0), SBay.kind (s.bays.getD n.toNat bay0), SBay.off (s.bays.getD n.toNat bay0), SBay.fin
 (s.bays.getD n.toNat bay0), SBay.zr (s.bays.getD n.toNat bay0), SBay.zx (s.bays.getD n.toNat bay0), Abe (SBay.links (s.bays.getD n.toNat bay0)), SBay.closed (s.bays.getD n.toNat
 bay0), SBay.ct (s.bays.getD n.toNat bay0), SBay.vt (s.bays.getD n.toNat bay0), SBay.sat (s.bays.getD n.toNat bay0), SBay.travel (s.bays.getD n.toNat bay0), ()) then leI 2 else
 L24_8 rg okr ok lk s n g g 0) else none))) else (bif SBay.kind (s.bays.getD n.toNat bay0) == 2 then (bif decide (SBay.off (s.bays.getD n.toNat bay0) < 0) then leI 9 else (bif
 decide (SBay.off (s.bays.getD n.toNat bay0) ≥ (↑s.srcs.length : Int)) then leI 9 else (bif okr (SBay.name (s.bays.getD n.toNat bay0), SBay.kind (s.bays.getD n.toNat bay0), SBay.off
 (s.bays.getD n.toNat bay0), SBay.fin (s.bays.getD n.toNat bay0), SBay.zr (s.bays.getD n.toNat bay0), SBay.zx (s.bays.getD n.toNat bay0), Abe (SBay.links (s.bays.getD n.toNat
 bay0)), SBay.closed (s.bays.getD n.toNat bay0), SBay.ct (s.bays.getD n.toNat bay0), SBay.vt (s.bays.getD n.toNat bay0), SBay.sat (s.bays.getD n.toNat bay0), SBay.travel
 (s.bays.getD n.toNat bay0), ()) then (bif !rg (SBay.name (s.bays.getD n.toNat bay0), SBay.kind (s.bays.getD n.toNat bay0), SBay.off (s.bays.getD n.toNat bay0), SBay.fin
 (s.bays.getD n.toNat bay0), SBay.zr (s.bays.getD n.toNat bay0), SBay.zx (s.bays.getD n.toNat bay0), Abe (SBay.links (s.bays.getD n.toNat bay0)), SBay.closed (s.bays.getD n.toNat
 bay0), SBay.ct (s.bays.getD n.toNat bay0), SBay.vt (s.bays.getD n.toNat bay0), SBay.sat (s.bays.getD n.toNat bay0), SBay.travel (s.bays.getD n.toNat bay0), ()) then leI 2 else
 L24_8 rg okr ok lk s n g g 0) else none))) else (bif SBay.kind (s.bays.getD n.toNat bay0) == 3 then (bif SBay.off (s.bays.getD n.toNat bay0) != 0 then leI 9 else (bif okr
 (SBay.name (s.bays.getD n.toNat bay0), SBay.kind (s.bays.getD n.toNat bay0), SBay.off (s.bays.getD n.toNat bay0), SBay.fin (s.bays.getD n.toNat bay0), SBay.zr (s.bays.getD n.toNat
 bay0), SBay.zx (s.bays.getD n.toNat bay0), Abe (SBay.links (s.bays.getD n.toNat bay0)), SBay.closed (s.bays.getD n.toNat bay0), SBay.ct (s.bays.getD n.toNat bay0), SBay.vt
 (s.bays.getD n.toNat bay0), SBay.sat (s.bays.getD n.toNat bay0), SBay.travel (s.bays.getD n.toNat bay0), ()) then (bif !rg (SBay.name (s.bays.getD n.toNat bay0), SBay.kind
 (s.bays.getD n.toNat bay0), SBay.off (s.bays.getD n.toNat bay0), SBay.fin (s.bays.getD n.toNat bay0), SBay.zr (s.bays.getD n.toNat bay0), SBay.zx (s.bays.getD n.toNat bay0), Abe
 (SBay.links (s.bays.getD n.toNat bay0)), SBay.closed (s.bays.getD n.toNat bay0), SBay.ct (s.bays.getD n.toNat bay0), SBay.vt (s.bays.getD n.toNat bay0), SBay.sat (s.bays.getD
 n.toNat bay0), SBay.travel (s.bays.getD n.toNat bay0), ()) then leI 2 else L24_8 rg okr ok lk s n g g 0) else none)) else leI 10))) else none) := by kernel_rfl
theorem st24_8 (rg okr : RBay → Bool) (ok : RSta → RBay → Bool) (lk : RSta → RBay → Int) (s : SSta) (n : Int) (g m : Nat) (i7 : Int) : L24_8 rg okr ok lk s n g (m + 1) i7 =
 (bif decide (i7 < n) then (bif SBay.kind (s.bays.getD n.toNat bay0) != 3 then (bif decide (0 ≤ i7) && decide (i7 < (↑s.bays.length : Int)) then (bif SBay.kind (s.bays.getD i7.toNat
 bay0) == SBay.kind (s.bays.getD n.toNat bay0) then (bif decide (0 ≤ i7) && decide (i7 < (↑s.bays.length : Int)) then (bif SBay.off (s.bays.getD i7.toNat bay0) == SBay.off
 (s.bays.getD n.toNat bay0) then (bif decide (0 ≤ i7) && decide (i7 < (↑s.bays.length : Int)) then (bif SBay.fin (s.bays.getD i7.toNat bay0) == SBay.fin (s.bays.getD n.toNat bay0)
 then leI 12 else L24_8 rg okr ok lk s n g m (IntKind.wrap .i64 (i7 + 1))) else none) else L24_8 rg okr ok lk s n g m (IntKind.wrap .i64 (i7 + 1))) else none) else L24_8 rg okr ok
 lk s n g m (IntKind.wrap .i64 (i7 + 1))) else none) else (bif ok (s.name, D.sl 1 s.buses.length fun i => busC (s.buses.getD i e0), D.sl 5 s.lines.length fun i => Aap (s.lines.getD
 i Aaf), D.sl 6 s.srcs.length fun i => Aao (s.srcs.getD i src0), D.sl 12 s.bays.length fun i => bayC (s.bays.getD i bay0), ()) (SBay.name (s.bays.getD n.toNat bay0), SBay.kind
 (s.bays.getD n.toNat bay0), SBay.off (s.bays.getD n.toNat bay0), SBay.fin (s.bays.getD n.toNat bay0), SBay.zr (s.bays.getD n.toNat bay0), SBay.zx (s.bays.getD n.toNat bay0), D.sl 2
 (SBay.links (s.bays.getD n.toNat bay0)).length fun i => Adu ((SBay.links (s.bays.getD n.toNat bay0)).getD i AaH), SBay.closed (s.bays.getD n.toNat bay0), SBay.ct (s.bays.getD
 n.toNat bay0), SBay.vt (s.bays.getD n.toNat bay0), SBay.sat (s.bays.getD n.toNat bay0), SBay.travel (s.bays.getD n.toNat bay0), ()) then leI (lk (s.name, D.sl 1 s.buses.length fun
 i => busC (s.buses.getD i e0), D.sl 5 s.lines.length fun i => Aap (s.lines.getD i Aaf), D.sl 6 s.srcs.length fun i => Aao (s.srcs.getD i src0), D.sl 12 s.bays.length fun i => bayC
 (s.bays.getD i bay0), ()) (SBay.name (s.bays.getD n.toNat bay0), SBay.kind (s.bays.getD n.toNat bay0), SBay.off (s.bays.getD n.toNat bay0), SBay.fin (s.bays.getD n.toNat bay0),
 SBay.zr (s.bays.getD n.toNat bay0), SBay.zx (s.bays.getD n.toNat bay0), D.sl 2 (SBay.links (s.bays.getD n.toNat bay0)).length fun i => Adu ((SBay.links (s.bays.getD n.toNat
 bay0)).getD i AaH), SBay.closed (s.bays.getD n.toNat bay0), SBay.ct (s.bays.getD n.toNat bay0), SBay.vt (s.bays.getD n.toNat bay0), SBay.sat (s.bays.getD n.toNat bay0), SBay.travel
 (s.bays.getD n.toNat bay0), ())) else none)) else (bif ok (s.name, D.sl 1 s.buses.length fun i => busC (s.buses.getD i e0), D.sl 5 s.lines.length fun i => Aap (s.lines.getD i Aaf),
 D.sl (6 : Nat) s.srcs.length fun i => Aao (s.srcs.getD i src0), D.sl 12 s.bays.length fun i => bayC (s.bays.getD i bay0), ()) (SBay.name (s.bays.getD n.toNat bay0), SBay.kind
 (s.bays.getD n.toNat bay0), SBay.off (s.bays.getD n.toNat bay0), SBay.fin (s.bays.getD n.toNat bay0), SBay.zr (s.bays.getD n.toNat bay0), SBay.zx (s.bays.getD n.toNat bay0), D.sl 2
 (SBay.links (s.bays.getD n.toNat bay0)).length fun i => Adu ((SBay.links (s.bays.getD n.toNat bay0)).getD i AaH), SBay.closed (s.bays.getD n.toNat bay0), SBay.ct (s.bays.getD
 n.toNat bay0), SBay.vt (s.bays.getD n.toNat bay0), SBay.sat (s.bays.getD n.toNat bay0), SBay.travel (s.bays.getD n.toNat bay0), ()) then leI (lk (s.name, D.sl 1 s.buses.length fun
 i => busC (s.buses.getD i e0), D.sl 5 s.lines.length fun i => Aap (s.lines.getD i Aaf), D.sl (6 : Nat) s.srcs.length fun i => Aao (s.srcs.getD i src0), D.sl 12 s.bays.length fun i
 => bayC (s.bays.getD i bay0), ()) (SBay.name (s.bays.getD n.toNat bay0), SBay.kind (s.bays.getD n.toNat bay0), SBay.off (s.bays.getD n.toNat bay0), SBay.fin (s.bays.getD n.toNat
 bay0), SBay.zr (s.bays.getD n.toNat bay0), SBay.zx (s.bays.getD n.toNat bay0), D.sl 2 (SBay.links (s.bays.getD n.toNat bay0)).length fun i => Adu ((SBay.links (s.bays.getD n.toNat
 bay0)).getD i AaH), SBay.closed (s.bays.getD n.toNat bay0), SBay.ct (s.bays.getD n.toNat bay0), SBay.vt (s.bays.getD n.toNat bay0), SBay.sat (s.bays.getD n.toNat bay0), SBay.travel
 (s.bays.getD n.toNat bay0), ())) else none)) := by kernel_rfl
noncomputable def o20 (nk : ByteArray → Bool) (ok : D → ByteArray → Bool) (ix : D → ByteArray → Int) : Orc := Orc.cons 57 (ansP decS fun s => vB (nk s)) (Orc.cons 52 (ansD dDS (fun a => ok a.1.1 a.1.2.1) (fun a => vI (ix a.1.1 a.1.2.1)) fun _ => []) Orc.nil)
noncomputable def ann20 : Ann := AaE []
theorem b20 : Tryz.f58.body = some (Aad Tryz.f58) := by kernel_rfl
theorem ev20 (nk : ByteArray → Bool) (ok : D → ByteArray → Bool) (ix : D → ByteArray → Int) (l : List ByteArray) (s : ByteArray) (g : Nat) : Aai Tryz.prog (o20 nk ok ix) ann20 g Tryz.f58 (Aad Tryz.f58) [.c (.d (Aaa l)), vS s] [] =
 (bif !nk s then leI 7 else (bif ok (Aaa l) s then (bif decide (ix (Aaa l) s ≥ 0) then leI 8 else leI 0) else none)) := by kernel_rfl
structure K8 where
 nk : ByteArray → Bool
 okn : (RSta × Int × Int × Int × Int × Unit) → Bool
 nm : (RSta × Int × Int × Int × Int × Unit) → D
 okd : D → ByteArray → Bool
 nd : D → ByteArray → Int
 okb : RSta → Int → Bool
 be : RSta → Int → Int
noncomputable def o8 (Z : K8) : Orc := Orc.cons 57 (ansP decS fun s => vB (Z.nk s)) (Orc.cons 59 (ansD dSI4 (fun a => Z.okn a.1) (fun a => .c (.d (Z.nm a.1))) fun _ => []) (Orc.cons 58 (ansD dDS (fun a => Z.okd a.1.1 a.1.2.1) (fun a => vI (Z.nd a.1.1 a.1.2.1)) fun _ => [])
 (Orc.cons 61 (inl Tryz.prog oOh na 1 Tryz.f61) (Orc.cons 62 (ansD dSI (fun a => Z.okb a.1.1 a.1.2.1) (fun a => vI (Z.be a.1.1 a.1.2.1)) fun _ => []) oOh))))
noncomputable def ann8 : Ann := AaE [(7, ⟨[1, 3, 4, 5, 6, 7], []⟩), (13, ⟨[1, 3, 4, 5, 6, 9], []⟩), (21, ⟨[1, 4, 3, 5, 6, 11], []⟩), (29, ⟨[1, 5, 4, 3, 6, 13], []⟩)]
noncomputable def L8_7 (Z : K8) (s : SSta) (g m : Nat) (i7 : Int) := LK Tryz.prog (o8 Z) ann8 0 g Tryz.f28 7 m ⟨frm [(1, .c (.ptr 0 0)), (3, .c (.d (.v (.int .i64 (↑(List.length (SSta.buses s)) : Int))))), (4, .c (.d (.v (.int .i64 (↑(List.length (SSta.lines s)) : Int))))), (5, .c (.d (.v (.int .i64 (↑(List.length (SSta.srcs s)) : Int))))), (6, .c (.d (.v (.int .i64 (↑(List.length (SSta.bays s)) : Int))))), (7, .c (.d (.v (.int .i64 i7))))] 0 Tryz.f28.ntmps, [(0, Blk.cells [.d (.v (.string (SSta.name s))), C.d (D.sl 1 (List.length (SSta.buses s)) fun i => busC (List.getD (SSta.buses s) i e0)), C.d (D.sl 5 (List.length (SSta.lines s)) fun i => Aap (List.getD (SSta.lines s) i Aaf)), C.d (D.sl 6 (List.length (SSta.srcs s)) fun i => Aao (List.getD (SSta.srcs s) i src0)), C.d (D.sl 12 (List.length (SSta.bays s)) fun i => bayC (List.getD (SSta.bays s) i bay0))] 27)], 1⟩
noncomputable def L8_13 (Z : K8) (s : SSta) (g m : Nat) (i9 : Int) := LK Tryz.prog (o8 Z) ann8 0 g Tryz.f28 13 m ⟨frm [(1, .c (.ptr 0 0)), (3, .c (.d (.v (.int .i64 (↑(List.length (SSta.buses s)) : Int))))), (4, .c (.d (.v (.int .i64 (↑(List.length (SSta.lines s)) : Int))))), (5, .c (.d (.v (.int .i64 (↑(List.length (SSta.srcs s)) : Int))))), (6, .c (.d (.v (.int .i64 (↑(List.length (SSta.bays s)) : Int))))), (9, .c (.d (.v (.int .i64 i9))))] 0 Tryz.f28.ntmps, [(0, Blk.cells [.d (.v (.string (SSta.name s))), C.d (D.sl 1 (List.length (SSta.buses s)) fun i => busC (List.getD (SSta.buses s) i e0)), C.d (D.sl 5 (List.length (SSta.lines s)) fun i => Aap (List.getD (SSta.lines s) i Aaf)), C.d (D.sl 6 (List.length (SSta.srcs s)) fun i => Aao (List.getD (SSta.srcs s) i src0)), C.d (D.sl 12 (List.length (SSta.bays s)) fun i => bayC (List.getD (SSta.bays s) i bay0))] 27)], 1⟩
noncomputable def L8_21 (Z : K8) (s : SSta) (g m : Nat) (i11 : Int) := LK Tryz.prog (o8 Z) ann8 0 g Tryz.f28 21 m ⟨frm [(1, .c (.ptr 0 0)), (3, .c (.d (.v (.int .i64 (↑(List.length (SSta.buses s)) : Int))))), (4, .c (.d (.v (.int .i64 (↑(List.length (SSta.lines s)) : Int))))), (5, .c (.d (.v (.int .i64 (↑(List.length (SSta.srcs s)) : Int))))), (6, .c (.d (.v (.int .i64 (↑(List.length (SSta.bays s)) : Int))))), (11, .c (.d (.v (.int .i64 i11))))] 0 Tryz.f28.ntmps, [(0, Blk.cells [.d (.v (.string (SSta.name s))), C.d (D.sl 1 (List.length (SSta.buses s)) fun i => busC (List.getD (SSta.buses s) i e0)), C.d (D.sl 5 (List.length (SSta.lines s)) fun i => Aap (List.getD (SSta.lines s) i Aaf)), C.d (D.sl 6 (List.length (SSta.srcs s)) fun i => Aao (List.getD (SSta.srcs s) i src0)), C.d (D.sl 12 (List.length (SSta.bays s)) fun i => bayC (List.getD (SSta.bays s) i bay0))] 27)], 1⟩
noncomputable def L8_29 (Z : K8) (s : SSta) (g m : Nat) (i13 : Int) := LK Tryz.prog (o8 Z) ann8 0 g Tryz.f28 29 m ⟨frm [(1, .c (.ptr 0 0)), (3, .c (.d (.v (.int .i64 (↑(List.length (SSta.buses s)) : Int))))), (4, .c (.d (.v (.int .i64 (↑(List.length (SSta.lines s)) : Int))))), (5, .c (.d (.v (.int .i64 (↑(List.length (SSta.srcs s)) : Int))))), (6, .c (.d (.v (.int .i64 (↑(List.length (SSta.bays s)) : Int))))), (13, .c (.d (.v (.int .i64 i13))))] 0 Tryz.f28.ntmps, [(0, Blk.cells [.d (.v (.string (SSta.name s))), C.d (D.sl 1 (List.length (SSta.buses s)) fun i => busC (List.getD (SSta.buses s) i e0)), C.d (D.sl 5 (List.length (SSta.lines s)) fun i => Aap (List.getD (SSta.lines s) i Aaf)), C.d (D.sl 6 (List.length (SSta.srcs s)) fun i => Aao (List.getD (SSta.srcs s) i src0)), C.d (D.sl 12 (List.length (SSta.bays s)) fun i => bayC (List.getD (SSta.bays s) i bay0))] 27)], 1⟩
theorem b8 : Tryz.f28.body = some (Aad Tryz.f28) := by kernel_rfl
theorem ev8 (Z : K8) (s : SSta) (g : Nat) : Aai Tryz.prog (o8 Z) ann8 g Tryz.f28 (Aad Tryz.f28) [aSta s] [] =
 (bif !K8.nk Z s.name then leI 7 else (bif decide ((↑s.buses.length : Int) < 1) then leI 3 else (bif decide ((↑s.buses.length : Int) > 4) then leI 3 else (bif decide
 ((↑s.lines.length : Int) > 6) then leI 3 else (bif decide ((↑s.srcs.length : Int) > 4) then leI 3 else (bif decide ((↑s.bays.length : Int) > 16) then leI 3 else L8_7 Z s g g
 0)))))) := by kernel_rfl
theorem st8_7 (Z : K8) (s : SSta) (g m : Nat) (i7 : Int) : L8_7 Z s g (m + 1) i7 =
 (bif decide (i7 < (↑s.buses.length : Int)) then (bif K8.okn Z ((s.name, D.sl 1 s.buses.length fun i => busC (s.buses.getD i e0), D.sl 5 s.lines.length fun i => Aap (s.lines.getD i
 Aaf), D.sl 6 s.srcs.length fun i => Aao (s.srcs.getD i src0), D.sl 12 s.bays.length fun i => bayC (s.bays.getD i bay0), ()), i7, 0, 0, 0, ()) then (bif decide (0 ≤ i7) && decide
 (i7 < (↑s.buses.length : Int)) then (bif K8.okd Z (K8.nm Z ((s.name, D.sl 1 s.buses.length fun i => busC (s.buses.getD i e0), D.sl 5 s.lines.length fun i => Aap (s.lines.getD i
 Aaf), D.sl 6 s.srcs.length fun i => Aao (s.srcs.getD i src0), D.sl 12 s.bays.length fun i => bayC (s.bays.getD i bay0), ()), i7, 0, 0, 0, ())) (s.buses.getD i7.toNat e0) then (bif
 K8.nd Z (K8.nm Z ((s.name, D.sl 1 s.buses.length fun i => busC (s.buses.getD i e0), D.sl 5 s.lines.length fun i => Aap (s.lines.getD i Aaf), D.sl 6 s.srcs.length fun i => Aao
 (s.srcs.getD i src0), D.sl 12 s.bays.length fun i => bayC (s.bays.getD i bay0), ()), i7, 0, 0, 0, ())) (s.buses.getD i7.toNat e0) != 0 then leI (K8.nd Z (K8.nm Z ((s.name, D.sl 1
 s.buses.length fun i => busC (s.buses.getD i e0), D.sl 5 s.lines.length fun i => Aap (s.lines.getD i Aaf), D.sl 6 s.srcs.length fun i => Aao (s.srcs.getD i src0), D.sl 12
 s.bays.length fun i => bayC (s.bays.getD i bay0), ()), i7, 0, 0, 0, ())) (s.buses.getD i7.toNat e0)) else L8_7 Z s g m (IntKind.wrap .i64 (i7 + 1))) else none) else none) else
 none) else L8_13 Z s g g 0) := by kernel_rfl
theorem st8_13 (Z : K8) (s : SSta) (g m : Nat) (i9 : Int) : L8_13 Z s g (m + 1) i9 =
 (bif decide (i9 < (↑s.lines.length : Int)) then (bif K8.okn Z ((s.name, D.sl 1 s.buses.length fun i => busC (s.buses.getD i e0), D.sl 5 s.lines.length fun i => Aap (s.lines.getD i
 Aaf), D.sl 6 s.srcs.length fun i => Aao (s.srcs.getD i src0), D.sl 12 s.bays.length fun i => bayC (s.bays.getD i bay0), ()), (↑s.buses.length : Int), i9, 0, 0, ()) then (bif decide
 (0 ≤ i9) && decide (i9 < (↑s.lines.length : Int)) then (bif K8.okd Z (K8.nm Z ((s.name, D.sl 1 s.buses.length fun i => busC (s.buses.getD i e0), D.sl 5 s.lines.length fun i => Aap
 (s.lines.getD i Aaf), D.sl 6 s.srcs.length fun i => Aao (s.srcs.getD i src0), D.sl 12 s.bays.length fun i => bayC (s.bays.getD i bay0), ()), (↑s.buses.length : Int), i9, 0, 0, ()))
 (SLine.name (s.lines.getD i9.toNat Aaf)) then (bif K8.nd Z (K8.nm Z ((s.name, D.sl 1 s.buses.length fun i => busC (s.buses.getD i e0), D.sl 5 s.lines.length fun i => Aap
 (s.lines.getD i Aaf), D.sl 6 s.srcs.length fun i => Aao (s.srcs.getD i src0), D.sl 12 s.bays.length fun i => bayC (s.bays.getD i bay0), ()), (↑s.buses.length : Int), i9, 0, 0, ()))
 (SLine.name (s.lines.getD i9.toNat Aaf)) == 0 then (bif decide (0 ≤ i9) && decide (i9 < (↑s.lines.length : Int)) then (bif decide (SLine.r1 (s.lines.getD i9.toNat Aaf) ≥ 0) then
 (bif decide (SLine.r1 (s.lines.getD i9.toNat Aaf) ≤ 1000) then (bif decide (SLine.x1 (s.lines.getD i9.toNat Aaf) ≥ 1) then (bif !decide (SLine.x1 (s.lines.getD i9.toNat Aaf) ≤
 1000) then leI 2 else (bif decide (0 ≤ i9) && decide (i9 < (↑s.lines.length : Int)) then (bif decide (SLine.r0 (s.lines.getD i9.toNat Aaf) ≥ 0) then (bif decide (SLine.r0
 (s.lines.getD i9.toNat Aaf) ≤ 1000) then (bif decide (SLine.x0 (s.lines.getD i9.toNat Aaf) ≥ 1) then (bif !decide (SLine.x0 (s.lines.getD i9.toNat Aaf) ≤ 1000) then leI 2 else (bif
 K8.nd Z (K8.nm Z ((s.name, D.sl 1 s.buses.length fun i => busC (s.buses.getD i e0), D.sl 5 s.lines.length fun i => Aap (s.lines.getD i Aaf), D.sl 6 s.srcs.length fun i => Aao
 (s.srcs.getD i src0), D.sl 12 s.bays.length fun i => bayC (s.bays.getD i bay0), ()), (↑s.buses.length : Int), i9, 0, 0, ())) (SLine.name (s.lines.getD i9.toNat Aaf)) != 0 then leI
 (K8.nd Z (K8.nm Z ((s.name, D.sl 1 s.buses.length fun i => busC (s.buses.getD i e0), D.sl 5 s.lines.length fun i => Aap (s.lines.getD i Aaf), D.sl 6 s.srcs.length fun i => Aao
 (s.srcs.getD i src0), D.sl 12 s.bays.length fun i => bayC (s.bays.getD i bay0), ()), (↑s.buses.length : Int), i9, 0, 0, ())) (SLine.name (s.lines.getD i9.toNat Aaf))) else L8_13 Z
 s g m (IntKind.wrap .i64 (i9 + 1)))) else leI 2) else leI 2) else leI 2) else none)) else leI 2) else leI 2) else leI 2) else none) else (bif K8.nd Z (K8.nm Z ((s.name, D.sl 1
 s.buses.length fun i => busC (s.buses.getD i e0), D.sl 5 s.lines.length fun i => Aap (s.lines.getD i Aaf), D.sl 6 s.srcs.length fun i => Aao (s.srcs.getD i src0), D.sl 12
 s.bays.length fun i => bayC (s.bays.getD i bay0), ()), (↑s.buses.length : Int), i9, 0, 0, ())) (SLine.name (s.lines.getD i9.toNat Aaf)) != 0 then leI (K8.nd Z (K8.nm Z ((s.name,
 D.sl 1 s.buses.length fun i => busC (s.buses.getD i e0), D.sl 5 s.lines.length fun i => Aap (s.lines.getD i Aaf), D.sl 6 s.srcs.length fun i => Aao (s.srcs.getD i src0), D.sl 12
 s.bays.length fun i => bayC (s.bays.getD i bay0), ()), (↑s.buses.length : Int), i9, 0, 0, ())) (SLine.name (s.lines.getD i9.toNat Aaf))) else L8_13 Z s g m (IntKind.wrap .i64 (i9 +
 1)))) else none) else none) else none) else L8_21 Z s g g 0) := by kernel_rfl
theorem st8_21 (Z : K8) (s : SSta) (g m : Nat) (i11 : Int) : L8_21 Z s g (m + 1) i11 =
 (bif decide (i11 < (↑s.srcs.length : Int)) then (bif K8.okn Z ((s.name, D.sl 1 s.buses.length fun i => busC (s.buses.getD i e0), D.sl 5 s.lines.length fun i => Aap (s.lines.getD i
 Aaf), D.sl 6 s.srcs.length fun i => Aao (s.srcs.getD i src0), D.sl 12 s.bays.length fun i => bayC (s.bays.getD i bay0), ()), (↑s.buses.length : Int), (↑s.lines.length : Int), i11,
 0, ()) then (bif decide (0 ≤ i11) && decide (i11 < (↑s.srcs.length : Int)) then (bif K8.okd Z (K8.nm Z ((s.name, D.sl 1 s.buses.length fun i => busC (s.buses.getD i e0), D.sl 5
 s.lines.length fun i => Aap (s.lines.getD i Aaf), D.sl 6 s.srcs.length fun i => Aao (s.srcs.getD i src0), D.sl 12 s.bays.length fun i => bayC (s.bays.getD i bay0), ()),
 (↑s.buses.length : Int), (↑s.lines.length : Int), i11, 0, ())) (SSrc.name (s.srcs.getD i11.toNat src0)) then (bif K8.nd Z (K8.nm Z ((s.name, D.sl 1 s.buses.length fun i => busC
 (s.buses.getD i e0), D.sl 5 s.lines.length fun i => Aap (s.lines.getD i Aaf), D.sl 6 s.srcs.length fun i => Aao (s.srcs.getD i src0), D.sl 12 s.bays.length fun i => bayC
 (s.bays.getD i bay0), ()), (↑s.buses.length : Int), (↑s.lines.length : Int), i11, 0, ())) (SSrc.name (s.srcs.getD i11.toNat src0)) == 0 then (bif decide (0 ≤ i11) && decide (i11 <
 (↑s.srcs.length : Int)) then (bif decide (SSrc.emf (s.srcs.getD i11.toNat src0) ≥ 1) then (bif decide (SSrc.emf (s.srcs.getD i11.toNat src0) ≤ 1000000) then (bif decide (SSrc.r1
 (s.srcs.getD i11.toNat src0) ≥ 0) then (bif decide (SSrc.r1 (s.srcs.getD i11.toNat src0) ≤ 1000) then (bif decide (SSrc.x1 (s.srcs.getD i11.toNat src0) ≥ 1) then (bif decide
 (SSrc.x1 (s.srcs.getD i11.toNat src0) ≤ 1000) then (bif decide (SSrc.r0 (s.srcs.getD i11.toNat src0) ≥ 0) then (bif decide (SSrc.r0 (s.srcs.getD i11.toNat src0) ≤ 1000) then (bif
 decide (SSrc.x0 (s.srcs.getD i11.toNat src0) ≥ 1) then (bif !decide (SSrc.x0 (s.srcs.getD i11.toNat src0) ≤ 1000) then leI 2 else (bif K8.nd Z (K8.nm Z ((s.name, D.sl 1
 s.buses.length fun i => busC (s.buses.getD i e0), D.sl 5 s.lines.length fun i => Aap (s.lines.getD i Aaf), D.sl 6 s.srcs.length fun i => Aao (s.srcs.getD i src0), D.sl 12
 s.bays.length fun i => bayC (s.bays.getD i bay0), ()), (↑s.buses.length : Int), (↑s.lines.length : Int), i11, 0, ())) (SSrc.name (s.srcs.getD i11.toNat src0)) != 0 then leI (K8.nd
 Z (K8.nm Z ((s.name, D.sl 1 s.buses.length fun i => busC (s.buses.getD i e0), D.sl 5 s.lines.length fun i => Aap (s.lines.getD i Aaf), D.sl (6 : Nat) s.srcs.length fun i => Aao
 (s.srcs.getD i src0), D.sl 12 s.bays.length fun i => bayC (s.bays.getD i bay0), ()), (↑s.buses.length : Int), (↑s.lines.length : Int), i11, 0, ())) (SSrc.name (s.srcs.getD
 i11.toNat src0))) else L8_21 Z s g m (IntKind.wrap .i64 (i11 + 1)))) else leI 2) else leI 2) else leI 2) else leI 2) else leI 2) else leI 2) else leI 2) else leI 2) else leI 2)
 else none) else (bif K8.nd Z (K8.nm Z ((s.name, D.sl 1 s.buses.length fun i => busC (s.buses.getD i e0), D.sl 5 s.lines.length fun i => Aap (s.lines.getD i Aaf), D.sl 6
 s.srcs.length fun i => Aao (s.srcs.getD i src0), D.sl 12 s.bays.length fun i => bayC (s.bays.getD i bay0), ()), (↑s.buses.length : Int), (↑s.lines.length : Int), i11, 0, ()))
 (SSrc.name (s.srcs.getD i11.toNat src0)) != 0 then leI (K8.nd Z (K8.nm Z ((s.name, D.sl 1 s.buses.length fun i => busC (s.buses.getD i e0), D.sl 5 s.lines.length fun i => Aap
 (s.lines.getD i Aaf), D.sl 6 s.srcs.length fun i => Aao (s.srcs.getD i src0), D.sl 12 s.bays.length fun i => bayC (s.bays.getD i bay0), ()), (↑s.buses.length : Int),
 (↑s.lines.length : Int), i11, 0, ())) (SSrc.name (s.srcs.getD i11.toNat src0))) else L8_21 Z s g m (IntKind.wrap .i64 (i11 + 1)))) else none) else none) else none) else L8_29 Z s g
 g 0) := by kernel_rfl
theorem st8_29 (Z : K8) (s : SSta) (g m : Nat) (i13 : Int) : L8_29 Z s g (m + 1) i13 =
 (bif decide (i13 < (↑s.bays.length : Int)) then (bif K8.okn Z ((s.name, D.sl 1 s.buses.length fun i => busC (s.buses.getD i e0), D.sl 5 s.lines.length fun i => Aap (s.lines.getD i
 Aaf), D.sl 6 s.srcs.length fun i => Aao (s.srcs.getD i src0), D.sl 12 s.bays.length fun i => bayC (s.bays.getD i bay0), ()), (↑s.buses.length : Int), (↑s.lines.length : Int),
 (↑s.srcs.length : Int), i13, ()) then (bif decide (0 ≤ i13) && decide (i13 < (↑s.bays.length : Int)) then (bif K8.okd Z (K8.nm Z ((s.name, D.sl 1 s.buses.length fun i => busC
 (s.buses.getD i e0), D.sl 5 s.lines.length fun i => Aap (s.lines.getD i Aaf), D.sl 6 s.srcs.length fun i => Aao (s.srcs.getD i src0), D.sl 12 s.bays.length fun i => bayC
 (s.bays.getD i bay0), ()), (↑s.buses.length : Int), (↑s.lines.length : Int), (↑s.srcs.length : Int), i13, ())) (SBay.name (s.bays.getD i13.toNat bay0)) then (bif K8.nd Z (K8.nm Z
 ((s.name, D.sl 1 s.buses.length fun i => busC (s.buses.getD i e0), D.sl 5 s.lines.length fun i => Aap (s.lines.getD i Aaf), D.sl 6 s.srcs.length fun i => Aao (s.srcs.getD i src0),
 D.sl (12 : Nat) s.bays.length fun i => bayC (s.bays.getD i bay0), ()), (↑s.buses.length : Int), (↑s.lines.length : Int), (↑s.srcs.length : Int), i13, ())) (SBay.name (s.bays.getD
 i13.toNat bay0)) == 0 then (bif K8.okb Z (s.name, D.sl 1 s.buses.length fun i => busC (s.buses.getD i e0), D.sl 5 s.lines.length fun i => Aap (s.lines.getD i Aaf), D.sl 6
 s.srcs.length fun i => Aao (s.srcs.getD i src0), D.sl 12 s.bays.length fun i => bayC (s.bays.getD i bay0), ()) i13 then (bif K8.be Z (s.name, D.sl 1 s.buses.length fun i => busC
 (s.buses.getD i e0), D.sl 5 s.lines.length fun i => Aap (s.lines.getD i Aaf), D.sl 6 s.srcs.length fun i => Aao (s.srcs.getD i src0), D.sl 12 s.bays.length fun i => bayC
 (s.bays.getD i bay0), ()) i13 != 0 then leI (K8.be Z (s.name, D.sl 1 s.buses.length fun i => busC (s.buses.getD i e0), D.sl 5 s.lines.length fun i => Aap (s.lines.getD i Aaf), D.sl
 6 s.srcs.length fun i => Aao (s.srcs.getD i src0), D.sl 12 s.bays.length fun i => bayC (s.bays.getD i bay0), ()) i13) else L8_29 Z s g m (IntKind.wrap IntKind.i64 (i13 + 1))) else
 none) else (bif K8.nd Z (K8.nm Z ((s.name, D.sl 1 s.buses.length fun i => busC (s.buses.getD i e0), D.sl 5 s.lines.length fun i => Aap (s.lines.getD i Aaf), D.sl 6 s.srcs.length
 fun i => Aao (s.srcs.getD i src0), D.sl 12 s.bays.length fun i => bayC (s.bays.getD i bay0), ()), (↑s.buses.length : Int), (↑s.lines.length : Int), (↑s.srcs.length : Int), i13,
 ())) (SBay.name (s.bays.getD i13.toNat bay0)) != 0 then leI (K8.nd Z (K8.nm Z ((s.name, D.sl 1 s.buses.length fun i => busC (s.buses.getD i e0), D.sl 5 s.lines.length fun i => Aap
 (s.lines.getD i Aaf), D.sl 6 s.srcs.length fun i => Aao (s.srcs.getD i src0), D.sl 12 s.bays.length fun i => bayC (s.bays.getD i bay0), ()), (↑s.buses.length : Int),
 (↑s.lines.length : Int), (↑s.srcs.length : Int), i13, ())) (SBay.name (s.bays.getD i13.toNat bay0))) else L8_29 Z s g m (IntKind.wrap .i64 (i13 + 1)))) else none) else none) else
 none) else leI 0) := by kernel_rfl
end Go.Proofs.YtbpndheehcbldaaGreatDoor.st
namespace Go.Proofs.YtbpndheehcbldaaGreatDoor.st
open Go.RowKit Go.Eb
noncomputable def ann21 : Ann := AaE [(3, ⟨[5, 4, 3, 2, 12, 11], []⟩), (7, ⟨[5, 4, 3, 13, 11], []⟩), (11, ⟨[5, 4, 14, 11], []⟩)]
noncomputable def L21_3 (s : SSta) (nb nl ns nq : Int) (g m : Nat) (n1 : Nat) (f1 : Nat → List D) (i12 : Int) := LK Tryz.prog Orc.nil ann21 0 g Tryz.f59 3 m ⟨frm [(2, .c (.d (.v (.int .i64 nl)))), (3, .c (.d (.v (.int .i64 ns)))), (4, .c (.d (.v (.int .i64 nq)))), (5, .c (.ptr 0 0)), (11, .c (.row 1 1 n1)), (12, .c (.d (.v (.int .i64 i12))))] 0 Tryz.f59.ntmps, [(0, Blk.cells [.d (.v (.string (SSta.name s))), C.d (D.sl 1 (List.length (SSta.buses s)) fun i => busC (List.getD (SSta.buses s) i e0)), C.d (D.sl 5 (List.length (SSta.lines s)) fun i => Aap (List.getD (SSta.lines s) i Aaf)), C.d (D.sl 6 (List.length (SSta.srcs s)) fun i => Aao (List.getD (SSta.srcs s) i src0)), C.d (D.sl 12 (List.length (SSta.bays s)) fun i => bayC (List.getD (SSta.bays s) i bay0))] 27), (1, Blk.row n1 f1 1 9)], 2⟩
noncomputable def L21_7 (s : SSta) (nb nl ns nq : Int) (g m : Nat) (n1 : Nat) (f1 : Nat → List D) (i13 : Int) := LK Tryz.prog Orc.nil ann21 0 g Tryz.f59 7 m ⟨frm [(3, .c (.d (.v (.int .i64 ns)))), (4, .c (.d (.v (.int .i64 nq)))), (5, .c (.ptr 0 0)), (11, .c (.row 1 1 n1)), (13, .c (.d (.v (.int .i64 i13))))] 0 Tryz.f59.ntmps, [(0, Blk.cells [.d (.v (.string (SSta.name s))), C.d (D.sl 1 (List.length (SSta.buses s)) fun i => busC (List.getD (SSta.buses s) i e0)), C.d (D.sl 5 (List.length (SSta.lines s)) fun i => Aap (List.getD (SSta.lines s) i Aaf)), C.d (D.sl 6 (List.length (SSta.srcs s)) fun i => Aao (List.getD (SSta.srcs s) i src0)), C.d (D.sl 12 (List.length (SSta.bays s)) fun i => bayC (List.getD (SSta.bays s) i bay0))] 27), (1, Blk.row n1 f1 1 9)], 2⟩
noncomputable def L21_11 (s : SSta) (nb nl ns nq : Int) (g m : Nat) (n1 : Nat) (f1 : Nat → List D) (i14 : Int) := LK Tryz.prog Orc.nil ann21 0 g Tryz.f59 11 m ⟨frm [(4, .c (.d (.v (.int .i64 nq)))), (5, .c (.ptr 0 0)), (11, .c (.row 1 1 n1)), (14, .c (.d (.v (.int .i64 i14))))] 0 Tryz.f59.ntmps, [(0, Blk.cells [.d (.v (.string (SSta.name s))), C.d (D.sl 1 (List.length (SSta.buses s)) fun i => busC (List.getD (SSta.buses s) i e0)), C.d (D.sl 5 (List.length (SSta.lines s)) fun i => Aap (List.getD (SSta.lines s) i Aaf)), C.d (D.sl 6 (List.length (SSta.srcs s)) fun i => Aao (List.getD (SSta.srcs s) i src0)), C.d (D.sl 12 (List.length (SSta.bays s)) fun i => bayC (List.getD (SSta.bays s) i bay0))] 27), (1, Blk.row n1 f1 1 9)], 2⟩
theorem b21 : Tryz.f59.body = some (Aad Tryz.f59) := by kernel_rfl
theorem ev21 (s : SSta) (nb nl ns nq : Int) (g : Nat) : Aai Tryz.prog Orc.nil ann21 g Tryz.f59 (Aad Tryz.f59) [aSta s, vI nb, vI nl, vI ns, vI nq] [] =
 (bif decide (0 ≤ (↑(0 : Nat) : Int)) && decide ((↑(0 : Nat) : Int) ≤ nb) && decide (nb ≤ (↑s.buses.length : Int)) then (bif decide ((0 + (nb.toNat - Int.toNat (↑(0 : Nat) : Int)))
 * 16 ≤ 140737488355328) && decide (0 + (nb.toNat - Int.toNat (↑(0 : Nat) : Int)) ≤ 9223372036854775807) then L21_3 s nb nl ns nq g g (0 + (nb.toNat - Int.toNat (↑(0 : Nat) : Int)))
 (appF 0 (Aat [] (0 + 1)) fun i => busC (s.buses.getD (Int.toNat (↑(0 : Nat) : Int) + i) e0)) 0 else none) else none) := by kernel_rfl
theorem st21_3 (s : SSta) (nb nl ns nq : Int) (g m : Nat) (n1 : Nat) (f1 : Nat → List D) (i12 : Int) : L21_3 s nb nl ns nq g (m + 1) n1 f1 i12 =
 (bif decide (i12 < nl) then (bif decide (0 ≤ i12) && decide (i12 < (↑s.lines.length : Int)) then (bif decide ((n1 + 1) * 16 ≤ (140737488355328 : Nat)) && decide (n1 + 1 ≤
 9223372036854775807) then L21_3 s nb nl ns nq g m (n1 + 1) (appF n1 f1 (Aat [dS (SLine.name (s.lines.getD i12.toNat Aaf))] (0 + 1))) (IntKind.wrap .i64 (i12 + 1)) else none) else
 none) else L21_7 s nb nl ns nq g g n1 f1 0) := by kernel_rfl
theorem st21_7 (s : SSta) (nb nl ns nq : Int) (g m : Nat) (n1 : Nat) (f1 : Nat → List D) (i13 : Int) : L21_7 s nb nl ns nq g (m + 1) n1 f1 i13 =
 (bif decide (i13 < ns) then (bif decide (0 ≤ i13) && decide (i13 < (↑s.srcs.length : Int)) then (bif decide ((n1 + 1) * 16 ≤ (140737488355328 : Nat)) && decide (n1 + 1 ≤
 9223372036854775807) then L21_7 s nb nl ns nq g m (n1 + 1) (appF n1 f1 (Aat [dS (SSrc.name (s.srcs.getD i13.toNat src0))] (0 + 1))) (IntKind.wrap .i64 (i13 + 1)) else none) else
 none) else L21_11 s nb nl ns nq g g n1 f1 0) := by kernel_rfl
theorem st21_11 (s : SSta) (nb nl ns nq : Int) (g m : Nat) (n1 : Nat) (f1 : Nat → List D) (i14 : Int) : L21_11 s nb nl ns nq g (m + 1) n1 f1 i14 =
 (bif decide (i14 < nq) then (bif decide (0 ≤ i14) && decide (i14 < (↑s.bays.length : Int)) then (bif decide ((n1 + 1) * 16 ≤ (140737488355328 : Nat)) && decide (n1 + 1 ≤
 9223372036854775807) then L21_11 s nb nl ns nq g m (n1 + 1) (appF n1 f1 (Aat [dS (SBay.name (s.bays.getD i14.toNat bay0))] (0 + 1))) (IntKind.wrap .i64 (i14 + 1)) else none) else
 none) else some (T.leaf (AV.c (C.row (0) (1) n1), [(0, Blk.row n1 f1 (1) (9))]))) := by kernel_rfl
end Go.Proofs.YtbpndheehcbldaaGreatDoor.st
namespace Go.Proofs.YtbpndheehcbldaaGreatDoor.st
open Go.RowKit Go.Eb
theorem b46 : Tryz.f52.body = some (Aad Tryz.f52) := by kernel_rfl
def idxF (s : ByteArray) : Nat → List ByteArray → Int
 | _, [] => -1
 | i, x :: r => bif x.toList == s.toList then (i : Int) else idxF s (i + 1) r
theorem strEq' (a b : ByteArray) : (a.toList == b.toList) = (b.data.toList == a.data.toList) := by
 rw [ByteArray.toList_eq, ByteArray.toList_eq, Bool.beq_comm]
theorem idxF_ge (s : ByteArray) : ∀ (l : List ByteArray) (i : Nat), decide (idxF s i l ≥ 0) = inB l s
 | [], i => rfl
 | x :: r, i => by
  have ih := idxF_ge s r (i + 1)
  unfold inB at ih ⊢
  simp only [idxF, List.any_cons, strEq']
  cases (s.data.toList == x.data.toList) with
  | true => simp only [cond_true, Bool.true_or]; exact decide_eq_true (by omega)
  | false => simp only [cond_false, Bool.false_or]; exact ih
theorem lp46 (l : List ByteArray) (s : ByteArray) (g : Nat) (hl : l.length ≤ 9223372036854775807) : ∀ (m k : Nat), k ≤ l.length → l.length - k < m → L46 l s g m k = some (.leaf (vI (idxF s k (l.drop k)), []))
 | 0, k, _, h => by omega
 | m + 1, k, hk, h => by
  rw [st46]
  by_cases hlt : k < l.length
  ·have ih := lp46 l s g hl m (k + 1) (by omega) (by omega)
   rw [Aar (d := e0) hlt]
   simp only [lt1 hlt, ge0, tn, Bool.and_self, cond_true, nx hlt hl, ih, idxF]
   cases ((l.getD k e0).toList == s.toList) <;> rfl
  ·rw [lt0 hlt, List.drop_of_length_le (by omega)]
   rfl
theorem c46 (l : List ByteArray) (s : ByteArray) (hl : l.length ≤ 9223372036854775807) : CX Tryz.prog 52 [.c (.d (Aaa l)), vS s] [] (vI (idxF s 0 l)) [] := by
 obtain ⟨g, hg⟩ : ∃ g, l.length < g := ⟨l.length + 1, by omega⟩
 exact Aau (Orc.nil_ok _) Tryz.func52 b46 rfl ((ev46 l s g).trans (lp46 l s g hl g 0 (by omega) (by omega)))
noncomputable def okDS (x : D) (_ : ByteArray) : Bool := okE Aaa x && decide ((theE Aaa x).length ≤ 9223372036854775807)
noncomputable def ixDS (x : D) (s : ByteArray) : Int := idxF s 0 (theE Aaa x)
theorem s20 : OrcS Tryz.prog (o20 Aae okDS ixDS) := by
 refine .cons (.p AcU c16) (.cons (.d fun a ha => ?_) .nil)
 unfold okDS at ha
 simp only [Bool.and_eq_true, decide_eq_true_eq] at ha
 exact (c46 (theE Aaa a.1.1) a.1.2.1 ha.2).ge (.cons (Acb ha.1) (.cons (.refl _) .nil)) (.refl _)
theorem c20 (l : List ByteArray) (s : ByteArray) (hl : l.length ≤ 9223372036854775807) : CX Tryz.prog 58 [.c (.d (Aaa l)), vS s] [] (vI (Abb l s)) [] := by
 refine Aau s20.ok Tryz.func58 b20 rfl ((ev20 Aae okDS ixDS l s 1).trans ?_)
 have e1 : okDS (Aaa l) s = true := by unfold okDS; rw [(AaO Abu l).1, (AaO Abu l).2]; simp [hl]
 have e2 : ixDS (Aaa l) s = idxF s 0 l := by unfold ixDS; rw [(AaO Abu l).2]
 rw [e1, e2, idxF_ge]
 unfold Abb
 cases Aae s <;> cases inB l s <;> rfl
theorem app_loop {α : Type} {nm : α → ByteArray} {d0 : α} {l : List α} {q : Nat} {L : Nat → Nat → (Nat → List D) → Int → Option (T (AV × Hp))} {E : Nat → (Nat → List D) → Option (T (AV × Hp))} (hq : q ≤ l.length) (hq2 : q ≤ 900)
  (hst : ∀ (m k n : Nat) (f : Nat → List D), k < q → n ≤ 9000 → L (m + 1) n f k = L m (n + 1) (appF n f (Aat (busC (nm (l.getD k d0))) 1)) ((k + 1 : Nat) : Int)) (hend : ∀ m n f, L (m + 1) n f q = E n f) :
  ∀ (m k n : Nat) (f : Nat → List D) (acc : List ByteArray), RL busC e0 n f acc → k ≤ q → q - k < m → acc.length + (q - k) ≤ 9000 → ∃ n' f', RL busC e0 n' f' (acc ++ ((l.take q).drop k).map nm) ∧ L m n f k = E n' f'
 | 0, k, n, f, acc, _, _, h, _ => by omega
 | m + 1, k, n, f, acc, hr, hk, h, hb => by
  by_cases e : k = q
  ·subst e
   rw [hend, List.drop_of_length_le (by simp; omega)]
   exact ⟨n, f, by simpa using hr, rfl⟩
  ·have hlt : k < q := by omega
   rw [hst m k n f hlt (by have := hr.len; omega)]
   have ht : k < (l.take q).length := by simp; omega
   have hg : (l.take q).getD k d0 = l.getD k d0 := by simp [List.getD, hlt]
   rw [Aar (d := d0) ht, hg]
   obtain ⟨n', f', h1, h2⟩ := app_loop hq hq2 hst hend m (k + 1) (n + 1) (appF n f (Aat (busC (nm (l.getD k d0))) 1)) (acc ++ [nm (l.getD k d0)]) (hr.app' rfl) (by omega) (by omega) (by simp; omega)
   exact ⟨n', f', by simpa using h1, h2⟩
def AaY (s : SSta) (nb nl ns nq : Nat) : List ByteArray := s.buses.take nb ++ (s.lines.take nl).map SLine.name ++ (s.srcs.take ns).map SSrc.name ++ (s.bays.take nq).map SBay.name
theorem apOk {n : Nat} (h : n ≤ 9000) : (decide ((n + 1) * 16 ≤ 140737488355328) && decide (n + 1 ≤ 9223372036854775807)) = true := by
 rw [decide_eq_true (by omega), decide_eq_true (by omega)]; rfl
theorem c21 (s : SSta) (nb nl ns nq : Nat) (h1 : nb ≤ s.buses.length) (h2 : nl ≤ s.lines.length) (h3 : ns ≤ s.srcs.length) (h4 : nq ≤ s.bays.length) (g1 : nb ≤ 900) (g2 : nl ≤ 900) (g3 : ns ≤ 900) (g4 : nq ≤ 900) :
  CX Tryz.prog 59 [aSta s, vI nb, vI nl, vI ns, vI nq] [] (.c (.d (Aaa (AaY s nb nl ns nq)))) [] := by
 obtain ⟨g, hg⟩ : ∃ g, 900 < g := ⟨901, by omega⟩
 have lt1' : ∀ {k n : Nat}, k < n → decide ((k : Int) < (n : Int)) = true := lt1
 have p4 := fun n f acc (hr : RL busC e0 n f acc) (hb : acc.length ≤ 8000) => app_loop (nm := SBay.name) (d0 := bay0) (l := s.bays) (q := nq) (L := fun m n f i => L21_11 s nb nl ns nq g m n f i) (E := fun n f => some (.leaf (.c (.row 0 1 n), [(0, .row n f 1 9)]))) h4 g4
  (fun m k n f hk hn => by
    rw [st21_11]
    simp only [lt1 hk, lt1 (show k < s.bays.length by omega), ge0, tn, Bool.and_self, cond_true, nx hk (by omega), apOk hn]
    rfl)
  (fun m n f => by rw [st21_11, lt0 (Nat.lt_irrefl _)]; rfl) g 0 n f acc hr (by omega) (by omega) (by omega)
 have p3 := fun n f acc (hr : RL busC e0 n f acc) (hb : acc.length ≤ 7000) => app_loop (nm := SSrc.name) (d0 := src0) (l := s.srcs) (q := ns) (L := fun m n f i => L21_7 s nb nl ns nq g m n f i) (E := fun n f => L21_11 s nb nl ns nq g g n f 0) h3 g3
  (fun m k n f hk hn => by
    rw [st21_7]
    simp only [lt1 hk, lt1 (show k < s.srcs.length by omega), ge0, tn, Bool.and_self, cond_true, nx hk (by omega), apOk hn]
    rfl)
  (fun m n f => by rw [st21_7, lt0 (Nat.lt_irrefl _)]; rfl) g 0 n f acc hr (by omega) (by omega) (by omega)
 have p2 := fun n f acc (hr : RL busC e0 n f acc) (hb : acc.length ≤ 6000) => app_loop (nm := SLine.name) (d0 := Aaf) (l := s.lines) (q := nl) (L := fun m n f i => L21_3 s nb nl ns nq g m n f i) (E := fun n f => L21_7 s nb nl ns nq g g n f 0) h2 g2
  (fun m k n f hk hn => by
    rw [st21_3]
    simp only [lt1 hk, lt1 (show k < s.lines.length by omega), ge0, tn, Bool.and_self, cond_true, nx hk (by omega), apOk hn]
    rfl)
  (fun m n f => by rw [st21_3, lt0 (Nat.lt_irrefl _)]; rfl) g 0 n f acc hr (by omega) (by omega) (by omega)
 have hr0 : RL busC e0 (0 + (Int.toNat (nb : Int) - Int.toNat ((0 : Nat) : Int))) (appF 0 (Aat [] (0 + 1)) fun i => busC (s.buses.getD (Int.toNat ((0 : Nat) : Int) + i) e0)) (s.buses.take nb) := by
  have : RL busC e0 nb (fun i => busC (s.buses.getD (Int.toNat ((0 : Nat) : Int) + i) e0)) (s.buses.take nb) := .eq (by simp; omega) fun i hi => by
   have e : (s.buses.take nb).getD i e0 = s.buses.getD i e0 := by simp [List.getD, hi]
   rw [e]; simp
  have h := (RL.nil (c := busC) (d0 := e0) (Aat [] (0 + 1))).cat this
  simpa using h
 obtain ⟨n2, f2, r2, q2⟩ := p2 _ _ _ hr0 (by simp; omega)
 obtain ⟨n3, f3, r3, q3⟩ := p3 _ _ _ r2 (by simp; omega)
 obtain ⟨n4, f4, r4, q4⟩ := p4 _ _ _ r3 (by simp; omega)
 have hev := ev21 s nb nl ns nq g
 have e1 : (decide ((0 : Int) ≤ ((0 : Nat) : Int)) && decide (((0 : Nat) : Int) ≤ (nb : Int)) && decide ((nb : Int) ≤ (s.buses.length : Int))) = true := by
  rw [decide_eq_true (by omega), decide_eq_true (by omega), decide_eq_true (by omega)]; rfl
 have e2 : (decide ((0 + (Int.toNat (nb : Int) - Int.toNat ((0 : Nat) : Int))) * 16 ≤ 140737488355328) && decide (0 + (Int.toNat (nb : Int) - Int.toNat ((0 : Nat) : Int)) ≤ 9223372036854775807)) = true := by
  rw [decide_eq_true (by omega), decide_eq_true (by omega)]; rfl
 rw [e1, e2] at hev
 simp only [cond_true] at hev
 have hc := cr_of (Orc.nil_ok Tryz.prog) Tryz.func59 b21 rfl (hev.trans (q2.trans (q3.trans q4)))
 have hd := hc.data (y := .c (.d (.sl 1 n4 f4))) rfl
 refine (CX.of_cr Tryz.func59 b21 hd).le ?_ (.refl _)
 have r4' : RL busC e0 n4 f4 (AaY s nb nl ns nq) := by unfold AaY; simpa using r4
 exact r4'.de
end Go.Proofs.YtbpndheehcbldaaGreatDoor.st
namespace Go.Proofs.YtbpndheehcbldaaGreatDoor.sg
open Go.RowKit Go.Eb Go.Proofs.YtbpndheehcbldaaGreatDoor.st
set_option maxRecDepth 100000
def w10 (t : TypeId) (k : Int) : ByteArray := ByteArray.mk #[(116 : UInt8), (114 : UInt8), (105 : UInt8), (112 : UInt8)] ++ Ahx (1 : Nat) (some (Blk.cells [C.d (D.v (Value.int IntKind.u8 (IntKind.wrap IntKind.u8 (IntKind.wrap IntKind.i64 ((48 : Int) + k)))))] t))
def w16 (t : TypeId) (k : Int) : ByteArray := ByteArray.mk #[(116 : UInt8), (114 : UInt8), (105 : UInt8), (112 : UInt8), (49 : UInt8)] ++ Ahx (1 : Nat) (some (Blk.cells [C.d (D.v (Value.int IntKind.u8 (IntKind.wrap IntKind.u8 (IntKind.wrap IntKind.i64 ((48 : Int) + k)))))] t))
def ck1 (t : TypeId) (k : Int) : Bool := AdD (1 : Nat) (some (Blk.cells [C.d (D.v (Value.int IntKind.u8 (IntKind.wrap IntKind.u8 (IntKind.wrap IntKind.i64 ((48 : Int) + k)))))] t))
theorem w10_all (t : TypeId) (k : Nat) (h : k < 10) : ck1 t k = true ∧ w10 t k = sgBus.getD k e0 := by
 have : k = 0 ∨ k = 1 ∨ k = 2 ∨ k = 3 ∨ k = 4 ∨ k = 5 ∨ k = 6 ∨ k = 7 ∨ k = 8 ∨ k = 9 := by omega
 rcases this with rfl | rfl | rfl | rfl | rfl | rfl | rfl | rfl | rfl | rfl <;> exact ⟨rfl, rfl⟩
theorem w16_all (t : TypeId) (k : Nat) (h : k < 6) : ck1 t k = true ∧ w16 t k = sgBus.getD (10 + k) e0 := by
 have : k = 0 ∨ k = 1 ∨ k = 2 ∨ k = 3 ∨ k = 4 ∨ k = 5 := by omega
 rcases this with rfl | rfl | rfl | rfl | rfl | rfl <;> exact ⟨rfl, rfl⟩
theorem bus_len : sgBus.length = 16 := by simp [sgBus]
theorem bus_step {n : Nat} {f : Nat → List D} (h : n < 16) (hr : RLe busC e0 n f (sgBus.take n)) {w : ByteArray} (hw : w = sgBus.getD n e0) : RLe busC e0 (n + 1) (appF n f (Aat [D.v (Value.string w)] 1)) (sgBus.take (n + 1)) := by
 have := hr.app (x := sgBus.getD n e0) (sz := 1) (ds := [D.v (Value.string w)]) rfl (by rw [hw]; exact .refl _)
 rw [List.take_add_one, show sgBus[n]? = some (sgBus.getD n e0) by simp [List.getD, bus_len, h]]
 exact this
theorem lprfi14 (q : Int) (g : Nat) : ∀ (m k : Nat) (f : Nat → List D), k ≤ 6 → 6 - k < m → RLe busC e0 (10 + k) f (sgBus.take (10 + k)) → ∃ f', RLe busC e0 16 f' sgBus ∧ Lrfi_14 q g m (10 + k) f k = lfR 16 f'
 | 0, k, f, _, h, _ => by omega
 | m + 1, k, f, hk, h, hr => by
  rw [strfi_14]
  by_cases hlt : k < 6
  ·obtain ⟨e2, e3⟩ := w16_all 5 k hlt
   have hr' := bus_step (by omega) hr e3
   obtain ⟨f', h1, h2⟩ := lprfi14 q g m (k + 1) _ (by omega) (by omega) hr'
   refine ⟨f', h1, ?_⟩
   have e1 : decide ((k : Int) < 6) = true := decide_eq_true (by omega)
   unfold ck1 at e2
   rw [e1, e2, AdE (by omega), cond_true, cond_true, cond_true, show IntKind.wrap IntKind.i64 ((k : Int) + 1) = ((k + 1 : Nat) : Int) by rw [AdI (by omega) (by omega)]; omega, Nat.zero_add]
   exact h2
  ·obtain rfl : k = 6 := by omega
   rw [List.take_of_length_le (by rw [bus_len]; omega)] at hr
   exact ⟨f, hr, rfl⟩
theorem lprfi10 (q : Int) (g : Nat) (hg : 6 < g) : ∀ (m k : Nat) (f : Nat → List D), k ≤ 10 → 10 - k < m → RLe busC e0 k f (sgBus.take k) → ∃ f', RLe busC e0 16 f' sgBus ∧ Agd q g m k f k = lfR 16 f'
 | 0, k, f, _, h, _ => by omega
 | m + 1, k, f, hk, h, hr => by
  rw [strfi_10]
  by_cases hlt : k < 10
  ·obtain ⟨e2, e3⟩ := w10_all 5 k hlt
   have hr' := bus_step (by omega) hr e3
   obtain ⟨f', h1, h2⟩ := lprfi10 q g hg m (k + 1) _ (by omega) (by omega) hr'
   refine ⟨f', h1, ?_⟩
   have e1 : decide ((k : Int) < 10) = true := decide_eq_true (by omega)
   unfold ck1 at e2
   rw [e1, e2, AdE (by omega), cond_true, cond_true, cond_true, show IntKind.wrap IntKind.i64 ((k : Int) + 1) = ((k + 1 : Nat) : Int) by rw [AdI (by omega) (by omega)]; omega, Nat.zero_add]
   exact h2
  ·obtain rfl : k = 10 := by omega
   have e1 : decide (((10 : Nat) : Int) < 10) = false := rfl
   rw [e1, cond_false]
   exact lprfi14 q g g 0 f (by omega) (by omega) hr
theorem cRfi (k : Int) (h1 : 1 ≤ k) (h4 : k ≤ 4) : CX Tryz.prog 53 [vI k] [] (rowS (Abt k)) (hpS (Abt k)) := by
 have : k = 1 ∨ k = 2 ∨ k = 3 ∨ k = 4 := by omega
 have go : ∀ (k : Int) (l : List ByteArray), Aai Tryz.prog Orc.nil annrfi 20 Tryz.f53 (Aad Tryz.f53) [vI k] [] = some (.leaf (.c (.row 0 1 l.length), [(0, .cells ((l.map dS).map .d) 9)])) →
  CX Tryz.prog 53 [vI k] [] (rowS l) (hpS l) := fun k l h =>
  CX.of_cr Tryz.func53 brfi (CR.cellsRow (ds := l.map dS) (by simp) (fun i hi => by
   simp [busC, List.getD, hi]) (cr_of (Orc.nil_ok _) Tryz.func53 brfi rfl h))
 rcases this with rfl | rfl | rfl | rfl
 ·have e := evrfi 1 20
  rw [show ((1 : Int) == 1) = true from rfl, cond_true] at e
  exact go 1 sgLine e
 ·have e := evrfi 2 20
  rw [show ((2 : Int) == 1) = false from rfl, cond_false, show ((2 : Int) == 2) = true from rfl, cond_true, cond_true] at e
  exact go 2 sgSrc e
 ·have e := evrfi 3 20
  rw [show ((3 : Int) == 1) = false from rfl, cond_false, show ((3 : Int) == 2) = false from rfl, cond_false, show ((3 : Int) == 3) = true from rfl, cond_true] at e
  exact go 3 sgSrc e
 ·obtain ⟨f', hr, he⟩ := lprfi10 4 20 (by omega) 20 0 (fun _ => []) (by omega) (by omega) (.nil _)
  have e := evrfi 4 20
  rw [show ((4 : Int) == 1) = false from rfl, cond_false, show ((4 : Int) == 2) = false from rfl, cond_false, show ((4 : Int) == 3) = false from rfl, cond_false, show ((4 : Int) == 4) = true from rfl, cond_true] at e
  have he : Agd 4 20 20 0 (fun _ => []) 0 = _ := he
  have c := Aau (Orc.nil_ok _) Tryz.func53 brfi rfl (e.trans he)
  show CX Tryz.prog 53 [vI 4] [] (rowS sgBus) (hpS sgBus)
  unfold rowS hpS
  rw [bus_len]
  exact c.le (.refl _) (.cons ⟨rfl, rfl, rfl, hr.le⟩ (.refl _))
theorem cROu (r : SRel) (h : FitR r) : CX Tryz.prog 24 [aRel r] [] (rowS (outS r)) (hpS (outS r)) := by
 have ho : OrcS Tryz.prog (oRu (okG eI1 k14) fun x => Abt (theT eI1 x)) :=
  .cons (.nt (enc := eI1) (c := k14) (r := fun k => rowS (Abt k)) (H' := fun k => hpS (Abt k)) fun k hk => by
   unfold k14 at hk
   simp only [Bool.and_eq_true, decide_eq_true_eq] at hk
   exact cRfi k hk.1 hk.2) .nil
 have hru := h.ru
 have hfl := Ahq r.kind
 have e := evrou (okG eI1 k14) (fun x => Abt (theT eI1 x)) r (r.rules.length + 1)
 have k1 : okG eI1 k14 [AV.c (C.d (D.v (Value.int IntKind.i64 r.kind)))] = true := Aam AfS (c := k14) r.kind (by unfold k14; rw [decide_eq_true h.k1, decide_eq_true h.k4]; rfl)
 have k2 : theT eI1 [AV.c (C.d (D.v (Value.int IntKind.i64 r.kind)))] = r.kind := Aah AfS r.kind
 rw [k1, k2, cond_true] at e
 obtain ⟨f', h1, h2⟩ := app_loop (L := fun m n f i => Lrou_3 (okG eI1 k14) (fun x => Abt (theT eI1 x)) r (r.rules.length + 1) m n f i) (K := lfR) (l := r.rules) (d := AaI) (c := busC) (d0 := e0) (ch := fun x => [dS x.name]) (e := SRule.name) (sz := 1)
  (fun m k n f hk hn => by rw [strou_3, lt1 hk, ge0, tn, nx hk (by omega), AdE (by omega), tt, cond_true, cond_true, cond_true, Nat.zero_add])
  (fun m n f => by rw [strou_3, lt0 (Nat.lt_irrefl _)]; rfl) (fun _ => rfl) (fun k hk => .refl _) (r.rules.length + 1) 0 (Abt r.kind).length (fun i => busC ((Abt r.kind).getD i e0)) (Abt r.kind) (by omega) (by omega) (by omega) ⟨rfl, fun i _ => .refl _⟩
 simp only [Nat.sub_zero, List.drop_zero] at h1 h2
 have h1 : RLe busC e0 ((Abt r.kind).length + r.rules.length) f' (outS r) := h1
 refine (Aau ho.ok Tryz.func24 brou rfl (e.trans h2)).le ?_ (.cons ⟨h1.len, rfl, rfl, h1.le⟩ (.refl _))
 unfold rowS
 rw [h1.len]
 exact .refl _
theorem cRIn (r : SRel) (h : FitR r) : CX Tryz.prog 126 [aRel r] [] (.c (.d (Aaa (inS r)))) [] := by
 have hl := h.su
 obtain ⟨f', h1, h2⟩ := app_loop (L := fun m n f i => Lrin_3 r (r.subs.length + 1) m n f i) (K := lfR) (l := r.subs) (d := sub0) (c := busC) (d0 := e0) (ch := fun x => [dS x.loc]) (e := SSub.loc) (sz := 1)
  (fun m k n f hk hn => by rw [strin_3, lt1 hk, ge0, tn, nx hk (by omega), AdE (by omega), tt, cond_true, cond_true, cond_true, Nat.zero_add])
  (fun m n f => by rw [strin_3, lt0 (Nat.lt_irrefl _)]; rfl) (fun _ => rfl) (fun k hk => .refl _) (r.subs.length + 1) 0 0 (fun _ => []) [] (by omega) (by omega) (by omega) (.nil _)
 simp only [Nat.sub_zero, Nat.zero_add, List.nil_append, List.drop_zero] at h1 h2
 have h2 : Lrin_3 r (r.subs.length + 1) (r.subs.length + 1) 0 (fun _ => []) 0 = lfR r.subs.length f' := h2
 have hc := (cr_of (Orc.nil_ok _) Tryz.func126 brin rfl ((evrin r (r.subs.length + 1)).trans h2)).data (y := .c (.d (.sl 1 r.subs.length f'))) rfl
 exact (CX.of_cr Tryz.func126 brin hc).le (show DE _ _ from h1.de) (.refl _)
theorem cRrl (c : SCfg) (n : ByteArray) (h : Aaq c.rels = true) : CX Tryz.prog 54 [aCfg c, vS n] [] (vI (Abs c.rels n)) [] :=
 Aau (Orc.nil_ok _) Tryz.func54 brrl rfl ((evrrl c n (c.rels.length + 1)).trans (Afr (p := fun r : SRel => isT r.name n) (l := c.rels) (d0 := rel0) (L := fun m i => Lrrl_2 c n (c.rels.length + 1) m i) (fun m k hk => by
  rw [strrl_2, lt1 hk, ge0, tn, nx hk (AaF h), tt, cond_true, cond_true]) (fun m => by rw [strrl_2, lt0 (Nat.lt_irrefl _)]; rfl) (c.rels.length + 1) 0 (by omega) (by omega)))
theorem cRse (r : SRel) (n : ByteArray) (h : Aaq r.sets = true) : CX Tryz.prog 55 [aRel r, vS n] [] (vI (Aaw r n)) [] :=
 Aau (Orc.nil_ok _) Tryz.func55 brse rfl ((evrse r n (r.sets.length + 1)).trans (Afr (p := fun s : SSet => isT s.name n) (l := r.sets) (d0 := set0) (L := fun m i => Lrse_2 r n (r.sets.length + 1) m i) (fun m k hk => by
  rw [strse_2, lt1 hk, ge0, tn, nx hk (AaF h), tt, cond_true, cond_true]) (fun m => by rw [strse_2, lt0 (Nat.lt_irrefl _)]; rfl) (r.sets.length + 1) 0 (by omega) (by omega)))
abbrev lB (b : Bool) : Option (T (AV × Hp)) := some (.leaf (vB b, []))
theorem cRpu (r : SRel) (n : ByteArray) (h : Aaq r.pubs = true) : CX Tryz.prog 56 [aRel r, vS n] [] (vB (r.pubs.any fun p => isT p.set n)) [] := by
 have e := Adk (p := fun p : SPub => isT p.set n) (l := r.pubs) (d0 := pub0) (L := fun m i => Lrpu_2 r n (r.pubs.length + 1) m i) (A := lB true) (B := lB false) (fun m k hk => by
  rw [strpu_2, lt1 hk, ge0, tn, nx hk (AaF h), tt, cond_true, cond_true]) (fun m => by rw [strpu_2, lt0 (Nat.lt_irrefl _)]; rfl) (r.pubs.length + 1) 0 (by omega) (by omega)
 refine Aau (Orc.nil_ok _) Tryz.func56 brpu rfl ((evrpu r n (r.pubs.length + 1)).trans (Eq.trans e ?_))
 rw [List.drop_zero]
 cases (r.pubs.any fun p => isT p.set n) <;> rfl
theorem idxF_P (s : ByteArray) : ∀ (l : List ByteArray) (i : Nat), idxF s i l = idxP (fun x : ByteArray => isT x s) i l
 | [], i => rfl
 | x :: t, i => by
  unfold idxF idxP
  rw [idxF_P s t (i + 1)]
theorem cRix (l : List ByteArray) (n : ByteArray) (h : Aaq l = true) : CX Tryz.prog 52 [.c (.d (Aaa l)), vS n] [] (vI (AaX l n)) [] := by
 have := c46 l n (AaF h)
 rw [idxF_P] at this
 exact this
abbrev eCS := en2 aCfg vS
theorem eCS_inj : InjT eCS := Ahr aCfg_inj vS_inj
noncomputable def ZRf : KRf where
 okl := okG eCS fun a => Aaq a.1.rels
 rl x := Abs (theT eCS x).1.rels (theT eCS x).2
 oks := okG eRS fun a => Aaq a.1.sets && Aaq a.1.pubs
 se x := Aaw (theT eRS x).1 (theT eRS x).2
 pu x := (theT eRS x).1.pubs.any fun p => isT p.set (theT eRS x).2
 okx := okG eIx cIx
 ix x := AaX (theT eIx x).1 (theT eIx x).2
theorem sRf : OrcS Tryz.prog (oRf ZRf) :=
 .cons (.t' (enc := eCS) (c := fun a => Aaq a.1.rels) (r := fun a => vI (Abs a.1.rels a.2)) fun a h => cRrl a.1 a.2 h)
  (.cons (.t' (enc := eRS) (c := fun a => Aaq a.1.sets && Aaq a.1.pubs) (r := fun a => vI (Aaw a.1 a.2)) fun a h => cRse a.1 a.2 (by simp only [Bool.and_eq_true] at h; exact h.1))
  (.cons (.t' (enc := eRS) (c := fun a => Aaq a.1.sets && Aaq a.1.pubs) (r := fun a => vB (a.1.pubs.any fun p => isT p.set a.2)) fun a h => cRpu a.1 a.2 (by simp only [Bool.and_eq_true] at h; exact h.2))
  (.cons (.t' (enc := eIx) (c := cIx) (r := fun a => vI (AaX a.1 a.2)) fun a h => cRix a.1 a.2 h) .nil)))
end Go.Proofs.YtbpndheehcbldaaGreatDoor.sg
namespace Go.Proofs.YtbpndheehcbldaaGreatDoor.sg
open Go.RowKit Go.Eb Go.Proofs.YtbpndheehcbldaaGreatDoor.st
set_option maxRecDepth 100000
theorem cRFi (c : SCfg) (i k : Nat) (hc : fitC c.rels = true) (hi : i < c.rels.length) (hk : k < (c.rels.getD i rel0).subs.length) : CX Tryz.prog 25 [aCfg c, vI i, vI k] [] (aPl (Abd c.rels i ((c.rels.getD i rel0).subs.getD k sub0))) [] := by
 obtain ⟨hn, hf, ho⟩ := AbB hc
 refine Aau sRf.ok Tryz.func25 (by kernel_rfl) rfl ((evRf ZRf c i k).trans ?_)
 have t1 : decide ((i : Int) < 0) = false := decide_eq_false (by omega)
 have t2 : decide ((i : Int) ≥ (c.rels.length : Int)) = false := decide_eq_false (by omega)
 have t3 : decide ((k : Int) < 0) = false := decide_eq_false (by omega)
 have t4 : (decide ((0 : Int) ≤ i) && decide ((i : Int) < (c.rels.length : Int))) = true := by rw [decide_eq_true (by omega), decide_eq_true (by omega)]; rfl
 have t5 : decide ((k : Int) ≥ ((c.rels.getD i rel0).subs.length : Int)) = false := decide_eq_false (by omega)
 have t6 : (decide ((0 : Int) ≤ k) && decide ((k : Int) < ((c.rels.getD i rel0).subs.length : Int))) = true := by rw [decide_eq_true (by omega), decide_eq_true (by omega)]; rfl
 rw [t1, t2, t3, t4, tn i, t5, t6, tn k]
 simp only [cond_true, cond_false]
 generalize (c.rels.getD i rel0).subs.getD k sub0 = x
 have k1 : ZRf.okl [AV.agg (List.map C.d (cfgC c)), AV.c (C.d (D.v (Value.string x.dev)))] = true := Aam eCS_inj (c := fun a => Aaq a.1.rels) (c, x.dev) (by unfold Aaq; exact decide_eq_true (by show c.rels.length ≤ _; omega))
 have s1 : theT eCS [AV.agg (List.map C.d (cfgC c)), AV.c (C.d (D.v (Value.string x.dev)))] = (c, x.dev) := Aah eCS_inj (c, x.dev)
 have k2 : ZRf.rl [AV.agg (List.map C.d (cfgC c)), AV.c (C.d (D.v (Value.string x.dev)))] = Abs c.rels x.dev := by dsimp only [ZRf]; rw [s1]
 rw [k1, k2]
 simp only [cond_true]
 show _ = some (T.leaf (aPl (AdW c.rels i (Abs c.rels x.dev) x), ([] : Hp)))
 unfold AdW
 obtain ⟨dl, _⟩ := Afw c.rels x.dev
 generalize Abs c.rels x.dev = d at dl ⊢
 cases h1 : decide (d < 0) with
 | true => rfl
 | false =>
  have h1' : 0 ≤ d := by have := of_decide_eq_false h1; omega
  cases h2 : (d == (i : Int)) with
  | true => rfl
  | false =>
   have e1 : (decide (0 ≤ d) && decide (d < (c.rels.length : Int))) = true := by rw [decide_eq_true h1', decide_eq_true dl]; rfl
   have hr : Abk (c.rels.getD d.toNat rel0) = true := Acu ho rfl _
   generalize c.rels.getD d.toNat rel0 = r at hr ⊢
   obtain ⟨_, o2, o3, _, o5⟩ := AdR hr
   have k3 : ZRf.oks [AV.agg (List.map C.d (relC r)), AV.c (C.d (D.v (Value.string x.set)))] = true := Aam AdY (c := fun a => Aaq a.1.sets && Aaq a.1.pubs) (r, x.set) (by unfold Aaq; rw [decide_eq_true o2, decide_eq_true o3]; rfl)
   have s2 : theT eRS [AV.agg (List.map C.d (relC r)), AV.c (C.d (D.v (Value.string x.set)))] = (r, x.set) := Aah AdY (r, x.set)
   have k4 : ZRf.se [AV.agg (List.map C.d (relC r)), AV.c (C.d (D.v (Value.string x.set)))] = Aaw r x.set := by dsimp only [ZRf]; rw [s2]
   have k5 : ZRf.pu [AV.agg (List.map C.d (relC r)), AV.c (C.d (D.v (Value.string x.set)))] = r.pubs.any fun p => isT p.set x.set := by dsimp only [ZRf]; rw [s2]
   rw [e1, k3, k4, k5]
   simp only [cond_true, cond_false]
   unfold findC
   cases h3 : decide (Aaw r x.set < 0) with
   | true => rfl
   | false =>
    cases h4 : (r.pubs.any fun p => isT p.set x.set) with
    | false => rfl
    | true =>
     obtain ⟨j, hj, hje, _⟩ := Aco (p := fun s : SSet => isT s.name x.set) set0 (l := r.sets) (by have := of_decide_eq_false h3; show 0 ≤ Aaw r x.set; omega)
     have hje : Aaw r x.set = j := hje
     have e2 : (decide (0 ≤ Aaw r x.set) && decide (Aaw r x.set < (r.sets.length : Int))) = true := by rw [hje, decide_eq_true (by omega), decide_eq_true (by omega)]; rfl
     have hs : Afg (r.sets.getD (Aaw r x.set).toNat set0) = true := Acu o5 rfl _
     generalize r.sets.getD (Aaw r x.set).toNat set0 = q at hs ⊢
     have k6 : ZRf.okx [AV.c (C.d (Aab 1 busC e0 q.sigs)), AV.c (C.d (D.v (Value.string x.sig)))] = true := Aam AbU (c := cIx) (q.sigs, x.sig) hs
     have s3 : theT eIx [AV.c (C.d (Aab 1 busC e0 q.sigs)), AV.c (C.d (D.v (Value.string x.sig)))] = (q.sigs, x.sig) := Aah AbU (q.sigs, x.sig)
     have k7 : ZRf.ix [AV.c (C.d (Aab 1 busC e0 q.sigs)), AV.c (C.d (D.v (Value.string x.sig)))] = AaX q.sigs x.sig := by dsimp only [ZRf]; rw [s3]
     rw [e2, k6, k7]
     simp only [Bool.not_true, cond_true, cond_false]
     cases h5 : decide (AaX q.sigs x.sig < 0) <;> rfl
theorem any_isT (l : List ByteArray) (x : ByteArray) : (l.any fun y => isT y x) = inB l x := by
 unfold inB
 congr 1
 funext y
 rw [isT_symm]
 show (x.toList == y.toList) = _
 rw [ByteArray.toList_eq, ByteArray.toList_eq]
theorem strIx_ge (l : List ByteArray) (x : ByteArray) : decide (AaX l x ≥ 0) = inB l x := (Ahk _ l 0).trans (any_isT l x)
theorem strIx_lt (l : List ByteArray) (x : ByteArray) : decide (AaX l x < 0) = !inB l x := by
 rw [← strIx_ge, Bool.eq_iff_iff, Bool.not_eq_true', decide_eq_true_eq, decide_eq_false_iff_not]
 omega
theorem sTw : OrcS Tryz.prog (oTw (okG eIx cIx) fun x => AaX (theT eIx x).1 (theT eIx x).2) := .cons (.t' (enc := eIx) (c := cIx) (r := fun a => vI (AaX a.1 a.2)) fun a h => cRix a.1 a.2 h) .nil
theorem takeRL (l : List ByteArray) (k : Nat) (hk : k ≤ l.length) : RL busC e0 (Int.toNat (k : Int) - Int.toNat ((0 : Nat) : Int)) (fun i => busC (l.getD (Int.toNat ((0 : Nat) : Int) + i) e0)) (l.take k) := by
 have e : Int.toNat (k : Int) - Int.toNat ((0 : Nat) : Int) = k := by simp
 rw [e]
 refine .eq (by simp; omega) fun i hi => ?_
 have : Int.toNat ((0 : Nat) : Int) + i = i := by simp
 rw [this, List.getD_eq_getElem?_getD, List.getD_eq_getElem?_getD, List.getElem?_take, if_pos hi]
theorem take_ix (l : List ByteArray) (k : Nat) (x : ByteArray) (hk : k ≤ l.length) (hl : l.length ≤ 9223372036854775807) :
  okG eIx cIx [AV.c (C.d (D.sl 1 (Int.toNat (k : Int) - Int.toNat ((0 : Nat) : Int)) fun i => busC (l.getD (Int.toNat ((0 : Nat) : Int) + i) e0))), AV.c (C.d (D.v (Value.string x)))] = true ∧
  theT eIx [AV.c (C.d (D.sl 1 (Int.toNat (k : Int) - Int.toNat ((0 : Nat) : Int)) fun i => busC (l.getD (Int.toNat ((0 : Nat) : Int) + i) e0))), AV.c (C.d (D.v (Value.string x)))] = (l.take k, x) := by
 obtain ⟨h1, h2⟩ := ix_row (takeRL l k hk) x
 exact ⟨okG_of AbU h1 h2 (by unfold cIx Aaq; exact decide_eq_true (by simp; omega)), AfG AbU h1 h2⟩
theorem take_snoc {l : List ByteArray} {k : Nat} (h : k < l.length) : l.take (k + 1) = l.take k ++ [l.getD k e0] := by
 rw [List.take_add_one, show l[k]? = some (l.getD k e0) by simp [List.getD, h]]
 rfl
theorem lptwi (l : List ByteArray) (g : Nat) (hb : l.length ≤ 9223372036854775807) : ∀ (m k : Nat), k ≤ l.length → l.length - k < m → Ltwi_2 (okG eIx cIx) (fun x => AaX (theT eIx x).1 (theT eIx x).2) l g m k = some (.leaf (vB (repS (l.take k) (l.drop k)), []))
 | 0, k, _, h => by omega
 | m + 1, k, hk, h => by
  rw [sttwi_2]
  by_cases hlt : k < l.length
  ·obtain ⟨k1, k2⟩ := take_ix l k (l.getD k e0) hk hb
   have e1 : (decide ((0 : Int) ≤ ((0 : Nat) : Int)) && decide (((0 : Nat) : Int) ≤ (k : Int)) && decide ((k : Int) ≤ (l.length : Int))) = true := by rw [decide_eq_true (by omega), decide_eq_true (by omega), decide_eq_true (by omega)]; rfl
   rw [e1, lt1 hlt, ge0, nx hlt hb, lptwi l g hb m (k + 1) (by omega) (by omega), tt]
   have k1' : okG eIx cIx [AV.c (C.d (D.sl 1 (Int.toNat (k : Int) - Int.toNat ((0 : Nat) : Int)) fun i => busC (l.getD (Int.toNat ((0 : Nat) : Int) + i) e0))), AV.c (C.d (D.v (Value.string (l.getD (Int.toNat (k : Int)) e0))))] = true := k1
   have k2' : theT eIx [AV.c (C.d (D.sl 1 (Int.toNat (k : Int) - Int.toNat ((0 : Nat) : Int)) fun i => busC (l.getD (Int.toNat ((0 : Nat) : Int) + i) e0))), AV.c (C.d (D.v (Value.string (l.getD (Int.toNat (k : Int)) e0))))] = (l.take k, l.getD k e0) := k2
   rw [k1', k2', strIx_ge, Aar (d := e0) hlt, take_snoc hlt]
   simp only [cond_true, repS]
   cases inB (l.take k) (l.getD k e0) <;> rfl
  ·rw [lt0 hlt, List.drop_of_length_le (by omega)]
   rfl
theorem cTwi (l : List ByteArray) (h : Aaq l = true) : CX Tryz.prog 125 [.c (.d (Aaa l))] [] (vB (repS [] l)) [] :=
 Aau sTw.ok Tryz.func125 btwi rfl ((evtwi _ _ l (l.length + 1)).trans (lptwi l (l.length + 1) (AaF h) (l.length + 1) 0 (by omega) (by omega)))
def eFk (c : SCfg) (a : Int × Int) : List AV := [aCfg c, vI a.1, vI a.2]
theorem AfT (c : SCfg) : InjT (eFk c) := fun a b h => by
 obtain ⟨x1, h⟩ := Aaj (Aaj h).2
 obtain ⟨x2, h⟩ := Aaj h
 exact Prod.ext (AgK _ _ x1) (AgK _ _ x2)
def cFk (c : SCfg) (a : Int × Int) : Bool := (decide (0 ≤ a.1) && decide (a.1 < c.rels.length)) && (decide (0 ≤ a.2) && decide (a.2 < (c.rels.getD a.1.toNat rel0).subs.length))
def fiS (c : SCfg) (a : Int × Int) : Plc := Abd c.rels a.1 ((c.rels.getD a.1.toNat rel0).subs.getD a.2.toNat sub0)
noncomputable def ZRo (c : SCfg) : KRo where
 oko := okG eR1 fitR
 ou x := outS (theT eR1 x)
 inn x := inS (theT eR1 x)
 okt := okG eBu Aaq
 tw x := repS [] (theT eBu x)
 okx := okG eIx cIx
 ix x := AaX (theT eIx x).1 (theT eIx x).2
 oks := okG eRS fun a => Aaq a.1.sets
 se x := Aaw (theT eRS x).1 (theT eRS x).2
 okf := okG (eFk c) (cFk c)
 fi x := fiS c (theT (eFk c) x)
theorem cFk_of {c : SCfg} {a : Int × Int} (h : cFk c a = true) : ∃ i k : Nat, a = ((i : Int), (k : Int)) ∧ i < c.rels.length ∧ k < (c.rels.getD i rel0).subs.length := by
 unfold cFk at h
 simp only [Bool.and_eq_true, decide_eq_true_eq] at h
 obtain ⟨⟨h1, h2⟩, h3, h4⟩ := h
 obtain ⟨x, y⟩ := a
 obtain ⟨i, rfl⟩ := Int.eq_ofNat_of_zero_le h1
 obtain ⟨k, rfl⟩ := Int.eq_ofNat_of_zero_le h3
 refine ⟨i, k, rfl, by simpa using h2, ?_⟩
 have h4 : (k : Int) < ((c.rels.getD (Int.toNat (i : Int)) rel0).subs.length : Int) := h4
 rw [Int.toNat_natCast] at h4
 omega
theorem cFk_mk {c : SCfg} {i k : Nat} (hi : i < c.rels.length) (hk : k < (c.rels.getD i rel0).subs.length) : cFk c ((i : Int), (k : Int)) = true := by
 unfold cFk
 simp only [Bool.and_eq_true, decide_eq_true_eq]
 refine ⟨⟨by omega, by omega⟩, by omega, ?_⟩
 show (k : Int) < ((c.rels.getD (Int.toNat (i : Int)) rel0).subs.length : Int)
 rw [Int.toNat_natCast]
 omega
theorem sRo (c : SCfg) (h : fitC c.rels = true) : OrcS Tryz.prog (oRo (ZRo c)) :=
 .cons (.nt (enc := eR1) (c := fitR) (r := fun r => rowS (outS r)) (H' := fun r => hpS (outS r)) fun r h => cROu r (AaC h)) (.cons (.t' (enc := eR1) (c := fitR) (r := fun r => .c (.d (Aaa (inS r)))) fun r h => cRIn r (AaC h))
  (.cons (.lt (enc := eBu) (c := Aaq) (r := fun l => vB (repS [] l)) Tryz.func125 btwi (fun _ => rfl) fun l h => cTwi l h)
  (.cons (.lt (enc := eIx) (c := cIx) (r := fun a => vI (AaX a.1 a.2)) Tryz.func52 b46 (fun _ => rfl) fun a h => cRix a.1 a.2 h)
  (.cons (.t' (enc := eRS) (c := fun a => Aaq a.1.sets) (r := fun a => vI (Aaw a.1 a.2)) fun a h => cRse a.1 a.2 h)
  (.cons (.t' (enc := eFk c) (c := cFk c) (r := fun a => aPl (fiS c a)) fun a ha => by
    obtain ⟨i, k, rfl, hi, hk⟩ := cFk_of ha
    have := cRFi c i k h hi hk
    exact this) .nil)))))
theorem lpone8 (c : SCfg) (i : Nat) (r : SRel) (er : c.rels.getD i rel0 = r) (hr : fitR r = true) (g mo : Nat) (a : Nat) (ha : a < r.sets.length) : ∀ (m j : Nat), j ≤ (r.sets.getD a set0).sigs.length → (r.sets.getD a set0).sigs.length - j < m →
  Lone_8 (ZRo c) c i g mo m a j = bif Acz (outS r) ((r.sets.getD a set0).sigs.take j) ((r.sets.getD a set0).sigs.drop j) != 0 then lN (Acz (outS r) ((r.sets.getD a set0).sigs.take j) ((r.sets.getD a set0).sigs.drop j)) else Lone_5 (ZRo c) c i g mo (IntKind.wrap IntKind.i64 ((a : Int) + 1))
 | 0, j, _, h => by omega
 | m + 1, j, hj, h => by
  have hF := AaC hr
  have ol := Aeq r
  have hru := hF.ru
  have hs := hF.sg _ (AaP set0 ha)
  have e0' : (decide ((0 : Int) ≤ (a : Int)) && decide ((a : Int) < (r.sets.length : Int))) = true := by rw [decide_eq_true (by omega), decide_eq_true (by omega)]; rfl
  rw [stone_8, tn i, er, tn a, e0']
  by_cases hlt : j < (r.sets.getD a set0).sigs.length
  ·have k1 : (ZRo c).oko [AV.agg (List.map C.d (relC r))] = true := Aam AbK (c := fitR) r hr
   have t1 : theT eR1 [AV.agg (List.map C.d (relC r))] = r := Aah AbK r
   have k2 : (ZRo c).ou [AV.agg (List.map C.d (relC r))] = outS r := by dsimp only [ZRo]; rw [t1]
   have ih := lpone8 c i r er hr g mo a ha m (j + 1) (by omega) (by omega)
   rw [take_snoc hlt] at ih
   rw [Aar (d := e0) hlt]
   generalize hL : (r.sets.getD a set0).sigs = L at *
   have e1 : (decide ((0 : Int) ≤ ((0 : Nat) : Int)) && decide (((0 : Nat) : Int) ≤ (j : Int)) && decide ((j : Int) ≤ (L.length : Int))) = true := by rw [decide_eq_true (by omega), decide_eq_true (by omega), decide_eq_true (by omega)]; rfl
   have e2 : (decide ((0 : Int) ≤ (j : Int)) && decide ((j : Int) < (L.length : Int))) = true := by rw [decide_eq_true (by omega), decide_eq_true (by omega)]; rfl
   obtain ⟨k5, t5⟩ := take_ix L j (L.getD j e0) hj (by omega)
   have k3 : (ZRo c).okx [AV.c (C.d (Aab 1 busC e0 (outS r))), AV.c (C.d (D.v (Value.string (L.getD j e0))))] = true := Aam AbU (c := cIx) (outS r, L.getD j e0) (by unfold cIx Aaq; exact decide_eq_true (by show (outS r).length ≤ _; omega))
   have t3 : theT eIx [AV.c (C.d (Aab 1 busC e0 (outS r))), AV.c (C.d (D.v (Value.string (L.getD j e0))))] = (outS r, L.getD j e0) := Aah AbU (outS r, L.getD j e0)
   have k4 : (ZRo c).ix [AV.c (C.d (Aab 1 busC e0 (outS r))), AV.c (C.d (D.v (Value.string (L.getD j e0))))] = AaX (outS r) (L.getD j e0) := by dsimp only [ZRo]; rw [t3]
   have k5' : (ZRo c).okx [AV.c (C.d (D.sl 1 (Int.toNat (j : Int) - Int.toNat ((0 : Nat) : Int)) fun i => busC (L.getD (Int.toNat ((0 : Nat) : Int) + i) e0))), AV.c (C.d (D.v (Value.string (L.getD j e0))))] = true := k5
   have k6 : (ZRo c).ix [AV.c (C.d (D.sl 1 (Int.toNat (j : Int) - Int.toNat ((0 : Nat) : Int)) fun i => busC (L.getD (Int.toNat ((0 : Nat) : Int) + i) e0))), AV.c (C.d (D.v (Value.string (L.getD j e0))))] = AaX (L.take j) (L.getD j e0) := by dsimp only [ZRo]; rw [t5]
   have e3 : IntKind.wrap IntKind.i64 ((j : Int) + 1) = ((j + 1 : Nat) : Int) := nx hlt (by omega)
   rw [e1, e2, lt1 hlt, e3, ih, k1, k2]
   have q1 : L.getD (Int.toNat (j : Int)) e0 = L.getD j e0 := rfl
   rw [q1, k3, k4, k5', k6, strIx_ge, strIx_lt]
   simp only [cond_true]
   simp only [Acz]
   cases inB (outS r) (L.getD j e0) with
   | false => rfl
   | true => cases inB (L.take j) (L.getD j e0) <;> rfl
  ·rw [lt0 hlt, List.drop_of_length_le (by omega)]
   rfl
theorem lpone5 (c : SCfg) (i : Nat) (r : SRel) (er : c.rels.getD i rel0 = r) (hr : fitR r = true) (g : Nat) (hg : 1000 < g) : ∀ (m k : Nat), k ≤ r.sets.length → r.sets.length - k < m →
  Lone_5 (ZRo c) c i g m k = bif AbE (outS r) (r.sets.drop k) != 0 then lN (AbE (outS r) (r.sets.drop k)) else Agg (ZRo c) c i g g 0
 | 0, k, _, h => by omega
 | m + 1, k, hk, h => by
  have hF := AaC hr
  rw [stone_5, tn i, er]
  by_cases hlt : k < r.sets.length
  ·have hs := hF.sg _ (AaP set0 hlt)
   have e : Lone_8 (ZRo c) c i g m g k ((0 : Nat) : Int) = _ := lpone8 c i r er hr g m k hlt g 0 (by omega) (by omega)
   rw [nx hlt (by have := hF.se; omega), lpone5 c i r er hr g hg m (k + 1) (by omega) (by omega), List.drop_zero, List.take_zero] at e
   rw [Aar (d := set0) hlt, lt1 hlt, cond_true]
   refine e.trans ?_
   simp only [AbE]
   cases hz : (Acz (outS r) [] (r.sets.getD k set0).sigs != 0) with
   | true => simp only [cond_true, hz]
   | false => rfl
  ·rw [lt0 hlt, List.drop_of_length_le (by omega)]
   rfl
theorem lpone16 (c : SCfg) (i : Nat) (r : SRel) (er : c.rels.getD i rel0 = r) (hr : fitR r = true) (g : Nat) : ∀ (m k : Nat), k ≤ r.pubs.length → r.pubs.length - k < m → Agg (ZRo c) c i g m k = bif AcD r (r.pubs.drop k) != 0 then lN (AcD r (r.pubs.drop k)) else Agf (ZRo c) c i g g 0
 | 0, k, _, h => by omega
 | m + 1, k, hk, h => by
  have hF := AaC hr
  rw [stone_16, tn i, er]
  by_cases hlt : k < r.pubs.length
  ·rw [Aar (d := pub0) hlt, lt1 hlt, ge0, tn k, nx hlt (by have := hF.pu; omega), lpone16 c i r er hr g m (k + 1) (by omega) (by omega), tt, cond_true, cond_true]
   generalize r.pubs.getD k pub0 = p
   have k1 : (ZRo c).oks [AV.agg (List.map C.d (relC r)), AV.c (C.d (D.v (Value.string p.set)))] = true := Aam AdY (c := fun a => Aaq a.1.sets) (r, p.set) (by unfold Aaq; exact decide_eq_true (by have := hF.se; show r.sets.length ≤ _; omega))
   have t1 : theT eRS [AV.agg (List.map C.d (relC r)), AV.c (C.d (D.v (Value.string p.set)))] = (r, p.set) := Aah AdY (r, p.set)
   have k2 : (ZRo c).se [AV.agg (List.map C.d (relC r)), AV.c (C.d (D.v (Value.string p.set)))] = Aaw r p.set := by dsimp only [ZRo]; rw [t1]
   rw [k1, k2, cond_true]
   simp only [AcD]
   cases decide (Aaw r p.set < 0) <;> rfl
  ·rw [lt0 hlt, List.drop_of_length_le (by omega)]
   rfl
theorem lpone21 (c : SCfg) (i : Nat) (r : SRel) (er : c.rels.getD i rel0 = r) (hi : i < c.rels.length) (hr : fitR r = true) (g : Nat) : ∀ (m k : Nat), k ≤ r.subs.length → r.subs.length - k < m → Agf (ZRo c) c i g m k = lN (Acx c.rels i (r.subs.drop k))
 | 0, k, _, h => by omega
 | m + 1, k, hk, h => by
  have hF := AaC hr
  rw [stone_21, tn i, er]
  by_cases hlt : k < r.subs.length
  ·rw [Aar (d := sub0) hlt, lt1 hlt, nx hlt (by have := hF.su; omega), lpone21 c i r er hi hr g m (k + 1) (by omega) (by omega), cond_true]
   have k1 : (ZRo c).okf [AV.agg (List.map C.d (cfgC c)), AV.c (C.d (D.v (Value.int IntKind.i64 (i : Int)))), AV.c (C.d (D.v (Value.int IntKind.i64 (k : Int))))] = true := Aam (AfT c) (c := cFk c) ((i : Int), (k : Int)) (cFk_mk hi (by rw [er]; exact hlt))
   have k2 : (ZRo c).fi [AV.agg (List.map C.d (cfgC c)), AV.c (C.d (D.v (Value.int IntKind.i64 (i : Int)))), AV.c (C.d (D.v (Value.int IntKind.i64 (k : Int))))] = Abd c.rels i (r.subs.getD k sub0) := by
    dsimp only [ZRo]
    rw [show theT (eFk c) [AV.agg (List.map C.d (cfgC c)), AV.c (C.d (D.v (Value.int IntKind.i64 (i : Int)))), AV.c (C.d (D.v (Value.int IntKind.i64 (k : Int))))] = ((i : Int), (k : Int)) from Aah (AfT c) ((i : Int), (k : Int))]
    unfold fiS
    simp only [Int.toNat_natCast]
    rw [er]
   rw [k1, k2, cond_true]
   simp only [Acx]
   cases hz : ((Abd c.rels i (r.subs.getD k sub0)).err != 0) with
   | true => simp only [cond_true, hz]
   | false => rfl
  ·rw [lt0 hlt, List.drop_of_length_le (by omega)]
   rfl
theorem cOne (c : SCfg) (i : Nat) (hc : fitC c.rels = true) (hi : i < c.rels.length) : CX Tryz.prog 64 [aCfg c, vI i] [] (vI (AcB c.rels i (c.rels.getD i rel0))) [] := by
 obtain ⟨hn, hf, ho⟩ := AbB hc
 have hr := hf _ (AaP rel0 hi)
 obtain ⟨r, er⟩ : ∃ r, c.rels.getD i rel0 = r := ⟨_, rfl⟩
 rw [er] at hr ⊢
 have hF := AaC hr
 have ol := Aeq r
 have hru := hF.ru
 have hsu := hF.su
 obtain ⟨g, hg⟩ : ∃ g, 2000 < g := ⟨2001, by omega⟩
 refine Aau (sRo c hc).ok Tryz.func64 bone rfl ((evone (ZRo c) c i g).trans ?_)
 have e0' : (decide ((0 : Int) ≤ (i : Int)) && decide ((i : Int) < (c.rels.length : Int))) = true := by rw [decide_eq_true (by omega), decide_eq_true (by omega)]; rfl
 have k1 : (ZRo c).oko [AV.agg (List.map C.d (relC r))] = true := Aam AbK (c := fitR) r hr
 have t1 : theT eR1 [AV.agg (List.map C.d (relC r))] = r := Aah AbK r
 have k2 : (ZRo c).ou [AV.agg (List.map C.d (relC r))] = outS r := by dsimp only [ZRo]; rw [t1]
 have k4 : (ZRo c).inn [AV.agg (List.map C.d (relC r))] = inS r := by dsimp only [ZRo]; rw [t1]
 have hcat := RL.cat (c := busC) (d0 := e0) (RL.data (outS r)) (RL.data (inS r))
 have hin : (inS r).length = r.subs.length := by simp [inS]
 have a1 : Asle [AV.c (C.d (D.sl 1 ((outS r).length + (inS r).length) (appF (outS r).length (fun i => busC ((outS r).getD i e0)) fun i => busC ((inS r).getD i e0))))] (eBu (outS r ++ inS r)) := .cons (show DE _ _ from hcat.de (sz := 1)) .nil
 have a2 : Asle (eBu (outS r ++ inS r)) [AV.c (C.d (D.sl 1 ((outS r).length + (inS r).length) (appF (outS r).length (fun i => busC ((outS r).getD i e0)) fun i => busC ((inS r).getD i e0))))] := .cons (show DE _ _ from hcat.ed (sz := 1)) .nil
 have k7 : (ZRo c).okt [AV.c (C.d (D.sl 1 ((outS r).length + (inS r).length) (appF (outS r).length (fun i => busC ((outS r).getD i e0)) fun i => busC ((inS r).getD i e0))))] = true :=
  okG_of AfV (a := outS r ++ inS r) a1 a2 (by unfold Aaq; exact decide_eq_true (by rw [List.length_append]; omega))
 have k8 : (ZRo c).tw [AV.c (C.d (D.sl 1 ((outS r).length + (inS r).length) (appF (outS r).length (fun i => busC ((outS r).getD i e0)) fun i => busC ((inS r).getD i e0))))] = repS [] (outS r ++ inS r) := by
  dsimp only [ZRo]
  rw [AfG AfV (a := outS r ++ inS r) a1 a2]
 have k9 : (decide (((outS r).length + (inS r).length) * 16 ≤ 140737488355328) && decide ((outS r).length + (inS r).length ≤ 9223372036854775807)) = true := by
  rw [decide_eq_true (by omega), decide_eq_true (by omega)]; rfl
 rw [e0', tn i, er, k1, k2, k4, k7, k8, k9]
 simp only [cond_true]
 unfold AcB AcE
 cases hrep : repS [] (outS r ++ inS r) with
 | true => rfl
 | false =>
  rw [cond_false]
  have l2 : Lone_5 (ZRo c) c i g g ((0 : Nat) : Int) = _ := lpone5 c i r er hr g (by omega) g 0 (by omega) (by have := hF.se; omega)
  have l3 : Agg (ZRo c) c i g g ((0 : Nat) : Int) = _ := lpone16 c i r er hr g g 0 (by omega) (by have := hF.pu; omega)
  have l4 : Agf (ZRo c) c i g g ((0 : Nat) : Int) = _ := lpone21 c i r er hi hr g g 0 (by omega) (by omega)
  rw [List.drop_zero] at l2 l3 l4
  refine Eq.trans l2 ?_
  cases hz : (AbE (outS r) r.sets != 0) with
  | true => simp only [cond_true, cond_false, hz]
  | false =>
   simp only [cond_true, cond_false]
   refine Eq.trans l3 ?_
   cases hy : (AcD r r.pubs != 0) with
   | true => rfl
   | false => exact l4
def eCi (c : SCfg) (i : Int) : List AV := [aCfg c, vI i]
theorem eCi_inj (c : SCfg) : InjT (eCi c) := fun a b h => AgK _ _ (Aaj (Aaj h).2).1
def cCi (c : SCfg) (i : Int) : Bool := decide (0 ≤ i) && decide (i < c.rels.length)
theorem sRc (c : SCfg) (h : fitC c.rels = true) : OrcS Tryz.prog (oRc (okG (eCi c) (cCi c)) fun x => AcB c.rels (theT (eCi c) x) (c.rels.getD (theT (eCi c) x).toNat rel0)) :=
 .cons (.t' (enc := eCi c) (c := cCi c) (r := fun i => vI (AcB c.rels i (c.rels.getD i.toNat rel0))) fun i hi => by
  unfold cCi at hi
  simp only [Bool.and_eq_true, decide_eq_true_eq] at hi
  obtain ⟨k, rfl⟩ := Int.eq_ofNat_of_zero_le hi.1
  have := cOne c k h (by omega)
  exact this) .nil
theorem lprck (c : SCfg) (g : Nat) (hc : fitC c.rels = true) : ∀ (m k : Nat), k ≤ c.rels.length → c.rels.length - k < m → Lrck_2 (okG (eCi c) (cCi c)) (fun x => AcB c.rels (theT (eCi c) x) (c.rels.getD (theT (eCi c) x).toNat rel0)) c g m k = lE (AbR c.rels k (c.rels.drop k))
 | 0, k, _, h => by omega
 | m + 1, k, hk, h => by
  rw [strck_2]
  by_cases hlt : k < c.rels.length
  ·have hn := (AbB hc).1
   have k1 : okG (eCi c) (cCi c) [AV.agg (List.map C.d (cfgC c)), AV.c (C.d (D.v (Value.int IntKind.i64 (k : Int))))] = true := Aam (eCi_inj c) (c := cCi c) (k : Int) (by unfold cCi; rw [decide_eq_true (by omega), decide_eq_true (by omega)]; rfl)
   have t1 : theT (eCi c) [AV.agg (List.map C.d (cfgC c)), AV.c (C.d (D.v (Value.int IntKind.i64 (k : Int))))] = (k : Int) := Aah (eCi_inj c) (k : Int)
   rw [Aar (d := rel0) hlt, lt1 hlt, nx hlt (by omega), lprck c g hc m (k + 1) (by omega) (by omega), k1, t1, tn k, cond_true, cond_true]
   simp only [AbR]
   cases hz : (AcB c.rels k (c.rels.getD k rel0) != 0) with
   | true => rfl
   | false => rfl
  ·rw [lt0 hlt, List.drop_of_length_le (by omega)]
   rfl
theorem cRck (c : SCfg) (h : fitC c.rels = true) : CX Tryz.prog 30 [aCfg c] [] (vQ (AbR c.rels 0 c.rels)) [] :=
 Aau (sRc c h).ok Tryz.func30 brck rfl ((evrck _ _ c (c.rels.length + 1)).trans (lprck c (c.rels.length + 1) h (c.rels.length + 1) 0 (by omega) (by omega)))
end Go.Proofs.YtbpndheehcbldaaGreatDoor.sg
namespace Go.Proofs.YtbpndheehcbldaaGreatDoor.tb
open Go.RowKit Go.Eb Go.Proofs.YtbpndheehcbldaaGreatDoor.st
set_option maxRecDepth 100000
open Go.Proofs.YtbpndheehcbldaaGreatDoor.sg (fitR FitR AaC fitC AbB eR1 AbK cOuD cSix Aeq eFd AfU cFd Afw cFind aPl cFk cFk_of cFk_mk eFk AfT fiS)
theorem Aek {α β ρ : Type} {c : β → List D} {d0 : β} {L : Nat → Nat → (Nat → List D) → Int → ρ} {K : Nat → (Nat → List D) → ρ} {l : List α} {d : α} {ch : α → List D} {e : α → β} {sz : Nat}
  (hst : ∀ (m k n : Nat) (f : Nat → List D), k < l.length → n ≤ 5000 → L (m + 1) n f k = L m (n + 1) (appF n f (Aat (ch (l.getD k d)) sz)) ((k + 1 : Nat) : Int))
  (hend : ∀ (m n : Nat) (f : Nat → List D), L (m + 1) n f (l.length : Int) = K n f) (hs : ∀ x, (ch x).length = sz) (hch : ∀ k, k < l.length → DEs (ch (l.getD k d)) (c (e (l.getD k d))) ∧ DEs (c (e (l.getD k d))) (ch (l.getD k d))) :
  ∀ (m k n : Nat) (f : Nat → List D) (bef : List β), k ≤ l.length → l.length - k < m → n + (l.length - k) ≤ 5000 → RL c d0 n f bef →
   ∃ f', RL c d0 (n + (l.length - k)) f' (bef ++ (l.drop k).map e) ∧ L m n f k = K (n + (l.length - k)) f' := by
 intro m
 induction m with
 | zero => intro k n f bef _ h; omega
 | succ m ih =>
  intro k n f bef hk hm hn hr
  by_cases hlt : k < l.length
  ·rw [hst m k n f hlt (by omega)]
   obtain ⟨f', h1, h2⟩ := ih (k + 1) (n + 1) _ (bef ++ [e (l.getD k d)]) (by omega) (by omega) (by omega) (hr.app (hs _) (hch k hlt).1 (hch k hlt).2)
   have e1 : n + 1 + (l.length - (k + 1)) = n + (l.length - k) := by omega
   rw [e1] at h1 h2
   refine ⟨f', ?_, h2⟩
   rw [Aar (d := d) hlt]
   simpa using h1
  ·obtain rfl : k = l.length := by omega
   rw [hend]
   refine ⟨f, ?_, by rw [Nat.sub_self, Nat.add_zero]⟩
   simpa using hr
def eIp (a : List SSet × SPub) : List AV × Hp := ([.c (.d (AfH a.1)), .c (.fn 47 [] [.ptr 0 0])], HP a.2)
theorem eIp_inj : InjY eIp := fun a b h1 h2 => Prod.ext (Aax (sz := 2) (d0 := set0) Aem _ _ (AfC (Aaj h1).1))
 (Afe _ _ (ale_agg (x := pubC a.2) (y := pubC b.2) (AfA (Aeu h2 0 (a := .cells ((pubC a.2).map .d) 122) (b := .cells ((pubC b.2).map .d) 122) rfl rfl))))
theorem lpisn (l : List SSet) (p : SPub) (g : Nat) (hb : l.length ≤ 9223372036854775807) : ∀ (m k : Nat), k ≤ l.length → l.length - k < m →
  Lisn_2 l p g m k = some (.leaf (vI (idxP (fun s : SSet => isT s.name p.set) k (l.drop k)), HP p))
 | 0, k, _, h => by omega
 | m + 1, k, hk, h => by
  rw [stisn_2]
  by_cases hlt : k < l.length
  ·rw [Aar (d := set0) hlt, lt1 hlt, ge0, tn, nx hlt hb, lpisn l p g hb m (k + 1) (by omega) (by omega), tt, cond_true, cond_true]
   simp only [idxP]
   show (bif isT (l.getD k set0).name p.set then _ else _) = _
   cases isT (l.getD k set0).name p.set <;> rfl
  ·rw [lt0 hlt, List.drop_of_length_le (by omega)]
   rfl
theorem cisn (l : List SSet) (p : SPub) (hb : l.length ≤ 9223372036854775807) :
  CX Tryz.prog 46 [.c (.d (AfH l)), .c (.fn 47 [] [.ptr 0 0])] (HP p) (vI (idxP (fun s : SSet => isT s.name p.set) 0 l)) (HP p) := by
 have ho : Acg Tryz.prog (Orc.cons 47 (inl Tryz.prog Orc.nil na 1 Tryz.f47) Orc.nil) := (OrcS.cons (.inl .nil Tryz.func47 (by kernel_rfl)) .nil).ok
 exact Aau ho Tryz.func46 bisn rfl ((evisn l p (l.length + 1)).trans (lpisn l p (l.length + 1) hb (l.length + 1) 0 (by omega) (by omega)))
noncomputable def ZSn : KSn where
 oko := okG eR1 fitR
 ou x := outS (theT eR1 x)
 oki := okZ eIp fun a => Aaq a.1
 ix x H := idxP (fun s : SSet => isT s.name (theY eIp x H).2.set) 0 (theY eIp x H).1
 pb x H := (theY eIp x H).2
 okx := okG eIx cIx
 sx x := AaX (theT eIx x).1 (theT eIx x).2
theorem sSn : OrcS Tryz.prog (oSn ZSn) :=
 .cons (.t' (enc := eR1) (c := fitR) (r := fun r => .c (.d (Aaa (outS r)))) fun r h => cOuD r (AaC h))
  (.cons (.m (enc := eIp) (c := fun a => Aaq a.1) (r := fun a => vI (idxP (fun s : SSet => isT s.name a.2.set) 0 a.1)) (H' := fun a => HP a.2) fun a h => cisn a.1 a.2 (AaF h))
  (.cons (.t' (enc := eIx) (c := cIx) (r := fun a => vI (AaX a.1 a.2)) fun a h => cSix a.1 a.2 h) (.cons (.inl .nil Tryz.func49 (by kernel_rfl)) .nil)))
theorem zSn {r : SRel} (h : FitR r) (p : SPub) : ZSn.oki [AV.c (C.d (Aab 2 setC set0 r.sets)), AV.c (C.fn 47 [] [Rf.ptr 0 0])] [(0, Blk.cells (List.map C.d (pubC p)) 122)] = true ∧
  ZSn.ix [AV.c (C.d (Aab 2 setC set0 r.sets)), AV.c (C.fn 47 [] [Rf.ptr 0 0])] [(0, Blk.cells (List.map C.d (pubC p)) 122)] = Aaw r p.set ∧
  ZSn.pb [AV.c (C.d (Aab 2 setC set0 r.sets)), AV.c (C.fn 47 [] [Rf.ptr 0 0])] [(0, Blk.cells (List.map C.d (pubC p)) 122)] = p := by
 have t : theY eIp [AV.c (C.d (Aab 2 setC set0 r.sets)), AV.c (C.fn 47 [] [Rf.ptr 0 0])] [(0, Blk.cells (List.map C.d (pubC p)) 122)] = (r.sets, p) := Adl eIp_inj (r.sets, p)
 refine ⟨AeP eIp_inj (c := fun a => Aaq a.1) (r.sets, p) (by unfold Aaq; exact decide_eq_true (by have := h.se; show r.sets.length ≤ _; omega)), ?_, ?_⟩
 ·dsimp only [ZSn]; rw [t]; rfl
 ·dsimp only [ZSn]; rw [t]
theorem zSx {r : SRel} (h : FitR r) (x : ByteArray) : ZSn.okx [AV.c (C.d (Aab 1 busC e0 (outS r))), AV.c (C.d (D.v (Value.string x)))] = true ∧ ZSn.sx [AV.c (C.d (Aab 1 busC e0 (outS r))), AV.c (C.d (D.v (Value.string x)))] = AaX (outS r) x := by
 have t : theT eIx [AV.c (C.d (Aab 1 busC e0 (outS r))), AV.c (C.d (D.v (Value.string x)))] = (outS r, x) := Aah AbU (outS r, x)
 refine ⟨Aam AbU (c := cIx) (outS r, x) (by unfold cIx Aaq; exact decide_eq_true (by have := Aeq r; have := h.ru; show (outS r).length ≤ _; omega)), ?_⟩
 dsimp only [ZSn]; rw [t]
theorem zSo {r : SRel} (h : fitR r = true) : ZSn.oko [AV.agg (List.map C.d (relC r))] = true ∧ ZSn.ou [AV.agg (List.map C.d (relC r))] = outS r := by
 have t : theT eR1 [AV.agg (List.map C.d (relC r))] = r := Aah AbK r
 refine ⟨Aam AbK (c := fitR) r h, ?_⟩
 dsimp only [ZSn]; rw [t]
theorem ap8 {n : Nat} (h : n ≤ 9000) : (decide ((n + 1) * 8 ≤ 140737488355328) && decide (n + 1 ≤ 9223372036854775807)) = true := by
 rw [decide_eq_true (by omega), decide_eq_true (by omega)]; rfl
theorem ap56 {n : Nat} (h : n ≤ 9000) : (decide ((n + 1) * 56 ≤ 140737488355328) && decide (n + 1 ≤ 9223372036854775807)) = true := by
 rw [decide_eq_true (by omega), decide_eq_true (by omega)]; rfl
theorem inb {k n : Nat} (h : k < n) : (decide ((0 : Int) ≤ (k : Int)) && decide ((k : Int) < (n : Int))) = true := by rw [decide_eq_true (by omega), decide_eq_true (by omega)]; rfl
theorem pbl_rl {n : Nat} {f : Nat → List D} {ps : List Pbl} (h : RL pblC pbl0 n f ps) (p : Pbl) {m : Nat} {g : Nat → List D} (hs : RL nC 0 m g p.sigs) :
  RL pblC pbl0 (n + 1) (appF n f (Aat [D.v (Value.int IntKind.i64 p.rel), D.v (Value.int IntKind.i64 p.set), D.v (Value.int IntKind.i64 p.fst), D.v (Value.int IntKind.i64 p.max), D.sl 1 m g] 5)) (ps ++ [p]) := by
 have one : ∀ {a b : D}, DE a b → DEs [a] [b] := fun h => ⟨rfl, fun j d e hd he => by
  match j with
  | 0 => simp at hd he; subst hd he; exact h
  | j + 1 => simp at hd⟩
 refine h.app rfl ?_ ?_
 ·exact DEs.app (a := [dI p.rel, dI p.set, dI p.fst, dI p.max]) (a' := [dI p.rel, dI p.set, dI p.fst, dI p.max]) (.refl _) (one hs.de)
 ·exact DEs.app (a := [dI p.rel, dI p.set, dI p.fst, dI p.max]) (a' := [dI p.rel, dI p.set, dI p.fst, dI p.max]) (.refl _) (one hs.ed)
abbrev aTb (l : List ByteArray) (h s : Nat) : AV := .agg [.d (Aaa l), .row h 1 s, .d (.v (.slice none 0 0))]
def HB0 (c : SCfg) (mp : List (Value × Value)) (n : Nat) (f : Nat → List D) (d : Nat) (e : Nat → List D) (s : Nat) (t : Nat → List D) : Hp := HKB c mp n f d e ++ [(4, .row s t 1 3)]
def HB1 (c : SCfg) (mp : List (Value × Value)) (n : Nat) (f : Nat → List D) (d : Nat) (e : Nat → List D) (s : Nat) (t : Nat → List D) : Hp := [(0, .cells ((cfgC c).map .d ++ [.mp 1, .row 4 5 n, .row 3 3 d]) 81), (1, .map 4 mp), (2, .dead), (3, .row d e 3 51), (4, .row n f 5 70), (5, .row s t 1 3)]
def HA0 (c : SCfg) (n : Nat) (f : Nat → List D) (d : Nat) (e : Nat → List D) (s : Nat) (t : Nat → List D) : Hp := HKA c n f d e ++ [(3, .row s t 1 3)]
def HA1 (c : SCfg) (mp : List (Value × Value)) (n : Nat) (f : Nat → List D) (d : Nat) (e : Nat → List D) (s : Nat) (t : Nat → List D) : Hp := [(0, .cells ((cfgC c).map .d ++ [.mp 3, .row 4 5 n, .row 2 3 d]) 81), (1, .dead), (2, .row d e 3 51), (3, .map 4 mp), (4, .row n f 5 70), (5, .row s t 1 3)]
def nums (a n : Nat) : List Int := (List.range n).map fun j => ((a + j : Nat) : Int)
theorem Afi (a n : Nat) : nums a (n + 1) = (a : Int) :: nums (a + 1) n := by
 unfold nums
 rw [List.range_succ_eq_map]
 simp only [List.map_cons, List.map_map, Nat.add_zero]
 congr 1
 apply List.map_congr_left
 intro j _
 show ((a + (j + 1) : Nat) : Int) = ((a + 1 + j : Nat) : Int)
 congr 1; omega
theorem in_b (c : SCfg) (mp0 : List (Value × Value)) (np0 : Nat) (fp0 : Nat → List D) (nd0 : Nat) (fd0 : Nat → List D) (i : Nat) (r : SRel) (er : c.rels.getD i rel0 = r) (hr : fitR r = true) (g mo : Nat) (hg : 1000 < g) (mp : List (Value × Value)) (n : Nat) (f : Nat → List D) (d : Nat) (e : Nat → List D) (s : Nat) (t : Nat → List D) (k : Nat) (hk : k < r.pubs.length) (p : SPub) (ep : r.pubs.getD k pub0 = p) (ix : Nat)
  (hix : Aaw r p.set = ix) (hlt : ix < r.sets.length) (hn : n ≤ 9000) (hs : s ≤ 9000) :
  ∃ f9, RL nC 0 (r.sets.getD ix set0).sigs.length f9 ((r.sets.getD ix set0).sigs.map (AaX (outS r))) ∧ Lsnb_9 ZSn c mp0 np0 fp0 nd0 fd0 i g mo g mp n f d e s t 0 (fun _ => []) (ix : Int) (k : Int) ((r.sets.getD ix set0).sigs.length : Nat) 0 (ix : Int) p.fst p.max =
   AcL ZSn c mp0 np0 fp0 nd0 fd0 i g mo ((kPr i ix, Value.int IntKind.i64 (dlen mp : Nat)) :: mp) d e (n + 1) (appF n f (Aat [D.v (Value.int IntKind.i64 i), D.v (Value.int IntKind.i64 ix), D.v (Value.int IntKind.i64 p.fst), D.v (Value.int IntKind.i64 p.max), D.sl 1 (r.sets.getD ix set0).sigs.length f9] 5)) (s + 1) (appF s t (Aat [D.v (Value.int IntKind.i64 (dlen mp : Nat))] 1)) ((k + 1 : Nat) : Int) := by
 have hF := AaC hr
 have hsg := hF.sg _ (AaP set0 hlt)
 obtain ⟨o1, o2⟩ := zSo hr
 obtain ⟨z1, z2, z3⟩ := zSn hF p
 rw [hix] at z2
 obtain ⟨f9, h1, h2⟩ := Aek (L := fun m n9 f9 j => Lsnb_9 ZSn c mp0 np0 fp0 nd0 fd0 i g mo m mp n f d e s t n9 f9 (ix : Int) (k : Int) ((r.sets.getD ix set0).sigs.length : Nat) j (ix : Int) p.fst p.max)
  (K := fun n9 f9 => AcL ZSn c mp0 np0 fp0 nd0 fd0 i g mo ((kPr i ix, Value.int IntKind.i64 (dlen mp : Nat)) :: mp) d e (n + 1) (appF n f (Aat [D.v (Value.int IntKind.i64 i), D.v (Value.int IntKind.i64 ix), D.v (Value.int IntKind.i64 p.fst), D.v (Value.int IntKind.i64 p.max), D.sl 1 n9 f9] 5)) (s + 1) (appF s t (Aat [D.v (Value.int IntKind.i64 (dlen mp : Nat))] 1)) ((k + 1 : Nat) : Int)) (l := (r.sets.getD ix set0).sigs) (d := e0) (c := nC) (d0 := (0 : Int)) (ch := fun x => [D.v (Value.int IntKind.i64 (AaX (outS r) x))]) (e := AaX (outS r)) (sz := 1)
  (fun m j n9 f9 hj hn9 => by
    obtain ⟨x1, x2⟩ := zSx hF ((r.sets.getD ix set0).sigs.getD j e0)
    rw [stsnb_9, tn i, er, tn k, ep, z2, tn ix, tn j, lt1 hj, ge0, o2, x1, x2, ap8 (n := n9) (by omega), nx hj (by omega), tt, cond_true, cond_true, cond_true, cond_true, Nat.zero_add])
  (fun m n9 f9 => by
    rw [stsnb_9, lt0 (Nat.lt_irrefl _), ap8 (n := s) (by omega), ap56 (n := n) (by omega), nx hk (by have := hF.pu; omega), cond_false, cond_true, cond_true, Nat.zero_add, show (4 : Nat) + 1 = 5 from rfl]
    rfl)
  (fun _ => rfl) (fun j hj => ⟨.refl _, .refl _⟩) g 0 0 (fun _ => []) [] (by omega) (by omega) (by omega) (.nil _)
 simp only [Nat.sub_zero, Nat.zero_add, List.nil_append, List.drop_zero] at h1 h2
 exact ⟨f9, h1, h2⟩
theorem sp_b (c : SCfg) (mp0 : List (Value × Value)) (np0 : Nat) (fp0 : Nat → List D) (nd0 : Nat) (fd0 : Nat → List D) (i : Nat) (r : SRel) (er : c.rels.getD i rel0 = r) (hr : fitR r = true) (hx : ∀ p ∈ r.pubs, 0 ≤ Aaw r p.set) (g m : Nat) (hg : 1000 < g) (mp : List (Value × Value)) (n : Nat) (f : Nat → List D) (d : Nat) (e : Nat → List D) (s : Nat) (t : Nat → List D) (k : Nat) (hk : k < r.pubs.length)
  (ps : List Pbl) (sn : List Int) (hP : RL pblC pbl0 n f ps) (hS : RL nC 0 s t sn) (hn : n ≤ 9000) (hs : s ≤ 9000) :
  ∃ f' t', RL pblC pbl0 (n + 1) f' (ps ++ [AaS i r (r.pubs.getD k pub0)]) ∧ RL nC 0 (s + 1) t' (sn ++ [(dlen mp : Int)]) ∧ Lsnb_4 ZSn c mp0 np0 fp0 nd0 fd0 i g (m + 1) mp n f d e s t (k : Int) =
   AcL ZSn c mp0 np0 fp0 nd0 fd0 i g m ((kPr i (Aaw r (r.pubs.getD k pub0).set), Value.int IntKind.i64 (dlen mp : Nat)) :: mp) d e (n + 1) f' (s + 1) t' ((k + 1 : Nat) : Int) := by
 have hF := AaC hr
 obtain ⟨p, ep⟩ : ∃ p, r.pubs.getD k pub0 = p := ⟨_, rfl⟩
 have hp := hx _ (AaP pub0 hk)
 rw [ep] at hp ⊢
 obtain ⟨ix, hlt, hix, _⟩ := Aco set0 hp
 have hix : Aaw r p.set = ix := hix
 obtain ⟨o1, o2⟩ := zSo hr
 obtain ⟨z1, z2, z3⟩ := zSn hF p
 rw [hix] at z2
 obtain ⟨f9, h1, h2⟩ := in_b c mp0 np0 fp0 nd0 fd0 i r er hr g m hg mp n f d e s t k hk p ep ix hix hlt hn hs
 have e1 : (AaS i r p).sigs = (r.sets.getD ix set0).sigs.map (AaX (outS r)) := by
  show (r.sets.getD (Aaw r p.set).toNat set0).sigs.map _ = _
  rw [hix, Int.toNat_natCast]
 have g1 := pbl_rl hP (AaS i r p) (m := (r.sets.getD ix set0).sigs.length) (g := f9) (by rw [e1]; exact h1)
 have e2 : (AaS i r p).set = (ix : Int) := hix
 rw [e2] at g1
 refine ⟨_, _, g1, hS.app (x := (dlen mp : Int)) (sz := 1) (ds := [D.v (Value.int IntKind.i64 (dlen mp : Nat))]) rfl (.refl _) (.refl _), ?_⟩
 rw [stsnb_4, tn i, er, tn k, ep, z1, z2, z3, inb hk, inb hlt, lt1 hk, tn ix, cond_true, cond_true, cond_true, cond_true, hix]
 exact h2
theorem in_bb (c : SCfg) (mp0 : List (Value × Value)) (np0 : Nat) (fp0 : Nat → List D) (nd0 : Nat) (fd0 : Nat → List D) (i : Nat) (r : SRel) (er : c.rels.getD i rel0 = r) (hr : fitR r = true) (g mo : Nat) (hg : 1000 < g) (mp : List (Value × Value)) (n : Nat) (f : Nat → List D) (d : Nat) (e : Nat → List D) (s : Nat) (t : Nat → List D) (k : Nat) (hk : k < r.pubs.length) (p : SPub) (ep : r.pubs.getD k pub0 = p) (ix : Nat)
  (hix : Aaw r p.set = ix) (hlt : ix < r.sets.length) (hn : n ≤ 9000) (hs : s ≤ 9000) :
  ∃ f9, RL nC 0 (r.sets.getD ix set0).sigs.length f9 ((r.sets.getD ix set0).sigs.map (AaX (outS r))) ∧ AhJ ZSn c mp0 np0 fp0 nd0 fd0 i g mo g mp d e n f s t 0 (fun _ => []) (ix : Int) (k : Int) ((r.sets.getD ix set0).sigs.length : Nat) 0 (ix : Int) p.fst p.max =
   AcL ZSn c mp0 np0 fp0 nd0 fd0 i g mo ((kPr i ix, Value.int IntKind.i64 (dlen mp : Nat)) :: mp) d e (n + 1) (appF n f (Aat [D.v (Value.int IntKind.i64 i), D.v (Value.int IntKind.i64 ix), D.v (Value.int IntKind.i64 p.fst), D.v (Value.int IntKind.i64 p.max), D.sl 1 (r.sets.getD ix set0).sigs.length f9] 5)) (s + 1) (appF s t (Aat [D.v (Value.int IntKind.i64 (dlen mp : Nat))] 1)) ((k + 1 : Nat) : Int) := by
 have hF := AaC hr
 have hsg := hF.sg _ (AaP set0 hlt)
 obtain ⟨o1, o2⟩ := zSo hr
 obtain ⟨z1, z2, z3⟩ := zSn hF p
 rw [hix] at z2
 obtain ⟨f9, h1, h2⟩ := Aek (L := fun m n9 f9 j => AhJ ZSn c mp0 np0 fp0 nd0 fd0 i g mo m mp d e n f s t n9 f9 (ix : Int) (k : Int) ((r.sets.getD ix set0).sigs.length : Nat) j (ix : Int) p.fst p.max)
  (K := fun n9 f9 => AcL ZSn c mp0 np0 fp0 nd0 fd0 i g mo ((kPr i ix, Value.int IntKind.i64 (dlen mp : Nat)) :: mp) d e (n + 1) (appF n f (Aat [D.v (Value.int IntKind.i64 i), D.v (Value.int IntKind.i64 ix), D.v (Value.int IntKind.i64 p.fst), D.v (Value.int IntKind.i64 p.max), D.sl 1 n9 f9] 5)) (s + 1) (appF s t (Aat [D.v (Value.int IntKind.i64 (dlen mp : Nat))] 1)) ((k + 1 : Nat) : Int)) (l := (r.sets.getD ix set0).sigs) (d := e0) (c := nC) (d0 := (0 : Int)) (ch := fun x => [D.v (Value.int IntKind.i64 (AaX (outS r) x))]) (e := AaX (outS r)) (sz := 1)
  (fun m j n9 f9 hj hn9 => by
    obtain ⟨x1, x2⟩ := zSx hF ((r.sets.getD ix set0).sigs.getD j e0)
    rw [stsnb_9b, tn i, er, tn k, ep, z2, tn ix, tn j, lt1 hj, ge0, o2, x1, x2, ap8 (n := n9) (by omega), nx hj (by omega), tt, cond_true, cond_true, cond_true, cond_true, Nat.zero_add])
  (fun m n9 f9 => by
    rw [stsnb_9b, lt0 (Nat.lt_irrefl _), ap8 (n := s) (by omega), ap56 (n := n) (by omega), nx hk (by have := hF.pu; omega), cond_false, cond_true, cond_true, Nat.zero_add, show (4 : Nat) + 1 = 5 from rfl]
    rfl)
  (fun _ => rfl) (fun j hj => ⟨.refl _, .refl _⟩) g 0 0 (fun _ => []) [] (by omega) (by omega) (by omega) (.nil _)
 simp only [Nat.sub_zero, Nat.zero_add, List.nil_append, List.drop_zero] at h1 h2
 exact ⟨f9, h1, h2⟩
theorem sp_bb (c : SCfg) (mp0 : List (Value × Value)) (np0 : Nat) (fp0 : Nat → List D) (nd0 : Nat) (fd0 : Nat → List D) (i : Nat) (r : SRel) (er : c.rels.getD i rel0 = r) (hr : fitR r = true) (hx : ∀ p ∈ r.pubs, 0 ≤ Aaw r p.set) (g m : Nat) (hg : 1000 < g) (mp : List (Value × Value)) (n : Nat) (f : Nat → List D) (d : Nat) (e : Nat → List D) (s : Nat) (t : Nat → List D) (k : Nat) (hk : k < r.pubs.length)
  (ps : List Pbl) (sn : List Int) (hP : RL pblC pbl0 n f ps) (hS : RL nC 0 s t sn) (hn : n ≤ 9000) (hs : s ≤ 9000) :
  ∃ f' t', RL pblC pbl0 (n + 1) f' (ps ++ [AaS i r (r.pubs.getD k pub0)]) ∧ RL nC 0 (s + 1) t' (sn ++ [(dlen mp : Int)]) ∧ AcL ZSn c mp0 np0 fp0 nd0 fd0 i g (m + 1) mp d e n f s t (k : Int) =
   AcL ZSn c mp0 np0 fp0 nd0 fd0 i g m ((kPr i (Aaw r (r.pubs.getD k pub0).set), Value.int IntKind.i64 (dlen mp : Nat)) :: mp) d e (n + 1) f' (s + 1) t' ((k + 1 : Nat) : Int) := by
 have hF := AaC hr
 obtain ⟨p, ep⟩ : ∃ p, r.pubs.getD k pub0 = p := ⟨_, rfl⟩
 have hp := hx _ (AaP pub0 hk)
 rw [ep] at hp ⊢
 obtain ⟨ix, hlt, hix, _⟩ := Aco set0 hp
 have hix : Aaw r p.set = ix := hix
 obtain ⟨o1, o2⟩ := zSo hr
 obtain ⟨z1, z2, z3⟩ := zSn hF p
 rw [hix] at z2
 obtain ⟨f9, h1, h2⟩ := in_bb c mp0 np0 fp0 nd0 fd0 i r er hr g m hg mp n f d e s t k hk p ep ix hix hlt hn hs
 have e1 : (AaS i r p).sigs = (r.sets.getD ix set0).sigs.map (AaX (outS r)) := by
  show (r.sets.getD (Aaw r p.set).toNat set0).sigs.map _ = _
  rw [hix, Int.toNat_natCast]
 have g1 := pbl_rl hP (AaS i r p) (m := (r.sets.getD ix set0).sigs.length) (g := f9) (by rw [e1]; exact h1)
 have e2 : (AaS i r p).set = (ix : Int) := hix
 rw [e2] at g1
 refine ⟨_, _, g1, hS.app (x := (dlen mp : Int)) (sz := 1) (ds := [D.v (Value.int IntKind.i64 (dlen mp : Nat))]) rfl (.refl _) (.refl _), ?_⟩
 rw [stsnb_4b, tn i, er, tn k, ep, z1, z2, z3, inb hk, inb hlt, lt1 hk, tn ix, cond_true, cond_true, cond_true, cond_true, hix]
 exact h2
theorem in_a (c : SCfg) (np0 : Nat) (fp0 : Nat → List D) (nd0 : Nat) (fd0 : Nat → List D) (i : Nat) (r : SRel) (er : c.rels.getD i rel0 = r) (hr : fitR r = true) (g mo : Nat) (hg : 1000 < g) (n : Nat) (f : Nat → List D) (d : Nat) (e : Nat → List D) (s : Nat) (t : Nat → List D) (k : Nat) (hk : k < r.pubs.length) (p : SPub) (ep : r.pubs.getD k pub0 = p) (ix : Nat)
  (hix : Aaw r p.set = ix) (hlt : ix < r.sets.length) (hn : n ≤ 9000) (hs : s ≤ 9000) :
  ∃ f9, RL nC 0 (r.sets.getD ix set0).sigs.length f9 ((r.sets.getD ix set0).sigs.map (AaX (outS r))) ∧ Lsna_9 ZSn c np0 fp0 nd0 fd0 i g mo g n f d e s t 0 (fun _ => []) (ix : Int) (k : Int) ((r.sets.getD ix set0).sigs.length : Nat) 0 (ix : Int) p.fst p.max =
   AcM ZSn c np0 fp0 nd0 fd0 i g mo d e ((kPr i ix, Value.int IntKind.i64 (dlen [] : Nat)) :: []) (n + 1) (appF n f (Aat [D.v (Value.int IntKind.i64 i), D.v (Value.int IntKind.i64 ix), D.v (Value.int IntKind.i64 p.fst), D.v (Value.int IntKind.i64 p.max), D.sl 1 (r.sets.getD ix set0).sigs.length f9] 5)) (s + 1) (appF s t (Aat [D.v (Value.int IntKind.i64 (dlen [] : Nat))] 1)) ((k + 1 : Nat) : Int) := by
 have hF := AaC hr
 have hsg := hF.sg _ (AaP set0 hlt)
 obtain ⟨o1, o2⟩ := zSo hr
 obtain ⟨z1, z2, z3⟩ := zSn hF p
 rw [hix] at z2
 obtain ⟨f9, h1, h2⟩ := Aek (L := fun m n9 f9 j => Lsna_9 ZSn c np0 fp0 nd0 fd0 i g mo m n f d e s t n9 f9 (ix : Int) (k : Int) ((r.sets.getD ix set0).sigs.length : Nat) j (ix : Int) p.fst p.max)
  (K := fun n9 f9 => AcM ZSn c np0 fp0 nd0 fd0 i g mo d e ((kPr i ix, Value.int IntKind.i64 (dlen [] : Nat)) :: []) (n + 1) (appF n f (Aat [D.v (Value.int IntKind.i64 i), D.v (Value.int IntKind.i64 ix), D.v (Value.int IntKind.i64 p.fst), D.v (Value.int IntKind.i64 p.max), D.sl 1 n9 f9] 5)) (s + 1) (appF s t (Aat [D.v (Value.int IntKind.i64 (dlen [] : Nat))] 1)) ((k + 1 : Nat) : Int)) (l := (r.sets.getD ix set0).sigs) (d := e0) (c := nC) (d0 := (0 : Int)) (ch := fun x => [D.v (Value.int IntKind.i64 (AaX (outS r) x))]) (e := AaX (outS r)) (sz := 1)
  (fun m j n9 f9 hj hn9 => by
    obtain ⟨x1, x2⟩ := zSx hF ((r.sets.getD ix set0).sigs.getD j e0)
    rw [stsna_9, tn i, er, tn k, ep, z2, tn ix, tn j, lt1 hj, ge0, o2, x1, x2, ap8 (n := n9) (by omega), nx hj (by omega), tt, cond_true, cond_true, cond_true, cond_true, Nat.zero_add])
  (fun m n9 f9 => by
    rw [stsna_9, lt0 (Nat.lt_irrefl _), ap8 (n := s) (by omega), ap56 (n := n) (by omega), nx hk (by have := hF.pu; omega), cond_false, cond_true, cond_true, Nat.zero_add, show (4 : Nat) + 1 = 5 from rfl]
    rfl)
  (fun _ => rfl) (fun j hj => ⟨.refl _, .refl _⟩) g 0 0 (fun _ => []) [] (by omega) (by omega) (by omega) (.nil _)
 simp only [Nat.sub_zero, Nat.zero_add, List.nil_append, List.drop_zero] at h1 h2
 exact ⟨f9, h1, h2⟩
theorem sp_a (c : SCfg) (np0 : Nat) (fp0 : Nat → List D) (nd0 : Nat) (fd0 : Nat → List D) (i : Nat) (r : SRel) (er : c.rels.getD i rel0 = r) (hr : fitR r = true) (hx : ∀ p ∈ r.pubs, 0 ≤ Aaw r p.set) (g m : Nat) (hg : 1000 < g) (n : Nat) (f : Nat → List D) (d : Nat) (e : Nat → List D) (s : Nat) (t : Nat → List D) (k : Nat) (hk : k < r.pubs.length)
  (ps : List Pbl) (sn : List Int) (hP : RL pblC pbl0 n f ps) (hS : RL nC 0 s t sn) (hn : n ≤ 9000) (hs : s ≤ 9000) :
  ∃ f' t', RL pblC pbl0 (n + 1) f' (ps ++ [AaS i r (r.pubs.getD k pub0)]) ∧ RL nC 0 (s + 1) t' (sn ++ [(dlen [] : Int)]) ∧ Lsna_4 ZSn c np0 fp0 nd0 fd0 i g (m + 1) n f d e s t (k : Int) =
   AcM ZSn c np0 fp0 nd0 fd0 i g m d e ((kPr i (Aaw r (r.pubs.getD k pub0).set), Value.int IntKind.i64 (dlen [] : Nat)) :: []) (n + 1) f' (s + 1) t' ((k + 1 : Nat) : Int) := by
 have hF := AaC hr
 obtain ⟨p, ep⟩ : ∃ p, r.pubs.getD k pub0 = p := ⟨_, rfl⟩
 have hp := hx _ (AaP pub0 hk)
 rw [ep] at hp ⊢
 obtain ⟨ix, hlt, hix, _⟩ := Aco set0 hp
 have hix : Aaw r p.set = ix := hix
 obtain ⟨o1, o2⟩ := zSo hr
 obtain ⟨z1, z2, z3⟩ := zSn hF p
 rw [hix] at z2
 obtain ⟨f9, h1, h2⟩ := in_a c np0 fp0 nd0 fd0 i r er hr g m hg n f d e s t k hk p ep ix hix hlt hn hs
 have e1 : (AaS i r p).sigs = (r.sets.getD ix set0).sigs.map (AaX (outS r)) := by
  show (r.sets.getD (Aaw r p.set).toNat set0).sigs.map _ = _
  rw [hix, Int.toNat_natCast]
 have g1 := pbl_rl hP (AaS i r p) (m := (r.sets.getD ix set0).sigs.length) (g := f9) (by rw [e1]; exact h1)
 have e2 : (AaS i r p).set = (ix : Int) := hix
 rw [e2] at g1
 refine ⟨_, _, g1, hS.app (x := (dlen [] : Int)) (sz := 1) (ds := [D.v (Value.int IntKind.i64 (dlen [] : Nat))]) rfl (.refl _) (.refl _), ?_⟩
 rw [stsna_4, tn i, er, tn k, ep, z1, z2, z3, inb hk, inb hlt, lt1 hk, tn ix, cond_true, cond_true, cond_true, cond_true, hix]
 exact h2
theorem in_ab (c : SCfg) (np0 : Nat) (fp0 : Nat → List D) (nd0 : Nat) (fd0 : Nat → List D) (i : Nat) (r : SRel) (er : c.rels.getD i rel0 = r) (hr : fitR r = true) (g mo : Nat) (hg : 1000 < g) (mp : List (Value × Value)) (n : Nat) (f : Nat → List D) (d : Nat) (e : Nat → List D) (s : Nat) (t : Nat → List D) (k : Nat) (hk : k < r.pubs.length) (p : SPub) (ep : r.pubs.getD k pub0 = p) (ix : Nat)
  (hix : Aaw r p.set = ix) (hlt : ix < r.sets.length) (hn : n ≤ 9000) (hs : s ≤ 9000) :
  ∃ f9, RL nC 0 (r.sets.getD ix set0).sigs.length f9 ((r.sets.getD ix set0).sigs.map (AaX (outS r))) ∧ AhK ZSn c np0 fp0 nd0 fd0 i g mo g d e mp n f s t 0 (fun _ => []) (ix : Int) (k : Int) ((r.sets.getD ix set0).sigs.length : Nat) 0 (ix : Int) p.fst p.max =
   AcM ZSn c np0 fp0 nd0 fd0 i g mo d e ((kPr i ix, Value.int IntKind.i64 (dlen mp : Nat)) :: mp) (n + 1) (appF n f (Aat [D.v (Value.int IntKind.i64 i), D.v (Value.int IntKind.i64 ix), D.v (Value.int IntKind.i64 p.fst), D.v (Value.int IntKind.i64 p.max), D.sl 1 (r.sets.getD ix set0).sigs.length f9] 5)) (s + 1) (appF s t (Aat [D.v (Value.int IntKind.i64 (dlen mp : Nat))] 1)) ((k + 1 : Nat) : Int) := by
 have hF := AaC hr
 have hsg := hF.sg _ (AaP set0 hlt)
 obtain ⟨o1, o2⟩ := zSo hr
 obtain ⟨z1, z2, z3⟩ := zSn hF p
 rw [hix] at z2
 obtain ⟨f9, h1, h2⟩ := Aek (L := fun m n9 f9 j => AhK ZSn c np0 fp0 nd0 fd0 i g mo m d e mp n f s t n9 f9 (ix : Int) (k : Int) ((r.sets.getD ix set0).sigs.length : Nat) j (ix : Int) p.fst p.max)
  (K := fun n9 f9 => AcM ZSn c np0 fp0 nd0 fd0 i g mo d e ((kPr i ix, Value.int IntKind.i64 (dlen mp : Nat)) :: mp) (n + 1) (appF n f (Aat [D.v (Value.int IntKind.i64 i), D.v (Value.int IntKind.i64 ix), D.v (Value.int IntKind.i64 p.fst), D.v (Value.int IntKind.i64 p.max), D.sl 1 n9 f9] 5)) (s + 1) (appF s t (Aat [D.v (Value.int IntKind.i64 (dlen mp : Nat))] 1)) ((k + 1 : Nat) : Int)) (l := (r.sets.getD ix set0).sigs) (d := e0) (c := nC) (d0 := (0 : Int)) (ch := fun x => [D.v (Value.int IntKind.i64 (AaX (outS r) x))]) (e := AaX (outS r)) (sz := 1)
  (fun m j n9 f9 hj hn9 => by
    obtain ⟨x1, x2⟩ := zSx hF ((r.sets.getD ix set0).sigs.getD j e0)
    rw [stsna_9b, tn i, er, tn k, ep, z2, tn ix, tn j, lt1 hj, ge0, o2, x1, x2, ap8 (n := n9) (by omega), nx hj (by omega), tt, cond_true, cond_true, cond_true, cond_true, Nat.zero_add])
  (fun m n9 f9 => by
    rw [stsna_9b, lt0 (Nat.lt_irrefl _), ap8 (n := s) (by omega), ap56 (n := n) (by omega), nx hk (by have := hF.pu; omega), cond_false, cond_true, cond_true, Nat.zero_add, show (4 : Nat) + 1 = 5 from rfl]
    rfl)
  (fun _ => rfl) (fun j hj => ⟨.refl _, .refl _⟩) g 0 0 (fun _ => []) [] (by omega) (by omega) (by omega) (.nil _)
 simp only [Nat.sub_zero, Nat.zero_add, List.nil_append, List.drop_zero] at h1 h2
 exact ⟨f9, h1, h2⟩
theorem sp_ab (c : SCfg) (np0 : Nat) (fp0 : Nat → List D) (nd0 : Nat) (fd0 : Nat → List D) (i : Nat) (r : SRel) (er : c.rels.getD i rel0 = r) (hr : fitR r = true) (hx : ∀ p ∈ r.pubs, 0 ≤ Aaw r p.set) (g m : Nat) (hg : 1000 < g) (mp : List (Value × Value)) (n : Nat) (f : Nat → List D) (d : Nat) (e : Nat → List D) (s : Nat) (t : Nat → List D) (k : Nat) (hk : k < r.pubs.length)
  (ps : List Pbl) (sn : List Int) (hP : RL pblC pbl0 n f ps) (hS : RL nC 0 s t sn) (hn : n ≤ 9000) (hs : s ≤ 9000) :
  ∃ f' t', RL pblC pbl0 (n + 1) f' (ps ++ [AaS i r (r.pubs.getD k pub0)]) ∧ RL nC 0 (s + 1) t' (sn ++ [(dlen mp : Int)]) ∧ AcM ZSn c np0 fp0 nd0 fd0 i g (m + 1) d e mp n f s t (k : Int) =
   AcM ZSn c np0 fp0 nd0 fd0 i g m d e ((kPr i (Aaw r (r.pubs.getD k pub0).set), Value.int IntKind.i64 (dlen mp : Nat)) :: mp) (n + 1) f' (s + 1) t' ((k + 1 : Nat) : Int) := by
 have hF := AaC hr
 obtain ⟨p, ep⟩ : ∃ p, r.pubs.getD k pub0 = p := ⟨_, rfl⟩
 have hp := hx _ (AaP pub0 hk)
 rw [ep] at hp ⊢
 obtain ⟨ix, hlt, hix, _⟩ := Aco set0 hp
 have hix : Aaw r p.set = ix := hix
 obtain ⟨o1, o2⟩ := zSo hr
 obtain ⟨z1, z2, z3⟩ := zSn hF p
 rw [hix] at z2
 obtain ⟨f9, h1, h2⟩ := in_ab c np0 fp0 nd0 fd0 i r er hr g m hg mp n f d e s t k hk p ep ix hix hlt hn hs
 have e1 : (AaS i r p).sigs = (r.sets.getD ix set0).sigs.map (AaX (outS r)) := by
  show (r.sets.getD (Aaw r p.set).toNat set0).sigs.map _ = _
  rw [hix, Int.toNat_natCast]
 have g1 := pbl_rl hP (AaS i r p) (m := (r.sets.getD ix set0).sigs.length) (g := f9) (by rw [e1]; exact h1)
 have e2 : (AaS i r p).set = (ix : Int) := hix
 rw [e2] at g1
 refine ⟨_, _, g1, hS.app (x := (dlen mp : Int)) (sz := 1) (ds := [D.v (Value.int IntKind.i64 (dlen mp : Nat))]) rfl (.refl _) (.refl _), ?_⟩
 rw [stsna_4b, tn i, er, tn k, ep, z1, z2, z3, inb hk, inb hlt, lt1 hk, tn ix, cond_true, cond_true, cond_true, cond_true, hix]
 exact h2
theorem lp_bb (c : SCfg) (mp0 : List (Value × Value)) (np0 : Nat) (fp0 : Nat → List D) (nd0 : Nat) (fd0 : Nat → List D) (i : Nat) (r : SRel) (er : c.rels.getD i rel0 = r) (hr : fitR r = true) (hx : ∀ p ∈ r.pubs, 0 ≤ Aaw r p.set) (g : Nat) (hg : 1000 < g) (d : Nat) (e : Nat → List D) : ∀ (m k n : Nat) (f : Nat → List D) (s : Nat) (t : Nat → List D) (ps : List Pbl) (sn : List Int),
  k ≤ r.pubs.length → r.pubs.length - k < m → RL pblC pbl0 n f ps → RL nC 0 s t sn → ((ps ++ (r.pubs.drop k).map (AaS i r)).map pkey).Nodup → n + (r.pubs.length - k) ≤ 8000 → s + (r.pubs.length - k) ≤ 8000 →
  ∃ f' t', RL pblC pbl0 (n + (r.pubs.length - k)) f' (ps ++ (r.pubs.drop k).map (AaS i r)) ∧ RL nC 0 (s + (r.pubs.length - k)) t' (sn ++ nums ps.length (r.pubs.length - k)) ∧
   AcL ZSn c mp0 np0 fp0 nd0 fd0 i g m (AaZ ps) d e n f s t (k : Int) = some (.leaf (aTb (outS r) 5 (s + (r.pubs.length - k)), HB1 c (AaZ (ps ++ (r.pubs.drop k).map (AaS i r))) (n + (r.pubs.length - k)) f' d e (s + (r.pubs.length - k)) t')) := by
 intro m
 induction m with
 | zero => intro k n f s t ps sn _ h; omega
 | succ m ih =>
  intro k n f s t ps sn hk hm hP hS hN hn hs
  by_cases hlt : k < r.pubs.length
  ·have hd : r.pubs.length - k = r.pubs.length - (k + 1) + 1 := by omega
   have hNp : (ps.map pkey).Nodup := by rw [List.map_append, List.nodup_append] at hN; exact hN.1
   obtain ⟨f1, t1, g1, g2, g3⟩ := sp_bb c mp0 np0 fp0 nd0 fd0 i r er hr hx g m hg (AaZ ps) n f d e s t k hlt ps sn hP hS (by omega) (by omega)
   rw [Aar (d := pub0) hlt, List.map_cons] at hN ⊢
   rw [dlen_pr hNp] at g2 g3
   have em : (kPr i (Aaw r (r.pubs.getD k pub0).set), Value.int IntKind.i64 (ps.length : Nat)) :: AaZ ps = AaZ (ps ++ [AaS i r (r.pubs.getD k pub0)]) := (Afj ps (AaS i r (r.pubs.getD k pub0))).symm
   rw [em] at g3
   obtain ⟨f2, t2, k1, k2, k3⟩ := ih (k + 1) (n + 1) f1 (s + 1) t1 (ps ++ [AaS i r (r.pubs.getD k pub0)]) (sn ++ [(ps.length : Int)]) (by omega) (by omega) g1 g2 (by rw [List.append_assoc]; exact hN) (by omega) (by omega)
   rw [List.append_assoc] at k1 k3
   rw [show n + 1 + (r.pubs.length - (k + 1)) = n + (r.pubs.length - k) by omega] at k1 k3
   rw [show s + 1 + (r.pubs.length - (k + 1)) = s + (r.pubs.length - k) by omega] at k2 k3
   rw [List.length_append, List.length_singleton, List.append_assoc] at k2
   refine ⟨f2, t2, k1, ?_, g3.trans k3⟩
   rw [hd, Afi]
   rw [hd] at k2
   exact k2
  ·obtain rfl : k = r.pubs.length := by omega
   obtain ⟨o1, o2⟩ := zSo hr
   refine ⟨f, t, ?_, ?_, ?_⟩
   ·simpa using hP
   ·simpa [nums] using hS
   ·rw [stsnb_4b, tn i, er, lt0 (Nat.lt_irrefl _), o2, cond_false, Nat.sub_self, Nat.add_zero, Nat.add_zero, List.drop_of_length_le (Nat.le_refl _), List.map_nil, List.append_nil]
    rfl
theorem lp_ab (c : SCfg) (np0 : Nat) (fp0 : Nat → List D) (nd0 : Nat) (fd0 : Nat → List D) (i : Nat) (r : SRel) (er : c.rels.getD i rel0 = r) (hr : fitR r = true) (hx : ∀ p ∈ r.pubs, 0 ≤ Aaw r p.set) (g : Nat) (hg : 1000 < g) (d : Nat) (e : Nat → List D) : ∀ (m k n : Nat) (f : Nat → List D) (s : Nat) (t : Nat → List D) (ps : List Pbl) (sn : List Int),
  k ≤ r.pubs.length → r.pubs.length - k < m → RL pblC pbl0 n f ps → RL nC 0 s t sn → ((ps ++ (r.pubs.drop k).map (AaS i r)).map pkey).Nodup → n + (r.pubs.length - k) ≤ 8000 → s + (r.pubs.length - k) ≤ 8000 →
  ∃ f' t', RL pblC pbl0 (n + (r.pubs.length - k)) f' (ps ++ (r.pubs.drop k).map (AaS i r)) ∧ RL nC 0 (s + (r.pubs.length - k)) t' (sn ++ nums ps.length (r.pubs.length - k)) ∧
   AcM ZSn c np0 fp0 nd0 fd0 i g m d e (AaZ ps) n f s t (k : Int) = some (.leaf (aTb (outS r) 5 (s + (r.pubs.length - k)), HA1 c (AaZ (ps ++ (r.pubs.drop k).map (AaS i r))) (n + (r.pubs.length - k)) f' d e (s + (r.pubs.length - k)) t')) := by
 intro m
 induction m with
 | zero => intro k n f s t ps sn _ h; omega
 | succ m ih =>
  intro k n f s t ps sn hk hm hP hS hN hn hs
  by_cases hlt : k < r.pubs.length
  ·have hd : r.pubs.length - k = r.pubs.length - (k + 1) + 1 := by omega
   have hNp : (ps.map pkey).Nodup := by rw [List.map_append, List.nodup_append] at hN; exact hN.1
   obtain ⟨f1, t1, g1, g2, g3⟩ := sp_ab c np0 fp0 nd0 fd0 i r er hr hx g m hg (AaZ ps) n f d e s t k hlt ps sn hP hS (by omega) (by omega)
   rw [Aar (d := pub0) hlt, List.map_cons] at hN ⊢
   rw [dlen_pr hNp] at g2 g3
   have em : (kPr i (Aaw r (r.pubs.getD k pub0).set), Value.int IntKind.i64 (ps.length : Nat)) :: AaZ ps = AaZ (ps ++ [AaS i r (r.pubs.getD k pub0)]) := (Afj ps (AaS i r (r.pubs.getD k pub0))).symm
   rw [em] at g3
   obtain ⟨f2, t2, k1, k2, k3⟩ := ih (k + 1) (n + 1) f1 (s + 1) t1 (ps ++ [AaS i r (r.pubs.getD k pub0)]) (sn ++ [(ps.length : Int)]) (by omega) (by omega) g1 g2 (by rw [List.append_assoc]; exact hN) (by omega) (by omega)
   rw [List.append_assoc] at k1 k3
   rw [show n + 1 + (r.pubs.length - (k + 1)) = n + (r.pubs.length - k) by omega] at k1 k3
   rw [show s + 1 + (r.pubs.length - (k + 1)) = s + (r.pubs.length - k) by omega] at k2 k3
   rw [List.length_append, List.length_singleton, List.append_assoc] at k2
   refine ⟨f2, t2, k1, ?_, g3.trans k3⟩
   rw [hd, Afi]
   rw [hd] at k2
   exact k2
  ·obtain rfl : k = r.pubs.length := by omega
   obtain ⟨o1, o2⟩ := zSo hr
   refine ⟨f, t, ?_, ?_, ?_⟩
   ·simpa using hP
   ·simpa [nums] using hS
   ·rw [stsna_4b, tn i, er, lt0 (Nat.lt_irrefl _), o2, cond_false, Nat.sub_self, Nat.add_zero, Nat.add_zero, List.drop_of_length_le (Nat.le_refl _), List.map_nil, List.append_nil]
    rfl
end Go.Proofs.YtbpndheehcbldaaGreatDoor.tb
namespace Go.Proofs.YtbpndheehcbldaaGreatDoor.tb
open Go.RowKit Go.Eb Go.Proofs.YtbpndheehcbldaaGreatDoor.st
set_option maxRecDepth 100000
open Go.Proofs.YtbpndheehcbldaaGreatDoor.sg (fitR FitR AaC fitC AbB eR1 AbK cOuD cSix Aeq eFd AfU cFd Afw cFind aPl cFk cFk_of cFk_mk eFk AfT fiS)
def psAt (rels : List SRel) (k : Nat) : List Pbl := pbls 0 (rels.take k)
theorem pbls_app : ∀ (a b : List SRel) (i : Nat), pbls i (a ++ b) = pbls i a ++ pbls (i + a.length) b
 | [], b, i => by simp [pbls]
 | r :: t, b, i => by
  show AaU i r ++ pbls (i + 1) (t ++ b) = (AaU i r ++ pbls (i + 1) t) ++ pbls (i + (t.length + 1)) b
  rw [pbls_app t b (i + 1), List.append_assoc, show i + 1 + t.length = i + (t.length + 1) by omega]
theorem Aff (rels : List SRel) {k : Nat} (h : k < rels.length) : psAt rels (k + 1) = psAt rels k ++ AaU k (rels.getD k rel0) := by
 unfold psAt
 rw [List.take_add_one, show rels[k]? = some (rels.getD k rel0) by simp [List.getD, h], pbls_app]
 congr 1
 rw [Nat.zero_add, List.length_take, Nat.min_eq_left (by omega)]
 show AaU k _ ++ [] = _
 rw [List.append_nil]
theorem psAt_all (rels : List SRel) : psAt rels rels.length = pbls 0 rels := by unfold psAt; rw [List.take_length]
theorem psAt_pre (rels : List SRel) (k : Nat) : ∃ t, pbls 0 rels = psAt rels k ++ t := by
 refine ⟨pbls (0 + (rels.take k).length) (rels.drop k), ?_⟩
 unfold psAt
 rw [← pbls_app, List.take_append_drop]
theorem psAt_len (rels : List SRel) : ∀ (k : Nat), k ≤ rels.length → (psAt rels k).length = offs rels k
 | 0, _ => rfl
 | k + 1, h => by
  rw [Aff rels (by omega), List.length_append, psAt_len rels k (by omega)]
  simp [offs, AaU]
structure OkC (c : SCfg) : Prop where
 fit : fitC c.rels = true
 sig : (AbR c.rels 0 c.rels).2 = 0
 uq : ∀ r ∈ c.rels, Uq r
 len : c.rels.length ≤ 20
 pub : ∀ r ∈ c.rels, r.pubs.length ≤ 8
section
variable {c : SCfg} (h : OkC c)
include h
theorem OkC.nd : ((pbls 0 c.rels).map pkey).Nodup := (AfK c.rels 0 (uq_all h.sig h.uq)).1
theorem OkC.ndk (k : Nat) : ((psAt c.rels k).map pkey).Nodup := by
 obtain ⟨t, e⟩ := psAt_pre c.rels k
 have := h.nd
 rw [e, List.map_append, List.nodup_append] at this
 exact this.1
theorem OkC.offs : ∀ (k : Nat), k ≤ c.rels.length → offs c.rels k ≤ 8 * k
 | 0, _ => Nat.le_refl _
 | k + 1, hk => by
  have h1 := OkC.offs k (by omega)
  have h2 := h.pub _ (AaP rel0 (show k < c.rels.length by omega))
  show Go.Eb.offs c.rels k + _ ≤ _
  omega
theorem OkC.plen (k : Nat) (hk : k ≤ c.rels.length) : (psAt c.rels k).length ≤ 160 := by
 rw [psAt_len c.rels k hk]
 have := h.offs k hk
 have := h.len
 omega
theorem OkC.fr {k : Nat} (hk : k < c.rels.length) : fitR (c.rels.getD k rel0) = true := (AbB h.fit).2.1 _ (AaP rel0 hk)
theorem OkC.px {k : Nat} (hk : k < c.rels.length) : ∀ p ∈ (c.rels.getD k rel0).pubs, 0 ≤ Aaw (c.rels.getD k rel0) p.set := (uq_all h.sig h.uq _ (AaP rel0 hk)).2
end
abbrev fP (ps : List Pbl) : Nat → List D := fun j => pblC (ps.getD j pbl0)
abbrev fN (l : List Int) : Nat → List D := fun j => nC (l.getD j 0)
theorem nums_len (a n : Nat) : (nums a n).length = n := by simp [nums]
theorem csB {c : SCfg} (h : OkC c) {k : Nat} (hk : k < c.rels.length) {n : Nat} {f : Nat → List D} (hP : RL pblC pbl0 n f (psAt c.rels k)) (d : Nat) (e : Nat → List D) :
  ((c.rels.getD k rel0).pubs = [] → CX Tryz.prog 21 [.c (.ptr 0 0), vI k] (HKB c (AaZ (psAt c.rels k)) n f d e) (aTb (outS (c.rels.getD k rel0)) 4 0) (HB0 c (AaZ (psAt c.rels k)) n f d e 0 fun _ => [])) ∧
  ((c.rels.getD k rel0).pubs ≠ [] → CX Tryz.prog 21 [.c (.ptr 0 0), vI k] (HKB c (AaZ (psAt c.rels k)) n f d e) (aTb (outS (c.rels.getD k rel0)) 5 (c.rels.getD k rel0).pubs.length)
    (HB1 c (AaZ (psAt c.rels (k + 1))) (psAt c.rels (k + 1)).length (fP (psAt c.rels (k + 1))) d e (c.rels.getD k rel0).pubs.length (fN (nums (psAt c.rels k).length (c.rels.getD k rel0).pubs.length)))) := by
 have hr := h.fr hk
 have hx := h.px hk
 obtain ⟨o1, o2⟩ := zSo hr
 have hF := AaC hr
 have hpu := hF.pu
 have hps := h.plen k (by omega)
 have hnd := h.ndk (k + 1)
 rw [Aff c.rels hk] at hnd ⊢
 obtain ⟨r, er⟩ : ∃ r, c.rels.getD k rel0 = r := ⟨_, rfl⟩
 rw [er] at hr hx o1 o2 hF hpu hnd ⊢
 obtain ⟨g, hg⟩ : ∃ g, 2000 < g := ⟨2001, by omega⟩
 have ev := evsnb ZSn c (AaZ (psAt c.rels k)) n f d e k (g + 1)
 rw [inb hk, tn k, er, o1, cond_true, cond_true] at ev
 have hlen := hP.len
 refine ⟨fun he => ?_, fun he => ?_⟩
 ·refine Aau sSn.ok Tryz.func21 bsnb rfl (ev.trans ?_)
  rw [stsnb_4, tn k, er, he, o2]
  rfl
 ·have h0 : 0 < r.pubs.length := List.length_pos_iff.2 he
  obtain ⟨f1, t1, g1, g2, g3⟩ := sp_b c (AaZ (psAt c.rels k)) n f d e k r er hr hx (g + 1) g (by omega) (AaZ (psAt c.rels k)) n f d e 0 (fun _ => []) 0 h0 (psAt c.rels k) [] hP (.nil _) (by omega) (by omega)
  have hdr : AaU k r = AaS k r (r.pubs.getD 0 pub0) :: (r.pubs.drop 1).map (AaS k r) := by
   show r.pubs.map _ = _
   have := Aar (T := r.pubs) (d := pub0) h0
   rw [List.drop_zero] at this
   conv => lhs; rw [this]
   rfl
  have hd0 : dlen (AaZ (psAt c.rels k)) = (psAt c.rels k).length := dlen_pr (h.ndk k)
  rw [hd0] at g2 g3
  have em : (kPr k (Aaw r (r.pubs.getD 0 pub0).set), Value.int IntKind.i64 ((psAt c.rels k).length : Nat)) :: AaZ (psAt c.rels k) = AaZ (psAt c.rels k ++ [AaS k r (r.pubs.getD 0 pub0)]) := (Afj (psAt c.rels k) (AaS k r (r.pubs.getD 0 pub0))).symm
  rw [em] at g3
  obtain ⟨f2, t2, k1, k2, k3⟩ := lp_bb c (AaZ (psAt c.rels k)) n f d e k r er hr hx (g + 1) (by omega) d e g 1 (n + 1) f1 (0 + 1) t1 (psAt c.rels k ++ [AaS k r (r.pubs.getD 0 pub0)]) ([] ++ [((psAt c.rels k).length : Int)]) (by omega) (by omega) g1 g2
   (by rw [List.append_assoc]; show ((psAt c.rels k ++ (AaS k r (r.pubs.getD 0 pub0) :: (r.pubs.drop 1).map (AaS k r))).map pkey).Nodup; rw [← hdr]; exact hnd) (by omega) (by omega)
  have q1 : psAt c.rels k ++ [AaS k r (r.pubs.getD 0 pub0)] ++ (r.pubs.drop 1).map (AaS k r) = psAt c.rels k ++ AaU k r := by
   rw [List.append_assoc, hdr]
   rfl
  have q2 : [] ++ [((psAt c.rels k).length : Int)] ++ nums (psAt c.rels k ++ [AaS k r (r.pubs.getD 0 pub0)]).length (r.pubs.length - 1) = nums (psAt c.rels k).length r.pubs.length := by
   rw [List.length_append, List.length_singleton]
   conv => rhs; rw [show r.pubs.length = r.pubs.length - 1 + 1 by omega, Afi]
   rfl
  rw [q1] at k1 k3
  rw [q2] at k2
  have e1 := k1.len
  have e2 := k2.len
  rw [nums_len] at e2
  rw [e1, e2] at k3
  rw [e1] at k1
  rw [e2] at k2
  have cc := Aau sSn.ok Tryz.func21 bsnb rfl (ev.trans (g3.trans k3))
  refine cc.le (.refl _) ?_
  have b1 : Ble (.row (psAt c.rels k ++ AaU k r).length f2 5 70) (.row (psAt c.rels k ++ AaU k r).length (fP (psAt c.rels k ++ AaU k r)) 5 70) := k1.ble
  have b2 : Ble (.row r.pubs.length t2 1 3) (.row r.pubs.length (fN (nums (psAt c.rels k).length r.pubs.length)) 1 3) := ⟨rfl, rfl, rfl, k2.le⟩
  exact .cons (.refl _) (.cons (.refl _) (.cons (.refl _) (.cons (.refl _) (.cons b1 (.cons b2 (.refl _))))))
theorem csA {c : SCfg} (h : OkC c) {k : Nat} (hk : k < c.rels.length) (h0 : psAt c.rels k = []) {n : Nat} {f : Nat → List D} (hP : RL pblC pbl0 n f []) (d : Nat) (e : Nat → List D) :
  ((c.rels.getD k rel0).pubs = [] → CX Tryz.prog 21 [.c (.ptr 0 0), vI k] (HKA c n f d e) (aTb (outS (c.rels.getD k rel0)) 3 0) (HA0 c n f d e 0 fun _ => [])) ∧
  ((c.rels.getD k rel0).pubs ≠ [] → CX Tryz.prog 21 [.c (.ptr 0 0), vI k] (HKA c n f d e) (aTb (outS (c.rels.getD k rel0)) 5 (c.rels.getD k rel0).pubs.length)
    (HA1 c (AaZ (psAt c.rels (k + 1))) (psAt c.rels (k + 1)).length (fP (psAt c.rels (k + 1))) d e (c.rels.getD k rel0).pubs.length (fN (nums (psAt c.rels k).length (c.rels.getD k rel0).pubs.length)))) := by
 have hr := h.fr hk
 have hx := h.px hk
 obtain ⟨o1, o2⟩ := zSo hr
 have hF := AaC hr
 have hpu := hF.pu
 have hnd := h.ndk (k + 1)
 rw [Aff c.rels hk, h0] at hnd ⊢
 obtain ⟨r, er⟩ : ∃ r, c.rels.getD k rel0 = r := ⟨_, rfl⟩
 rw [er] at hr hx o1 o2 hF hpu hnd ⊢
 obtain ⟨g, hg⟩ : ∃ g, 2000 < g := ⟨2001, by omega⟩
 have ev := evsna ZSn c n f d e k (g + 1)
 rw [inb hk, tn k, er, o1, cond_true, cond_true] at ev
 have hlen := hP.len
 refine ⟨fun he => ?_, fun he => ?_⟩
 ·refine Aau sSn.ok Tryz.func21 bsna rfl (ev.trans ?_)
  rw [stsna_4, tn k, er, he, o2]
  rfl
 ·have h0 : 0 < r.pubs.length := List.length_pos_iff.2 he
  have hlen : n = 0 := hlen
  obtain ⟨f1, t1, g1, g2, g3⟩ := sp_a c n f d e k r er hr hx (g + 1) g (by omega) n f d e 0 (fun _ => []) 0 h0 [] [] hP (.nil _) (by omega) (by omega)
  have hdr : AaU k r = AaS k r (r.pubs.getD 0 pub0) :: (r.pubs.drop 1).map (AaS k r) := by
   show r.pubs.map _ = _
   have := Aar (T := r.pubs) (d := pub0) h0
   rw [List.drop_zero] at this
   conv => lhs; rw [this]
   rfl
  have hd0 : dlen ([] : List (Value × Value)) = ([] : List Pbl).length := rfl
  rw [hd0] at g2 g3
  have em : (kPr k (Aaw r (r.pubs.getD 0 pub0).set), Value.int IntKind.i64 (([] : List Pbl).length : Nat)) :: [] = AaZ ([] ++ [AaS k r (r.pubs.getD 0 pub0)]) := (Afj [] (AaS k r (r.pubs.getD 0 pub0))).symm
  rw [em] at g3
  obtain ⟨f2, t2, k1, k2, k3⟩ := lp_ab c n f d e k r er hr hx (g + 1) (by omega) d e g 1 (n + 1) f1 (0 + 1) t1 ([] ++ [AaS k r (r.pubs.getD 0 pub0)]) ([] ++ [(([] : List Pbl).length : Int)]) (by omega) (by omega) g1 g2
   (by rw [List.append_assoc]; show (([] ++ (AaS k r (r.pubs.getD 0 pub0) :: (r.pubs.drop 1).map (AaS k r))).map pkey).Nodup; rw [← hdr]; exact hnd) (by omega) (by omega)
  have q1 : [] ++ [AaS k r (r.pubs.getD 0 pub0)] ++ (r.pubs.drop 1).map (AaS k r) = [] ++ AaU k r := by
   rw [List.append_assoc, hdr]
   rfl
  have q2 : [] ++ [(([] : List Pbl).length : Int)] ++ nums ([] ++ [AaS k r (r.pubs.getD 0 pub0)]).length (r.pubs.length - 1) = nums ([] : List Pbl).length r.pubs.length := by
   conv => rhs; rw [show r.pubs.length = r.pubs.length - 1 + 1 by omega, Afi]
   rfl
  rw [q1] at k1 k3
  rw [q2] at k2
  have e1 := k1.len
  have e2 := k2.len
  rw [nums_len] at e2
  rw [e1, e2] at k3
  rw [e1] at k1
  rw [e2] at k2
  have cc := Aau sSn.ok Tryz.func21 bsna rfl (ev.trans (g3.trans k3))
  refine cc.le (.refl _) ?_
  have b1 : Ble (.row ([] ++ AaU k r).length f2 5 70) (.row ([] ++ AaU k r).length (fP ([] ++ AaU k r)) 5 70) := k1.ble
  have b2 : Ble (.row r.pubs.length t2 1 3) (.row r.pubs.length (fN (nums ([] : List Pbl).length r.pubs.length)) 1 3) := ⟨rfl, rfl, rfl, k2.le⟩
  exact .cons (.refl _) (.cons (.refl _) (.cons (.refl _) (.cons (.refl _) (.cons b1 (.cons b2 (.refl _))))))
def eIr (a : List SRel × SSub) : List AV × Hp := ([.c (.d (AbF a.1)), .c (.fn 112 [] [.ptr 0 0])], sg.HSb a.2)
theorem eIr_inj : InjY eIr := fun a b h1 h2 => Prod.ext (Aax (sz := 53) (d0 := rel0) Afd _ _ (AfC (Aaj h1).1))
 (Adm _ _ (ale_agg (x := subC a.2) (y := subC b.2) (AfA (Aeu h2 0 (a := .cells ((subC a.2).map .d) 68) (b := .cells ((subC b.2).map .d) 68) rfl rfl))))
theorem lpirx (l : List SRel) (x : SSub) (g : Nat) (hb : l.length ≤ 9223372036854775807) : ∀ (m k : Nat), k ≤ l.length → l.length - k < m →
  Lirx_2 l x g m k = some (.leaf (vI (idxP (fun r : SRel => isT r.name x.dev) k (l.drop k)), sg.HSb x))
 | 0, k, _, h => by omega
 | m + 1, k, hk, h => by
  rw [stirx_2]
  by_cases hlt : k < l.length
  ·rw [Aar (d := rel0) hlt, lt1 hlt, ge0, tn, nx hlt hb, lpirx l x g hb m (k + 1) (by omega) (by omega), tt, cond_true, cond_true]
   simp only [idxP]
   show (bif isT (l.getD k rel0).name x.dev then _ else _) = _
   cases isT (l.getD k rel0).name x.dev <;> rfl
  ·rw [lt0 hlt, List.drop_of_length_le (by omega)]
   rfl
theorem cirx (l : List SRel) (x : SSub) (hb : l.length ≤ 9223372036854775807) :
  CX Tryz.prog 111 [.c (.d (AbF l)), .c (.fn 112 [] [.ptr 0 0])] (sg.HSb x) (vI (Abs l x.dev)) (sg.HSb x) := by
 have ho : Acg Tryz.prog (Orc.cons 112 (inl Tryz.prog Orc.nil na 1 Tryz.f112) Orc.nil) := (OrcS.cons (.inl .nil Tryz.func112 (by kernel_rfl)) .nil).ok
 exact Aau ho Tryz.func111 birx rfl ((evirx l x (l.length + 1)).trans (lpirx l x (l.length + 1) hb (l.length + 1) 0 (by omega) (by omega)))
noncomputable def ZFn (c : SCfg) : KFn where
 oki := okZ eIr fun a => Aaq a.1
 ix x H := Abs (theY eIr x H).1 (theY eIr x H).2.dev
 sb x H := (theY eIr x H).2
 okf := okG (eFd c) (cFd c.rels)
 fi x := AdW c.rels (theT (eFd c) x).1 (theT (eFd c) x).2.1 (theT (eFd c) x).2.2
theorem sFn (c : SCfg) (h : fitC c.rels = true) : OrcS Tryz.prog (oFn (ZFn c)) :=
 .cons (.m (enc := eIr) (c := fun a => Aaq a.1) (r := fun a => vI (Abs a.1 a.2.dev)) (H' := fun a => sg.HSb a.2) fun a h => cirx a.1 a.2 (AaF h))
  (.cons (.t' (enc := eFd c) (c := cFd c.rels) (r := fun a => aPl (AdW c.rels a.1 a.2.1 a.2.2)) fun a ha => cFind c a.1 a.2.1 a.2.2 (by unfold cFd at ha; simpa using ha) (AbB h).2.2) .nil)
theorem cFnd (c : SCfg) (hc : fitC c.rels = true) (i k : Nat) (hi : i < c.rels.length) (hk : k < (c.rels.getD i rel0).subs.length) : CX Tryz.prog 50 [aCfg c, vI i, vI k] [] (aPl (fiS c (i, k))) [] := by
 have hn := (AbB hc).1
 refine Aau (sFn c hc).ok Tryz.func50 (by kernel_rfl) rfl ((evFn (ZFn c) c i k).trans ?_)
 have t1 : decide ((i : Int) < 0) = false := decide_eq_false (by omega)
 have t2 : decide ((i : Int) ≥ (c.rels.length : Int)) = false := decide_eq_false (by omega)
 have t3 : decide ((k : Int) < 0) = false := decide_eq_false (by omega)
 have t5 : decide ((k : Int) ≥ ((c.rels.getD i rel0).subs.length : Int)) = false := decide_eq_false (by omega)
 have e0 : fiS c ((i : Int), (k : Int)) = Abd c.rels i ((c.rels.getD i rel0).subs.getD k sub0) := by unfold fiS; simp only [Int.toNat_natCast]
 rw [t1, t2, t3, inb hi, tn i, t5, inb hk, tn k, e0]
 simp only [cond_true, cond_false]
 generalize (c.rels.getD i rel0).subs.getD k sub0 = x
 have s1 : theY eIr [AV.c (C.d (Aab 53 relC rel0 c.rels)), AV.c (C.fn 112 [] [Rf.ptr 0 0])] [(0, Blk.cells (List.map C.d (subC x)) 68)] = (c.rels, x) := Adl eIr_inj (c.rels, x)
 have k1 : (ZFn c).oki [AV.c (C.d (Aab 53 relC rel0 c.rels)), AV.c (C.fn 112 [] [Rf.ptr 0 0])] [(0, Blk.cells (List.map C.d (subC x)) 68)] = true := AeP eIr_inj (c := fun a => Aaq a.1) (c.rels, x) (by unfold Aaq; exact decide_eq_true (by show c.rels.length ≤ _; omega))
 have k2 : (ZFn c).ix [AV.c (C.d (Aab 53 relC rel0 c.rels)), AV.c (C.fn 112 [] [Rf.ptr 0 0])] [(0, Blk.cells (List.map C.d (subC x)) 68)] = Abs c.rels x.dev := by dsimp only [ZFn]; rw [s1]
 have k3 : (ZFn c).sb [AV.c (C.d (Aab 53 relC rel0 c.rels)), AV.c (C.fn 112 [] [Rf.ptr 0 0])] [(0, Blk.cells (List.map C.d (subC x)) 68)] = x := by dsimp only [ZFn]; rw [s1]
 obtain ⟨dl, _⟩ := Afw c.rels x.dev
 have s2 : theT (eFd c) [AV.agg (List.map C.d (cfgC c)), AV.c (C.d (D.v (Value.int IntKind.i64 (i : Int)))), AV.c (C.d (D.v (Value.int IntKind.i64 (Abs c.rels x.dev)))), AV.agg (List.map C.d (subC x))] = ((i : Int), Abs c.rels x.dev, x) := Aah (AfU c) ((i : Int), Abs c.rels x.dev, x)
 have k4 : (ZFn c).okf [AV.agg (List.map C.d (cfgC c)), AV.c (C.d (D.v (Value.int IntKind.i64 (i : Int)))), AV.c (C.d (D.v (Value.int IntKind.i64 (Abs c.rels x.dev)))), AV.agg (List.map C.d (subC x))] = true := Aam (AfU c) (c := cFd c.rels) ((i : Int), Abs c.rels x.dev, x) (by unfold cFd; exact decide_eq_true dl)
 have k5 : (ZFn c).fi [AV.agg (List.map C.d (cfgC c)), AV.c (C.d (D.v (Value.int IntKind.i64 (i : Int)))), AV.c (C.d (D.v (Value.int IntKind.i64 (Abs c.rels x.dev)))), AV.agg (List.map C.d (subC x))] = Abd c.rels i x := by dsimp only [ZFn]; rw [s2]; rfl
 rw [k1, k2, k3, k4, k5]
 rfl
def AeT (rels : List SRel) (i : Nat) : List (Int × Int) := (rels.getD i rel0).subs.map fun x => (pblIx (pbls 0 rels) (Abd rels i x).rel (Abd rels i x).set, (Abd rels i x).item)
abbrev fI (l : List (Int × Int)) : Nat → List D := fun j => inC (l.getD j (0, 0))
theorem sIn (c : SCfg) (h : fitC c.rels = true) : OrcS Tryz.prog (oIn (okG (eFk c) (cFk c)) fun x => fiS c (theT (eFk c) x)) :=
 .cons (.t' (enc := eFk c) (c := cFk c) (r := fun a => aPl (fiS c a)) fun a ha => by
  obtain ⟨i, k, rfl, hi, hk⟩ := cFk_of ha
  exact cFnd c h i k hi hk) (.cons (.inl .nil Tryz.func51 (by kernel_rfl)) .nil)
theorem ciB {c : SCfg} (h : OkC c) {k : Nat} (hk : k < c.rels.length) (n : Nat) (f : Nat → List D) (d : Nat) (e : Nat → List D) :
  CX Tryz.prog 22 [.c (.ptr 0 0), vI k] (HKB c (AaZ (pbls 0 c.rels)) n f d e) (.c (.row 4 2 (AeT c.rels k).length)) (HKB c (AaZ (pbls 0 c.rels)) n f d e ++ [(4, .row (AeT c.rels k).length (fI (AeT c.rels k)) 2 66)]) := by
 have hF := AaC (h.fr hk)
 have hsu := hF.su
 obtain ⟨r, er⟩ : ∃ r, c.rels.getD k rel0 = r := ⟨_, rfl⟩
 rw [er] at hsu
 have hil : (AeT c.rels k).length = r.subs.length := by unfold AeT; rw [er, List.length_map]
 have ev := evinb (okG (eFk c) (cFk c)) (fun x => fiS c (theT (eFk c) x)) c (AaZ (pbls 0 c.rels)) n f d e k (r.subs.length + 1)
 rw [inb hk, cond_true] at ev
 have key : ∀ j, j < r.subs.length → lookV 4 (Aaz (AaZ (pbls 0 c.rels)) (kPr (Abd c.rels k (r.subs.getD j sub0)).rel (Abd c.rels k (r.subs.getD j sub0)).set)) = .int .i64 (pblIx (pbls 0 c.rels) (Abd c.rels k (r.subs.getD j sub0)).rel (Abd c.rels k (r.subs.getD j sub0)).set) := fun j hj => by
  obtain ⟨n0, d0, it, o, I⟩ := in_ok h.sig h.uq hk (x := r.subs.getD j sub0) (by rw [er]; exact AaP sub0 hj)
  have := assoc_pr h.nd I.hn
  rw [I.hr, I.hs, ← I.hf] at this
  rw [this, I.hx]
  rfl
 obtain ⟨f', h1, h2⟩ := Aek (L := fun m n4 f4 j => Linb_3 (okG (eFk c) (cFk c)) (fun x => fiS c (theT (eFk c) x)) c (AaZ (pbls 0 c.rels)) n f d e k (r.subs.length + 1) m (AaZ (pbls 0 c.rels)) n f d e n4 f4 j)
  (K := fun n4 f4 => some (T.leaf (AV.c (C.row 4 2 n4), HKB c (AaZ (pbls 0 c.rels)) n f d e ++ [(4, .row n4 f4 2 66)]))) (l := r.subs) (d := sub0) (c := inC) (d0 := ((0, 0) : Int × Int))
  (ch := fun x => [D.v (lookV 4 (Aaz (AaZ (pbls 0 c.rels)) (kPr (Abd c.rels k x).rel (Abd c.rels k x).set))), dI (Abd c.rels k x).item])
  (e := fun x => (pblIx (pbls 0 c.rels) (Abd c.rels k x).rel (Abd c.rels k x).set, (Abd c.rels k x).item)) (sz := 2)
  (fun m j n4 f4 hj hn4 => by
    have k1 : okG (eFk c) (cFk c) [AV.agg (List.map C.d (cfgC c)), AV.c (C.d (D.v (Value.int IntKind.i64 (k : Int)))), AV.c (C.d (D.v (Value.int IntKind.i64 (j : Int))))] = true := Aam (AfT c) (c := cFk c) ((k : Int), (j : Int)) (cFk_mk hk (by rw [er]; exact hj))
    have k2 : theT (eFk c) [AV.agg (List.map C.d (cfgC c)), AV.c (C.d (D.v (Value.int IntKind.i64 (k : Int)))), AV.c (C.d (D.v (Value.int IntKind.i64 (j : Int))))] = ((k : Int), (j : Int)) := Aah (AfT c) ((k : Int), (j : Int))
    have k3 : fiS c ((k : Int), (j : Int)) = Abd c.rels k (r.subs.getD j sub0) := by unfold fiS; simp only [Int.toNat_natCast]; rw [er]
    rw [stinb_3, tn k, er, lt1 hj, k1, k2, k3, AdE (n := n4) (by omega), nx hj (by omega), cond_true, cond_true, cond_true]
    rfl)
  (fun m n4 f4 => by
    rw [stinb_3, tn k, er, lt0 (Nat.lt_irrefl _)]
    rfl) (fun _ => rfl) (fun j hj => by rw [key j hj]; exact ⟨.refl _, .refl _⟩) (r.subs.length + 1) 0 0 (fun _ => []) [] (by omega) (by omega) (by omega) (.nil _)
 simp only [Nat.sub_zero, Nat.zero_add, List.nil_append, List.drop_zero] at h1 h2
 have e1 : r.subs.map (fun x => (pblIx (pbls 0 c.rels) (Abd c.rels k x).rel (Abd c.rels k x).set, (Abd c.rels k x).item)) = AeT c.rels k := by unfold AeT; rw [er]
 rw [e1] at h1
 rw [hil]
 refine (Aau (sIn c h.fit).ok Tryz.func22 binb rfl (ev.trans h2)).le (.refl _) ?_
 exact .cons (.refl _) (.cons (.refl _) (.cons (.refl _) (.cons (.refl _) (.cons ⟨rfl, rfl, rfl, h1.le⟩ (.refl _)))))
theorem ciA {c : SCfg} (h : OkC c) {k : Nat} (hk : k < c.rels.length) (h0 : (c.rels.getD k rel0).subs = []) (n : Nat) (f : Nat → List D) (d : Nat) (e : Nat → List D) :
  CX Tryz.prog 22 [.c (.ptr 0 0), vI k] (HKA c n f d e) (.c (.row 3 2 0)) (HKA c n f d e ++ [(3, .row 0 (fun _ => []) 2 66)]) := by
 have ev := evina (okG (eFk c) (cFk c)) (fun x => fiS c (theT (eFk c) x)) c n f d e k 1
 rw [inb hk, cond_true] at ev
 refine Aau (sIn c h.fit).ok Tryz.func22 bina rfl (ev.trans ?_)
 rw [stina_3, tn k, h0]
 rfl
end Go.Proofs.YtbpndheehcbldaaGreatDoor.tb
namespace Go.Proofs.YtbpndheehcbldaaGreatDoor.tb
open Go.RowKit Go.Eb Go.Proofs.YtbpndheehcbldaaGreatDoor.st
set_option maxRecDepth 100000
def ansDE {A : Type} (d : Dec (List AV × Hp) A) (c e : A → Bool) (r1 : A → AV) (H1 : A → Hp) (r2 : A → AV) (H2 : A → Hp) (g : (R : Type) → List AV → Hp → (AV → Hp → Option (T R)) → Option (T R)) : (R : Type) → List AV → Hp → (AV → Hp → Option (T R)) → Option (T R) := fun R args H k =>
 match d.dec (args, H) with
 | some a => bif c a then (bif e a then k (r1 a) (H1 a) else k (r2 a) (H2 a)) else none
 | none => g R args H k
def ansNo : (R : Type) → List AV → Hp → (AV → Hp → Option (T R)) → Option (T R) := fun _ _ _ _ => none
abbrev AB := (Unit × Int × Unit) × ((ByteArray × D × D × D × D × D × Unit × Nat × Nat × Unit) × List (Value × Value) × (Nat × (Nat → List D)) × (Nat × (Nat → List D)) × Unit)
abbrev AA := (Unit × Int × Unit) × ((ByteArray × D × D × D × D × D × D × Nat × Nat × Unit) × (Nat × (Nat → List D)) × (Nat × (Nat → List D)) × Unit)
def dKB : Dec (List AV × Hp) AB := .pair (.cons (.c (.ptr 0 0)) (.cons (.c .i64) .nil)) (.cons (.blk 0 (.cells 81 (.cons .str (.cons .data (.cons .data (.cons .data (.cons .data (.cons .data (.cons (.mp 1) (.cons (.row 2 5) (.cons (.row 3 3) .nil))))))))))) (.cons (.blk 1 (.mapB 4)) (.cons (.blk 2 (.rowB 5 70)) (.cons (.blk 3 (.rowB 3 51)) .nil))))
def dKA : Dec (List AV × Hp) AA := .pair (.cons (.c (.ptr 0 0)) (.cons (.c .i64) .nil)) (.cons (.blk 0 (.cells 81 (.cons .str (.cons .data (.cons .data (.cons .data (.cons .data (.cons .data (.cons .data (.cons (.row 1 5) (.cons (.row 2 3) .nil))))))))))) (.cons (.blk 1 (.rowB 5 70)) (.cons (.blk 2 (.rowB 3 51)) .nil)))
def cfB (a : AB) : List C := [.d (dS a.2.1.1), .d a.2.1.2.1, .d a.2.1.2.2.1, .d a.2.1.2.2.2.1, .d a.2.1.2.2.2.2.1, .d a.2.1.2.2.2.2.2.1]
def cfA (a : AA) : List C := [.d (dS a.2.1.1), .d a.2.1.2.1, .d a.2.1.2.2.1, .d a.2.1.2.2.2.1, .d a.2.1.2.2.2.2.1, .d a.2.1.2.2.2.2.2.1]
def shB (a : AB) : Int × List (Value × Value) × (Nat × (Nat → List D)) × (Nat × (Nat → List D)) := (a.1.2.1, a.2.2.1, a.2.2.2.1, a.2.2.2.2.1)
def shA (a : AA) : Int × (Nat × (Nat → List D)) × (Nat × (Nat → List D)) := (a.1.2.1, a.2.2.1, a.2.2.2.1)
structure KCo where
 okc : List AV → Bool
 chk : List AV → Int
 okB : AB → Bool
 emB : Int → Bool
 ouB : Int → List ByteArray
 mpB : Int → List (Value × Value)
 nB : Int → Nat
 fB : Int → Nat → List D
 sB : Int → Nat
 tB : Int → Nat → List D
 okA : AA → Bool
 okI : AB → Bool
 okJ : AA → Bool
 iN : Int → Nat
 iF : Int → Nat → List D
abbrev aTb' (l : List ByteArray) (h s : Nat) : AV := .agg [.d (Aaa l), .row h 1 s, .d (.v (.slice none 0 0))]
def hB0 (a : AB) : Hp := [(0, .cells (cfB a ++ [.mp 1, .row 2 5 (shB a).2.2.1.1, .row 3 3 (shB a).2.2.2.1]) 81), (1, .map 4 (shB a).2.1), (2, .row (shB a).2.2.1.1 (shB a).2.2.1.2 5 70), (3, .row (shB a).2.2.2.1 (shB a).2.2.2.2 3 51)]
def hA0 (a : AA) : Hp := [(0, .cells (cfA a ++ [.d (.v (.map none)), .row 1 5 (shA a).2.1.1, .row 2 3 (shA a).2.2.1]) 81), (1, .row (shA a).2.1.1 (shA a).2.1.2 5 70), (2, .row (shA a).2.2.1 (shA a).2.2.2 3 51)]
def hB1 (a : AB) (mp : List (Value × Value)) (n : Nat) (f : Nat → List D) (s : Nat) (t : Nat → List D) : Hp := [(0, .cells (cfB a ++ [.mp 1, .row 4 5 n, .row 3 3 (shB a).2.2.2.1]) 81), (1, .map 4 mp), (2, .dead), (3, .row (shB a).2.2.2.1 (shB a).2.2.2.2 3 51), (4, .row n f 5 70), (5, .row s t 1 3)]
def hA1 (a : AA) (mp : List (Value × Value)) (n : Nat) (f : Nat → List D) (s : Nat) (t : Nat → List D) : Hp := [(0, .cells (cfA a ++ [.mp 3, .row 4 5 n, .row 2 3 (shA a).2.2.1]) 81), (1, .dead), (2, .row (shA a).2.2.1 (shA a).2.2.2 3 51), (3, .map 4 mp), (4, .row n f 5 70), (5, .row s t 1 3)]
noncomputable def oCo (Z : KCo) : Orc := Orc.cons 13 (ansG Z.okc fun x => vI (Z.chk x)) (Orc.cons 21
  (ansDE dKB Z.okB (fun a => Z.emB (shB a).1) (fun a => aTb' (Z.ouB (shB a).1) 4 0) (fun a => hB0 a ++ [(4, .row 0 (fun _ => []) 1 3)]) (fun a => aTb' (Z.ouB (shB a).1) 5 (Z.sB (shB a).1)) (fun a => hB1 a (Z.mpB (shB a).1) (Z.nB (shB a).1) (Z.fB (shB a).1) (Z.sB (shB a).1) (Z.tB (shB a).1))
  (ansDE dKA Z.okA (fun a => Z.emB (shA a).1) (fun a => aTb' (Z.ouB (shA a).1) 3 0) (fun a => hA0 a ++ [(3, .row 0 (fun _ => []) 1 3)]) (fun a => aTb' (Z.ouB (shA a).1) 5 (Z.sB (shA a).1)) (fun a => hA1 a (Z.mpB (shA a).1) (Z.nB (shA a).1) (Z.fB (shA a).1) (Z.sB (shA a).1) (Z.tB (shA a).1)) ansNo))
 (Orc.cons 22 (ansDE dKB Z.okI (fun _ => true) (fun a => .c (.row 4 2 (Z.iN (shB a).1))) (fun a => hB0 a ++ [(4, .row (Z.iN (shB a).1) (Z.iF (shB a).1) 2 66)]) (fun _ => .u) (fun _ => [])
   (ansDE dKA Z.okJ (fun _ => true) (fun _ => .c (.row 3 2 0)) (fun a => hA0 a ++ [(3, .row 0 (fun _ => []) 2 66)]) (fun _ => .u) (fun _ => []) ansNo)) Orc.nil))
noncomputable def anncmp : Ann := AaE [(6, ⟨[5, 2, 19, 20], [(5, 7, 5, 70), (5, 8, 3, 51)]⟩), (11, ⟨[5, 2, 36, 37], [(5, 7, 5, 70), (5, 8, 3, 51)]⟩)]
noncomputable def Lcmp_6 (Z : KCo) (c : SCfg) (g m : Nat) (n2 : Nat) (f2 : Nat → List D) (n3 : Nat) (f3 : Nat → List D) (i20 : Int) := LK Tryz.prog (oCo Z) anncmp 0 g Tryz.f9 6 m ⟨frm [(2, .c (.ptr 0 0)), (5, .c (.ptr 1 0)), (19, .c (.d (.v (.int .i64 (↑(List.length (SCfg.rels c)) : Int))))), (20, .c (.d (.v (.int .i64 i20))))] 0 Tryz.f9.ntmps, [(0, Blk.cells [.d (.v (.slice none 0 0)), .d (.v (.slice none 0 0))] 36), (1, Blk.cells [.d (.v (.string (SSta.name (SCfg.sta c)))), C.d (Aab 1 busC e0 (SSta.buses (SCfg.sta c))), C.d (Aab 5 Aap Aaf (SSta.lines (SCfg.sta c))), C.d (Aab 6 Aao src0 (SSta.srcs (SCfg.sta c))), C.d (Aab 12 bayC bay0 (SSta.bays (SCfg.sta c))), C.d (Aab 53 relC rel0 (SCfg.rels c)), C.d (D.v (Value.map none)), C.row 2 5 n2, C.row 3 3 n3] 81), (2, Blk.row n2 f2 5 70), (3, Blk.row n3 f3 3 51)], 4⟩
noncomputable def Lcmp_11 (Z : KCo) (c : SCfg) (g m : Nat) (n2 : Nat) (f2 : Nat → List D) (n3 : Nat) (f3 : Nat → List D) (i37 : Int) := LK Tryz.prog (oCo Z) anncmp 0 g Tryz.f9 11 m ⟨frm [(2, .c (.ptr 0 0)), (5, .c (.ptr 1 0)), (36, .c (.d (.v (.int .i64 (↑(List.length (SCfg.rels c)) : Int))))), (37, .c (.d (.v (.int .i64 i37))))] 0 Tryz.f9.ntmps, [(0, Blk.cells [.d (.v (.slice none 0 0)), .d (.v (.slice none 0 0))] 36), (1, Blk.cells [.d (.v (.string (SSta.name (SCfg.sta c)))), C.d (Aab 1 busC e0 (SSta.buses (SCfg.sta c))), C.d (Aab 5 Aap Aaf (SSta.lines (SCfg.sta c))), C.d (Aab 6 Aao src0 (SSta.srcs (SCfg.sta c))), C.d (Aab 12 bayC bay0 (SSta.bays (SCfg.sta c))), C.d (Aab 53 relC rel0 (SCfg.rels c)), C.d (D.v (Value.map none)), C.row 2 5 n2, C.row 3 3 n3] 81), (2, Blk.row n2 f2 5 70), (3, Blk.row n3 f3 3 51)], 4⟩
noncomputable def Lcmp_6b (Z : KCo) (c : SCfg) (g m : Nat) (l2 : List (Value × Value)) (n3 : Nat) (f3 : Nat → List D) (n4 : Nat) (f4 : Nat → List D) (i20 : Int) := LK Tryz.prog (oCo Z) anncmp 0 g Tryz.f9 6 m ⟨frm [(2, .c (.ptr 0 0)), (5, .c (.ptr 1 0)), (19, .c (.d (.v (.int .i64 (↑(List.length (SCfg.rels c)) : Int))))), (20, .c (.d (.v (.int .i64 i20))))] 0 Tryz.f9.ntmps, [(0, Blk.cells [.d (.v (.slice none 0 0)), .d (.v (.slice none 0 0))] 36), (1, Blk.cells [.d (.v (.string (SSta.name (SCfg.sta c)))), C.d (Aab 1 busC e0 (SSta.buses (SCfg.sta c))), C.d (Aab 5 Aap Aaf (SSta.lines (SCfg.sta c))), C.d (Aab 6 Aao src0 (SSta.srcs (SCfg.sta c))), C.d (Aab 12 bayC bay0 (SSta.bays (SCfg.sta c))), C.d (Aab 53 relC rel0 (SCfg.rels c)), C.mp 2, C.row 3 5 n3, C.row 4 3 n4] 81), (2, Blk.map 4 l2), (3, Blk.row n3 f3 5 70), (4, Blk.row n4 f4 3 51)], 5⟩
noncomputable def Aex (Z : KCo) (c : SCfg) (g m : Nat) (l2 : List (Value × Value)) (n3 : Nat) (f3 : Nat → List D) (n4 : Nat) (f4 : Nat → List D) (i37 : Int) := LK Tryz.prog (oCo Z) anncmp 0 g Tryz.f9 11 m ⟨frm [(2, .c (.ptr 0 0)), (5, .c (.ptr 1 0)), (36, .c (.d (.v (.int .i64 (↑(List.length (SCfg.rels c)) : Int))))), (37, .c (.d (.v (.int .i64 i37))))] 0 Tryz.f9.ntmps, [(0, Blk.cells [.d (.v (.slice none 0 0)), .d (.v (.slice none 0 0))] 36), (1, Blk.cells [.d (.v (.string (SSta.name (SCfg.sta c)))), C.d (Aab 1 busC e0 (SSta.buses (SCfg.sta c))), C.d (Aab 5 Aap Aaf (SSta.lines (SCfg.sta c))), C.d (Aab 6 Aao src0 (SSta.srcs (SCfg.sta c))), C.d (Aab 12 bayC bay0 (SSta.bays (SCfg.sta c))), C.d (Aab 53 relC rel0 (SCfg.rels c)), C.mp 2, C.row 3 5 n3, C.row 4 3 n4] 81), (2, Blk.map 4 l2), (3, Blk.row n3 f3 5 70), (4, Blk.row n4 f4 3 51)], 5⟩
theorem bcmp : Tryz.f9.body = some (Aad Tryz.f9) := by kernel_rfl
theorem evcmp (Z : KCo) (c : SCfg) (g : Nat) : Aai Tryz.prog (oCo Z) anncmp g Tryz.f9 (Aad Tryz.f9) [aCfg c] [] =
 (bif KCo.okc Z [AV.agg (List.map C.d (cfgC c))] then (bif KCo.chk Z [AV.agg (List.map C.d (cfgC c))] != 0 then some (T.leaf (AV.tup [(true, [C.d (D.v (Value.slice none (0 : Nat)
 0)), C.d (.v (.slice none 0 0))]), (false, [C.d (.v (.int .i64 (KCo.chk Z [AV.agg (List.map C.d (cfgC c))])))])], [])) else Lcmp_6 Z c g g 0 (fun x => []) 0 (fun x => []) 0) else
 none) := by kernel_rfl
end Go.Proofs.YtbpndheehcbldaaGreatDoor.tb
namespace Go.Proofs.YtbpndheehcbldaaGreatDoor.tb
open Go.RowKit Go.Eb Go.Proofs.YtbpndheehcbldaaGreatDoor.st
set_option maxRecDepth 100000
def xA (c : SCfg) (i : Int) (n : Nat) (f : Nat → List D) (d : Nat) (e : Nat → List D) : AA := (((), i, ()), (c.sta.name, Aaa c.sta.buses, Aab 5 Aap Aaf c.sta.lines, Aab 6 Aao src0 c.sta.srcs, Aab 12 bayC bay0 c.sta.bays, AbF c.rels, D.v (Value.map none), n, d, ()), (n, f), (d, e), ())
def xB (c : SCfg) (i : Int) (mp : List (Value × Value)) (n : Nat) (f : Nat → List D) (d : Nat) (e : Nat → List D) : AB := (((), i, ()), (c.sta.name, Aaa c.sta.buses, Aab 5 Aap Aaf c.sta.lines, Aab 6 Aao src0 c.sta.srcs, Aab 12 bayC bay0 c.sta.bays, AbF c.rels, (), n, d, ()), mp, (n, f), (d, e), ())
abbrev cap72 (d : Nat) : Bool := decide ((d + 1) * 72 ≤ 140737488355328) && decide (d + 1 ≤ 9223372036854775807)
abbrev nilS : D := .v (.slice none 0 0)
theorem stA6 (Z : KCo) (c : SCfg) (g m : Nat) (n : Nat) (f : Nat → List D) (d : Nat) (e : Nat → List D) (i : Int) : Lcmp_6 Z c g (m + 1) n f d e i =
 (bif decide (i < (c.rels.length : Int)) then (bif Z.okA (xA c i n f d e) then (bif Z.emB i then (bif cap72 d then (bif Nat.beq d d then Lcmp_6 Z c g m n f (d + 1) (appF d e (Aat
 [Aaa (Z.ouB i), .sl 1 0 (fun _ => []), nilS] 3)) (IntKind.wrap .i64 (i + 1)) else none) else none) else (bif cap72 d then (bif Nat.beq d d then Lcmp_6b Z c g m (Z.mpB i) (Z.nB i)
 (Z.fB i) (d + 1) (appF d e (Aat [Aaa (Z.ouB i), .sl 1 (Z.sB i) (Z.tB i), nilS] 3)) (IntKind.wrap .i64 (i + 1)) else none) else none)) else none) else Lcmp_11 Z c g g n f d e 0) := by kernel_rfl
theorem stB6 (Z : KCo) (c : SCfg) (g m : Nat) (mp : List (Value × Value)) (n : Nat) (f : Nat → List D) (d : Nat) (e : Nat → List D) (i : Int) : Lcmp_6b Z c g (m + 1) mp n f d e i =
 (bif decide (i < (c.rels.length : Int)) then (bif Z.okB (xB c i mp n f d e) then (bif Z.emB i then (bif cap72 d then (bif Nat.beq d d then Lcmp_6b Z c g m mp n f (d + 1) (appF d e
 (Aat [Aaa (Z.ouB i), .sl 1 0 (fun _ => []), nilS] 3)) (IntKind.wrap .i64 (i + 1)) else none) else none) else (bif cap72 d then (bif Nat.beq d d then Lcmp_6b Z c g m (Z.mpB i) (Z.nB
 i) (Z.fB i) (d + 1) (appF d e (Aat [Aaa (Z.ouB i), .sl 1 (Z.sB i) (Z.tB i), nilS] 3)) (IntKind.wrap .i64 (i + 1)) else none) else none)) else none) else Aex Z c g g mp n f d e 0) := by kernel_rfl
abbrev lfC (n : Nat) (f : Nat → List D) (d : Nat) (e : Nat → List D) : Option (T (AV × Hp)) := some (.leaf (.tup [(true, [.row 0 5 n, .row 1 3 d]), (false, [.d (dI 0)])], [(0, .row n f 5 70), (1, .row d e 3 51)]))
theorem stA11 (Z : KCo) (c : SCfg) (g m : Nat) (n : Nat) (f : Nat → List D) (d : Nat) (e : Nat → List D) (i : Int) : Lcmp_11 Z c g (m + 1) n f d e i =
 (bif decide (i < (c.rels.length : Int)) then (bif Z.okJ (xA c i n f d e) then (bif decide (0 ≤ i) && decide (i < (d : Int)) then (bif Nat.beq d d then Lcmp_11 Z c g m n f d (fun j
 => bif Nat.beq j i.toNat then splice (e j) 2 [.sl 2 0 (fun _ => [])] else e j) (IntKind.wrap .i64 (i + 1)) else none) else none) else none) else lfC n f d e) := by kernel_rfl
theorem stB11 (Z : KCo) (c : SCfg) (g m : Nat) (mp : List (Value × Value)) (n : Nat) (f : Nat → List D) (d : Nat) (e : Nat → List D) (i : Int) : Aex Z c g (m + 1) mp n f d e i =
 (bif decide (i < (c.rels.length : Int)) then (bif Z.okI (xB c i mp n f d e) then (bif decide (0 ≤ i) && decide (i < (d : Int)) then (bif Nat.beq d d then Aex Z c g m mp n f d (fun
 j => bif Nat.beq j i.toNat then splice (e j) 2 [.sl 2 (Z.iN i) (Z.iF i)] else e j) (IntKind.wrap .i64 (i + 1)) else none) else none) else none) else lfC n f d e) := by kernel_rfl
end Go.Proofs.YtbpndheehcbldaaGreatDoor.tb
namespace Go.Proofs.YtbpndheehcbldaaGreatDoor.tb
open Go.RowKit Go.Eb Go.Proofs.YtbpndheehcbldaaGreatDoor.st
set_option maxRecDepth 100000
theorem _root_.Go.Eb.AnsS.de {P : Program} {f0 : FuncId} {A : Type} {d : Dec (List AV × Hp) A} {c e : A → Bool} {r1 r2 : A → AV} {H1 H2 : A → Hp} {g : (R : Type) → List AV → Hp → (AV → Hp → Option (T R)) → Option (T R)}
  (h1 : ∀ a, c a = true → e a = true → CX P f0 (d.enc a).1 (d.enc a).2 (r1 a) (H1 a)) (h2 : ∀ a, c a = true → e a = false → CX P f0 (d.enc a).1 (d.enc a).2 (r2 a) (H2 a)) (hg : AnsS P f0 g) : AnsS P f0 (ansDE d c e r1 H1 r2 H2 g) := by
 refine ⟨fun R args H k t h => ?_, fun args H => ?_⟩
 ·unfold ansDE at h
  cases hd : d.dec (args, H) with
  | none => rw [hd] at h; exact hg.ok R args H k t h
  | some a =>
   rw [hd] at h
   simp only [] at h
   cases hca : c a with
   | false => rw [hca] at h; cases h
   | true =>
    rw [hca] at h
    have ee := d.ok _ _ hd
    cases hea : e a with
    | true =>
     rw [hea] at h
     have := h1 a hca hea
     rw [← ee] at this
     exact ⟨_, _, h, this⟩
    | false =>
     rw [hea] at h
     have := h2 a hca hea
     rw [← ee] at this
     exact ⟨_, _, h, this⟩
 ·unfold ansDE
  cases d.dec (args, H) with
  | none => exact hg.det args H
  | some a => exact .bif _ (.bif _ (.one _ _ fun R k => rfl) (.one _ _ fun R k => rfl)) (.no fun R k => rfl)
theorem _root_.Go.Eb.AnsS.no {P : Program} {f0 : FuncId} : AnsS P f0 ansNo := ⟨fun R args H k t h => (by cases h), fun args H => Det.no fun R k => rfl⟩
noncomputable def pD (p : Prop) : Bool := @decide p (Classical.propDecidable _)
theorem AeD {p : Prop} : pD p = true ↔ p := by unfold pD; simp
def eU (c : SCfg) (_ : Unit) : List AV := [aCfg c]
theorem eU_inj (c : SCfg) : InjT (eU c) := fun _ _ _ => rfl
noncomputable def ZCo (c : SCfg) (ck : Int) : KCo where
 okc := okG (eU c) fun _ => true
 chk _ := ck
 okB a := pD (∃ (k n : Nat) (f : Nat → List D) (d : Nat) (e : Nat → List D), a = xB c k (AaZ (psAt c.rels k)) n f d e ∧ k < c.rels.length ∧ RL pblC pbl0 n f (psAt c.rels k))
 emB i := (c.rels.getD i.toNat rel0).pubs.isEmpty
 ouB i := outS (c.rels.getD i.toNat rel0)
 mpB i := AaZ (psAt c.rels (i.toNat + 1))
 nB i := (psAt c.rels (i.toNat + 1)).length
 fB i := fP (psAt c.rels (i.toNat + 1))
 sB i := (c.rels.getD i.toNat rel0).pubs.length
 tB i := fN (nums (psAt c.rels i.toNat).length (c.rels.getD i.toNat rel0).pubs.length)
 okA a := pD (∃ (k n : Nat) (f : Nat → List D) (d : Nat) (e : Nat → List D), a = xA c k n f d e ∧ k < c.rels.length ∧ psAt c.rels k = [] ∧ RL pblC pbl0 n f [])
 okI a := pD (∃ (k n : Nat) (f : Nat → List D) (d : Nat) (e : Nat → List D), a = xB c k (AaZ (pbls 0 c.rels)) n f d e ∧ k < c.rels.length)
 okJ a := pD (∃ (k n : Nat) (f : Nat → List D) (d : Nat) (e : Nat → List D), a = xA c k n f d e ∧ k < c.rels.length ∧ (c.rels.getD k rel0).subs = [])
 iN i := (AeT c.rels i.toNat).length
 iF i := fI (AeT c.rels i.toNat)
theorem sCo {c : SCfg} (h : OkC c) {ck : Int} (hck : CX Tryz.prog 13 [aCfg c] [] (vI ck) []) : OrcS Tryz.prog (oCo (ZCo c ck)) := by
 refine .cons (.t' (enc := eU c) (c := fun _ => true) (r := fun _ => vI ck) fun _ _ => hck) (.cons (.de ?_ ?_ (.de ?_ ?_ .no)) (.cons (.de ?_ ?_ (.de ?_ ?_ .no)) .nil))
 ·intro a ha he
  obtain ⟨k, n, f, d, e, rfl, hk, hP⟩ := AeD.1 ha
  exact (csB h hk hP d e).1 (List.isEmpty_iff.1 he)
 ·intro a ha he
  obtain ⟨k, n, f, d, e, rfl, hk, hP⟩ := AeD.1 ha
  exact (csB h hk hP d e).2 (List.isEmpty_eq_false_iff.1 he)
 ·intro a ha he
  obtain ⟨k, n, f, d, e, rfl, hk, h0, hP⟩ := AeD.1 ha
  exact (csA h hk h0 hP d e).1 (List.isEmpty_iff.1 he)
 ·intro a ha he
  obtain ⟨k, n, f, d, e, rfl, hk, h0, hP⟩ := AeD.1 ha
  exact (csA h hk h0 hP d e).2 (List.isEmpty_eq_false_iff.1 he)
 ·intro a ha _
  obtain ⟨k, n, f, d, e, rfl, hk⟩ := AeD.1 ha
  exact ciB h hk n f d e
 ·intro a _ he
  cases he
 ·intro a ha _
  obtain ⟨k, n, f, d, e, rfl, hk, h0⟩ := AeD.1 ha
  exact ciA h hk h0 n f d e
 ·intro a _ he
  cases he
def dv0 (rels : List SRel) (j : Nat) : Dev := ⟨outS (rels.getD j rel0), nums (offs rels j) (rels.getD j rel0).pubs.length, []⟩
def dv1 (rels : List SRel) (k j : Nat) : Dev := ⟨outS (rels.getD j rel0), nums (offs rels j) (rels.getD j rel0).pubs.length, if j < k then AeT rels j else []⟩
theorem cap_ok {d : Nat} (h : d ≤ 9000) : cap72 d = true := by
 unfold cap72
 rw [decide_eq_true (by omega), decide_eq_true (by omega)]; rfl
theorem dev_app {rels : List SRel} {d k : Nat} {e : Nat → List D} (hR : RLe devC dev0 d e ((List.range k).map (dv0 rels))) {s : Nat} {t : Nat → List D} (hs : DE (.sl 1 s t) (nsD (nums (offs rels k) (rels.getD k rel0).pubs.length))) :
  RLe devC dev0 (d + 1) (appF d e (Aat [Aaa (outS (rels.getD k rel0)), .sl 1 s t, nilS] 3)) ((List.range (k + 1)).map (dv0 rels)) := by
 rw [List.range_succ, List.map_append]
 exact hR.app rfl (.cons (.refl _) (.cons hs (.cons (.nil _ _) .nil)))
theorem ns_de (l : List Int) {n : Nat} (h : n = l.length) : DE (.sl 1 n (fN l)) (nsD l) := by
 subst h
 exact .refl _
section
variable {c : SCfg} (h : OkC c) (ck : Int) (g : Nat)
include h
theorem nx' {k : Nat} (hk : k < c.rels.length) : IntKind.wrap IntKind.i64 ((k : Int) + 1) = ((k + 1 : Nat) : Int) := nx hk (by have := h.len; omega)
omit h in
theorem sd_em {k : Nat} (hk : k < c.rels.length) (he : (c.rels.getD k rel0).pubs = []) : psAt c.rels (k + 1) = psAt c.rels k := by
 rw [Aff c.rels hk]
 unfold AaU
 rw [he]
 simp
omit h in
theorem ns_ps {k : Nat} (hk : k < c.rels.length) : DE (.sl 1 (c.rels.getD k rel0).pubs.length (fN (nums (psAt c.rels k).length (c.rels.getD k rel0).pubs.length))) (nsD (nums (offs c.rels k) (c.rels.getD k rel0).pubs.length)) := by
 rw [psAt_len c.rels k (by omega)]
 exact ns_de _ (nums_len _ _).symm
theorem lp6B : ∀ (m k n : Nat) (f e : Nat → List D), k ≤ c.rels.length → c.rels.length - k < m → RL pblC pbl0 n f (psAt c.rels k) → RLe devC dev0 k e ((List.range k).map (dv0 c.rels)) →
  ∃ n' f' e', RL pblC pbl0 n' f' (pbls 0 c.rels) ∧ RLe devC dev0 c.rels.length e' ((List.range c.rels.length).map (dv0 c.rels)) ∧ Lcmp_6b (ZCo c ck) c g m (AaZ (psAt c.rels k)) n f k e k = Aex (ZCo c ck) c g g (AaZ (pbls 0 c.rels)) n' f' c.rels.length e' 0
 | 0, k, n, f, e, _, hm, _, _ => by omega
 | m + 1, k, n, f, e, hk, hm, hP, hD => by
  rw [stB6]
  by_cases hlt : k < c.rels.length
  ·have k1 : (ZCo c ck).okB (xB c k (AaZ (psAt c.rels k)) n f k e) = true := AeD.2 ⟨k, n, f, k, e, rfl, hlt, hP⟩
   have hln := h.len
   rw [lt1 hlt, k1, cap_ok (by omega), Nat.beq_refl, nx' h hlt, cond_true, cond_true, cond_true, cond_true, cond_true, cond_true]
   have k2 : (ZCo c ck).emB k = (c.rels.getD k rel0).pubs.isEmpty := rfl
   rw [k2]
   cases he : (c.rels.getD k rel0).pubs.isEmpty with
   | true =>
    have he' := List.isEmpty_iff.1 he
    have hs := sd_em hlt he'
    obtain ⟨n', f', e', r1, r2, r3⟩ := lp6B m (k + 1) n f _ (by omega) (by omega) (by rw [hs]; exact hP) (dev_app hD (s := 0) (t := fun _ => []) (by rw [he']; exact .sls fun i hi => by omega))
    rw [hs] at r3
    exact ⟨n', f', e', r1, r2, r3⟩
   | false =>
    exact lp6B m (k + 1) _ _ _ (by omega) (by omega) (RL.data (psAt c.rels (k + 1))) (dev_app hD (ns_ps hlt))
  ·obtain rfl : k = c.rels.length := by omega
   rw [lt0 (Nat.lt_irrefl _), cond_false]
   rw [psAt_all] at hP ⊢
   exact ⟨n, f, e, hP, hD, rfl⟩
theorem lp6A : ∀ (m k n : Nat) (f e : Nat → List D), k ≤ c.rels.length → c.rels.length - k < m → psAt c.rels k = [] → RL pblC pbl0 n f [] → RLe devC dev0 k e ((List.range k).map (dv0 c.rels)) → c.rels.length < g →
  (∃ n' f' e', RL pblC pbl0 n' f' (pbls 0 c.rels) ∧ RLe devC dev0 c.rels.length e' ((List.range c.rels.length).map (dv0 c.rels)) ∧ Lcmp_6 (ZCo c ck) c g m n f k e k = Aex (ZCo c ck) c g g (AaZ (pbls 0 c.rels)) n' f' c.rels.length e' 0) ∨
  (∃ e', pbls 0 c.rels = [] ∧ RLe devC dev0 c.rels.length e' ((List.range c.rels.length).map (dv0 c.rels)) ∧ Lcmp_6 (ZCo c ck) c g m n f k e k = Lcmp_11 (ZCo c ck) c g g n f c.rels.length e' 0)
 | 0, k, n, f, e, _, hm, _, _, _, _ => by omega
 | m + 1, k, n, f, e, hk, hm, h0, hP, hD, hg => by
  rw [stA6]
  by_cases hlt : k < c.rels.length
  ·have k1 : (ZCo c ck).okA (xA c k n f k e) = true := AeD.2 ⟨k, n, f, k, e, rfl, hlt, h0, hP⟩
   have hln := h.len
   rw [lt1 hlt, k1, cap_ok (by omega), Nat.beq_refl, nx' h hlt, cond_true, cond_true, cond_true, cond_true, cond_true, cond_true]
   have k2 : (ZCo c ck).emB k = (c.rels.getD k rel0).pubs.isEmpty := rfl
   rw [k2]
   cases he : (c.rels.getD k rel0).pubs.isEmpty with
   | true =>
    have he' := List.isEmpty_iff.1 he
    have hs := sd_em hlt he'
    exact lp6A m (k + 1) n f _ (by omega) (by omega) (by rw [hs]; exact h0) hP (dev_app hD (s := 0) (t := fun _ => []) (by rw [he']; exact .sls fun i hi => by omega)) hg
   | false =>
    exact .inl (lp6B h ck g m (k + 1) _ _ _ (by omega) (by omega) (RL.data (psAt c.rels (k + 1))) (dev_app hD (ns_ps hlt)))
  ·obtain rfl : k = c.rels.length := by omega
   rw [lt0 (Nat.lt_irrefl _), cond_false]
   rw [psAt_all] at h0
   exact .inr ⟨e, h0, hD, rfl⟩
omit h in
theorem fill {rels : List SRel} {e : Nat → List D} {k : Nat} (hk : k < rels.length) (hD : RLe devC dev0 rels.length e ((List.range rels.length).map (dv1 rels k))) {n : Nat} {f : Nat → List D} (hn : DE (.sl 2 n f) (insD (AeT rels k))) :
  RLe devC dev0 rels.length (fun j => bif Nat.beq j k then splice (e j) 2 [.sl 2 n f] else e j) ((List.range rels.length).map (dv1 rels (k + 1))) := by
 refine ⟨by simp, fun j hj => ?_⟩
 have e0 := hD.le j hj
 have g1 : ∀ q, ((List.range rels.length).map (dv1 rels q)).getD j dev0 = dv1 rels q j := fun q => by simp [List.getD, hj]
 rw [g1] at e0 ⊢
 by_cases hjk : j = k
 ·subst hjk
  rw [Nat.beq_refl, cond_true]
  have hl := e0.1
  match hx : e j, hl with
  | [a, b, q], _ =>
   rw [hx] at e0
   have d0 := e0.2 0 _ _ rfl rfl
   have d1 := e0.2 1 _ _ rfl rfl
   have e3 : (dv1 rels (j + 1) j).ins = AeT rels j := by unfold dv1; simp
   show DEs [a, b, .sl 2 n f] [Aaa (dv1 rels (j + 1) j).outs, nsD (dv1 rels (j + 1) j).sends, insD (dv1 rels (j + 1) j).ins]
   rw [e3]
   exact .cons d0 (.cons d1 (.cons hn .nil))
 ·have hb : Nat.beq j k = false := by rw [beqD, decide_eq_false hjk]
  rw [hb, cond_false]
  have e3 : dv1 rels (k + 1) j = dv1 rels k j := by
   unfold dv1
   congr 1
   by_cases hj' : j < k
   ·rw [if_pos hj', if_pos (by omega)]
   ·rw [if_neg hj', if_neg (by omega)]
  rw [e3]
  exact e0
theorem lp11B (n : Nat) (f : Nat → List D) : ∀ (m k : Nat) (e : Nat → List D), k ≤ c.rels.length → c.rels.length - k < m → RLe devC dev0 c.rels.length e ((List.range c.rels.length).map (dv1 c.rels k)) →
  ∃ e', RLe devC dev0 c.rels.length e' ((List.range c.rels.length).map (dv1 c.rels c.rels.length)) ∧ Aex (ZCo c ck) c g m (AaZ (pbls 0 c.rels)) n f c.rels.length e k = lfC n f c.rels.length e'
 | 0, k, e, _, hm, _ => by omega
 | m + 1, k, e, hk, hm, hD => by
  rw [stB11]
  by_cases hlt : k < c.rels.length
  ·have k1 : (ZCo c ck).okI (xB c k (AaZ (pbls 0 c.rels)) n f c.rels.length e) = true := AeD.2 ⟨k, n, f, _, e, rfl, hlt⟩
   rw [lt1 hlt, k1, ge0, Nat.beq_refl, nx' h hlt, tt, cond_true, cond_true, cond_true, cond_true]
   exact lp11B n f m (k + 1) _ (by omega) (by omega) (fill hlt hD (.refl _))
  ·obtain rfl : k = c.rels.length := by omega
   rw [lt0 (Nat.lt_irrefl _), cond_false]
   exact ⟨e, hD, rfl⟩
theorem no_subs (h0 : pbls 0 c.rels = []) {k : Nat} (hk : k < c.rels.length) : (c.rels.getD k rel0).subs = [] := by
 cases hs : (c.rels.getD k rel0).subs with
 | nil => rfl
 | cons x t =>
  obtain ⟨n, d, it, o, I⟩ := in_ok h.sig h.uq hk (x := x) (by rw [hs]; simp)
  have := I.hn
  rw [h0] at this
  simp at this
theorem lp11A (h0 : pbls 0 c.rels = []) (n : Nat) (f : Nat → List D) : ∀ (m k : Nat) (e : Nat → List D), k ≤ c.rels.length → c.rels.length - k < m → RLe devC dev0 c.rels.length e ((List.range c.rels.length).map (dv1 c.rels k)) →
  ∃ e', RLe devC dev0 c.rels.length e' ((List.range c.rels.length).map (dv1 c.rels c.rels.length)) ∧ Lcmp_11 (ZCo c ck) c g m n f c.rels.length e k = lfC n f c.rels.length e'
 | 0, k, e, _, hm, _ => by omega
 | m + 1, k, e, hk, hm, hD => by
  rw [stA11]
  by_cases hlt : k < c.rels.length
  ·have hs := no_subs h h0 hlt
   have k1 : (ZCo c ck).okJ (xA c k n f c.rels.length e) = true := AeD.2 ⟨k, n, f, _, e, rfl, hlt, hs⟩
   rw [lt1 hlt, k1, ge0, Nat.beq_refl, nx' h hlt, tt, cond_true, cond_true, cond_true, cond_true]
   have hi : AeT c.rels k = [] := by unfold AeT; rw [hs]; rfl
   exact lp11A h0 n f m (k + 1) _ (by omega) (by omega) (fill hlt hD (by rw [hi]; exact .sls fun i hi => by omega))
  ·obtain rfl : k = c.rels.length := by omega
   rw [lt0 (Nat.lt_irrefl _), cond_false]
   exact ⟨e, hD, rfl⟩
omit h in
theorem devs_eq : (List.range c.rels.length).map (dv1 c.rels c.rels.length) = devs c.rels (pbls 0 c.rels) 0 0 c.rels := by
 refine Ahf (d := dev0) (by rw [List.length_map, List.length_range, Afv]) fun j hj => ?_
 rw [List.length_map, List.length_range] at hj
 rw [Ahw _ _ _ _ _ _ hj, Nat.zero_add, Nat.zero_add]
 have : ((List.range c.rels.length).map (dv1 c.rels c.rels.length)).getD j dev0 = dv1 c.rels c.rels.length j := by simp [List.getD, hj]
 rw [this]
 unfold dv1 devOf AeT
 rw [if_pos hj]
 rfl
end
theorem ofDs {a b : List D} (h : DEs a b) : Csle (a.map .d) (b.map .d) := ale_of_des h
abbrev aTs (ps : List Pbl) (ds : List Dev) (e : Int) : AV := .tup [(true, [.d (pblsD ps), .d (devsD ds)]), (false, [.d (dI e)])]
theorem ts_le {a b : D} {ps : List Pbl} {ds : List Dev} (e : Int) (h1 : DE a (pblsD ps)) (h2 : DE b (devsD ds)) : Ale (.tup [(true, [.d a, .d b]), (false, [.d (dI e)])]) (aTs ps ds e) := by
 refine ⟨rfl, fun j p q k1 k2 => ?_⟩
 match j with
 | 0 => simp at k1 k2; subst k1 k2; exact ⟨rfl, ofDs (a := [a, b]) (b := [pblsD ps, devsD ds]) (.cons h1 (.cons h2 .nil))⟩
 | 1 => simp at k1 k2; subst k1 k2; exact ⟨rfl, .cons (.refl _) .nil⟩
 | j + 2 => simp at k1
theorem cCmp {c : SCfg} (h : OkC c) (hck : CX Tryz.prog 13 [aCfg c] [] (vI 0) []) : CX Tryz.prog 9 [aCfg c] [] (aTs (pbls 0 c.rels) (devs c.rels (pbls 0 c.rels) 0 0 c.rels) 0) [] := by
 obtain ⟨g, hg⟩ : ∃ g, 2000 < g := ⟨2001, by omega⟩
 have hln := h.len
 have ev := evcmp (ZCo c 0) c g
 have k1 : (ZCo c 0).okc [AV.agg (List.map C.d (cfgC c))] = true := Aam (eU_inj c) (c := fun _ => true) () rfl
 have k2 : (ZCo c 0).chk [AV.agg (List.map C.d (cfgC c))] = 0 := rfl
 rw [k1, k2, show ((0 : Int) != 0) = false from rfl, cond_true, cond_false] at ev
 have fin : ∀ (n : Nat) (f e' : Nat → List D), RL pblC pbl0 n f (pbls 0 c.rels) → RLe devC dev0 c.rels.length e' ((List.range c.rels.length).map (dv1 c.rels c.rels.length)) → Aai Tryz.prog (oCo (ZCo c 0)) anncmp g Tryz.f9 (Aad Tryz.f9) [aCfg c] [] = lfC n f c.rels.length e' →
  CX Tryz.prog 9 [aCfg c] [] (aTs (pbls 0 c.rels) (devs c.rels (pbls 0 c.rels) 0 0 c.rels) 0) [] := fun n f e' hP hD he => by
  have hc := (cr_of (sCo h hck).ok Tryz.func9 bcmp rfl he).data (y := .tup [(true, [.d (.sl 5 n f), .d (.sl 3 c.rels.length e')]), (false, [.d (dI 0)])]) rfl
  rw [devs_eq] at hD
  exact (CX.of_cr Tryz.func9 bcmp hc).le (ts_le 0 hP.de hD.de) (.refl _)
 have e0 : RLe devC dev0 0 (fun _ => []) ((List.range 0).map (dv0 c.rels)) := .nil _
 have d01 : (List.range c.rels.length).map (dv0 c.rels) = (List.range c.rels.length).map (dv1 c.rels 0) := by
  apply List.map_congr_left
  intro j _
  rfl
 rcases lp6A h 0 g g 0 0 (fun _ => []) (fun _ => []) (by omega) (by omega) rfl (.nil _) e0 (by omega) with ⟨n', f', e', r1, r2, r3⟩ | ⟨e', r1, r2, r3⟩
 ·rw [d01] at r2
  obtain ⟨e'', q1, q2⟩ := lp11B h 0 g n' f' g 0 e' (by omega) (by omega) r2
  exact fin n' f' e'' r1 q1 (ev.trans (Eq.trans r3 q2))
 ·rw [d01] at r2
  obtain ⟨e'', q1, q2⟩ := lp11A h 0 g r1 0 (fun _ => []) g 0 e' (by omega) (by omega) r2
  exact fin 0 (fun _ => []) e'' (by rw [r1]; exact .nil _) q1 (ev.trans (Eq.trans r3 q2))
end Go.Proofs.YtbpndheehcbldaaGreatDoor.tb
namespace Go.Proofs.YtbpndheehcbldaaGreatDoor.tb
open Go.RowKit Go.Eb Go.Proofs.YtbpndheehcbldaaGreatDoor.st
set_option maxRecDepth 100000
def vQ (p : Int × Int) : AV := .tup [(false, [.d (dI p.1)]), (false, [.d (dI p.2)])]
structure KTc where
 okS : List AV → Bool
 chk : List AV → Int
 okT : List AV → Bool
 se : List AV → Int × Int
 okg : List AV → Bool
 sg : List AV → Int × Int
noncomputable def oTc (Z : KTc) : Orc := Orc.cons 31 (ansG Z.okS fun x => vI (Z.chk x)) (Orc.cons 32 (ansG Z.okT fun x => vQ (Z.se x)) (Orc.cons 33 (ansG Z.okg fun x => vQ (Z.sg x)) Orc.nil))
noncomputable def oRt (Z : KTc) : Orc := Orc.cons 28 (ansG Z.okS fun x => vI (Z.chk x)) (Orc.cons 29 (ansG Z.okT fun x => vQ (Z.se x)) (Orc.cons 30 (ansG Z.okg fun x => vQ (Z.sg x)) Orc.nil))
theorem evTc (Z : KTc) (c : SCfg) : Aai Tryz.prog (oTc Z) na 5 Tryz.f13 (Aad Tryz.f13) [aCfg c] [] =
 (bif KTc.okS Z [AV.agg (List.map C.d (staC c.sta))] then (bif KTc.chk Z [AV.agg (List.map C.d (staC c.sta))] != 0 then leI (KTc.chk Z [AV.agg (List.map C.d (staC c.sta))]) else
 (bif KTc.okT Z [AV.agg (List.map C.d (staC c.sta)), AV.c (C.d (Aab (53) relC rel0 c.rels))] then (bif Prod.snd (KTc.se Z [AV.agg (List.map C.d (staC c.sta)), AV.c (C.d (Aab (53)
 relC rel0 c.rels))]) != 0 then leI (Prod.snd (KTc.se Z [AV.agg (List.map C.d (staC c.sta)), AV.c (C.d (Aab (53) relC rel0 c.rels))])) else (bif KTc.okg Z [AV.agg (List.map C.d
 (cfgC c))] then leI (Prod.snd (KTc.sg Z [AV.agg (List.map C.d (cfgC c))])) else none)) else none)) else none) := by kernel_rfl
theorem evRt (Z : KTc) (c : SCfg) : Aai Tryz.prog (oRt Z) na 5 Tryz.f12 (Aad Tryz.f12) [aCfg c] [] =
 (bif KTc.okS Z [AV.agg (List.map C.d (staC c.sta))] then (bif KTc.chk Z [AV.agg (List.map C.d (staC c.sta))] != 0 then leI (KTc.chk Z [AV.agg (List.map C.d (staC c.sta))]) else
 (bif KTc.okT Z [AV.agg (List.map C.d (staC c.sta)), AV.c (C.d (Aab (53) relC rel0 c.rels))] then (bif Prod.snd (KTc.se Z [AV.agg (List.map C.d (staC c.sta)), AV.c (C.d (Aab (53)
 relC rel0 c.rels))]) != 0 then leI (Prod.snd (KTc.se Z [AV.agg (List.map C.d (staC c.sta)), AV.c (C.d (Aab (53) relC rel0 c.rels))])) else (bif KTc.okg Z [AV.agg (List.map C.d
 (cfgC c))] then leI (Prod.snd (KTc.sg Z [AV.agg (List.map C.d (cfgC c))])) else none)) else none)) else none) := by kernel_rfl
noncomputable def annlg7 : Ann := AaE [(4, ⟨[1, 3], []⟩), (9, ⟨[1, 4], []⟩)]
noncomputable def Llg7_4 (r : SRel) (g m : Nat) (i3 : Int) := LK Tryz.prog Orc.nil annlg7 0 g Tryz.f44 4 m ⟨frm [(1, .c (.ptr 0 0)), (3, .c (.d (.v (.int .i64 i3))))] 0 Tryz.f44.ntmps, [(0, Blk.cells (List.map C.d (relC r)) 64)], 1⟩
noncomputable def AhM (r : SRel) (g m : Nat) (i4 : Int) := LK Tryz.prog Orc.nil annlg7 0 g Tryz.f44 9 m ⟨frm [(1, .c (.ptr 0 0)), (4, .c (.d (.v (.int .i64 i4))))] 0 Tryz.f44.ntmps, [(0, Blk.cells (List.map C.d (relC r)) 64)], 1⟩
theorem blg7 : Tryz.f44.body = some (Aad Tryz.f44) := by kernel_rfl
theorem evlg7 (r : SRel) (g : Nat) : Aai Tryz.prog Orc.nil annlg7 g Tryz.f44 (Aad Tryz.f44) [aRel r] [] =
 (bif decide ((↑r.rules.length : Int) > 20) then leB true else (bif decide ((↑r.sets.length : Int) > 8) then leB true else (bif decide ((↑r.pubs.length : Int) > 8) then leB true
 else (bif decide ((↑r.subs.length : Int) > 30) then leB true else Llg7_4 r g g 0)))) := by kernel_rfl
theorem stlg7_4 (r : SRel) (g m : Nat) (i3 : Int) : Llg7_4 r g (m + 1) i3 =
 (bif decide (i3 < (↑r.sets.length : Int)) then (bif decide (0 ≤ i3) && decide (i3 < (↑r.sets.length : Int)) then (bif decide ((↑(SSet.sigs (r.sets.getD i3.toNat set0)).length :
 Int) > 30) then leB true else Llg7_4 r g m (IntKind.wrap IntKind.i64 (i3 + 1))) else none) else AhM r g g 0) := by kernel_rfl
theorem stlg7_9 (r : SRel) (g m : Nat) (i4 : Int) : AhM r g (m + 1) i4 =
 (bif decide (i4 < (↑r.rules.length : Int)) then (bif decide (0 ≤ i4) && decide (i4 < (↑r.rules.length : Int)) then (bif decide ((↑(ByteArray.size (SRule.text (r.rules.getD i4.toNat
 AaI))) : Int) > 200) then leB true else AhM r g m (IntKind.wrap IntKind.i64 (i4 + 1))) else none) else leB false) := by kernel_rfl
noncomputable def oLg8 (ok lg : List AV → Bool) : Orc := Orc.cons 44 (ansG ok fun x => vB (lg x)) Orc.nil
noncomputable def annlg8 : Ann := AaE [(4, ⟨[1, 3], []⟩)]
noncomputable def Llg8_4 (ok lg : List AV → Bool) (c : SCfg) (g m : Nat) (i3 : Int) := LK Tryz.prog (oLg8 ok lg) annlg8 0 g Tryz.f20 4 m ⟨frm [(1, .c (.ptr 0 0)), (3, .c (.d (.v (.int .i64 i3))))] 0 Tryz.f20.ntmps, [(0, Blk.cells (List.map C.d (cfgC c)) 30)], 1⟩
theorem blg8 : Tryz.f20.body = some (Aad Tryz.f20) := by kernel_rfl
theorem evlg8 (ok lg : List AV → Bool) (c : SCfg) (g : Nat) : Aai Tryz.prog (oLg8 ok lg) annlg8 g Tryz.f20 (Aad Tryz.f20) [aCfg c] [] =
 (bif decide ((↑c.rels.length : Int) > 20) then leB true else Llg8_4 ok lg c g g 0) := by kernel_rfl
theorem stlg8_4 (ok lg : List AV → Bool) (c : SCfg) (g m : Nat) (i3 : Int) : Llg8_4 ok lg c g (m + 1) i3 =
 (bif decide (i3 < (↑c.rels.length : Int)) then (bif decide (0 ≤ i3) && decide (i3 < (↑c.rels.length : Int)) then (bif ok [AV.agg (List.map C.d (relC (c.rels.getD i3.toNat rel0)))]
 then (bif lg [AV.agg (List.map C.d (relC (c.rels.getD i3.toNat rel0)))] then leB true else Llg8_4 ok lg c g m (IntKind.wrap .i64 (i3 + 1))) else none) else none) else leB false) := by kernel_rfl
noncomputable def oLg9 (ok5 l5 ok8 l8 : List AV → Bool) : Orc := Orc.cons 19 (ansG ok5 fun x => vB (l5 x)) (Orc.cons 20 (ansG ok8 fun x => vB (l8 x)) Orc.nil)
theorem evLg9 (ok5 l5 ok8 l8 : List AV → Bool) (c : SCfg) : Aai Tryz.prog (oLg9 ok5 l5 ok8 l8) na 5 Tryz.f8 (Aad Tryz.f8) [aCfg c] [] =
 (bif ok5 [AV.agg (List.map C.d (staC c.sta))] then (bif l5 [AV.agg (List.map C.d (staC c.sta))] then leB true else (bif ok8 [AV.agg (List.map C.d (cfgC c))] then leB (l8 [AV.agg
 (List.map C.d (cfgC c))]) else none)) else none) := by kernel_rfl
end Go.Proofs.YtbpndheehcbldaaGreatDoor.tb
namespace Go.Proofs.YtbpndheehcbldaaGreatDoor.se
open Go.RowKit Go.Eb
abbrev aRule (x : SRule) : AV := .agg ((AcA x).map .d)
abbrev aSet (x : SSet) : AV := .agg ((setC x).map .d)
abbrev aPub (x : SPub) : AV := .agg ((pubC x).map .d)
abbrev aSub (x : SSub) : AV := .agg ((subC x).map .d)
abbrev dF (f : FuncId) : D := .v (.func (.func f) #[] #[])
abbrev dNF : D := .v .nilFunc
theorem ev115_t (s : ByteArray) : Aai Tryz.prog Orc.nil na 5 Tryz.f195 (Aad Tryz.f195) [vS s] [] =
 (bif s.toList == ByteArray.toList (⟨#[116, 114, 117, 101]⟩) then (bif s.toList == ByteArray.toList (⟨#[116, 114, 117, 101]⟩) then leB true else leB false) else (bif s.toList ==
 ByteArray.toList (⟨#[102, 97, 108, 115, 101]⟩) then (bif s.toList == ByteArray.toList (⟨#[102, 97, 108, 115, 101]⟩) then leB true else leB false) else (bif s.toList ==
 ByteArray.toList (⟨#[110, 111, (116 : UInt8)]⟩) then (bif s.toList == ByteArray.toList (⟨#[110, 111, 116]⟩) then leB true else leB false) else (bif s.toList == ByteArray.toList
 (⟨#[97, 110, 100]⟩) then (bif s.toList == ByteArray.toList (⟨#[97, 110, 100]⟩) then leB true else leB false) else (bif s.toList == ByteArray.toList (⟨#[111, 114]⟩) then (bif
 s.toList == ByteArray.toList (⟨#[111, 114]⟩) then leB true else leB false) else (bif s.toList == ByteArray.toList (⟨#[120, 111, 114]⟩) then (bif s.toList == ByteArray.toList
 (⟨#[120, 111, 114]⟩) then leB true else leB false) else (bif s.toList == ByteArray.toList (⟨#[109, 105, 110]⟩) then (bif s.toList == ByteArray.toList (⟨#[109, 105, 110]⟩) then leB
 true else leB false) else (bif s.toList == ByteArray.toList (⟨#[109, 97, 120]⟩) then (bif s.toList == ByteArray.toList (⟨#[109, 97, (120 : UInt8)]⟩) then leB true else leB false)
 else (bif s.toList == ByteArray.toList (⟨#[97, 98, 115]⟩) then (bif s.toList == ByteArray.toList (⟨#[97, 98, 115]⟩) then leB true else leB false) else (bif s.toList ==
 ByteArray.toList (⟨#[(105 : UInt8), 102]⟩) then (bif s.toList == ByteArray.toList (⟨#[105, 102]⟩) then leB true else leB false) else (bif s.toList == ByteArray.toList (⟨#[114, 105,
 115, (101 : UInt8)]⟩) then (bif s.toList == ByteArray.toList (⟨#[114, 105, 115, 101]⟩) then leB true else leB false) else (bif s.toList == ByteArray.toList (⟨#[102, 97, (108 :
 UInt8), 108]⟩) then (bif s.toList == ByteArray.toList (⟨#[102, 97, 108, 108]⟩) then leB true else leB false) else (bif s.toList == ByteArray.toList (⟨#[100, (101 : UInt8), 108, 97,
 121]⟩) then (bif s.toList == ByteArray.toList (⟨#[100, 101, 108, 97, (121 : UInt8)]⟩) then leB true else leB false) else (bif s.toList == ByteArray.toList (⟨#[104, 111, 108, 100]⟩)
 then (bif s.toList == ByteArray.toList (⟨#[104, 111, (108 : UInt8), 100]⟩) then leB true else leB false) else (bif s.toList == ByteArray.toList (⟨#[108, 97, 116, 99, 104]⟩) then
 (bif s.toList == ByteArray.toList (⟨#[(108 : UInt8), 97, 116, 99, 104]⟩) then leB true else leB false) else (bif s.toList == ByteArray.toList (⟨#[99, 111, 117, 110, 116]⟩) then leB
 true else leB false)))))))))))))))) := by kernel_rfl
noncomputable def AbJ (s : ByteArray) : Bool :=
 (bif ByteArray.toList s == ByteArray.toList (ByteArray.mk #[(116 : UInt8), (114 : UInt8), (117 : UInt8), (101 : UInt8)]) then (bif ByteArray.toList s == ByteArray.toList
 (ByteArray.mk #[(116 : UInt8), (114 : UInt8), (117 : UInt8), (101 : UInt8)]) then (true) else (false)) else (bif ByteArray.toList s == ByteArray.toList (ByteArray.mk #[(102 :
 UInt8), (97 : UInt8), (108 : UInt8), (115 : UInt8), (101 : UInt8)]) then (bif ByteArray.toList s == ByteArray.toList (ByteArray.mk #[(102 : UInt8), (97 : UInt8), (108 : UInt8), (115
 : UInt8), (101 : UInt8)]) then (true) else (false)) else (bif ByteArray.toList s == ByteArray.toList (ByteArray.mk #[(110 : UInt8), (111 : UInt8), (116 : UInt8)]) then (bif
 ByteArray.toList s == ByteArray.toList (ByteArray.mk #[(110 : UInt8), (111 : UInt8), (116 : UInt8)]) then (true) else (false)) else (bif ByteArray.toList s == ByteArray.toList
 (ByteArray.mk #[(97 : UInt8), (110 : UInt8), (100 : UInt8)]) then (bif ByteArray.toList s == ByteArray.toList (ByteArray.mk #[(97 : UInt8), (110 : UInt8), (100 : UInt8)]) then
 (true) else (false)) else (bif ByteArray.toList s == ByteArray.toList (ByteArray.mk #[(111 : UInt8), (114 : UInt8)]) then (bif ByteArray.toList s == ByteArray.toList (ByteArray.mk
 #[(111 : UInt8), (114 : UInt8)]) then (true) else (false)) else (bif ByteArray.toList s == ByteArray.toList (ByteArray.mk #[(120 : UInt8), (111 : UInt8), (114 : UInt8)]) then (bif
 ByteArray.toList s == ByteArray.toList (ByteArray.mk #[(120 : UInt8), (111 : UInt8), (114 : UInt8)]) then (true) else (false)) else (bif ByteArray.toList s == ByteArray.toList
 (ByteArray.mk #[(109 : UInt8), (105 : UInt8), (110 : UInt8)]) then (bif ByteArray.toList s == ByteArray.toList (ByteArray.mk #[(109 : UInt8), (105 : UInt8), (110 : UInt8)]) then
 (true) else (false)) else (bif ByteArray.toList s == ByteArray.toList (ByteArray.mk #[(109 : UInt8), (97 : UInt8), (120 : UInt8)]) then (bif ByteArray.toList s == ByteArray.toList
 (ByteArray.mk #[(109 : UInt8), (97 : UInt8), (120 : UInt8)]) then (true) else (false)) else (bif ByteArray.toList s == ByteArray.toList (ByteArray.mk #[(97 : UInt8), (98 : UInt8),
 (115 : UInt8)]) then (bif ByteArray.toList s == ByteArray.toList (ByteArray.mk #[(97 : UInt8), (98 : UInt8), (115 : UInt8)]) then (true) else (false)) else (bif ByteArray.toList s
 == ByteArray.toList (ByteArray.mk #[(105 : UInt8), (102 : UInt8)]) then (bif ByteArray.toList s == ByteArray.toList (ByteArray.mk #[(105 : UInt8), (102 : UInt8)]) then (true) else
 (false)) else (bif ByteArray.toList s == ByteArray.toList (ByteArray.mk #[(114 : UInt8), (105 : UInt8), (115 : UInt8), (101 : UInt8)]) then (bif ByteArray.toList s ==
 ByteArray.toList (ByteArray.mk #[(114 : UInt8), (105 : UInt8), (115 : UInt8), (101 : UInt8)]) then (true) else (false)) else (bif ByteArray.toList s == ByteArray.toList
 (ByteArray.mk #[(102 : UInt8), (97 : UInt8), (108 : UInt8), (108 : UInt8)]) then (bif ByteArray.toList s == ByteArray.toList (ByteArray.mk #[(102 : UInt8), (97 : UInt8), (108 :
 UInt8), (108 : UInt8)]) then (true) else (false)) else (bif ByteArray.toList s == ByteArray.toList (ByteArray.mk #[(100 : UInt8), (101 : UInt8), (108 : UInt8), (97 : UInt8), (121 :
 UInt8)]) then (bif ByteArray.toList s == ByteArray.toList (ByteArray.mk #[(100 : UInt8), (101 : UInt8), (108 : UInt8), (97 : UInt8), (121 : UInt8)]) then (true) else (false)) else
 (bif ByteArray.toList s == ByteArray.toList (ByteArray.mk #[(104 : UInt8), (111 : UInt8), (108 : UInt8), (100 : UInt8)]) then (bif ByteArray.toList s == ByteArray.toList
 (ByteArray.mk #[(104 : UInt8), (111 : UInt8), (108 : UInt8), (100 : UInt8)]) then (true) else (false)) else (bif ByteArray.toList s == ByteArray.toList (ByteArray.mk #[(108 :
 UInt8), (97 : UInt8), (116 : UInt8), (99 : UInt8), (104 : UInt8)]) then (bif ByteArray.toList s == ByteArray.toList (ByteArray.mk #[(108 : UInt8), (97 : UInt8), (116 : UInt8), (99 :
 UInt8), (104 : UInt8)]) then (true) else (false)) else (bif ByteArray.toList s == ByteArray.toList (ByteArray.mk #[(99 : UInt8), (111 : UInt8), (117 : UInt8), (110 : UInt8), (116 :
 UInt8)]) then (true) else (false)))))))))))))))))
theorem ev115 (s : ByteArray) : Aai Tryz.prog Orc.nil na 5 Tryz.f195 (Aad Tryz.f195) [vS s] [] = some (.leaf (vB (AbJ s), [])) := by
 rw [ev115_t]
 unfold AbJ
 simp only [Aeh]
noncomputable def ann117 : Ann := AaE [(4, ⟨[1, 11, 12], []⟩)]
noncomputable def L117_4 (x : SRule) (g m : Nat) (i12 : Int) := LK Tryz.prog Orc.nil ann117 0 g Tryz.f197 4 m ⟨frm [(1, .c (.ptr 0 0)), (11, .c (.d (.v (.int .i64 (↑(ByteArray.size (SRule.text x)) : Int))))), (12, .c (.d (.v (.int .i64 i12))))] 0 Tryz.f197.ntmps, [(0, Blk.cells (List.map C.d (AcA x)) 136)], 1⟩
theorem b117 : Tryz.f197.body = some (Aad Tryz.f197) := by kernel_rfl
theorem ev117 (x : SRule) (g : Nat) : Aai Tryz.prog Orc.nil ann117 g Tryz.f197 (Aad Tryz.f197) [aRule x] [] =
 (bif decide ((↑(ByteArray.size x.text) : Int) > 120) then leI 4 else L117_4 x g g 0) := by kernel_rfl
theorem st117_4 (x : SRule) (g m : Nat) (i12 : Int) : L117_4 x g (m + 1) i12 =
 (bif decide (i12 < (↑(ByteArray.size x.text) : Int)) then (bif decide (0 ≤ i12) && decide (i12 < (↑(ByteArray.size x.text) : Int)) then (bif decide ((↑(UInt8.toNat ((Array.toList
 (ByteArray.data x.text)).getD i12.toNat 0)) : Int) < 32) then leI 5 else (bif decide ((↑(UInt8.toNat ((Array.toList (ByteArray.data x.text)).getD i12.toNat 0)) : Int) > 126) then
 leI 5 else (bif (↑(UInt8.toNat ((Array.toList (ByteArray.data x.text)).getD i12.toNat 0)) : Int) == 34 then leI 5 else L117_4 x g m (IntKind.wrap .i64 (i12 + 1))))) else none) else
 leI 0) := by kernel_rfl
theorem ev123_t (x : SPub) : Aai Tryz.prog (Orc.cons 189 (inl Tryz.prog Orc.nil na 1 Tryz.f189) Orc.nil) na 5 Tryz.f203 (Aad Tryz.f203) [aPub x] [] =
 (bif decide (x.fst ≥ 1) then (bif !decide (x.fst ≤ 100) then leI 2 else (bif decide (x.max ≥ x.fst) then (bif !decide (x.max ≤ 1000) then leI 2 else leI 0) else leI 2)) else leI 2) := by kernel_rfl
noncomputable def Acp (x : SPub) : Int :=
 (bif decide (SPub.fst x ≥ (1 : Int)) then (bif !decide (SPub.fst x ≤ (100 : Int)) then ((2 : Int)) else (bif decide (SPub.max x ≥ SPub.fst x) then (bif !decide (SPub.max x ≤ (1000 :
 Int)) then ((2 : Int)) else ((0 : Int))) else ((2 : Int)))) else ((2 : Int)))
theorem ev123 (x : SPub) : Aai Tryz.prog (Orc.cons 189 (inl Tryz.prog Orc.nil na 1 Tryz.f189) Orc.nil) na 5 Tryz.f203 (Aad Tryz.f203) [aPub x] [] = some (.leaf (vI (Acp x), [])) := by
 rw [ev123_t]
 unfold Acp
 simp only [iLeaf]
noncomputable def oN (nk : ByteArray → Bool) (r : Orc) : Orc := Orc.cons 65 (ansP decS fun s => vB (nk s)) r
noncomputable def o147 (nk : ByteArray → Bool) : Orc := Orc.cons 228 (inl Tryz.prog (oN nk Orc.nil) na 1 Tryz.f228) Orc.nil
noncomputable def ann147 : Ann := AaE [(2, ⟨[0, 1, 7, 8], []⟩)]
noncomputable def L147_2 (nk : ByteArray → Bool) (l : List ByteArray) (g m : Nat) (i8 : Int) := LK Tryz.prog (o147 nk) ann147 0 g Tryz.f242 2 m ⟨frm [(0, .c (.d (Aab 1 busC e0 l))), (1, .c (.d (D.v (Value.func (Fn.func (228 : FuncId)) #[] #[])))), (7, .c (.d (.v (.int .i64 (↑(List.length l) : Int))))), (8, .c (.d (.v (.int .i64 i8))))] 0 Tryz.f242.ntmps, [], 0⟩
theorem b147 : Tryz.f242.body = some (Aad Tryz.f242) := by kernel_rfl
theorem ev147 (nk : ByteArray → Bool) (l : List ByteArray) (g : Nat) : Aai Tryz.prog (o147 nk) ann147 g Tryz.f242 (Aad Tryz.f242) [.c (.d (Aaa l)), .c (.d (dF 228))] [] =
 L147_2 nk l g g 0 := by kernel_rfl
theorem st147_2 (nk : ByteArray → Bool) (l : List ByteArray) (g m : Nat) (i8 : Int) : L147_2 nk l g (m + 1) i8 =
 (bif decide (i8 < (↑l.length : Int)) then (bif decide (0 ≤ i8) && decide (i8 < (↑l.length : Int)) then (bif !nk (l.getD i8.toNat e0) then leI i8 else L147_2 nk l g m (IntKind.wrap
 .i64 (i8 + 1))) else none) else leI (-1)) := by kernel_rfl
noncomputable def o119 (oki : List AV → Bool) (ix : List AV → Int) : Orc := Orc.cons 242 (ansG oki fun x => vI (ix x)) Orc.nil
noncomputable def o142 (oki : List AV → Bool) (ix : List AV → Int) : Orc := Orc.cons 227 (inl Tryz.prog (o119 oki ix) na 1 Tryz.f227) Orc.nil
noncomputable def ann119 : Ann := AaE []
theorem b119 : Tryz.f199.body = some (Aad Tryz.f199) := by kernel_rfl
theorem ev119 (oki : List AV → Bool) (ix : List AV → Int) (l : List ByteArray) (g : Nat) : Aai Tryz.prog (o142 oki ix) ann119 g Tryz.f199 (Aad Tryz.f199) [.c (.d (Aaa l))] [] =
 (bif oki [AV.c (C.d (Aab (1) busC e0 l)), AV.c (C.d (D.v (Value.func (Fn.func 228) #[] #[])))] then leB !decide (ix [AV.c (C.d (Aab (1) busC e0 l)), AV.c (C.d (D.v (Value.func
 (Fn.func 228) #[] #[])))] ≥ 0) else none) := by kernel_rfl
noncomputable def o114 (nk rs : ByteArray → Bool) : Orc := oN nk (Orc.cons 195 (ansP decS fun s => vB (rs s)) Orc.nil)
theorem ev114_t (nk rs : ByteArray → Bool) (x : SRule) : Aai Tryz.prog (o114 nk rs) na 5 Tryz.f194 (Aad Tryz.f194) [aRule x] [] =
 (bif nk x.name then leB !rs x.name else leB false) := by kernel_rfl
noncomputable def ev114_v (nk rs : ByteArray → Bool) (x : SRule) : Bool :=
 (bif nk (SRule.name x) then (!rs (SRule.name x)) else (false))
theorem ev114 (nk rs : ByteArray → Bool) (x : SRule) : Aai Tryz.prog (o114 nk rs) na 5 Tryz.f194 (Aad Tryz.f194) [aRule x] [] = some (.leaf (vB (ev114_v nk rs x), [])) := by
 rw [ev114_t]
 unfold ev114_v
 simp only [Aeh]
noncomputable def o118 (nk : ByteArray → Bool) (okn nm : List AV → Bool) : Orc := oN nk (Orc.cons 199 (ansG okn fun x => vB (nm x)) Orc.nil)
noncomputable def ann118 : Ann := AaE []
theorem b118 : Tryz.f198.body = some (Aad Tryz.f198) := by kernel_rfl
theorem ev118 (nk : ByteArray → Bool) (okn nm : List AV → Bool) (x : SSet) (g : Nat) : Aai Tryz.prog (o118 nk okn nm) ann118 g Tryz.f198 (Aad Tryz.f198) [aSet x] [] =
 (bif nk x.name then (bif okn [AV.c (C.d (Aab (1) busC e0 x.sigs))] then leB (nm [AV.c (C.d (Aab (1) busC e0 x.sigs))]) else none) else leB false) := by kernel_rfl
theorem ev121_t (nk : ByteArray → Bool) (x : SPub) : Aai Tryz.prog (oN nk Orc.nil) na 5 Tryz.f201 (Aad Tryz.f201) [aPub x] [] =
 leB (nk x.set) := by kernel_rfl
noncomputable def ev121_v (nk : ByteArray → Bool) (x : SPub) : Bool :=
 ((nk (SPub.set x)))
theorem ev121 (nk : ByteArray → Bool) (x : SPub) : Aai Tryz.prog (oN nk Orc.nil) na 5 Tryz.f201 (Aad Tryz.f201) [aPub x] [] = some (.leaf (vB (ev121_v nk x), [])) := by
 rw [ev121_t]
 unfold ev121_v
 simp only [Aeh]
noncomputable def o124 (nk : ByteArray → Bool) : Orc := Orc.cons 199 (inl Tryz.prog (Orc.cons 227 (inl Tryz.prog (Orc.cons 242 (inl Tryz.prog (o147 nk) na 6 Tryz.f242) Orc.nil) na 1 Tryz.f227) Orc.nil) na 1 Tryz.f199) Orc.nil
noncomputable def ann124 : Ann := AaE []
theorem b124 : Tryz.f204.body = some (Aad Tryz.f204) := by kernel_rfl
theorem ev124 (nk : ByteArray → Bool) (x : SSub) (g : Nat) : Aai Tryz.prog (o124 nk) ann124 g Tryz.f204 (Aad Tryz.f204) [aSub x] [] =
 (bif !nk x.loc then leB false else (bif !nk x.dev then leB false else (bif !nk x.set then leB false else (bif !nk x.sig then leB false else leB true)))) := by kernel_rfl
noncomputable def o126 (okv va okt : List AV → Bool) (rt : List AV → Int) : Orc := Orc.cons 194 (ansG okv fun x => vB (va x)) (Orc.cons 196 (inl Tryz.prog Orc.nil na 1 Tryz.f196) (Orc.cons 197 (ansG okt fun x => vI (rt x)) Orc.nil))
noncomputable def ann126 : Ann := AaE [(3, ⟨[2, 5, 10, 11, 12], []⟩)]
noncomputable def L126_3 (okv va okt : List AV → Bool) (rt : List AV → Int) (l : List SRule) (g m : Nat) (l1 : List (Value × Value)) (i12 : Int) := LK Tryz.prog (o126 okv va okt rt) ann126 0 g Tryz.f206 3 m ⟨frm [(2, .c (.ptr 0 0)), (5, .c (.mp 1)), (10, .c (.d (Aab 2 AcA AaI l))), (11, .c (.d (.v (.int .i64 (↑(List.length l) : Int))))), (12, .c (.d (.v (.int .i64 i12))))] 0 Tryz.f206.ntmps, [(0, Blk.cells [C.d (D.v (Value.func (Fn.func (194 : FuncId)) #[] #[])), C.d (D.v (Value.func (Fn.func (196 : FuncId)) #[] #[])), C.d (D.v (Value.func (Fn.func (197 : FuncId)) #[] #[]))] 264), (1, Blk.map 0 l1)], 2⟩
theorem b126 : Tryz.f206.body = some (Aad Tryz.f206) := by kernel_rfl
theorem ev126 (okv va okt : List AV → Bool) (rt : List AV → Int) (l : List SRule) (g : Nat) : Aai Tryz.prog (o126 okv va okt rt) ann126 g Tryz.f206 (Aad Tryz.f206) [.agg [.d (dF 194), .d (dF 196), .d (dF 197)], .c (.d (AgR l))] [] =
 L126_3 okv va okt rt l g g ([]) 0 := by kernel_rfl
theorem st126_3 (okv va okt : List AV → Bool) (rt : List AV → Int) (l : List SRule) (g m : Nat) (l1 : List (Value × Value)) (i12 : Int) : L126_3 okv va okt rt l g (m + 1) l1 i12 =
 (bif decide (i12 < (↑l.length : Int)) then (bif decide (0 ≤ i12) && decide (i12 < (↑l.length : Int)) then (bif okv [AV.agg (List.map C.d (AcA (l.getD i12.toNat AaI)))] then (bif
 !va [AV.agg (List.map C.d (AcA (l.getD i12.toNat AaI)))] then leI 7 else (bif Abf (Aaz l1 (Value.string (SRule.name (l.getD i12.toNat AaI)))) then leI 8 else (bif okt [AV.agg
 (List.map C.d (AcA (l.getD i12.toNat AaI)))] then (bif rt [AV.agg (List.map C.d (AcA (l.getD i12.toNat AaI)))] != 0 then leI (rt [AV.agg (List.map C.d (AcA (l.getD i12.toNat
 AaI)))]) else L126_3 okv va okt rt l g m ((Value.string (SRule.name (l.getD i12.toNat AaI)), Value.bool true) :: l1) (IntKind.wrap .i64 (i12 + 1))) else none))) else none) else
 none) else leI 0) := by kernel_rfl
noncomputable def o127 (okv va : List AV → Bool) : Orc := Orc.cons 198 (ansG okv fun x => vB (va x)) (Orc.cons 200 (inl Tryz.prog Orc.nil na 1 Tryz.f200) Orc.nil)
noncomputable def ann127 : Ann := AaE [(3, ⟨[2, 5, 10, 11, 12], []⟩)]
noncomputable def L127_3 (okv va : List AV → Bool) (l : List SSet) (g m : Nat) (l1 : List (Value × Value)) (i12 : Int) := LK Tryz.prog (o127 okv va) ann127 0 g Tryz.f207 3 m ⟨frm [(2, .c (.ptr 0 0)), (5, .c (.mp 1)), (10, .c (.d (Aab 2 setC set0 l))), (11, .c (.d (.v (.int .i64 (↑(List.length l) : Int))))), (12, .c (.d (.v (.int .i64 i12))))] 0 Tryz.f207.ntmps, [(0, Blk.cells [C.d (D.v (Value.func (Fn.func (198 : FuncId)) #[] #[])), C.d (D.v (Value.func (Fn.func (200 : FuncId)) #[] #[])), C.d (D.v Value.nilFunc)] 269), (1, Blk.map 0 l1)], 2⟩
theorem b127 : Tryz.f207.body = some (Aad Tryz.f207) := by kernel_rfl
theorem ev127 (okv va : List AV → Bool) (l : List SSet) (g : Nat) : Aai Tryz.prog (o127 okv va) ann127 g Tryz.f207 (Aad Tryz.f207) [.agg [.d (dF 198), .d (dF 200), .d dNF], .c (.d (AfH l))] [] =
 L127_3 okv va l g g ([]) 0 := by kernel_rfl
theorem st127_3 (okv va : List AV → Bool) (l : List SSet) (g m : Nat) (l1 : List (Value × Value)) (i12 : Int) : L127_3 okv va l g (m + 1) l1 i12 =
 (bif decide (i12 < (↑l.length : Int)) then (bif decide (0 ≤ i12) && decide (i12 < (↑l.length : Int)) then (bif okv [AV.agg (List.map C.d (setC (l.getD i12.toNat set0)))] then (bif
 !va [AV.agg (List.map C.d (setC (l.getD i12.toNat set0)))] then leI 7 else (bif Abf (Aaz l1 (Value.string (SSet.name (l.getD i12.toNat set0)))) then leI 8 else L127_3 okv va l g m
 ((Value.string (SSet.name (l.getD i12.toNat set0)), Value.bool true) :: l1) (IntKind.wrap .i64 (i12 + 1)))) else none) else none) else leI 0) := by kernel_rfl
noncomputable def o128 (okv va okt : List AV → Bool) (rt : List AV → Int) : Orc := Orc.cons 201 (ansG okv fun x => vB (va x)) (Orc.cons 202 (inl Tryz.prog Orc.nil na 1 Tryz.f202) (Orc.cons 203 (ansG okt fun x => vI (rt x)) Orc.nil))
noncomputable def ann128 : Ann := AaE [(3, ⟨[2, 5, 10, 11, 12], []⟩)]
noncomputable def L128_3 (okv va okt : List AV → Bool) (rt : List AV → Int) (l : List SPub) (g m : Nat) (l1 : List (Value × Value)) (i12 : Int) := LK Tryz.prog (o128 okv va okt rt) ann128 0 g Tryz.f208 3 m ⟨frm [(2, .c (.ptr 0 0)), (5, .c (.mp 1)), (10, .c (.d (Aab 3 pubC pub0 l))), (11, .c (.d (.v (.int .i64 (↑(List.length l) : Int))))), (12, .c (.d (.v (.int .i64 i12))))] 0 Tryz.f208.ntmps, [(0, Blk.cells [C.d (D.v (Value.func (Fn.func (201 : FuncId)) #[] #[])), C.d (D.v (Value.func (Fn.func (202 : FuncId)) #[] #[])), C.d (D.v (Value.func (Fn.func (203 : FuncId)) #[] #[]))] 273), (1, Blk.map 0 l1)], 2⟩
theorem b128 : Tryz.f208.body = some (Aad Tryz.f208) := by kernel_rfl
theorem ev128 (okv va okt : List AV → Bool) (rt : List AV → Int) (l : List SPub) (g : Nat) : Aai Tryz.prog (o128 okv va okt rt) ann128 g Tryz.f208 (Aad Tryz.f208) [.agg [.d (dF 201), .d (dF 202), .d (dF 203)], .c (.d (pubsD l))] [] =
 L128_3 okv va okt rt l g g ([]) 0 := by kernel_rfl
theorem st128_3 (okv va okt : List AV → Bool) (rt : List AV → Int) (l : List SPub) (g m : Nat) (l1 : List (Value × Value)) (i12 : Int) : L128_3 okv va okt rt l g (m + 1) l1 i12 =
 (bif decide (i12 < (↑l.length : Int)) then (bif decide (0 ≤ i12) && decide (i12 < (↑l.length : Int)) then (bif okv [AV.agg (List.map C.d (pubC (l.getD i12.toNat pub0)))] then (bif
 !va [AV.agg (List.map C.d (pubC (l.getD i12.toNat pub0)))] then leI 7 else (bif Abf (Aaz l1 (Value.string (SPub.set (l.getD i12.toNat pub0)))) then leI 8 else (bif okt [AV.agg
 (List.map C.d (pubC (l.getD i12.toNat pub0)))] then (bif rt [AV.agg (List.map C.d (pubC (l.getD i12.toNat pub0)))] != 0 then leI (rt [AV.agg (List.map C.d (pubC (l.getD i12.toNat
 pub0)))]) else L128_3 okv va okt rt l g m ((Value.string (SPub.set (l.getD i12.toNat pub0)), Value.bool true) :: l1) (IntKind.wrap .i64 (i12 + 1))) else none))) else none) else
 none) else leI 0) := by kernel_rfl
noncomputable def o129 (okv va : List AV → Bool) : Orc := Orc.cons 204 (ansG okv fun x => vB (va x)) (Orc.cons 205 (inl Tryz.prog Orc.nil na 1 Tryz.f205) Orc.nil)
noncomputable def ann129 : Ann := AaE [(3, ⟨[2, 5, 10, 11, 12], []⟩)]
noncomputable def L129_3 (okv va : List AV → Bool) (l : List SSub) (g m : Nat) (l1 : List (Value × Value)) (i12 : Int) := LK Tryz.prog (o129 okv va) ann129 0 g Tryz.f209 3 m ⟨frm [(2, .c (.ptr 0 0)), (5, .c (.mp 1)), (10, .c (.d (Aab 4 subC sub0 l))), (11, .c (.d (.v (.int .i64 (↑(List.length l) : Int))))), (12, .c (.d (.v (.int .i64 i12))))] 0 Tryz.f209.ntmps, [(0, Blk.cells [C.d (D.v (Value.func (Fn.func (204 : FuncId)) #[] #[])), C.d (D.v (Value.func (Fn.func (205 : FuncId)) #[] #[])), C.d (D.v Value.nilFunc)] 278), (1, Blk.map 0 l1)], 2⟩
theorem b129 : Tryz.f209.body = some (Aad Tryz.f209) := by kernel_rfl
theorem ev129 (okv va : List AV → Bool) (l : List SSub) (g : Nat) : Aai Tryz.prog (o129 okv va) ann129 g Tryz.f209 (Aad Tryz.f209) [.agg [.d (dF 204), .d (dF 205), .d dNF], .c (.d (subsD l))] [] =
 L129_3 okv va l g g ([]) 0 := by kernel_rfl
theorem st129_3 (okv va : List AV → Bool) (l : List SSub) (g m : Nat) (l1 : List (Value × Value)) (i12 : Int) : L129_3 okv va l g (m + 1) l1 i12 =
 (bif decide (i12 < (↑l.length : Int)) then (bif decide (0 ≤ i12) && decide (i12 < (↑l.length : Int)) then (bif okv [AV.agg (List.map C.d (subC (l.getD i12.toNat sub0)))] then (bif
 !va [AV.agg (List.map C.d (subC (l.getD i12.toNat sub0)))] then leI 7 else (bif Abf (Aaz l1 (Value.string (SSub.loc (l.getD i12.toNat sub0)))) then leI 8 else L129_3 okv va l g m
 ((Value.string (SSub.loc (l.getD i12.toNat sub0)), Value.bool true) :: l1) (IntKind.wrap .i64 (i12 + 1)))) else none) else none) else leI 0) := by kernel_rfl
noncomputable def o85 (ok1 ok2 ok3 ok4 : List AV → Bool) (f1 f2 f3 f4 : List AV → Int) : Orc := Orc.cons 206 (ansG ok1 fun x => vI (f1 x)) (Orc.cons 207 (ansG ok2 fun x => vI (f2 x)) (Orc.cons 208 (ansG ok3 fun x => vI (f3 x)) (Orc.cons 209 (ansG ok4 fun x => vI (f4 x)) Orc.nil)))
noncomputable def ann85 : Ann := AaE []
theorem b85 : Tryz.f140.body = some (Aad Tryz.f140) := by kernel_rfl
theorem ev85 (ok1 ok2 ok3 ok4 : List AV → Bool) (f1 f2 f3 f4 : List AV → Int) (r : SRel) (g : Nat) : Aai Tryz.prog (o85 ok1 ok2 ok3 ok4 f1 f2 f3 f4) ann85 g Tryz.f140 (Aad Tryz.f140) [aRel r] [] =
 (bif ok1 [AV.agg [C.d (D.v (Value.func (Fn.func 194) #[] #[])), C.d (D.v (Value.func (Fn.func 196) #[] #[])), C.d (D.v (Value.func (Fn.func 197) #[] #[]))], AV.c (C.d (Aab (2) AcA
 AaI r.rules))] then (bif f1 [AV.agg [C.d (D.v (Value.func (Fn.func 194) #[] #[])), C.d (D.v (Value.func (Fn.func 196) #[] #[])), C.d (D.v (Value.func (Fn.func 197) #[] #[]))], AV.c
 (C.d (Aab (2) AcA AaI r.rules))] != 0 then leI (f1 [AV.agg [C.d (D.v (Value.func (Fn.func 194) #[] #[])), C.d (D.v (Value.func (Fn.func 196) #[] #[])), C.d (D.v (Value.func
 (Fn.func 197) #[] #[]))], AV.c (C.d (Aab (2) AcA AaI r.rules))]) else (bif ok2 [AV.agg [C.d (D.v (Value.func (Fn.func 198) #[] #[])), C.d (D.v (Value.func (Fn.func 200) #[] #[])),
 C.d (D.v Value.nilFunc)], AV.c (C.d (Aab (2) setC set0 r.sets))] then (bif f2 [AV.agg [C.d (D.v (Value.func (Fn.func 198) #[] #[])), C.d (D.v (Value.func (Fn.func 200) #[] #[])),
 C.d (D.v Value.nilFunc)], AV.c (C.d (Aab (2) setC set0 r.sets))] != 0 then leI (f2 [AV.agg [C.d (D.v (Value.func (Fn.func 198) #[] #[])), C.d (D.v (Value.func (Fn.func 200) #[]
 #[])), C.d (D.v Value.nilFunc)], AV.c (C.d (Aab (2) setC set0 r.sets))]) else (bif ok3 [AV.agg [C.d (D.v (Value.func (Fn.func 201) #[] #[])), C.d (D.v (Value.func (Fn.func 202) #[]
 #[])), C.d (D.v (Value.func (Fn.func 203) #[] #[]))], AV.c (C.d (Aab (3) pubC pub0 r.pubs))] then (bif f3 [AV.agg [C.d (D.v (Value.func (Fn.func 201) #[] #[])), C.d (D.v
 (Value.func (Fn.func 202) #[] #[])), C.d (D.v (Value.func (Fn.func 203) #[] #[]))], AV.c (C.d (Aab ((3 : Nat)) pubC pub0 r.pubs))] != 0 then leI (f3 [AV.agg [C.d (D.v (Value.func
 (Fn.func 201) #[] #[])), C.d (D.v (Value.func (Fn.func 202) #[] #[])), C.d (D.v (Value.func (Fn.func 203) #[] #[]))], AV.c (C.d (Aab (3) pubC pub0 r.pubs))]) else (bif ok4 [AV.agg
 [C.d (D.v (Value.func (Fn.func 204) #[] #[])), C.d (D.v (Value.func (Fn.func 205) #[] #[])), C.d (D.v Value.nilFunc)], AV.c (C.d (Aab (4) subC sub0 r.subs))] then leI (f4 [AV.agg
 [C.d (D.v (Value.func (Fn.func 204) #[] #[])), C.d (D.v (Value.func (Fn.func (205 : Nat)) #[] #[])), C.d (D.v Value.nilFunc)], AV.c (C.d (Aab (4) subC sub0 r.subs))]) else none))
 else none)) else none)) else none) := by kernel_rfl
noncomputable def o113 : Orc := Orc.cons 192 (inl Tryz.prog (Orc.cons 189 (inl Tryz.prog Orc.nil na 1 Tryz.f189) Orc.nil) na 1 Tryz.f192) Orc.nil
noncomputable def ann141 : Ann := AaE [(2, ⟨[0, 1, 7, 8], []⟩)]
noncomputable def L141_2 (l : List SSet) (g m : Nat) (i8 : Int) := LK Tryz.prog o113 ann141 0 g Tryz.f46 2 m ⟨frm [(0, .c (.d (Aab 2 setC set0 l))), (1, .c (.d (D.v (Value.func (Fn.func (192 : FuncId)) #[] #[])))), (7, .c (.d (.v (.int .i64 (↑(List.length l) : Int))))), (8, .c (.d (.v (.int .i64 i8))))] 0 Tryz.f46.ntmps, [], 0⟩
theorem b141 : Tryz.f46.body = some (Aad Tryz.f46) := by kernel_rfl
theorem ev141 (l : List SSet) (g : Nat) : Aai Tryz.prog o113 ann141 g Tryz.f46 (Aad Tryz.f46) [.c (.d (AfH l)), .c (.d (dF 192))] [] =
 L141_2 l g g 0 := by kernel_rfl
theorem st141_2 (l : List SSet) (g m : Nat) (i8 : Int) : L141_2 l g (m + 1) i8 =
 (bif decide (i8 < (↑l.length : Int)) then (bif decide (0 ≤ i8) && decide (i8 < (↑l.length : Int)) then (bif decide ((↑(SSet.sigs (l.getD i8.toNat set0)).length : Int) ≥ 1) then
 (bif !decide ((↑(SSet.sigs (l.getD i8.toNat set0)).length : Int) ≤ 24) then leI i8 else L141_2 l g m (IntKind.wrap .i64 (i8 + 1))) else leI i8) else none) else leI (-1)) := by kernel_rfl
noncomputable def o84 (oki : List AV → Bool) (ix : List AV → Int) : Orc := Orc.cons 193 (inl Tryz.prog (Orc.cons 46 (ansG oki fun x => vI (ix x)) Orc.nil) na 1 Tryz.f193) Orc.nil
noncomputable def ann84 : Ann := AaE []
theorem b84 : Tryz.f139.body = some (Aad Tryz.f139) := by kernel_rfl
theorem ev84 (oki : List AV → Bool) (ix : List AV → Int) (r : SRel) (g : Nat) : Aai Tryz.prog (o84 oki ix) ann84 g Tryz.f139 (Aad Tryz.f139) [aRel r] [] =
 (bif decide ((↑r.rules.length : Int) ≤ 16) then (bif decide ((↑r.sets.length : Int) ≤ 4) then (bif decide ((↑r.pubs.length : Int) ≤ 4) then (bif decide ((↑r.subs.length : Int) ≤
 24) then (bif oki [AV.c (C.d (Aab (2) setC set0 r.sets)), AV.c (C.d (D.v (Value.func (Fn.func 192) #[] #[])))] then leB !decide (ix [AV.c (C.d (Aab (2) setC set0 r.sets)), AV.c
 (C.d (D.v (Value.func (Fn.func 192) #[] #[])))] ≥ 0) else none) else leB false) else leB false) else leB false) else leB false) := by kernel_rfl
end Go.Proofs.YtbpndheehcbldaaGreatDoor.se
namespace Go.Proofs.YtbpndheehcbldaaGreatDoor.se
open Go.RowKit Go.Eb Go.Proofs.YtbpndheehcbldaaGreatDoor.st
theorem sN {r : Orc} (h : OrcS Tryz.prog r) : OrcS Tryz.prog (oN Aae r) := .cons (.p AcU c15) h
theorem sW : OrcS Tryz.prog (Orc.cons 189 (inl Tryz.prog Orc.nil na 1 Tryz.f189) Orc.nil) := .cons (.inl .nil Tryz.func189 (by kernel_rfl)) .nil
def eFn (f : FuncId) : Unit → AV := fun _ => .c (.d (dF f))
theorem eFn_inj (f : FuncId) : InjA (eFn f) := fun _ _ _ => rfl
abbrev eBus := aD Aaa
theorem eBus_inj : InjA eBus := aD_inj (Aax (sz := 1) (d0 := e0) Abu)
theorem aRule_inj : InjA aRule := Agt Afc
theorem aSet_inj : InjA aSet := Agt Aem
theorem aPub_inj : InjA aPub := Agt Afe
theorem aSub_inj : InjA aSub := Agt Adm
theorem c115 (s : ByteArray) : CX Tryz.prog 195 [vS s] [] (vB (AbJ s)) [] := Aau (Orc.nil_ok _) Tryz.func195 (by kernel_rfl) rfl (ev115 s)
theorem c123 (x : SPub) : CX Tryz.prog 203 [aPub x] [] (vI (Acp x)) [] := Aau sW.ok Tryz.func203 (by kernel_rfl) rfl (ev123 x)
theorem lp117 (x : SRule) (g : Nat) (hs : x.text.size ≤ 120) : ∀ (m k : Nat), k ≤ x.text.size → x.text.size - k < m → L117_4 x g m k = lN (bif (x.text.data.toList.drop k).any AfY then 5 else 0)
 | 0, k, _, h => by omega
 | m + 1, k, hk, h => by
  rw [st117_4]
  by_cases hlt : k < x.text.size
  ·have hl : k < x.text.data.toList.length := by simpa using hlt
   have ih := lp117 x g hs m (k + 1) (by omega) (by omega)
   rw [Aar (d := 0) hl]
   rw [lt1 hlt, ge0, tn, nx hlt (by omega), ih]
   simp only [tt, cond_true, List.any_cons, AfY]
   generalize decide (((x.text.data.toList.getD k 0).toNat : Int) < 32) = a1
   generalize decide (((x.text.data.toList.getD k 0).toNat : Int) > 126) = a2
   generalize (((x.text.data.toList.getD k 0).toNat : Int) == 34) = a3
   cases a1 <;> cases a2 <;> cases a3 <;> rfl
  ·rw [lt0 hlt, List.drop_of_length_le (by simp; omega)]
   rfl
theorem c117 (x : SRule) : CX Tryz.prog 197 [aRule x] [] (vI (AcR x.text)) [] := by
 obtain ⟨g, hg⟩ : ∃ g, x.text.size < g := ⟨x.text.size + 1, by omega⟩
 refine Aau (Orc.nil_ok _) Tryz.func197 b117 rfl ((ev117 x g).trans ?_)
 have e : decide ((x.text.size : Int) > 120) = decide (120 < x.text.size) := by
  rw [Bool.eq_iff_iff, decide_eq_true_eq, decide_eq_true_eq]; omega
 unfold AcR
 rw [e]
 cases h1 : decide (120 < x.text.size) with
 | true => rfl
 | false =>
  have hs : x.text.size ≤ 120 := by simp at h1; omega
  have := lp117 x g hs g 0 (by omega) (by omega)
  simp only [cond_false]
  exact this
theorem s147 : OrcS Tryz.prog (o147 Aae) := .cons (.inl (sN .nil) Tryz.func228 (by kernel_rfl)) .nil
theorem c147 (l : List ByteArray) (hl : l.length ≤ 9223372036854775807) : CX Tryz.prog 242 [.c (.d (Aaa l)), .c (.d (dF 228))] [] (vI (idxP (fun s => !Aae s) 0 l)) [] := by
 obtain ⟨g, hg⟩ : ∃ g, l.length < g := ⟨l.length + 1, by omega⟩
 refine Aau s147.ok Tryz.func242 b147 rfl ((ev147 Aae l g).trans ?_)
 have := Afr (p := fun s => !Aae s) (l := l) (d0 := e0) (L := fun m i => L147_2 Aae l g m i) (fun m k hk => by
  rw [st147_2, lt1 hk, ge0, tn, nx hk hl]
  simp only [tt, cond_true]) (fun m => by rw [st147_2, lt0 (Nat.lt_irrefl _)]; rfl) g 0 (by omega) (by omega)
 exact this
abbrev eNm := en2 eBus (eFn 228)
theorem eNm_inj : InjT eNm := Ahr eBus_inj (eFn_inj _)
def cLen {α β : Type} (a : List α × β) : Bool := Aaq a.1
theorem s142 : OrcS Tryz.prog (o142 (okG eNm cLen) fun x => idxP (fun s => !Aae s) 0 (theT eNm x).1) :=
 .cons (.inl (.cons (.t' (r := fun (a : List ByteArray × Unit) => vI (idxP (fun s => !Aae s) 0 a.1)) fun a h => c147 a.1 (AaF h)) .nil) Tryz.func227 (by kernel_rfl)) .nil
theorem anyAll (l : List ByteArray) : (!l.any fun s => !Aae s) = l.all Aae := by
 induction l with
 | nil => rfl
 | cons x r ih => simp only [List.any_cons, List.all_cons, Bool.not_or, ih, Bool.not_not]
theorem c119 (l : List ByteArray) (hl : Aaq l = true) : CX Tryz.prog 199 [.c (.d (Aaa l))] [] (vB (l.all Aae)) [] := by
 refine Aau s142.ok Tryz.func199 b119 rfl ((ev119 _ _ l 1).trans ?_)
 have k := Aam eNm_inj (c := cLen) (l, ()) hl
 have t := Aah eNm_inj (l, ())
 simp only [en2, aD, eFn] at k t
 rw [k, t, Ahk, anyAll]
 rfl
noncomputable def AeC (x : SRule) : Bool := Aae x.name && !AbJ x.name
def setOk (x : SSet) : Bool := Aae x.name && x.sigs.all Aae
def pubOk (x : SPub) : Bool := Aae x.set
def subOk (x : SSub) : Bool := Aae x.loc && (Aae x.dev && (Aae x.set && Aae x.sig))
theorem c114 (x : SRule) : CX Tryz.prog 194 [aRule x] [] (vB (AeC x)) [] := by
 refine Aau (sN (.cons (.p AcU c115) .nil)).ok Tryz.func194 (by kernel_rfl) rfl ((ev114 Aae AbJ x).trans ?_)
 unfold ev114_v AeC
 cases Aae x.name <;> rfl
abbrev eB1 := en1 eBus
theorem eB1_inj : InjT eB1 := AcI eBus_inj
theorem c118 (x : SSet) (hx : Afg x = true) : CX Tryz.prog 198 [aSet x] [] (vB (setOk x)) [] := by
 refine Aau (sN (.cons (.t' (enc := eB1) (c := Aaq) (r := fun a => vB (a.all Aae)) fun a h => c119 a h) .nil)).ok Tryz.func198 b118 rfl ((ev118 Aae (okG eB1 Aaq) (fun y => (theT eB1 y).all Aae) x 1).trans ?_)
 have k := Aam eB1_inj (c := Aaq) x.sigs hx
 have t := Aah eB1_inj x.sigs
 simp only [en1, aD] at k t
 rw [k, t]
 unfold setOk
 cases Aae x.name <;> rfl
theorem c121 (x : SPub) : CX Tryz.prog 201 [aPub x] [] (vB (pubOk x)) [] := Aau (sN .nil).ok Tryz.func201 (by kernel_rfl) rfl (ev121 Aae x)
theorem s124 : OrcS Tryz.prog (o124 Aae) := .cons (.inl (.cons (.inl (.cons (.inl s147 Tryz.func242 (by kernel_rfl)) .nil) Tryz.func227 (by kernel_rfl)) .nil) Tryz.func199 (by kernel_rfl)) .nil
theorem c124 (x : SSub) : CX Tryz.prog 204 [aSub x] [] (vB (subOk x)) [] := by
 refine Aau s124.ok Tryz.func204 b124 rfl ((ev124 Aae x 1).trans ?_)
 unfold subOk
 cases Aae x.loc <;> cases Aae x.dev <;> cases Aae x.set <;> cases Aae x.sig <;> rfl
def c1 {α : Type} (_ : α) : Bool := true
abbrev eRu := en1 aRule
abbrev eSe := en1 aSet
abbrev ePu := en1 aPub
abbrev eSu := en1 aSub
theorem eRu_inj : InjT eRu := AcI aRule_inj
theorem eSe_inj : InjT eSe := AcI aSet_inj
theorem ePu_inj : InjT ePu := AcI aPub_inj
theorem eSu_inj : InjT eSu := AcI aSub_inj
theorem assocN (seen : List ByteArray) (s : ByteArray) : Abf (Aaz (Aak seen) (.string s)) = inB seen s := Aby seen s
theorem s126 : OrcS Tryz.prog (o126 (okG eRu c1) (fun x => AeC (theT eRu x)) (okG eRu c1) fun x => AcR (theT eRu x).text) :=
 .cons (.t' (r := fun a => vB (AeC a)) fun a _ => c114 a) (.cons (.inl .nil Tryz.func196 (by kernel_rfl)) (.cons (.t' (r := fun (a : SRule) => vI (AcR a.text)) fun a _ => c117 a) .nil))
theorem c126 (l : List SRule) (hl : Aaq l = true) : CX Tryz.prog 206 [.agg [.d (dF 194), .d (dF 196), .d (dF 197)], .c (.d (AgR l))] [] (vI (AbI AeC SRule.name (fun x => AcR x.text) [] l)) [] := by
 obtain ⟨g, hg⟩ : ∃ g, l.length < g := ⟨l.length + 1, by omega⟩
 refine Aau s126.ok Tryz.func206 b126 rfl ((ev126 _ _ _ _ l g).trans ?_)
 have := AdN (valid := AeC) (key := SRule.name) (rest := fun x => AcR x.text) (l := l) (d0 := AaI) (L := fun m mp i => L126_3 (okG eRu c1) (fun x => AeC (theT eRu x)) (okG eRu c1) (fun x => AcR (theT eRu x).text) l g m mp i) (fun m k seen hk => by
  have k1 := Aam eRu_inj (c := c1) (l.getD k AaI) rfl
  have t1 := Aah eRu_inj (l.getD k AaI)
  simp only [en1] at k1 t1
  rw [st126_3, lt1 hk, ge0, tn, nx hk (AaF hl), k1, t1, assocN, Abh]
  simp only [tt, cond_true]) (fun m mp => by rw [st126_3, lt0 (Nat.lt_irrefl _)]; rfl) g 0 [] (by omega) (by omega)
 exact this
theorem s127 : OrcS Tryz.prog (o127 (okG eSe Afg) fun x => setOk (theT eSe x)) := .cons (.t' (r := fun a => vB (setOk a)) fun a h => c118 a h) (.cons (.inl .nil Tryz.func200 (by kernel_rfl)) .nil)
def rest0 {α : Type} (_ : α) : Int := 0
theorem c127 (l : List SSet) (hl : Aaq l = true) (ha : l.all Afg = true) : CX Tryz.prog 207 [.agg [.d (dF 198), .d (dF 200), .d dNF], .c (.d (AfH l))] [] (vI (AbI setOk SSet.name rest0 [] l)) [] := by
 obtain ⟨g, hg⟩ : ∃ g, l.length < g := ⟨l.length + 1, by omega⟩
 refine Aau s127.ok Tryz.func207 b127 rfl ((ev127 _ _ l g).trans ?_)
 have := AdN (valid := setOk) (key := SSet.name) (rest := rest0) (l := l) (d0 := set0) (L := fun m mp i => L127_3 (okG eSe Afg) (fun x => setOk (theT eSe x)) l g m mp i) (fun m k seen hk => by
  have k1 := Aam eSe_inj (c := Afg) (l.getD k set0) (Acu ha rfl k)
  have t1 := Aah eSe_inj (l.getD k set0)
  simp only [en1] at k1 t1
  rw [st127_3, lt1 hk, ge0, tn, nx hk (AaF hl), k1, t1, assocN, Abh]
  simp only [tt, cond_true]
  rfl) (fun m mp => by rw [st127_3, lt0 (Nat.lt_irrefl _)]; rfl) g 0 [] (by omega) (by omega)
 exact this
theorem s128 : OrcS Tryz.prog (o128 (okG ePu c1) (fun x => pubOk (theT ePu x)) (okG ePu c1) fun x => Acp (theT ePu x)) :=
 .cons (.t' (r := fun a => vB (pubOk a)) fun a _ => c121 a) (.cons (.inl .nil Tryz.func202 (by kernel_rfl)) (.cons (.t' (r := fun (a : SPub) => vI (Acp a)) fun a _ => c123 a) .nil))
theorem c128 (l : List SPub) (hl : Aaq l = true) : CX Tryz.prog 208 [.agg [.d (dF 201), .d (dF 202), .d (dF 203)], .c (.d (pubsD l))] [] (vI (AbI pubOk SPub.set Acp [] l)) [] := by
 obtain ⟨g, hg⟩ : ∃ g, l.length < g := ⟨l.length + 1, by omega⟩
 refine Aau s128.ok Tryz.func208 b128 rfl ((ev128 _ _ _ _ l g).trans ?_)
 have := AdN (valid := pubOk) (key := SPub.set) (rest := Acp) (l := l) (d0 := pub0) (L := fun m mp i => L128_3 (okG ePu c1) (fun x => pubOk (theT ePu x)) (okG ePu c1) (fun x => Acp (theT ePu x)) l g m mp i) (fun m k seen hk => by
  have k1 := Aam ePu_inj (c := c1) (l.getD k pub0) rfl
  have t1 := Aah ePu_inj (l.getD k pub0)
  simp only [en1] at k1 t1
  rw [st128_3, lt1 hk, ge0, tn, nx hk (AaF hl), k1, t1, assocN, Abh]
  simp only [tt, cond_true]) (fun m mp => by rw [st128_3, lt0 (Nat.lt_irrefl _)]; rfl) g 0 [] (by omega) (by omega)
 exact this
theorem s129 : OrcS Tryz.prog (o129 (okG eSu c1) fun x => subOk (theT eSu x)) := .cons (.t' (r := fun a => vB (subOk a)) fun a _ => c124 a) (.cons (.inl .nil Tryz.func205 (by kernel_rfl)) .nil)
theorem c129 (l : List SSub) (hl : Aaq l = true) : CX Tryz.prog 209 [.agg [.d (dF 204), .d (dF 205), .d dNF], .c (.d (subsD l))] [] (vI (AbI subOk SSub.loc rest0 [] l)) [] := by
 obtain ⟨g, hg⟩ : ∃ g, l.length < g := ⟨l.length + 1, by omega⟩
 refine Aau s129.ok Tryz.func209 b129 rfl ((ev129 _ _ l g).trans ?_)
 have := AdN (valid := subOk) (key := SSub.loc) (rest := rest0) (l := l) (d0 := sub0) (L := fun m mp i => L129_3 (okG eSu c1) (fun x => subOk (theT eSu x)) l g m mp i) (fun m k seen hk => by
  have k1 := Aam eSu_inj (c := c1) (l.getD k sub0) rfl
  have t1 := Aah eSu_inj (l.getD k sub0)
  simp only [en1] at k1 t1
  rw [st129_3, lt1 hk, ge0, tn, nx hk (AaF hl), k1, t1, assocN, Abh]
  simp only [tt, cond_true]
  rfl) (fun m mp => by rw [st129_3, lt0 (Nat.lt_irrefl _)]; rfl) g 0 [] (by omega) (by omega)
 exact this
end Go.Proofs.YtbpndheehcbldaaGreatDoor.se
namespace Go.Eb
open Go.RowKit
def dec3 : List AV → Option (Int × Int × Int)
 | [.c (.d (.v (.int .i64 a))), .c (.d (.v (.int .i64 b))), .c (.d (.v (.int .i64 c)))] => some (a, b, c)
 | _ => none
theorem dec3_ok (args : List AV) (a : Int × Int × Int) (h : dec3 args = some a) : args = [vI a.1, vI a.2.1, vI a.2.2] := by
 unfold dec3 at h
 split at h
 ·cases h; rfl
 ·simp at h
def decE : List AV → Option (Bool × Int × Int × Int)
 | [.agg [.d (.v (.bool o)), .d (.v (.int .i64 a)), .d (.v (.int .i64 b))], .c (.d (.v (.int .i64 c)))] => some (o, a, b, c)
 | _ => none
theorem decE_ok (args : List AV) (a : Bool × Int × Int × Int) (h : decE args = some a) : args = [.agg [.d (dB a.1), .d (dI a.2.1), .d (dI a.2.2.1)], vI a.2.2.2] := by
 unfold decE at h
 split at h
 ·cases h; rfl
 ·simp at h
def elOk (on : Bool) (pk dl least : Int) : Bool := bif on then Aac pk 1 16383 && Aac dl least 500 else (pk == 0) && (dl == 0)
end Go.Eb
