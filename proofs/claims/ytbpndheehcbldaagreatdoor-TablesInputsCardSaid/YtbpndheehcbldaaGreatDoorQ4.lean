/-
  An evaluator of Go code on abstract values, proved sound, and what it computes of the functions that the statement reaches (part 4). No condition.
-/
import Derived.Test.YtbpndheehcbldaaGreatDoorQ3
import Derived.Shelf.Strconv.Itoa3
import Derived.Ground.NamesProg
import Derived.Test.YtbpndheehcbldaaGreatDoorProg
import Derived.KernelRfl
import Derived.Shelf.Slices.Clone
import Derived.Ground.Names2Prog
set_option maxRecDepth 100000
namespace Go.Proofs.YtbpndheehcbldaaGreatDoor.tb
open Go.RowKit Go.Eb Go.Proofs.YtbpndheehcbldaaGreatDoor.st
set_option maxRecDepth 100000
noncomputable def annisn : Ann := AaE [(2, ⟨[0, 1, 7, 8], []⟩)]
noncomputable def Lisn_2 (l : List SSet) (p : SPub) (g m : Nat) (i8 : Int) := LK Tryz.prog (Orc.cons 47 (inl Tryz.prog Orc.nil na 1 Tryz.f47) Orc.nil) annisn (List.length (α := Nat × Blk) (HP p)) g Tryz.f46 2 m ⟨frm [(0, .c (.d (Aab 2 setC set0 l))), (1, .c (.fn 47 [] [Rf.ptr 0 0])), (7, .c (.d (.v (.int .i64 (↑(List.length l) : Int))))), (8, .c (.d (.v (.int .i64 i8))))] 0 Tryz.f46.ntmps, [(0, Blk.cells (List.map C.d (pubC p)) 122)], 1⟩
theorem bisn : Tryz.f46.body = some (Aad Tryz.f46) := by kernel_rfl
theorem evisn (l : List SSet) (p : SPub) (g : Nat) : Aai Tryz.prog (Orc.cons 47 (inl Tryz.prog Orc.nil na 1 Tryz.f47) Orc.nil) annisn g Tryz.f46 (Aad Tryz.f46) [.c (.d (AfH l)), .c (.fn 47 [] [.ptr 0 0])] (HP p) =
 Lisn_2 l p g g 0 := by kernel_rfl
theorem stisn_2 (l : List SSet) (p : SPub) (g m : Nat) (i8 : Int) : Lisn_2 l p g (m + 1) i8 =
 (bif decide (i8 < (↑l.length : Int)) then (bif decide (0 ≤ i8) && decide (i8 < (↑l.length : Int)) then (bif (SSet.name (l.getD i8.toNat set0)).toList == p.set.toList then some
 (T.leaf (AV.c (.d (.v (.int .i64 i8))), [(0, Blk.cells (List.map C.d (pubC p)) (122))])) else Lisn_2 l p g m (IntKind.wrap .i64 (i8 + 1))) else none) else some (T.leaf (AV.c (.d
 (.v (.int .i64 (-1)))), [(0, Blk.cells (List.map C.d (pubC p)) (122))]))) := by kernel_rfl
noncomputable def annirx : Ann := AaE [(2, ⟨[0, 1, 7, 8], []⟩)]
noncomputable def Lirx_2 (l : List SRel) (x : SSub) (g m : Nat) (i8 : Int) := LK Tryz.prog (Orc.cons 112 (inl Tryz.prog Orc.nil na 1 Tryz.f112) Orc.nil) annirx (List.length (α := Nat × Blk) (sg.HSb x)) g Tryz.f111 2 m ⟨frm [(0, .c (.d (Aab 53 relC rel0 l))), (1, .c (.fn 112 [] [Rf.ptr 0 0])), (7, .c (.d (.v (.int .i64 (↑(List.length l) : Int))))), (8, .c (.d (.v (.int .i64 i8))))] 0 Tryz.f111.ntmps, [(0, Blk.cells (List.map C.d (subC x)) 68)], 1⟩
theorem birx : Tryz.f111.body = some (Aad Tryz.f111) := by kernel_rfl
theorem evirx (l : List SRel) (x : SSub) (g : Nat) : Aai Tryz.prog (Orc.cons 112 (inl Tryz.prog Orc.nil na 1 Tryz.f112) Orc.nil) annirx g Tryz.f111 (Aad Tryz.f111) [.c (.d (AbF l)), .c (.fn 112 [] [.ptr 0 0])] (sg.HSb x) =
 Lirx_2 l x g g 0 := by kernel_rfl
theorem stirx_2 (l : List SRel) (x : SSub) (g m : Nat) (i8 : Int) : Lirx_2 l x g (m + 1) i8 =
 (bif decide (i8 < (↑l.length : Int)) then (bif decide (0 ≤ i8) && decide (i8 < (↑l.length : Int)) then (bif (SRel.name (l.getD i8.toNat rel0)).toList == x.dev.toList then some
 (T.leaf (AV.c (.d (.v (.int .i64 i8))), [(0, Blk.cells (List.map C.d (subC x)) (68))])) else Lirx_2 l x g m (IntKind.wrap .i64 (i8 + 1))) else none) else some (T.leaf (AV.c (.d (.v
 (.int .i64 (-1)))), [(0, Blk.cells (List.map C.d (subC x)) (68))]))) := by kernel_rfl
structure KFn where
 oki : List AV → Hp → Bool
 ix : List AV → Hp → Int
 sb : List AV → Hp → SSub
 okf : List AV → Bool
 fi : List AV → Plc
noncomputable def oFn (Z : KFn) : Orc := Orc.cons 111 (ansM Z.oki (fun x H => vI (Z.ix x H)) fun x H => [(0, .cells ((subC (Z.sb x H)).map .d) 68)]) (Orc.cons 79 (ansG Z.okf fun x => sg.aPl (Z.fi x)) Orc.nil)
theorem evFn (Z : KFn) (c : SCfg) (of sub : Int) : Aai Tryz.prog (oFn Z) na 5 Tryz.f50 (Aad Tryz.f50) [aCfg c, vI of, vI sub] [] =
 (bif decide (of < 0) then some (T.leaf (AV.tup [(true, [C.d (.v (.int .i64 0)), C.d (.v (.int .i64 0)), C.d (D.v (Value.int IntKind.i64 0))]), (false, [C.d (.v (.int .i64 1))])],
 [])) else (bif decide (of ≥ (↑c.rels.length : Int)) then some (T.leaf (AV.tup [(true, [C.d (.v (.int .i64 0)), C.d (.v (.int .i64 0)), C.d (.v (.int .i64 0))]), (false, [C.d (D.v
 (Value.int IntKind.i64 1))])], [])) else (bif decide (sub < 0) then some (T.leaf (AV.tup [(true, [C.d (.v (.int .i64 0)), C.d (D.v (Value.int IntKind.i64 0)), C.d (.v (.int .i64
 0))]), (false, [C.d (.v (.int .i64 1))])], [])) else (bif decide (0 ≤ of) && decide (of < (↑c.rels.length : Int)) then (bif decide (sub ≥ (↑(SRel.subs (c.rels.getD of.toNat
 rel0)).length : Int)) then some (T.leaf (AV.tup [(true, [C.d (.v (.int .i64 0)), C.d (.v (.int .i64 0)), C.d (.v (.int .i64 0))]), (false, [C.d (.v (.int .i64 1))])], [])) else
 (bif decide (0 ≤ of) && decide (of < (↑c.rels.length : Int)) then (bif decide (0 ≤ sub) && decide (sub < (↑(SRel.subs (c.rels.getD of.toNat rel0)).length : Int)) then (bif KFn.oki
 Z [AV.c (C.d (Aab (53) relC rel0 c.rels)), AV.c (C.fn (112) [] [Rf.ptr (0) (0)])] [(0, Blk.cells (List.map C.d (subC ((SRel.subs (c.rels.getD of.toNat rel0)).getD sub.toNat sub0)))
 (68))] then (bif KFn.okf Z [AV.agg (List.map C.d (cfgC c)), AV.c (.d (.v (.int .i64 of))), AV.c (.d (.v (.int .i64 (KFn.ix Z [AV.c (C.d (Aab (53) relC rel0 c.rels)), AV.c (C.fn
 (112) [] [Rf.ptr (0) (0)])] [(0, Blk.cells (List.map C.d (subC ((SRel.subs (c.rels.getD of.toNat rel0)).getD sub.toNat sub0))) (68))])))), AV.agg (List.map C.d (subC (KFn.sb Z
 [AV.c (C.d (Aab (53) relC rel0 c.rels)), AV.c (C.fn ((112 : Nat)) [] [Rf.ptr (0) (0)])] [(0, Blk.cells (List.map C.d (subC ((SRel.subs (c.rels.getD of.toNat rel0)).getD sub.toNat
 sub0))) (68))])))] then some (T.leaf (AV.tup [(true, [C.d (.v (.int .i64 (Plc.rel (KFn.fi Z [AV.agg (List.map C.d (cfgC c)), AV.c (C.d (D.v (Value.int IntKind.i64 of))), AV.c (.d
 (.v (.int .i64 (KFn.ix Z [AV.c (C.d (Aab (53) relC rel0 c.rels)), AV.c (C.fn (112) [] [Rf.ptr (0) (0)])] [((0 : Nat), Blk.cells (List.map C.d (subC ((SRel.subs (c.rels.getD
 of.toNat rel0)).getD sub.toNat sub0))) (68))])))), AV.agg (List.map C.d (subC (KFn.sb Z [AV.c (C.d (Aab (53) relC rel0 c.rels)), AV.c (C.fn (112) [] [Rf.ptr (0) (0)])] [(0,
 Blk.cells (List.map C.d (subC ((SRel.subs (c.rels.getD of.toNat rel0)).getD sub.toNat sub0))) (68))])))])))), C.d (.v (.int .i64 (Plc.set (KFn.fi Z [AV.agg (List.map C.d (cfgC c)),
 AV.c (.d (.v (.int .i64 of))), AV.c (.d (.v (.int .i64 (KFn.ix Z [AV.c (C.d (Aab (53) relC rel0 c.rels)), AV.c (C.fn (112) [] [Rf.ptr (0) (0)])] [(0, Blk.cells (List.map C.d (subC
 ((SRel.subs (c.rels.getD of.toNat rel0)).getD sub.toNat sub0))) (68))])))), AV.agg (List.map C.d (subC (KFn.sb Z [AV.c (C.d (Aab (53) relC rel0 c.rels)), AV.c (C.fn (112) []
 [Rf.ptr (0) ((0 : Nat))])] [(0, Blk.cells (List.map C.d (subC ((SRel.subs (c.rels.getD of.toNat rel0)).getD sub.toNat sub0))) (68))])))])))), C.d (D.v (Value.int IntKind.i64
 (Plc.item (KFn.fi Z [AV.agg (List.map C.d (cfgC c)), AV.c (.d (.v (.int .i64 of))), AV.c (.d (.v (.int .i64 (KFn.ix Z [AV.c (C.d (Aab (53) relC rel0 c.rels)), AV.c (C.fn (112) []
 [Rf.ptr (0) (0)])] [(0, Blk.cells (List.map C.d (subC ((SRel.subs (c.rels.getD of.toNat rel0)).getD sub.toNat sub0))) (68))])))), AV.agg (List.map C.d (subC (KFn.sb Z [AV.c (C.d
 (Aab (53) relC rel0 c.rels)), AV.c (C.fn (112) [] [Rf.ptr (0) (0)])] [(0, Blk.cells (List.map C.d (subC ((SRel.subs (c.rels.getD of.toNat rel0)).getD sub.toNat sub0)))
 (68))])))]))))]), (false, [C.d (.v (.int .i64 (Plc.err (KFn.fi Z [AV.agg (List.map C.d (cfgC c)), AV.c (C.d (D.v (Value.int IntKind.i64 of))), AV.c (.d (.v (.int .i64 (KFn.ix Z
 [AV.c (C.d (Aab (53) relC rel0 c.rels)), AV.c (C.fn (112) [] [Rf.ptr (0) (0)])] [((0 : Nat), Blk.cells (List.map C.d (subC ((SRel.subs (c.rels.getD of.toNat rel0)).getD sub.toNat
 sub0))) (68))])))), AV.agg (List.map C.d (subC (KFn.sb Z [AV.c (C.d (Aab (53) relC rel0 c.rels)), AV.c (C.fn (112) [] [Rf.ptr (0) (0)])] [(0, Blk.cells (List.map C.d (subC
 ((SRel.subs (c.rels.getD of.toNat rel0)).getD sub.toNat sub0))) (68))])))]))))])], [])) else none) else none) else none) else none)) else none)))) := by kernel_rfl
noncomputable def oIn (okf : List AV → Bool) (fi : List AV → Plc) : Orc := Orc.cons 50 (ansG okf fun x => sg.aPl (fi x)) (Orc.cons 51 (inl Tryz.prog Orc.nil na 5 Tryz.f51) Orc.nil)
noncomputable def anninb : Ann := AaE [(3, ⟨[0, 1, 18, 19, 5], [(5, 0, 2, 66)]⟩)]
noncomputable def Linb_3 (okf : List AV → Bool) (fi : List AV → Plc) (c : SCfg) (mp : List (Value × Value)) (np : Nat) (fp : Nat → List D) (nd : Nat) (fd : Nat → List D) (rel : Int) (g m : Nat) (l1 : List (Value × Value)) (n2 : Nat) (f2 : Nat → List D) (n3 : Nat) (f3 : Nat → List D) (n4 : Nat) (f4 : Nat → List D) (i19 : Int) := LK Tryz.prog (oIn okf fi) anninb (List.length (α := Nat × Blk) (HKB c mp np fp nd fd)) g Tryz.f22 3 m ⟨frm [(0, .c (.ptr 0 0)), (1, .c (.d (.v (.int .i64 rel)))), (5, .c (.row 4 2 n4)), (18, .c (.d (.v (.int .i64 (↑(List.length (SRel.subs (List.getD (SCfg.rels c) (Int.toNat rel) rel0))) : Int))))), (19, .c (.d (.v (.int .i64 i19))))] 0 Tryz.f22.ntmps, [(0, Blk.cells [.d (.v (.string (SSta.name (SCfg.sta c)))), C.d (Aab 1 busC e0 (SSta.buses (SCfg.sta c))), C.d (Aab 5 Aap Aaf (SSta.lines (SCfg.sta c))), C.d (Aab 6 Aao src0 (SSta.srcs (SCfg.sta c))), C.d (Aab 12 bayC bay0 (SSta.bays (SCfg.sta c))), C.d (Aab 53 relC rel0 (SCfg.rels c)), C.mp 1, C.row 2 5 n2, C.row 3 3 n3] 81), (1, Blk.map 4 l1), (2, Blk.row n2 f2 5 70), (3, Blk.row n3 f3 3 51), (4, Blk.row n4 f4 2 66)], 5⟩
theorem binb : Tryz.f22.body = some (Aad Tryz.f22) := by kernel_rfl
theorem evinb (okf : List AV → Bool) (fi : List AV → Plc) (c : SCfg) (mp : List (Value × Value)) (np : Nat) (fp : Nat → List D) (nd : Nat) (fd : Nat → List D) (rel : Int) (g : Nat) : Aai Tryz.prog (oIn okf fi) anninb g Tryz.f22 (Aad Tryz.f22) [.c (.ptr 0 0), vI rel] (HKB c mp np fp nd fd) =
 (bif decide (0 ≤ rel) && decide (rel < (↑c.rels.length : Int)) then Linb_3 okf fi c mp np fp nd fd rel g g mp np fp nd fd 0 (fun x => []) 0 else none) := by kernel_rfl
theorem stinb_3 (okf : List AV → Bool) (fi : List AV → Plc) (c : SCfg) (mp : List (Value × Value)) (np : Nat) (fp : Nat → List D) (nd : Nat) (fd : Nat → List D) (rel : Int) (g m : Nat) (l1 : List (Value × Value)) (n2 : Nat) (f2 : Nat → List D) (n3 : Nat) (f3 : Nat → List D) (n4 : Nat) (f4 : Nat → List D) (i19 : Int) : Linb_3 okf fi c mp np fp nd fd rel g (m + 1) l1 n2 f2 n3 f3 n4 f4 i19 =
 (bif decide (i19 < (↑(SRel.subs (c.rels.getD rel.toNat rel0)).length : Int)) then (bif okf [AV.agg (List.map C.d (cfgC c)), AV.c (C.d (D.v (Value.int IntKind.i64 rel))), AV.c (.d
 (.v (.int .i64 i19)))] then (bif decide ((n4 + 1) * 16 ≤ 140737488355328) && decide (n4 + 1 ≤ 9223372036854775807) then Linb_3 okf fi c mp np fp nd fd rel g m l1 n2 f2 n3 f3 (n4 +
 1) (appF n4 f4 (Aat [D.v (lookV 4 (Aaz l1 (Value.agg #[Value.int IntKind.i64 (Plc.rel (fi [AV.agg (List.map C.d (cfgC c)), AV.c (.d (.v (.int .i64 rel))), AV.c (.d (.v (.int .i64
 i19)))])), Value.int IntKind.i64 (Plc.set (fi [AV.agg (List.map C.d (cfgC c)), AV.c (.d (.v (.int .i64 rel))), AV.c (.d (.v (.int .i64 i19)))]))]))), dI (Plc.item (fi [AV.agg
 (List.map C.d (cfgC c)), AV.c (.d (.v (.int .i64 rel))), AV.c (.d (.v (.int .i64 i19)))]))] (1 + 1))) (IntKind.wrap .i64 (i19 + 1)) else none) else none) else some (T.leaf (AV.c
 (C.row (4) (2) n4), [(0, Blk.cells [C.d (.v (.string (SSta.name c.sta))), C.d (Aab (1) busC e0 (SSta.buses c.sta)), C.d (Aab (5) Aap Aaf (SSta.lines c.sta)), C.d (Aab (6) Aao src0
 (SSta.srcs c.sta)), C.d (Aab ((12 : Nat)) bayC bay0 (SSta.bays c.sta)), C.d (Aab (53) relC rel0 c.rels), C.mp (1), C.row (2) (5) n2, C.row (3) (3) n3] (81)), (1, Blk.map (4) l1),
 (2, Blk.row n2 f2 (5) (70)), (3, Blk.row n3 f3 (3) (51)), (4, Blk.row n4 f4 (2) (66))]))) := by kernel_rfl
noncomputable def annina : Ann := AaE [(3, ⟨[0, 1, 18, 19, 5], [(5, 0, 2, 66)]⟩)]
noncomputable def Lina_3 (okf : List AV → Bool) (fi : List AV → Plc) (c : SCfg) (np : Nat) (fp : Nat → List D) (nd : Nat) (fd : Nat → List D) (rel : Int) (g m : Nat) (n1 : Nat) (f1 : Nat → List D) (n2 : Nat) (f2 : Nat → List D) (n3 : Nat) (f3 : Nat → List D) (i19 : Int) := LK Tryz.prog (oIn okf fi) annina (List.length (α := Nat × Blk) (HKA c np fp nd fd)) g Tryz.f22 3 m ⟨frm [(0, .c (.ptr 0 0)), (1, .c (.d (.v (.int .i64 rel)))), (5, .c (.row 3 2 n3)), (18, .c (.d (.v (.int .i64 (↑(List.length (SRel.subs (List.getD (SCfg.rels c) (Int.toNat rel) rel0))) : Int))))), (19, .c (.d (.v (.int .i64 i19))))] 0 Tryz.f22.ntmps, [(0, Blk.cells [.d (.v (.string (SSta.name (SCfg.sta c)))), C.d (Aab 1 busC e0 (SSta.buses (SCfg.sta c))), C.d (Aab 5 Aap Aaf (SSta.lines (SCfg.sta c))), C.d (Aab 6 Aao src0 (SSta.srcs (SCfg.sta c))), C.d (Aab 12 bayC bay0 (SSta.bays (SCfg.sta c))), C.d (Aab 53 relC rel0 (SCfg.rels c)), C.d (D.v (Value.map none)), C.row 1 5 n1, C.row 2 3 n2] 81), (1, Blk.row n1 f1 5 70), (2, Blk.row n2 f2 3 51), (3, Blk.row n3 f3 2 66)], 4⟩
theorem bina : Tryz.f22.body = some (Aad Tryz.f22) := by kernel_rfl
theorem evina (okf : List AV → Bool) (fi : List AV → Plc) (c : SCfg) (np : Nat) (fp : Nat → List D) (nd : Nat) (fd : Nat → List D) (rel : Int) (g : Nat) : Aai Tryz.prog (oIn okf fi) annina g Tryz.f22 (Aad Tryz.f22) [.c (.ptr 0 0), vI rel] (HKA c np fp nd fd) =
 (bif decide (0 ≤ rel) && decide (rel < (↑c.rels.length : Int)) then Lina_3 okf fi c np fp nd fd rel g g np fp nd fd 0 (fun x => []) 0 else none) := by kernel_rfl
theorem stina_3 (okf : List AV → Bool) (fi : List AV → Plc) (c : SCfg) (np : Nat) (fp : Nat → List D) (nd : Nat) (fd : Nat → List D) (rel : Int) (g m : Nat) (n1 : Nat) (f1 : Nat → List D) (n2 : Nat) (f2 : Nat → List D) (n3 : Nat) (f3 : Nat → List D) (i19 : Int) : Lina_3 okf fi c np fp nd fd rel g (m + 1) n1 f1 n2 f2 n3 f3 i19 =
 (bif decide (i19 < (↑(SRel.subs (c.rels.getD rel.toNat rel0)).length : Int)) then (bif okf [AV.agg (List.map C.d (cfgC c)), AV.c (C.d (D.v (Value.int IntKind.i64 rel))), AV.c (.d
 (.v (.int .i64 i19)))] then (bif decide ((n3 + 1) * 16 ≤ 140737488355328) && decide (n3 + 1 ≤ 9223372036854775807) then Lina_3 okf fi c np fp nd fd rel g m n1 f1 n2 f2 (n3 + 1)
 (appF n3 f3 (Aat [D.v (lookV 4 none), dI (Plc.item (fi [AV.agg (List.map C.d (cfgC c)), AV.c (.d (.v (.int .i64 rel))), AV.c (.d (.v (.int .i64 i19)))]))] (1 + 1))) (IntKind.wrap
 .i64 (i19 + 1)) else none) else none) else some (T.leaf (AV.c (C.row (3) (2) n3), [(0, Blk.cells [C.d (.v (.string (SSta.name c.sta))), C.d (Aab (1) busC e0 (SSta.buses c.sta)),
 C.d (Aab (5) Aap Aaf (SSta.lines c.sta)), C.d (Aab (6) Aao src0 (SSta.srcs c.sta)), C.d (Aab ((12 : Nat)) bayC bay0 (SSta.bays c.sta)), C.d (Aab (53) relC rel0 c.rels), C.d (D.v
 (Value.map none)), C.row (1) (5) n1, C.row (2) ((3 : Nat)) n2] (81)), (1, Blk.row n1 f1 (5) (70)), (2, Blk.row n2 f2 (3) (51)), (3, Blk.row n3 f3 (2) ((66 : Nat)))]))) := by kernel_rfl
end Go.Proofs.YtbpndheehcbldaaGreatDoor.tb
namespace Go.Proofs.YtbpndheehcbldaaGreatDoor.sg
open Go.RowKit Go.Eb Go.Proofs.YtbpndheehcbldaaGreatDoor.st
set_option maxRecDepth 100000
theorem lpisx (l : List SSet) (n : ByteArray) (g : Nat) (hb : l.length ≤ 9223372036854775807) : ∀ (m k : Nat), k ≤ l.length → l.length - k < m →
  Lisx_2 l n g m k = some (.leaf (vI (idxP (fun s : SSet => isT s.name n) k (l.drop k)), HN n))
 | 0, k, _, h => by omega
 | m + 1, k, hk, h => by
  rw [stisx_2]
  by_cases hlt : k < l.length
  ·rw [Aar (d := set0) hlt, lt1 hlt, ge0, tn, nx hlt hb, lpisx l n g hb m (k + 1) (by omega) (by omega)]
   simp only [idxP]
   show (bif isT (l.getD k set0).name n then _ else _) = _
   cases isT (l.getD k set0).name n <;> rfl
  ·rw [lt0 hlt, List.drop_of_length_le (by omega)]
   rfl
theorem cisx (l : List SSet) (n : ByteArray) (hb : l.length ≤ 9223372036854775807) :
  CX Tryz.prog 46 [.c (.d (AfH l)), .c (.fn 212 [] [.ptr 0 0])] (HN n) (vI (idxP (fun s : SSet => isT s.name n) 0 l)) (HN n) := by
 have ho : Acg Tryz.prog (Orc.cons 212 (inl Tryz.prog Orc.nil na 1 Tryz.f212) Orc.nil) := (OrcS.cons (.inl .nil Tryz.func212 (by kernel_rfl)) .nil).ok
 exact Aau ho Tryz.func46 bisx rfl ((evisx l n (l.length + 1)).trans (lpisx l n (l.length + 1) hb (l.length + 1) 0 (by omega) (by omega)))
theorem lpipx (l : List SPub) (x : SSub) (g : Nat) (hb : l.length ≤ 9223372036854775807) : ∀ (m k : Nat), k ≤ l.length → l.length - k < m →
  Lipx_2 l x g m k = some (.leaf (vI (idxP (fun p : SPub => isT p.set x.set) k (l.drop k)), HSb x))
 | 0, k, _, h => by omega
 | m + 1, k, hk, h => by
  rw [stipx_2]
  by_cases hlt : k < l.length
  ·rw [Aar (d := pub0) hlt, lt1 hlt, ge0, tn, nx hlt hb, lpipx l x g hb m (k + 1) (by omega) (by omega)]
   simp only [idxP]
   show (bif isT (l.getD k pub0).set x.set then _ else _) = _
   cases isT (l.getD k pub0).set x.set <;> rfl
  ·rw [lt0 hlt, List.drop_of_length_le (by omega)]
   rfl
theorem cipx (l : List SPub) (x : SSub) (hb : l.length ≤ 9223372036854775807) :
  CX Tryz.prog 213 [.c (.d (pubsD l)), .c (.fn 146 [] [.ptr 0 0])] (HSb x) (vI (idxP (fun p : SPub => isT p.set x.set) 0 l)) (HSb x) := by
 have ho : Acg Tryz.prog (Orc.cons 146 (inl Tryz.prog Orc.nil na 1 Tryz.f146) Orc.nil) := (OrcS.cons (.inl .nil Tryz.func146 (by kernel_rfl)) .nil).ok
 exact Aau ho Tryz.func213 bipx rfl ((evipx l x (l.length + 1)).trans (lpipx l x (l.length + 1) hb (l.length + 1) 0 (by omega) (by omega)))
end Go.Proofs.YtbpndheehcbldaaGreatDoor.sg
namespace Go.Proofs.YtbpndheehcbldaaGreatDoor.sg
open Go.RowKit Go.Eb Go.Proofs.YtbpndheehcbldaaGreatDoor.st
set_option maxRecDepth 100000
structure KSo where
 ok : List AV → Hp → Bool
 ix : List AV → Hp → Int
 nm : List AV → Hp → ByteArray
noncomputable def oSo (Z : KSo) : Orc := Orc.cons 46 (ansM Z.ok (fun x H => vI (Z.ix x H)) fun x H => [(0, .cells [.d (dS (Z.nm x H))] 9)]) Orc.nil
theorem evSo (Z : KSo) (r : SRel) (n : ByteArray) : Aai Tryz.prog (oSo Z) na 5 Tryz.f144 (Aad Tryz.f144) [aRel r, vS n] [] =
 (bif KSo.ok Z [AV.c (C.d (Aab (2) setC set0 r.sets)), AV.c (C.fn (212) [] [Rf.ptr (0) (0)])] [(0, Blk.cells [C.d (D.v (Value.string n))] (9))] then leI (KSo.ix Z [AV.c (C.d (Aab
 (2) setC set0 r.sets)), AV.c (C.fn (212) [] [Rf.ptr (0) (0)])] [(0, Blk.cells [C.d (.v (.string n))] (9))]) else none) := by kernel_rfl
structure KFi where
 okr : List AV → Bool
 so : List AV → Int
 okp : List AV → Hp → Bool
 px : List AV → Hp → Int
 sb : List AV → Hp → SSub
 okx : List AV → Bool
 ix : List AV → Int
noncomputable def oFi (Z : KFi) : Orc := Orc.cons 144 (ansG Z.okr fun x => vI (Z.so x)) (Orc.cons 145 (inl Tryz.prog (Orc.cons 213 (ansM Z.okp (fun x H => vI (Z.px x H)) fun x H => [(0, .cells ((subC (Z.sb x H)).map .d) 68)]) Orc.nil) na 1 Tryz.f145) (Orc.cons 48 (ansG Z.okx fun x => vI (Z.ix x)) Orc.nil))
theorem evFi (Z : KFi) (c : SCfg) (of dev : Int) (x : SSub) : Aai Tryz.prog (oFi Z) na 5 Tryz.f79 (Aad Tryz.f79) [aCfg c, vI of, vI dev, aSub' x] [] =
 (bif decide (dev < 0) then some (T.leaf (AV.tup [(true, [C.d (.v (.int .i64 0)), C.d (.v (.int .i64 0)), C.d (D.v (Value.int IntKind.i64 0))]), (false, [C.d (.v (.int .i64 9))])],
 [])) else (bif dev == of then some (T.leaf (AV.tup [(true, [C.d (.v (.int .i64 0)), C.d (.v (.int .i64 0)), C.d (.v (.int .i64 0))]), (false, [C.d (.v (.int .i64 12))])], [])) else
 (bif decide (0 ≤ dev) && decide (dev < (↑c.rels.length : Int)) then (bif KFi.okr Z [AV.agg (List.map C.d (relC (c.rels.getD dev.toNat rel0))), AV.c (C.d (D.v (.string x.set)))]
 then (bif decide (KFi.so Z [AV.agg (List.map C.d (relC (c.rels.getD dev.toNat rel0))), AV.c (.d (.v (.string x.set)))] < 0) then some (T.leaf (AV.tup [(true, [C.d (.v (.int .i64
 0)), C.d (.v (.int .i64 0)), C.d (.v (.int .i64 0))]), (false, [C.d (.v (.int .i64 9))])], [])) else (bif KFi.okp Z [AV.c (C.d (Aab (3) pubC pub0 (SRel.pubs (c.rels.getD dev.toNat
 rel0)))), AV.c (C.fn (146) [] [Rf.ptr (0) (0)])] [(0, Blk.cells (List.map C.d (subC x)) (68))] then (bif !decide (KFi.px Z [AV.c (C.d (Aab (3) pubC pub0 (SRel.pubs (c.rels.getD
 dev.toNat rel0)))), AV.c (C.fn (146) [] [Rf.ptr (0) (0)])] [(0, Blk.cells (List.map C.d (subC x)) (68))] ≥ 0) then some (T.leaf (AV.tup [(true, [C.d (.v (.int .i64 0)), C.d (.v
 (.int .i64 0)), C.d (D.v (.int .i64 0))]), (false, [C.d (.v (.int .i64 11))])], [])) else (bif decide (0 ≤ KFi.so Z [AV.agg (List.map C.d (relC (c.rels.getD dev.toNat rel0))), AV.c
 (.d (.v (.string x.set)))]) && decide (KFi.so Z [AV.agg (List.map C.d (relC (c.rels.getD dev.toNat rel0))), AV.c (.d (.v (.string x.set)))] < (↑(SRel.sets (c.rels.getD dev.toNat
 rel0)).length : Int)) then (bif KFi.okx Z [AV.c (C.d (Aab (1) busC e0 (SSet.sigs ((SRel.sets (c.rels.getD dev.toNat rel0)).getD (Int.toNat (KFi.so Z [AV.agg (List.map C.d (relC
 (c.rels.getD dev.toNat rel0))), AV.c (.d (.v (.string x.set)))])) set0)))), AV.c (.d (.v (.string (SSub.sig (KFi.sb Z [AV.c (C.d (Aab (3) pubC pub0 (SRel.pubs (c.rels.getD
 dev.toNat rel0)))), AV.c (C.fn (146) [] [Rf.ptr (0) (0)])] [(0, Blk.cells (List.map C.d (subC x)) ((68 : Nat)))])))))] then (bif decide (KFi.ix Z [AV.c (C.d (Aab (1) busC e0
 (SSet.sigs ((SRel.sets (c.rels.getD dev.toNat rel0)).getD (Int.toNat (KFi.so Z [AV.agg (List.map C.d (relC (c.rels.getD dev.toNat rel0))), AV.c (.d (.v (.string x.set)))]))
 set0)))), AV.c (.d (.v (.string (SSub.sig (KFi.sb Z [AV.c (C.d (Aab (3) pubC pub0 (SRel.pubs (c.rels.getD dev.toNat rel0)))), AV.c (C.fn (146) [] [Rf.ptr (0) (0)])] [((0 : Nat),
 Blk.cells (List.map C.d (subC x)) (68))])))))] < 0) then some (T.leaf (AV.tup [(true, [C.d (.v (.int .i64 0)), C.d (D.v (Value.int IntKind.i64 0)), C.d (.v (.int .i64 0))]),
 (false, [C.d (.v (.int .i64 9))])], [])) else some (T.leaf (AV.tup [(true, [C.d (D.v (Value.int IntKind.i64 dev)), C.d (.v (.int .i64 (KFi.so Z [AV.agg (List.map C.d (relC
 (c.rels.getD dev.toNat rel0))), AV.c (C.d (D.v (Value.string x.set)))]))), C.d (.v (.int .i64 (KFi.ix Z [AV.c (C.d (Aab (1) busC e0 (SSet.sigs ((SRel.sets (c.rels.getD dev.toNat
 rel0)).getD (Int.toNat (KFi.so Z [AV.agg (List.map C.d (relC (c.rels.getD dev.toNat rel0))), AV.c (.d (.v (.string x.set)))])) set0)))), AV.c (C.d (D.v (Value.string (SSub.sig
 (KFi.sb Z [AV.c (C.d (Aab (3) pubC pub0 (SRel.pubs (c.rels.getD dev.toNat rel0)))), AV.c (C.fn (146) [] [Rf.ptr ((0 : Nat)) (0)])] [(0, Blk.cells (List.map C.d (subC x))
 (68))])))))])))]), (false, [C.d (.v (.int .i64 0))])], []))) else none) else none)) else none)) else none) else none))) := by kernel_rfl
noncomputable def annsix : Ann := AaE [(2, ⟨[0, 1, 7, 8], []⟩)]
noncomputable def Lsix_2 (l : List ByteArray) (n : ByteArray) (g m : Nat) (i8 : Int) := LK Tryz.prog Orc.nil annsix 0 g Tryz.f48 2 m ⟨frm [(0, .c (.d (Aab 1 busC e0 l))), (1, .c (.d (.v (.string n)))), (7, .c (.d (.v (.int .i64 (↑(List.length l) : Int))))), (8, .c (.d (.v (.int .i64 i8))))] 0 Tryz.f48.ntmps, [], 0⟩
theorem bsix : Tryz.f48.body = some (Aad Tryz.f48) := by kernel_rfl
theorem evsix (l : List ByteArray) (n : ByteArray) (g : Nat) : Aai Tryz.prog Orc.nil annsix g Tryz.f48 (Aad Tryz.f48) [.c (.d (Aaa l)), vS n] [] =
 Lsix_2 l n g g 0 := by kernel_rfl
theorem stsix_2 (l : List ByteArray) (n : ByteArray) (g m : Nat) (i8 : Int) : Lsix_2 l n g (m + 1) i8 =
 (bif decide (i8 < (↑l.length : Int)) then (bif decide (0 ≤ i8) && decide (i8 < (↑l.length : Int)) then (bif n.toList == (l.getD i8.toNat e0).toList then leI i8 else Lsix_2 l n g m
 (IntKind.wrap .i64 (i8 + 1))) else none) else leI (-1)) := by kernel_rfl
noncomputable def annrpt : Ann := AaE [(3, ⟨[3, 7, 8, 9], []⟩)]
noncomputable def Lrpt_3 (l : List ByteArray) (g m : Nat) (l0 : List (Value × Value)) (i9 : Int) := LK Tryz.prog Orc.nil annrpt 0 g Tryz.f141 3 m ⟨frm [(3, .c (.mp 0)), (7, .c (.d (Aab 1 busC e0 l))), (8, .c (.d (.v (.int .i64 (↑(List.length l) : Int))))), (9, .c (.d (.v (.int .i64 i9))))] 0 Tryz.f141.ntmps, [(0, Blk.map 0 l0)], 1⟩
theorem brpt : Tryz.f141.body = some (Aad Tryz.f141) := by kernel_rfl
theorem evrpt (l : List ByteArray) (g : Nat) : Aai Tryz.prog Orc.nil annrpt g Tryz.f141 (Aad Tryz.f141) [.c (.d (Aaa l))] [] =
 Lrpt_3 l g g ([]) 0 := by kernel_rfl
theorem strpt_3 (l : List ByteArray) (g m : Nat) (l0 : List (Value × Value)) (i9 : Int) : Lrpt_3 l g (m + 1) l0 i9 =
 (bif decide (i9 < (↑l.length : Int)) then (bif decide (0 ≤ i9) && decide (i9 < (↑l.length : Int)) then (bif Abf (Aaz l0 (Value.string (l.getD i9.toNat e0))) then leB true else
 Lrpt_3 l g m ((Value.string (l.getD i9.toNat e0), Value.bool true) :: l0) (IntKind.wrap .i64 (i9 + 1))) else none) else leB false) := by kernel_rfl
noncomputable def anndvs : Ann := AaE [(3, ⟨[3, 10, 11, 12], []⟩)]
noncomputable def Ldvs_3 (c : SCfg) (g m : Nat) (l0 : List (Value × Value)) (i12 : Int) := LK Tryz.prog Orc.nil anndvs 0 g Tryz.f77 3 m ⟨frm [(3, .c (.mp 0)), (10, .c (.d (Aab 53 relC rel0 (SCfg.rels c)))), (11, .c (.d (.v (.int .i64 (↑(List.length (SCfg.rels c)) : Int))))), (12, .c (.d (.v (.int .i64 i12))))] 0 Tryz.f77.ntmps, [(0, Blk.map 1 l0)], 1⟩
theorem bdvs : Tryz.f77.body = some (Aad Tryz.f77) := by kernel_rfl
theorem evdvs (c : SCfg) (g : Nat) : Aai Tryz.prog Orc.nil anndvs g Tryz.f77 (Aad Tryz.f77) [aCfg c] [] =
 Ldvs_3 c g g ([]) 0 := by kernel_rfl
theorem stdvs_3 (c : SCfg) (g m : Nat) (l0 : List (Value × Value)) (i12 : Int) : Ldvs_3 c g (m + 1) l0 i12 =
 (bif decide (i12 < (↑c.rels.length : Int)) then (bif decide (0 ≤ i12) && decide (i12 < (↑c.rels.length : Int)) then (bif !Option.isSome (Aaz l0 (Value.string (SRel.name
 (c.rels.getD i12.toNat rel0)))) then Ldvs_3 c g m ((Value.string (SRel.name (c.rels.getD i12.toNat rel0)), Value.int IntKind.i64 i12) :: l0) (IntKind.wrap .i64 (i12 + 1)) else
 Ldvs_3 c g m l0 (IntKind.wrap .i64 (i12 + 1))) else none) else some (T.leaf (AV.c (C.mp ((0 : Nat))), [(0, Blk.map (1) l0)]))) := by kernel_rfl
structure KOw where
 oko : List AV → Bool
 ou : List AV → List ByteArray
 okn : List AV → Bool
 inn : List AV → List ByteArray
 okc : List AV → Bool
 cl : List AV → List ByteArray
 okr : List AV → Bool
 rp : List AV → Bool
 oks : List AV → Bool
 so : List AV → Int
noncomputable def oOw (Z : KOw) : Orc := Orc.cons 45 (ansG Z.oko fun x => .c (.d (Aaa (Z.ou x)))) (Orc.cons 143 (ansG Z.okn fun x => .c (.d (Aaa (Z.inn x)))) (Orc.cons 142 (ansN (fun x => Z.okc x) (fun x => .c (.row 0 1 (Z.cl x).length)) fun x => [(0, .row (Z.cl x).length (fun i => busC ((Z.cl x).getD i e0)) 1 9)])
 (Orc.cons 141 (ansL Z.okr fun x => vB (Z.rp x)) (Orc.cons 144 (ansG Z.oks fun x => vI (Z.so x)) Orc.nil))))
noncomputable def annown : Ann := AaE [(6, ⟨[4, 23, 1, 24, 25], []⟩), (11, ⟨[4, 33, 1, 34, 35], []⟩), (15, ⟨[9, 4, 41, 33, 1, 34, 35, 42, 43], []⟩), (25, ⟨[1, 61, 62, 63], []⟩)]
noncomputable def Lown_6 (Z : KOw) (r : SRel) (g m : Nat) (l1 : List (Value × Value)) (i25 : Int) := LK Tryz.prog (oOw Z) annown 0 g Tryz.f78 6 m ⟨frm [(1, .c (.ptr 0 0)), (4, .c (.mp 1)), (23, .c (.d (Aab 1 busC e0 (KOw.ou Z [.agg (List.map C.d (relC r))])))), (24, .c (.d (.v (.int .i64 (↑(List.length (KOw.ou Z [.agg (List.map C.d (relC r))])) : Int))))), (25, .c (.d (.v (.int .i64 i25))))] 0 Tryz.f78.ntmps, [(0, Blk.cells (List.map C.d (relC r)) 64), (1, Blk.map 0 l1)], 2⟩
noncomputable def Ael (Z : KOw) (r : SRel) (g m : Nat) (l1 : List (Value × Value)) (i35 : Int) := LK Tryz.prog (oOw Z) annown 0 g Tryz.f78 11 m ⟨frm [(1, .c (.ptr 0 0)), (4, .c (.mp 1)), (33, .c (.d (Aab 2 setC set0 (SRel.sets r)))), (34, .c (.d (.v (.int .i64 (↑(List.length (SRel.sets r)) : Int))))), (35, .c (.d (.v (.int .i64 i35))))] 0 Tryz.f78.ntmps, [(0, Blk.cells (List.map C.d (relC r)) 64), (1, Blk.map 0 l1)], 2⟩
noncomputable def AhL (Z : KOw) (r : SRel) (g mo m : Nat) (l1 : List (Value × Value)) (l2 : List (Value × Value)) (i35 : Int) (i42 : Int) (i43 : Int) := LK2 Tryz.prog (oOw Z) annown 0 g Tryz.f78 11 mo 15 m ⟨frm [(1, .c (.ptr 0 0)), (4, .c (.mp 1)), (9, .c (.mp 2)), (33, .c (.d (Aab 2 setC set0 (SRel.sets r)))), (34, .c (.d (.v (.int .i64 (↑(List.length (SRel.sets r)) : Int))))), (35, .c (.d (.v (.int .i64 i35)))), (41, .c (.d (Aab 1 busC e0 (SSet.sigs (List.getD (SRel.sets r) (Int.toNat i35) set0))))), (42, .c (.d (.v (.int .i64 i42)))), (43, .c (.d (.v (.int .i64 i43))))] 0 Tryz.f78.ntmps, [(0, Blk.cells (List.map C.d (relC r)) 64), (1, Blk.map 0 l1), (2, Blk.map 0 l2)], 3⟩
noncomputable def Age (Z : KOw) (r : SRel) (g m : Nat) (i63 : Int) := LK Tryz.prog (oOw Z) annown 0 g Tryz.f78 25 m ⟨frm [(1, .c (.ptr 0 0)), (61, .c (.d (Aab 3 pubC pub0 (SRel.pubs r)))), (62, .c (.d (.v (.int .i64 (↑(List.length (SRel.pubs r)) : Int))))), (63, .c (.d (.v (.int .i64 i63))))] 0 Tryz.f78.ntmps, [(0, Blk.cells (List.map C.d (relC r)) 64)], 1⟩
theorem bown : Tryz.f78.body = some (Aad Tryz.f78) := by kernel_rfl
theorem evown (Z : KOw) (r : SRel) (g : Nat) : Aai Tryz.prog (oOw Z) annown g Tryz.f78 (Aad Tryz.f78) [aRel r] [] =
 (bif KOw.oko Z [AV.agg (List.map C.d (relC r))] then (bif KOw.okc Z [AV.c (C.d (Aab (1) busC e0 (KOw.ou Z [AV.agg (List.map C.d (relC r))])))] then (bif KOw.okn Z [AV.agg (List.map
 C.d (relC r))] then (bif decide (((KOw.cl Z [AV.c (C.d (Aab (1) busC e0 (KOw.ou Z [AV.agg (List.map C.d (relC r))])))]).length + (KOw.inn Z [AV.agg (List.map C.d (relC
 r))]).length) * 16 ≤ 140737488355328) && decide ((KOw.cl Z [AV.c (C.d (Aab (1) busC e0 (KOw.ou Z [AV.agg (List.map C.d (relC r))])))]).length + (KOw.inn Z [AV.agg (List.map C.d
 (relC r))]).length ≤ 9223372036854775807) then (bif KOw.okr Z [AV.c (C.d (D.sl (1) ((KOw.cl Z [AV.c (C.d (Aab (1) busC e0 (KOw.ou Z [AV.agg (List.map C.d (relC r))])))]).length +
 (KOw.inn Z [AV.agg (List.map C.d (relC r))]).length) (appF (KOw.cl Z [AV.c (C.d (Aab (1) busC e0 (KOw.ou Z [AV.agg (List.map C.d (relC r))])))]).length (fun i => busC ((KOw.cl Z
 [AV.c (C.d (Aab (1) busC e0 (KOw.ou Z [AV.agg (List.map C.d (relC r))])))]).getD i e0)) fun i => busC ((KOw.inn Z [AV.agg (List.map C.d (relC r))]).getD i e0))))] then (bif KOw.rp
 Z [AV.c (C.d (D.sl (1) ((KOw.cl Z [AV.c (C.d (Aab (1) busC e0 (KOw.ou Z [AV.agg (List.map C.d (relC r))])))]).length + (KOw.inn Z [AV.agg (List.map C.d (relC r))]).length) (appF
 (KOw.cl Z [AV.c (C.d (Aab (1) busC e0 (KOw.ou Z [AV.agg (List.map C.d (relC r))])))]).length (fun i => busC ((KOw.cl Z [AV.c (C.d (Aab (1) busC e0 (KOw.ou Z [AV.agg (List.map C.d
 (relC r))])))]).getD i e0)) fun i => busC ((KOw.inn Z [AV.agg (List.map C.d (relC r))]).getD i e0))))] then leI 8 else Lown_6 Z r g g ([]) 0) else none) else none) else none) else
 none) else none) := by kernel_rfl
theorem stown_6 (Z : KOw) (r : SRel) (g m : Nat) (l1 : List (Value × Value)) (i25 : Int) : Lown_6 Z r g (m + 1) l1 i25 =
 (bif decide (i25 < (↑(KOw.ou Z [AV.agg (List.map C.d (relC r))]).length : Int)) then (bif decide (0 ≤ i25) && decide (i25 < (↑(KOw.ou Z [AV.agg (List.map C.d (relC r))]).length :
 Int)) then Lown_6 Z r g m ((Value.string ((KOw.ou Z [AV.agg (List.map C.d (relC r))]).getD i25.toNat e0), Value.bool true) :: l1) (IntKind.wrap IntKind.i64 (i25 + 1)) else none)
 else Ael Z r g g l1 0) := by kernel_rfl
theorem stown_11 (Z : KOw) (r : SRel) (g m : Nat) (l1 : List (Value × Value)) (i35 : Int) : Ael Z r g (m + 1) l1 i35 =
 (bif decide (i35 < (↑r.sets.length : Int)) then (bif decide (0 ≤ i35) && decide (i35 < (↑r.sets.length : Int)) then AhL Z r g m g l1 ([]) i35 ((↑(SSet.sigs (r.sets.getD i35.toNat
 set0)).length : Int)) 0 else none) else Age Z r g g 0) := by kernel_rfl
theorem stown_15 (Z : KOw) (r : SRel) (g mo m : Nat) (l1 : List (Value × Value)) (l2 : List (Value × Value)) (i35 : Int) (i42 : Int) (i43 : Int) : AhL Z r g mo (m + 1) l1 l2 i35 i42 i43 =
 (bif decide (i43 < i42) then (bif decide (0 ≤ i43) && decide (i43 < (↑(SSet.sigs (r.sets.getD i35.toNat set0)).length : Int)) then (bif !Abf (Aaz l1 (Value.string ((SSet.sigs
 (r.sets.getD i35.toNat set0)).getD i43.toNat e0))) then leI 9 else (bif Abf (Aaz l2 (Value.string ((SSet.sigs (r.sets.getD i35.toNat set0)).getD i43.toNat e0))) then leI 8 else AhL
 Z r g mo m l1 ((Value.string ((SSet.sigs (r.sets.getD i35.toNat set0)).getD i43.toNat e0), Value.bool true) :: l2) i35 i42 (IntKind.wrap .i64 (i43 + 1)))) else none) else Ael Z r g
 mo l1 (IntKind.wrap .i64 (i35 + 1))) := by kernel_rfl
theorem stown_25 (Z : KOw) (r : SRel) (g m : Nat) (i63 : Int) : Age Z r g (m + 1) i63 =
 (bif decide (i63 < (↑r.pubs.length : Int)) then (bif decide (0 ≤ i63) && decide (i63 < (↑r.pubs.length : Int)) then (bif KOw.oks Z [AV.agg (List.map C.d (relC r)), AV.c (.d (.v
 (.string (SPub.set (r.pubs.getD i63.toNat pub0)))))] then (bif decide (KOw.so Z [AV.agg (List.map C.d (relC r)), AV.c (C.d (.v (.string (SPub.set (r.pubs.getD i63.toNat pub0)))))]
 < 0) then leI 9 else Age Z r g m (IntKind.wrap .i64 (i63 + 1))) else none) else none) else leI 0) := by kernel_rfl
end Go.Proofs.YtbpndheehcbldaaGreatDoor.sg
namespace Go.Proofs.YtbpndheehcbldaaGreatDoor.sg
open Go.RowKit Go.Eb Go.Proofs.YtbpndheehcbldaaGreatDoor.st
set_option maxRecDepth 100000
noncomputable def oIt (okd : List AV → Bool) (it : List AV → ByteArray) : Orc := Orc.cons 89 (ansG okd fun x => vS (it x)) Orc.nil
noncomputable def annfix : Ann := AaE [(10, ⟨[15, 3], [(3, 0, 1, 9)]⟩)]
noncomputable def Agh (okd : List AV → Bool) (it : List AV → ByteArray) (k : Int) (g m : Nat) (n0 : Nat) (f0 : Nat → List D) (i15 : Int) := LK Tryz.prog (oIt okd it) annfix 0 g Tryz.f108 10 m ⟨frm [(3, .c (.row 0 1 n0)), (15, .c (.d (.v (.int .i64 i15))))] 0 Tryz.f108.ntmps, [(0, Blk.row n0 f0 1 9)], 1⟩
theorem bfix : Tryz.f108.body = some (Aad Tryz.f108) := by kernel_rfl
theorem evfix (okd : List AV → Bool) (it : List AV → ByteArray) (k : Int) (g : Nat) : Aai Tryz.prog (oIt okd it) annfix g Tryz.f108 (Aad Tryz.f108) [vI k] [] =
 (bif k == 1 then some (T.leaf (AV.c (C.row (0) (1) (10)), [(0, Blk.cells [C.d (.v (.string (⟨#[116, (114 : UInt8), 105, 112]⟩))), C.d (.v (.string (⟨#[99, 108, 111, 115, 101]⟩))),
 C.d (D.v (Value.string (⟨#[102, 97, 105, 108]⟩))), C.d (.v (.string (⟨#[115, 101, 110, 100]⟩))), C.d (.v (.string (⟨#[116, 114, 97, 110, 115, 102, 101, 114]⟩))), C.d (D.v
 (Value.string (⟨#[122, 111, 110, 101, 49]⟩))), C.d (.v (.string (⟨#[122, 111, (110 : UInt8), 101, 50]⟩))), C.d (.v (.string (⟨#[122, 111, 110, 101, 51]⟩))), C.d (D.v (Value.string
 (⟨#[116, 105, 109, 101]⟩))), C.d (.v (.string (⟨#[115, 116, 97, (114 : UInt8), 116, 101, 100]⟩)))] (9))])) else (bif k == 2 then (bif k == 2 then some (T.leaf (AV.c (C.row (0) (1)
 (7)), [(0, Blk.cells [C.d (.v (.string (⟨#[116, 114, 105, 112]⟩))), C.d (.v (.string (⟨#[99, 108, 111, 115, 101]⟩))), C.d (.v (.string (⟨#[102, 97, 105, 108]⟩))), C.d (.v (.string
 (⟨#[116, 105, 109, 101]⟩))), C.d (.v (.string (⟨#[115, 116, (97 : UInt8), 114, 116, 101, 100]⟩))), C.d (.v (.string (⟨#[117, 110, 100, 101, (114 : UInt8)]⟩))), C.d (.v (.string
 (⟨#[111, 118, 101, 114]⟩)))] (9))])) else (bif k == 4 then Agh okd it k g g 0 (fun x => []) 0 else some (T.leaf (AV.c (.d (.v (.slice none 0 0))), [])))) else (bif k == 3 then some
 (T.leaf (AV.c (C.row ((0 : Nat)) (1) (7)), [(0, Blk.cells [C.d (.v (.string (⟨#[116, 114, 105, 112]⟩))), C.d (D.v (Value.string (⟨#[99, 108, 111, 115, 101]⟩))), C.d (.v (.string
 (⟨#[102, 97, 105, (108 : UInt8)]⟩))), C.d (.v (.string (⟨#[116, 105, 109, 101]⟩))), C.d (.v (.string (⟨#[115, (116 : UInt8), 97, 114, 116, 101, 100]⟩))), C.d (.v (.string (⟨#[117,
 110, 100, (101 : UInt8), 114]⟩))), C.d (.v (.string (⟨#[111, 118, 101, 114]⟩)))] (9))])) else (bif k == 4 then Agh okd it k g g 0 (fun x => []) 0 else some (T.leaf (AV.c (.d (.v
 (.slice none 0 0))), [])))))) := by kernel_rfl
theorem stfix_10 (okd : List AV → Bool) (it : List AV → ByteArray) (k : Int) (g m : Nat) (n0 : Nat) (f0 : Nat → List D) (i15 : Int) : Agh okd it k g (m + 1) n0 f0 i15 =
 (bif decide (i15 < 16) then (bif okd [AV.c (.d (.v (.int .i64 i15)))] then (bif decide (ByteArray.size (⟨#[116, 114, (105 : UInt8), 112]⟩) + ByteArray.size (it [AV.c (.d (.v (.int
 .i64 i15)))]) ≤ 9223372036854775807) then (bif decide ((n0 + 1) * 16 ≤ 140737488355328) && decide (n0 + 1 ≤ 9223372036854775807) then Agh okd it k g m (n0 + 1) (appF n0 f0 (Aat
 [D.v (.string (ByteArray.mk #[116, 114, 105, 112] ++ it [AV.c (.d (.v (.int .i64 i15)))]))] (0 + 1))) (IntKind.wrap .i64 (i15 + 1)) else none) else none) else none) else some
 (T.leaf (AV.c (C.row (0) (1) n0), [(0, Blk.row n0 f0 (1) (9))]))) := by kernel_rfl
noncomputable def oOu (okf : List AV → Bool) (fx : List AV → List ByteArray) (okn : List AV → Bool) (nl : List AV → List ByteArray) : Orc := Orc.cons 108 (ansN (fun x => okf x) (fun x => .c (.row 0 1 (fx x).length)) fun x => [(0, .row (fx x).length (fun i => busC ((fx x).getD i e0)) 1 9)]) (Orc.cons 109 (ansG okn fun x => .c (.d (Aaa (nl x)))) Orc.nil)
theorem evOu (okf : List AV → Bool) (fx : List AV → List ByteArray) (okn : List AV → Bool) (nl : List AV → List ByteArray) (r : SRel) : Aai Tryz.prog (oOu okf fx okn nl) na 5 Tryz.f45 (Aad Tryz.f45) [aRel r] [] =
 (bif okf [AV.c (.d (.v (.int .i64 r.kind)))] then (bif okn [AV.c (C.d (Aab (2) AcA AaI r.rules)), AV.c (C.d (D.v (Value.func (Fn.func (110 : Nat)) #[] #[])))] then (bif decide
 (((fx [AV.c (.d (.v (.int .i64 r.kind)))]).length + (nl [AV.c (C.d (Aab (2) AcA AaI r.rules)), AV.c (C.d (D.v (Value.func (Fn.func 110) #[] #[])))]).length) * 16 ≤ 140737488355328)
 && decide ((fx [AV.c (C.d (D.v (Value.int IntKind.i64 r.kind)))]).length + (nl [AV.c (C.d (Aab (2) AcA AaI r.rules)), AV.c (C.d (D.v (Value.func (Fn.func 110) #[] #[])))]).length ≤
 9223372036854775807) then some (T.leaf (AV.c (C.row (0) (1) ((fx [AV.c (.d (.v (.int .i64 r.kind)))]).length + (nl [AV.c (C.d (Aab (2) AcA AaI r.rules)), AV.c (C.d (D.v (Value.func
 (Fn.func 110) #[] #[])))]).length)), [(0, Blk.row ((fx [AV.c (C.d (D.v (Value.int IntKind.i64 r.kind)))]).length + (nl [AV.c (C.d (Aab (2) AcA AaI r.rules)), AV.c (C.d (D.v
 (Value.func (Fn.func 110) #[] #[])))]).length) (appF (fx [AV.c (.d (.v (.int .i64 r.kind)))]).length (fun i => busC ((fx [AV.c (.d (.v (.int .i64 r.kind)))]).getD i e0)) fun i =>
 busC ((nl [AV.c (C.d (Aab (2) AcA AaI r.rules)), AV.c (C.d (D.v (Value.func (Fn.func 110) #[] #[])))]).getD i e0)) (1) ((9 : Nat)))])) else none) else none) else none) := by kernel_rfl
theorem evIn (okn : List AV → Bool) (nl : List AV → List ByteArray) (r : SRel) : Aai Tryz.prog (Orc.cons 210 (ansG okn fun x => .c (.d (Aaa (nl x)))) Orc.nil) na 5 Tryz.f143 (Aad Tryz.f143) [aRel r] [] =
 (bif okn [AV.c (C.d (Aab (4) subC sub0 r.subs)), AV.c (C.d (D.v (Value.func (Fn.func 211) #[] #[])))] then some (T.leaf (AV.c (C.d (Aab (1) busC e0 (nl [AV.c (C.d (Aab (4) subC
 sub0 r.subs)), AV.c (C.d (D.v (Value.func (Fn.func 211) #[] #[])))]))), [])) else none) := by kernel_rfl
noncomputable def annnru : Ann := AaE [(3, ⟨[1, 8, 9, 10, 5], [(5, 0, 1, 9)]⟩)]
noncomputable def Lnru_3 (l : List SRule) (g m : Nat) (n0 : Nat) (f0 : Nat → List D) (i10 : Int) := LK Tryz.prog (Orc.cons 110 (inl Tryz.prog Orc.nil na 1 Tryz.f110) Orc.nil) annnru 0 g Tryz.f109 3 m ⟨frm [(1, .c (.d (D.v (Value.func (Fn.func (110 : FuncId)) #[] #[])))), (5, .c (.row 0 1 n0)), (8, .c (.d (Aab 2 AcA AaI l))), (9, .c (.d (.v (.int .i64 (↑(List.length l) : Int))))), (10, .c (.d (.v (.int .i64 i10))))] 0 Tryz.f109.ntmps, [(0, Blk.row n0 f0 1 9)], 1⟩
theorem bnru : Tryz.f109.body = some (Aad Tryz.f109) := by kernel_rfl
theorem evnru (l : List SRule) (g : Nat) : Aai Tryz.prog (Orc.cons 110 (inl Tryz.prog Orc.nil na 1 Tryz.f110) Orc.nil) annnru g Tryz.f109 (Aad Tryz.f109) [.c (.d (AgR l)), .c (.d (.v (.func (.func 110) #[] #[])))] [] =
 Lnru_3 l g g 0 (fun x => []) 0 := by kernel_rfl
theorem stnru_3 (l : List SRule) (g m : Nat) (n0 : Nat) (f0 : Nat → List D) (i10 : Int) : Lnru_3 l g (m + 1) n0 f0 i10 =
 (bif decide (i10 < (↑l.length : Int)) then (bif decide (0 ≤ i10) && decide (i10 < (↑l.length : Int)) then (bif decide ((n0 + 1) * 16 ≤ 140737488355328) && decide (n0 + 1 ≤
 9223372036854775807) then Lnru_3 l g m (n0 + 1) (appF n0 f0 (Aat [dS (SRule.name (l.getD i10.toNat AaI))] (0 + 1))) (IntKind.wrap .i64 (i10 + 1)) else none) else none) else some
 (T.leaf (AV.c (C.row (0) (1) n0), [(0, Blk.row n0 f0 (1) (9))]))) := by kernel_rfl
noncomputable def annnsu : Ann := AaE [(3, ⟨[1, 8, 9, 10, 5], [(5, 0, 1, 9)]⟩)]
noncomputable def Lnsu_3 (l : List SSub) (g m : Nat) (n0 : Nat) (f0 : Nat → List D) (i10 : Int) := LK Tryz.prog (Orc.cons 211 (inl Tryz.prog Orc.nil na 1 Tryz.f211) Orc.nil) annnsu 0 g Tryz.f210 3 m ⟨frm [(1, .c (.d (D.v (Value.func (Fn.func (211 : FuncId)) #[] #[])))), (5, .c (.row 0 1 n0)), (8, .c (.d (Aab 4 subC sub0 l))), (9, .c (.d (.v (.int .i64 (↑(List.length l) : Int))))), (10, .c (.d (.v (.int .i64 i10))))] 0 Tryz.f210.ntmps, [(0, Blk.row n0 f0 1 9)], 1⟩
theorem bnsu : Tryz.f210.body = some (Aad Tryz.f210) := by kernel_rfl
theorem evnsu (l : List SSub) (g : Nat) : Aai Tryz.prog (Orc.cons 211 (inl Tryz.prog Orc.nil na 1 Tryz.f211) Orc.nil) annnsu g Tryz.f210 (Aad Tryz.f210) [.c (.d (subsD l)), .c (.d (.v (.func (.func 211) #[] #[])))] [] =
 Lnsu_3 l g g 0 (fun x => []) 0 := by kernel_rfl
theorem stnsu_3 (l : List SSub) (g m : Nat) (n0 : Nat) (f0 : Nat → List D) (i10 : Int) : Lnsu_3 l g (m + 1) n0 f0 i10 =
 (bif decide (i10 < (↑l.length : Int)) then (bif decide (0 ≤ i10) && decide (i10 < (↑l.length : Int)) then (bif decide ((n0 + 1) * 16 ≤ 140737488355328) && decide (n0 + 1 ≤
 9223372036854775807) then Lnsu_3 l g m (n0 + 1) (appF n0 f0 (Aat [dS (SSub.loc (l.getD i10.toNat sub0))] (0 + 1))) (IntKind.wrap .i64 (i10 + 1)) else none) else none) else some
 (T.leaf (AV.c (C.row (0) (1) n0), [(0, Blk.row n0 f0 (1) (9))]))) := by kernel_rfl
end Go.Proofs.YtbpndheehcbldaaGreatDoor.sg
namespace Go.Proofs.YtbpndheehcbldaaGreatDoor.ito
open Go.Shelf
def lays171_ren : Go.Shelf.Ren := ⟨fun | 171 => 89 | 243 => 150 | 246 => 218 | 283 => 229 | 284 => 230 | 285 => 231 | 286 => 232 | 129 => 244 | 317 => 243 | 318 => 245 | 319 => 246 | 320 => 247 | 337 => 252 | 338 => 253 | n => n, fun | 3 => 3 | 9 => 9 | 2 => 2 | 4 => 4 | 171 => 299 | 0 => 0 | 53 => 300 | 37 => 107 | 5 => 5 | 173 => 303 | 212 => 315 | 51 => 72 | 20 => 20 | 213 => 316 | 46 => 105 | 232 => 321 | 233 => 322 | n => n, fun | 17 => 0 | 18 => 2 | 19 => 3 | n => n⟩
theorem lays171 : Go.Proofs.LaysM.n171 Tryz.prog lays171_ren := {
 mixed := by kernel_rfl
 f129 := Tryz.func244.trans (congrArg some (by kernel_rfl))
 f171 := Tryz.func89.trans (congrArg some (by kernel_rfl))
 f243 := Tryz.func150.trans (congrArg some (by kernel_rfl))
 f246 := Tryz.func218.trans (congrArg some (by kernel_rfl))
 f283 := Tryz.func229.trans (congrArg some (by kernel_rfl))
 f284 := Tryz.func230.trans (congrArg some (by kernel_rfl))
 f285 := Tryz.func231.trans (congrArg some (by kernel_rfl))
 f286 := Tryz.func232.trans (congrArg some (by kernel_rfl))
 f317 := Tryz.func243.trans (congrArg some (by kernel_rfl))
 f318 := Tryz.func245.trans (congrArg some (by kernel_rfl))
 f319 := Tryz.func246.trans (congrArg some (by kernel_rfl))
 f320 := Tryz.func247.trans (congrArg some (by kernel_rfl))
 f337 := Tryz.func252.trans (congrArg some (by kernel_rfl))
 f338 := Tryz.func253.trans (congrArg some (by kernel_rfl))
 t0 := Tryz.underlying0
 a0 := Tryz.isAgg0
 z0 := Tryz.sizeOf0
 v0 := Tryz.zeroValue0
 t2 := Tryz.underlying2
 a2 := Tryz.isAgg2
 z2 := Tryz.sizeOf2
 v2 := Tryz.zeroValue2
 t3 := Tryz.underlying3
 a3 := Tryz.isAgg3
 z3 := Tryz.sizeOf3
 v3 := Tryz.zeroValue3
 t4 := Tryz.underlying4
 a4 := Tryz.isAgg4
 z4 := Tryz.sizeOf4
 v4 := Tryz.zeroValue4
 t5 := Tryz.underlying5
 a5 := Tryz.isAgg5
 z5 := Tryz.sizeOf5
 v5 := Tryz.zeroValue5
 t9 := Tryz.underlying9
 a9 := Tryz.isAgg9
 z9 := Tryz.sizeOf9
 v9 := Tryz.zeroValue9
 t20 := Tryz.underlying20
 a20 := Tryz.isAgg20
 z20 := Tryz.sizeOf20
 v20 := Tryz.zeroValue20
 t37 := Tryz.underlying107
 a37 := Tryz.isAgg107
 z37 := Tryz.sizeOf107
 v37 := Tryz.zeroValue107
 t46 := Tryz.underlying105
 a46 := Tryz.isAgg105
 z46 := Tryz.sizeOf105
 v46 := Tryz.zeroValue105
 t51 := Tryz.underlying72
 a51 := Tryz.isAgg72
 z51 := Tryz.sizeOf72
 v51 := Tryz.zeroValue72
 t53 := Tryz.underlying300
 a53 := Tryz.isAgg300
 z53 := Tryz.sizeOf300
 v53 := Tryz.zeroValue300
 t171 := Tryz.underlying299
 a171 := Tryz.isAgg299
 z171 := Tryz.sizeOf299
 v171 := Tryz.zeroValue299
 t173 := Tryz.underlying303
 a173 := Tryz.isAgg303
 z173 := Tryz.sizeOf303
 v173 := Tryz.zeroValue303
 t212 := Tryz.underlying315
 a212 := Tryz.isAgg315
 z212 := Tryz.sizeOf315
 v212 := Tryz.zeroValue315
 t213 := Tryz.underlying316
 a213 := Tryz.isAgg316
 z213 := Tryz.sizeOf316
 t232 := Tryz.underlying321
 a232 := Tryz.isAgg321
 z232 := Tryz.sizeOf321
 v232 := Tryz.zeroValue321
 t233 := Tryz.underlying322
 a233 := Tryz.isAgg322
 z233 := Tryz.sizeOf322
 v233 := Tryz.zeroValue322
 g17 := by kernel_rfl
 g18 := by kernel_rfl
 g19 := by kernel_rfl
 i0 := by kernel_rfl
 i2 := by kernel_rfl
 i3 := by kernel_rfl
 i4 := by kernel_rfl
 i5 := by kernel_rfl
 i9 := by kernel_rfl
 i20 := by kernel_rfl
 i37 := by kernel_rfl
 i46 := by kernel_rfl
 i51 := by kernel_rfl
 i53 := by kernel_rfl
 i171 := by kernel_rfl
 i173 := by kernel_rfl
 i212 := by kernel_rfl
 i232 := by kernel_rfl
 i233 := by kernel_rfl
 m17 := by kernel_rfl
 m18 := by kernel_rfl
 m19 := by kernel_rfl }
end Go.Proofs.YtbpndheehcbldaaGreatDoor.ito
namespace Go.Proofs.YtbpndheehcbldaaGreatDoor.ito
open Go.RowKit Go.Eb
set_option maxRecDepth 100000
theorem digits_dec (u : Nat) : decB u = ⟨(Lib.decDigits u).toArray⟩ := by
 induction u using Nat.strongRecOn with
 | ind u ih =>
  rw [Lib.decDigits]
  by_cases h : u < 10
  ·rw [dif_pos h, AaT h]
  ·rw [dif_neg h, Aea h, ih (u / 10) (by omega), AaT (by omega)]
   apply ByteArray.ext
   rw [ByteArray.data_append]
   simp
theorem itoa_dec {n : Int} : (⟨(Lib.itoa n).toArray⟩ : ByteArray) = decI n := by
 unfold Lib.itoa decI
 by_cases h : n < 0
 ·rw [if_pos h, decide_eq_true h, cond_true, digits_dec]
  apply ByteArray.ext
  rw [ByteArray.data_append]
  simp
 ·rw [if_neg h, decide_eq_false h, cond_false, digits_dec]
def tab : Array Value := (Lib.pow10Tab.map fun z => Value.int .u64 z).toArray
theorem tab_size : tab.size = 20 := by simp [tab, Lib.pow10Tab]
theorem tab_get (i : Nat) (h : i < 20) : tab[i]? = some (.int .u64 ((10 ^ i : Nat) : Int)) := by
 simp [tab, Lib.pow10Tab, h]
theorem glob_at {I : Im} {w : World} (hg : Glob I w) (i : Nat) (h : i < 21) : w.cell? ⟨0, i, none⟩ = (bif Nat.blt i 20 then some (.int .u64 ((10 ^ i : Nat) : Int)) else none) := by
 have := hg (0, i, bif Nat.blt i 20 then some (.int .u64 ((10 ^ i : Nat) : Int)) else none) (by
  unfold gcells
  exact List.mem_map.2 ⟨i, List.mem_range.2 h, rfl⟩)
 exact this.2
theorem tab_of {I : Im} {w : World} (hg : Glob I w) : ∃ t fz, w.heap[0]? = some (.cells tab t fz) := by
 have h0 := glob_at hg 0 (by omega)
 rw [show (bif Nat.blt 0 20 then some (Value.int .u64 ((10 ^ 0 : Nat) : Int)) else none) = some (Value.int .u64 1) from rfl] at h0
 have hc : ∀ {c : Array Value} {t : TypeId} {fz : Nat × Nat}, w.heap[0]? = some (.cells c t fz) → ∀ i, w.cell? ⟨0, i, none⟩ = c[i]? := fun hh i => by
  unfold World.cell?
  rw [hh]
  rfl
 cases hh : w.heap[0]? with
 | none => unfold World.cell? at h0; rw [hh] at h0; cases h0
 | some o =>
  cases o with
  | cells c t fz =>
   refine ⟨t, fz, ?_⟩
   have e : c = tab := by
    apply Array.ext_getElem?
    intro i
    by_cases h : i < 20
    ·have := glob_at hg i (by omega)
     rw [hc hh, bltD, decide_eq_true h] at this
     rw [this, tab_get i h]
     rfl
    ·have := glob_at hg 20 (by omega)
     rw [hc hh] at this
     have h20 : c[20]? = none := this
     have hs : c.size ≤ 20 := by simpa using h20
     rw [Array.getElem?_eq_none (by omega), Array.getElem?_eq_none (by rw [tab_size]; omega)]
   rw [e]
  | _ => unfold World.cell? at h0; rw [hh] at h0; cases h0
theorem grow_at (w : World) (k : Nat) (os : Array Obj) {b : Nat} (h : b < w.heap.size) : (Sort.grow (w.drewN k) os).heap[b]? = w.heap[b]? := by
 show (w.heap ++ os)[b]? = _
 rw [Array.getElem?_append, if_pos h]
theorem grow_cell (w : World) (k : Nat) (os : Array Obj) {b o : Nat} (h : b < w.heap.size) : (Sort.grow (w.drewN k) os).cell? ⟨b, o, none⟩ = w.cell? ⟨b, o, none⟩ := by
 unfold World.cell?
 rw [grow_at w k os h]
theorem cItoa (n : Int) (h0 : -1000000 ≤ n) (h1 : n ≤ 1000000) : CX Tryz.prog 89 [vI n] [] (vS (decI n)) [] := by
 refine CX.of_cr Tryz.func89 (by kernel_rfl : Tryz.f89.body = some (Aad Tryz.f89)) ?_
 intro β I w vs hr ha
 obtain ⟨hl, hv⟩ := ha
 have hs : vs.size = 1 := by rw [← hl]; rfl
 obtain ⟨v, rfl⟩ : ∃ v, vs = #[v] := by
  refine ⟨vs[0]'(by omega), ?_⟩
  apply Array.ext
  ·simp [hs]
  ·intro i h1 h2
   have : i = 0 := by omega
   subst this
   rfl
 have hx : RepA β w I (vI n) v := hv 0 _ v rfl (by simp)
 have hd : RepD w I (.v (.int .i64 n)) v := hx
 obtain rfl := RepD.v_eq hd
 obtain ⟨t, fz, hh⟩ := tab_of hr.gl
 have hi : ∀ h, β h = .free := fun h => hr.dom h rfl
 refine (Any.strconv_Itoa lays171 n (by omega) (by omega) w ?_).mono ?_
 ·unfold Lib.TabIs World.var?
  refine Eq.trans (congrArg (fun o => Option.bind o _) (?_ : _ = some 0)) ?_
  ·kernel_rfl
  ·show (match w.heap[0]? with | some (.cells cs _ _) => some cs | _ => none) = _
   rw [hh]
   rfl
 ·rintro e w' ⟨rfl, k, os, rfl⟩
  have hsz : w.heap.size ≤ (Sort.grow (w.drewN k) os).heap.size := by
   show _ ≤ (w.heap ++ os).size
   simp
  have hE : Ext β I β I w (Sort.grow (w.drewN k) os) := ⟨rfl, rfl, rfl, hsz, fun b hb _ => grow_at w k os hb, fun _ _ hi => hi, fun b o hi => grow_cell w k os (hr.old b o hi), fun _ _ hi => .inl hi, fun x b hb => .inl ⟨x, hb⟩, fun b vs t fz hb => ⟨vs, fz, by rw [grow_at w k os (Array.getElem?_eq_some_iff.1 hb).1]; exact hb, rfl⟩⟩
  refine ⟨_, β, I, rfl, ⟨⟨hr.inj, fun h b hb => Nat.lt_of_lt_of_le (hr.lt h b hb) hsz, hr.off, fun b o hi => Nat.lt_of_lt_of_le (hr.old b o hi) hsz, hr.gl.step (fun _ _ hi => hi) hE.cell⟩, hr.dom, fun h B hB => by have hB' : (none : Option Blk) = some B := hB; cases hB'⟩, ?_, hE, .refl β⟩
  rw [itoa_dec]
  exact RepD.v _ rfl
end Go.Proofs.YtbpndheehcbldaaGreatDoor.ito
namespace Go.Proofs.YtbpndheehcbldaaGreatDoor.sg
open Go.RowKit Go.Eb Go.Proofs.YtbpndheehcbldaaGreatDoor.st
set_option maxRecDepth 100000
abbrev rowS (l : List ByteArray) : AV := .c (.row 0 1 l.length)
abbrev hpS (l : List ByteArray) : Hp := [(0, .row l.length (fun i => busC (l.getD i e0)) 1 9)]
theorem dig_dec : ∀ n : Int, 0 ≤ n → n < 16 → decI n = sgDig.getD n.toNat e0 := by
 intro n h0 h1
 have : n = 0 ∨ n = 1 ∨ n = 2 ∨ n = 3 ∨ n = 4 ∨ n = 5 ∨ n = 6 ∨ n = 7 ∨ n = 8 ∨ n = 9 ∨ n = 10 ∨ n = 11 ∨ n = 12 ∨ n = 13 ∨ n = 14 ∨ n = 15 := by omega
 have e : ∀ k : Nat, decI (k : Int) = decB k := fun k => by
  unfold decI
  rw [decide_eq_false (by omega)]
  rfl
 rcases this with rfl | rfl | rfl | rfl | rfl | rfl | rfl | rfl | rfl | rfl | rfl | rfl | rfl | rfl | rfl | rfl
 ·exact (e 0).trans ((AaT (by omega)).trans rfl)
 ·exact (e 1).trans ((AaT (by omega)).trans rfl)
 ·exact (e 2).trans ((AaT (by omega)).trans rfl)
 ·exact (e 3).trans ((AaT (by omega)).trans rfl)
 ·exact (e 4).trans ((AaT (by omega)).trans rfl)
 ·exact (e 5).trans ((AaT (by omega)).trans rfl)
 ·exact (e 6).trans ((AaT (by omega)).trans rfl)
 ·exact (e 7).trans ((AaT (by omega)).trans rfl)
 ·exact (e 8).trans ((AaT (by omega)).trans rfl)
 ·exact (e 9).trans ((AaT (by omega)).trans rfl)
 ·exact (e 10).trans ((Aea (by omega)).trans (by rw [AaT (by omega), AaT (by omega)]; rfl))
 ·exact (e 11).trans ((Aea (by omega)).trans (by rw [AaT (by omega)]; rfl))
 ·exact (e 12).trans ((Aea (by omega)).trans (by rw [AaT (by omega), AaT (by omega)]; rfl))
 ·exact (e 13).trans ((Aea (by omega)).trans (by rw [AaT (by omega), AaT (by omega)]; rfl))
 ·exact (e 14).trans ((Aea (by omega)).trans (by rw [AaT (by omega), AaT (by omega)]; rfl))
 ·exact (e 15).trans ((Aea (by omega)).trans (by rw [AaT (by omega), AaT (by omega)]; rfl))
def ok16 (n : Int) : Bool := decide (0 ≤ n) && decide (n < 16)
abbrev eI1 := en1 vI
theorem AfS : InjT eI1 := AcI AgK
theorem sIt : OrcS Tryz.prog (oIt (okG eI1 ok16) fun x => sgDig.getD (theT eI1 x).toNat e0) :=
 .cons (.t' (enc := eI1) (c := ok16) (r := fun n => vS (sgDig.getD n.toNat e0)) fun n h => by
  unfold ok16 at h
  simp only [Bool.and_eq_true, decide_eq_true_eq] at h
  have := ito.cItoa n (by omega) (by omega)
  rw [dig_dec n h.1 h.2] at this
  exact this) .nil
theorem sgBus_at {k : Nat} (h : k < 16) : sgBus.getD k e0 = sgTrip ++ sgDig.getD k e0 := by
 have : ∀ k, k < 16 → sgBus.getD k e0 = sgTrip ++ sgDig.getD k e0 := by
  intro k hk
  unfold sgBus
  rw [List.getD_eq_getElem?_getD, List.getElem?_map, List.getElem?_range hk]
  rfl
 exact this k h
theorem dig_size : ∀ k, k < 16 → (sgDig.getD k e0).size ≤ 2 := by decide
theorem lpfix (okd : List AV → Bool) (it : List AV → ByteArray) (hok : ∀ k : Nat, k < 16 → okd [vI k] = true) (hit : ∀ k : Nat, k < 16 → it [vI k] = sgDig.getD k e0) (q : Int) (g : Nat) : ∀ (m k : Nat) (f : Nat → List D), k ≤ 16 → 16 - k < m → RLe busC e0 k f (sgBus.take k) →
  ∃ f', RLe busC e0 16 f' sgBus ∧ Agh okd it q g m k f k = some (.leaf (.c (.row 0 1 16), [(0, .row 16 f' 1 9)]))
 | 0, k, f, _, h, _ => by omega
 | m + 1, k, f, hk, h, hr => by
  rw [stfix_10]
  by_cases hlt : k < 16
  ·have l : sgBus.length = 16 := by simp [sgBus]
   have hr' : RLe busC e0 (k + 1) (appF k f (Aat (busC (sgTrip ++ sgDig.getD k e0)) 1)) (sgBus.take (k + 1)) := by
    have := hr.app (x := sgBus.getD k e0) (sz := 1) (ds := busC (sgTrip ++ sgDig.getD k e0)) rfl (by rw [sgBus_at hlt]; exact .refl _)
    rw [List.take_add_one, show sgBus[k]? = some (sgBus.getD k e0) by simp [List.getD, l, hlt]]
    exact this
   obtain ⟨f', h1, h2⟩ := lpfix okd it hok hit q g m (k + 1) _ (by omega) (by omega) hr'
   refine ⟨f', h1, ?_⟩
   have e1 : decide ((k : Int) < 16) = true := decide_eq_true (by omega)
   have e2 := hok k hlt
   have e3 := hit k hlt
   have e4 : decide (ByteArray.size (ByteArray.mk #[(116 : UInt8), (114 : UInt8), (105 : UInt8), (112 : UInt8)]) + ByteArray.size (sgDig.getD k e0) ≤ (9223372036854775807 : Nat)) = true := decide_eq_true (by
    have := dig_size k hlt
    show 4 + _ ≤ _
    omega)
   rw [e1, e2, e3, e4, AdE (by omega)]
   simp only [cond_true]
   rw [show IntKind.wrap IntKind.i64 ((k : Int) + 1) = ((k + 1 : Nat) : Int) by rw [AdI (by omega) (by omega)]; omega]
   exact h2
  ·obtain rfl : k = 16 := by omega
   rw [List.take_of_length_le (by simp [sgBus])] at hr
   exact ⟨f, hr, rfl⟩
theorem cFixed (k : Int) (h1 : 1 ≤ k) (h4 : k ≤ 4) : CX Tryz.prog 108 [vI k] [] (rowS (Abt k)) (hpS (Abt k)) := by
 have : k = 1 ∨ k = 2 ∨ k = 3 ∨ k = 4 := by omega
 have go : ∀ (k : Int) (l : List ByteArray), Aai Tryz.prog (oIt (okG eI1 ok16) fun x => sgDig.getD (theT eI1 x).toNat e0) annfix 20 Tryz.f108 (Aad Tryz.f108) [vI k] [] = some (.leaf (.c (.row 0 1 l.length), [(0, .cells ((l.map dS).map .d) 9)])) →
  CX Tryz.prog 108 [vI k] [] (rowS l) (hpS l) := fun k l h =>
  CX.of_cr Tryz.func108 bfix (CR.cellsRow (ds := l.map dS) (by simp) (fun i hi => by
   simp [busC, List.getD, hi]) (cr_of sIt.ok Tryz.func108 bfix rfl h))
 rcases this with rfl | rfl | rfl | rfl
 ·have e := evfix (okG eI1 ok16) (fun x => sgDig.getD (theT eI1 x).toNat e0) 1 20
  rw [show ((1 : Int) == 1) = true from rfl, cond_true] at e
  exact go 1 sgLine e
 ·have e := evfix (okG eI1 ok16) (fun x => sgDig.getD (theT eI1 x).toNat e0) 2 20
  rw [show ((2 : Int) == 1) = false from rfl, cond_false, show ((2 : Int) == 2) = true from rfl, cond_true, cond_true] at e
  exact go 2 sgSrc e
 ·have e := evfix (okG eI1 ok16) (fun x => sgDig.getD (theT eI1 x).toNat e0) 3 20
  rw [show ((3 : Int) == 1) = false from rfl, cond_false, show ((3 : Int) == 2) = false from rfl, cond_false, show ((3 : Int) == 3) = true from rfl, cond_true] at e
  exact go 3 sgSrc e
 ·obtain ⟨f', hr, he⟩ := lpfix (okG eI1 ok16) (fun x => sgDig.getD (theT eI1 x).toNat e0) (fun k hk => Aam AfS (c := ok16) (k : Int) (by unfold ok16; rw [decide_eq_true (by omega), decide_eq_true (by omega)]; rfl))
   (fun k hk => by
     have : theT eI1 [vI (k : Int)] = (k : Int) := Aah AfS (k : Int)
     rw [this, Int.toNat_natCast]) 4 20 20 0 (fun _ => []) (by omega) (by omega) (.nil _)
  have e := evfix (okG eI1 ok16) (fun x => sgDig.getD (theT eI1 x).toNat e0) 4 20
  rw [show ((4 : Int) == 1) = false from rfl, cond_false, show ((4 : Int) == 2) = false from rfl, cond_false, show ((4 : Int) == 3) = false from rfl, cond_false, show ((4 : Int) == 4) = true from rfl, cond_true] at e
  have he : Agh (okG eI1 ok16) (fun x => sgDig.getD (theT eI1 x).toNat e0) 4 20 20 0 (fun _ => []) 0 = _ := he
  have hl : sgBus.length = 16 := by simp [sgBus]
  have c := Aau sIt.ok Tryz.func108 bfix rfl (e.trans he)
  show CX Tryz.prog 108 [vI 4] [] (rowS sgBus) (hpS sgBus)
  unfold rowS hpS
  rw [hl]
  exact c.le (.refl _) (.cons ⟨rfl, rfl, rfl, hr.le⟩ (.refl _))
end Go.Proofs.YtbpndheehcbldaaGreatDoor.sg
namespace Go.Proofs.YtbpndheehcbldaaGreatDoor.cln
open Go.Shelf
def laysC_ren : Go.Shelf.Ren := ⟨fun | 16 => 142 | n => n, fun | 24 => 22 | 9 => 9 | 4 => 4 | n => n, fun | n => n⟩
theorem laysC : Go.Proofs.Lays2.n16 Tryz.prog laysC_ren := {
 mixed := by kernel_rfl
 f16 := Tryz.func142.trans (congrArg some (by kernel_rfl))
 t4 := Tryz.underlying4
 a4 := Tryz.isAgg4
 z4 := Tryz.sizeOf4
 v4 := Tryz.zeroValue4
 t9 := Tryz.underlying9
 a9 := Tryz.isAgg9
 z9 := Tryz.sizeOf9
 v9 := Tryz.zeroValue9
 t24 := Tryz.underlying22
 a24 := Tryz.isAgg22
 z24 := Tryz.sizeOf22
 v24 := Tryz.zeroValue22
 i9 := by kernel_rfl }
end Go.Proofs.YtbpndheehcbldaaGreatDoor.cln
namespace Go.Proofs.YtbpndheehcbldaaGreatDoor.cln
open Go.RowKit Go.Eb
set_option maxRecDepth 100000
theorem cClone (ws : List ByteArray) (h0 : ws ≠ []) (h1 : ws.length ≤ 1000000) : CX Tryz.prog 142 [.c (.d (Aaa ws))] [] (.c (.row 0 1 ws.length)) [(0, .row ws.length (fun i => busC (ws.getD i e0)) 1 9)] := by
 refine CX.of_cr Tryz.func142 (by kernel_rfl : Tryz.f142.body = some (Aad Tryz.f142)) ?_
 intro β I w vs hr ha
 obtain ⟨hl, hv⟩ := ha
 have hs : vs.size = 1 := by rw [← hl]; rfl
 obtain ⟨v, rfl⟩ : ∃ v, vs = #[v] := by
  refine ⟨vs[0]'(by omega), ?_⟩
  apply Array.ext
  ·simp [hs]
  ·intro i h1 h2
   have : i = 0 := by omega
   subst this
   rfl
 have hx : RepA β w I (.c (.d (Aaa ws))) v := hv 0 _ v rfl (by simp)
 have hd : RepD w I (.sl 1 ws.length fun i => busC (ws.getD i e0)) v := hx
 have hfree : ∀ h, β h = .free := fun h => hr.dom h rfl
 have hpos : 0 < ws.length := List.length_pos_iff.2 h0
 generalize hn : ws.length = n at hd
 cases hd with
 | nil => omega
 | emp => omega
 | sl _ _ _ b off cap g hcap hsz hc hi hre =>
  have hcell : ∀ j, j < ws.length → w.cell? ⟨b, off + j, none⟩ = some (.string (ws.getD j ByteArray.empty)) := fun j hj => by
   have e1 := hc j 0 _ (by omega) rfl
   have e2 := hre j 0 _ (by omega) rfl
   have e3 : g j 0 = .string (ws.getD j e0) := (RepD.v_eq e2)
   rw [Nat.mul_one, Nat.add_zero] at e1
   rw [e1, e3]
   rfl
  refine (Go.Proofs.Any.slices_Clone_string laysC b off n cap ws w (by omega) (by omega) hcell).mono ?_
  rintro e w' ⟨v', rfl, hown, hnn, hbel⟩
  obtain ⟨hlen, hcase⟩ := hown
  rcases hcase with ⟨rfl, _⟩ | ⟨gb, cap', cur, rfl, hge, hheap, hle, hmx, hcs, htake⟩
  ·exact absurd rfl hnn
  have hgb : gb < w'.heap.size := (Array.getElem?_eq_some_iff.1 hheap).1
  have hb0 : ∀ k bb, (setB β 0 (.row (some gb) n) k).blk = some bb → k = 0 ∧ bb = gb := fun k bb hk => by
   by_cases e : k = 0
   ·subst e
    rw [Aag] at hk
    exact ⟨rfl, by simpa [Nst.blk] using hk.symm⟩
   ·rw [AaN e, hfree] at hk
    cases hk
  have hcl : ∀ bb o, I bb o → w'.cell? ⟨bb, o, none⟩ = w.cell? ⟨bb, o, none⟩ := fun bb o hI => by
   unfold World.cell?
   rw [hbel.block bb (hr.old bb o hI)]
  have hE : Ext β I (setB β 0 (.row (some gb) n)) I w w' := ⟨hbel.os, hbel.tape, hbel.output, hbel.size, fun bb hbb _ => hbel.block bb hbb, fun _ _ hI => hI, hcl, fun _ _ hI => .inl hI, fun k bb hk => .inr (by rw [(hb0 k bb hk).2]; exact hge),
   fun bb cs t fz hbb => ⟨cs, fz, by rw [hbel.block bb (Array.getElem?_eq_some_iff.1 hbb).1]; exact hbb, rfl⟩⟩
  have hcur : ∀ i, i < n → cur[i]? = some (.string (ws.getD i e0)) := fun i hi' => by
   have h2 : (cur.toList.take (n * 1))[i]? = some (.string (ws.getD i e0)) := by
    rw [htake, List.take_of_length_le (by omega)]
    have : i < ws.length := by omega
    simp [List.getD, this]
   rw [List.getElem?_take] at h2
   rw [if_pos (by omega)] at h2
   rw [← Array.getElem?_toList]
   exact h2
  refine ⟨_, setB β 0 (.row (some gb) n), I, rfl, ⟨⟨fun i j bb h1 h2 => by rw [(hb0 i bb h1).1, (hb0 j bb h2).1], fun k bb hk => by rw [(hb0 k bb hk).2]; exact hgb, fun k bb o hk hI => ?_, fun bb o hI => Nat.lt_of_lt_of_le (hr.old bb o hI) hbel.size, hr.gl.step (fun _ _ hI => hI) hcl⟩, fun k hk => ?_, fun k B hB => ?_⟩, ?_, hE, .set (hfree 0) _⟩
  ·rw [(hb0 k bb hk).2] at hI
   have := hr.old gb o hI
   omega
  ·by_cases e : k = 0
   ·subst e
    have hk' : (some (Blk.row n (fun i => busC (ws.getD i e0)) 1 9) : Option Blk) = none := hk
    cases hk'
   ·rw [AaN e]; exact hfree k
  ·by_cases e : k = 0
   ·subst e
    have hB' : some (Blk.row n (fun i => busC (ws.getD i e0)) 1 9) = some B := hB
    cases hB'
    refine ⟨by omega, .inr ⟨gb, cur, Aag _ _ _, hheap, by rw [hcs]; omega, fun i hi' => ⟨rfl, fun j d hj => ?_⟩⟩⟩
    match j, hj with
    | 0, hj =>
     have hj' : dS (ws.getD i e0) = d := by simpa [busC] using hj
     subst hj'
     exact ⟨_, by rw [Nat.mul_one, Nat.add_zero]; exact hcur i hi', RepD.v _ rfl⟩
    | j + 1, hj => simp [busC] at hj
   ·have hB' : (bif Nat.beq k 0 then some (Blk.row n (fun i => busC (ws.getD i e0)) 1 9) else none) = some B := hB
    rw [beqD, decide_eq_false e] at hB'
    cases hB'
  ·refine .inr ⟨gb, cap', rfl, hle, .inr ⟨by rw [Aag]; rfl, fun ob m hm => ?_, cur, _, _, hheap, hcs⟩⟩
   rw [Aag] at hm
   cases hm
   omega
end Go.Proofs.YtbpndheehcbldaaGreatDoor.cln
namespace Go.Proofs.YtbpndheehcbldaaGreatDoor.sg
open Go.RowKit Go.Eb Go.Proofs.YtbpndheehcbldaaGreatDoor.st
set_option maxRecDepth 100000
abbrev lfR (n : Nat) (f : Nat → List D) : Option (T (AV × Hp)) := some (.leaf (.c (.row 0 1 n), [(0, .row n f 1 9)]))
theorem cNru (l : List SRule) (hl : l.length ≤ 5000) : CX Tryz.prog 109 [.c (.d (AgR l)), .c (.d (.v (.func (.func 110) #[] #[])))] [] (.c (.d (Aaa (l.map SRule.name)))) [] := by
 have ho : Acg Tryz.prog (Orc.cons 110 (inl Tryz.prog Orc.nil na 1 Tryz.f110) Orc.nil) := (OrcS.cons (.inl .nil Tryz.func110 (by kernel_rfl)) .nil).ok
 obtain ⟨f', h1, h2⟩ := app_loop (L := fun m n f i => Lnru_3 l (l.length + 1) m n f i) (K := lfR) (l := l) (d := AaI) (c := busC) (d0 := e0) (ch := fun x => [dS x.name]) (e := SRule.name) (sz := 1)
  (fun m k n f hk hn => by rw [stnru_3, lt1 hk, ge0, tn, nx hk (by omega), AdE (by omega), tt, cond_true, cond_true, cond_true, Nat.zero_add])
  (fun m n f => by rw [stnru_3, lt0 (Nat.lt_irrefl _)]; rfl) (fun _ => rfl) (fun k hk => .refl _) (l.length + 1) 0 0 (fun _ => []) [] (by omega) (by omega) (by omega) (.nil _)
 simp only [Nat.sub_zero, Nat.zero_add, List.nil_append, List.drop_zero] at h1 h2
 have h2 : Lnru_3 l (l.length + 1) (l.length + 1) 0 (fun _ => []) 0 = lfR l.length f' := h2
 have hc := (cr_of ho Tryz.func109 bnru rfl ((evnru l (l.length + 1)).trans h2)).data (y := .c (.d (.sl 1 l.length f'))) rfl
 exact (CX.of_cr Tryz.func109 bnru hc).le (show DE _ _ from h1.de) (.refl _)
theorem cNsu (l : List SSub) (hl : l.length ≤ 5000) : CX Tryz.prog 210 [.c (.d (subsD l)), .c (.d (.v (.func (.func 211) #[] #[])))] [] (.c (.d (Aaa (l.map SSub.loc)))) [] := by
 have ho : Acg Tryz.prog (Orc.cons 211 (inl Tryz.prog Orc.nil na 1 Tryz.f211) Orc.nil) := (OrcS.cons (.inl .nil Tryz.func211 (by kernel_rfl)) .nil).ok
 obtain ⟨f', h1, h2⟩ := app_loop (L := fun m n f i => Lnsu_3 l (l.length + 1) m n f i) (K := lfR) (l := l) (d := sub0) (c := busC) (d0 := e0) (ch := fun x => [dS x.loc]) (e := SSub.loc) (sz := 1)
  (fun m k n f hk hn => by rw [stnsu_3, lt1 hk, ge0, tn, nx hk (by omega), AdE (by omega), tt, cond_true, cond_true, cond_true, Nat.zero_add])
  (fun m n f => by rw [stnsu_3, lt0 (Nat.lt_irrefl _)]; rfl) (fun _ => rfl) (fun k hk => .refl _) (l.length + 1) 0 0 (fun _ => []) [] (by omega) (by omega) (by omega) (.nil _)
 simp only [Nat.sub_zero, Nat.zero_add, List.nil_append, List.drop_zero] at h1 h2
 have h2 : Lnsu_3 l (l.length + 1) (l.length + 1) 0 (fun _ => []) 0 = lfR l.length f' := h2
 have hc := (cr_of ho Tryz.func210 bnsu rfl ((evnsu l (l.length + 1)).trans h2)).data (y := .c (.d (.sl 1 l.length f'))) rfl
 exact (CX.of_cr Tryz.func210 bnsu hc).le (show DE _ _ from h1.de) (.refl _)
def fitR (r : SRel) : Bool := (decide (1 ≤ r.kind) && decide (r.kind ≤ 4)) && (decide (r.rules.length ≤ 1000) && (decide (r.sets.length ≤ 1000) && (decide (r.pubs.length ≤ 1000) && (decide (r.subs.length ≤ 1000) && r.sets.all fun x => decide (x.sigs.length ≤ 1000)))))
structure FitR (r : SRel) : Prop where
 k1 : 1 ≤ r.kind
 k4 : r.kind ≤ 4
 ru : r.rules.length ≤ 1000
 se : r.sets.length ≤ 1000
 pu : r.pubs.length ≤ 1000
 su : r.subs.length ≤ 1000
 sg : ∀ x ∈ r.sets, x.sigs.length ≤ 1000
theorem AaC {r : SRel} (h : fitR r = true) : FitR r := by
 unfold fitR at h
 simp only [Bool.and_eq_true, decide_eq_true_eq, List.all_eq_true] at h
 exact ⟨h.1.1, h.1.2, h.2.1, h.2.2.1, h.2.2.2.1, h.2.2.2.2.1, h.2.2.2.2.2⟩
def k14 (n : Int) : Bool := decide (1 ≤ n) && decide (n ≤ 4)
abbrev eNr (l : List SRule) : List AV := [.c (.d (AgR l)), .c (.d (.v (.func (.func 110) #[] #[])))]
abbrev eNs (l : List SSub) : List AV := [.c (.d (subsD l)), .c (.d (.v (.func (.func 211) #[] #[])))]
theorem eNr_inj : InjT eNr := fun a b h => Aax (sz := 2) (d0 := AaI) Afc _ _ (AfC (Aaj h).1)
theorem eNs_inj : InjT eNs := fun a b h => Aax (sz := 4) (d0 := sub0) Adm _ _ (AfC (Aaj h).1)
def le5 {α : Type} (l : List α) : Bool := decide (l.length ≤ 5000)
theorem Ahq (k : Int) : (Abt k).length ≤ 16 := by
 unfold Abt
 cases (k == 1)
 ·cases (k == 2 || k == 3)
  ·cases (k == 4)
   ·exact Nat.zero_le _
   ·show sgBus.length ≤ 16; simp [sgBus]
  ·show sgSrc.length ≤ 16; decide
 ·show sgLine.length ≤ 16; decide
theorem Aeq (r : SRel) : (outS r).length ≤ 16 + r.rules.length := by
 unfold outS
 have := Ahq r.kind
 simp; omega
theorem cOu (r : SRel) (h : FitR r) : CX Tryz.prog 45 [aRel r] [] (rowS (outS r)) (hpS (outS r)) := by
 have ho : OrcS Tryz.prog (oOu (okG eI1 k14) (fun x => Abt (theT eI1 x)) (okG eNr le5) fun x => (theT eNr x).map SRule.name) :=
  .cons (.nt (enc := eI1) (c := k14) (r := fun k => rowS (Abt k)) (H' := fun k => hpS (Abt k)) fun k hk => by
   unfold k14 at hk
   simp only [Bool.and_eq_true, decide_eq_true_eq] at hk
   exact cFixed k hk.1 hk.2) (.cons (.t' (enc := eNr) (c := le5) (r := fun l => .c (.d (Aaa (l.map SRule.name)))) fun l hl => cNru l (by unfold le5 at hl; simpa using hl)) .nil)
 have e := evOu (okG eI1 k14) (fun x => Abt (theT eI1 x)) (okG eNr le5) (fun x => (theT eNr x).map SRule.name) r
 have k1 : okG eI1 k14 [AV.c (C.d (D.v (Value.int IntKind.i64 r.kind)))] = true := Aam AfS (c := k14) r.kind (by unfold k14; rw [decide_eq_true h.k1, decide_eq_true h.k4]; rfl)
 have k2 : theT eI1 [AV.c (C.d (D.v (Value.int IntKind.i64 r.kind)))] = r.kind := Aah AfS r.kind
 have k3 : okG eNr le5 (eNr r.rules) = true := Aam eNr_inj (c := le5) r.rules (by unfold le5; exact decide_eq_true (by have := h.ru; omega))
 have k4 : theT eNr (eNr r.rules) = r.rules := Aah eNr_inj r.rules
 have k5 : (decide (((Abt r.kind).length + (r.rules.map SRule.name).length) * 16 ≤ 140737488355328) && decide ((Abt r.kind).length + (r.rules.map SRule.name).length ≤ 9223372036854775807)) = true := by
  have := Ahq r.kind
  have := h.ru
  rw [List.length_map, decide_eq_true (by omega), decide_eq_true (by omega)]; rfl
 rw [k1, k2, k3, k4, k5, cond_true, cond_true, cond_true] at e
 refine (Aau ho.ok Tryz.func45 (by kernel_rfl) rfl e).le ?_ (.cons ((RL.cat (RL.data (Abt r.kind)) (RL.data (r.rules.map SRule.name))).ble) (.refl _))
 unfold rowS
 rw [show (outS r).length = (Abt r.kind).length + (r.rules.map SRule.name).length from List.length_append]
 exact .refl _
theorem cIn (r : SRel) (h : FitR r) : CX Tryz.prog 143 [aRel r] [] (.c (.d (Aaa (inS r)))) [] := by
 have ho : OrcS Tryz.prog (Orc.cons 210 (ansG (okG eNs le5) fun x => .c (.d (Aaa ((theT eNs x).map SSub.loc)))) Orc.nil) :=
  .cons (.t' (enc := eNs) (c := le5) (r := fun l => .c (.d (Aaa (l.map SSub.loc)))) fun l hl => cNsu l (by unfold le5 at hl; simpa using hl)) .nil
 have e := evIn (okG eNs le5) (fun x => (theT eNs x).map SSub.loc) r
 have k3 : okG eNs le5 (eNs r.subs) = true := Aam eNs_inj (c := le5) r.subs (by unfold le5; exact decide_eq_true (by have := h.su; omega))
 have k4 : theT eNs (eNs r.subs) = r.subs := Aah eNs_inj r.subs
 rw [k3, k4, cond_true] at e
 exact Aau ho.ok Tryz.func143 (by kernel_rfl) rfl e
theorem cOuD (r : SRel) (h : FitR r) : CX Tryz.prog 45 [aRel r] [] (.c (.d (Aaa (outS r)))) [] := by
 have hb : Tryz.f45.body = some (Aad Tryz.f45) := by kernel_rfl
 exact CX.of_cr Tryz.func45 hb (((cOu r h).cr Tryz.func45 hb).data (y := .c (.d (Aaa (outS r)))) rfl)
def eSx (a : List SSet × ByteArray) : List AV × Hp := ([.c (.d (AfH a.1)), .c (.fn 212 [] [.ptr 0 0])], HN a.2)
theorem dcell {x y : D} {a b : List D} (h : Csle ((x :: a).map .d) ((y :: b).map .d)) : DE x y := h.2 0 (.d x) (.d y) rfl rfl
theorem eSx_inj : InjY eSx := fun a b h1 h2 => Prod.ext (Aax (sz := 2) (d0 := set0) Aem _ _ (AfC (Aaj h1).1))
 (AcK (dcell (x := dS a.2) (y := dS b.2) (a := []) (b := []) (AfA (Aeu h2 0 (a := .cells [.d (dS a.2)] 9) (b := .cells [.d (dS b.2)] 9) rfl rfl))))
def ePx (a : List SPub × SSub) : List AV × Hp := ([.c (.d (pubsD a.1)), .c (.fn 146 [] [.ptr 0 0])], HSb a.2)
theorem ePx_inj : InjY ePx := fun a b h1 h2 => Prod.ext (Aax (sz := 3) (d0 := pub0) Afe _ _ (AfC (Aaj h1).1))
 (Adm _ _ (ale_agg (x := subC a.2) (y := subC b.2) (AfA (Aeu h2 0 (a := .cells ((subC a.2).map .d) 68) (b := .cells ((subC b.2).map .d) 68) rfl rfl))))
abbrev eRS := en2 aRel vS
theorem AdY : InjT eRS := Ahr Aew vS_inj
noncomputable def ZSo : KSo where
 ok := okZ eSx fun a => Aaq a.1
 ix x H := idxP (fun s : SSet => isT s.name (theY eSx x H).2) 0 (theY eSx x H).1
 nm x H := (theY eSx x H).2
theorem sSo : OrcS Tryz.prog (oSo ZSo) := .cons (.m (enc := eSx) (c := fun a => Aaq a.1) (r := fun a => vI (idxP (fun s : SSet => isT s.name a.2) 0 a.1)) (H' := fun a => HN a.2) fun a h => cisx a.1 a.2 (AaF h)) .nil
theorem cSo (r : SRel) (n : ByteArray) (h : Aaq r.sets = true) : CX Tryz.prog 144 [aRel r, vS n] [] (vI (Aaw r n)) [] := by
 have e := evSo ZSo r n
 have k1 : ZSo.ok (eSx (r.sets, n)).1 (eSx (r.sets, n)).2 = true := AeP eSx_inj (c := fun a => Aaq a.1) (r.sets, n) h
 have t : theY eSx (eSx (r.sets, n)).1 (eSx (r.sets, n)).2 = (r.sets, n) := Adl eSx_inj (r.sets, n)
 have k2 : ZSo.ix (eSx (r.sets, n)).1 (eSx (r.sets, n)).2 = Aaw r n := by dsimp only [ZSo]; rw [t]; rfl
 unfold eSx HN at k1 k2
 refine Aau sSo.ok Tryz.func144 (by kernel_rfl) rfl (e.trans ?_)
 refine (congrArg (fun b => cond b _ _) k1).trans ?_
 rw [cond_true]
 exact congrArg (fun n => some (T.leaf (vI n, ([] : Hp)))) k2
theorem lpsix (l : List ByteArray) (n : ByteArray) (g : Nat) (hb : l.length ≤ 9223372036854775807) : ∀ (m k : Nat), k ≤ l.length → l.length - k < m → Lsix_2 l n g m k = some (.leaf (vI (idxP (fun x : ByteArray => isT x n) k (l.drop k)), []))
 | 0, k, _, h => by omega
 | m + 1, k, hk, h => by
  rw [stsix_2]
  by_cases hlt : k < l.length
  ·rw [Aar (d := e0) hlt, lt1 hlt, ge0, tn, nx hlt hb, lpsix l n g hb m (k + 1) (by omega) (by omega), tt, cond_true, cond_true]
   simp only [idxP]
   rw [isT_symm (l.getD k e0) n]
   show (bif isT n (l.getD k e0) then _ else _) = _
   cases isT n (l.getD k e0) <;> rfl
  ·rw [lt0 hlt, List.drop_of_length_le (by omega)]
   rfl
theorem cSix (l : List ByteArray) (n : ByteArray) (h : Aaq l = true) : CX Tryz.prog 48 [.c (.d (Aaa l)), vS n] [] (vI (AaX l n)) [] :=
 Aau (Orc.nil_ok _) Tryz.func48 bsix rfl ((evsix l n (l.length + 1)).trans (lpsix l n (l.length + 1) (AaF h) (l.length + 1) 0 (by omega) (by omega)))
noncomputable def ZFi : KFi where
 okr := okG eRS fun a => Aaq a.1.sets
 so x := Aaw (theT eRS x).1 (theT eRS x).2
 okp := okZ ePx fun a => Aaq a.1
 px x H := idxP (fun p : SPub => isT p.set (theY ePx x H).2.set) 0 (theY ePx x H).1
 sb x H := (theY ePx x H).2
 okx := okG eIx cIx
 ix x := AaX (theT eIx x).1 (theT eIx x).2
theorem sFi : OrcS Tryz.prog (oFi ZFi) :=
 .cons (.t' (enc := eRS) (c := fun a => Aaq a.1.sets) (r := fun a => vI (Aaw a.1 a.2)) fun a h => cSo a.1 a.2 h)
  (.cons (.inl (.cons (.m (enc := ePx) (c := fun a => Aaq a.1) (r := fun a => vI (idxP (fun p : SPub => isT p.set a.2.set) 0 a.1)) (H' := fun a => HSb a.2) fun a h => cipx a.1 a.2 (AaF h)) .nil) Tryz.func145 (by kernel_rfl))
  (.cons (.t' (enc := eIx) (c := cIx) (r := fun a => vI (AaX a.1 a.2)) fun a h => cSix a.1 a.2 h) .nil))
theorem cFind (c : SCfg) (of dev : Int) (x : SSub) (hd : dev < c.rels.length) (ha : c.rels.all Abk = true) : CX Tryz.prog 79 [aCfg c, vI of, vI dev, aSub' x] [] (aPl (AdW c.rels of dev x)) [] := by
 refine Aau sFi.ok Tryz.func79 (by kernel_rfl) rfl ((evFi ZFi c of dev x).trans ?_)
 unfold AdW
 cases h1 : decide (dev < 0) with
 | true => rfl
 | false =>
  have h1' : 0 ≤ dev := by have := of_decide_eq_false h1; omega
  cases h2 : (dev == of) with
  | true => rfl
  | false =>
   have hr : Abk (c.rels.getD dev.toNat rel0) = true := Acu ha rfl _
   generalize c.rels.getD dev.toNat rel0 = r at hr ⊢
   obtain ⟨_, o2, o3, _, o5⟩ := AdR hr
   have e1 : (decide (0 ≤ dev) && decide (dev < (c.rels.length : Int))) = true := by rw [decide_eq_true h1', decide_eq_true hd]; rfl
   have k1 : ZFi.okr [AV.agg (List.map C.d (relC r)), AV.c (C.d (D.v (Value.string x.set)))] = true := Aam AdY (c := fun a => Aaq a.1.sets) (r, x.set) (by unfold Aaq; exact decide_eq_true o2)
   have t1 : theT eRS [AV.agg (List.map C.d (relC r)), AV.c (C.d (D.v (Value.string x.set)))] = (r, x.set) := Aah AdY (r, x.set)
   have k2 : ZFi.so [AV.agg (List.map C.d (relC r)), AV.c (C.d (D.v (Value.string x.set)))] = Aaw r x.set := by dsimp only [ZFi]; rw [t1]
   have k3 : ZFi.okp (ePx (r.pubs, x)).1 (ePx (r.pubs, x)).2 = true := AeP ePx_inj (c := fun a => Aaq a.1) (r.pubs, x) (by unfold Aaq; exact decide_eq_true o3)
   have t2 : theY ePx (ePx (r.pubs, x)).1 (ePx (r.pubs, x)).2 = (r.pubs, x) := Adl ePx_inj (r.pubs, x)
   have k4 : ZFi.px (ePx (r.pubs, x)).1 (ePx (r.pubs, x)).2 = idxP (fun p : SPub => isT p.set x.set) 0 r.pubs := by dsimp only [ZFi]; rw [t2]
   have k5 : ZFi.sb (ePx (r.pubs, x)).1 (ePx (r.pubs, x)).2 = x := by dsimp only [ZFi]; rw [t2]
   unfold ePx HSb at k3 k4 k5
   simp only [] at k3 k4 k5
   rw [e1, k1, k2, k3, k4, k5]
   simp only [cond_true, cond_false, Ahk]
   unfold findC
   cases h3 : decide (Aaw r x.set < 0) with
   | true => rfl
   | false =>
    cases h4 : (r.pubs.any fun p => isT p.set x.set) with
    | false => rfl
    | true =>
     obtain ⟨j, hj, hje, _⟩ := Aco (p := fun s : SSet => isT s.name x.set) set0 (l := r.sets) (by have := of_decide_eq_false h3; show 0 ≤ Aaw r x.set; omega)
     have hje : Aaw r x.set = j := hje
     have e2 : (decide (0 ≤ Aaw r x.set) && decide (Aaw r x.set < (r.sets.length : Int))) = true := by rw [hje, decide_eq_true (by omega), decide_eq_true (by omega)]; rfl
     have hs : Afg (r.sets.getD (Aaw r x.set).toNat set0) = true := Acu o5 rfl _
     generalize r.sets.getD (Aaw r x.set).toNat set0 = q at hs ⊢
     have k6 : ZFi.okx [AV.c (C.d (Aab 1 busC e0 q.sigs)), AV.c (C.d (D.v (Value.string x.sig)))] = true := Aam AbU (c := cIx) (q.sigs, x.sig) hs
     have t3 : theT eIx [AV.c (C.d (Aab 1 busC e0 q.sigs)), AV.c (C.d (D.v (Value.string x.sig)))] = (q.sigs, x.sig) := Aah AbU (q.sigs, x.sig)
     have k7 : ZFi.ix [AV.c (C.d (Aab 1 busC e0 q.sigs)), AV.c (C.d (D.v (Value.string x.sig)))] = AaX q.sigs x.sig := by dsimp only [ZFi]; rw [t3]
     rw [e2, k6, k7]
     simp only [Bool.not_true, cond_true, cond_false]
     cases h5 : decide (AaX q.sigs x.sig < 0) <;> rfl
end Go.Proofs.YtbpndheehcbldaaGreatDoor.sg
namespace Go.Proofs.YtbpndheehcbldaaGreatDoor.sg
open Go.RowKit Go.Eb Go.Proofs.YtbpndheehcbldaaGreatDoor.st
set_option maxRecDepth 100000
structure KSc where
 okd : List AV → Bool
 dm : List AV → List (Value × Value)
 oko : List AV → Bool
 ow : List AV → Int
 okf : List AV → Bool
 fi : List AV → Plc
noncomputable def oSc (Z : KSc) : Orc := Orc.cons 77 (ansN (fun x => Z.okd x) (fun _ => .c (.mp 0)) fun x => [(0, .map 1 (Z.dm x))]) (Orc.cons 78 (ansG Z.oko fun x => vI (Z.ow x)) (Orc.cons 79 (ansG Z.okf fun x => aPl (Z.fi x)) (Orc.cons 80 (inl Tryz.prog Orc.nil na 1 Tryz.f80) Orc.nil)))
noncomputable def annsck : Ann := AaE [(3, ⟨[4, 1, 13, 14, 15], []⟩), (9, ⟨[5, 4, 1, 27, 13, 14, 15, 28, 29], []⟩)]
noncomputable def Lsck_3 (Z : KSc) (c : SCfg) (g m : Nat) (l1 : List (Value × Value)) (i15 : Int) := LK Tryz.prog (oSc Z) annsck 0 g Tryz.f33 3 m ⟨frm [(1, .c (.ptr 0 0)), (4, .c (.mp 1)), (13, .c (.d (Aab 53 relC rel0 (SCfg.rels c)))), (14, .c (.d (.v (.int .i64 (↑(List.length (SCfg.rels c)) : Int))))), (15, .c (.d (.v (.int .i64 i15))))] 0 Tryz.f33.ntmps, [(0, Blk.cells (List.map C.d (cfgC c)) 30), (1, Blk.map 1 l1)], 2⟩
noncomputable def Lsck_9 (Z : KSc) (c : SCfg) (g mo m : Nat) (l1 : List (Value × Value)) (i5 : Int) (i15 : Int) (i28 : Int) (i29 : Int) := LK2 Tryz.prog (oSc Z) annsck 0 g Tryz.f33 3 mo 9 m ⟨frm [(1, .c (.ptr 0 0)), (4, .c (.mp 1)), (5, .c (.d (.v (.int .i64 i5)))), (13, .c (.d (Aab 53 relC rel0 (SCfg.rels c)))), (14, .c (.d (.v (.int .i64 (↑(List.length (SCfg.rels c)) : Int))))), (15, .c (.d (.v (.int .i64 i15)))), (27, .c (.d (Aab 4 subC sub0 (SRel.subs (List.getD (SCfg.rels c) (Int.toNat i15) rel0))))), (28, .c (.d (.v (.int .i64 i28)))), (29, .c (.d (.v (.int .i64 i29))))] 0 Tryz.f33.ntmps, [(0, Blk.cells (List.map C.d (cfgC c)) 30), (1, Blk.map 1 l1)], 2⟩
theorem bsck : Tryz.f33.body = some (Aad Tryz.f33) := by kernel_rfl
theorem evsck (Z : KSc) (c : SCfg) (g : Nat) : Aai Tryz.prog (oSc Z) annsck g Tryz.f33 (Aad Tryz.f33) [aCfg c] [] =
 (bif KSc.okd Z [AV.agg (List.map C.d (cfgC c))] then Lsck_3 Z c g g (KSc.dm Z [AV.agg (List.map C.d (cfgC c))]) 0 else none) := by kernel_rfl
theorem stsck_3 (Z : KSc) (c : SCfg) (g m : Nat) (l1 : List (Value × Value)) (i15 : Int) : Lsck_3 Z c g (m + 1) l1 i15 =
 (bif decide (i15 < (↑c.rels.length : Int)) then (bif decide (0 ≤ i15) && decide (i15 < (↑c.rels.length : Int)) then (bif KSc.oko Z [AV.agg (List.map C.d (relC (c.rels.getD
 i15.toNat rel0)))] then (bif KSc.ow Z [AV.agg (List.map C.d (relC (c.rels.getD i15.toNat rel0)))] != 0 then some (T.leaf (AV.tup [(false, [C.d (.v (.int .i64 i15))]), (false, [C.d
 (.v (.int .i64 (KSc.ow Z [AV.agg (List.map C.d (relC (c.rels.getD i15.toNat rel0)))])))])], [])) else Lsck_9 Z c g m g l1 i15 i15 ((↑(SRel.subs (c.rels.getD i15.toNat rel0)).length
 : Int)) 0) else none) else none) else some (T.leaf (AV.tup [(false, [C.d (.v (.int .i64 0))]), (false, [C.d (.v (.int .i64 0))])], []))) := by kernel_rfl
theorem stsck_9 (Z : KSc) (c : SCfg) (g mo m : Nat) (l1 : List (Value × Value)) (i5 : Int) (i15 : Int) (i28 : Int) (i29 : Int) : Lsck_9 Z c g mo (m + 1) l1 i5 i15 i28 i29 =
 (bif decide (i29 < i28) then (bif decide (0 ≤ i29) && decide (i29 < (↑(SRel.subs (c.rels.getD i15.toNat rel0)).length : Int)) then (bif Option.isSome (Aaz l1 (Value.string
 (SSub.dev ((SRel.subs (c.rels.getD i15.toNat rel0)).getD i29.toNat sub0)))) then (bif KSc.okf Z [AV.agg (List.map C.d (cfgC c)), AV.c (.d (.v (.int .i64 i5))), AV.c (.d (.v (.int
 .i64 (Eb.intOf (Aaz l1 (Value.string (SSub.dev ((SRel.subs (c.rels.getD i15.toNat rel0)).getD i29.toNat sub0)))))))), AV.agg (List.map C.d (subC ((SRel.subs (c.rels.getD i15.toNat
 rel0)).getD i29.toNat sub0)))] then (bif Plc.err (KSc.fi Z [AV.agg (List.map C.d (cfgC c)), AV.c (.d (.v (.int .i64 i5))), AV.c (.d (.v (.int .i64 (Eb.intOf (Aaz l1 (Value.string
 (SSub.dev ((SRel.subs (c.rels.getD i15.toNat rel0)).getD i29.toNat sub0)))))))), AV.agg (List.map C.d (subC ((SRel.subs (c.rels.getD i15.toNat rel0)).getD i29.toNat sub0)))]) != 0
 then some (T.leaf (AV.tup [(false, [C.d (.v (.int .i64 i5))]), (false, [C.d (D.v (Value.int IntKind.i64 (Plc.err (KSc.fi Z [AV.agg (List.map C.d (cfgC c)), AV.c (.d (.v (.int .i64
 i5))), AV.c (.d (.v (.int .i64 (Eb.intOf (Aaz l1 (Value.string (SSub.dev ((SRel.subs (c.rels.getD i15.toNat rel0)).getD i29.toNat sub0)))))))), AV.agg (List.map C.d (subC
 ((SRel.subs (c.rels.getD i15.toNat rel0)).getD i29.toNat sub0)))]))))])], [])) else Lsck_9 Z c g mo m l1 i5 i15 i28 (IntKind.wrap .i64 (i29 + 1))) else none) else (bif KSc.okf Z
 [AV.agg (List.map C.d (cfgC c)), AV.c (.d (.v (.int .i64 i5))), AV.c (.d (.v (.int .i64 (-1)))), AV.agg (List.map C.d (subC ((SRel.subs (c.rels.getD i15.toNat rel0)).getD i29.toNat
 sub0)))] then (bif Plc.err (KSc.fi Z [AV.agg (List.map C.d (cfgC c)), AV.c (C.d (D.v (Value.int IntKind.i64 i5))), AV.c (.d (.v (.int .i64 (-1)))), AV.agg (List.map C.d (subC
 ((SRel.subs (c.rels.getD i15.toNat rel0)).getD i29.toNat sub0)))]) != 0 then some (T.leaf (AV.tup [(false, [C.d (.v (.int .i64 i5))]), (false, [C.d (.v (.int .i64 (Plc.err (KSc.fi
 Z [AV.agg (List.map C.d (cfgC c)), AV.c (.d (.v (.int .i64 i5))), AV.c (.d (.v (.int .i64 (-1)))), AV.agg (List.map C.d (subC ((SRel.subs (c.rels.getD i15.toNat rel0)).getD
 i29.toNat sub0)))]))))])], [])) else Lsck_9 Z c g mo m l1 i5 i15 i28 (IntKind.wrap .i64 (i29 + 1))) else none)) else none) else Lsck_3 Z c g mo l1 (IntKind.wrap .i64 (i15 + 1))) := by kernel_rfl
end Go.Proofs.YtbpndheehcbldaaGreatDoor.sg
namespace Go.Proofs.YtbpndheehcbldaaGreatDoor.sg
open Go.RowKit Go.Eb Go.Proofs.YtbpndheehcbldaaGreatDoor.st
set_option maxRecDepth 100000
theorem lprpt (l : List ByteArray) (g : Nat) (hb : l.length ≤ 9223372036854775807) : ∀ (m k : Nat) (seen : List ByteArray), k ≤ l.length → l.length - k < m → Lrpt_3 l g m (Aak seen) k = some (.leaf (vB (repS seen (l.drop k)), []))
 | 0, k, _, _, h => by omega
 | m + 1, k, seen, hk, h => by
  rw [strpt_3]
  by_cases hlt : k < l.length
  ·rw [Aar (d := e0) hlt, lt1 hlt, ge0, tn, nx hlt hb, Aby, ← Abh, lprpt l g hb m (k + 1) _ (by omega) (by omega), tt, cond_true, cond_true]
   simp only [repS]
   cases inB seen (l.getD k e0) <;> rfl
  ·rw [lt0 hlt, List.drop_of_length_le (by omega)]
   rfl
theorem cRpt (l : List ByteArray) (h : Aaq l = true) : CX Tryz.prog 141 [.c (.d (Aaa l))] [] (vB (repS [] l)) [] :=
 Aau (Orc.nil_ok _) Tryz.func141 brpt rfl ((evrpt l (l.length + 1)).trans (lprpt l (l.length + 1) (AaF h) (l.length + 1) 0 [] (by omega) (by omega)))
theorem lpdvs (c : SCfg) (g : Nat) (hb : c.rels.length ≤ 9223372036854775807) : ∀ (m k : Nat) (acc : List (Value × Value)), k ≤ c.rels.length → c.rels.length - k < m → Ldvs_3 c g m acc k = some (.leaf (.c (.mp 0), [(0, .map 1 (devA acc k (c.rels.drop k)))]))
 | 0, k, _, _, h => by omega
 | m + 1, k, acc, hk, h => by
  rw [stdvs_3]
  by_cases hlt : k < c.rels.length
  ·rw [Aar (d := rel0) hlt, lt1 hlt, ge0, tn, nx hlt hb, lpdvs c g hb m (k + 1) _ (by omega) (by omega), lpdvs c g hb m (k + 1) _ (by omega) (by omega), tt, cond_true, cond_true]
   simp only [devA]
   cases (!(Aaz acc (Value.string (c.rels.getD k rel0).name)).isSome) <;> rfl
  ·rw [lt0 hlt, List.drop_of_length_le (by omega)]
   rfl
theorem cDvs (c : SCfg) (h : Aaq c.rels = true) : CX Tryz.prog 77 [aCfg c] [] (.c (.mp 0)) [(0, .map 1 (devA [] 0 c.rels))] :=
 Aau (Orc.nil_ok _) Tryz.func77 bdvs rfl ((evdvs c (c.rels.length + 1)).trans (lpdvs c (c.rels.length + 1) (AaF h) (c.rels.length + 1) 0 [] (by omega) (by omega)))
abbrev eR1 := en1 aRel
theorem AbK : InjT eR1 := AcI Aew
abbrev eBu := en1 (aD Aaa)
theorem AfV : InjT eBu := AcI (aD_inj (Aax (sz := 1) (d0 := e0) Abu))
def cNe (l : List ByteArray) : Bool := !l.isEmpty && decide (l.length ≤ 1000000)
noncomputable def ZOw : KOw where
 oko := okG eR1 fitR
 ou x := outS (theT eR1 x)
 okn := okG eR1 fitR
 inn x := inS (theT eR1 x)
 okc := okG eBu cNe
 cl x := theT eBu x
 okr := okG eBu Aaq
 rp x := repS [] (theT eBu x)
 oks := okG eRS fun a => Aaq a.1.sets
 so x := Aaw (theT eRS x).1 (theT eRS x).2
theorem sOw : OrcS Tryz.prog (oOw ZOw) :=
 .cons (.t' (enc := eR1) (c := fitR) (r := fun r => .c (.d (Aaa (outS r)))) fun r h => cOuD r (AaC h)) (.cons (.t' (enc := eR1) (c := fitR) (r := fun r => .c (.d (Aaa (inS r)))) fun r h => cIn r (AaC h))
  (.cons (.nt (enc := eBu) (c := cNe) (r := rowS) (H' := hpS) fun l h => by
    unfold cNe at h
    simp only [Bool.and_eq_true, decide_eq_true_eq, Bool.not_eq_true', List.isEmpty_eq_false_iff] at h
    exact cln.cClone l h.1 h.2)
  (.cons (.lt (enc := eBu) (c := Aaq) (r := fun l => vB (repS [] l)) Tryz.func141 brpt (fun _ => rfl) fun l h => cRpt l h)
  (.cons (.t' (enc := eRS) (c := fun a => Aaq a.1.sets) (r := fun a => vI (Aaw a.1 a.2)) fun a h => cSo a.1 a.2 h) .nil))))
theorem outS_ne {r : SRel} (h : FitR r) : outS r ≠ [] := by
 have h1 := h.k1
 have h4 := h.k4
 have : r.kind = 1 ∨ r.kind = 2 ∨ r.kind = 3 ∨ r.kind = 4 := by omega
 unfold outS
 intro e
 have e := (List.append_eq_nil_iff.1 e).1
 rcases this with k | k | k | k <;> (rw [k] at e; revert e; decide)
theorem lpown15 (r : SRel) (g mo : Nat) (K : List ByteArray) (i : Nat) (hs : (r.sets.getD i set0).sigs.length ≤ 1000) : ∀ (m j : Nat) (seen : List ByteArray), j ≤ (r.sets.getD i set0).sigs.length → (r.sets.getD i set0).sigs.length - j < m →
  AhL ZOw r g mo m (Aak K) (Aak seen) i ((r.sets.getD i set0).sigs.length : Nat) j = bif Acz K seen ((r.sets.getD i set0).sigs.drop j) != 0 then lN (Acz K seen ((r.sets.getD i set0).sigs.drop j)) else Ael ZOw r g mo (Aak K) (IntKind.wrap IntKind.i64 ((i : Int) + 1))
 | 0, j, _, _, h => by omega
 | m + 1, j, seen, hj, h => by
  rw [stown_15, tn i, tn j]
  by_cases hlt : j < (r.sets.getD i set0).sigs.length
  ·rw [Aar (d := e0) hlt, lt1 hlt, ge0, nx hlt (by omega), Aby, Aby, ← Abh, lpown15 r g mo K i hs m (j + 1) _ (by omega) (by omega), tt, cond_true, cond_true]
   simp only [Acz]
   cases inB K ((r.sets.getD i set0).sigs.getD j e0) with
   | false => rfl
   | true => cases inB seen ((r.sets.getD i set0).sigs.getD j e0) <;> rfl
  ·rw [lt0 hlt, List.drop_of_length_le (by omega)]
   rfl
theorem lpown11 (r : SRel) (g : Nat) (K : List ByteArray) (hr : FitR r) (hg : 1000 < g) : ∀ (m k : Nat), k ≤ r.sets.length → r.sets.length - k < m →
  Ael ZOw r g m (Aak K) k = bif AbE K (r.sets.drop k) != 0 then lN (AbE K (r.sets.drop k)) else Age ZOw r g g 0
 | 0, k, _, h => by omega
 | m + 1, k, hk, h => by
  rw [stown_11]
  by_cases hlt : k < r.sets.length
  ·have hs := hr.sg _ (AaP set0 hlt)
   have e : AhL ZOw r g m g (Aak K) [] (k : Int) ((r.sets.getD k set0).sigs.length : Nat) 0 = _ := lpown15 r g m K k hs g 0 [] (by omega) (by omega)
   rw [nx hlt (by have := hr.se; omega), lpown11 r g K hr hg m (k + 1) (by omega) (by omega), List.drop_zero] at e
   rw [Aar (d := set0) hlt, lt1 hlt, ge0, tn, tt, cond_true, cond_true]
   refine e.trans ?_
   simp only [AbE]
   cases hz : (Acz K [] (r.sets.getD k set0).sigs != 0) with
   | true => simp only [cond_true, hz]
   | false => rfl
  ·rw [lt0 hlt, List.drop_of_length_le (by omega)]
   rfl
theorem lpown25 (r : SRel) (g : Nat) (hr : FitR r) : ∀ (m k : Nat), k ≤ r.pubs.length → r.pubs.length - k < m → Age ZOw r g m k = lN (AcD r (r.pubs.drop k))
 | 0, k, _, h => by omega
 | m + 1, k, hk, h => by
  rw [stown_25]
  by_cases hlt : k < r.pubs.length
  ·rw [Aar (d := pub0) hlt, lt1 hlt, ge0, tn, nx hlt (by have := hr.pu; omega), lpown25 r g hr m (k + 1) (by omega) (by omega), tt, cond_true, cond_true]
   generalize r.pubs.getD k pub0 = p
   have k1 : ZOw.oks [AV.agg (List.map C.d (relC r)), AV.c (C.d (D.v (Value.string p.set)))] = true := Aam AdY (c := fun a => Aaq a.1.sets) (r, p.set) (by unfold Aaq; exact decide_eq_true (by have := hr.se; show r.sets.length ≤ _; omega))
   have t1 : theT eRS [AV.agg (List.map C.d (relC r)), AV.c (C.d (D.v (Value.string p.set)))] = (r, p.set) := Aah AdY (r, p.set)
   have k2 : ZOw.so [AV.agg (List.map C.d (relC r)), AV.c (C.d (D.v (Value.string p.set)))] = Aaw r p.set := by dsimp only [ZOw]; rw [t1]
   rw [k1, k2, cond_true]
   simp only [AcD]
   cases decide (Aaw r p.set < 0) <;> rfl
  ·rw [lt0 hlt, List.drop_of_length_le (by omega)]
   rfl
theorem cOwn (r : SRel) (h : fitR r = true) : CX Tryz.prog 78 [aRel r] [] (vI (AcE r)) [] := by
 have hr := AaC h
 have ol := Aeq r
 have hru := hr.ru
 obtain ⟨g, hg⟩ : ∃ g, 2000 < g := ⟨2001, by omega⟩
 refine Aau sOw.ok Tryz.func78 bown rfl ((evown ZOw r g).trans ?_)
 have k1 : ZOw.oko [AV.agg (List.map C.d (relC r))] = true := Aam AbK (c := fitR) r h
 have t1 : theT eR1 [AV.agg (List.map C.d (relC r))] = r := Aah AbK r
 have k2 : ZOw.ou [AV.agg (List.map C.d (relC r))] = outS r := by dsimp only [ZOw]; rw [t1]
 have k3 : ZOw.okn [AV.agg (List.map C.d (relC r))] = true := k1
 have k4 : ZOw.inn [AV.agg (List.map C.d (relC r))] = inS r := by dsimp only [ZOw]; rw [t1]
 have k5 : ZOw.okc [AV.c (C.d (Aab 1 busC e0 (outS r)))] = true := Aam AfV (c := cNe) (outS r) (by
  unfold cNe
  rw [decide_eq_true (by omega)]
  cases ho : outS r with
  | nil => exact absurd ho (outS_ne hr)
  | cons a b => rfl)
 have k6 : ZOw.cl [AV.c (C.d (Aab 1 busC e0 (outS r)))] = outS r := Aah AfV (outS r)
 have hcat := RL.cat (c := busC) (d0 := e0) (RL.data (outS r)) (RL.data (inS r))
 have hin : (inS r).length = r.subs.length := by simp [inS]
 have hsu := hr.su
 have a1 : Asle [AV.c (C.d (D.sl 1 ((outS r).length + (inS r).length) (appF (outS r).length (fun i => busC ((outS r).getD i e0)) fun i => busC ((inS r).getD i e0))))] (eBu (outS r ++ inS r)) := .cons (show DE _ _ from hcat.de (sz := 1)) .nil
 have a2 : Asle (eBu (outS r ++ inS r)) [AV.c (C.d (D.sl 1 ((outS r).length + (inS r).length) (appF (outS r).length (fun i => busC ((outS r).getD i e0)) fun i => busC ((inS r).getD i e0))))] := .cons (show DE _ _ from hcat.ed (sz := 1)) .nil
 have k7 : ZOw.okr [AV.c (C.d (D.sl 1 ((outS r).length + (inS r).length) (appF (outS r).length (fun i => busC ((outS r).getD i e0)) fun i => busC ((inS r).getD i e0))))] = true :=
  okG_of AfV (a := outS r ++ inS r) a1 a2 (by unfold Aaq; exact decide_eq_true (by rw [List.length_append]; omega))
 have k8 : ZOw.rp [AV.c (C.d (D.sl 1 ((outS r).length + (inS r).length) (appF (outS r).length (fun i => busC ((outS r).getD i e0)) fun i => busC ((inS r).getD i e0))))] = repS [] (outS r ++ inS r) := by
  dsimp only [ZOw]
  rw [AfG AfV (a := outS r ++ inS r) a1 a2]
 have k9 : (decide (((outS r).length + (inS r).length) * 16 ≤ 140737488355328) && decide ((outS r).length + (inS r).length ≤ 9223372036854775807)) = true := by
  rw [decide_eq_true (by omega), decide_eq_true (by omega)]; rfl
 rw [k1, k2, k3, k4, k5, k6, k7, k8, k9]
 simp only [cond_true]
 unfold AcE
 cases hrep : repS [] (outS r ++ inS r) with
 | true => rfl
 | false =>
  rw [cond_false, cond_false]
  have l1 : Lown_6 ZOw r g g (Aak []) ((0 : Nat) : Int) = Ael ZOw r g g (Aak ([] ++ ((outS r).drop 0).map id)) 0 := Adc (nm := id) (d0 := e0) (l := outS r) (L := fun m mp i => Lown_6 ZOw r g m mp i) (NX := fun mp => Ael ZOw r g g mp 0) (fun m k N hk => by
   rw [stown_6, k2, lt1 hk, ge0, tn, nx hk (by omega), Abh, tt, cond_true, cond_true]; rfl) (fun m mp => by rw [stown_6, k2, lt0 (Nat.lt_irrefl _)]; rfl) g 0 [] (by omega) (by omega)
  rw [List.drop_zero, List.map_id, List.nil_append] at l1
  have l2 : Ael ZOw r g g (Aak (outS r)) ((0 : Nat) : Int) = _ := lpown11 r g (outS r) hr (by omega) g 0 (by omega) (by have := hr.se; omega)
  have l3 : Age ZOw r g g ((0 : Nat) : Int) = _ := lpown25 r g hr g 0 (by omega) (by have := hr.pu; omega)
  rw [List.drop_zero] at l2 l3
  refine Eq.trans l1 (Eq.trans l2 ?_)
  cases hz : (AbE (outS r) r.sets != 0) with
  | true => rfl
  | false => exact l3
def vQ (p : Int × Int) : AV := .tup [(false, [.d (dI p.1)]), (false, [.d (dI p.2)])]
def fitC (l : List SRel) : Bool := decide (l.length ≤ 1000) && (l.all fitR && l.all Abk)
theorem AbB {l : List SRel} (h : fitC l = true) : l.length ≤ 1000 ∧ (∀ r ∈ l, fitR r = true) ∧ l.all Abk = true := by
 unfold fitC at h
 simp only [Bool.and_eq_true, decide_eq_true_eq] at h
 exact ⟨h.1, List.all_eq_true.1 h.2.1, h.2.2⟩
abbrev eCf := en1 aCfg
theorem aCfg_inj : InjA aCfg := Agt cfgC_inj
theorem AbV : InjT eCf := AcI aCfg_inj
def eFd (c : SCfg) (a : Int × Int × SSub) : List AV := [aCfg c, vI a.1, vI a.2.1, aSub' a.2.2]
theorem aSub'_inj : InjA aSub' := Agt Adm
theorem AfU (c : SCfg) : InjT (eFd c) := fun a b h => by
 obtain ⟨x1, h⟩ := Aaj (Aaj h).2
 obtain ⟨x2, h⟩ := Aaj h
 obtain ⟨x3, h⟩ := Aaj h
 exact Prod.ext (AgK _ _ x1) (Prod.ext (AgK _ _ x2) (aSub'_inj _ _ x3))
def cFd (l : List SRel) (a : Int × Int × SSub) : Bool := decide (a.2.1 < l.length)
noncomputable def ZSc (c : SCfg) : KSc where
 okd := okG eCf fun a => Aaq a.rels
 dm x := devA [] 0 (theT eCf x).rels
 oko := okG eR1 fitR
 ow x := AcE (theT eR1 x)
 okf := okG (eFd c) (cFd c.rels)
 fi x := AdW c.rels (theT (eFd c) x).1 (theT (eFd c) x).2.1 (theT (eFd c) x).2.2
theorem sSc (c : SCfg) (h : fitC c.rels = true) : OrcS Tryz.prog (oSc (ZSc c)) :=
 .cons (.nt (enc := eCf) (c := fun a => Aaq a.rels) (r := fun _ => .c (.mp 0)) (H' := fun a => [(0, .map 1 (devA [] 0 a.rels))]) fun a h => cDvs a h) (.cons (.t' (enc := eR1) (c := fitR) (r := fun r => vI (AcE r)) fun r h => cOwn r h)
  (.cons (.t' (enc := eFd c) (c := cFd c.rels) (r := fun a => aPl (AdW c.rels a.1 a.2.1 a.2.2)) fun a ha => cFind c a.1 a.2.1 a.2.2 (by unfold cFd at ha; simpa using ha) (AbB h).2.2) (.cons (.inl .nil Tryz.func80 (by kernel_rfl)) .nil)))
abbrev lE (p : Int × Int) : Option (T (AV × Hp)) := some (.leaf (vQ p, []))
theorem Afw (l : List SRel) (n : ByteArray) : Abs l n < l.length ∧ (Abs l n < 0 → Abs l n = -1) := by
 rcases Adg (fun r : SRel => isT r.name n) rel0 l 0 with ⟨h1, _⟩ | ⟨k, hk, h1, _⟩
 ·have h1 : Abs l n = -1 := h1
  omega
 ·have h1 : Abs l n = _ := h1
  omega
theorem lpsck9 (c : SCfg) (g mo : Nat) (i : Nat) (hs : (c.rels.getD i rel0).subs.length ≤ 1000) : ∀ (m j : Nat), j ≤ (c.rels.getD i rel0).subs.length → (c.rels.getD i rel0).subs.length - j < m →
  Lsck_9 (ZSc c) c g mo m (devA [] 0 c.rels) i i ((c.rels.getD i rel0).subs.length : Nat) j = bif Acx c.rels i ((c.rels.getD i rel0).subs.drop j) != 0 then lE (i, Acx c.rels i ((c.rels.getD i rel0).subs.drop j)) else Lsck_3 (ZSc c) c g mo (devA [] 0 c.rels) (IntKind.wrap IntKind.i64 ((i : Int) + 1))
 | 0, j, _, h => by omega
 | m + 1, j, hj, h => by
  rw [stsck_9, tn i, tn j]
  by_cases hlt : j < (c.rels.getD i rel0).subs.length
  ·rw [Aar (d := sub0) hlt, lt1 hlt, ge0, nx hlt (by omega), lpsck9 c g mo i hs m (j + 1) (by omega) (by omega), tt, cond_true, cond_true]
   generalize (c.rels.getD i rel0).subs.getD j sub0 = x
   have key : ∀ d : Int, d < c.rels.length → (ZSc c).okf [aCfg c, AV.c (C.d (D.v (Value.int IntKind.i64 (i : Int)))), AV.c (C.d (D.v (Value.int IntKind.i64 d))), AV.agg (List.map C.d (subC x))] = true ∧ (ZSc c).fi [aCfg c, AV.c (C.d (D.v (Value.int IntKind.i64 (i : Int)))), AV.c (C.d (D.v (Value.int IntKind.i64 d))), AV.agg (List.map C.d (subC x))] = AdW c.rels i d x := fun d hd => by
    have t : theT (eFd c) [aCfg c, AV.c (C.d (D.v (Value.int IntKind.i64 (i : Int)))), AV.c (C.d (D.v (Value.int IntKind.i64 d))), AV.agg (List.map C.d (subC x))] = ((i : Int), d, x) := Aah (AfU c) ((i : Int), d, x)
    refine ⟨Aam (AfU c) (c := cFd c.rels) ((i : Int), d, x) (by unfold cFd; exact decide_eq_true hd), ?_⟩
    dsimp only [ZSc]
    rw [t]
   obtain ⟨d1, d2⟩ := Afw c.rels x.dev
   obtain ⟨k1, k2⟩ := key (Abs c.rels x.dev) d1
   obtain ⟨k3, k4⟩ := key (-1) (by omega)
   rw [assoc_dev]
   simp only [Acx]
   cases hd : decide (Abs c.rels x.dev < 0) with
   | true =>
    have hd' := d2 (of_decide_eq_true hd)
    rw [cond_true, Option.isSome_none, cond_false, k3, k4, cond_true]
    have e : Abd c.rels i x = AdW c.rels i (-1) x := by unfold Abd; rw [hd']
    rw [e]
    cases hz : ((AdW c.rels i (-1) x).err != 0) with
    | true => simp only [cond_true, hz]; rfl
    | false => rfl
   | false =>
    rw [cond_false, Option.isSome_some, cond_true]
    show (bif (ZSc c).okf [aCfg c, _, AV.c (C.d (D.v (Value.int IntKind.i64 (Abs c.rels x.dev)))), _] then (bif Plc.err ((ZSc c).fi [aCfg c, _, AV.c (C.d (D.v (Value.int IntKind.i64 (Abs c.rels x.dev)))), _]) != 0 then lE (i, Plc.err ((ZSc c).fi [aCfg c, _, AV.c (C.d (D.v (Value.int IntKind.i64 (Abs c.rels x.dev)))), _])) else _) else none) = _
    rw [k1, k2, cond_true]
    have e : Abd c.rels i x = AdW c.rels i (Abs c.rels x.dev) x := rfl
    rw [e]
    cases hz : ((AdW c.rels i (Abs c.rels x.dev) x).err != 0) with
    | true => simp only [cond_true, hz]
    | false => rfl
  ·rw [lt0 hlt, List.drop_of_length_le (by omega)]
   rfl
theorem lpsck3 (c : SCfg) (g : Nat) (hl : fitC c.rels = true) (hg : 1000 < g) : ∀ (m k : Nat), k ≤ c.rels.length → c.rels.length - k < m → Lsck_3 (ZSc c) c g m (devA [] 0 c.rels) k = lE (AbR c.rels k (c.rels.drop k))
 | 0, k, _, h => by omega
 | m + 1, k, hk, h => by
  rw [stsck_3]
  by_cases hlt : k < c.rels.length
  ·obtain ⟨hn, hf, _⟩ := AbB hl
   have hfr := hf _ (AaP rel0 hlt)
   have hr := AaC hfr
   have e : Lsck_9 (ZSc c) c g m g (devA [] 0 c.rels) k k ((c.rels.getD k rel0).subs.length : Nat) ((0 : Nat) : Int) = _ := lpsck9 c g m k hr.su g 0 (by omega) (by have := hr.su; omega)
   rw [nx hlt (by omega), lpsck3 c g hl hg m (k + 1) (by omega) (by omega), List.drop_zero] at e
   rw [Aar (d := rel0) hlt, lt1 hlt, ge0, tn, tt, cond_true, cond_true]
   have k1 : (ZSc c).oko [AV.agg (List.map C.d (relC (c.rels.getD k rel0)))] = true := Aam AbK (c := fitR) (c.rels.getD k rel0) hfr
   have k2 : (ZSc c).ow [AV.agg (List.map C.d (relC (c.rels.getD k rel0)))] = AcE (c.rels.getD k rel0) := congrArg AcE (Aah AbK (c.rels.getD k rel0))
   rw [k1, k2, cond_true]
   simp only [AbR]
   unfold AcB
   cases hz : (AcE (c.rels.getD k rel0) != 0) with
   | true => simp only [cond_true, hz]; rfl
   | false =>
    refine e.trans ?_
    simp only [cond_false]
    cases hy : (Acx c.rels k (c.rels.getD k rel0).subs != 0) <;> rfl
  ·rw [lt0 hlt, List.drop_of_length_le (by omega)]
   rfl
theorem cSck (c : SCfg) (h : fitC c.rels = true) : CX Tryz.prog 33 [aCfg c] [] (vQ (AbR c.rels 0 c.rels)) [] := by
 obtain ⟨g, hg⟩ : ∃ g, 2000 < g := ⟨2001, by omega⟩
 have hn := (AbB h).1
 refine Aau (sSc c h).ok Tryz.func33 bsck rfl ((evsck (ZSc c) c g).trans ?_)
 have k1 : (ZSc c).okd [aCfg c] = true := Aam AbV (c := fun a => Aaq a.rels) c (by unfold Aaq; exact decide_eq_true (by show c.rels.length ≤ _; omega))
 have k2 : (ZSc c).dm [aCfg c] = devA [] 0 c.rels := by
  dsimp only [ZSc]
  rw [show theT eCf [aCfg c] = c from Aah AbV c]
 rw [k1, k2, cond_true]
 have := lpsck3 c g h (by omega) g 0 (by omega) (by omega)
 exact this
end Go.Proofs.YtbpndheehcbldaaGreatDoor.sg
namespace Go.Proofs.YtbpndheehcbldaaGreatDoor.sg
open Go.RowKit Go.Eb Go.Proofs.YtbpndheehcbldaaGreatDoor.st
set_option maxRecDepth 100000
noncomputable def annrfi : Ann := AaE [(10, ⟨[4, 3], [(3, 0, 1, 9)]⟩), (14, ⟨[5, 3], [(3, 0, 1, 9)]⟩)]
noncomputable def Agd (k : Int) (g m : Nat) (n0 : Nat) (f0 : Nat → List D) (i4 : Int) := LK Tryz.prog Orc.nil annrfi 0 g Tryz.f53 10 m ⟨frm [(3, .c (.row 0 1 n0)), (4, .c (.d (.v (.int .i64 i4))))] 0 Tryz.f53.ntmps, [(0, Blk.row n0 f0 1 9)], 1⟩
noncomputable def Lrfi_14 (k : Int) (g m : Nat) (n0 : Nat) (f0 : Nat → List D) (i5 : Int) := LK Tryz.prog Orc.nil annrfi 0 g Tryz.f53 14 m ⟨frm [(3, .c (.row 0 1 n0)), (5, .c (.d (.v (.int .i64 i5))))] 0 Tryz.f53.ntmps, [(0, Blk.row n0 f0 1 9)], 1⟩
theorem brfi : Tryz.f53.body = some (Aad Tryz.f53) := by kernel_rfl
theorem evrfi (k : Int) (g : Nat) : Aai Tryz.prog Orc.nil annrfi g Tryz.f53 (Aad Tryz.f53) [vI k] [] =
 (bif k == 1 then some (T.leaf (AV.c (C.row (0) (1) (10)), [(0, Blk.cells [C.d (.v (.string (⟨#[116, (114 : UInt8), 105, 112]⟩))), C.d (.v (.string (⟨#[99, 108, 111, 115, 101]⟩))),
 C.d (D.v (Value.string (⟨#[102, 97, 105, 108]⟩))), C.d (.v (.string (⟨#[115, 101, 110, 100]⟩))), C.d (.v (.string (⟨#[116, 114, 97, 110, 115, 102, 101, 114]⟩))), C.d (D.v
 (Value.string (⟨#[122, 111, 110, 101, 49]⟩))), C.d (.v (.string (⟨#[122, 111, (110 : UInt8), 101, 50]⟩))), C.d (.v (.string (⟨#[122, 111, 110, 101, 51]⟩))), C.d (D.v (Value.string
 (⟨#[116, 105, 109, 101]⟩))), C.d (.v (.string (⟨#[115, 116, 97, (114 : UInt8), 116, 101, 100]⟩)))] (9))])) else (bif k == 2 then (bif k == 2 then some (T.leaf (AV.c (C.row (0) (1)
 (7)), [(0, Blk.cells [C.d (.v (.string (⟨#[116, 114, 105, 112]⟩))), C.d (.v (.string (⟨#[99, 108, 111, 115, 101]⟩))), C.d (.v (.string (⟨#[102, 97, 105, 108]⟩))), C.d (.v (.string
 (⟨#[116, 105, 109, 101]⟩))), C.d (.v (.string (⟨#[115, 116, (97 : UInt8), 114, 116, 101, 100]⟩))), C.d (.v (.string (⟨#[117, 110, 100, 101, (114 : UInt8)]⟩))), C.d (.v (.string
 (⟨#[111, 118, 101, 114]⟩)))] (9))])) else (bif k == 4 then Agd k g g (0 : Nat) (fun x => []) 0 else some (T.leaf (AV.c (.d (.v (.slice none 0 0))), [])))) else (bif k == 3 then
 some (T.leaf (AV.c (C.row (0) (1) (7)), [(0, Blk.cells [C.d (.v (.string (⟨#[116, 114, 105, 112]⟩))), C.d (D.v (Value.string (⟨#[99, 108, 111, 115, 101]⟩))), C.d (.v (.string
 (⟨#[102, 97, 105, (108 : UInt8)]⟩))), C.d (.v (.string (⟨#[116, 105, 109, 101]⟩))), C.d (.v (.string (⟨#[115, (116 : UInt8), 97, 114, 116, 101, 100]⟩))), C.d (.v (.string (⟨#[117,
 110, 100, (101 : UInt8), 114]⟩))), C.d (.v (.string (⟨#[111, 118, 101, 114]⟩)))] (9))])) else (bif k == 4 then Agd k g g 0 (fun x => []) 0 else some (T.leaf (AV.c (.d (.v (.slice
 none 0 0))), [])))))) := by kernel_rfl
theorem strfi_10 (k : Int) (g m : Nat) (n0 : Nat) (f0 : Nat → List D) (i4 : Int) : Agd k g (m + 1) n0 f0 i4 =
 (bif decide (i4 < 10) then (bif AdD 1 (some (Blk.cells [C.d (D.v (Value.int IntKind.u8 (IntKind.wrap IntKind.u8 (IntKind.wrap .i64 (48 + i4)))))] (5))) then (bif decide ((n0 + 1) *
 16 ≤ 140737488355328) && decide (n0 + 1 ≤ 9223372036854775807) then Agd k g m (n0 + 1) (appF n0 f0 (Aat [D.v (.string (ByteArray.mk #[116, 114, 105, 112] ++ Ahx 1 (some (Blk.cells
 [C.d (D.v (Value.int IntKind.u8 (IntKind.wrap IntKind.u8 (IntKind.wrap .i64 (48 + i4)))))] (5)))))] (0 + 1))) (IntKind.wrap .i64 (i4 + 1)) else none) else none) else Lrfi_14 k g g
 n0 f0 0) := by kernel_rfl
theorem strfi_14 (k : Int) (g m : Nat) (n0 : Nat) (f0 : Nat → List D) (i5 : Int) : Lrfi_14 k g (m + 1) n0 f0 i5 =
 (bif decide (i5 < 6) then (bif AdD 1 (some (Blk.cells [C.d (D.v (Value.int IntKind.u8 (IntKind.wrap IntKind.u8 (IntKind.wrap .i64 (48 + i5)))))] (5))) then (bif decide ((n0 + 1) *
 16 ≤ 140737488355328) && decide (n0 + 1 ≤ 9223372036854775807) then Lrfi_14 k g m (n0 + 1) (appF n0 f0 (Aat [D.v (.string (ByteArray.mk #[116, 114, 105, 112, 49] ++ Ahx 1 (some
 (Blk.cells [C.d (D.v (Value.int IntKind.u8 (IntKind.wrap IntKind.u8 (IntKind.wrap .i64 (48 + i5)))))] (5)))))] (0 + 1))) (IntKind.wrap .i64 (i5 + 1)) else none) else none) else
 some (T.leaf (AV.c (C.row (0) (1) n0), [(0, Blk.row n0 f0 (1) (9))]))) := by kernel_rfl
noncomputable def oRu (okf : List AV → Bool) (fx : List AV → List ByteArray) : Orc := Orc.cons 53 (ansN (fun x => okf x) (fun x => .c (.row 0 1 (fx x).length)) fun x => [(0, .row (fx x).length (fun i => busC ((fx x).getD i e0)) 1 9)]) Orc.nil
noncomputable def annrou : Ann := AaE [(3, ⟨[1, 4, 3], []⟩)]
noncomputable def Lrou_3 (okf : List AV → Bool) (fx : List AV → List ByteArray) (r : SRel) (g m : Nat) (n1 : Nat) (f1 : Nat → List D) (i4 : Int) := LK Tryz.prog (oRu okf fx) annrou 0 g Tryz.f24 3 m ⟨frm [(1, .c (.ptr 0 0)), (3, .c (.row 1 1 n1)), (4, .c (.d (.v (.int .i64 i4))))] 0 Tryz.f24.ntmps, [(0, Blk.cells (List.map C.d (relC r)) 64), (1, Blk.row n1 f1 1 9)], 2⟩
theorem brou : Tryz.f24.body = some (Aad Tryz.f24) := by kernel_rfl
theorem evrou (okf : List AV → Bool) (fx : List AV → List ByteArray) (r : SRel) (g : Nat) : Aai Tryz.prog (oRu okf fx) annrou g Tryz.f24 (Aad Tryz.f24) [aRel r] [] =
 (bif okf [AV.c (.d (.v (.int .i64 r.kind)))] then Lrou_3 okf fx r g g (fx [AV.c (.d (.v (.int .i64 r.kind)))]).length (fun i => busC ((fx [AV.c (.d (.v (.int .i64 r.kind)))]).getD
 i e0)) 0 else none) := by kernel_rfl
theorem strou_3 (okf : List AV → Bool) (fx : List AV → List ByteArray) (r : SRel) (g m : Nat) (n1 : Nat) (f1 : Nat → List D) (i4 : Int) : Lrou_3 okf fx r g (m + 1) n1 f1 i4 =
 (bif decide (i4 < (↑r.rules.length : Int)) then (bif decide (0 ≤ i4) && decide (i4 < (↑r.rules.length : Int)) then (bif decide ((n1 + 1) * 16 ≤ 140737488355328) && decide (n1 + 1 ≤
 9223372036854775807) then Lrou_3 okf fx r g m (n1 + 1) (appF n1 f1 (Aat [dS (SRule.name (r.rules.getD i4.toNat AaI))] (0 + 1))) (IntKind.wrap .i64 (i4 + 1)) else none) else none)
 else some (T.leaf (AV.c (C.row ((0 : Nat)) (1) n1), [(0, Blk.row n1 f1 (1) (9))]))) := by kernel_rfl
noncomputable def annrin : Ann := AaE [(3, ⟨[1, 4, 3], [(3, 0, 1, 9)]⟩)]
noncomputable def Lrin_3 (r : SRel) (g m : Nat) (n1 : Nat) (f1 : Nat → List D) (i4 : Int) := LK Tryz.prog Orc.nil annrin 0 g Tryz.f126 3 m ⟨frm [(1, .c (.ptr 0 0)), (3, .c (.row 1 1 n1)), (4, .c (.d (.v (.int .i64 i4))))] 0 Tryz.f126.ntmps, [(0, Blk.cells (List.map C.d (relC r)) 64), (1, Blk.row n1 f1 1 9)], 2⟩
theorem brin : Tryz.f126.body = some (Aad Tryz.f126) := by kernel_rfl
theorem evrin (r : SRel) (g : Nat) : Aai Tryz.prog Orc.nil annrin g Tryz.f126 (Aad Tryz.f126) [aRel r] [] =
 Lrin_3 r g g 0 (fun x => []) 0 := by kernel_rfl
theorem strin_3 (r : SRel) (g m : Nat) (n1 : Nat) (f1 : Nat → List D) (i4 : Int) : Lrin_3 r g (m + 1) n1 f1 i4 =
 (bif decide (i4 < (↑r.subs.length : Int)) then (bif decide (0 ≤ i4) && decide (i4 < (↑r.subs.length : Int)) then (bif decide ((n1 + 1) * 16 ≤ 140737488355328) && decide (n1 + 1 ≤
 9223372036854775807) then Lrin_3 r g m (n1 + 1) (appF n1 f1 (Aat [dS (SSub.loc (r.subs.getD i4.toNat sub0))] (0 + 1))) (IntKind.wrap .i64 (i4 + 1)) else none) else none) else some
 (T.leaf (AV.c (C.row (0) ((1 : Nat)) n1), [(0, Blk.row n1 f1 (1) (9))]))) := by kernel_rfl
noncomputable def annrrl : Ann := AaE [(2, ⟨[5, 1, 2], []⟩)]
noncomputable def Lrrl_2 (c : SCfg) (n : ByteArray) (g m : Nat) (i5 : Int) := LK Tryz.prog Orc.nil annrrl 0 g Tryz.f54 2 m ⟨frm [(1, .c (.d (.v (.string n)))), (2, .c (.ptr 0 0)), (5, .c (.d (.v (.int .i64 i5))))] 0 Tryz.f54.ntmps, [(0, Blk.cells (List.map C.d (cfgC c)) 30)], 1⟩
theorem brrl : Tryz.f54.body = some (Aad Tryz.f54) := by kernel_rfl
theorem evrrl (c : SCfg) (n : ByteArray) (g : Nat) : Aai Tryz.prog Orc.nil annrrl g Tryz.f54 (Aad Tryz.f54) [aCfg c, vS n] [] =
 Lrrl_2 c n g g 0 := by kernel_rfl
theorem strrl_2 (c : SCfg) (n : ByteArray) (g m : Nat) (i5 : Int) : Lrrl_2 c n g (m + 1) i5 =
 (bif decide (i5 < (↑c.rels.length : Int)) then (bif decide (0 ≤ i5) && decide (i5 < (↑c.rels.length : Int)) then (bif (SRel.name (c.rels.getD i5.toNat rel0)).toList == n.toList
 then leI i5 else Lrrl_2 c n g m (IntKind.wrap IntKind.i64 (i5 + 1))) else none) else leI (-1)) := by kernel_rfl
noncomputable def annrse : Ann := AaE [(2, ⟨[5, 1, 2], []⟩)]
noncomputable def Lrse_2 (r : SRel) (n : ByteArray) (g m : Nat) (i5 : Int) := LK Tryz.prog Orc.nil annrse 0 g Tryz.f55 2 m ⟨frm [(1, .c (.d (.v (.string n)))), (2, .c (.ptr 0 0)), (5, .c (.d (.v (.int .i64 i5))))] 0 Tryz.f55.ntmps, [(0, Blk.cells (List.map C.d (relC r)) 64)], 1⟩
theorem brse : Tryz.f55.body = some (Aad Tryz.f55) := by kernel_rfl
theorem evrse (r : SRel) (n : ByteArray) (g : Nat) : Aai Tryz.prog Orc.nil annrse g Tryz.f55 (Aad Tryz.f55) [aRel r, vS n] [] =
 Lrse_2 r n g g 0 := by kernel_rfl
theorem strse_2 (r : SRel) (n : ByteArray) (g m : Nat) (i5 : Int) : Lrse_2 r n g (m + 1) i5 =
 (bif decide (i5 < (↑r.sets.length : Int)) then (bif decide (0 ≤ i5) && decide (i5 < (↑r.sets.length : Int)) then (bif (SSet.name (r.sets.getD i5.toNat set0)).toList == n.toList
 then leI i5 else Lrse_2 r n g m (IntKind.wrap IntKind.i64 (i5 + 1))) else none) else leI (-1)) := by kernel_rfl
noncomputable def annrpu : Ann := AaE [(2, ⟨[1, 2, 5], []⟩)]
noncomputable def Lrpu_2 (r : SRel) (n : ByteArray) (g m : Nat) (i5 : Int) := LK Tryz.prog Orc.nil annrpu 0 g Tryz.f56 2 m ⟨frm [(1, .c (.d (.v (.string n)))), (2, .c (.ptr 0 0)), (5, .c (.d (.v (.int .i64 i5))))] 0 Tryz.f56.ntmps, [(0, Blk.cells (List.map C.d (relC r)) 64)], 1⟩
theorem brpu : Tryz.f56.body = some (Aad Tryz.f56) := by kernel_rfl
theorem evrpu (r : SRel) (n : ByteArray) (g : Nat) : Aai Tryz.prog Orc.nil annrpu g Tryz.f56 (Aad Tryz.f56) [aRel r, vS n] [] =
 Lrpu_2 r n g g 0 := by kernel_rfl
theorem strpu_2 (r : SRel) (n : ByteArray) (g m : Nat) (i5 : Int) : Lrpu_2 r n g (m + 1) i5 =
 (bif decide (i5 < (↑r.pubs.length : Int)) then (bif decide (0 ≤ i5) && decide (i5 < (↑r.pubs.length : Int)) then (bif (SPub.set (r.pubs.getD i5.toNat pub0)).toList == n.toList then
 leB true else Lrpu_2 r n g m (IntKind.wrap .i64 (i5 + 1))) else none) else leB false) := by kernel_rfl
structure KRf where
 okl : List AV → Bool
 rl : List AV → Int
 oks : List AV → Bool
 se : List AV → Int
 pu : List AV → Bool
 okx : List AV → Bool
 ix : List AV → Int
noncomputable def oRf (Z : KRf) : Orc := Orc.cons 54 (ansG Z.okl fun x => vI (Z.rl x)) (Orc.cons 55 (ansG Z.oks fun x => vI (Z.se x)) (Orc.cons 56 (ansG Z.oks fun x => vB (Z.pu x)) (Orc.cons 52 (ansG Z.okx fun x => vI (Z.ix x)) Orc.nil)))
theorem evRf (Z : KRf) (c : SCfg) (of sub : Int) : Aai Tryz.prog (oRf Z) na 5 Tryz.f25 (Aad Tryz.f25) [aCfg c, vI of, vI sub] [] =
 (bif decide (of < 0) then some (T.leaf (AV.tup [(true, [C.d (.v (.int .i64 0)), C.d (.v (.int .i64 0)), C.d (D.v (Value.int IntKind.i64 0))]), (false, [C.d (.v (.int .i64 1))])],
 [])) else (bif decide (of ≥ (↑c.rels.length : Int)) then some (T.leaf (AV.tup [(true, [C.d (.v (.int .i64 0)), C.d (.v (.int .i64 0)), C.d (.v (.int .i64 0))]), (false, [C.d (D.v
 (Value.int IntKind.i64 1))])], [])) else (bif decide (sub < 0) then some (T.leaf (AV.tup [(true, [C.d (.v (.int .i64 0)), C.d (D.v (Value.int IntKind.i64 0)), C.d (.v (.int .i64
 0))]), (false, [C.d (.v (.int .i64 1))])], [])) else (bif decide (0 ≤ of) && decide (of < (↑c.rels.length : Int)) then (bif decide (sub ≥ (↑(SRel.subs (c.rels.getD of.toNat
 rel0)).length : Int)) then some (T.leaf (AV.tup [(true, [C.d (.v (.int .i64 0)), C.d (.v (.int .i64 0)), C.d (.v (.int .i64 0))]), (false, [C.d (.v (.int .i64 1))])], [])) else
 (bif decide (0 ≤ of) && decide (of < (↑c.rels.length : Int)) then (bif decide (0 ≤ sub) && decide (sub < (↑(SRel.subs (c.rels.getD of.toNat rel0)).length : Int)) then (bif KRf.okl
 Z [AV.agg (List.map C.d (cfgC c)), AV.c (.d (.v (.string (SSub.dev ((SRel.subs (c.rels.getD of.toNat rel0)).getD sub.toNat sub0)))))] then (bif decide (KRf.rl Z [AV.agg (List.map
 C.d (cfgC c)), AV.c (.d (.v (.string (SSub.dev ((SRel.subs (c.rels.getD of.toNat rel0)).getD sub.toNat sub0)))))] < 0) then some (T.leaf (AV.tup [(true, [C.d (.v (.int .i64 0)),
 C.d (.v (.int .i64 0)), C.d (.v (.int .i64 0))]), (false, [C.d (.v (.int .i64 9))])], [])) else (bif KRf.rl Z [AV.agg (List.map C.d (cfgC c)), AV.c (.d (.v (.string (SSub.dev
 ((SRel.subs (c.rels.getD of.toNat rel0)).getD sub.toNat sub0)))))] == of then some (T.leaf (AV.tup [(true, [C.d (.v (.int .i64 0)), C.d (.v (.int .i64 0)), C.d (.v (.int .i64
 0))]), (false, [C.d (D.v (.int .i64 12))])], [])) else (bif decide (0 ≤ KRf.rl Z [AV.agg (List.map C.d (cfgC c)), AV.c (.d (.v (.string (SSub.dev ((SRel.subs (c.rels.getD of.toNat
 rel0)).getD sub.toNat sub0)))))]) && decide (KRf.rl Z [AV.agg (List.map C.d (cfgC c)), AV.c (.d (.v (.string (SSub.dev ((SRel.subs (c.rels.getD of.toNat rel0)).getD sub.toNat
 sub0)))))] < (↑c.rels.length : Int)) then (bif KRf.oks Z [AV.agg (List.map C.d (relC (c.rels.getD (Int.toNat (KRf.rl Z [AV.agg (List.map C.d (cfgC c)), AV.c (.d (.v (.string
 (SSub.dev ((SRel.subs (c.rels.getD of.toNat rel0)).getD sub.toNat sub0)))))])) rel0))), AV.c (.d (.v (.string (SSub.set ((SRel.subs (c.rels.getD of.toNat rel0)).getD sub.toNat
 sub0)))))] then (bif decide (KRf.se Z [AV.agg (List.map C.d (relC (c.rels.getD (Int.toNat (KRf.rl Z [AV.agg (List.map C.d (cfgC c)), AV.c (C.d (D.v (Value.string (SSub.dev
 ((SRel.subs (c.rels.getD of.toNat rel0)).getD sub.toNat sub0)))))])) rel0))), AV.c (.d (.v (.string (SSub.set ((SRel.subs (c.rels.getD of.toNat rel0)).getD sub.toNat sub0)))))] <
 0) then some (T.leaf (AV.tup [(true, [C.d (.v (.int .i64 0)), C.d (D.v (Value.int IntKind.i64 0)), C.d (.v (.int .i64 0))]), (false, [C.d (.v (.int .i64 9))])], [])) else (bif
 decide (0 ≤ KRf.rl Z [AV.agg (List.map C.d (cfgC c)), AV.c (.d (.v (.string (SSub.dev ((SRel.subs (c.rels.getD of.toNat rel0)).getD sub.toNat sub0)))))]) && decide (KRf.rl Z
 [AV.agg (List.map C.d (cfgC c)), AV.c (.d (.v (.string (SSub.dev ((SRel.subs (c.rels.getD of.toNat rel0)).getD sub.toNat sub0)))))] < (↑c.rels.length : Int)) then (bif KRf.oks Z
 [AV.agg (List.map C.d (relC (c.rels.getD (Int.toNat (KRf.rl Z [AV.agg (List.map C.d (cfgC c)), AV.c (C.d (D.v (Value.string (SSub.dev ((SRel.subs (c.rels.getD of.toNat rel0)).getD
 sub.toNat sub0)))))])) rel0))), AV.c (.d (.v (.string (SSub.set ((SRel.subs (c.rels.getD of.toNat rel0)).getD sub.toNat sub0)))))] then (bif !KRf.pu Z [AV.agg (List.map C.d (relC
 (c.rels.getD (Int.toNat (KRf.rl Z [AV.agg (List.map C.d (cfgC c)), AV.c (.d (.v (.string (SSub.dev ((SRel.subs (c.rels.getD of.toNat rel0)).getD sub.toNat sub0)))))])) rel0))),
 AV.c (.d (.v (.string (SSub.set ((SRel.subs (c.rels.getD of.toNat rel0)).getD sub.toNat sub0)))))] then some (T.leaf (AV.tup [(true, [C.d (D.v (Value.int IntKind.i64 0)), C.d (.v
 (.int .i64 0)), C.d (.v (.int .i64 0))]), (false, [C.d (.v (.int .i64 11))])], [])) else (bif decide (0 ≤ KRf.rl Z [AV.agg (List.map C.d (cfgC c)), AV.c (.d (.v (.string (SSub.dev
 ((SRel.subs (c.rels.getD of.toNat rel0)).getD sub.toNat sub0)))))]) && decide (KRf.rl Z [AV.agg (List.map C.d (cfgC c)), AV.c (.d (.v (.string (SSub.dev ((SRel.subs (c.rels.getD
 of.toNat rel0)).getD sub.toNat sub0)))))] < (↑c.rels.length : Int)) then (bif decide (0 ≤ KRf.se Z [AV.agg (List.map C.d (relC (c.rels.getD (Int.toNat (KRf.rl Z [AV.agg (List.map
 C.d (cfgC c)), AV.c (.d (.v (.string (SSub.dev ((SRel.subs (c.rels.getD of.toNat rel0)).getD sub.toNat sub0)))))])) rel0))), AV.c (.d (.v (.string (SSub.set ((SRel.subs
 (c.rels.getD of.toNat rel0)).getD sub.toNat sub0)))))]) && decide (KRf.se Z [AV.agg (List.map C.d (relC (c.rels.getD (Int.toNat (KRf.rl Z [AV.agg (List.map C.d (cfgC c)), AV.c (.d
 (.v (.string (SSub.dev ((SRel.subs (c.rels.getD of.toNat rel0)).getD sub.toNat sub0)))))])) rel0))), AV.c (.d (.v (.string (SSub.set ((SRel.subs (c.rels.getD of.toNat rel0)).getD
 sub.toNat sub0)))))] < (↑(SRel.sets (c.rels.getD (Int.toNat (KRf.rl Z [AV.agg (List.map C.d (cfgC c)), AV.c (C.d (D.v (Value.string (SSub.dev ((SRel.subs (c.rels.getD of.toNat
 rel0)).getD sub.toNat sub0)))))])) rel0)).length : Int)) then (bif KRf.okx Z [AV.c (C.d (Aab ((1 : Nat)) busC e0 (SSet.sigs ((SRel.sets (c.rels.getD (Int.toNat (KRf.rl Z [AV.agg
 (List.map C.d (cfgC c)), AV.c (.d (.v (.string (SSub.dev ((SRel.subs (c.rels.getD of.toNat rel0)).getD sub.toNat sub0)))))])) rel0)).getD (Int.toNat (KRf.se Z [AV.agg (List.map C.d
 (relC (c.rels.getD (Int.toNat (KRf.rl Z [AV.agg (List.map C.d (cfgC c)), AV.c (.d (.v (.string (SSub.dev ((SRel.subs (c.rels.getD of.toNat rel0)).getD sub.toNat sub0)))))]))
 rel0))), AV.c (.d (.v (.string (SSub.set ((SRel.subs (c.rels.getD of.toNat rel0)).getD sub.toNat sub0)))))])) set0)))), AV.c (C.d (D.v (Value.string (SSub.sig ((SRel.subs
 (c.rels.getD of.toNat rel0)).getD sub.toNat sub0)))))] then (bif decide (KRf.ix Z [AV.c (C.d (Aab (1) busC e0 (SSet.sigs ((SRel.sets (c.rels.getD (Int.toNat (KRf.rl Z [AV.agg
 (List.map C.d (cfgC c)), AV.c (.d (.v (.string (SSub.dev ((SRel.subs (c.rels.getD of.toNat rel0)).getD sub.toNat sub0)))))])) rel0)).getD (Int.toNat (KRf.se Z [AV.agg (List.map C.d
 (relC (c.rels.getD (Int.toNat (KRf.rl Z [AV.agg (List.map C.d (cfgC c)), AV.c (.d (.v (.string (SSub.dev ((SRel.subs (c.rels.getD of.toNat rel0)).getD sub.toNat sub0)))))]))
 rel0))), AV.c (.d (.v (.string (SSub.set ((SRel.subs (c.rels.getD of.toNat rel0)).getD sub.toNat sub0)))))])) set0)))), AV.c (C.d (D.v (Value.string (SSub.sig ((SRel.subs
 (c.rels.getD of.toNat rel0)).getD sub.toNat sub0)))))] < 0) then some (T.leaf (AV.tup [(true, [C.d (D.v (Value.int IntKind.i64 0)), C.d (.v (.int .i64 0)), C.d (.v (.int .i64
 0))]), (false, [C.d (.v (.int .i64 9))])], [])) else some (T.leaf (AV.tup [(true, [C.d (.v (.int .i64 (KRf.rl Z [AV.agg (List.map C.d (cfgC c)), AV.c (.d (.v (.string (SSub.dev
 ((SRel.subs (c.rels.getD of.toNat rel0)).getD sub.toNat sub0)))))]))), C.d (.v (.int .i64 (KRf.se Z [AV.agg (List.map C.d (relC (c.rels.getD (Int.toNat (KRf.rl Z [AV.agg (List.map
 C.d (cfgC c)), AV.c (.d (.v (.string (SSub.dev ((SRel.subs (c.rels.getD of.toNat rel0)).getD sub.toNat sub0)))))])) rel0))), AV.c (.d (.v (.string (SSub.set ((SRel.subs
 (c.rels.getD of.toNat rel0)).getD sub.toNat sub0)))))]))), C.d (.v (.int .i64 (KRf.ix Z [AV.c (C.d (Aab (1) busC e0 (SSet.sigs ((SRel.sets (c.rels.getD (Int.toNat (KRf.rl Z [AV.agg
 (List.map C.d (cfgC c)), AV.c (C.d (D.v (Value.string (SSub.dev ((SRel.subs (c.rels.getD of.toNat rel0)).getD sub.toNat sub0)))))])) rel0)).getD (Int.toNat (KRf.se Z [AV.agg
 (List.map C.d (relC (c.rels.getD (Int.toNat (KRf.rl Z [AV.agg (List.map C.d (cfgC c)), AV.c (.d (.v (.string (SSub.dev ((SRel.subs (c.rels.getD of.toNat rel0)).getD sub.toNat
 sub0)))))])) rel0))), AV.c (.d (.v (.string (SSub.set ((SRel.subs (c.rels.getD of.toNat rel0)).getD sub.toNat sub0)))))])) set0)))), AV.c (.d (.v (.string (SSub.sig ((SRel.subs
 (c.rels.getD of.toNat rel0)).getD sub.toNat sub0)))))])))]), (false, [C.d (D.v (Value.int IntKind.i64 0))])], []))) else none) else none) else none)) else none) else none)) else
 none) else none))) else none) else none) else none)) else none)))) := by kernel_rfl
noncomputable def oTw (okx : List AV → Bool) (ix : List AV → Int) : Orc := Orc.cons 52 (ansG okx fun x => vI (ix x)) Orc.nil
noncomputable def anntwi : Ann := AaE [(2, ⟨[0, 3], []⟩)]
noncomputable def Ltwi_2 (okx : List AV → Bool) (ix : List AV → Int) (l : List ByteArray) (g m : Nat) (i3 : Int) := LK Tryz.prog (oTw okx ix) anntwi 0 g Tryz.f125 2 m ⟨frm [(0, .c (.d (Aab 1 busC e0 l))), (3, .c (.d (.v (.int .i64 i3))))] 0 Tryz.f125.ntmps, [], 0⟩
theorem btwi : Tryz.f125.body = some (Aad Tryz.f125) := by kernel_rfl
theorem evtwi (okx : List AV → Bool) (ix : List AV → Int) (l : List ByteArray) (g : Nat) : Aai Tryz.prog (oTw okx ix) anntwi g Tryz.f125 (Aad Tryz.f125) [.c (.d (Aaa l))] [] =
 Ltwi_2 okx ix l g g 0 := by kernel_rfl
theorem sttwi_2 (okx : List AV → Bool) (ix : List AV → Int) (l : List ByteArray) (g m : Nat) (i3 : Int) : Ltwi_2 okx ix l g (m + 1) i3 =
 (bif decide (i3 < (↑l.length : Int)) then (bif decide (0 ≤ (↑(0 : Nat) : Int)) && decide ((↑(0 : Nat) : Int) ≤ i3) && decide (i3 ≤ (↑l.length : Int)) then (bif decide (0 ≤ i3) &&
 decide (i3 < (↑l.length : Int)) then (bif okx [AV.c (C.d (D.sl (1) (i3.toNat - Int.toNat (↑(0 : Nat) : Int)) fun i => busC (l.getD (Int.toNat (↑(0 : Nat) : Int) + i) e0))), AV.c
 (.d (.v (.string (l.getD i3.toNat e0))))] then (bif decide (ix [AV.c (C.d (D.sl (1) (i3.toNat - Int.toNat (↑(0 : Nat) : Int)) fun i => busC (l.getD (Int.toNat (↑(0 : Nat) : Int) +
 i) e0))), AV.c (.d (.v (.string (l.getD i3.toNat e0))))] ≥ 0) then leB true else Ltwi_2 okx ix l g m (IntKind.wrap .i64 (i3 + 1))) else none) else none) else none) else leB false) := by kernel_rfl
structure KRo where
 oko : List AV → Bool
 ou : List AV → List ByteArray
 inn : List AV → List ByteArray
 okt : List AV → Bool
 tw : List AV → Bool
 okx : List AV → Bool
 ix : List AV → Int
 oks : List AV → Bool
 se : List AV → Int
 okf : List AV → Bool
 fi : List AV → Plc
noncomputable def oRo (Z : KRo) : Orc := Orc.cons 24 (ansN (fun x => Z.oko x) (fun x => .c (.row 0 1 (Z.ou x).length)) fun x => [(0, .row (Z.ou x).length (fun i => busC ((Z.ou x).getD i e0)) 1 9)]) (Orc.cons 126 (ansG Z.oko fun x => .c (.d (Aaa (Z.inn x))))
 (Orc.cons 125 (ansL Z.okt fun x => vB (Z.tw x)) (Orc.cons 52 (ansL Z.okx fun x => vI (Z.ix x)) (Orc.cons 55 (ansG Z.oks fun x => vI (Z.se x)) (Orc.cons 25 (ansG Z.okf fun x => aPl (Z.fi x)) Orc.nil)))))
noncomputable def annone : Ann := AaE [(5, ⟨[6, 5, 1, 2], []⟩), (8, ⟨[6, 5, 1, 2, 7], []⟩), (16, ⟨[5, 1, 2, 9], []⟩), (21, ⟨[1, 2, 5, 10], []⟩)]
noncomputable def Lone_5 (Z : KRo) (c : SCfg) (i : Int) (g m : Nat) (i6 : Int) := LK Tryz.prog (oRo Z) annone 0 g Tryz.f64 5 m ⟨frm [(1, .c (.d (.v (.int .i64 i)))), (2, .c (.ptr 0 0)), (5, .c (.ptr 1 0)), (6, .c (.d (.v (.int .i64 i6))))] 0 Tryz.f64.ntmps, [(0, Blk.cells (List.map C.d (cfgC c)) 30), (1, Blk.cells (List.map C.d (relC (List.getD (SCfg.rels c) (Int.toNat i) rel0))) 64)], 2⟩
noncomputable def Lone_8 (Z : KRo) (c : SCfg) (i : Int) (g mo m : Nat) (i6 : Int) (i7 : Int) := LK2 Tryz.prog (oRo Z) annone 0 g Tryz.f64 5 mo 8 m ⟨frm [(1, .c (.d (.v (.int .i64 i)))), (2, .c (.ptr 0 0)), (5, .c (.ptr 1 0)), (6, .c (.d (.v (.int .i64 i6)))), (7, .c (.d (.v (.int .i64 i7))))] 0 Tryz.f64.ntmps, [(0, Blk.cells (List.map C.d (cfgC c)) 30), (1, Blk.cells (List.map C.d (relC (List.getD (SCfg.rels c) (Int.toNat i) rel0))) 64)], 2⟩
noncomputable def Agg (Z : KRo) (c : SCfg) (i : Int) (g m : Nat) (i9 : Int) := LK Tryz.prog (oRo Z) annone 0 g Tryz.f64 16 m ⟨frm [(1, .c (.d (.v (.int .i64 i)))), (2, .c (.ptr 0 0)), (5, .c (.ptr 1 0)), (9, .c (.d (.v (.int .i64 i9))))] 0 Tryz.f64.ntmps, [(0, Blk.cells (List.map C.d (cfgC c)) 30), (1, Blk.cells (List.map C.d (relC (List.getD (SCfg.rels c) (Int.toNat i) rel0))) 64)], 2⟩
noncomputable def Agf (Z : KRo) (c : SCfg) (i : Int) (g m : Nat) (i10 : Int) := LK Tryz.prog (oRo Z) annone 0 g Tryz.f64 21 m ⟨frm [(1, .c (.d (.v (.int .i64 i)))), (2, .c (.ptr 0 0)), (5, .c (.ptr 1 0)), (10, .c (.d (.v (.int .i64 i10))))] 0 Tryz.f64.ntmps, [(0, Blk.cells (List.map C.d (cfgC c)) 30), (1, Blk.cells (List.map C.d (relC (List.getD (SCfg.rels c) (Int.toNat i) rel0))) 64)], 2⟩
theorem bone : Tryz.f64.body = some (Aad Tryz.f64) := by kernel_rfl
theorem evone (Z : KRo) (c : SCfg) (i : Int) (g : Nat) : Aai Tryz.prog (oRo Z) annone g Tryz.f64 (Aad Tryz.f64) [aCfg c, vI i] [] =
 (bif decide (0 ≤ i) && decide (i < (↑c.rels.length : Int)) then (bif KRo.oko Z [AV.agg (List.map C.d (relC (c.rels.getD i.toNat rel0)))] then (bif KRo.oko Z [AV.agg (List.map C.d
 (relC (c.rels.getD i.toNat rel0)))] then (bif decide (((KRo.ou Z [AV.agg (List.map C.d (relC (c.rels.getD i.toNat rel0)))]).length + (KRo.inn Z [AV.agg (List.map C.d (relC
 (c.rels.getD i.toNat rel0)))]).length) * 16 ≤ 140737488355328) && decide ((KRo.ou Z [AV.agg (List.map C.d (relC (c.rels.getD i.toNat rel0)))]).length + (KRo.inn Z [AV.agg (List.map
 C.d (relC (c.rels.getD i.toNat rel0)))]).length ≤ 9223372036854775807) then (bif KRo.okt Z [AV.c (C.d (D.sl (1) ((KRo.ou Z [AV.agg (List.map C.d (relC (c.rels.getD i.toNat
 rel0)))]).length + (KRo.inn Z [AV.agg (List.map C.d (relC (c.rels.getD i.toNat rel0)))]).length) (appF (KRo.ou Z [AV.agg (List.map C.d (relC (c.rels.getD i.toNat rel0)))]).length
 (fun i_1 => busC ((KRo.ou Z [AV.agg (List.map C.d (relC (c.rels.getD i.toNat rel0)))]).getD i_1 e0)) fun i_1 => busC ((KRo.inn Z [AV.agg (List.map C.d (relC (c.rels.getD i.toNat
 rel0)))]).getD i_1 e0))))] then (bif KRo.tw Z [AV.c (C.d (D.sl (1) ((KRo.ou Z [AV.agg (List.map C.d (relC (c.rels.getD i.toNat rel0)))]).length + (KRo.inn Z [AV.agg (List.map C.d
 (relC (c.rels.getD i.toNat rel0)))]).length) (appF (KRo.ou Z [AV.agg (List.map C.d (relC (c.rels.getD i.toNat rel0)))]).length (fun i_1 => busC ((KRo.ou Z [AV.agg (List.map C.d
 (relC (c.rels.getD i.toNat rel0)))]).getD i_1 e0)) fun i_1 => busC ((KRo.inn Z [AV.agg (List.map C.d (relC (c.rels.getD i.toNat rel0)))]).getD i_1 e0))))] then leI 8 else Lone_5 Z
 c i g g 0) else none) else none) else none) else none) else none) := by kernel_rfl
theorem stone_5 (Z : KRo) (c : SCfg) (i : Int) (g m : Nat) (i6 : Int) : Lone_5 Z c i g (m + 1) i6 =
 (bif decide (i6 < (↑(SRel.sets (c.rels.getD i.toNat rel0)).length : Int)) then Lone_8 Z c i g m g i6 0 else Agg Z c i g g 0) := by kernel_rfl
theorem stone_8 (Z : KRo) (c : SCfg) (i : Int) (g mo m : Nat) (i6 : Int) (i7 : Int) : Lone_8 Z c i g mo (m + 1) i6 i7 =
 (bif decide (0 ≤ i6) && decide (i6 < (↑(SRel.sets (c.rels.getD i.toNat rel0)).length : Int)) then (bif decide (i7 < (↑(SSet.sigs ((SRel.sets (c.rels.getD i.toNat rel0)).getD
 i6.toNat set0)).length : Int)) then (bif decide (0 ≤ i6) && decide (i6 < (↑(SRel.sets (c.rels.getD i.toNat rel0)).length : Int)) then (bif decide (0 ≤ i7) && decide (i7 <
 (↑(SSet.sigs ((SRel.sets (c.rels.getD i.toNat rel0)).getD i6.toNat set0)).length : Int)) then (bif KRo.oko Z [AV.agg (List.map C.d (relC (c.rels.getD i.toNat rel0)))] then (bif
 KRo.okx Z [AV.c (C.d (Aab (1) busC e0 (KRo.ou Z [AV.agg (List.map C.d (relC (c.rels.getD i.toNat rel0)))]))), AV.c (.d (.v (.string ((SSet.sigs ((SRel.sets (c.rels.getD i.toNat
 rel0)).getD i6.toNat set0)).getD i7.toNat e0))))] then (bif decide (KRo.ix Z [AV.c (C.d (Aab (1) busC e0 (KRo.ou Z [AV.agg (List.map C.d (relC (c.rels.getD i.toNat rel0)))]))),
 AV.c (.d (.v (.string ((SSet.sigs ((SRel.sets (c.rels.getD i.toNat rel0)).getD i6.toNat set0)).getD i7.toNat e0))))] < 0) then leI 9 else (bif decide (0 ≤ i6) && decide (i6 <
 (↑(SRel.sets (c.rels.getD i.toNat rel0)).length : Int)) then (bif decide (0 ≤ (↑(0 : Nat) : Int)) && decide ((↑(0 : Nat) : Int) ≤ i7) && decide (i7 ≤ (↑(SSet.sigs ((SRel.sets
 (c.rels.getD i.toNat rel0)).getD i6.toNat set0)).length : Int)) then (bif KRo.okx Z [AV.c (C.d (D.sl (1) (i7.toNat - Int.toNat (↑(0 : Nat) : Int)) fun i_1 => busC ((SSet.sigs
 ((SRel.sets (c.rels.getD i.toNat rel0)).getD i6.toNat set0)).getD (Int.toNat (↑(0 : Nat) : Int) + i_1) e0))), AV.c (.d (.v (.string ((SSet.sigs ((SRel.sets (c.rels.getD i.toNat
 rel0)).getD i6.toNat set0)).getD i7.toNat e0))))] then (bif decide (KRo.ix Z [AV.c (C.d (D.sl (1) (i7.toNat - Int.toNat (↑(0 : Nat) : Int)) fun i_1 => busC ((SSet.sigs ((SRel.sets
 (c.rels.getD i.toNat rel0)).getD i6.toNat set0)).getD (Int.toNat (↑(0 : Nat) : Int) + i_1) e0))), AV.c (C.d (D.v (Value.string ((SSet.sigs ((SRel.sets (c.rels.getD i.toNat
 rel0)).getD i6.toNat set0)).getD i7.toNat e0))))] ≥ 0) then leI 8 else Lone_8 Z c i g mo m i6 (IntKind.wrap .i64 (i7 + 1))) else none) else none) else none)) else none) else none)
 else none) else none) else Lone_5 Z c i g mo (IntKind.wrap .i64 (i6 + 1))) else none) := by kernel_rfl
theorem stone_16 (Z : KRo) (c : SCfg) (i : Int) (g m : Nat) (i9 : Int) : Agg Z c i g (m + 1) i9 =
 (bif decide (i9 < (↑(SRel.pubs (c.rels.getD i.toNat rel0)).length : Int)) then (bif decide (0 ≤ i9) && decide (i9 < (↑(SRel.pubs (c.rels.getD i.toNat rel0)).length : Int)) then
 (bif KRo.oks Z [AV.agg (List.map C.d (relC (c.rels.getD i.toNat rel0))), AV.c (C.d (D.v (Value.string (SPub.set ((SRel.pubs (c.rels.getD i.toNat rel0)).getD i9.toNat pub0)))))]
 then (bif decide (KRo.se Z [AV.agg (List.map C.d (relC (c.rels.getD i.toNat rel0))), AV.c (.d (.v (.string (SPub.set ((SRel.pubs (c.rels.getD i.toNat rel0)).getD i9.toNat
 pub0)))))] < 0) then leI 9 else Agg Z c i g m (IntKind.wrap .i64 (i9 + 1))) else none) else none) else Agf Z c i g g 0) := by kernel_rfl
theorem stone_21 (Z : KRo) (c : SCfg) (i : Int) (g m : Nat) (i10 : Int) : Agf Z c i g (m + 1) i10 =
 (bif decide (i10 < (↑(SRel.subs (c.rels.getD i.toNat rel0)).length : Int)) then (bif KRo.okf Z [AV.agg (List.map C.d (cfgC c)), AV.c (C.d (D.v (Value.int IntKind.i64 i))), AV.c (.d
 (.v (.int .i64 i10)))] then (bif Plc.err (KRo.fi Z [AV.agg (List.map C.d (cfgC c)), AV.c (.d (.v (.int .i64 i))), AV.c (C.d (D.v (.int .i64 i10)))]) != 0 then leI (Plc.err (KRo.fi
 Z [AV.agg (List.map C.d (cfgC c)), AV.c (C.d (D.v (Value.int IntKind.i64 i))), AV.c (.d (.v (.int .i64 i10)))])) else Agf Z c i g m (IntKind.wrap .i64 (i10 + 1))) else none) else
 leI 0) := by kernel_rfl
noncomputable def oRc (ok : List AV → Bool) (er : List AV → Int) : Orc := Orc.cons 64 (ansG ok fun x => vI (er x)) Orc.nil
noncomputable def annrck : Ann := AaE [(2, ⟨[4, 1], []⟩)]
noncomputable def Lrck_2 (ok : List AV → Bool) (er : List AV → Int) (c : SCfg) (g m : Nat) (i4 : Int) := LK Tryz.prog (oRc ok er) annrck 0 g Tryz.f30 2 m ⟨frm [(1, .c (.ptr 0 0)), (4, .c (.d (.v (.int .i64 i4))))] 0 Tryz.f30.ntmps, [(0, Blk.cells (List.map C.d (cfgC c)) 30)], 1⟩
theorem brck : Tryz.f30.body = some (Aad Tryz.f30) := by kernel_rfl
theorem evrck (ok : List AV → Bool) (er : List AV → Int) (c : SCfg) (g : Nat) : Aai Tryz.prog (oRc ok er) annrck g Tryz.f30 (Aad Tryz.f30) [aCfg c] [] =
 Lrck_2 ok er c g g 0 := by kernel_rfl
theorem strck_2 (ok : List AV → Bool) (er : List AV → Int) (c : SCfg) (g m : Nat) (i4 : Int) : Lrck_2 ok er c g (m + 1) i4 =
 (bif decide (i4 < (↑c.rels.length : Int)) then (bif ok [AV.agg (List.map C.d (cfgC c)), AV.c (.d (.v (.int .i64 i4)))] then (bif er [AV.agg (List.map C.d (cfgC c)), AV.c (.d (.v
 (.int .i64 i4)))] != 0 then some (T.leaf (AV.tup [(false, [C.d (.v (.int .i64 i4))]), (false, [C.d (D.v (Value.int IntKind.i64 (er [AV.agg (List.map C.d (cfgC c)), AV.c (.d (.v
 (.int .i64 i4)))])))])], [])) else Lrck_2 ok er c g m (IntKind.wrap .i64 (i4 + 1))) else none) else some (T.leaf (AV.tup [(false, [C.d (.v (.int .i64 0))]), (false, [C.d (.v (.int
 .i64 0))])], []))) := by kernel_rfl
end Go.Proofs.YtbpndheehcbldaaGreatDoor.sg
namespace Go.Proofs.YtbpndheehcbldaaGreatDoor.st
open Go.RowKit Go.Eb
abbrev nilC : C := .d (.v (.slice none 0 0))
noncomputable def oNm (nk : ByteArray → Bool) : Orc := Orc.cons 65 (ansP decS fun s => vB (nk s)) Orc.nil
noncomputable def oNam (nk : ByteArray → Bool) : Orc := Orc.cons 127 (inl Tryz.prog (oNm nk) na 1 Tryz.f127) Orc.nil
noncomputable def o26 (nk : ByteArray → Bool) : Orc := Orc.cons 68 (inl Tryz.prog (oNam nk) na 1 Tryz.f68) Orc.nil
noncomputable def oWi : Orc := Orc.cons 129 (inl Tryz.prog Orc.nil na 1 Tryz.f129) Orc.nil
noncomputable def oIm (nk : ByteArray → Bool) : Orc := Orc.cons 128 (inl Tryz.prog oWi na 1 Tryz.f128) (Orc.cons 129 (inl Tryz.prog Orc.nil na 1 Tryz.f129) (oNam nk))
noncomputable def o28 (nk : ByteArray → Bool) : Orc := Orc.cons 70 (inl Tryz.prog (oIm nk) na 1 Tryz.f70) Orc.nil
noncomputable def o30 (nk : ByteArray → Bool) : Orc := Orc.cons 72 (inl Tryz.prog (oIm nk) na 1 Tryz.f72) Orc.nil
abbrev fnOf (f : FuncId) : AV := .c (.fn f [.ptr 0 0] [])
abbrev H1 (s0 : ByteArray) (mpa : List (Value × Value)) : Hp := [(0, .cells [.d (dS s0), nilC, nilC, nilC, nilC, .mp 1] 207), (1, .map 0 mpa)]
abbrev H1' (s0 : ByteArray) (mpa : List (Value × Value)) (ka : Nat) (ga : Nat → List D) : Hp := [(0, .cells [.d (dS s0), .row 2 1 ka, nilC, nilC, nilC, .mp 1] 207), (1, .map 0 mpa), (2, .row ka ga 1 9)]
abbrev H2 (s0 : ByteArray) (ka : Nat) (ga : Nat → List D) (mpa : List (Value × Value)) : Hp := [(0, .cells [.d (dS s0), .row 1 1 ka, nilC, nilC, nilC, .mp 2] 207), (1, .row ka ga 1 9), (2, .map 0 mpa)]
abbrev H2' (s0 : ByteArray) (ka : Nat) (ga : Nat → List D) (mpa : List (Value × Value)) (kb : Nat) (gb : Nat → List D) : Hp := [(0, .cells [.d (dS s0), .row 1 1 ka, .row 3 5 kb, nilC, nilC, .mp 2] 207), (1, .row ka ga 1 9), (2, .map 0 mpa), (3, .row kb gb 5 144)]
abbrev H3 (s0 : ByteArray) (ka : Nat) (ga : Nat → List D) (kb : Nat) (gb : Nat → List D) (mpa : List (Value × Value)) : Hp := [(0, .cells [.d (dS s0), .row 1 1 ka, .row 2 5 kb, nilC, nilC, .mp 3] 207), (1, .row ka ga 1 9), (2, .row kb gb 5 144), (3, .map 0 mpa)]
abbrev H3' (s0 : ByteArray) (ka : Nat) (ga : Nat → List D) (kb : Nat) (gb : Nat → List D) (mpa : List (Value × Value)) (kc : Nat) (gc : Nat → List D) : Hp := [(0, .cells [.d (dS s0), .row 1 1 ka, .row 2 5 kb, .row 4 6 kc, nilC, .mp 3] 207), (1, .row ka ga 1 9), (2, .row kb gb 5 144), (3, .map 0 mpa), (4, .row kc gc 6 147)]
abbrev H4 (s0 : ByteArray) (ka : Nat) (ga : Nat → List D) (kb : Nat) (gb : Nat → List D) (kc : Nat) (gc : Nat → List D) (mpa : List (Value × Value)) : Hp := [(0, .cells [.d (dS s0), .row 1 1 ka, .row 2 5 kb, .row 3 6 kc, nilC, .mp 4] 207), (1, .row ka ga 1 9), (2, .row kb gb 5 144), (3, .row kc gc 6 147), (4, .map 0 mpa)]
abbrev H4' (s0 : ByteArray) (ka : Nat) (ga : Nat → List D) (kb : Nat) (gb : Nat → List D) (kc : Nat) (gc : Nat → List D) (mpa : List (Value × Value)) (kd : Nat) (gd : Nat → List D) : Hp := [(0, .cells [.d (dS s0), .row 1 1 ka, .row 2 5 kb, .row 3 6 kc, .row 5 12 kd, .mp 4] 207), (1, .row ka ga 1 9), (2, .row kb gb 5 144), (3, .row kc gc 6 147), (4, .map 0 mpa), (5, .row kd gd 12 118)]
abbrev H5 (s0 : ByteArray) (ka : Nat) (ga : Nat → List D) (kb : Nat) (gb : Nat → List D) (kc : Nat) (gc : Nat → List D) (kd : Nat) (gd : Nat → List D) (mpa : List (Value × Value)) : Hp := [(0, .cells [.d (dS s0), .row 1 1 ka, .row 2 5 kb, .row 3 6 kc, .row 4 12 kd, .mp 5] 207), (1, .row ka ga 1 9), (2, .row kb gb 5 144), (3, .row kc gc 6 147), (4, .row kd gd 12 118), (5, .map 0 mpa)]
noncomputable def ann26 : Ann := AaE [(2, ⟨[1, 8, 9, 10], [(1, 1, 1, 9)]⟩)]
noncomputable def L26_2 (nk : ByteArray → Bool) (l : List ByteArray) (s0 : ByteArray) (mpa : List (Value × Value)) (g m : Nat) (l1 : List (Value × Value)) (n2 : Nat) (f2 : Nat → List D) (i10 : Int) := LK Tryz.prog (o26 nk) ann26 (List.length (α := Nat × Blk) [(0, .cells [.d (dS s0), nilC, nilC, nilC, nilC, .mp 1] 207), (1, .map 0 mpa)]) g Tryz.f67 2 m ⟨frm [(1, .c (.fn 68 [Rf.ptr 0 0] [])), (8, .c (.d (D.sl 1 (List.length l) fun i => busC (List.getD l i e0)))), (9, .c (.d (.v (.int .i64 (↑(List.length l) : Int))))), (10, .c (.d (.v (.int .i64 i10))))] 0 Tryz.f67.ntmps, [(0, Blk.cells [.d (.v (.string s0)), C.row 2 1 n2, .d (.v (.slice none 0 0)), .d (.v (.slice none 0 0)), .d (.v (.slice none 0 0)), C.mp 1] 207), (1, Blk.map 0 l1), (2, Blk.row n2 f2 1 9)], 3⟩
theorem b26 : Tryz.f67.body = some (Aad Tryz.f67) := by kernel_rfl
theorem ev26 (nk : ByteArray → Bool) (l : List ByteArray) (s0 : ByteArray) (mpa : List (Value × Value)) (g : Nat) : Aai Tryz.prog (o26 nk) ann26 g Tryz.f67 (Aad Tryz.f67) [.c (.d (Aaa l)), fnOf 68] [(0, .cells [.d (dS s0), nilC, nilC, nilC, nilC, .mp 1] 207), (1, .map 0 mpa)] =
 L26_2 nk l s0 mpa g g mpa 0 (fun x => []) 0 := by kernel_rfl
theorem st26_2 (nk : ByteArray → Bool) (l : List ByteArray) (s0 : ByteArray) (mpa : List (Value × Value)) (g m : Nat) (l1 : List (Value × Value)) (n2 : Nat) (f2 : Nat → List D) (i10 : Int) : L26_2 nk l s0 mpa g (m + 1) l1 n2 f2 i10 =
 (bif decide (i10 < (↑l.length : Int)) then (bif decide (0 ≤ i10) && decide (i10 < (↑l.length : Int)) then (bif !nk (l.getD i10.toNat e0) then some (T.leaf (AV.c (.d (.v (.int .i64
 7))), [(0, Blk.cells [C.d (.v (.string s0)), C.row (2) (1) n2, C.d (D.v (Value.slice none (0 : Nat) 0)), C.d (.v (.slice none 0 0)), C.d (.v (.slice none 0 0)), C.mp (1)] (207)),
 (1, Blk.map ((0 : Nat)) l1), (2, Blk.row n2 f2 (1) (9))])) else (bif Abf (Aaz l1 (Value.string (l.getD i10.toNat e0))) then some (T.leaf (AV.c (C.d (D.v (Value.int IntKind.i64
 8))), [(0, Blk.cells [C.d (.v (.string s0)), C.row (2) (1) n2, C.d (.v (.slice none 0 0)), C.d (D.v (.slice none 0 0)), C.d (.v (.slice none 0 0)), C.mp (1)] (207)), (1, Blk.map
 (0) l1), (2, Blk.row n2 f2 (1) (9))])) else (bif decide ((n2 + 1) * 16 ≤ 140737488355328) && decide (n2 + 1 ≤ 9223372036854775807) then L26_2 nk l s0 mpa g m ((Value.string (l.getD
 i10.toNat e0), Value.bool true) :: l1) (n2 + 1) (appF n2 f2 (Aat [dS (l.getD i10.toNat e0)] (0 + 1))) (IntKind.wrap .i64 (i10 + 1)) else none))) else none) else some (T.leaf (AV.c
 (.d (.v (.int .i64 0))), [(0, Blk.cells [C.d (D.v (.string s0)), C.row (2) (1) n2, C.d (.v (.slice none 0 0)), C.d (.v (.slice none 0 0)), C.d (D.v (Value.slice none 0 0)), C.mp
 (1)] (207)), (1, Blk.map (0) l1), (2, Blk.row n2 f2 (1) (9))]))) := by kernel_rfl
noncomputable def ann28 : Ann := AaE [(2, ⟨[1, 8, 9, 10], [(1, 2, 5, 144)]⟩)]
noncomputable def L28_2 (nk : ByteArray → Bool) (l : List SLine) (s0 : ByteArray) (ka : Nat) (ga : Nat → List D) (mpa : List (Value × Value)) (g m : Nat) (l2 : List (Value × Value)) (n3 : Nat) (f3 : Nat → List D) (i10 : Int) := LK Tryz.prog (o28 nk) ann28 (List.length (α := Nat × Blk) [(0, .cells [.d (dS s0), .row 1 1 ka, nilC, nilC, nilC, .mp 2] 207), (1, .row ka ga 1 9), (2, .map 0 mpa)]) g Tryz.f69 2 m ⟨frm [(1, .c (.fn 70 [Rf.ptr 0 0] [])), (8, .c (.d (D.sl 5 (List.length l) fun i => Aap (List.getD l i Aaf)))), (9, .c (.d (.v (.int .i64 (↑(List.length l) : Int))))), (10, .c (.d (.v (.int .i64 i10))))] 0 Tryz.f69.ntmps, [(0, Blk.cells [.d (.v (.string s0)), C.row 1 1 ka, C.row 3 5 n3, .d (.v (.slice none 0 0)), .d (.v (.slice none 0 0)), C.mp 2] 207), (1, Blk.row ka ga 1 9), (2, Blk.map 0 l2), (3, Blk.row n3 f3 5 144)], 4⟩
theorem b28 : Tryz.f69.body = some (Aad Tryz.f69) := by kernel_rfl
theorem ev28 (nk : ByteArray → Bool) (l : List SLine) (s0 : ByteArray) (ka : Nat) (ga : Nat → List D) (mpa : List (Value × Value)) (g : Nat) : Aai Tryz.prog (o28 nk) ann28 g Tryz.f69 (Aad Tryz.f69) [.c (.d (Aal l)), fnOf 70] [(0, .cells [.d (dS s0), .row 1 1 ka, nilC, nilC, nilC, .mp 2] 207), (1, .row ka ga 1 9), (2, .map 0 mpa)] =
 L28_2 nk l s0 ka ga mpa g g mpa 0 (fun x => []) 0 := by kernel_rfl
theorem st28_2 (nk : ByteArray → Bool) (l : List SLine) (s0 : ByteArray) (ka : Nat) (ga : Nat → List D) (mpa : List (Value × Value)) (g m : Nat) (l2 : List (Value × Value)) (n3 : Nat) (f3 : Nat → List D) (i10 : Int) : L28_2 nk l s0 ka ga mpa g (m + 1) l2 n3 f3 i10 =
 (bif decide (i10 < (↑l.length : Int)) then (bif decide (0 ≤ i10) && decide (i10 < (↑l.length : Int)) then (bif !nk (SLine.name (l.getD i10.toNat Aaf)) then some (T.leaf (AV.c (.d
 (.v (.int .i64 7))), [(0, Blk.cells [C.d (.v (.string s0)), C.row (1) (1) ka, C.row ((3 : Nat)) (5) n3, C.d (.v (.slice none 0 0)), C.d (.v (.slice none 0 0)), C.mp (2)] (207)),
 (1, Blk.row ka ga (1) (9)), (2, Blk.map (0) l2), (3, Blk.row n3 f3 (5) (144))])) else (bif Abf (Aaz l2 (Value.string (SLine.name (l.getD i10.toNat Aaf)))) then some (T.leaf (AV.c
 (.d (.v (.int .i64 8))), [(0, Blk.cells [C.d (.v (.string s0)), C.row (1) (1) ka, C.row (3) (5) n3, C.d (.v (.slice none 0 0)), C.d (.v (.slice none 0 0)), C.mp (2)] ((207 :
 Nat))), (1, Blk.row ka ga (1) (9)), (2, Blk.map (0) l2), (3, Blk.row n3 f3 (5) (144))])) else (bif decide (SLine.r1 (l.getD i10.toNat Aaf) ≥ 0) then (bif decide (SLine.r1 (l.getD
 i10.toNat Aaf) ≤ 1000) then (bif decide (SLine.x1 (l.getD i10.toNat Aaf) ≥ 1) then (bif !decide (SLine.x1 (l.getD i10.toNat Aaf) ≤ 1000) then some (T.leaf (AV.c (.d (.v (.int .i64
 2))), [((0 : Nat), Blk.cells [C.d (.v (.string s0)), C.row (1) (1) ka, C.row (3) (5) n3, C.d (.v (.slice none 0 0)), C.d (D.v (Value.slice none 0 0)), C.mp (2)] (207)), (1, Blk.row
 ka ga (1) (9)), (2, Blk.map (0) l2), (3, Blk.row n3 f3 (5) (144))])) else (bif decide (SLine.r0 (l.getD i10.toNat Aaf) ≥ 0) then (bif decide (SLine.r0 (l.getD i10.toNat Aaf) ≤
 1000) then (bif decide (SLine.x0 (l.getD i10.toNat Aaf) ≥ 1) then (bif !decide (SLine.x0 (l.getD i10.toNat Aaf) ≤ 1000) then some (T.leaf (AV.c (.d (.v (.int .i64 2))), [(0,
 Blk.cells [C.d (.v (.string s0)), C.row (1) (1) ka, C.row (3) ((5 : Nat)) n3, C.d (.v (.slice none 0 0)), C.d (.v (.slice none 0 0)), C.mp (2)] (207)), (1, Blk.row ka ga (1) (9)),
 (2, Blk.map (0) l2), (3, Blk.row n3 f3 (5) (144))])) else (bif decide ((n3 + 1) * 48 ≤ 140737488355328) && decide (n3 + 1 ≤ 9223372036854775807) then L28_2 nk l s0 ka ga mpa g m
 ((Value.string (SLine.name (l.getD i10.toNat Aaf)), Value.bool true) :: l2) (n3 + 1) (appF n3 f3 (Aat [dS (SLine.name (l.getD i10.toNat Aaf)), dI (SLine.r1 (l.getD i10.toNat Aaf)),
 dI (SLine.x1 (l.getD i10.toNat Aaf)), dI (SLine.r0 (l.getD i10.toNat Aaf)), dI (SLine.x0 (l.getD i10.toNat Aaf))] (4 + 1))) (IntKind.wrap .i64 (i10 + 1)) else none)) else some
 (T.leaf (AV.c (.d (.v (.int .i64 2))), [(0, Blk.cells [C.d (.v (.string s0)), C.row (1) (1) ka, C.row (3) (5) n3, C.d (.v (.slice none 0 0)), C.d (.v (.slice none 0 0)), C.mp (2)]
 (207)), (1, Blk.row ka ga (1) (9)), (2, Blk.map (0) l2), (3, Blk.row n3 f3 (5) (144))]))) else some (T.leaf (AV.c (C.d (D.v (Value.int IntKind.i64 2))), [(0, Blk.cells [C.d (.v
 (.string s0)), C.row (1) (1) ka, C.row (3) (5) n3, C.d (D.v (Value.slice none (0 : Nat) 0)), C.d (.v (.slice none 0 0)), C.mp (2)] (207)), (1, Blk.row ka ga (1) (9)), (2, Blk.map
 ((0 : Nat)) l2), (3, Blk.row n3 f3 (5) (144))]))) else some (T.leaf (AV.c (.d (.v (.int .i64 2))), [(0, Blk.cells [C.d (D.v (Value.string s0)), C.row (1) (1) ka, C.row (3) (5) n3,
 C.d (.v (.slice none 0 0)), C.d (D.v (Value.slice none 0 (0 : Nat))), C.mp (2)] (207)), (1, Blk.row ka ga (1) (9)), (2, Blk.map (0) l2), (3, Blk.row n3 f3 (5) ((144 : Nat)))]))))
 else some (T.leaf (AV.c (.d (.v (.int .i64 2))), [(0, Blk.cells [C.d (.v (.string s0)), C.row (1) (1) ka, C.row ((3 : Nat)) (5) n3, C.d (.v (.slice none 0 0)), C.d (.v (.slice none
 0 0)), C.mp (2)] (207)), (1, Blk.row ka ga (1) (9)), (2, Blk.map (0) l2), (3, Blk.row n3 f3 (5) (144))]))) else some (T.leaf (AV.c (.d (.v (.int .i64 2))), [(0, Blk.cells [C.d (.v
 (.string s0)), C.row (1) (1) ka, C.row (3) (5) n3, C.d (.v (.slice none 0 0)), C.d (.v (.slice none 0 0)), C.mp (2)] (207)), (1, Blk.row ka ga (1) (9)), (2, Blk.map (0) l2), ((3 :
 Nat), Blk.row n3 f3 (5) (144))]))) else some (T.leaf (AV.c (.d (.v (.int .i64 2))), [(0, Blk.cells [C.d (.v (.string s0)), C.row (1) (1) ka, C.row (3) (5) n3, C.d (.v (.slice none
 0 0)), C.d (.v (.slice none 0 0)), C.mp (2)] (207)), (1, Blk.row ka ga (1) (9)), (2, Blk.map (0) l2), (3, Blk.row n3 f3 (5) (144))]))))) else none) else some (T.leaf (AV.c (.d (.v
 (.int .i64 0))), [(0, Blk.cells [C.d (.v (.string s0)), C.row (1) (1) ka, C.row (3) ((5 : Nat)) n3, C.d (.v (.slice none 0 0)), C.d (.v (.slice none 0 0)), C.mp (2)] (207)), (1,
 Blk.row ka ga (1) (9)), (2, Blk.map (0) l2), (3, Blk.row n3 f3 (5) (144))]))) := by kernel_rfl
noncomputable def ann30 : Ann := AaE [(2, ⟨[1, 8, 9, 10], [(1, 3, 6, 147)]⟩)]
noncomputable def L30_2 (nk : ByteArray → Bool) (l : List SSrc) (s0 : ByteArray) (ka : Nat) (ga : Nat → List D) (kb : Nat) (gb : Nat → List D) (mpa : List (Value × Value)) (g m : Nat) (l3 : List (Value × Value)) (n4 : Nat) (f4 : Nat → List D) (i10 : Int) := LK Tryz.prog (o30 nk) ann30 (List.length (α := Nat × Blk) [(0, .cells [.d (dS s0), .row 1 1 ka, .row 2 5 kb, nilC, nilC, .mp 3] 207), (1, .row ka ga 1 9), (2, .row kb gb 5 144), (3, .map 0 mpa)]) g Tryz.f71 2 m ⟨frm [(1, .c (.fn 72 [Rf.ptr 0 0] [])), (8, .c (.d (D.sl 6 (List.length l) fun i => Aao (List.getD l i src0)))), (9, .c (.d (.v (.int .i64 (↑(List.length l) : Int))))), (10, .c (.d (.v (.int .i64 i10))))] 0 Tryz.f71.ntmps, [(0, Blk.cells [.d (.v (.string s0)), C.row 1 1 ka, C.row 2 5 kb, C.row 4 6 n4, .d (.v (.slice none 0 0)), C.mp 3] 207), (1, Blk.row ka ga 1 9), (2, Blk.row kb gb 5 144), (3, Blk.map 0 l3), (4, Blk.row n4 f4 6 147)], 5⟩
theorem b30 : Tryz.f71.body = some (Aad Tryz.f71) := by kernel_rfl
theorem ev30 (nk : ByteArray → Bool) (l : List SSrc) (s0 : ByteArray) (ka : Nat) (ga : Nat → List D) (kb : Nat) (gb : Nat → List D) (mpa : List (Value × Value)) (g : Nat) : Aai Tryz.prog (o30 nk) ann30 g Tryz.f71 (Aad Tryz.f71) [.c (.d (Abn l)), fnOf 72] [(0, .cells [.d (dS s0), .row 1 1 ka, .row 2 5 kb, nilC, nilC, .mp 3] 207), (1, .row ka ga 1 9), (2, .row kb gb 5 144), (3, .map 0 mpa)] =
 L30_2 nk l s0 ka ga kb gb mpa g g mpa 0 (fun x => []) 0 := by kernel_rfl
theorem st30_2 (nk : ByteArray → Bool) (l : List SSrc) (s0 : ByteArray) (ka : Nat) (ga : Nat → List D) (kb : Nat) (gb : Nat → List D) (mpa : List (Value × Value)) (g m : Nat) (l3 : List (Value × Value)) (n4 : Nat) (f4 : Nat → List D) (i10 : Int) : L30_2 nk l s0 ka ga kb gb mpa g (m + 1) l3 n4 f4 i10 =
 (bif decide (i10 < (↑l.length : Int)) then (bif decide (0 ≤ i10) && decide (i10 < (↑l.length : Int)) then (bif !nk (SSrc.name (l.getD i10.toNat src0)) then some (T.leaf (AV.c (.d
 (.v (.int .i64 7))), [(0, Blk.cells [C.d (.v (.string s0)), C.row (1) (1) ka, C.row ((2 : Nat)) (5) kb, C.row (4) (6) n4, C.d (.v (.slice none 0 0)), C.mp (3)] (207)), (1, Blk.row
 ka ga (1) ((9 : Nat))), (2, Blk.row kb gb (5) (144)), (3, Blk.map (0) l3), (4, Blk.row n4 f4 (6) (147))])) else (bif Abf (Aaz l3 (Value.string (SSrc.name (l.getD i10.toNat src0))))
 then some (T.leaf (AV.c (.d (.v (.int .i64 8))), [(0, Blk.cells [C.d (D.v (Value.string s0)), C.row (1) (1) ka, C.row (2) (5) kb, C.row (4) (6) n4, C.d (.v (.slice none 0 0)), C.mp
 ((3 : Nat))] (207)), (1, Blk.row ka ga (1) (9)), (2, Blk.row kb gb (5) (144)), (3, Blk.map (0) l3), (4, Blk.row n4 f4 (6) (147))])) else (bif decide (SSrc.emf (l.getD i10.toNat
 src0) ≥ 1) then (bif !decide (SSrc.emf (l.getD i10.toNat src0) ≤ 1000000) then some (T.leaf (AV.c (.d (.v (.int .i64 2))), [(0, Blk.cells [C.d (.v (.string s0)), C.row (1) (1) ka,
 C.row (2) (5) kb, C.row (4) (6) n4, C.d (.v (.slice none 0 0)), C.mp (3)] (207)), (1, Blk.row ka ga ((1 : Nat)) (9)), (2, Blk.row kb gb (5) (144)), (3, Blk.map (0) l3), (4, Blk.row
 n4 f4 (6) (147))])) else (bif decide (SSrc.r1 (l.getD i10.toNat src0) ≥ 0) then (bif decide (SSrc.r1 (l.getD i10.toNat src0) ≤ 1000) then (bif decide (SSrc.x1 (l.getD i10.toNat
 src0) ≥ 1) then (bif !decide (SSrc.x1 (l.getD i10.toNat src0) ≤ 1000) then some (T.leaf (AV.c (.d (.v (.int .i64 2))), [(0, Blk.cells [C.d (.v (.string s0)), C.row (1) (1) ka,
 C.row (2) (5) kb, C.row (4) (6) n4, C.d (D.v (Value.slice none 0 0)), C.mp (3)] (207)), (1, Blk.row ka ga (1) (9)), (2, Blk.row kb gb (5) (144)), (3, Blk.map (0) l3), (4, Blk.row
 n4 f4 (6) (147))])) else (bif decide (SSrc.r0 (l.getD i10.toNat src0) ≥ 0) then (bif decide (SSrc.r0 (l.getD i10.toNat src0) ≤ 1000) then (bif decide (SSrc.x0 (l.getD i10.toNat
 src0) ≥ 1) then (bif !decide (SSrc.x0 (l.getD i10.toNat src0) ≤ 1000) then some (T.leaf (AV.c (.d (.v (.int .i64 2))), [(0, Blk.cells [C.d (.v (.string s0)), C.row (1) (1) ka,
 C.row (2) (5) kb, C.row (4) (6) n4, C.d (.v (.slice none 0 0)), C.mp (3)] (207)), (1, Blk.row ka ga (1) (9)), (2, Blk.row kb gb (5) (144)), (3, Blk.map (0) l3), (4, Blk.row n4 f4
 (6) ((147 : Nat)))])) else (bif decide ((n4 + 1) * 56 ≤ 140737488355328) && decide (n4 + 1 ≤ 9223372036854775807) then L30_2 nk l s0 ka ga kb gb mpa g m ((Value.string (SSrc.name
 (l.getD i10.toNat src0)), Value.bool true) :: l3) (n4 + 1) (appF n4 f4 (Aat [dS (SSrc.name (l.getD i10.toNat src0)), dI (SSrc.emf (l.getD i10.toNat src0)), dI (SSrc.r1 (l.getD
 i10.toNat src0)), dI (SSrc.x1 (l.getD i10.toNat src0)), dI (SSrc.r0 (l.getD i10.toNat src0)), dI (SSrc.x0 (l.getD i10.toNat src0))] (5 + 1))) (IntKind.wrap .i64 (i10 + 1)) else
 none)) else some (T.leaf (AV.c (C.d (D.v (Value.int IntKind.i64 2))), [(0, Blk.cells [C.d (.v (.string s0)), C.row (1) (1) ka, C.row (2) (5) kb, C.row (4) ((6 : Nat)) n4, C.d (.v
 (.slice none 0 0)), C.mp (3)] (207)), (1, Blk.row ka ga (1) (9)), (2, Blk.row kb gb ((5 : Nat)) (144)), (3, Blk.map (0) l3), (4, Blk.row n4 f4 (6) (147))]))) else some (T.leaf
 (AV.c (.d (.v (.int .i64 2))), [(0, Blk.cells [C.d (.v (.string s0)), C.row (1) (1) ka, C.row (2) (5) kb, C.row (4) (6) n4, C.d (D.v (Value.slice none 0 0)), C.mp (3)] (207)), (1,
 Blk.row ka ga (1) (9)), (2, Blk.row kb gb (5) (144)), (3, Blk.map (0) l3), (4, Blk.row n4 f4 (6) (147))]))) else some (T.leaf (AV.c (.d (.v (.int .i64 2))), [(0, Blk.cells [C.d (.v
 (.string s0)), C.row (1) (1) ka, C.row (2) (5) kb, C.row (4) (6) n4, C.d (D.v (Value.slice none 0 (0 : Nat))), C.mp (3)] (207)), (1, Blk.row ka ga (1) (9)), (2, Blk.row kb gb (5)
 (144)), (3, Blk.map (0) l3), (4, Blk.row n4 f4 (6) (147))])))) else some (T.leaf (AV.c (.d (.v (.int .i64 2))), [(0, Blk.cells [C.d (D.v (Value.string s0)), C.row (1) (1) ka, C.row
 (2) (5) kb, C.row (4) (6) n4, C.d (.v (.slice none 0 0)), C.mp (3)] ((207 : Nat))), (1, Blk.row ka ga (1) (9)), (2, Blk.row kb gb (5) (144)), (3, Blk.map (0) l3), (4, Blk.row n4 f4
 (6) (147))]))) else some (T.leaf (AV.c (.d (.v (.int .i64 2))), [(0, Blk.cells [C.d (.v (.string s0)), C.row (1) ((1 : Nat)) ka, C.row (2) (5) kb, C.row (4) (6) n4, C.d (.v (.slice
 none 0 0)), C.mp (3)] (207)), (1, Blk.row ka ga (1) (9)), (2, Blk.row kb gb (5) (144)), (3, Blk.map (0) l3), (4, Blk.row n4 f4 (6) (147))]))) else some (T.leaf (AV.c (.d (.v (.int
 .i64 2))), [(0, Blk.cells [C.d (.v (.string s0)), C.row (1) (1) ka, C.row (2) ((5 : Nat)) kb, C.row (4) (6) n4, C.d (.v (.slice none 0 0)), C.mp (3)] (207)), (1, Blk.row ka ga (1)
 (9)), (2, Blk.row kb gb (5) (144)), (3, Blk.map (0) l3), (4, Blk.row n4 f4 (6) (147))])))) else some (T.leaf (AV.c (C.d (D.v (.int .i64 2))), [(0, Blk.cells [C.d (.v (.string s0)),
 C.row (1) (1) ka, C.row (2) (5) kb, C.row (4) (6) n4, C.d (.v (.slice none 0 0)), C.mp (3)] (207)), (1, Blk.row ka ga (1) (9)), (2, Blk.row kb gb ((5 : Nat)) (144)), (3, Blk.map
 (0) l3), (4, Blk.row n4 f4 (6) (147))]))))) else none) else some (T.leaf (AV.c (C.d (D.v (Value.int IntKind.i64 0))), [(0, Blk.cells [C.d (.v (.string s0)), C.row (1) (1) ka, C.row
 (2) (5) kb, C.row (4) (6) n4, C.d (.v (.slice none 0 0)), C.mp (3)] (207)), (1, Blk.row ka ga (1) (9)), (2, Blk.row kb gb (5) ((144 : Nat))), (3, Blk.map (0) l3), (4, Blk.row n4 f4
 (6) (147))]))) := by kernel_rfl
end Go.Proofs.YtbpndheehcbldaaGreatDoor.st
namespace Go.Proofs.YtbpndheehcbldaaGreatDoor.st
open Go.RowKit Go.Eb
abbrev A5 := (ByteArray × Nat × Nat × Nat × Nat × Unit × Unit) × (Nat × (Nat → List D)) × (Nat × (Nat → List D)) × (Nat × (Nat → List D)) × (Nat × (Nat → List D)) × (List (Value × Value)) × Unit
def dH5 : Dec Hp A5 := .cons (.blk 0 (.cells 207 (.cons .str (.cons (.row 1 1) (.cons (.row 2 5) (.cons (.row 3 6) (.cons (.row 4 12) (.cons (.mp 5) .nil)))))))) (.cons (.blk 1 (.rowB 1 9)) (.cons (.blk 2 (.rowB 5 144)) (.cons (.blk 3 (.rowB 6 147)) (.cons (.blk 4 (.rowB 12 118)) (.cons (.blk 5 (.mapB 0)) .nil)))))
def dBay : Dec (List AV) (Unit × RBay × Unit) := .cons (.c (.ptr 0 0)) (.cons (.agg bayD) .nil)
def d55 : Dec (List AV × Hp) ((Unit × RBay × Unit) × A5) := .pair dBay dH5
noncomputable def o55 : Orc := oWi
noncomputable def ann55 : Ann := AaE [(5, ⟨[3, 0, 27, 28, 29], []⟩)]
noncomputable def L55_5 (x : SBay) (s0 : ByteArray) (ka : Nat) (ga : Nat → List D) (kb : Nat) (gb : Nat → List D) (kc : Nat) (gc : Nat → List D) (kd : Nat) (gd : Nat → List D) (mpa : List (Value × Value)) (g m : Nat) (i29 : Int) := LK Tryz.prog o55 ann55 (List.length (α := Nat × Blk) [(0, .cells [.d (dS s0), .row 1 1 ka, .row 2 5 kb, .row 3 6 kc, .row 4 12 kd, .mp 5] 207), (1, .row ka ga 1 9), (2, .row kb gb 5 144), (3, .row kc gc 6 147), (4, .row kd gd 12 118), (5, .map 0 mpa)]) g Tryz.f131 5 m ⟨frm [(0, .c (.ptr 0 0)), (3, .c (.ptr 6 0)), (27, .c (.d (D.sl 2 (List.length (SBay.links x)) fun i => Adu (List.getD (SBay.links x) i AaH)))), (28, .c (.d (.v (.int .i64 (↑(List.length (SBay.links x)) : Int))))), (29, .c (.d (.v (.int .i64 i29))))] 0 Tryz.f131.ntmps, [(0, Blk.cells [.d (.v (.string s0)), C.row 1 1 ka, C.row 2 5 kb, C.row 3 6 kc, C.row 4 12 kd, C.mp 5] 207), (1, Blk.row ka ga 1 9), (2, Blk.row kb gb 5 144), (3, Blk.row kc gc 6 147), (4, Blk.row kd gd 12 118), (5, Blk.map 0 mpa), (6, Blk.cells [.d (.v (.string (SBay.name x))), .d (.v (.int .i64 (SBay.kind x))), .d (.v (.int .i64 (SBay.off x))), .d (.v (.int .i64 (SBay.fin x))), .d (.v (.int .i64 (SBay.zr x))), .d (.v (.int .i64 (SBay.zx x))), C.d (D.sl 2 (List.length (SBay.links x)) fun i => Adu (List.getD (SBay.links x) i AaH)), .d (.v (.bool (SBay.closed x))), .d (.v (.int .i64 (SBay.ct x))), .d (.v (.int .i64 (SBay.vt x))), .d (.v (.int .i64 (SBay.sat x))), .d (.v (.int .i64 (SBay.travel x)))] 118)], 7⟩
theorem b55 : Tryz.f131.body = some (Aad Tryz.f131) := by kernel_rfl
theorem ev55 (x : SBay) (s0 : ByteArray) (ka : Nat) (ga : Nat → List D) (kb : Nat) (gb : Nat → List D) (kc : Nat) (gc : Nat → List D) (kd : Nat) (gd : Nat → List D) (mpa : List (Value × Value)) (g : Nat) : Aai Tryz.prog o55 ann55 g Tryz.f131 (Aad Tryz.f131) [.c (.ptr 0 0), aBay x] [(0, .cells [.d (dS s0), .row 1 1 ka, .row 2 5 kb, .row 3 6 kc, .row 4 12 kd, .mp 5] 207), (1, .row ka ga 1 9), (2, .row kb gb 5 144), (3, .row kc gc 6 147), (4, .row kd gd 12 118), (5, .map 0 mpa)] =
 (bif decide ((↑x.links.length : Int) < 1) then some (T.leaf (AV.c (.d (.v (.int .i64 3))), [(0, Blk.cells [C.d (D.v (Value.string s0)), C.row (1) (1) ka, C.row (2) (5) kb, C.row
 (3) (6) kc, C.row (4) (12) kd, C.mp (5)] (207)), ((1 : Nat), Blk.row ka ga (1) (9)), (2, Blk.row kb gb (5) (144)), (3, Blk.row kc gc (6) (147)), (4, Blk.row kd gd (12) (118)), (5,
 Blk.map (0) mpa)])) else (bif decide ((↑x.links.length : Int) > 2) then some (T.leaf (AV.c (C.d (D.v (Value.int IntKind.i64 3))), [(0, Blk.cells [C.d (.v (.string s0)), C.row (1)
 (1) ka, C.row (2) (5) kb, C.row (3) ((6 : Nat)) kc, C.row (4) (12) kd, C.mp (5)] (207)), (1, Blk.row ka ga (1) (9)), (2, Blk.row kb gb (5) ((144 : Nat))), (3, Blk.row kc gc (6)
 (147)), (4, Blk.row kd gd (12) (118)), (5, Blk.map (0) mpa)])) else (bif x.kind == 3 then (bif (↑x.links.length : Int) != 2 then some (T.leaf (AV.c (.d (.v (.int .i64 3))), [(0,
 Blk.cells [C.d (D.v (Value.string s0)), C.row (1) (1) ka, C.row (2) (5) kb, C.row (3) (6) kc, C.row (4) (12) kd, C.mp (5)] ((207 : Nat))), (1, Blk.row ka ga (1) (9)), (2, Blk.row
 kb gb (5) (144)), (3, Blk.row kc gc (6) (147)), (4, Blk.row kd gd (12) (118)), (5, Blk.map (0) mpa)])) else L55_5 x s0 ka ga kb gb kc gc kd gd mpa g g 0) else L55_5 x s0 ka ga kb
 gb kc gc kd gd mpa g g 0))) := by kernel_rfl
theorem st55_5 (x : SBay) (s0 : ByteArray) (ka : Nat) (ga : Nat → List D) (kb : Nat) (gb : Nat → List D) (kc : Nat) (gc : Nat → List D) (kd : Nat) (gd : Nat → List D) (mpa : List (Value × Value)) (g m : Nat) (i29 : Int) : L55_5 x s0 ka ga kb gb kc gc kd gd mpa g (m + 1) i29 =
 (bif decide (i29 < (↑x.links.length : Int)) then (bif decide (0 ≤ i29) && decide (i29 < (↑x.links.length : Int)) then (bif decide (SLink.bus (x.links.getD i29.toNat AaH) ≥ 0) then
 (bif !decide (SLink.bus (x.links.getD i29.toNat AaH) ≤ IntKind.wrap .i64 ((↑ka : Int) - 1)) then some (T.leaf (AV.c (.d (.v (.int .i64 9))), [(0, Blk.cells [C.d (.v (.string s0)),
 C.row (1) (1) ka, C.row ((2 : Nat)) (5) kb, C.row (3) (6) kc, C.row (4) (12) kd, C.mp (5)] (207)), (1, Blk.row ka ga (1) (9)), ((2 : Nat), Blk.row kb gb (5) (144)), (3, Blk.row kc
 gc (6) (147)), (4, Blk.row kd gd (12) (118)), (5, Blk.map (0) mpa)])) else (bif SLink.pos (x.links.getD i29.toNat AaH) != 1 then (bif SLink.pos (x.links.getD i29.toNat AaH) != 0
 then some (T.leaf (AV.c (.d (.v (.int .i64 16))), [(0, Blk.cells [C.d (.v (.string s0)), C.row (1) (1) ka, C.row (2) (5) kb, C.row (3) (6) kc, C.row (4) (12) kd, C.mp (5)] (207)),
 (1, Blk.row ka ga (1) (9)), ((2 : Nat), Blk.row kb gb (5) (144)), (3, Blk.row kc gc (6) (147)), (4, Blk.row kd gd (12) (118)), (5, Blk.map ((0 : Nat)) mpa)])) else (bif x.kind == 3
 then some (T.leaf (AV.c (.d (.v (.int .i64 16))), [(0, Blk.cells [C.d (.v (.string s0)), C.row (1) (1) ka, C.row (2) (5) kb, C.row (3) (6) kc, C.row (4) (12) kd, C.mp (5)] (207)),
 (1, Blk.row ka ga (1) (9)), (2, Blk.row kb gb (5) (144)), (3, Blk.row kc gc (6) (147)), (4, Blk.row kd gd ((12 : Nat)) (118)), (5, Blk.map (0) mpa)])) else (bif decide (i29 > 0)
 then (bif decide (0 ≤ IntKind.wrap .i64 (i29 - 1)) && decide (IntKind.wrap .i64 (i29 - 1) < (↑x.links.length : Int)) then (bif SLink.bus (x.links.getD (Int.toNat (IntKind.wrap .i64
 (i29 - 1))) AaH) == SLink.bus (x.links.getD i29.toNat AaH) then some (T.leaf (AV.c (.d (.v (.int .i64 12))), [(0, Blk.cells [C.d (D.v (Value.string s0)), C.row (1) (1) ka, C.row
 (2) (5) kb, C.row (3) (6) kc, C.row (4) (12) kd, C.mp (5)] ((207 : Nat))), (1, Blk.row ka ga (1) (9)), (2, Blk.row kb gb (5) (144)), (3, Blk.row kc gc (6) (147)), (4, Blk.row kd gd
 (12) (118)), (5, Blk.map (0) mpa)])) else L55_5 x s0 ka ga kb gb kc gc kd gd mpa g m (IntKind.wrap .i64 (i29 + 1))) else none) else L55_5 x s0 ka ga kb gb kc gc kd gd mpa g m
 (IntKind.wrap .i64 (i29 + 1))))) else (bif decide (i29 > 0) then (bif decide (0 ≤ IntKind.wrap IntKind.i64 (i29 - 1)) && decide (IntKind.wrap .i64 (i29 - 1) < (↑x.links.length :
 Int)) then (bif SLink.bus (x.links.getD (Int.toNat (IntKind.wrap .i64 (i29 - 1))) AaH) == SLink.bus (x.links.getD i29.toNat AaH) then some (T.leaf (AV.c (C.d (D.v (Value.int
 IntKind.i64 12))), [(0, Blk.cells [C.d (.v (.string s0)), C.row (1) (1) ka, C.row (2) (5) kb, C.row (3) (6) kc, C.row (4) (12) kd, C.mp (5)] (207)), (1, Blk.row ka ga (1) (9)), (2,
 Blk.row kb gb (5) (144)), ((3 : Nat), Blk.row kc gc (6) (147)), (4, Blk.row kd gd (12) (118)), (5, Blk.map (0) mpa)])) else L55_5 x s0 ka ga kb gb kc gc kd gd mpa g m (IntKind.wrap
 .i64 (i29 + 1))) else none) else L55_5 x s0 ka ga kb gb kc gc kd gd mpa g m (IntKind.wrap .i64 (i29 + 1))))) else some (T.leaf (AV.c (.d (.v (.int .i64 9))), [(0, Blk.cells [C.d
 (.v (.string s0)), C.row (1) (1) ka, C.row (2) (5) kb, C.row (3) (6) kc, C.row (4) (12) kd, C.mp (5)] (207)), (1, Blk.row ka ga (1) (9)), (2, Blk.row kb gb ((5 : Nat)) (144)), (3,
 Blk.row kc gc (6) (147)), (4, Blk.row kd gd (12) (118)), (5, Blk.map (0) mpa)]))) else none) else some (T.leaf (AV.c (.d (.v (.int .i64 0))), [(0, Blk.cells [C.d (.v (.string s0)),
 C.row (1) (1) ka, C.row (2) (5) kb, C.row (3) (6) kc, C.row (4) (12) kd, C.mp (5)] (207)), (1, Blk.row ka ga (1) (9)), ((2 : Nat), Blk.row kb gb (5) (144)), (3, Blk.row kc gc (6)
 (147)), (4, Blk.row kd gd (12) (118)), (5, Blk.map ((0 : Nat)) mpa)]))) := by kernel_rfl
noncomputable def o54 : Orc := Orc.cons 128 (inl Tryz.prog oWi na 1 Tryz.f128) oWi
noncomputable def ann54 : Ann := AaE []
theorem b54 : Tryz.f130.body = some (Aad Tryz.f130) := by kernel_rfl
theorem ev54 (x : SBay) (g : Nat) : Aai Tryz.prog o54 ann54 g Tryz.f130 (Aad Tryz.f130) [aBay x] [] =
 (bif x.kind == 3 then (bif decide (x.zr ≥ 0) then (bif decide (x.zr ≤ 1000) then (bif decide (x.zx ≥ 1) then (bif !decide (x.zx ≤ 1000) then leB false else (bif x.vt != 0 then leB
 false else (bif x.kind == 1 then (bif decide (x.fin ≥ 0) then (bif decide (x.fin ≤ 1) then (bif decide (x.ct ≥ 1) then (bif decide (x.ct ≤ 100) then (bif decide (x.sat ≥ 0) then
 (bif decide (x.sat ≤ 16383) then (bif decide (x.travel ≥ 1) then leB (decide (x.travel ≤ 6)) else leB false) else leB false) else leB false) else leB false) else leB false) else
 leB false) else leB false) else (bif decide (x.fin ≥ 0) then (bif decide (x.fin ≤ 0) then (bif decide (x.ct ≥ 1) then (bif decide (x.ct ≤ 100) then (bif decide (x.sat ≥ 0) then
 (bif decide (x.sat ≤ 16383) then (bif decide (x.travel ≥ 1) then leB (decide (x.travel ≤ 6)) else leB false) else leB false) else leB false) else leB false) else leB false) else
 leB false) else leB false)))) else leB false) else leB false) else leB false) else (bif !(x.zr == 0 && (x.zx == 0 && true)) then leB false else (bif decide (x.vt ≥ 1) then (bif
 !decide (x.vt ≤ 10000) then leB false else (bif x.kind == 1 then (bif decide (x.fin ≥ 0) then (bif decide (x.fin ≤ 1) then (bif decide (x.ct ≥ 1) then (bif decide (x.ct ≤ 100) then
 (bif decide (x.sat ≥ 0) then (bif decide (x.sat ≤ 16383) then (bif decide (x.travel ≥ 1) then leB (decide (x.travel ≤ 6)) else leB false) else leB false) else leB false) else leB
 false) else leB false) else leB false) else leB false) else (bif decide (x.fin ≥ 0) then (bif decide (x.fin ≤ 0) then (bif decide (x.ct ≥ 1) then (bif decide (x.ct ≤ 100) then (bif
 decide (x.sat ≥ 0) then (bif decide (x.sat ≤ 16383) then (bif decide (x.travel ≥ 1) then leB (decide (x.travel ≤ 6)) else leB false) else leB false) else leB false) else leB false)
 else leB false) else leB false) else leB false))) else leB false))) := by kernel_rfl
def d54 : Dec (List AV × Hp) ((RBay × Unit) × Unit) := .pair (.cons (.agg bayD) .nil) .nil
noncomputable def oRa (nk : ByteArray → Bool) (okr rg : RBay → Bool) : Orc := Orc.cons 130 (ansD d54 (fun a => okr a.1.1) (fun a => vB (rg a.1.1)) fun _ => []) (oIm nk)
noncomputable def o33 (nk : ByteArray → Bool) (okr rg : RBay → Bool) (ok : (Unit × RBay × Unit) × A5 → Bool) (lk : (Unit × RBay × Unit) × A5 → Int) : Orc := Orc.cons 131 (ansD d55 ok (fun a => vI (lk a)) (fun a => (d55.enc a).2)) (oRa nk okr rg)
noncomputable def ann33 : Ann := AaE [(18, ⟨[3, 50, 0, 51, 52], []⟩)]
noncomputable def AeJ (nk : ByteArray → Bool) (okr rg : RBay → Bool) (ok : (Unit × RBay × Unit) × A5 → Bool) (lk : (Unit × RBay × Unit) × A5 → Int) (x : SBay) (s0 : ByteArray) (ka : Nat) (ga : Nat → List D) (kb : Nat) (gb : Nat → List D) (kc : Nat) (gc : Nat → List D) (bs : List SBay) (mpa : List (Value × Value)) (g m : Nat) (i52 : Int) := LK Tryz.prog (o33 nk okr rg ok lk) ann33 (List.length (α := Nat × Blk) [(0, .cells [.d (dS s0), .row 1 1 ka, .row 2 5 kb, .row 3 6 kc, .row 4 12 bs.length, .mp 5] 207), (1, .row ka ga 1 9), (2, .row kb gb 5 144), (3, .row kc gc 6 147), (4, .row bs.length (fun i => bayC (bs.getD i bay0)) 12 118), (5, .map 0 mpa)]) g Tryz.f74 18 m ⟨frm [(0, .c (.ptr 0 0)), (3, .c (.ptr 6 0)), (50, .c (.row 4 12 (List.length bs))), (51, .c (.d (.v (.int .i64 (↑(List.length bs) : Int))))), (52, .c (.d (.v (.int .i64 i52))))] 0 Tryz.f74.ntmps, [(0, Blk.cells [.d (.v (.string s0)), C.row 1 1 ka, C.row 2 5 kb, C.row 3 6 kc, C.row 4 12 (List.length bs), C.mp 5] 207), (1, Blk.row ka ga 1 9), (2, Blk.row kb gb 5 144), (3, Blk.row kc gc 6 147), (4, Blk.row (List.length bs) (fun i => bayC (List.getD bs i bay0)) 12 118), (5, Blk.map 0 mpa), (6, Blk.cells [.d (.v (.string (SBay.name x))), .d (.v (.int .i64 (SBay.kind x))), .d (.v (.int .i64 (SBay.off x))), .d (.v (.int .i64 (SBay.fin x))), .d (.v (.int .i64 (SBay.zr x))), .d (.v (.int .i64 (SBay.zx x))), C.d (D.sl 2 (List.length (SBay.links x)) fun i => Adu (List.getD (SBay.links x) i AaH)), .d (.v (.bool (SBay.closed x))), .d (.v (.int .i64 (SBay.ct x))), .d (.v (.int .i64 (SBay.vt x))), .d (.v (.int .i64 (SBay.sat x))), .d (.v (.int .i64 (SBay.travel x)))] 118)], 7⟩
theorem b33 : Tryz.f74.body = some (Aad Tryz.f74) := by kernel_rfl
theorem ev33 (nk : ByteArray → Bool) (okr rg : RBay → Bool) (ok : (Unit × RBay × Unit) × A5 → Bool) (lk : (Unit × RBay × Unit) × A5 → Int) (x : SBay) (s0 : ByteArray) (ka : Nat) (ga : Nat → List D) (kb : Nat) (gb : Nat → List D) (kc : Nat) (gc : Nat → List D) (bs : List SBay) (mpa : List (Value × Value)) (g : Nat) : Aai Tryz.prog (o33 nk okr rg ok lk) ann33 g Tryz.f74 (Aad Tryz.f74) [.c (.ptr 0 0), aBay x] [(0, .cells [.d (dS s0), .row 1 1 ka, .row 2 5 kb, .row 3 6 kc, .row 4 12 bs.length, .mp 5] 207), (1, .row ka ga 1 9), (2, .row kb gb 5 144), (3, .row kc gc 6 147), (4, .row bs.length (fun i => bayC (bs.getD i bay0)) 12 118), (5, .map 0 mpa)] =
 (bif !nk x.name then some (T.leaf (AV.c (.d (.v (.int .i64 7))), [(0, Blk.cells [C.d (.v (.string s0)), C.row (1) (1) ka, C.row (2) (5) kb, C.row (3) (6) kc, C.row (4) (12)
 bs.length, C.mp (5)] (207)), (1, Blk.row ka ga ((1 : Nat)) (9)), (2, Blk.row kb gb (5) (144)), (3, Blk.row kc gc (6) (147)), (4, Blk.row bs.length (fun i => bayC (bs.getD i bay0))
 (12) (118)), (5, Blk.map (0) mpa)])) else (bif Abf (Aaz mpa (Value.string x.name)) then some (T.leaf (AV.c (C.d (D.v (.int .i64 8))), [(0, Blk.cells [C.d (.v (.string s0)), C.row
 (1) (1) ka, C.row (2) (5) kb, C.row (3) (6) kc, C.row (4) (12) bs.length, C.mp (5)] (207)), (1, Blk.row ka ga (1) (9)), (2, Blk.row kb gb ((5 : Nat)) (144)), (3, Blk.row kc gc (6)
 (147)), (4, Blk.row bs.length (fun i => bayC (bs.getD i bay0)) (12) (118)), (5, Blk.map (0) mpa)])) else (bif x.kind == 1 then (bif decide (x.off ≥ 0) then (bif !decide (x.off ≤
 IntKind.wrap .i64 ((↑kb : Int) - 1)) then some (T.leaf (AV.c (.d (.v (.int .i64 9))), [(0, Blk.cells [C.d (.v (.string s0)), C.row (1) (1) ka, C.row (2) (5) kb, C.row (3) (6) kc,
 C.row (4) (12) bs.length, C.mp (5)] (207)), (1, Blk.row ka ga ((1 : Nat)) (9)), (2, Blk.row kb gb (5) (144)), (3, Blk.row kc gc (6) (147)), (4, Blk.row bs.length (fun i => bayC
 (bs.getD i bay0)) (12) (118)), (5, Blk.map (0) mpa)])) else (bif okr (x.name, x.kind, x.off, x.fin, x.zr, x.zx, Abe x.links, x.closed, x.ct, x.vt, x.sat, x.travel, ()) then (bif
 !rg (x.name, x.kind, x.off, x.fin, x.zr, x.zx, Abe x.links, x.closed, x.ct, x.vt, x.sat, x.travel, ()) then some (T.leaf (AV.c (.d (.v (.int .i64 2))), [(0, Blk.cells [C.d (.v
 (.string s0)), C.row (1) (1) ka, C.row (2) (5) kb, C.row (3) (6) kc, C.row (4) (12) bs.length, C.mp (5)] (207)), (1, Blk.row ka ga (1) (9)), (2, Blk.row kb gb (5) (144)), (3,
 Blk.row kc gc (6) (147)), (4, Blk.row bs.length (fun i => bayC (bs.getD i bay0)) (12) (118)), (5, Blk.map (0) mpa)])) else AeJ nk okr rg ok lk x s0 ka ga kb gb kc gc bs mpa g g 0)
 else none)) else some (T.leaf (AV.c (.d (.v (.int .i64 9))), [(0, Blk.cells [C.d (D.v (.string s0)), C.row (1) (1) ka, C.row (2) (5) kb, C.row (3) (6) kc, C.row (4) (12) bs.length,
 C.mp (5)] (207)), (1, Blk.row ka ga (1) (9)), (2, Blk.row kb gb (5) (144)), (3, Blk.row kc gc (6) ((147 : Nat))), (4, Blk.row bs.length (fun i => bayC (bs.getD i bay0)) (12)
 (118)), (5, Blk.map (0) mpa)]))) else (bif x.kind == 2 then (bif decide (x.off ≥ 0) then (bif !decide (x.off ≤ IntKind.wrap .i64 ((↑kc : Int) - 1)) then some (T.leaf (AV.c (C.d
 (D.v (Value.int IntKind.i64 9))), [(0, Blk.cells [C.d (.v (.string s0)), C.row (1) (1) ka, C.row (2) (5) kb, C.row (3) (6) kc, C.row (4) (12) bs.length, C.mp (5)] (207)), (1,
 Blk.row ka ga (1) (9)), (2, Blk.row kb gb (5) ((144 : Nat))), (3, Blk.row kc gc (6) (147)), (4, Blk.row bs.length (fun i => bayC (bs.getD i bay0)) (12) (118)), (5, Blk.map (0)
 mpa)])) else (bif okr (x.name, x.kind, x.off, x.fin, x.zr, x.zx, Abe x.links, x.closed, x.ct, x.vt, x.sat, x.travel, ()) then (bif !rg (x.name, x.kind, x.off, x.fin, x.zr, x.zx,
 Abe x.links, x.closed, x.ct, x.vt, x.sat, x.travel, ()) then some (T.leaf (AV.c (.d (.v (.int .i64 2))), [(0, Blk.cells [C.d (.v (.string s0)), C.row (1) ((1 : Nat)) ka, C.row (2)
 (5) kb, C.row (3) (6) kc, C.row (4) (12) bs.length, C.mp (5)] (207)), (1, Blk.row ka ga (1) (9)), (2, Blk.row kb gb (5) (144)), (3, Blk.row kc gc (6) (147)), (4, Blk.row bs.length
 (fun i => bayC (bs.getD i bay0)) (12) (118)), (5, Blk.map (0) mpa)])) else AeJ nk okr rg ok lk x s0 ka ga kb gb kc gc bs mpa g g 0) else none)) else some (T.leaf (AV.c (.d (.v
 (.int .i64 9))), [(0, Blk.cells [C.d (.v (.string s0)), C.row (1) (1) ka, C.row ((2 : Nat)) (5) kb, C.row (3) (6) kc, C.row (4) (12) bs.length, C.mp (5)] (207)), (1, Blk.row ka ga
 (1) ((9 : Nat))), (2, Blk.row kb gb (5) (144)), (3, Blk.row kc gc (6) (147)), (4, Blk.row bs.length (fun i => bayC (bs.getD i bay0)) (12) (118)), (5, Blk.map (0) mpa)]))) else (bif
 x.kind == 3 then (bif decide (x.off ≥ 0) then (bif !decide (x.off ≤ IntKind.wrap .i64 (1 - 1)) then some (T.leaf (AV.c (.d (.v (.int .i64 9))), [(0, Blk.cells [C.d (D.v
 (Value.string s0)), C.row (1) (1) ka, C.row (2) (5) kb, C.row (3) (6) kc, C.row (4) (12) bs.length, C.mp (5)] ((207 : Nat))), (1, Blk.row ka ga (1) (9)), (2, Blk.row kb gb (5)
 (144)), (3, Blk.row kc gc (6) (147)), (4, Blk.row bs.length (fun i => bayC (bs.getD i bay0)) (12) (118)), (5, Blk.map (0) mpa)])) else (bif okr (x.name, x.kind, x.off, x.fin, x.zr,
 x.zx, Abe x.links, x.closed, x.ct, x.vt, x.sat, x.travel, ()) then (bif !rg (x.name, x.kind, x.off, x.fin, x.zr, x.zx, Abe x.links, x.closed, x.ct, x.vt, x.sat, x.travel, ()) then
 some (T.leaf (AV.c (C.d (D.v (Value.int IntKind.i64 2))), [(0, Blk.cells [C.d (.v (.string s0)), C.row (1) (1) ka, C.row (2) (5) kb, C.row (3) (6) kc, C.row ((4 : Nat)) (12)
 bs.length, C.mp (5)] (207)), (1, Blk.row ka ga (1) (9)), (2, Blk.row kb gb (5) (144)), ((3 : Nat), Blk.row kc gc (6) (147)), (4, Blk.row bs.length (fun i => bayC (bs.getD i bay0))
 (12) (118)), (5, Blk.map ((0 : Nat)) mpa)])) else AeJ nk okr rg ok lk x s0 ka ga kb gb kc gc bs mpa g g 0) else none)) else some (T.leaf (AV.c (.d (.v (.int .i64 9))), [((0 : Nat),
 Blk.cells [C.d (.v (.string s0)), C.row (1) (1) ka, C.row (2) (5) kb, C.row (3) (6) kc, C.row (4) (12) bs.length, C.mp (5)] (207)), (1, Blk.row ka ga (1) (9)), (2, Blk.row kb gb
 (5) (144)), (3, Blk.row kc gc (6) (147)), (4, Blk.row bs.length (fun i => bayC (bs.getD i bay0)) (12) (118)), (5, Blk.map (0) mpa)]))) else some (T.leaf (AV.c (.d (.v (.int .i64
 10))), [(0, Blk.cells [C.d (.v (.string s0)), C.row (1) (1) ka, C.row (2) ((5 : Nat)) kb, C.row (3) (6) kc, C.row (4) (12) bs.length, C.mp (5)] (207)), (1, Blk.row ka ga (1) (9)),
 (2, Blk.row kb gb (5) (144)), (3, Blk.row kc gc (6) (147)), (4, Blk.row bs.length (fun i => bayC (bs.getD i bay0)) (12) (118)), (5, Blk.map (0) mpa)]))))))) := by kernel_rfl
theorem st33_18 (nk : ByteArray → Bool) (okr rg : RBay → Bool) (ok : (Unit × RBay × Unit) × A5 → Bool) (lk : (Unit × RBay × Unit) × A5 → Int) (x : SBay) (s0 : ByteArray) (ka : Nat) (ga : Nat → List D) (kb : Nat) (gb : Nat → List D) (kc : Nat) (gc : Nat → List D) (bs : List SBay) (mpa : List (Value × Value)) (g m : Nat) (i52 : Int) : AeJ nk okr rg ok lk x s0 ka ga kb gb kc gc bs mpa g (m + 1) i52 =
 (bif decide (i52 < (↑bs.length : Int)) then (bif decide (0 ≤ i52) && decide (i52 < (↑bs.length : Int)) then (bif x.kind != 3 then (bif x.kind == SBay.kind (bs.getD i52.toNat bay0)
 then (bif x.off == SBay.off (bs.getD i52.toNat bay0) then (bif x.fin == SBay.fin (bs.getD i52.toNat bay0) then some (T.leaf (AV.c (.d (.v (.int .i64 12))), [(0, Blk.cells [C.d (.v
 (.string s0)), C.row (1) (1) ka, C.row ((2 : Nat)) (5) kb, C.row (3) (6) kc, C.row (4) (12) bs.length, C.mp (5)] (207)), (1, Blk.row ka ga (1) ((9 : Nat))), (2, Blk.row kb gb (5)
 (144)), (3, Blk.row kc gc (6) (147)), (4, Blk.row bs.length (fun i => bayC (bs.getD i bay0)) (12) (118)), (5, Blk.map (0) mpa)])) else AeJ nk okr rg ok lk x s0 ka ga kb gb kc gc bs
 mpa g m (IntKind.wrap .i64 (i52 + 1))) else AeJ nk okr rg ok lk x s0 ka ga kb gb kc gc bs mpa g m (IntKind.wrap .i64 (i52 + 1))) else AeJ nk okr rg ok lk x s0 ka ga kb gb kc gc bs
 mpa g m (IntKind.wrap .i64 (i52 + 1))) else AeJ nk okr rg ok lk x s0 ka ga kb gb kc gc bs mpa g m (IntKind.wrap .i64 (i52 + 1))) else none) else (bif ok (((), (x.name, x.kind,
 x.off, x.fin, x.zr, x.zx, D.sl 2 x.links.length fun i => Adu (x.links.getD i AaH), x.closed, x.ct, x.vt, x.sat, x.travel, ()), ()), (s0, ka, kb, kc, bs.length, (), ()), (ka, ga),
 (kb, gb), (kc, gc), (bs.length, fun i => bayC (bs.getD i bay0)), mpa, ()) then (bif lk (((), (x.name, x.kind, x.off, x.fin, x.zr, x.zx, D.sl 2 x.links.length fun i => Adu
 (x.links.getD i AaH), x.closed, x.ct, x.vt, x.sat, x.travel, ()), ()), (s0, ka, kb, kc, bs.length, (), ()), (ka, ga), (kb, gb), (kc, gc), (bs.length, fun i => bayC (bs.getD i
 bay0)), mpa, ()) != 0 then some (T.leaf (AV.c (.d (.v (.int .i64 (lk (((), (x.name, x.kind, x.off, x.fin, x.zr, x.zx, D.sl 2 x.links.length fun i => Adu (x.links.getD i AaH),
 x.closed, x.ct, x.vt, x.sat, x.travel, ()), ()), (s0, ka, kb, kc, bs.length, (), ()), (ka, ga), (kb, gb), (kc, gc), (bs.length, fun i => bayC (bs.getD i bay0)), mpa, ()))))), [(0,
 Blk.cells [C.d (.v (.string s0)), C.row (1) (1) ka, C.row (2) (5) kb, C.row (3) (6) kc, C.row (4) ((12 : Nat)) bs.length, C.mp (5)] (207)), (1, Blk.row ka ga (1) (9)), (2, Blk.row
 kb gb (5) (144)), (3, Blk.row kc gc (6) (147)), (4, Blk.row bs.length (fun i => bayC (bs.getD i bay0)) (12) (118)), (5, Blk.map (0) (Prod.fst (Prod.snd (Prod.snd (Prod.snd
 (Prod.snd (Prod.snd (Prod.snd (((), (x.name, x.kind, x.off, x.fin, x.zr, x.zx, D.sl 2 x.links.length fun i => Adu (x.links.getD i AaH), x.closed, x.ct, x.vt, x.sat, x.travel, ()),
 ()), (s0, ka, kb, kc, bs.length, (), ()), (ka, ga), (kb, gb), (kc, gc), (bs.length, fun i => bayC (bs.getD i bay0)), mpa, ())))))))))])) else (bif decide ((bs.length + 1) * 120 ≤
 140737488355328) && decide (bs.length + 1 ≤ 9223372036854775807) then some (T.leaf (AV.c (.d (.v (.int .i64 0))), [(0, Blk.cells [C.d (.v (.string s0)), C.row (1) (1) ka, C.row (2)
 (5) kb, C.row (3) (6) kc, C.row (6) (12) (bs.length + 1), C.mp (5)] (207)), (1, Blk.row ka ga (1) (9)), (2, Blk.row kb gb (5) (144)), (3, Blk.row kc gc (6) (147)), (4, Blk.dead),
 (5, Blk.map (0) ((Value.string x.name, Value.bool true) :: Prod.fst (Prod.snd (Prod.snd (Prod.snd (Prod.snd (Prod.snd (Prod.snd (((), (x.name, x.kind, x.off, x.fin, x.zr, x.zx,
 D.sl 2 x.links.length fun i => Adu (x.links.getD i AaH), x.closed, x.ct, x.vt, x.sat, x.travel, ()), ()), (s0, ka, kb, kc, bs.length, (), ()), (ka, ga), (kb, gb), (kc, gc),
 (bs.length, fun i => bayC (bs.getD i bay0)), mpa, ()))))))))), (6, Blk.row (bs.length + 1) (appF bs.length (fun i => bayC (bs.getD i bay0)) (Aat [D.v (.string x.name), D.v (.int
 .i64 x.kind), D.v (.int .i64 x.off), D.v (.int .i64 x.fin), D.v (Value.int IntKind.i64 x.zr), D.v (.int .i64 x.zx), D.sl 2 x.links.length fun i => Adu (x.links.getD i AaH), D.v
 (Value.bool x.closed), D.v (.int .i64 x.ct), D.v (.int .i64 x.vt), D.v (.int .i64 x.sat), D.v (Value.int IntKind.i64 x.travel)] (11 + 1))) (12) (118))])) else none)) else none)) := by kernel_rfl
noncomputable def h33 (cn : Nat → (Nat → List D) → (Nat → List D)) (bc : RBay → List D) (a : (Unit × RBay × Unit) × A5) : Hp := [(0, .cells [.d (dS a.2.1.1), .row 1 1 a.2.2.1.1, .row 2 5 a.2.2.2.1.1, .row 3 6 a.2.2.2.2.1.1, .row 6 12 (a.2.2.2.2.2.1.1 + 1), .mp 5] 207), (1, .row a.2.2.1.1 a.2.2.1.2 1 9), (2, .row a.2.2.2.1.1 a.2.2.2.1.2 5 144), (3, .row a.2.2.2.2.1.1 a.2.2.2.2.1.2 6 147), (4, .dead), (5, .map 0 ((.string a.1.2.1.1, .bool true) :: a.2.2.2.2.2.2.1)), (6, .row (a.2.2.2.2.2.1.1 + 1) (appF a.2.2.2.2.2.1.1 (cn a.2.2.2.2.2.1.1 a.2.2.2.2.2.1.2) (Aat (bc a.1.2.1) 12)) 12 118)]
noncomputable def h33e (cn : Nat → (Nat → List D) → (Nat → List D)) (a : (Unit × RBay × Unit) × A5) : Hp := [(0, .cells [.d (dS a.2.1.1), .row 1 1 a.2.2.1.1, .row 2 5 a.2.2.2.1.1, .row 3 6 a.2.2.2.2.1.1, .row 4 12 a.2.2.2.2.2.1.1, .mp 5] 207), (1, .row a.2.2.1.1 a.2.2.1.2 1 9), (2, .row a.2.2.2.1.1 a.2.2.2.1.2 5 144), (3, .row a.2.2.2.2.1.1 a.2.2.2.2.1.2 6 147), (4, .row a.2.2.2.2.2.1.1 (cn a.2.2.2.2.2.1.1 a.2.2.2.2.2.1.2) 12 118), (5, .map 0 a.2.2.2.2.2.2.1)]
noncomputable def o32 (cn : Nat → (Nat → List D) → (Nat → List D)) (bc : RBay → List D) (ok : (Unit × RBay × Unit) × A5 → Bool) (er : (Unit × RBay × Unit) × A5 → Int) : Orc := Orc.cons 74 (ansB d55 ok (fun a => er a == 0) (fun _ => vI 0) (h33 cn bc) (fun a => vI (er a)) (h33e cn)) Orc.nil
noncomputable def ann32 : Ann := AaE [(2, ⟨[1, 8, 9, 10], [(1, 4, 12, 118)]⟩)]
noncomputable def L32_2 (cn : Nat → (Nat → List D) → (Nat → List D)) (bc : RBay → List D) (ok : (Unit × RBay × Unit) × A5 → Bool) (er : (Unit × RBay × Unit) × A5 → Int) (l : List SBay) (s0 : ByteArray) (ka : Nat) (ga : Nat → List D) (kb : Nat) (gb : Nat → List D) (kc : Nat) (gc : Nat → List D) (mpa : List (Value × Value)) (g m : Nat) (l4 : List (Value × Value)) (n5 : Nat) (f5 : Nat → List D) (i10 : Int) := LK Tryz.prog (o32 cn bc ok er) ann32 (List.length (α := Nat × Blk) [(0, .cells [.d (dS s0), .row 1 1 ka, .row 2 5 kb, .row 3 6 kc, nilC, .mp 4] 207), (1, .row ka ga 1 9), (2, .row kb gb 5 144), (3, .row kc gc 6 147), (4, .map 0 mpa)]) g Tryz.f73 2 m ⟨frm [(1, .c (.fn 74 [Rf.ptr 0 0] [])), (8, .c (.d (D.sl 12 (List.length l) fun i => bayC (List.getD l i bay0)))), (9, .c (.d (.v (.int .i64 (↑(List.length l) : Int))))), (10, .c (.d (.v (.int .i64 i10))))] 0 Tryz.f73.ntmps, [(0, Blk.cells [.d (.v (.string s0)), C.row 1 1 ka, C.row 2 5 kb, C.row 3 6 kc, C.row 5 12 n5, C.mp 4] 207), (1, Blk.row ka ga 1 9), (2, Blk.row kb gb 5 144), (3, Blk.row kc gc 6 147), (4, Blk.map 0 l4), (5, Blk.row n5 f5 12 118)], 6⟩
theorem b32 : Tryz.f73.body = some (Aad Tryz.f73) := by kernel_rfl
theorem ev32 (cn : Nat → (Nat → List D) → (Nat → List D)) (bc : RBay → List D) (ok : (Unit × RBay × Unit) × A5 → Bool) (er : (Unit × RBay × Unit) × A5 → Int) (l : List SBay) (s0 : ByteArray) (ka : Nat) (ga : Nat → List D) (kb : Nat) (gb : Nat → List D) (kc : Nat) (gc : Nat → List D) (mpa : List (Value × Value)) (g : Nat) : Aai Tryz.prog (o32 cn bc ok er) ann32 g Tryz.f73 (Aad Tryz.f73) [.c (.d (Abj l)), fnOf 74] [(0, .cells [.d (dS s0), .row 1 1 ka, .row 2 5 kb, .row 3 6 kc, nilC, .mp 4] 207), (1, .row ka ga 1 9), (2, .row kb gb 5 144), (3, .row kc gc 6 147), (4, .map 0 mpa)] =
 L32_2 cn bc ok er l s0 ka ga kb gb kc gc mpa g g mpa 0 (fun x => []) 0 := by kernel_rfl
theorem st32_2 (cn : Nat → (Nat → List D) → (Nat → List D)) (bc : RBay → List D) (ok : (Unit × RBay × Unit) × A5 → Bool) (er : (Unit × RBay × Unit) × A5 → Int) (l : List SBay) (s0 : ByteArray) (ka : Nat) (ga : Nat → List D) (kb : Nat) (gb : Nat → List D) (kc : Nat) (gc : Nat → List D) (mpa : List (Value × Value)) (g m : Nat) (l4 : List (Value × Value)) (n5 : Nat) (f5 : Nat → List D) (i10 : Int) : L32_2 cn bc ok er l s0 ka ga kb gb kc gc mpa g (m + 1) l4 n5 f5 i10 =
 (bif decide (i10 < (↑l.length : Int)) then (bif decide (0 ≤ i10) && decide (i10 < (↑l.length : Int)) then (bif ok (((), (SBay.name (l.getD i10.toNat bay0), SBay.kind (l.getD
 i10.toNat bay0), SBay.off (l.getD i10.toNat bay0), SBay.fin (l.getD i10.toNat bay0), SBay.zr (l.getD i10.toNat bay0), SBay.zx (l.getD i10.toNat bay0), Abe (SBay.links (l.getD
 i10.toNat bay0)), SBay.closed (l.getD i10.toNat bay0), SBay.ct (l.getD i10.toNat bay0), SBay.vt (l.getD i10.toNat bay0), SBay.sat (l.getD i10.toNat bay0), SBay.travel (l.getD
 i10.toNat bay0), ()), ()), (s0, ka, kb, kc, n5, (), ()), (ka, ga), (kb, gb), (kc, gc), (n5, f5), l4, ()) then (bif er (((), (SBay.name (l.getD i10.toNat bay0), SBay.kind (l.getD
 i10.toNat bay0), SBay.off (l.getD i10.toNat bay0), SBay.fin (l.getD i10.toNat bay0), SBay.zr (l.getD i10.toNat bay0), SBay.zx (l.getD i10.toNat bay0), Abe (SBay.links (l.getD
 i10.toNat bay0)), SBay.closed (l.getD i10.toNat bay0), SBay.ct (l.getD i10.toNat bay0), SBay.vt (l.getD i10.toNat bay0), SBay.sat (l.getD i10.toNat bay0), SBay.travel (l.getD
 i10.toNat bay0), ()), ()), (s0, ka, kb, kc, n5, (), ()), (ka, ga), (kb, gb), (kc, gc), (n5, f5), l4, ()) == 0 then L32_2 cn bc ok er l s0 ka ga kb gb kc gc mpa g m ((Value.string
 (SBay.name (l.getD i10.toNat bay0)), Value.bool true) :: Prod.fst (Prod.snd (Prod.snd (Prod.snd (Prod.snd (Prod.snd (Prod.snd (((), (SBay.name (l.getD i10.toNat bay0), SBay.kind
 (l.getD i10.toNat bay0), SBay.off (l.getD i10.toNat bay0), SBay.fin (l.getD i10.toNat bay0), SBay.zr (l.getD i10.toNat bay0), SBay.zx (l.getD i10.toNat bay0), Abe (SBay.links
 (l.getD i10.toNat bay0)), SBay.closed (l.getD i10.toNat bay0), SBay.ct (l.getD i10.toNat bay0), SBay.vt (l.getD i10.toNat bay0), SBay.sat (l.getD i10.toNat bay0), SBay.travel
 (l.getD i10.toNat bay0), ()), ()), (s0, ka, kb, kc, n5, (), ()), (ka, ga), (kb, gb), (kc, gc), (n5, f5), l4, ())))))))) (n5 + (1 : Nat)) (appF n5 (cn n5 f5) (Aat (bc (SBay.name
 (l.getD i10.toNat bay0), SBay.kind (l.getD i10.toNat bay0), SBay.off (l.getD i10.toNat bay0), SBay.fin (l.getD i10.toNat bay0), SBay.zr (l.getD i10.toNat bay0), SBay.zx (l.getD
 i10.toNat bay0), Abe (SBay.links (l.getD i10.toNat bay0)), SBay.closed (l.getD i10.toNat bay0), SBay.ct (l.getD i10.toNat bay0), SBay.vt (l.getD i10.toNat bay0), SBay.sat (l.getD
 i10.toNat bay0), SBay.travel (l.getD i10.toNat bay0), ())) 12)) (IntKind.wrap .i64 (i10 + 1)) else (bif er (((), (SBay.name (l.getD i10.toNat bay0), SBay.kind (l.getD i10.toNat
 bay0), SBay.off (l.getD i10.toNat bay0), SBay.fin (l.getD i10.toNat bay0), SBay.zr (l.getD i10.toNat bay0), SBay.zx (l.getD i10.toNat bay0), Abe (SBay.links (l.getD i10.toNat
 bay0)), SBay.closed (l.getD i10.toNat bay0), SBay.ct (l.getD i10.toNat bay0), SBay.vt (l.getD i10.toNat bay0), SBay.sat (l.getD i10.toNat bay0), SBay.travel (l.getD i10.toNat
 bay0), ()), ()), (s0, ka, kb, kc, n5, (), ()), (ka, ga), (kb, gb), (kc, gc), (n5, f5), l4, ()) != 0 then some (T.leaf (AV.c (.d (.v (.int .i64 (er (((), (SBay.name (l.getD
 i10.toNat bay0), SBay.kind (l.getD i10.toNat bay0), SBay.off (l.getD i10.toNat bay0), SBay.fin (l.getD i10.toNat bay0), SBay.zr (l.getD i10.toNat bay0), SBay.zx (l.getD i10.toNat
 bay0), Abe (SBay.links (l.getD i10.toNat bay0)), SBay.closed (l.getD i10.toNat bay0), SBay.ct (l.getD i10.toNat bay0), SBay.vt (l.getD i10.toNat bay0), SBay.sat (l.getD i10.toNat
 bay0), SBay.travel (l.getD i10.toNat bay0), ()), ()), (s0, ka, kb, kc, n5, (), ()), (ka, ga), (kb, gb), (kc, gc), (n5, f5), l4, ()))))), [(0, Blk.cells [C.d (.v (.string s0)),
 C.row (1) (1) ka, C.row (2) (5) kb, C.row (3) (6) kc, C.row (5) (12) n5, C.mp (4)] (207)), (1, Blk.row ka ga (1) ((9 : Nat))), (2, Blk.row kb gb (5) (144)), (3, Blk.row kc gc (6)
 (147)), (4, Blk.map (0) (Prod.fst (Prod.snd (Prod.snd (Prod.snd (Prod.snd (Prod.snd (Prod.snd (((), (SBay.name (l.getD i10.toNat bay0), SBay.kind (l.getD i10.toNat bay0), SBay.off
 (l.getD i10.toNat bay0), SBay.fin (l.getD i10.toNat bay0), SBay.zr (l.getD i10.toNat bay0), SBay.zx (l.getD i10.toNat bay0), Abe (SBay.links (l.getD i10.toNat bay0)), SBay.closed
 (l.getD i10.toNat bay0), SBay.ct (l.getD i10.toNat bay0), SBay.vt (l.getD i10.toNat bay0), SBay.sat (l.getD i10.toNat bay0), SBay.travel (l.getD i10.toNat bay0), ()), ()), (s0, ka,
 kb, kc, n5, (), ()), (ka, ga), (kb, gb), (kc, gc), (n5, f5), l4, ()))))))))), (5, Blk.row n5 (cn n5 f5) (12) (118))])) else L32_2 cn bc ok er l s0 ka ga kb gb kc gc mpa g m
 (Prod.fst (Prod.snd (Prod.snd (Prod.snd (Prod.snd (Prod.snd (Prod.snd (((), (SBay.name (l.getD i10.toNat bay0), SBay.kind (l.getD i10.toNat bay0), SBay.off (l.getD i10.toNat bay0),
 SBay.fin (l.getD i10.toNat bay0), SBay.zr (l.getD i10.toNat bay0), SBay.zx (l.getD i10.toNat bay0), Abe (SBay.links (l.getD i10.toNat bay0)), SBay.closed (l.getD i10.toNat bay0),
 SBay.ct (l.getD i10.toNat bay0), SBay.vt (l.getD i10.toNat bay0), SBay.sat (l.getD i10.toNat bay0), SBay.travel (l.getD i10.toNat bay0), ()), ()), (s0, ka, kb, kc, n5, (), ()),
 (ka, ga), (kb, gb), (kc, gc), (n5, f5), l4, ())))))))) n5 (cn n5 f5) (IntKind.wrap .i64 (i10 + 1)))) else none) else none) else some (T.leaf (AV.c (.d (.v (.int .i64 0))), [(0,
 Blk.cells [C.d (.v (.string s0)), C.row (1) (1) ka, C.row (2) (5) kb, C.row (3) (6) kc, C.row (5) (12) n5, C.mp (4)] (207)), (1, Blk.row ka ga (1) ((9 : Nat))), (2, Blk.row kb gb
 (5) (144)), (3, Blk.row kc gc (6) (147)), (4, Blk.map (0) l4), (5, Blk.row n5 f5 (12) (118))]))) := by kernel_rfl
end Go.Proofs.YtbpndheehcbldaaGreatDoor.st
namespace Go.Proofs.YtbpndheehcbldaaGreatDoor.st
open Go.RowKit Go.Eb
theorem appOk {k b : Nat} (h : k + 1 ≤ 1000) (hb : b ≤ 1000) : (decide ((k + 1) * b ≤ 140737488355328) && decide (k + 1 ≤ 9223372036854775807)) = true := by
 have h1 : (k + 1) * b ≤ 1000 * 1000 := Nat.mul_le_mul h hb
 rw [decide_eq_true (by omega), decide_eq_true (by omega)]; rfl
theorem sNm : OrcS Tryz.prog (oNm Aae) := .cons (.p AcU c15) .nil
theorem sNam : OrcS Tryz.prog (oNam Aae) := .cons (.inl sNm Tryz.func127 (by kernel_rfl)) .nil
theorem s26 : OrcS Tryz.prog (o26 Aae) := .cons (.inl sNam Tryz.func68 (by kernel_rfl)) .nil
theorem sWi : OrcS Tryz.prog oWi := .cons (.inl .nil Tryz.func129 (by kernel_rfl)) .nil
theorem sIm : OrcS Tryz.prog (oIm Aae) := .cons (.inl sWi Tryz.func128 (by kernel_rfl)) (.cons (.inl .nil Tryz.func129 (by kernel_rfl)) sNam)
theorem s28 : OrcS Tryz.prog (o28 Aae) := .cons (.inl sIm Tryz.func70 (by kernel_rfl)) .nil
theorem s30 : OrcS Tryz.prog (o30 Aae) := .cons (.inl sIm Tryz.func72 (by kernel_rfl)) .nil
theorem c26 (l : List ByteArray) (s0 : ByteArray) (N : List ByteArray) (hl : l.length ≤ 900) :
  CX Tryz.prog 67 [.c (.d (Aaa l)), fnOf 68] (H1 s0 (Aak N)) (vI (Acm id (fun N _ x => Abb N x) N [] l).1)
   (H1' s0 (Aak (N ++ (Acm id (fun N _ x => Abb N x) N [] l).2.map id)) (Acm id (fun N _ x => Abb N x) N [] l).2.length (fun i => busC ((Acm id (fun N _ x => Abb N x) N [] l).2.getD i e0))) := by
 obtain ⟨g, hg⟩ : ∃ g, l.length < g := ⟨l.length + 1, by omega⟩
 obtain ⟨f', hr, he⟩ := Adi (nm := id) (F := fun N _ x => Abb N x) (N := N) (c := busC) (d0 := e0) (l := l) (L := fun m mp n f i => L26_2 Aae l s0 (Aak N) g m mp n f i) (HX := fun mp n f => H1' s0 mp n f)
  (fun m k before f hk hb hr => by
    refine ⟨_, f, hr.app' rfl, hr, ?_⟩
    rw [st26_2]
    simp only [lt1 hk, ge0, tn, Bool.and_self, cond_true, nx hk (by omega), Aby, appOk (k := k) (b := 16) (by omega) (by omega)]
    unfold Abb
    simp only [id]
    cases Aae (l.getD k e0) with
    | false => rfl
    | true => cases inB (N ++ before.map id) (l.getD k e0) <;> rfl)
  (fun m mp n f => by
    rw [st26_2, lt0 (Nat.lt_irrefl _)]
    rfl) g 0 [] (fun _ => []) (by omega) (by omega) rfl (.nil _)
 have hev := ev26 Aae l s0 (Aak N) g
 simp only [List.map_nil, List.append_nil, List.drop_zero] at he hr
 refine (Aau s26.ok Tryz.func67 b26 rfl (hev.trans he)).le (.refl _) ?_
 exact .cons (.refl _) (.cons (.refl _) (.cons hr.ble .nil))
theorem c28 (l : List SLine) (s0 : ByteArray) (ka : Nat) (ga : Nat → List D) (N : List ByteArray) (hl : l.length ≤ 900) :
  CX Tryz.prog 69 [.c (.d (Aal l)), fnOf 70] (H2 s0 ka ga (Aak N)) (vI (AdL N l).1)
   (H2' s0 ka ga (Aak (N ++ (AdL N l).2.map SLine.name)) (AdL N l).2.length (fun i => Aap ((AdL N l).2.getD i Aaf))) := by
 obtain ⟨g, hg⟩ : ∃ g, l.length < g := ⟨l.length + 1, by omega⟩
 obtain ⟨f', hr, he⟩ := Adi (nm := SLine.name) (F := fun N _ x => AfP N x) (N := N) (c := Aap) (d0 := Aaf) (l := l) (L := fun m mp n f i => L28_2 Aae l s0 ka ga (Aak N) g m mp n f i) (HX := fun mp n f => H2' s0 ka ga mp n f)
  (fun m k before f hk hb hr => by
    refine ⟨_, f, hr.app' rfl, hr, ?_⟩
    rw [st28_2]
    simp only [lt1 hk, ge0, tn, Bool.and_self, cond_true, nx hk (by omega), Aby, appOk (k := k) (b := 48) (by omega) (by omega), fNot, fAnd]
    unfold AfP Abb Ahj Aac
    cases Aae (l.getD k Aaf).name with
    | false => rfl
    | true =>
     cases inB (N ++ before.map SLine.name) (l.getD k Aaf).name with
     | true => rfl
     | false =>
      generalize decide ((l.getD k Aaf).r1 ≥ 0) = b1
      generalize decide ((l.getD k Aaf).r1 ≤ 1000) = b2
      generalize decide ((l.getD k Aaf).x1 ≥ 1) = b3
      generalize decide ((l.getD k Aaf).x1 ≤ 1000) = b4
      generalize decide ((l.getD k Aaf).r0 ≥ 0) = b5
      generalize decide ((l.getD k Aaf).r0 ≤ 1000) = b6
      generalize decide ((l.getD k Aaf).x0 ≥ 1) = b7
      generalize decide ((l.getD k Aaf).x0 ≤ 1000) = b8
      cases b1 <;> cases b2 <;> cases b3 <;> cases b4 <;> first | rfl | (cases b5 <;> cases b6 <;> cases b7 <;> cases b8 <;> rfl))
  (fun m mp n f => by
    rw [st28_2, lt0 (Nat.lt_irrefl _)]
    rfl) g 0 [] (fun _ => []) (by omega) (by omega) rfl (.nil _)
 have hev := ev28 Aae l s0 ka ga (Aak N) g
 simp only [List.map_nil, List.append_nil, List.drop_zero] at he hr
 refine (Aau s28.ok Tryz.func69 b28 rfl (hev.trans he)).le (.refl _) ?_
 exact .cons (.refl _) (.cons (.refl _) (.cons (.refl _) (.cons hr.ble .nil)))
theorem c30 (l : List SSrc) (s0 : ByteArray) (ka : Nat) (ga : Nat → List D) (kb : Nat) (gb : Nat → List D) (N : List ByteArray) (hl : l.length ≤ 900) :
  CX Tryz.prog 71 [.c (.d (Abn l)), fnOf 72] (H3 s0 ka ga kb gb (Aak N)) (vI (tSrc N l).1)
   (H3' s0 ka ga kb gb (Aak (N ++ (tSrc N l).2.map SSrc.name)) (tSrc N l).2.length (fun i => Aao ((tSrc N l).2.getD i src0))) := by
 obtain ⟨g, hg⟩ : ∃ g, l.length < g := ⟨l.length + 1, by omega⟩
 obtain ⟨f', hr, he⟩ := Adi (nm := SSrc.name) (F := fun N _ x => srcErr N x) (N := N) (c := Aao) (d0 := src0) (l := l) (L := fun m mp n f i => L30_2 Aae l s0 ka ga kb gb (Aak N) g m mp n f i) (HX := fun mp n f => H3' s0 ka ga kb gb mp n f)
  (fun m k before f hk hb hr => by
    refine ⟨_, f, hr.app' rfl, hr, ?_⟩
    rw [st30_2]
    simp only [lt1 hk, ge0, tn, Bool.and_self, cond_true, nx hk (by omega), Aby, appOk (k := k) (b := 56) (by omega) (by omega), fNot, fAnd]
    unfold srcErr Abb Ahj Aac
    cases Aae (l.getD k src0).name with
    | false => rfl
    | true =>
     cases inB (N ++ before.map SSrc.name) (l.getD k src0).name with
     | true => rfl
     | false =>
      generalize decide ((l.getD k src0).emf ≥ 1) = a1
      generalize decide ((l.getD k src0).emf ≤ 1000000) = a2
      generalize decide ((l.getD k src0).r1 ≥ 0) = b1
      generalize decide ((l.getD k src0).r1 ≤ 1000) = b2
      generalize decide ((l.getD k src0).x1 ≥ 1) = b3
      generalize decide ((l.getD k src0).x1 ≤ 1000) = b4
      generalize decide ((l.getD k src0).r0 ≥ 0) = b5
      generalize decide ((l.getD k src0).r0 ≤ 1000) = b6
      generalize decide ((l.getD k src0).x0 ≥ 1) = b7
      generalize decide ((l.getD k src0).x0 ≤ 1000) = b8
      cases a1 <;> cases a2 <;> first | rfl | (cases b1 <;> cases b2 <;> cases b3 <;> cases b4 <;> first | rfl | (cases b5 <;> cases b6 <;> cases b7 <;> cases b8 <;> rfl)))
  (fun m mp n f => by
    rw [st30_2, lt0 (Nat.lt_irrefl _)]
    rfl) g 0 [] (fun _ => []) (by omega) (by omega) rfl (.nil _)
 have hev := ev30 Aae l s0 ka ga kb gb (Aak N) g
 simp only [List.map_nil, List.append_nil, List.drop_zero] at he hr
 refine (Aau s30.ok Tryz.func71 b30 rfl (hev.trans he)).le (.refl _) ?_
 exact .cons (.refl _) (.cons (.refl _) (.cons (.refl _) (.cons (.refl _) (.cons hr.ble .nil))))
end Go.Proofs.YtbpndheehcbldaaGreatDoor.st
namespace Go.Proofs.YtbpndheehcbldaaGreatDoor.st
open Go.RowKit Go.Eb
abbrev lI (e : Int) (H : Hp) : Option (T (AV × Hp)) := some (.leaf (vI e, H))
theorem w1 {k : Nat} (h : k ≤ 9223372036854775807) : IntKind.wrap IntKind.i64 ((k : Int) - 1) = (k : Int) - 1 := AdI (by omega) (by omega)
theorem len_lt1 (n : Nat) : decide ((n : Int) < 1) = decide (n < 1) := by rw [decide_eq_decide]; omega
theorem len_gt2 (n : Nat) : decide ((n : Int) > 2) = decide (2 < n) := by rw [decide_eq_decide]; omega
theorem len_ne2 (n : Nat) : ((n : Int) != 2) = (n != 2) := by
 rw [Bool.eq_iff_iff]; simp only [bne_iff_ne]; omega
theorem gt0 (k : Nat) : decide ((k : Int) > 0) = decide (0 < k) := by rw [decide_eq_decide]; omega
section
variable (x : SBay) (s0 : ByteArray) (ka : Nat) (ga : Nat → List D) (kb : Nat) (gb : Nat → List D) (kc : Nat) (gc : Nat → List D) (kd : Nat) (gd : Nat → List D) (mpa : List (Value × Value))
def prevB (l : List SLink) : Nat → Option Int
 | 0 => none
 | k + 1 => some (l.getD k AaH).bus
theorem lp55 (hka : ka ≤ 9223372036854775807) (hl : x.links.length ≤ 9223372036854775807) (g : Nat) : ∀ (m k : Nat), k ≤ x.links.length → x.links.length - k < m →
  L55_5 x s0 ka ga kb gb kc gc kd gd mpa g m k = lI (AdU ka x.kind (prevB x.links k) (x.links.drop k)) (H5 s0 ka ga kb gb kc gc kd gd mpa)
 | 0, k, _, h => by omega
 | m + 1, k, hk, h => by
  rw [st55_5]
  by_cases hlt : k < x.links.length
  ·have ih := lp55 hka hl g m (k + 1) (by omega) (by omega)
   rw [Aar (d := AaH) hlt]
   simp only [lt1 hlt, ge0, tn, Bool.and_self, cond_true, nx hlt (by omega), ih, w1 hka, AdU, Aac]
   cases k with
   | zero =>
    simp only [prevB, List.getD_cons_zero]
    generalize decide ((x.links.getD 0 AaH).bus ≥ 0) = b1
    generalize decide ((x.links.getD 0 AaH).bus ≤ (ka : Int) - 1) = b2
    generalize ((x.links.getD 0 AaH).pos != 1) = b3
    generalize ((x.links.getD 0 AaH).pos != 0) = b4
    generalize (x.kind == 3) = b5
    cases b1 <;> cases b2 <;> cases b3 <;> cases b4 <;> cases b5 <;> rfl
   | succ k =>
    have e1 : IntKind.wrap IntKind.i64 (((k + 1 : Nat) : Int) - 1) = (k : Int) := by rw [AdI (by omega) (by omega)]; omega
    have e2 : decide (((k + 1 : Nat) : Int) > 0) = true := by rw [gt0]; simp
    have e3 : decide ((k : Int) < (x.links.length : Int)) = true := lt1 (by omega)
    have e4 : (some (x.links.getD k AaH).bus == some (x.links.getD (k + 1) AaH).bus) = ((x.links.getD k AaH).bus == (x.links.getD (k + 1) AaH).bus) := rfl
    simp only [prevB, e1, e2, e3, e4, ge0, tn, Bool.and_self, cond_true]
    generalize decide ((x.links.getD (k + 1) AaH).bus ≥ 0) = b1
    generalize decide ((x.links.getD (k + 1) AaH).bus ≤ (ka : Int) - 1) = b2
    generalize ((x.links.getD (k + 1) AaH).pos != 1) = b3
    generalize ((x.links.getD (k + 1) AaH).pos != 0) = b4
    generalize (x.kind == 3) = b5
    generalize ((x.links.getD k AaH).bus == (x.links.getD (k + 1) AaH).bus) = b6
    cases b1 <;> cases b2 <;> cases b3 <;> cases b4 <;> cases b5 <;> cases b6 <;> rfl
  ·rw [lt0 hlt, List.drop_of_length_le (by omega)]
   rfl
theorem c55 (hka : ka ≤ 9223372036854775807) (hl : x.links.length ≤ 9223372036854775807) : CX Tryz.prog 131 [.c (.ptr 0 0), aBay x] (H5 s0 ka ga kb gb kc gc kd gd mpa) (vI (Abg ka x)) (H5 s0 ka ga kb gb kc gc kd gd mpa) := by
 obtain ⟨g, hg⟩ : ∃ g, x.links.length < g := ⟨x.links.length + 1, by omega⟩
 refine Aau (sWi.ok) Tryz.func131 b55 rfl ((ev55 x s0 ka ga kb gb kc gc kd gd mpa g).trans ?_)
 have := lp55 x s0 ka ga kb gb kc gc kd gd mpa hka hl g g 0 (by omega) (by omega)
 have e0 : L55_5 x s0 ka ga kb gb kc gc kd gd mpa g g 0 = lI (AdU ka x.kind none x.links) (H5 s0 ka ga kb gb kc gc kd gd mpa) := this
 rw [e0, len_lt1, len_gt2, len_ne2]
 unfold Abg
 generalize decide (x.links.length < 1) = b1
 generalize decide (2 < x.links.length) = b2
 generalize (x.kind == 3) = b3
 generalize (x.links.length != 2) = b4
 cases b1 <;> cases b2 <;> cases b3 <;> cases b4 <;> rfl
end
theorem s54 : OrcS Tryz.prog o54 := .cons (.inl sWi Tryz.func128 (by kernel_rfl)) sWi
theorem c54 (x : SBay) : CX Tryz.prog 130 [aBay x] [] (vB (Acd x)) [] := by
 refine Aau s54.ok Tryz.func130 b54 rfl ((ev54 x 1).trans ?_)
 simp only [fNot, bAnd, neN, Bool.and_true]
 unfold Acd Ahj Aac
 cases (x.kind == 3) with
 | true =>
  simp only [cond_true]
  cases (x.kind == 1) <;> simp only [cond_true, cond_false, Bool.and_assoc, bAnd]
 | false =>
  simp only [cond_false]
  cases (x.kind == 1) <;> simp only [cond_true, cond_false, Bool.and_assoc, bAnd]
def eqs (a : A5) : Bool := Nat.beq a.1.2.1 a.2.1.1 && (Nat.beq a.1.2.2.1 a.2.2.1.1 && (Nat.beq a.1.2.2.2.1 a.2.2.2.1.1 && (Nat.beq a.1.2.2.2.2.1 a.2.2.2.2.1.1 && (Nat.ble a.1.2.1 900 && (Nat.ble a.1.2.2.1 900 && (Nat.ble a.1.2.2.2.1 900 && Nat.ble a.1.2.2.2.2.1 900))))))
theorem enc55 (a : (Unit × RBay × Unit) × A5) (h : eqs a.2 = true) : (d55.enc a).2 = H5 a.2.1.1 a.2.2.1.1 a.2.2.1.2 a.2.2.2.1.1 a.2.2.2.1.2 a.2.2.2.2.1.1 a.2.2.2.2.1.2 a.2.2.2.2.2.1.1 a.2.2.2.2.2.1.2 a.2.2.2.2.2.2.1 ∧ (a.2.2.1.1 ≤ 900 ∧ a.2.2.2.1.1 ≤ 900 ∧ a.2.2.2.2.1.1 ≤ 900 ∧ a.2.2.2.2.2.1.1 ≤ 900) := by
 unfold eqs at h
 simp only [Bool.and_eq_true] at h
 obtain ⟨h1, h2, h3, h4, h5, h6, h7, h8⟩ := h
 have e1 := Nat.eq_of_beq_eq_true h1
 have e2 := Nat.eq_of_beq_eq_true h2
 have e3 := Nat.eq_of_beq_eq_true h3
 have e4 := Nat.eq_of_beq_eq_true h4
 have g5 := Nat.le_of_ble_eq_true h5
 have g6 := Nat.le_of_ble_eq_true h6
 have g7 := Nat.le_of_ble_eq_true h7
 have g8 := Nat.le_of_ble_eq_true h8
 refine ⟨?_, by omega, by omega, by omega, by omega⟩
 show [(0, Blk.cells [.d (dS a.2.1.1), .row 1 1 a.2.1.2.1, .row 2 5 a.2.1.2.2.1, .row 3 6 a.2.1.2.2.2.1, .row 4 12 a.2.1.2.2.2.2.1, .mp 5] 207), (1, .row a.2.2.1.1 a.2.2.1.2 1 9), (2, .row a.2.2.2.1.1 a.2.2.2.1.2 5 144), (3, .row a.2.2.2.2.1.1 a.2.2.2.2.1.2 6 147), (4, .row a.2.2.2.2.2.1.1 a.2.2.2.2.2.1.2 12 118), (5, .map 0 a.2.2.2.2.2.2.1)] = _
 rw [e1, e2, e3, e4]
noncomputable def ok33 (a : (Unit × RBay × Unit) × A5) : Bool := okRB a.1.2.1 && eqs a.2
noncomputable def lk33 (a : (Unit × RBay × Unit) × A5) : Int := Abg a.2.2.1.1 (rbay a.1.2.1)
theorem okRB_len {x : RBay} (h : okRB x = true) : (rbay x).links.length ≤ 9223372036854775807 := by
 unfold okRB okLk at h
 simp only [Bool.and_eq_true, decide_eq_true_eq] at h
 exact h.2
theorem s33 : OrcS Tryz.prog (o33 Aae okRB (fun a => Acd (rbay a)) ok33 lk33) := by
 refine .cons (.d fun a ha => ?_) (.cons (.d fun a ha => ?_) sIm)
 ·unfold ok33 at ha
  simp only [Bool.and_eq_true] at ha
  obtain ⟨e, h1, _⟩ := enc55 a ha.2
  rw [e]
  exact (c55 (rbay a.1.2.1) _ _ _ _ _ _ _ _ _ _ (by omega) (okRB_len ha.1)).ge (.cons (.refl _) (.cons (bay_le _ ha.1) .nil)) (.refl _)
 ·exact (c54 (rbay a.1.1)).ge (.cons (bay_le _ ha) .nil) (.refl _)
section
variable (x : SBay) (s0 : ByteArray) (ka : Nat) (ga : Nat → List D) (kb : Nat) (gb : Nat → List D) (kc : Nat) (gc : Nat → List D) (bs : List SBay) (mpa : List (Value × Value))
abbrev cnB (bs : List SBay) : Nat → List D := fun i => bayC (bs.getD i bay0)
def H33 : Hp := [(0, .cells [.d (dS s0), .row 1 1 ka, .row 2 5 kb, .row 3 6 kc, .row 6 12 (bs.length + 1), .mp 5] 207), (1, .row ka ga 1 9), (2, .row kb gb 5 144), (3, .row kc gc 6 147), (4, .dead), (5, .map 0 ((.string x.name, .bool true) :: mpa)), (6, .row (bs.length + 1) (appF bs.length (cnB bs) (Aat (bayC x) 12)) 12 118)]
def aft33 : Option (T (AV × Hp)) := bif Abg ka x != 0 then lI (Abg ka x) (H5 s0 ka ga kb gb kc gc bs.length (cnB bs) mpa) else lI 0 (H33 x s0 ka ga kb gb kc gc bs mpa)
theorem lp33 (hka : ka ≤ 900) (hkb : kb ≤ 900) (hkc : kc ≤ 900) (hbs : bs.length ≤ 900) (hl : x.links.length ≤ 9223372036854775807) (g : Nat) : ∀ (m k : Nat), k ≤ bs.length → bs.length - k < m →
  AeJ Aae okRB (fun a => Acd (rbay a)) ok33 lk33 x s0 ka ga kb gb kc gc bs mpa g m k = bif (bs.drop k).any (AcN x) then lI 12 (H5 s0 ka ga kb gb kc gc bs.length (cnB bs) mpa) else aft33 x s0 ka ga kb gb kc gc bs mpa
 | 0, k, _, h => by omega
 | m + 1, k, hk, h => by
  rw [st33_18]
  by_cases hlt : k < bs.length
  ·have ih := lp33 hka hkb hkc hbs hl g m (k + 1) (by omega) (by omega)
   rw [Aar (d := bay0) hlt]
   simp only [lt1 hlt, ge0, tn, Bool.and_self, cond_true, nx hlt (by omega), ih, List.any_cons, AcN]
   generalize (x.kind != 3) = b1
   generalize (x.kind == (bs.getD k bay0).kind) = b2
   generalize (x.off == (bs.getD k bay0).off) = b3
   generalize (x.fin == (bs.getD k bay0).fin) = b4
   cases b1 <;> cases b2 <;> cases b3 <;> cases b4 <;> rfl
  ·rw [lt0 hlt, List.drop_of_length_le (by omega)]
   have hok : ok33 (((), bayR x, ()), (s0, ka, kb, kc, bs.length, (), ()), (ka, ga), (kb, gb), (kc, gc), (bs.length, cnB bs), mpa, ()) = true := by
    unfold ok33
    have e1 : okRB (bayR x) = true := Adb hl
    have e2 : eqs ((s0, ka, kb, kc, bs.length, (), ()), (ka, ga), (kb, gb), (kc, gc), (bs.length, cnB bs), mpa, ()) = true := by
     unfold eqs
     simp only [Nat.beq_refl, Bool.true_and, bleD, decide_eq_true hka, decide_eq_true hkb, decide_eq_true hkc, decide_eq_true hbs]
    simp only [e1, e2, Bool.and_self]
   have hlk : lk33 (((), bayR x, ()), (s0, ka, kb, kc, bs.length, (), ()), (ka, ga), (kb, gb), (kc, gc), (bs.length, cnB bs), mpa, ()) = Abg ka x := by
    unfold lk33
    simp only [AdQ]
   simp only [cond_false, List.any_nil]
   show (bif ok33 (((), bayR x, ()), (s0, ka, kb, kc, bs.length, (), ()), (ka, ga), (kb, gb), (kc, gc), (bs.length, cnB bs), mpa, ()) then (bif lk33 (((), bayR x, ()), (s0, ka, kb, kc, bs.length, (), ()), (ka, ga), (kb, gb), (kc, gc), (bs.length, cnB bs), mpa, ()) != 0 then
    lI (lk33 (((), bayR x, ()), (s0, ka, kb, kc, bs.length, (), ()), (ka, ga), (kb, gb), (kc, gc), (bs.length, cnB bs), mpa, ())) (H5 s0 ka ga kb gb kc gc bs.length (cnB bs) mpa) else
    (bif decide ((bs.length + 1) * 120 ≤ 140737488355328) && decide (bs.length + 1 ≤ 9223372036854775807) then lI 0 (H33 x s0 ka ga kb gb kc gc bs mpa) else none)) else none) = _
   rw [hok, hlk, appOk (k := bs.length) (b := 120) (by omega) (by omega)]
   unfold aft33
   cases (Abg ka x != 0) <;> rfl
def r33 : Option (T (AV × Hp)) := bif AeW ka kb kc (Abf (Aaz mpa (.string x.name))) bs x != 0 then lI (AeW ka kb kc (Abf (Aaz mpa (.string x.name))) bs x) (H5 s0 ka ga kb gb kc gc bs.length (cnB bs) mpa) else lI 0 (H33 x s0 ka ga kb gb kc gc bs mpa)
theorem e33 (hka : ka ≤ 900) (hkb : kb ≤ 900) (hkc : kc ≤ 900) (hbs : bs.length ≤ 900) (hl : x.links.length ≤ 9223372036854775807) (g : Nat) (hg : bs.length < g) :
  Aai Tryz.prog (o33 Aae okRB (fun a => Acd (rbay a)) ok33 lk33) ann33 g Tryz.f74 (Aad Tryz.f74) [.c (.ptr 0 0), aBay x] (H5 s0 ka ga kb gb kc gc bs.length (cnB bs) mpa) = r33 x s0 ka ga kb gb kc gc bs mpa := by
 refine (ev33 Aae okRB (fun a => Acd (rbay a)) ok33 lk33 x s0 ka ga kb gb kc gc bs mpa g).trans ?_
 have hL := lp33 x s0 ka ga kb gb kc gc bs mpa hka hkb hkc hbs hl g g 0 (by omega) (by omega)
 have hL0 : AeJ Aae okRB (fun a => Acd (rbay a)) ok33 lk33 x s0 ka ga kb gb kc gc bs mpa g g 0 = bif bs.any (AcN x) then lI 12 (H5 s0 ka ga kb gb kc gc bs.length (cnB bs) mpa) else aft33 x s0 ka ga kb gb kc gc bs mpa := hL
 have e1 : okRB (bayR x) = true := Adb hl
 have e2 : Acd (rbay (bayR x)) = Acd x := by rw [AdQ]
 have e1' : okRB (x.name, x.kind, x.off, x.fin, x.zr, x.zx, Abe x.links, x.closed, x.ct, x.vt, x.sat, x.travel, ()) = true := e1
 have e2' : Acd (rbay (x.name, x.kind, x.off, x.fin, x.zr, x.zx, Abe x.links, x.closed, x.ct, x.vt, x.sat, x.travel, ())) = Acd x := e2
 have w0 : IntKind.wrap IntKind.i64 ((1 : Int) - 1) = (1 : Int) - 1 := by decide
 rw [hL0]
 simp only [e1', e2', w1 (show kb ≤ 9223372036854775807 by omega), w1 (show kc ≤ 9223372036854775807 by omega), w0, cond_true]
 unfold r33 AeW cntOf Aac aft33
 cases Aae x.name with
 | false => rfl
 | true =>
  cases Abf (Aaz mpa (Value.string x.name)) with
  | true => rfl
  | false =>
   cases (x.kind == 1) with
   | true =>
    simp only [cond_true, cond_false, Bool.not_true]
    generalize decide (x.off ≥ 0) = b1
    generalize decide (x.off ≤ (kb : Int) - 1) = b2
    cases b1 <;> cases b2 <;> first | rfl | (cases Acd x <;> first | rfl | (cases bs.any (AcN x) <;> rfl))
   | false =>
    cases (x.kind == 2) with
    | true =>
     simp only [cond_true, cond_false, Bool.not_true]
     generalize decide (x.off ≥ 0) = b1
     generalize decide (x.off ≤ (kc : Int) - 1) = b2
     cases b1 <;> cases b2 <;> first | rfl | (cases Acd x <;> first | rfl | (cases bs.any (AcN x) <;> rfl))
    | false =>
     cases (x.kind == 3) with
     | true =>
      simp only [cond_true, cond_false, Bool.not_true]
      generalize decide (x.off ≥ 0) = b1
      generalize decide (x.off ≤ (1 : Int) - 1) = b2
      cases b1 <;> cases b2 <;> first | rfl | (cases Acd x <;> first | rfl | (cases bs.any (AcN x) <;> rfl))
     | false => rfl
end
end Go.Proofs.YtbpndheehcbldaaGreatDoor.st
namespace Go.Proofs.YtbpndheehcbldaaGreatDoor.st
open Go.RowKit Go.Eb
noncomputable def ok32 (a : (Unit × RBay × Unit) × A5) : Bool := (okRB a.1.2.1 && eqs a.2) && okE Abj (.sl 12 a.2.2.2.2.2.1.1 a.2.2.2.2.2.1.2)
noncomputable def er32 (a : (Unit × RBay × Unit) × A5) : Int := AeW a.2.2.1.1 a.2.2.2.1.1 a.2.2.2.2.1.1 (Abf (Aaz a.2.2.2.2.2.2.1 (.string (rbay a.1.2.1).name))) (theE Abj (.sl 12 a.2.2.2.2.2.1.1 a.2.2.2.2.2.1.2)) (rbay a.1.2.1)
noncomputable def cn32 (n : Nat) (f : Nat → List D) : Nat → List D := cnB (theE Abj (.sl 12 n f))
noncomputable def bc32 (x : RBay) : List D := bayC (rbay x)
theorem s32 : OrcS Tryz.prog (o32 cn32 bc32 ok32 er32) := by
 have key : ∀ a, ok32 a = true → ∀ e K, r33 (rbay a.1.2.1) a.2.1.1 a.2.2.1.1 a.2.2.1.2 a.2.2.2.1.1 a.2.2.2.1.2 a.2.2.2.2.1.1 a.2.2.2.2.1.2 (theE Abj (.sl 12 a.2.2.2.2.2.1.1 a.2.2.2.2.2.1.2)) a.2.2.2.2.2.2.1 = lI e K → CX Tryz.prog 74 (d55.enc a).1 (d55.enc a).2 (vI e) K := by
  intro a ha e K hr
  unfold ok32 at ha
  simp only [Bool.and_eq_true] at ha
  obtain ⟨⟨h1, h2⟩, h3⟩ := ha
  obtain ⟨he, g1, g2, g3, g4⟩ := enc55 a h2
  have hn := (RL.of_ok h3).1
  have hb := ble_of_ok (t := 118) h3
  generalize hbs : theE Abj (.sl 12 a.2.2.2.2.2.1.1 a.2.2.2.2.2.1.2) = bs at hr hn hb
  have hc := e33 (rbay a.1.2.1) a.2.1.1 a.2.2.1.1 a.2.2.1.2 a.2.2.2.1.1 a.2.2.2.1.2 a.2.2.2.2.1.1 a.2.2.2.2.1.2 bs a.2.2.2.2.2.2.1 g1 g2 g3 (by omega) (okRB_len h1) (bs.length + 1) (by omega)
  rw [hr] at hc
  refine (Aau s33.ok Tryz.func74 b33 rfl hc).ge (.cons (.refl _) (.cons (bay_le _ h1) .nil)) ?_
  rw [he]
  have e0 : a.2.2.2.2.2.1.1 = bs.length := hn
  refine .cons ?_ (.cons (.refl _) (.cons (.refl _) (.cons (.refl _) (.cons hb (.cons (.refl _) .nil)))))
  rw [e0]
  exact .refl _
 refine .cons (.b (fun a ha hb => ?_) (fun a ha hb => ?_)) .nil
 ·have hb' : er32 a = 0 := by simpa using hb
  have h3 : okE Abj (.sl 12 a.2.2.2.2.2.1.1 a.2.2.2.2.2.1.2) = true := by unfold ok32 at ha; simp only [Bool.and_eq_true] at ha; exact ha.2
  have hn := (RL.of_ok h3).1
  refine (key a ha 0 _ ?_).le (.refl _) (.refl _)
  unfold r33
  unfold er32 at hb'
  rw [hb']
  simp only [bne_self_eq_false, cond_false]
  congr 3
  unfold h33 H33 cn32 bc32
  rw [← hn]
  rfl
 ·have hb' : er32 a ≠ 0 := by intro e; rw [e] at hb; simp at hb
  have h3 : okE Abj (.sl 12 a.2.2.2.2.2.1.1 a.2.2.2.2.2.1.2) = true := by unfold ok32 at ha; simp only [Bool.and_eq_true] at ha; exact ha.2
  have h2 : eqs a.2 = true := by unfold ok32 at ha; simp only [Bool.and_eq_true] at ha; exact ha.1.2
  have hx := key a ha (er32 a) (H5 a.2.1.1 a.2.2.1.1 a.2.2.1.2 a.2.2.2.1.1 a.2.2.2.1.2 a.2.2.2.2.1.1 a.2.2.2.2.1.2 (theE Abj (.sl 12 a.2.2.2.2.2.1.1 a.2.2.2.2.2.1.2)).length (cnB (theE Abj (.sl 12 a.2.2.2.2.2.1.1 a.2.2.2.2.2.1.2))) a.2.2.2.2.2.2.1) (by
   unfold r33
   have : (AeW a.2.2.1.1 a.2.2.2.1.1 a.2.2.2.2.1.1 (Abf (Aaz a.2.2.2.2.2.2.1 (Value.string (rbay a.1.2.1).name))) (theE Abj (.sl 12 a.2.2.2.2.2.1.1 a.2.2.2.2.2.1.2)) (rbay a.1.2.1) != 0) = true := by
    unfold er32 at hb'
    simpa using hb'
   rw [this]
   rfl)
  refine hx.le (.refl _) ?_
  unfold h33e cn32
  have hn := (RL.of_ok h3).1
  rw [← hn]
  exact .refl _
theorem c32 (l : List SBay) (s0 : ByteArray) (ka : Nat) (ga : Nat → List D) (kb : Nat) (gb : Nat → List D) (kc : Nat) (gc : Nat → List D) (N : List ByteArray) (hl : l.length ≤ 900) (hka : ka ≤ 900) (hkb : kb ≤ 900) (hkc : kc ≤ 900) (hlk : ∀ i, i < l.length → (l.getD i bay0).links.length ≤ 9223372036854775807) :
  CX Tryz.prog 73 [.c (.d (Abj l)), fnOf 74] (H4 s0 ka ga kb gb kc gc (Aak N)) (vI (tBay ka kb kc N l).1)
   (H4' s0 ka ga kb gb kc gc (Aak (N ++ (tBay ka kb kc N l).2.map SBay.name)) (tBay ka kb kc N l).2.length (fun i => bayC ((tBay ka kb kc N l).2.getD i bay0))) := by
 obtain ⟨g, hg⟩ : ∃ g, l.length < g := ⟨l.length + 1, by omega⟩
 obtain ⟨f', hr, he⟩ := Adi (nm := SBay.name) (F := fun N before x => Ags ka kb kc N before x) (N := N) (c := bayC) (d0 := bay0) (l := l) (L := fun m mp n f i => L32_2 cn32 bc32 ok32 er32 l s0 ka ga kb gb kc gc (Aak N) g m mp n f i) (HX := fun mp n f => H4' s0 ka ga kb gb kc gc mp n f)
  (fun m k before f hk hb hr => by
    have hthe := hr.the (sz := 12) AfB
    have hx : rbay (bayR (l.getD k bay0)) = l.getD k bay0 := AdQ _
    have hok : ok32 (((), bayR (l.getD k bay0), ()), (s0, ka, kb, kc, k, (), ()), (ka, ga), (kb, gb), (kc, gc), (k, f), Aak (N ++ before.map SBay.name), ()) = true := by
     unfold ok32
     have e1 : okRB (bayR (l.getD k bay0)) = true := Adb (hlk k hk)
     have e2 : eqs ((s0, ka, kb, kc, k, (), ()), (ka, ga), (kb, gb), (kc, gc), (k, f), Aak (N ++ before.map SBay.name), ()) = true := by
      unfold eqs
      simp only [Nat.beq_refl, Bool.true_and, bleD, decide_eq_true hka, decide_eq_true hkb, decide_eq_true hkc, decide_eq_true (show k ≤ 900 by omega)]
     simp only [e1, e2, hthe.1, Bool.and_self]
    have her : er32 (((), bayR (l.getD k bay0), ()), (s0, ka, kb, kc, k, (), ()), (ka, ga), (kb, gb), (kc, gc), (k, f), Aak (N ++ before.map SBay.name), ()) = Ags ka kb kc (N ++ before.map SBay.name) before (l.getD k bay0) := by
     unfold er32 Ags
     simp only [hx, hthe.2, Aby]
    refine ⟨appF k (cn32 k f) (Aat (bc32 (bayR (l.getD k bay0))) 12), cn32 k f, ?_, ?_, ?_⟩
    ·unfold bc32 cn32
     rw [hx, hthe.2]
     have := (RL.data (c := bayC) (d0 := bay0) before).app' (x := l.getD k bay0) (sz := 12) rfl
     rw [hb] at this
     exact this
    ·unfold cn32
     rw [hthe.2]
     have := RL.data (c := bayC) (d0 := bay0) before
     rw [hb] at this
     exact this
    ·rw [st32_2]
     simp only [lt1 hk, ge0, tn, Bool.and_self, cond_true, nx hk (by omega)]
     show (bif ok32 (((), bayR (l.getD k bay0), ()), (s0, ka, kb, kc, k, (), ()), (ka, ga), (kb, gb), (kc, gc), (k, f), Aak (N ++ before.map SBay.name), ()) then
      (bif er32 (((), bayR (l.getD k bay0), ()), (s0, ka, kb, kc, k, (), ()), (ka, ga), (kb, gb), (kc, gc), (k, f), Aak (N ++ before.map SBay.name), ()) == 0 then
        L32_2 cn32 bc32 ok32 er32 l s0 ka ga kb gb kc gc (Aak N) g m ((Value.string (l.getD k bay0).name, Value.bool true) :: Aak (N ++ before.map SBay.name)) (k + 1) (appF k (cn32 k f) (Aat (bc32 (bayR (l.getD k bay0))) 12)) ((k + 1 : Nat) : Int)
      else (bif er32 (((), bayR (l.getD k bay0), ()), (s0, ka, kb, kc, k, (), ()), (ka, ga), (kb, gb), (kc, gc), (k, f), Aak (N ++ before.map SBay.name), ()) != 0 then lI (er32 (((), bayR (l.getD k bay0), ()), (s0, ka, kb, kc, k, (), ()), (ka, ga), (kb, gb), (kc, gc), (k, f), Aak (N ++ before.map SBay.name), ())) (H4' s0 ka ga kb gb kc gc (Aak (N ++ before.map SBay.name)) k (cn32 k f)) else L32_2 cn32 bc32 ok32 er32 l s0 ka ga kb gb kc gc (Aak N) g m (Aak (N ++ before.map SBay.name)) k (cn32 k f) ((k + 1 : Nat) : Int))) else none) = _
     rw [hok, her]
     unfold bne
     cases (Ags ka kb kc (N ++ before.map SBay.name) before (l.getD k bay0) == 0) <;> rfl)
  (fun m mp n f => by
    rw [st32_2, lt0 (Nat.lt_irrefl _)]
    rfl) g 0 [] (fun _ => []) (by omega) (by omega) rfl (.nil _)
 have hev := ev32 cn32 bc32 ok32 er32 l s0 ka ga kb gb kc gc (Aak N) g
 simp only [List.map_nil, List.append_nil, List.drop_zero] at he hr
 refine (Aau s32.ok Tryz.func73 b32 rfl (hev.trans he)).le (.refl _) ?_
 exact .cons (.refl _) (.cons (.refl _) (.cons (.refl _) (.cons (.refl _) (.cons (.refl _) (.cons hr.ble .nil)))))
end Go.Proofs.YtbpndheehcbldaaGreatDoor.st
namespace Go.Proofs.YtbpndheehcbldaaGreatDoor.st
open Go.RowKit Go.Eb
abbrev AL := D × Unit × Unit
abbrev RW1 := Nat × (Nat → List D)
abbrev A26 := AL × (ByteArray × Unit × Unit × Unit × Unit × Unit × Unit) × List (Value × Value) × Unit
def d26 : Dec (List AV × Hp) A26 := .pair (.cons (.c .data) (.cons (.c (.meth 68)) .nil)) (.cons (.blk 0 (.cells 207 (.cons .str (.cons .nilS (.cons .nilS (.cons .nilS (.cons .nilS (.cons (.mp 1) .nil)))))))) (.cons (.blk 1 (.mapB 0)) .nil))
abbrev A28 := AL × (ByteArray × Nat × Unit × Unit × Unit × Unit × Unit) × RW1 × List (Value × Value) × Unit
def d28 : Dec (List AV × Hp) A28 := .pair (.cons (.c .data) (.cons (.c (.meth 70)) .nil)) (.cons (.blk 0 (.cells 207 (.cons .str (.cons (.row 1 1) (.cons .nilS (.cons .nilS (.cons .nilS (.cons (.mp 2) .nil)))))))) (.cons (.blk 1 (.rowB 1 9)) (.cons (.blk 2 (.mapB 0)) .nil)))
abbrev A30 := AL × (ByteArray × Nat × Nat × Unit × Unit × Unit × Unit) × RW1 × RW1 × List (Value × Value) × Unit
def d30 : Dec (List AV × Hp) A30 := .pair (.cons (.c .data) (.cons (.c (.meth 72)) .nil)) (.cons (.blk 0 (.cells 207 (.cons .str (.cons (.row 1 1) (.cons (.row 2 5) (.cons .nilS (.cons .nilS (.cons (.mp 3) .nil)))))))) (.cons (.blk 1 (.rowB 1 9)) (.cons (.blk 2 (.rowB 5 144)) (.cons (.blk 3 (.mapB 0)) .nil))))
abbrev A32 := AL × (ByteArray × Nat × Nat × Nat × Unit × Unit × Unit) × RW1 × RW1 × RW1 × List (Value × Value) × Unit
def d32 : Dec (List AV × Hp) A32 := .pair (.cons (.c .data) (.cons (.c (.meth 74)) .nil)) (.cons (.blk 0 (.cells 207 (.cons .str (.cons (.row 1 1) (.cons (.row 2 5) (.cons (.row 3 6) (.cons .nilS (.cons (.mp 4) .nil)))))))) (.cons (.blk 1 (.rowB 1 9)) (.cons (.blk 2 (.rowB 5 144)) (.cons (.blk 3 (.rowB 6 147)) (.cons (.blk 4 (.mapB 0)) .nil)))))
structure K12 where
 nk : ByteArray → Bool
 ok1 : A26 → Bool
 e1 : A26 → Int
 m1 : A26 → List (Value × Value)
 n1 : A26 → Nat
 f1 : A26 → Nat → List D
 ok2 : A28 → Bool
 e2 : A28 → Int
 m2 : A28 → List (Value × Value)
 n2 : A28 → Nat
 f2 : A28 → Nat → List D
 ok3 : A30 → Bool
 e3 : A30 → Int
 m3 : A30 → List (Value × Value)
 n3 : A30 → Nat
 f3 : A30 → Nat → List D
 ok4 : A32 → Bool
 e4 : A32 → Int
 m4 : A32 → List (Value × Value)
 n4 : A32 → Nat
 f4 : A32 → Nat → List D
noncomputable def o12 (Z : K12) : Orc := Orc.cons 65 (ansP decS fun s => vB (Z.nk s)) (Orc.cons 66 (inl Tryz.prog Orc.nil na 1 Tryz.f66)
 (Orc.cons 67 (ansD d26 Z.ok1 (fun a => vI (Z.e1 a)) fun a => H1' a.2.1.1 (Z.m1 a) (Z.n1 a) (Z.f1 a))
 (Orc.cons 69 (ansD d28 Z.ok2 (fun a => vI (Z.e2 a)) fun a => H2' a.2.1.1 a.2.2.1.1 a.2.2.1.2 (Z.m2 a) (Z.n2 a) (Z.f2 a))
 (Orc.cons 71 (ansD d30 Z.ok3 (fun a => vI (Z.e3 a)) fun a => H3' a.2.1.1 a.2.2.1.1 a.2.2.1.2 a.2.2.2.1.1 a.2.2.2.1.2 (Z.m3 a) (Z.n3 a) (Z.f3 a))
 (Orc.cons 73 (ansD d32 Z.ok4 (fun a => vI (Z.e4 a)) fun a => H4' a.2.1.1 a.2.2.1.1 a.2.2.1.2 a.2.2.2.1.1 a.2.2.2.1.2 a.2.2.2.2.1.1 a.2.2.2.2.1.2 (Z.m4 a) (Z.n4 a) (Z.f4 a)) Orc.nil)))))
noncomputable def ann12 : Ann := AaE []
theorem b12 : Tryz.f31.body = some (Aad Tryz.f31) := by kernel_rfl
theorem ev12 (Z : K12) (s : SSta) (g : Nat) : Aai Tryz.prog (o12 Z) ann12 g Tryz.f31 (Aad Tryz.f31) [aSta s] [] =
 (fun t6 => (fun t5 => (fun t4 => (fun t3 => (fun t2 => (fun t1 => (bif !K12.nk Z s.name then leI 7 else (bif (↑s.buses.length : Int) == 0 then leI 3 else (bif decide
 ((↑s.buses.length : Int) > 4) then leI 3 else (bif decide ((↑s.lines.length : Int) > 6) then leI 3 else (bif decide ((↑s.srcs.length : Int) > 4) then leI 3 else (bif decide
 ((↑s.bays.length : Int) > 16) then leI 3 else (bif K12.ok1 Z t6 then (bif K12.e1 Z t6 == 0 then (bif K12.ok2 Z t4 then (bif K12.e2 Z t4 == 0 then (bif K12.ok3 Z t2 then (bif K12.e3
 Z t2 == 0 then (bif K12.ok4 Z t1 then leI (K12.e4 Z t1) else none) else leI (K12.e3 Z t2)) else none) else (bif K12.e2 Z t4 == 0 then none else leI (K12.e2 Z t4))) else none) else
 (bif K12.e1 Z t6 == 0 then none else (bif K12.e1 Z t6 == 0 then none else leI (K12.e1 Z t6)))) else none)))))))) ((Abj s.bays, (), ()), (⟨#[]⟩, K12.n1 Z t6, K12.n2 Z t4, K12.n3 Z
 t2, (), (), ()), t5, t3, (K12.n3 Z t2, K12.f3 Z t2), K12.m3 Z t2, ())) ((Abn s.srcs, (), ()), (⟨#[]⟩, K12.n1 Z t6, K12.n2 Z t4, (), (), (), ()), t5, t3, K12.m2 Z t4, ())) (K12.n2 Z
 t4, K12.f2 Z t4)) ((Aal s.lines, (), ()), (⟨#[]⟩, K12.n1 Z t6, (), (), (), (), ()), t5, K12.m1 Z t6, ())) (K12.n1 Z t6, K12.f1 Z t6)) ((Aaa s.buses, (), ()), (⟨#[]⟩, (), (), (),
 (), (), ()), [], ()) := by kernel_rfl
end Go.Proofs.YtbpndheehcbldaaGreatDoor.st
namespace Go.Proofs.YtbpndheehcbldaaGreatDoor.st
open Go.RowKit Go.Eb
noncomputable abbrev u1 (a : A26) := Acm id (fun N _ x => Abb N x) (theM a.2.2.1) [] (theE Aaa a.1.1)
noncomputable abbrev u2 (a : A28) := AdL (theM a.2.2.2.1) (theE Aal a.1.1)
noncomputable abbrev u3 (a : A30) := tSrc (theM a.2.2.2.2.1) (theE Abn a.1.1)
noncomputable abbrev u4 (a : A32) := tBay a.2.2.1.1 a.2.2.2.1.1 a.2.2.2.2.1.1 (theM a.2.2.2.2.2.1) (theE Abj a.1.1)
noncomputable def Z12 : K12 where
 nk := Aae
 ok1 a := okE Aaa a.1.1 && (decide ((theE Aaa a.1.1).length ≤ 900) && okM a.2.2.1)
 e1 a := (u1 a).1
 m1 a := Aak (theM a.2.2.1 ++ (u1 a).2.map id)
 n1 a := (u1 a).2.length
 f1 a := fun i => busC ((u1 a).2.getD i e0)
 ok2 a := okE Aal a.1.1 && (decide ((theE Aal a.1.1).length ≤ 900) && (okM a.2.2.2.1 && Nat.beq a.2.1.2.1 a.2.2.1.1))
 e2 a := (u2 a).1
 m2 a := Aak (theM a.2.2.2.1 ++ (u2 a).2.map SLine.name)
 n2 a := (u2 a).2.length
 f2 a := fun i => Aap ((u2 a).2.getD i Aaf)
 ok3 a := okE Abn a.1.1 && (decide ((theE Abn a.1.1).length ≤ 900) && (okM a.2.2.2.2.1 && (Nat.beq a.2.1.2.1 a.2.2.1.1 && Nat.beq a.2.1.2.2.1 a.2.2.2.1.1)))
 e3 a := (u3 a).1
 m3 a := Aak (theM a.2.2.2.2.1 ++ (u3 a).2.map SSrc.name)
 n3 a := (u3 a).2.length
 f3 a := fun i => Aao ((u3 a).2.getD i src0)
 ok4 a := okE Abj a.1.1 && (decide ((theE Abj a.1.1).length ≤ 900) && (okM a.2.2.2.2.2.1 && (Nat.beq a.2.1.2.1 a.2.2.1.1 && (Nat.beq a.2.1.2.2.1 a.2.2.2.1.1 && (Nat.beq a.2.1.2.2.2.1 a.2.2.2.2.1.1 && (Nat.ble a.2.2.1.1 900 && (Nat.ble a.2.2.2.1.1 900 && (Nat.ble a.2.2.2.2.1.1 900 && AfO (theE Abj a.1.1)))))))))
 e4 a := (u4 a).1
 m4 a := Aak (theM a.2.2.2.2.2.1 ++ (u4 a).2.map SBay.name)
 n4 a := (u4 a).2.length
 f4 a := fun i => bayC ((u4 a).2.getD i bay0)
theorem s12 : OrcS Tryz.prog (o12 Z12) := by
 refine .cons (.p AcU c15) (.cons (.inl .nil Tryz.func66 (by kernel_rfl)) (.cons (.d fun a ha => ?_) (.cons (.d fun a ha => ?_) (.cons (.d fun a ha => ?_) (.cons (.d fun a ha => ?_) .nil)))))
 ·have ha' : (okE Aaa a.1.1 && (decide ((theE Aaa a.1.1).length ≤ 900) && okM a.2.2.1)) = true := ha
  simp only [Bool.and_eq_true, decide_eq_true_eq] at ha'
  obtain ⟨h1, h2, h3⟩ := ha'
  have hm := AdK h3
  refine (c26 (theE Aaa a.1.1) a.2.1.1 (theM a.2.2.1) h2).ge (.cons (Acb h1) (.cons (.refl _) .nil)) ?_
  show Hle (H1 a.2.1.1 a.2.2.1) _
  rw [← hm]
  exact .refl _
 ·have ha' : (okE Aal a.1.1 && (decide ((theE Aal a.1.1).length ≤ 900) && (okM a.2.2.2.1 && Nat.beq a.2.1.2.1 a.2.2.1.1))) = true := ha
  simp only [Bool.and_eq_true, decide_eq_true_eq] at ha'
  obtain ⟨h1, h2, h3, h4⟩ := ha'
  have hm := AdK h3
  have e4 := Nat.eq_of_beq_eq_true h4
  refine (c28 (theE Aal a.1.1) a.2.1.1 a.2.2.1.1 a.2.2.1.2 (theM a.2.2.2.1) h2).ge (.cons (Acb h1) (.cons (.refl _) .nil)) ?_
  show Hle [(0, .cells [.d (dS a.2.1.1), .row 1 1 a.2.1.2.1, nilC, nilC, nilC, .mp 2] 207), (1, .row a.2.2.1.1 a.2.2.1.2 1 9), (2, .map 0 a.2.2.2.1)] _
  rw [← hm, e4]
  exact .refl _
 ·have ha' : (okE Abn a.1.1 && (decide ((theE Abn a.1.1).length ≤ 900) && (okM a.2.2.2.2.1 && (Nat.beq a.2.1.2.1 a.2.2.1.1 && Nat.beq a.2.1.2.2.1 a.2.2.2.1.1)))) = true := ha
  simp only [Bool.and_eq_true, decide_eq_true_eq] at ha'
  obtain ⟨h1, h2, h3, h4, h5⟩ := ha'
  have hm := AdK h3
  have e4 := Nat.eq_of_beq_eq_true h4
  have e5 := Nat.eq_of_beq_eq_true h5
  refine (c30 (theE Abn a.1.1) a.2.1.1 a.2.2.1.1 a.2.2.1.2 a.2.2.2.1.1 a.2.2.2.1.2 (theM a.2.2.2.2.1) h2).ge (.cons (Acb h1) (.cons (.refl _) .nil)) ?_
  show Hle [(0, .cells [.d (dS a.2.1.1), .row 1 1 a.2.1.2.1, .row 2 5 a.2.1.2.2.1, nilC, nilC, .mp 3] 207), (1, .row a.2.2.1.1 a.2.2.1.2 1 9), (2, .row a.2.2.2.1.1 a.2.2.2.1.2 5 144), (3, .map 0 a.2.2.2.2.1)] _
  rw [← hm, e4, e5]
  exact .refl _
 ·have ha' : (okE Abj a.1.1 && (decide ((theE Abj a.1.1).length ≤ 900) && (okM a.2.2.2.2.2.1 && (Nat.beq a.2.1.2.1 a.2.2.1.1 && (Nat.beq a.2.1.2.2.1 a.2.2.2.1.1 && (Nat.beq a.2.1.2.2.2.1 a.2.2.2.2.1.1 && (Nat.ble a.2.2.1.1 900 && (Nat.ble a.2.2.2.1.1 900 && (Nat.ble a.2.2.2.2.1.1 900 && AfO (theE Abj a.1.1)))))))))) = true := ha
  simp only [Bool.and_eq_true, decide_eq_true_eq] at ha'
  obtain ⟨h1, h2, h3, h4, h5, h6, h7, h8, h9, h10⟩ := ha'
  have hm := AdK h3
  have e4 := Nat.eq_of_beq_eq_true h4
  have e5 := Nat.eq_of_beq_eq_true h5
  have e6 := Nat.eq_of_beq_eq_true h6
  refine (c32 (theE Abj a.1.1) a.2.1.1 a.2.2.1.1 a.2.2.1.2 a.2.2.2.1.1 a.2.2.2.1.2 a.2.2.2.2.1.1 a.2.2.2.2.1.2 (theM a.2.2.2.2.2.1) h2 (Nat.le_of_ble_eq_true h7) (Nat.le_of_ble_eq_true h8) (Nat.le_of_ble_eq_true h9) (lksOk_get h10)).ge (.cons (Acb h1) (.cons (.refl _) .nil)) ?_
  show Hle [(0, .cells [.d (dS a.2.1.1), .row 1 1 a.2.1.2.1, .row 2 5 a.2.1.2.2.1, .row 3 6 a.2.1.2.2.2.1, nilC, .mp 4] 207), (1, .row a.2.2.1.1 a.2.2.1.2 1 9), (2, .row a.2.2.2.1.1 a.2.2.2.1.2 5 144), (3, .row a.2.2.2.2.1.1 a.2.2.2.2.1.2 6 147), (4, .map 0 a.2.2.2.2.2.1)] _
  rw [← hm, e4, e5, e6]
  exact .refl _
theorem len_eq0 (n : Nat) : ((n : Int) == 0) = (n == 0) := by cases n <;> rfl
theorem len_gt (n k : Nat) : decide ((n : Int) > (k : Int)) = decide (k < n) := by rw [decide_eq_decide]; omega
theorem c12 (s : SSta) (hlk : AfO s.bays = true) : CX Tryz.prog 31 [aSta s] [] (vI (AbQ s)) [] := by
 refine Aau s12.ok Tryz.func31 b12 rfl ((ev12 Z12 s 1).trans ?_)
 have t4 : ∀ n : Nat, decide ((n : Int) > 4) = decide (4 < n) := fun n => len_gt n 4
 have t6 : ∀ n : Nat, decide ((n : Int) > 6) = decide (6 < n) := fun n => len_gt n 6
 have t16 : ∀ n : Nat, decide ((n : Int) > 16) = decide (16 < n) := fun n => len_gt n 16
 simp only [len_eq0, t4, t6, t16, fOr]
 unfold AbQ
 show (bif !Aae s.name then _ else _) = _
 cases Aae s.name with
 | false => rfl
 | true =>
  simp only [Bool.not_true, cond_false]
  have hcb : (s.buses.length == 0 || (decide (4 < s.buses.length) || (decide (6 < s.lines.length) || (decide (4 < s.srcs.length) || decide (16 < s.bays.length))))) = Ahz s := rfl
  rw [hcb]
  cases hc : Ahz s with
  | true => rfl
  | false =>
   simp only [cond_false]
   unfold Ahz at hc
   simp only [Bool.or_eq_false_iff, decide_eq_false_iff_not] at hc
   obtain ⟨_, h4, h6, h4', h16⟩ := hc
   have M0 : okM ([] : List (Value × Value)) = true := AdS []
   have M0' : theM ([] : List (Value × Value)) = [] := Acv []
   obtain ⟨L1, L1'⟩ := AaO (sz := 1) (d0 := e0) Abu s.buses
   obtain ⟨L2, L2'⟩ := AaO (sz := 5) (d0 := Aaf) Afn s.lines
   obtain ⟨L3, L3'⟩ := AaO (sz := 6) (d0 := src0) Agx s.srcs
   obtain ⟨L4, L4'⟩ := AaO (sz := 12) (d0 := bay0) AfB s.bays
   have x1 : ∀ y, Z12.ok1 ((Aaa s.buses, (), ()), y, [], ()) = true := fun y => by
    show (okE Aaa (Aaa s.buses) && (decide ((theE Aaa (Aaa s.buses)).length ≤ 900) && okM [])) = true
    rw [L1, L1', M0, decide_eq_true (by omega)]; rfl
   have y1 : ∀ y, u1 ((Aaa s.buses, (), ()), y, [], ()) = tBus s.buses := fun y => by
    show Acm id (fun N _ x => Abb N x) (theM []) [] (theE Aaa (Aaa s.buses)) = _
    rw [L1', M0']; rfl
   have z1 : ∀ y, Z12.e1 ((Aaa s.buses, (), ()), y, [], ()) = (tBus s.buses).1 := fun y => by show (u1 _).1 = _; rw [y1]
   rw [x1, z1]
   simp only [cond_true]
   cases E1 : ((tBus s.buses).1 == 0) with
   | false =>
    have : ((tBus s.buses).1 != 0) = true := by unfold bne; rw [E1]; rfl
    rw [this]; rfl
   | true =>
    have E1' : (tBus s.buses).1 = 0 := by simpa using E1
    have N1 : (tBus s.buses).2 = s.buses := by have := Agw (nm := id) (f := fun N _ x => Abb N x) (N := []) [] s.buses E1'; rw [List.nil_append] at this; exact this
    have n1 : ∀ y, Z12.n1 ((Aaa s.buses, (), ()), y, [], ()) = s.buses.length := fun y => by show (u1 _).2.length = _; rw [y1, N1]
    have m1 : ∀ y, Z12.m1 ((Aaa s.buses, (), ()), y, [], ()) = Aak s.buses := fun y => by
     show Aak (theM [] ++ (u1 _).2.map id) = _
     rw [y1, N1, M0']; simp
    rw [E1']
    simp only [cond_true, n1, m1, bne_self_eq_false, cond_false]
    have x2 : ∀ a b c d, Z12.ok2 ((Aal s.lines, (), ()), (a, s.buses.length, b), (s.buses.length, c), Aak s.buses, d) = true := fun a b c d => by
     show (okE Aal (Aal s.lines) && (decide ((theE Aal (Aal s.lines)).length ≤ 900) && (okM (Aak s.buses) && Nat.beq s.buses.length s.buses.length))) = true
     rw [L2, L2', AdS, decide_eq_true (by omega), Nat.beq_refl]; rfl
    have y2 : ∀ a b c d, u2 ((Aal s.lines, (), ()), (a, s.buses.length, b), (s.buses.length, c), Aak s.buses, d) = AdL s.buses s.lines := fun a b c d => by
     show AdL (theM (Aak s.buses)) (theE Aal (Aal s.lines)) = _
     rw [L2', Acv]
    have z2 : ∀ a b c d, Z12.e2 ((Aal s.lines, (), ()), (a, s.buses.length, b), (s.buses.length, c), Aak s.buses, d) = (AdL s.buses s.lines).1 := fun a b c d => by show (u2 _).1 = _; rw [y2]
    rw [x2, z2]
    simp only [cond_true]
    cases E2 : ((AdL s.buses s.lines).1 == 0) with
    | false =>
     have : ((AdL s.buses s.lines).1 != 0) = true := by unfold bne; rw [E2]; rfl
     rw [this]; rfl
    | true =>
     have E2' : (AdL s.buses s.lines).1 = 0 := by simpa using E2
     have N2 : (AdL s.buses s.lines).2 = s.lines := by have := Agw (nm := SLine.name) (f := fun N _ x => AfP N x) (N := s.buses) [] s.lines E2'; rw [List.nil_append] at this; exact this
     have n2 : ∀ a b c d, Z12.n2 ((Aal s.lines, (), ()), (a, s.buses.length, b), (s.buses.length, c), Aak s.buses, d) = s.lines.length := fun a b c d => by show (u2 _).2.length = _; rw [y2, N2]
     have m2 : ∀ a b c d, Z12.m2 ((Aal s.lines, (), ()), (a, s.buses.length, b), (s.buses.length, c), Aak s.buses, d) = Aak (s.buses ++ s.lines.map SLine.name) := fun a b c d => by
      show Aak (theM (Aak s.buses) ++ (u2 _).2.map SLine.name) = _
      rw [y2, N2, Acv]
     rw [E2']
     simp only [cond_true, n2, m2, bne_self_eq_false, cond_false]
     have x3 : ∀ a b c d e, Z12.ok3 ((Abn s.srcs, (), ()), (a, s.buses.length, s.lines.length, b), (s.buses.length, c), (s.lines.length, d), Aak (s.buses ++ s.lines.map SLine.name), e) = true := fun a b c d e => by
      show (okE Abn (Abn s.srcs) && (decide ((theE Abn (Abn s.srcs)).length ≤ 900) && (okM (Aak (s.buses ++ s.lines.map SLine.name)) && (Nat.beq s.buses.length s.buses.length && Nat.beq s.lines.length s.lines.length)))) = true
      rw [L3, L3', AdS, decide_eq_true (by omega), Nat.beq_refl, Nat.beq_refl]; rfl
     have y3 : ∀ a b c d e, u3 ((Abn s.srcs, (), ()), (a, s.buses.length, s.lines.length, b), (s.buses.length, c), (s.lines.length, d), Aak (s.buses ++ s.lines.map SLine.name), e) = tSrc (s.buses ++ s.lines.map SLine.name) s.srcs := fun a b c d e => by
      show tSrc (theM (Aak (s.buses ++ s.lines.map SLine.name))) (theE Abn (Abn s.srcs)) = _
      rw [L3', Acv]
     have z3 : ∀ a b c d e, Z12.e3 ((Abn s.srcs, (), ()), (a, s.buses.length, s.lines.length, b), (s.buses.length, c), (s.lines.length, d), Aak (s.buses ++ s.lines.map SLine.name), e) = (tSrc (s.buses ++ s.lines.map SLine.name) s.srcs).1 := fun a b c d e => by show (u3 _).1 = _; rw [y3]
     rw [x3, z3]
     simp only [cond_true]
     cases E3 : ((tSrc (s.buses ++ s.lines.map SLine.name) s.srcs).1 == 0) with
     | false =>
      have : ((tSrc (s.buses ++ s.lines.map SLine.name) s.srcs).1 != 0) = true := by unfold bne; rw [E3]; rfl
      rw [this]; rfl
     | true =>
      have E3' : (tSrc (s.buses ++ s.lines.map SLine.name) s.srcs).1 = 0 := by simpa using E3
      have N3 : (tSrc (s.buses ++ s.lines.map SLine.name) s.srcs).2 = s.srcs := by have := Agw (nm := SSrc.name) (f := fun N _ x => srcErr N x) (N := s.buses ++ s.lines.map SLine.name) [] s.srcs E3'; rw [List.nil_append] at this; exact this
      have n3 : ∀ a b c d e, Z12.n3 ((Abn s.srcs, (), ()), (a, s.buses.length, s.lines.length, b), (s.buses.length, c), (s.lines.length, d), Aak (s.buses ++ s.lines.map SLine.name), e) = s.srcs.length := fun a b c d e => by show (u3 _).2.length = _; rw [y3, N3]
      have m3 : ∀ a b c d e, Z12.m3 ((Abn s.srcs, (), ()), (a, s.buses.length, s.lines.length, b), (s.buses.length, c), (s.lines.length, d), Aak (s.buses ++ s.lines.map SLine.name), e) = Aak (s.buses ++ s.lines.map SLine.name ++ s.srcs.map SSrc.name) := fun a b c d e => by
       show Aak (theM (Aak (s.buses ++ s.lines.map SLine.name)) ++ (u3 _).2.map SSrc.name) = _
       rw [y3, N3, Acv]
      rw [E3']
      simp only [cond_true, n3, m3, bne_self_eq_false, cond_false]
      have x4 : ∀ a b c d e f, Z12.ok4 ((Abj s.bays, (), ()), (a, s.buses.length, s.lines.length, s.srcs.length, b), (s.buses.length, c), (s.lines.length, d), (s.srcs.length, e), Aak (s.buses ++ s.lines.map SLine.name ++ s.srcs.map SSrc.name), f) = true := fun a b c d e f => by
       show (okE Abj (Abj s.bays) && (decide ((theE Abj (Abj s.bays)).length ≤ 900) && (okM (Aak (s.buses ++ s.lines.map SLine.name ++ s.srcs.map SSrc.name)) && (Nat.beq s.buses.length s.buses.length && (Nat.beq s.lines.length s.lines.length && (Nat.beq s.srcs.length s.srcs.length && (Nat.ble s.buses.length 900 && (Nat.ble s.lines.length 900 && (Nat.ble s.srcs.length 900 && AfO (theE Abj (Abj s.bays))))))))))) = true
       rw [L4, L4', AdS, decide_eq_true (by omega), Nat.beq_refl, Nat.beq_refl, Nat.beq_refl, bleD, bleD, bleD, decide_eq_true (by omega), decide_eq_true (by omega), decide_eq_true (by omega), hlk]; rfl
      have z4 : ∀ a b c d e f, Z12.e4 ((Abj s.bays, (), ()), (a, s.buses.length, s.lines.length, s.srcs.length, b), (s.buses.length, c), (s.lines.length, d), (s.srcs.length, e), Aak (s.buses ++ s.lines.map SLine.name ++ s.srcs.map SSrc.name), f) = (tBay s.buses.length s.lines.length s.srcs.length (s.buses ++ s.lines.map SLine.name ++ s.srcs.map SSrc.name) s.bays).1 := fun a b c d e f => by
       show (tBay s.buses.length s.lines.length s.srcs.length (theM (Aak (s.buses ++ s.lines.map SLine.name ++ s.srcs.map SSrc.name))) (theE Abj (Abj s.bays))).1 = _
       rw [L4', Acv]
      rw [x4, z4]
      rfl
end Go.Proofs.YtbpndheehcbldaaGreatDoor.st
