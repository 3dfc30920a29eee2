/-
  An evaluator of Go code on abstract values, proved sound, and what it computes of the functions that the statement reaches (part 4). No condition.
-/
import Derived.Test.YtbpndheehcbldaaGreatDoorQ3
import Derived.Shelf.Strconv.Itoa3
import Derived.Ground.NamesProg
import Derived.Test.YtbpndheehcbldaaGreatDoorProg
import Derived.KernelRfl
import Derived.Shelf.Slices.Clone
import Derived.Ground.Names2Prog
noncomputable section
open Go.Proofs.Tryz
set_option maxRecDepth 100000
namespace Go.Proofs.YtbpndheehcbldaaGreatDoor.tb
open Go.RowKit Go.Eb Go.Proofs.YtbpndheehcbldaaGreatDoor.st
set_option maxRecDepth 100000
def HKB (c : SCfg) (mp : MV) (np : Nat) (fp : RD) (nd : Nat) (fd : RD) : Hp := [(0, .cells ((cfgC c).map .d ++ [.mp 1, .row 2 5 np, .row 3 3 nd]) 81), (1, .map 4 mp), (2, .row np fp 5 70), (3, .row nd fd 3 51)]
def HP (p : SPub) : Hp := [(0, .cells ((pubC p).map .d) 122)]
def HKA (c : SCfg) (np : Nat) (fp : RD) (nd : Nat) (fd : RD) : Hp := [(0, .cells ((cfgC c).map .d ++ [.d (.v (.map none)), .row 1 5 np, .row 2 3 nd]) 81), (1, .row np fp 5 70), (2, .row nd fd 3 51)]
structure KSn where
 oko : LB
 ou : List AV -> List ByteArray
 oki : List AV -> Hp -> Bool
 ix : List AV -> Hp -> Int
 pb : List AV -> Hp -> SPub
 okx : LB
 sx : LI
def oSn (Z : KSn) : Orc := Orc.cons 45 (ansG Z.oko fun x => .c (.d (Ab (Z.ou x)))) (Orc.cons 46 (ansM Z.oki (fun x H => vI (Z.ix x H)) fun x H => [(0, .cells ((pubC (Z.pb x H)).map .d) 122)])
 (Orc.cons 48 (ansG Z.okx fun x => vI (Z.sx x)) (Orc.cons 49 (inl prog Orc.nil na 5 f49) Orc.nil)))
def Sw : Ann := A4 [(4, ⟨[6, 0, 1, 5, 25, 4, 26, 27], [(6, 1, 1, 3), (0, 7, 5, 70)]⟩), (9, ⟨[10, 6, 47, 0, 1, 5, 25, 4, 26, 27, 9, 48, 49], [(10, 4, 1, 3)]⟩)]
def Acp (Z : KSn) (c : SCfg) (mp : MV) (np : Nat) (fp : RD) (nd : Nat) (fd : RD) (rel : Int) (g m : Nat) (l1 : MV) (n2 : Nat) (f2 : RD) (n3 : Nat) (f3 : RD) (n7 : Nat) (f7 : RD) (i27 : Int) := LK prog (oSn Z) Sw (List.length (α := Nat × Blk) (HKB c mp np fp nd fd)) g f21 4 m ⟨frm [(0, .c (.ptr 0 0)), (1, iA rel), (4, .c (.ptr 4 0)), (5, .c (.ptr 5 0)), (6, .c (.ptr 6 0)), (25, .c (.d (Aa 3 pubC pub0 (SRel.pubs (List.getD (SCfg.rels c) (Int.toNat rel) rel0))))), (26, iA (↑(List.length (SRel.pubs (List.getD (SCfg.rels c) (Int.toNat rel) rel0))) : Int)), (27, iA i27)] 0 f21.ntmps, [(0, Blk.cells [.d (.v (.string (SSta.name (SCfg.sta c)))), C.d (Aa 1 busC e0 (SSta.buses (SCfg.sta c))), C.d (Aa 5 As Af (SSta.lines (SCfg.sta c))), C.d (Aa 6 Ar src0 (SSta.srcs (SCfg.sta c))), C.d (Aa 12 bayC bay0 (SSta.bays (SCfg.sta c))), C.d (Aa 53 relC rel0 (SCfg.rels c)), C.mp 1, C.row 2 5 n2, C.row 3 3 n3] 81), (1, Blk.map 4 l1), (2, Blk.row n2 f2 5 70), (3, Blk.row n3 f3 3 51), (4, Blk.cells [.d (.v (.slice none 0 0)), .d (.v (.slice none 0 0)), .d (.v (.slice none 0 0))] 51), (5, Blk.cells (List.map C.d (relC (List.getD (SCfg.rels c) (Int.toNat rel) rel0))) 64), (6, Blk.cells [C.d (Aa 1 busC e0 (KSn.ou Z [gA (relC (List.getD (SCfg.rels c) (Int.toNat rel) rel0))])), C.row 7 1 n7, .d (.v (.slice none 0 0))] 51), (7, Blk.row n7 f7 1 3)], 8⟩
def S4 (Z : KSn) (c : SCfg) (mp : MV) (np : Nat) (fp : RD) (nd : Nat) (fd : RD) (rel : Int) (g mo m : Nat) (l1 : MV) (n2 : Nat) (f2 : RD) (n3 : Nat) (f3 : RD) (n7 : Nat) (f7 : RD) (n9 : Nat) (f9 : RD) (i9 : Int) (i27 : Int) (i48 : Int) (i49 : Int) (x8 : Int) (x8_2 : Int) (x8_3 : Int) := LK2 prog (oSn Z) Sw (List.length (α := Nat × Blk) (HKB c mp np fp nd fd)) g f21 4 mo 9 m ⟨frm [(0, .c (.ptr 0 0)), (1, iA rel), (4, .c (.ptr 4 0)), (5, .c (.ptr 5 0)), (6, .c (.ptr 6 0)), (9, iA i9), (10, .c (.ptr 8 0)), (25, .c (.d (Aa 3 pubC pub0 (SRel.pubs (List.getD (SCfg.rels c) (Int.toNat rel) rel0))))), (26, iA (↑(List.length (SRel.pubs (List.getD (SCfg.rels c) (Int.toNat rel) rel0))) : Int)), (27, iA i27), (47, .c (.d (Aa 1 busC e0 (SSet.sigs (List.getD (SRel.sets (List.getD (SCfg.rels c) (Int.toNat rel) rel0)) (Int.toNat (KSn.ix Z [.c (.d (Aa 2 setC set0 (SRel.sets (List.getD (SCfg.rels c) (Int.toNat rel) rel0)))), .c (.fn 47 [] [Rf.ptr 0 0])] [(0, Blk.cells (List.map C.d (pubC (List.getD (SRel.pubs (List.getD (SCfg.rels c) (Int.toNat rel) rel0)) (Int.toNat i27) pub0))) 122)])) set0))))), (48, iA i48), (49, iA i49)] 0 f21.ntmps, [(0, Blk.cells [.d (.v (.string (SSta.name (SCfg.sta c)))), C.d (Aa 1 busC e0 (SSta.buses (SCfg.sta c))), C.d (Aa 5 As Af (SSta.lines (SCfg.sta c))), C.d (Aa 6 Ar src0 (SSta.srcs (SCfg.sta c))), C.d (Aa 12 bayC bay0 (SSta.bays (SCfg.sta c))), C.d (Aa 53 relC rel0 (SCfg.rels c)), C.mp 1, C.row 2 5 n2, C.row 3 3 n3] 81), (1, Blk.map 4 l1), (2, Blk.row n2 f2 5 70), (3, Blk.row n3 f3 3 51), (4, Blk.cells [.d (.v (.slice none 0 0)), .d (.v (.slice none 0 0)), .d (.v (.slice none 0 0))] 51), (5, Blk.cells (List.map C.d (relC (List.getD (SCfg.rels c) (Int.toNat rel) rel0))) 64), (6, Blk.cells [C.d (Aa 1 busC e0 (KSn.ou Z [gA (relC (List.getD (SCfg.rels c) (Int.toNat rel) rel0))])), C.row 7 1 n7, .d (.v (.slice none 0 0))] 51), (7, Blk.row n7 f7 1 3), (8, Blk.cells [.d (iD rel), .d (iD x8), .d (iD x8_2), .d (iD x8_3), C.row 9 1 n9] 70), (9, Blk.row n9 f9 1 3)], 10⟩
def Ee (Z : KSn) (c : SCfg) (mp : MV) (np : Nat) (fp : RD) (nd : Nat) (fd : RD) (rel : Int) (g m : Nat) (l1 : MV) (n3 : Nat) (f3 : RD) (n4 : Nat) (f4 : RD) (n8 : Nat) (f8 : RD) (i27 : Int) := LK prog (oSn Z) Sw (List.length (α := Nat × Blk) (HKB c mp np fp nd fd)) g f21 4 m ⟨frm [(0, .c (.ptr 0 0)), (1, iA rel), (4, .c (.ptr 5 0)), (5, .c (.ptr 6 0)), (6, .c (.ptr 7 0)), (25, .c (.d (Aa 3 pubC pub0 (SRel.pubs (List.getD (SCfg.rels c) (Int.toNat rel) rel0))))), (26, iA (↑(List.length (SRel.pubs (List.getD (SCfg.rels c) (Int.toNat rel) rel0))) : Int)), (27, iA i27)] 0 f21.ntmps, [(0, Blk.cells [.d (.v (.string (SSta.name (SCfg.sta c)))), C.d (Aa 1 busC e0 (SSta.buses (SCfg.sta c))), C.d (Aa 5 As Af (SSta.lines (SCfg.sta c))), C.d (Aa 6 Ar src0 (SSta.srcs (SCfg.sta c))), C.d (Aa 12 bayC bay0 (SSta.bays (SCfg.sta c))), C.d (Aa 53 relC rel0 (SCfg.rels c)), C.mp 1, C.row 4 5 n4, C.row 3 3 n3] 81), (1, Blk.map 4 l1), (2, Blk.dead), (3, Blk.row n3 f3 3 51), (4, Blk.row n4 f4 5 70), (5, Blk.cells [.d (.v (.slice none 0 0)), .d (.v (.slice none 0 0)), .d (.v (.slice none 0 0))] 51), (6, Blk.cells (List.map C.d (relC (List.getD (SCfg.rels c) (Int.toNat rel) rel0))) 64), (7, Blk.cells [C.d (Aa 1 busC e0 (KSn.ou Z [gA (relC (List.getD (SCfg.rels c) (Int.toNat rel) rel0))])), C.row 8 1 n8, .d (.v (.slice none 0 0))] 51), (8, Blk.row n8 f8 1 3)], 9⟩
def Ni (Z : KSn) (c : SCfg) (mp : MV) (np : Nat) (fp : RD) (nd : Nat) (fd : RD) (rel : Int) (g mo m : Nat) (l1 : MV) (n3 : Nat) (f3 : RD) (n4 : Nat) (f4 : RD) (n8 : Nat) (f8 : RD) (n10 : Nat) (f10 : RD) (i9 : Int) (i27 : Int) (i48 : Int) (i49 : Int) (x9 : Int) (x9_2 : Int) (x9_3 : Int) := LK2 prog (oSn Z) Sw (List.length (α := Nat × Blk) (HKB c mp np fp nd fd)) g f21 4 mo 9 m ⟨frm [(0, .c (.ptr 0 0)), (1, iA rel), (4, .c (.ptr 5 0)), (5, .c (.ptr 6 0)), (6, .c (.ptr 7 0)), (9, iA i9), (10, .c (.ptr 9 0)), (25, .c (.d (Aa 3 pubC pub0 (SRel.pubs (List.getD (SCfg.rels c) (Int.toNat rel) rel0))))), (26, iA (↑(List.length (SRel.pubs (List.getD (SCfg.rels c) (Int.toNat rel) rel0))) : Int)), (27, iA i27), (47, .c (.d (Aa 1 busC e0 (SSet.sigs (List.getD (SRel.sets (List.getD (SCfg.rels c) (Int.toNat rel) rel0)) (Int.toNat (KSn.ix Z [.c (.d (Aa 2 setC set0 (SRel.sets (List.getD (SCfg.rels c) (Int.toNat rel) rel0)))), .c (.fn 47 [] [Rf.ptr 0 0])] [(0, Blk.cells (List.map C.d (pubC (List.getD (SRel.pubs (List.getD (SCfg.rels c) (Int.toNat rel) rel0)) (Int.toNat i27) pub0))) 122)])) set0))))), (48, iA i48), (49, iA i49)] 0 f21.ntmps, [(0, Blk.cells [.d (.v (.string (SSta.name (SCfg.sta c)))), C.d (Aa 1 busC e0 (SSta.buses (SCfg.sta c))), C.d (Aa 5 As Af (SSta.lines (SCfg.sta c))), C.d (Aa 6 Ar src0 (SSta.srcs (SCfg.sta c))), C.d (Aa 12 bayC bay0 (SSta.bays (SCfg.sta c))), C.d (Aa 53 relC rel0 (SCfg.rels c)), C.mp 1, C.row 4 5 n4, C.row 3 3 n3] 81), (1, Blk.map 4 l1), (2, Blk.dead), (3, Blk.row n3 f3 3 51), (4, Blk.row n4 f4 5 70), (5, Blk.cells [.d (.v (.slice none 0 0)), .d (.v (.slice none 0 0)), .d (.v (.slice none 0 0))] 51), (6, Blk.cells (List.map C.d (relC (List.getD (SCfg.rels c) (Int.toNat rel) rel0))) 64), (7, Blk.cells [C.d (Aa 1 busC e0 (KSn.ou Z [gA (relC (List.getD (SCfg.rels c) (Int.toNat rel) rel0))])), C.row 8 1 n8, .d (.v (.slice none 0 0))] 51), (8, Blk.row n8 f8 1 3), (9, Blk.cells [.d (iD rel), .d (iD x9), .d (iD x9_2), .d (iD x9_3), C.row 10 1 n10] 70), (10, Blk.row n10 f10 1 3)], 11⟩
theorem bsnb : f21.body = some (Ad f21) := by kernel_rfl
theorem Akk (Z : KSn) (c : SCfg) (mp : MV) (np : Nat) (fp : RD) (nd : Nat) (fd : RD) (rel : Int) (g : Nat) : Al prog (oSn Z) Sw g f21 (Ad f21) [.c (.ptr 0 0), vI rel] (HKB c mp np fp nd fd) =
 (bif decide (0 <= rel) && decide (rel < (↑c.rels.length : Int)) then (bif KSn.oko Z [gA (relC (c.rels.getD rel.toNat rel0))] then Acp Z c mp np fp nd fd rel g g
 mp np fp nd fd 0 (fun x => []) 0 else none) else none) := by kernel_rfl
theorem Yy (Z : KSn) (c : SCfg) (mp : MV) (np : Nat) (fp : RD) (nd : Nat) (fd : RD) (rel : Int) (g m : Nat) (l1 : MV) (n2 : Nat) (f2 : RD) (n3 : Nat) (f3 : RD) (n7 : Nat) (f7 : RD) (i27 : Int) : Acp Z c mp np fp nd fd rel g (m + 1) l1 n2 f2 n3 f3 n7 f7 i27 =
 (bif decide (i27 < (↑(SRel.pubs (c.rels.getD rel.toNat rel0)).length : Int)) then (bif decide (0 <= i27) && decide (i27 < (↑(SRel.pubs (c.rels.getD rel.toNat rel0)).length : Int))
 then (bif KSn.oki Z [AV.c (C.d (Aa (2) setC set0 (SRel.sets (c.rels.getD rel.toNat rel0)))), AV.c (C.fn (47) [] [Rf.ptr (0) (0)])] [(0, Blk.cells (List.map C.d (pubC ((SRel.pubs
 (c.rels.getD rel.toNat rel0)).getD i27.toNat pub0))) (122))] then (bif decide (0 <= KSn.ix Z [AV.c (C.d (Aa (2) setC set0 (SRel.sets (c.rels.getD rel.toNat rel0)))), AV.c (C.fn (47)
 [] [Rf.ptr (0) (0)])] [(0, Blk.cells (List.map C.d (pubC ((SRel.pubs (c.rels.getD rel.toNat rel0)).getD i27.toNat pub0))) (122))]) && decide (KSn.ix Z [AV.c (C.d (Aa (2) setC set0
 (SRel.sets (c.rels.getD rel.toNat rel0)))), AV.c (C.fn ((47 : Nat)) [] [Rf.ptr (0) (0)])] [(0, Blk.cells (List.map C.d (pubC ((SRel.pubs (c.rels.getD rel.toNat rel0)).getD
 i27.toNat pub0))) (122))] < (↑(SRel.sets (c.rels.getD rel.toNat rel0)).length : Int)) then S4 Z c mp np fp nd fd rel g m g l1 n2 f2 n3 f3 n7 f7 0 (fun x => []) (KSn.ix Z [AV.c (C.d
 (Aa (2) setC set0 (SRel.sets (c.rels.getD rel.toNat rel0)))), AV.c (C.fn (47) [] [Rf.ptr (0) (0)])] [(0, Blk.cells (List.map C.d (pubC ((SRel.pubs (c.rels.getD rel.toNat
 rel0)).getD i27.toNat pub0))) (122))]) i27 ((↑(SSet.sigs ((SRel.sets (c.rels.getD rel.toNat rel0)).getD (Int.toNat (KSn.ix Z [AV.c (C.d (Aa (2) setC set0 (SRel.sets (c.rels.getD
 rel.toNat rel0)))), AV.c (C.fn (47) [] [Rf.ptr (0) (0)])] [(0, Blk.cells (List.map C.d (pubC ((SRel.pubs (c.rels.getD rel.toNat rel0)).getD i27.toNat pub0))) (122))]))
 set0)).length : Int)) 0 (KSn.ix Z [AV.c (C.d (Aa (2) setC set0 (SRel.sets (c.rels.getD rel.toNat rel0)))), AV.c (C.fn (47) [] [Rf.ptr (0) (0)])] [(0, Blk.cells (List.map C.d (pubC
 ((SRel.pubs (c.rels.getD rel.toNat rel0)).getD i27.toNat pub0))) (122))]) (SPub.fst (KSn.pb Z [AV.c (C.d (Aa (2) setC set0 (SRel.sets (c.rels.getD rel.toNat rel0)))), AV.c (C.fn
 (47) [] [Rf.ptr (0) (0)])] [(0, Blk.cells (List.map C.d (pubC ((SRel.pubs (c.rels.getD rel.toNat rel0)).getD i27.toNat pub0))) (122))])) (SPub.max (KSn.pb Z [AV.c (C.d (Aa (2) setC
 set0 (SRel.sets (c.rels.getD rel.toNat rel0)))), AV.c (C.fn (47) [] [Rf.ptr (0) (0)])] [(0, Blk.cells (List.map C.d (pubC ((SRel.pubs (c.rels.getD rel.toNat rel0)).getD i27.toNat
 pub0))) (122))])) else none) else none) else none) else some (T.leaf (AV.agg [C.d (Aa (1) busC e0 (KSn.ou Z [gA (relC (c.rels.getD rel.toNat rel0))])), C.row (4)
 (1) n7, C.d (.v (.slice none 0 0))], [(0, Blk.cells [C.d (.v (.string (SSta.name c.sta))), C.d (Aa (1) busC e0 (SSta.buses c.sta)), C.d (Aa (5) As Af (SSta.lines c.sta)), C.d (Aa
 (6) Ar src0 (SSta.srcs c.sta)), C.d (Aa (12) bayC bay0 (SSta.bays c.sta)), C.d (Aa (53) relC rel0 c.rels), C.mp (1), C.row (2) (5) n2, C.row (3) (3) n3] (81)), (1, Blk.map (4) l1),
 (2, Blk.row n2 f2 (5) (70)), (3, Blk.row n3 f3 (3) ((51 : Nat))), (4, Blk.row n7 f7 (1) (3))]))) := by kernel_rfl
theorem Yx (Z : KSn) (c : SCfg) (mp : MV) (np : Nat) (fp : RD) (nd : Nat) (fd : RD) (rel : Int) (g mo m : Nat) (l1 : MV) (n2 : Nat) (f2 : RD) (n3 : Nat) (f3 : RD) (n7 : Nat) (f7 : RD) (n9 : Nat) (f9 : RD) (i9 : Int) (i27 : Int) (i48 : Int) (i49 : Int) (x8 : Int) (x8_2 : Int) (x8_3 : Int) : S4 Z c mp np fp nd fd rel g mo (m + 1) l1 n2 f2 n3 f3 n7 f7 n9 f9 i9 i27 i48 i49 x8 x8_2 x8_3 =
 (bif decide (i49 < i48) then (bif decide (0 <= i49) && decide (i49 < (↑(SSet.sigs ((SRel.sets (c.rels.getD rel.toNat rel0)).getD (Int.toNat (KSn.ix Z [AV.c (C.d (Aa (2) setC set0
 (SRel.sets (c.rels.getD rel.toNat rel0)))), AV.c (C.fn (47) [] [Rf.ptr (0) ((0 : Nat))])] [(0, Blk.cells (List.map C.d (pubC ((SRel.pubs (c.rels.getD rel.toNat rel0)).getD
 i27.toNat pub0))) (122))])) set0)).length : Int)) then (bif KSn.okx Z [AV.c (C.d (Aa (1) busC e0 (KSn.ou Z [gA (relC (c.rels.getD rel.toNat rel0))]))), AV.c (C.d
 (D.v (Value.string ((SSet.sigs ((SRel.sets (c.rels.getD rel.toNat rel0)).getD (Int.toNat (KSn.ix Z [AV.c (C.d (Aa (2) setC set0 (SRel.sets (c.rels.getD rel.toNat rel0)))), AV.c
 (C.fn (47) [] [Rf.ptr (0) (0)])] [(0, Blk.cells (List.map C.d (pubC ((SRel.pubs (c.rels.getD rel.toNat rel0)).getD i27.toNat pub0))) (122))])) set0)).getD i49.toNat e0))))] then
 (bif decide ((n9 + 1) * 8 <= (140737488355328 : Nat)) && decide (n9 + 1 <= 9223372036854775807) then S4 Z c mp np fp nd fd rel g mo m l1 n2 f2 n3 f3 n7 f7 (n9 + 1) (appF n9 f9 (Au
 [iD (KSn.sx Z [AV.c (C.d (Aa (1) busC e0 (KSn.ou Z [gA (relC (c.rels.getD rel.toNat rel0))]))), AV.c (C.d (D.v (Value.string ((SSet.sigs
 ((SRel.sets (c.rels.getD rel.toNat rel0)).getD (Int.toNat (KSn.ix Z [AV.c (C.d (Aa (2) setC set0 (SRel.sets (c.rels.getD rel.toNat rel0)))), AV.c (C.fn (47) [] [Rf.ptr (0) (0)])]
 [(0, Blk.cells (List.map C.d (pubC ((SRel.pubs (c.rels.getD rel.toNat rel0)).getD i27.toNat pub0))) (122))])) set0)).getD i49.toNat e0))))])] (0 + 1))) i9 i27 i48 (IntKind.wrap
 .i64 (i49 + 1)) x8 x8_2 x8_3 else none) else none) else none) else (bif decide ((n7 + 1) * 8 <= 140737488355328) && decide (n7 + 1 <= 9223372036854775807) then (bif decide ((n2 + 1)
 * 56 <= 140737488355328) && decide (n2 + 1 <= 9223372036854775807) then Ee Z c mp np fp nd fd rel g mo ((Value.agg #[Value.int IntKind.i64 rel, Value.int IntKind.i64 i9], Value.int
 IntKind.i64 (↑(dlen l1) : Int)) :: l1) n3 f3 (n2 + 1) (appF n2 f2 (Au [iD rel, iD x8, iD x8_2, iD x8_3, D.sl 1 n9 f9] (4 + 1)))
 (n7 + 1) (appF n7 f7 (Au [iD (↑(dlen l1) : Int)] (0 + 1))) (IntKind.wrap .i64 (i27 + 1)) else none) else none)) := by kernel_rfl
theorem Vc (Z : KSn) (c : SCfg) (mp : MV) (np : Nat) (fp : RD) (nd : Nat) (fd : RD) (rel : Int) (g m : Nat) (l1 : MV) (n3 : Nat) (f3 : RD) (n4 : Nat) (f4 : RD) (n8 : Nat) (f8 : RD) (i27 : Int) : Ee Z c mp np fp nd fd rel g (m + 1) l1 n3 f3 n4 f4 n8 f8 i27 =
 (bif decide (i27 < (↑(SRel.pubs (c.rels.getD rel.toNat rel0)).length : Int)) then (bif decide (0 <= i27) && decide (i27 < (↑(SRel.pubs (c.rels.getD rel.toNat rel0)).length : Int))
 then (bif KSn.oki Z [AV.c (C.d (Aa (2) setC set0 (SRel.sets (c.rels.getD rel.toNat rel0)))), AV.c (C.fn (47) [] [Rf.ptr (0) (0)])] [(0, Blk.cells (List.map C.d (pubC ((SRel.pubs
 (c.rels.getD rel.toNat rel0)).getD i27.toNat pub0))) (122))] then (bif decide (0 <= KSn.ix Z [AV.c (C.d (Aa (2) setC set0 (SRel.sets (c.rels.getD rel.toNat rel0)))), AV.c (C.fn (47)
 [] [Rf.ptr (0) (0)])] [(0, Blk.cells (List.map C.d (pubC ((SRel.pubs (c.rels.getD rel.toNat rel0)).getD i27.toNat pub0))) (122))]) && decide (KSn.ix Z [AV.c (C.d (Aa (2) setC set0
 (SRel.sets (c.rels.getD rel.toNat rel0)))), AV.c (C.fn ((47 : Nat)) [] [Rf.ptr (0) (0)])] [(0, Blk.cells (List.map C.d (pubC ((SRel.pubs (c.rels.getD rel.toNat rel0)).getD
 i27.toNat pub0))) (122))] < (↑(SRel.sets (c.rels.getD rel.toNat rel0)).length : Int)) then Ni Z c mp np fp nd fd rel g m g l1 n3 f3 n4 f4 n8 f8 0 (fun x => []) (KSn.ix Z [AV.c (C.d
 (Aa (2) setC set0 (SRel.sets (c.rels.getD rel.toNat rel0)))), AV.c (C.fn (47) [] [Rf.ptr (0) (0)])] [(0, Blk.cells (List.map C.d (pubC ((SRel.pubs (c.rels.getD rel.toNat
 rel0)).getD i27.toNat pub0))) (122))]) i27 ((↑(SSet.sigs ((SRel.sets (c.rels.getD rel.toNat rel0)).getD (Int.toNat (KSn.ix Z [AV.c (C.d (Aa (2) setC set0 (SRel.sets (c.rels.getD
 rel.toNat rel0)))), AV.c (C.fn (47) [] [Rf.ptr (0) (0)])] [(0, Blk.cells (List.map C.d (pubC ((SRel.pubs (c.rels.getD rel.toNat rel0)).getD i27.toNat pub0))) (122))]))
 set0)).length : Int)) 0 (KSn.ix Z [AV.c (C.d (Aa (2) setC set0 (SRel.sets (c.rels.getD rel.toNat rel0)))), AV.c (C.fn (47) [] [Rf.ptr (0) (0)])] [(0, Blk.cells (List.map C.d (pubC
 ((SRel.pubs (c.rels.getD rel.toNat rel0)).getD i27.toNat pub0))) (122))]) (SPub.fst (KSn.pb Z [AV.c (C.d (Aa (2) setC set0 (SRel.sets (c.rels.getD rel.toNat rel0)))), AV.c (C.fn
 (47) [] [Rf.ptr (0) (0)])] [(0, Blk.cells (List.map C.d (pubC ((SRel.pubs (c.rels.getD rel.toNat rel0)).getD i27.toNat pub0))) (122))])) (SPub.max (KSn.pb Z [AV.c (C.d (Aa (2) setC
 set0 (SRel.sets (c.rels.getD rel.toNat rel0)))), AV.c (C.fn (47) [] [Rf.ptr (0) (0)])] [(0, Blk.cells (List.map C.d (pubC ((SRel.pubs (c.rels.getD rel.toNat rel0)).getD i27.toNat
 pub0))) (122))])) else none) else none) else none) else some (T.leaf (AV.agg [C.d (Aa (1) busC e0 (KSn.ou Z [gA (relC (c.rels.getD rel.toNat rel0))])), C.row (5)
 (1) n8, C.d (.v (.slice none 0 0))], [(0, Blk.cells [C.d (.v (.string (SSta.name c.sta))), C.d (Aa (1) busC e0 (SSta.buses c.sta)), C.d (Aa (5) As Af (SSta.lines c.sta)), C.d (Aa
 (6) Ar src0 (SSta.srcs c.sta)), C.d (Aa (12) bayC bay0 (SSta.bays c.sta)), C.d (Aa (53) relC rel0 c.rels), C.mp (1), C.row (4) (5) n4, C.row (3) (3) n3] (81)), (1, Blk.map (4) l1),
 (2, Blk.dead), (3, Blk.row n3 f3 (3) (51)), (4, Blk.row n4 f4 (5) (70)), (5, Blk.row n8 f8 (1) (3))]))) := by kernel_rfl
theorem Vb (Z : KSn) (c : SCfg) (mp : MV) (np : Nat) (fp : RD) (nd : Nat) (fd : RD) (rel : Int) (g mo m : Nat) (l1 : MV) (n3 : Nat) (f3 : RD) (n4 : Nat) (f4 : RD) (n8 : Nat) (f8 : RD) (n10 : Nat) (f10 : RD) (i9 : Int) (i27 : Int) (i48 : Int) (i49 : Int) (x9 : Int) (x9_2 : Int) (x9_3 : Int) : Ni Z c mp np fp nd fd rel g mo (m + 1) l1 n3 f3 n4 f4 n8 f8 n10 f10 i9 i27 i48 i49 x9 x9_2 x9_3 =
 (bif decide (i49 < i48) then (bif decide (0 <= i49) && decide (i49 < (↑(SSet.sigs ((SRel.sets (c.rels.getD rel.toNat rel0)).getD (Int.toNat (KSn.ix Z [AV.c (C.d (Aa (2) setC set0
 (SRel.sets (c.rels.getD rel.toNat rel0)))), AV.c (C.fn (47) [] [Rf.ptr (0) ((0 : Nat))])] [(0, Blk.cells (List.map C.d (pubC ((SRel.pubs (c.rels.getD rel.toNat rel0)).getD
 i27.toNat pub0))) (122))])) set0)).length : Int)) then (bif KSn.okx Z [AV.c (C.d (Aa (1) busC e0 (KSn.ou Z [gA (relC (c.rels.getD rel.toNat rel0))]))), AV.c (C.d
 (D.v (Value.string ((SSet.sigs ((SRel.sets (c.rels.getD rel.toNat rel0)).getD (Int.toNat (KSn.ix Z [AV.c (C.d (Aa (2) setC set0 (SRel.sets (c.rels.getD rel.toNat rel0)))), AV.c
 (C.fn (47) [] [Rf.ptr (0) (0)])] [(0, Blk.cells (List.map C.d (pubC ((SRel.pubs (c.rels.getD rel.toNat rel0)).getD i27.toNat pub0))) (122))])) set0)).getD i49.toNat e0))))] then
 (bif decide ((n10 + 1) * 8 <= (140737488355328 : Nat)) && decide (n10 + 1 <= 9223372036854775807) then Ni Z c mp np fp nd fd rel g mo m l1 n3 f3 n4 f4 n8 f8 (n10 + 1) (appF n10 f10
 (Au [iD (KSn.sx Z [AV.c (C.d (Aa (1) busC e0 (KSn.ou Z [gA (relC (c.rels.getD rel.toNat rel0))]))), AV.c (C.d (D.v (Value.string
 ((SSet.sigs ((SRel.sets (c.rels.getD rel.toNat rel0)).getD (Int.toNat (KSn.ix Z [AV.c (C.d (Aa (2) setC set0 (SRel.sets (c.rels.getD rel.toNat rel0)))), AV.c (C.fn (47) [] [Rf.ptr
 (0) (0)])] [(0, Blk.cells (List.map C.d (pubC ((SRel.pubs (c.rels.getD rel.toNat rel0)).getD i27.toNat pub0))) (122))])) set0)).getD i49.toNat e0))))])] (0 + 1))) i9 i27 i48
 (IntKind.wrap IntKind.i64 (i49 + 1)) x9 x9_2 x9_3 else none) else none) else none) else (bif decide ((n8 + 1) * 8 <= 140737488355328) && decide (n8 + 1 <= 9223372036854775807) then
 (bif decide ((n4 + 1) * 56 <= 140737488355328) && decide (n4 + 1 <= 9223372036854775807) then Ee Z c mp np fp nd fd rel g mo ((Value.agg #[Value.int IntKind.i64 rel, Value.int
 IntKind.i64 i9], Value.int IntKind.i64 (↑(dlen l1) : Int)) :: l1) n3 f3 (n4 + 1) (appF n4 f4 (Au [iD rel, iD x9, iD x9_2, D.v (.int .i64
 x9_3), D.sl 1 n10 f10] (4 + (1 : Nat)))) (n8 + 1) (appF n8 f8 (Au [iD (↑(dlen l1) : Int)] (0 + 1))) (IntKind.wrap .i64 (i27 + 1)) else none) else none)) := by kernel_rfl
def Sx : Ann := A4 [(4, ⟨[6, 0, 1, 5, 25, 4, 26, 27], [(6, 1, 1, 3), (0, 7, 5, 70)]⟩), (9, ⟨[10, 6, 47, 0, 1, 5, 25, 4, 26, 27, 9, 48, 49], [(10, 4, 1, 3)]⟩)]
def Acq (Z : KSn) (c : SCfg) (np : Nat) (fp : RD) (nd : Nat) (fd : RD) (rel : Int) (g m : Nat) (n1 : Nat) (f1 : RD) (n2 : Nat) (f2 : RD) (n6 : Nat) (f6 : RD) (i27 : Int) := LK prog (oSn Z) Sx (List.length (α := Nat × Blk) (HKA c np fp nd fd)) g f21 4 m ⟨frm [(0, .c (.ptr 0 0)), (1, iA rel), (4, .c (.ptr 3 0)), (5, .c (.ptr 4 0)), (6, .c (.ptr 5 0)), (25, .c (.d (Aa 3 pubC pub0 (SRel.pubs (List.getD (SCfg.rels c) (Int.toNat rel) rel0))))), (26, iA (↑(List.length (SRel.pubs (List.getD (SCfg.rels c) (Int.toNat rel) rel0))) : Int)), (27, iA i27)] 0 f21.ntmps, [(0, Blk.cells [.d (.v (.string (SSta.name (SCfg.sta c)))), C.d (Aa 1 busC e0 (SSta.buses (SCfg.sta c))), C.d (Aa 5 As Af (SSta.lines (SCfg.sta c))), C.d (Aa 6 Ar src0 (SSta.srcs (SCfg.sta c))), C.d (Aa 12 bayC bay0 (SSta.bays (SCfg.sta c))), C.d (Aa 53 relC rel0 (SCfg.rels c)), C.d (D.v (Value.map none)), C.row 1 5 n1, C.row 2 3 n2] 81), (1, Blk.row n1 f1 5 70), (2, Blk.row n2 f2 3 51), (3, Blk.cells [.d (.v (.slice none 0 0)), .d (.v (.slice none 0 0)), .d (.v (.slice none 0 0))] 51), (4, Blk.cells (List.map C.d (relC (List.getD (SCfg.rels c) (Int.toNat rel) rel0))) 64), (5, Blk.cells [C.d (Aa 1 busC e0 (KSn.ou Z [gA (relC (List.getD (SCfg.rels c) (Int.toNat rel) rel0))])), C.row 6 1 n6, .d (.v (.slice none 0 0))] 51), (6, Blk.row n6 f6 1 3)], 7⟩
def S5 (Z : KSn) (c : SCfg) (np : Nat) (fp : RD) (nd : Nat) (fd : RD) (rel : Int) (g mo m : Nat) (n1 : Nat) (f1 : RD) (n2 : Nat) (f2 : RD) (n6 : Nat) (f6 : RD) (n8 : Nat) (f8 : RD) (i9 : Int) (i27 : Int) (i48 : Int) (i49 : Int) (x7 : Int) (x7_2 : Int) (x7_3 : Int) := LK2 prog (oSn Z) Sx (List.length (α := Nat × Blk) (HKA c np fp nd fd)) g f21 4 mo 9 m ⟨frm [(0, .c (.ptr 0 0)), (1, iA rel), (4, .c (.ptr 3 0)), (5, .c (.ptr 4 0)), (6, .c (.ptr 5 0)), (9, iA i9), (10, .c (.ptr 7 0)), (25, .c (.d (Aa 3 pubC pub0 (SRel.pubs (List.getD (SCfg.rels c) (Int.toNat rel) rel0))))), (26, iA (↑(List.length (SRel.pubs (List.getD (SCfg.rels c) (Int.toNat rel) rel0))) : Int)), (27, iA i27), (47, .c (.d (Aa 1 busC e0 (SSet.sigs (List.getD (SRel.sets (List.getD (SCfg.rels c) (Int.toNat rel) rel0)) (Int.toNat (KSn.ix Z [.c (.d (Aa 2 setC set0 (SRel.sets (List.getD (SCfg.rels c) (Int.toNat rel) rel0)))), .c (.fn 47 [] [Rf.ptr 0 0])] [(0, Blk.cells (List.map C.d (pubC (List.getD (SRel.pubs (List.getD (SCfg.rels c) (Int.toNat rel) rel0)) (Int.toNat i27) pub0))) 122)])) set0))))), (48, iA i48), (49, iA i49)] 0 f21.ntmps, [(0, Blk.cells [.d (.v (.string (SSta.name (SCfg.sta c)))), C.d (Aa 1 busC e0 (SSta.buses (SCfg.sta c))), C.d (Aa 5 As Af (SSta.lines (SCfg.sta c))), C.d (Aa 6 Ar src0 (SSta.srcs (SCfg.sta c))), C.d (Aa 12 bayC bay0 (SSta.bays (SCfg.sta c))), C.d (Aa 53 relC rel0 (SCfg.rels c)), C.d (D.v (Value.map none)), C.row 1 5 n1, C.row 2 3 n2] 81), (1, Blk.row n1 f1 5 70), (2, Blk.row n2 f2 3 51), (3, Blk.cells [.d (.v (.slice none 0 0)), .d (.v (.slice none 0 0)), .d (.v (.slice none 0 0))] 51), (4, Blk.cells (List.map C.d (relC (List.getD (SCfg.rels c) (Int.toNat rel) rel0))) 64), (5, Blk.cells [C.d (Aa 1 busC e0 (KSn.ou Z [gA (relC (List.getD (SCfg.rels c) (Int.toNat rel) rel0))])), C.row 6 1 n6, .d (.v (.slice none 0 0))] 51), (6, Blk.row n6 f6 1 3), (7, Blk.cells [.d (iD rel), .d (iD x7), .d (iD x7_2), .d (iD x7_3), C.row 8 1 n8] 70), (8, Blk.row n8 f8 1 3)], 9⟩
def Ef (Z : KSn) (c : SCfg) (np : Nat) (fp : RD) (nd : Nat) (fd : RD) (rel : Int) (g m : Nat) (n2 : Nat) (f2 : RD) (l3 : MV) (n4 : Nat) (f4 : RD) (n8 : Nat) (f8 : RD) (i27 : Int) := LK prog (oSn Z) Sx (List.length (α := Nat × Blk) (HKA c np fp nd fd)) g f21 4 m ⟨frm [(0, .c (.ptr 0 0)), (1, iA rel), (4, .c (.ptr 5 0)), (5, .c (.ptr 6 0)), (6, .c (.ptr 7 0)), (25, .c (.d (Aa 3 pubC pub0 (SRel.pubs (List.getD (SCfg.rels c) (Int.toNat rel) rel0))))), (26, iA (↑(List.length (SRel.pubs (List.getD (SCfg.rels c) (Int.toNat rel) rel0))) : Int)), (27, iA i27)] 0 f21.ntmps, [(0, Blk.cells [.d (.v (.string (SSta.name (SCfg.sta c)))), C.d (Aa 1 busC e0 (SSta.buses (SCfg.sta c))), C.d (Aa 5 As Af (SSta.lines (SCfg.sta c))), C.d (Aa 6 Ar src0 (SSta.srcs (SCfg.sta c))), C.d (Aa 12 bayC bay0 (SSta.bays (SCfg.sta c))), C.d (Aa 53 relC rel0 (SCfg.rels c)), C.mp 3, C.row 4 5 n4, C.row 2 3 n2] 81), (1, Blk.dead), (2, Blk.row n2 f2 3 51), (3, Blk.map 4 l3), (4, Blk.row n4 f4 5 70), (5, Blk.cells [.d (.v (.slice none 0 0)), .d (.v (.slice none 0 0)), .d (.v (.slice none 0 0))] 51), (6, Blk.cells (List.map C.d (relC (List.getD (SCfg.rels c) (Int.toNat rel) rel0))) 64), (7, Blk.cells [C.d (Aa 1 busC e0 (KSn.ou Z [gA (relC (List.getD (SCfg.rels c) (Int.toNat rel) rel0))])), C.row 8 1 n8, .d (.v (.slice none 0 0))] 51), (8, Blk.row n8 f8 1 3)], 9⟩
def Nj (Z : KSn) (c : SCfg) (np : Nat) (fp : RD) (nd : Nat) (fd : RD) (rel : Int) (g mo m : Nat) (n2 : Nat) (f2 : RD) (l3 : MV) (n4 : Nat) (f4 : RD) (n8 : Nat) (f8 : RD) (n10 : Nat) (f10 : RD) (i9 : Int) (i27 : Int) (i48 : Int) (i49 : Int) (x9 : Int) (x9_2 : Int) (x9_3 : Int) := LK2 prog (oSn Z) Sx (List.length (α := Nat × Blk) (HKA c np fp nd fd)) g f21 4 mo 9 m ⟨frm [(0, .c (.ptr 0 0)), (1, iA rel), (4, .c (.ptr 5 0)), (5, .c (.ptr 6 0)), (6, .c (.ptr 7 0)), (9, iA i9), (10, .c (.ptr 9 0)), (25, .c (.d (Aa 3 pubC pub0 (SRel.pubs (List.getD (SCfg.rels c) (Int.toNat rel) rel0))))), (26, iA (↑(List.length (SRel.pubs (List.getD (SCfg.rels c) (Int.toNat rel) rel0))) : Int)), (27, iA i27), (47, .c (.d (Aa 1 busC e0 (SSet.sigs (List.getD (SRel.sets (List.getD (SCfg.rels c) (Int.toNat rel) rel0)) (Int.toNat (KSn.ix Z [.c (.d (Aa 2 setC set0 (SRel.sets (List.getD (SCfg.rels c) (Int.toNat rel) rel0)))), .c (.fn 47 [] [Rf.ptr 0 0])] [(0, Blk.cells (List.map C.d (pubC (List.getD (SRel.pubs (List.getD (SCfg.rels c) (Int.toNat rel) rel0)) (Int.toNat i27) pub0))) 122)])) set0))))), (48, iA i48), (49, iA i49)] 0 f21.ntmps, [(0, Blk.cells [.d (.v (.string (SSta.name (SCfg.sta c)))), C.d (Aa 1 busC e0 (SSta.buses (SCfg.sta c))), C.d (Aa 5 As Af (SSta.lines (SCfg.sta c))), C.d (Aa 6 Ar src0 (SSta.srcs (SCfg.sta c))), C.d (Aa 12 bayC bay0 (SSta.bays (SCfg.sta c))), C.d (Aa 53 relC rel0 (SCfg.rels c)), C.mp 3, C.row 4 5 n4, C.row 2 3 n2] 81), (1, Blk.dead), (2, Blk.row n2 f2 3 51), (3, Blk.map 4 l3), (4, Blk.row n4 f4 5 70), (5, Blk.cells [.d (.v (.slice none 0 0)), .d (.v (.slice none 0 0)), .d (.v (.slice none 0 0))] 51), (6, Blk.cells (List.map C.d (relC (List.getD (SCfg.rels c) (Int.toNat rel) rel0))) 64), (7, Blk.cells [C.d (Aa 1 busC e0 (KSn.ou Z [gA (relC (List.getD (SCfg.rels c) (Int.toNat rel) rel0))])), C.row 8 1 n8, .d (.v (.slice none 0 0))] 51), (8, Blk.row n8 f8 1 3), (9, Blk.cells [.d (iD rel), .d (iD x9), .d (iD x9_2), .d (iD x9_3), C.row 10 1 n10] 70), (10, Blk.row n10 f10 1 3)], 11⟩
theorem bsna : f21.body = some (Ad f21) := by kernel_rfl
theorem Akl (Z : KSn) (c : SCfg) (np : Nat) (fp : RD) (nd : Nat) (fd : RD) (rel : Int) (g : Nat) : Al prog (oSn Z) Sx g f21 (Ad f21) [.c (.ptr 0 0), vI rel] (HKA c np fp nd fd) =
 (bif decide (0 <= rel) && decide (rel < (↑c.rels.length : Int)) then (bif KSn.oko Z [gA (relC (c.rels.getD rel.toNat rel0))] then Acq Z c np fp nd fd rel g g np
 fp nd fd 0 (fun x => []) 0 else none) else none) := by kernel_rfl
theorem Y0 (Z : KSn) (c : SCfg) (np : Nat) (fp : RD) (nd : Nat) (fd : RD) (rel : Int) (g m : Nat) (n1 : Nat) (f1 : RD) (n2 : Nat) (f2 : RD) (n6 : Nat) (f6 : RD) (i27 : Int) : Acq Z c np fp nd fd rel g (m + 1) n1 f1 n2 f2 n6 f6 i27 =
 (bif decide (i27 < (↑(SRel.pubs (c.rels.getD rel.toNat rel0)).length : Int)) then (bif decide (0 <= i27) && decide (i27 < (↑(SRel.pubs (c.rels.getD rel.toNat rel0)).length : Int))
 then (bif KSn.oki Z [AV.c (C.d (Aa (2) setC set0 (SRel.sets (c.rels.getD rel.toNat rel0)))), AV.c (C.fn (47) [] [Rf.ptr (0) (0)])] [(0, Blk.cells (List.map C.d (pubC ((SRel.pubs
 (c.rels.getD rel.toNat rel0)).getD i27.toNat pub0))) (122))] then (bif decide (0 <= KSn.ix Z [AV.c (C.d (Aa (2) setC set0 (SRel.sets (c.rels.getD rel.toNat rel0)))), AV.c (C.fn (47)
 [] [Rf.ptr (0) (0)])] [(0, Blk.cells (List.map C.d (pubC ((SRel.pubs (c.rels.getD rel.toNat rel0)).getD i27.toNat pub0))) (122))]) && decide (KSn.ix Z [AV.c (C.d (Aa (2) setC set0
 (SRel.sets (c.rels.getD rel.toNat rel0)))), AV.c (C.fn ((47 : Nat)) [] [Rf.ptr (0) (0)])] [(0, Blk.cells (List.map C.d (pubC ((SRel.pubs (c.rels.getD rel.toNat rel0)).getD
 i27.toNat pub0))) (122))] < (↑(SRel.sets (c.rels.getD rel.toNat rel0)).length : Int)) then S5 Z c np fp nd fd rel g m g n1 f1 n2 f2 n6 f6 0 (fun x => []) (KSn.ix Z [AV.c (C.d (Aa
 (2) setC set0 (SRel.sets (c.rels.getD rel.toNat rel0)))), AV.c (C.fn (47) [] [Rf.ptr (0) (0)])] [((0 : Nat), Blk.cells (List.map C.d (pubC ((SRel.pubs (c.rels.getD rel.toNat
 rel0)).getD i27.toNat pub0))) (122))]) i27 ((↑(SSet.sigs ((SRel.sets (c.rels.getD rel.toNat rel0)).getD (Int.toNat (KSn.ix Z [AV.c (C.d (Aa (2) setC set0 (SRel.sets (c.rels.getD
 rel.toNat rel0)))), AV.c (C.fn (47) [] [Rf.ptr (0) (0)])] [(0, Blk.cells (List.map C.d (pubC ((SRel.pubs (c.rels.getD rel.toNat rel0)).getD i27.toNat pub0))) (122))]))
 set0)).length : Int)) 0 (KSn.ix Z [AV.c (C.d (Aa (2) setC set0 (SRel.sets (c.rels.getD rel.toNat rel0)))), AV.c (C.fn (47) [] [Rf.ptr (0) (0)])] [(0, Blk.cells (List.map C.d (pubC
 ((SRel.pubs (c.rels.getD rel.toNat rel0)).getD i27.toNat pub0))) (122))]) (SPub.fst (KSn.pb Z [AV.c (C.d (Aa (2) setC set0 (SRel.sets (c.rels.getD rel.toNat rel0)))), AV.c (C.fn
 (47) [] [Rf.ptr (0) (0)])] [(0, Blk.cells (List.map C.d (pubC ((SRel.pubs (c.rels.getD rel.toNat rel0)).getD i27.toNat pub0))) (122))])) (SPub.max (KSn.pb Z [AV.c (C.d (Aa (2) setC
 set0 (SRel.sets (c.rels.getD rel.toNat rel0)))), AV.c (C.fn (47) [] [Rf.ptr (0) (0)])] [(0, Blk.cells (List.map C.d (pubC ((SRel.pubs (c.rels.getD rel.toNat rel0)).getD i27.toNat
 pub0))) ((122 : Nat)))])) else none) else none) else none) else some (T.leaf (AV.agg [C.d (Aa (1) busC e0 (KSn.ou Z [gA (relC (c.rels.getD rel.toNat rel0))])),
 C.row (3) (1) n6, C.d (.v (.slice none 0 0))], [(0, Blk.cells [C.d (.v (.string (SSta.name c.sta))), C.d (Aa (1) busC e0 (SSta.buses c.sta)), C.d (Aa (5) As Af (SSta.lines c.sta)),
 C.d (Aa (6) Ar src0 (SSta.srcs c.sta)), C.d (Aa (12) bayC bay0 (SSta.bays c.sta)), C.d (Aa (53) relC rel0 c.rels), C.d (D.v (Value.map none)), C.row (1) (5) n1, C.row (2) (3) n2]
 (81)), (1, Blk.row n1 f1 (5) (70)), (2, Blk.row n2 f2 (3) (51)), (3, Blk.row n6 f6 ((1 : Nat)) (3))]))) := by kernel_rfl
theorem Yz (Z : KSn) (c : SCfg) (np : Nat) (fp : RD) (nd : Nat) (fd : RD) (rel : Int) (g mo m : Nat) (n1 : Nat) (f1 : RD) (n2 : Nat) (f2 : RD) (n6 : Nat) (f6 : RD) (n8 : Nat) (f8 : RD) (i9 : Int) (i27 : Int) (i48 : Int) (i49 : Int) (x7 : Int) (x7_2 : Int) (x7_3 : Int) : S5 Z c np fp nd fd rel g mo (m + 1) n1 f1 n2 f2 n6 f6 n8 f8 i9 i27 i48 i49 x7 x7_2 x7_3 =
 (bif decide (i49 < i48) then (bif decide (0 <= i49) && decide (i49 < (↑(SSet.sigs ((SRel.sets (c.rels.getD rel.toNat rel0)).getD (Int.toNat (KSn.ix Z [AV.c (C.d (Aa (2) setC set0
 (SRel.sets (c.rels.getD rel.toNat rel0)))), AV.c (C.fn (47) [] [Rf.ptr (0) ((0 : Nat))])] [(0, Blk.cells (List.map C.d (pubC ((SRel.pubs (c.rels.getD rel.toNat rel0)).getD
 i27.toNat pub0))) (122))])) set0)).length : Int)) then (bif KSn.okx Z [AV.c (C.d (Aa (1) busC e0 (KSn.ou Z [gA (relC (c.rels.getD rel.toNat rel0))]))), AV.c (C.d
 (D.v (Value.string ((SSet.sigs ((SRel.sets (c.rels.getD rel.toNat rel0)).getD (Int.toNat (KSn.ix Z [AV.c (C.d (Aa (2) setC set0 (SRel.sets (c.rels.getD rel.toNat rel0)))), AV.c
 (C.fn (47) [] [Rf.ptr (0) (0)])] [(0, Blk.cells (List.map C.d (pubC ((SRel.pubs (c.rels.getD rel.toNat rel0)).getD i27.toNat pub0))) (122))])) set0)).getD i49.toNat e0))))] then
 (bif decide ((n8 + 1) * 8 <= (140737488355328 : Nat)) && decide (n8 + 1 <= 9223372036854775807) then S5 Z c np fp nd fd rel g mo m n1 f1 n2 f2 n6 f6 (n8 + 1) (appF n8 f8 (Au [D.v
 (Value.int IntKind.i64 (KSn.sx Z [AV.c (C.d (Aa (1) busC e0 (KSn.ou Z [gA (relC (c.rels.getD rel.toNat rel0))]))), AV.c (C.d (D.v (Value.string ((SSet.sigs
 ((SRel.sets (c.rels.getD rel.toNat rel0)).getD (Int.toNat (KSn.ix Z [AV.c (C.d (Aa (2) setC set0 (SRel.sets (c.rels.getD rel.toNat rel0)))), AV.c (C.fn (47) [] [Rf.ptr (0) (0)])]
 [(0, Blk.cells (List.map C.d (pubC ((SRel.pubs (c.rels.getD rel.toNat rel0)).getD i27.toNat pub0))) (122))])) set0)).getD i49.toNat e0))))]))] (0 + 1))) i9 i27 i48 (IntKind.wrap
 .i64 (i49 + 1)) x7 x7_2 x7_3 else none) else none) else none) else (bif decide ((n6 + 1) * 8 <= 140737488355328) && decide (n6 + 1 <= 9223372036854775807) then (bif decide ((n1 + 1)
 * 56 <= 140737488355328) && decide (n1 + 1 <= 9223372036854775807) then Ef Z c np fp nd fd rel g mo n2 f2 ([(Value.agg #[Value.int IntKind.i64 rel, Value.int IntKind.i64 i9],
 Value.int IntKind.i64 (↑(dlen []) : Int))]) (n1 + 1) (appF n1 f1 (Au [iD rel, iD x7, iD x7_2, iD x7_3, D.sl 1 n8 f8]
 (4 + 1))) (n6 + 1) (appF n6 f6 (Au [iD (↑(dlen []) : Int)] (0 + 1))) (IntKind.wrap .i64 (i27 + 1)) else none) else none)) := by kernel_rfl
theorem Ve (Z : KSn) (c : SCfg) (np : Nat) (fp : RD) (nd : Nat) (fd : RD) (rel : Int) (g m : Nat) (n2 : Nat) (f2 : RD) (l3 : MV) (n4 : Nat) (f4 : RD) (n8 : Nat) (f8 : RD) (i27 : Int) : Ef Z c np fp nd fd rel g (m + 1) n2 f2 l3 n4 f4 n8 f8 i27 =
 (bif decide (i27 < (↑(SRel.pubs (c.rels.getD rel.toNat rel0)).length : Int)) then (bif decide (0 <= i27) && decide (i27 < (↑(SRel.pubs (c.rels.getD rel.toNat rel0)).length : Int))
 then (bif KSn.oki Z [AV.c (C.d (Aa (2) setC set0 (SRel.sets (c.rels.getD rel.toNat rel0)))), AV.c (C.fn (47) [] [Rf.ptr (0) (0)])] [(0, Blk.cells (List.map C.d (pubC ((SRel.pubs
 (c.rels.getD rel.toNat rel0)).getD i27.toNat pub0))) (122))] then (bif decide (0 <= KSn.ix Z [AV.c (C.d (Aa (2) setC set0 (SRel.sets (c.rels.getD rel.toNat rel0)))), AV.c (C.fn (47)
 [] [Rf.ptr (0) (0)])] [(0, Blk.cells (List.map C.d (pubC ((SRel.pubs (c.rels.getD rel.toNat rel0)).getD i27.toNat pub0))) (122))]) && decide (KSn.ix Z [AV.c (C.d (Aa (2) setC set0
 (SRel.sets (c.rels.getD rel.toNat rel0)))), AV.c (C.fn ((47 : Nat)) [] [Rf.ptr (0) (0)])] [(0, Blk.cells (List.map C.d (pubC ((SRel.pubs (c.rels.getD rel.toNat rel0)).getD
 i27.toNat pub0))) (122))] < (↑(SRel.sets (c.rels.getD rel.toNat rel0)).length : Int)) then Nj Z c np fp nd fd rel g m g n2 f2 l3 n4 f4 n8 f8 0 (fun x => []) (KSn.ix Z [AV.c (C.d
 (Aa (2) setC set0 (SRel.sets (c.rels.getD rel.toNat rel0)))), AV.c (C.fn (47) [] [Rf.ptr (0) (0)])] [(0, Blk.cells (List.map C.d (pubC ((SRel.pubs (c.rels.getD rel.toNat
 rel0)).getD i27.toNat pub0))) (122))]) i27 ((↑(SSet.sigs ((SRel.sets (c.rels.getD rel.toNat rel0)).getD (Int.toNat (KSn.ix Z [AV.c (C.d (Aa (2) setC set0 (SRel.sets (c.rels.getD
 rel.toNat rel0)))), AV.c (C.fn (47) [] [Rf.ptr (0) (0)])] [(0, Blk.cells (List.map C.d (pubC ((SRel.pubs (c.rels.getD rel.toNat rel0)).getD i27.toNat pub0))) (122))]))
 set0)).length : Int)) 0 (KSn.ix Z [AV.c (C.d (Aa (2) setC set0 (SRel.sets (c.rels.getD rel.toNat rel0)))), AV.c (C.fn (47) [] [Rf.ptr (0) (0)])] [(0, Blk.cells (List.map C.d (pubC
 ((SRel.pubs (c.rels.getD rel.toNat rel0)).getD i27.toNat pub0))) (122))]) (SPub.fst (KSn.pb Z [AV.c (C.d (Aa (2) setC set0 (SRel.sets (c.rels.getD rel.toNat rel0)))), AV.c (C.fn
 (47) [] [Rf.ptr (0) (0)])] [(0, Blk.cells (List.map C.d (pubC ((SRel.pubs (c.rels.getD rel.toNat rel0)).getD i27.toNat pub0))) (122))])) (SPub.max (KSn.pb Z [AV.c (C.d (Aa (2) setC
 set0 (SRel.sets (c.rels.getD rel.toNat rel0)))), AV.c (C.fn (47) [] [Rf.ptr (0) (0)])] [(0, Blk.cells (List.map C.d (pubC ((SRel.pubs (c.rels.getD rel.toNat rel0)).getD i27.toNat
 pub0))) (122))])) else none) else none) else none) else some (T.leaf (AV.agg [C.d (Aa (1) busC e0 (KSn.ou Z [gA (relC (c.rels.getD rel.toNat rel0))])), C.row (5)
 (1) n8, C.d (.v (.slice none 0 0))], [(0, Blk.cells [C.d (.v (.string (SSta.name c.sta))), C.d (Aa (1) busC e0 (SSta.buses c.sta)), C.d (Aa (5) As Af (SSta.lines c.sta)), C.d (Aa
 (6) Ar src0 (SSta.srcs c.sta)), C.d (Aa (12) bayC bay0 (SSta.bays c.sta)), C.d (Aa (53) relC rel0 c.rels), C.mp (3), C.row (4) (5) n4, C.row (2) (3) n2] (81)), (1, Blk.dead), (2,
 Blk.row n2 f2 (3) (51)), (3, Blk.map (4) l3), (4, Blk.row n4 f4 (5) (70)), (5, Blk.row n8 f8 (1) (3))]))) := by kernel_rfl
theorem Vd (Z : KSn) (c : SCfg) (np : Nat) (fp : RD) (nd : Nat) (fd : RD) (rel : Int) (g mo m : Nat) (n2 : Nat) (f2 : RD) (l3 : MV) (n4 : Nat) (f4 : RD) (n8 : Nat) (f8 : RD) (n10 : Nat) (f10 : RD) (i9 : Int) (i27 : Int) (i48 : Int) (i49 : Int) (x9 : Int) (x9_2 : Int) (x9_3 : Int) : Nj Z c np fp nd fd rel g mo (m + 1) n2 f2 l3 n4 f4 n8 f8 n10 f10 i9 i27 i48 i49 x9 x9_2 x9_3 =
 (bif decide (i49 < i48) then (bif decide (0 <= i49) && decide (i49 < (↑(SSet.sigs ((SRel.sets (c.rels.getD rel.toNat rel0)).getD (Int.toNat (KSn.ix Z [AV.c (C.d (Aa (2) setC set0
 (SRel.sets (c.rels.getD rel.toNat rel0)))), AV.c (C.fn (47) [] [Rf.ptr (0) ((0 : Nat))])] [(0, Blk.cells (List.map C.d (pubC ((SRel.pubs (c.rels.getD rel.toNat rel0)).getD
 i27.toNat pub0))) (122))])) set0)).length : Int)) then (bif KSn.okx Z [AV.c (C.d (Aa (1) busC e0 (KSn.ou Z [gA (relC (c.rels.getD rel.toNat rel0))]))), AV.c (C.d
 (D.v (Value.string ((SSet.sigs ((SRel.sets (c.rels.getD rel.toNat rel0)).getD (Int.toNat (KSn.ix Z [AV.c (C.d (Aa (2) setC set0 (SRel.sets (c.rels.getD rel.toNat rel0)))), AV.c
 (C.fn (47) [] [Rf.ptr (0) (0)])] [(0, Blk.cells (List.map C.d (pubC ((SRel.pubs (c.rels.getD rel.toNat rel0)).getD i27.toNat pub0))) (122))])) set0)).getD i49.toNat e0))))] then
 (bif decide ((n10 + 1) * 8 <= (140737488355328 : Nat)) && decide (n10 + 1 <= 9223372036854775807) then Nj Z c np fp nd fd rel g mo m n2 f2 l3 n4 f4 n8 f8 (n10 + 1) (appF n10 f10 (Au
 [iD (KSn.sx Z [AV.c (C.d (Aa (1) busC e0 (KSn.ou Z [gA (relC (c.rels.getD rel.toNat rel0))]))), AV.c (C.d (D.v (Value.string ((SSet.sigs
 ((SRel.sets (c.rels.getD rel.toNat rel0)).getD (Int.toNat (KSn.ix Z [AV.c (C.d (Aa (2) setC set0 (SRel.sets (c.rels.getD rel.toNat rel0)))), AV.c (C.fn (47) [] [Rf.ptr (0) (0)])]
 [(0, Blk.cells (List.map C.d (pubC ((SRel.pubs (c.rels.getD rel.toNat rel0)).getD i27.toNat pub0))) (122))])) set0)).getD i49.toNat e0))))])] (0 + 1))) i9 i27 i48 (IntKind.wrap
 .i64 (i49 + 1)) x9 x9_2 x9_3 else none) else none) else none) else (bif decide ((n8 + 1) * 8 <= 140737488355328) && decide (n8 + 1 <= 9223372036854775807) then (bif decide ((n4 + 1)
 * 56 <= 140737488355328) && decide (n4 + 1 <= 9223372036854775807) then Ef Z c np fp nd fd rel g mo n2 f2 ((Value.agg #[Value.int IntKind.i64 rel, Value.int IntKind.i64 i9],
 Value.int IntKind.i64 (↑(dlen l3) : Int)) :: l3) (n4 + 1) (appF n4 f4 (Au [iD rel, iD x9, iD x9_2, iD x9_3, D.sl 1
 n10 f10] (4 + 1))) (n8 + 1) (appF n8 f8 (Au [iD (↑(dlen l3) : Int)] (0 + 1))) (IntKind.wrap .i64 (i27 + 1)) else none) else none)) := by kernel_rfl
end Go.Proofs.YtbpndheehcbldaaGreatDoor.tb
namespace Go.Proofs.YtbpndheehcbldaaGreatDoor.sg
open Go.RowKit Go.Eb Go.Proofs.YtbpndheehcbldaaGreatDoor.st
set_option maxRecDepth 100000
abbrev aPl (p : Plc) : AV := .tup [(true, [.d (dI p.rel), .d (dI p.set), .d (dI p.item)]), (false, [.d (dI p.err)])]
abbrev Aec (x : SSub) : AV := .agg ((subC x).map .d)
def HN (n : ByteArray) : Hp := [(0, .cells [.d (dS n)] 9)]
def HSb (x : SSub) : Hp := [(0, .cells ((subC x).map .d) 68)]
def Afx : Ann := A4 [(2, ⟨[0, 1, 7, 8], []⟩)]
def W9 (l : List SSet) (n : ByteArray) (g m : Nat) (i8 : Int) := LK prog (Orc.cons 212 (inl prog Orc.nil na 1 f212) Orc.nil) Afx (List.length (α := Nat × Blk) (HN n)) g f46 2 m ⟨frm [(0, .c (.d (Aa 2 setC set0 l))), (1, .c (.fn 212 [] [Rf.ptr 0 0])), (7, iA (↑(List.length l) : Int)), (8, iA i8)] 0 f46.ntmps, [(0, Blk.cells [.d (.v (.string n))] 9)], 1⟩
theorem bisx : f46.body = some (Ad f46) := by kernel_rfl
theorem AkG (l : List SSet) (n : ByteArray) (g : Nat) : Al prog (Orc.cons 212 (inl prog Orc.nil na 1 f212) Orc.nil) Afx g f46 (Ad f46) [.c (.d (J9 l)), .c (.fn 212 [] [.ptr 0 0])] (HN n) =
 W9 l n g g 0 := by kernel_rfl
theorem Age (l : List SSet) (n : ByteArray) (g m : Nat) (i8 : Int) : W9 l n g (m + 1) i8 =
 (bif decide (i8 < (↑l.length : Int)) then (bif decide (0 <= i8) && decide (i8 < (↑l.length : Int)) then (bif (SSet.name (l.getD i8.toNat set0)).toList == n.toList then some (T.leaf
 (AV.c (.d (iD i8)), [(0, Blk.cells [C.d (.v (.string n))] (9))])) else W9 l n g m (IntKind.wrap .i64 (i8 + 1))) else none) else some (T.leaf (AV.c (.d (.v (.int .i64
 (-1)))), [(0, Blk.cells [C.d (D.v (Value.string n))] (9))]))) := by kernel_rfl
def AfA : Ann := A4 [(2, ⟨[0, 1, 7, 8], []⟩)]
def Xc (l : List SPub) (x : SSub) (g m : Nat) (i8 : Int) := LK prog (Orc.cons 146 (inl prog Orc.nil na 1 f146) Orc.nil) AfA (List.length (α := Nat × Blk) (HSb x)) g f213 2 m ⟨frm [(0, .c (.d (Aa 3 pubC pub0 l))), (1, .c (.fn 146 [] [Rf.ptr 0 0])), (7, iA (↑(List.length l) : Int)), (8, iA i8)] 0 f213.ntmps, [(0, Blk.cells (List.map C.d (subC x)) 68)], 1⟩
theorem bipx : f213.body = some (Ad f213) := by kernel_rfl
theorem AkJ (l : List SPub) (x : SSub) (g : Nat) : Al prog (Orc.cons 146 (inl prog Orc.nil na 1 f146) Orc.nil) AfA g f213 (Ad f213) [.c (.d (T1 l)), .c (.fn 146 [] [.ptr 0 0])] (HSb x) =
 Xc l x g g 0 := by kernel_rfl
theorem Agh (l : List SPub) (x : SSub) (g m : Nat) (i8 : Int) : Xc l x g (m + 1) i8 =
 (bif decide (i8 < (↑l.length : Int)) then (bif decide (0 <= i8) && decide (i8 < (↑l.length : Int)) then (bif (SPub.set (l.getD i8.toNat pub0)).toList == x.set.toList then some
 (T.leaf (AV.c (.d (iD i8)), [(0, Blk.cells (List.map C.d (subC x)) (68))])) else Xc l x g m (IntKind.wrap .i64 (i8 + 1))) else none) else some (T.leaf (AV.c (.d (.v
 (.int .i64 (-1)))), [(0, Blk.cells (List.map C.d (subC x)) (68))]))) := by kernel_rfl
end Go.Proofs.YtbpndheehcbldaaGreatDoor.sg
namespace Go.Proofs.YtbpndheehcbldaaGreatDoor.tb
open Go.RowKit Go.Eb Go.Proofs.YtbpndheehcbldaaGreatDoor.st
set_option maxRecDepth 100000
def Afy : Ann := A4 [(2, ⟨[0, 1, 7, 8], []⟩)]
def Xa (l : List SSet) (p : SPub) (g m : Nat) (i8 : Int) := LK prog (Orc.cons 47 (inl prog Orc.nil na 1 f47) Orc.nil) Afy (List.length (α := Nat × Blk) (HP p)) g f46 2 m ⟨frm [(0, .c (.d (Aa 2 setC set0 l))), (1, .c (.fn 47 [] [Rf.ptr 0 0])), (7, iA (↑(List.length l) : Int)), (8, iA i8)] 0 f46.ntmps, [(0, Blk.cells (List.map C.d (pubC p)) 122)], 1⟩
theorem bisn : f46.body = some (Ad f46) := by kernel_rfl
theorem AkH (l : List SSet) (p : SPub) (g : Nat) : Al prog (Orc.cons 47 (inl prog Orc.nil na 1 f47) Orc.nil) Afy g f46 (Ad f46) [.c (.d (J9 l)), .c (.fn 47 [] [.ptr 0 0])] (HP p) =
 Xa l p g g 0 := by kernel_rfl
theorem Agf (l : List SSet) (p : SPub) (g m : Nat) (i8 : Int) : Xa l p g (m + 1) i8 =
 (bif decide (i8 < (↑l.length : Int)) then (bif decide (0 <= i8) && decide (i8 < (↑l.length : Int)) then (bif (SSet.name (l.getD i8.toNat set0)).toList == p.set.toList then some
 (T.leaf (AV.c (.d (iD i8)), [(0, Blk.cells (List.map C.d (pubC p)) (122))])) else Xa l p g m (IntKind.wrap .i64 (i8 + 1))) else none) else some (T.leaf (AV.c (.d (.v
 (.int .i64 (-1)))), [(0, Blk.cells (List.map C.d (pubC p)) (122))]))) := by kernel_rfl
def Afz : Ann := A4 [(2, ⟨[0, 1, 7, 8], []⟩)]
def Xb (l : List SRel) (x : SSub) (g m : Nat) (i8 : Int) := LK prog (Orc.cons 112 (inl prog Orc.nil na 1 f112) Orc.nil) Afz (List.length (α := Nat × Blk) (sg.HSb x)) g f111 2 m ⟨frm [(0, .c (.d (Aa 53 relC rel0 l))), (1, .c (.fn 112 [] [Rf.ptr 0 0])), (7, iA (↑(List.length l) : Int)), (8, iA i8)] 0 f111.ntmps, [(0, Blk.cells (List.map C.d (subC x)) 68)], 1⟩
theorem birx : f111.body = some (Ad f111) := by kernel_rfl
theorem AkI (l : List SRel) (x : SSub) (g : Nat) : Al prog (Orc.cons 112 (inl prog Orc.nil na 1 f112) Orc.nil) Afz g f111 (Ad f111) [.c (.d (Cq l)), .c (.fn 112 [] [.ptr 0 0])] (sg.HSb x) =
 Xb l x g g 0 := by kernel_rfl
theorem Agg (l : List SRel) (x : SSub) (g m : Nat) (i8 : Int) : Xb l x g (m + 1) i8 =
 (bif decide (i8 < (↑l.length : Int)) then (bif decide (0 <= i8) && decide (i8 < (↑l.length : Int)) then (bif (SRel.name (l.getD i8.toNat rel0)).toList == x.dev.toList then some
 (T.leaf (AV.c (.d (iD i8)), [(0, Blk.cells (List.map C.d (subC x)) (68))])) else Xb l x g m (IntKind.wrap .i64 (i8 + 1))) else none) else some (T.leaf (AV.c (.d (.v
 (.int .i64 (-1)))), [(0, Blk.cells (List.map C.d (subC x)) (68))]))) := by kernel_rfl
structure KFn where
 oki : List AV -> Hp -> Bool
 ix : List AV -> Hp -> Int
 sb : List AV -> Hp -> SSub
 okf : LB
 fi : List AV -> Plc
def oFn (Z : KFn) : Orc := Orc.cons 111 (ansM Z.oki (fun x H => vI (Z.ix x H)) fun x H => [(0, .cells ((subC (Z.sb x H)).map .d) 68)]) (Orc.cons 79 (ansG Z.okf fun x => sg.aPl (Z.fi x)) Orc.nil)
theorem evFn (Z : KFn) (c : SCfg) (of sub : Int) : Al prog (oFn Z) na 5 f50 (Ad f50) [aCfg c, vI of, vI sub] [] =
 (bif decide (of < 0) then some (T.leaf (AV.tup [(true, [C.d (iD 0), C.d (iD 0), C.d (iD 0)]), (false, [C.d (iD 1)])],
 [])) else (bif decide (of >= (↑c.rels.length : Int)) then some (T.leaf (AV.tup [(true, [C.d (iD 0), C.d (iD 0), C.d (iD 0)]), (false, [C.d (D.v
 (Value.int IntKind.i64 1))])], [])) else (bif decide (sub < 0) then some (T.leaf (AV.tup [(true, [C.d (iD 0), C.d (iD 0), C.d (.v (.int .i64
 0))]), (false, [C.d (iD 1)])], [])) else (bif decide (0 <= of) && decide (of < (↑c.rels.length : Int)) then (bif decide (sub >= (↑(SRel.subs (c.rels.getD of.toNat
 rel0)).length : Int)) then some (T.leaf (AV.tup [(true, [C.d (iD 0), C.d (iD 0), C.d (iD 0)]), (false, [C.d (iD 1)])], [])) else
 (bif decide (0 <= of) && decide (of < (↑c.rels.length : Int)) then (bif decide (0 <= sub) && decide (sub < (↑(SRel.subs (c.rels.getD of.toNat rel0)).length : Int)) then (bif KFn.oki
 Z [AV.c (C.d (Aa (53) relC rel0 c.rels)), AV.c (C.fn (112) [] [Rf.ptr (0) (0)])] [(0, Blk.cells (List.map C.d (subC ((SRel.subs (c.rels.getD of.toNat rel0)).getD sub.toNat sub0)))
 (68))] then (bif KFn.okf Z [gA (cfgC c), AV.c (.d (iD of)), AV.c (.d (iD (KFn.ix Z [AV.c (C.d (Aa (53) relC rel0 c.rels)), AV.c (C.fn
 (112) [] [Rf.ptr (0) (0)])] [(0, Blk.cells (List.map C.d (subC ((SRel.subs (c.rels.getD of.toNat rel0)).getD sub.toNat sub0))) (68))]))), gA (subC (KFn.sb Z
 [AV.c (C.d (Aa (53) relC rel0 c.rels)), AV.c (C.fn ((112 : Nat)) [] [Rf.ptr (0) (0)])] [(0, Blk.cells (List.map C.d (subC ((SRel.subs (c.rels.getD of.toNat rel0)).getD sub.toNat
 sub0))) (68))]))] then some (T.leaf (AV.tup [(true, [C.d (iD (Plc.rel (KFn.fi Z [gA (cfgC c), iA of, AV.c (.d
 (iD (KFn.ix Z [AV.c (C.d (Aa (53) relC rel0 c.rels)), AV.c (C.fn (112) [] [Rf.ptr (0) (0)])] [((0 : Nat), Blk.cells (List.map C.d (subC ((SRel.subs (c.rels.getD of.toNat
 rel0)).getD sub.toNat sub0))) (68))]))), gA (subC (KFn.sb Z [AV.c (C.d (Aa (53) relC rel0 c.rels)), AV.c (C.fn (112) [] [Rf.ptr (0) (0)])] [(0, Blk.cells
 (List.map C.d (subC ((SRel.subs (c.rels.getD of.toNat rel0)).getD sub.toNat sub0))) (68))]))]))), C.d (iD (Plc.set (KFn.fi Z [gA (cfgC c), AV.c (.d
 (iD of)), AV.c (.d (iD (KFn.ix Z [AV.c (C.d (Aa (53) relC rel0 c.rels)), AV.c (C.fn (112) [] [Rf.ptr (0) (0)])] [(0, Blk.cells (List.map C.d (subC
 ((SRel.subs (c.rels.getD of.toNat rel0)).getD sub.toNat sub0))) (68))]))), gA (subC (KFn.sb Z [AV.c (C.d (Aa (53) relC rel0 c.rels)), AV.c (C.fn (112) [] [Rf.ptr
 (0) ((0 : Nat))])] [(0, Blk.cells (List.map C.d (subC ((SRel.subs (c.rels.getD of.toNat rel0)).getD sub.toNat sub0))) (68))]))]))), C.d (iD (Plc.item
 (KFn.fi Z [gA (cfgC c), AV.c (.d (iD of)), AV.c (.d (iD (KFn.ix Z [AV.c (C.d (Aa (53) relC rel0 c.rels)), AV.c (C.fn (112) [] [Rf.ptr (0)
 (0)])] [(0, Blk.cells (List.map C.d (subC ((SRel.subs (c.rels.getD of.toNat rel0)).getD sub.toNat sub0))) (68))]))), gA (subC (KFn.sb Z [AV.c (C.d (Aa (53) relC
 rel0 c.rels)), AV.c (C.fn (112) [] [Rf.ptr (0) (0)])] [(0, Blk.cells (List.map C.d (subC ((SRel.subs (c.rels.getD of.toNat rel0)).getD sub.toNat sub0))) (68))]))])))]), (false,
 [C.d (iD (Plc.err (KFn.fi Z [gA (cfgC c), iA of, AV.c (.d (iD (KFn.ix Z [AV.c (C.d (Aa (53) relC rel0
 c.rels)), AV.c (C.fn (112) [] [Rf.ptr (0) (0)])] [((0 : Nat), Blk.cells (List.map C.d (subC ((SRel.subs (c.rels.getD of.toNat rel0)).getD sub.toNat sub0))) (68))]))), AV.agg
 (List.map C.d (subC (KFn.sb Z [AV.c (C.d (Aa (53) relC rel0 c.rels)), AV.c (C.fn (112) [] [Rf.ptr (0) (0)])] [(0, Blk.cells (List.map C.d (subC ((SRel.subs (c.rels.getD of.toNat
 rel0)).getD sub.toNat sub0))) (68))])))])))])], [])) else none) else none) else none) else none)) else none)))) := by kernel_rfl
def oIn (okf : LB) (fi : List AV -> Plc) : Orc := Orc.cons 50 (ansG okf fun x => sg.aPl (fi x)) (Orc.cons 51 (inl prog Orc.nil na 5 f51) Orc.nil)
def AfB : Ann := A4 [(3, ⟨[0, 1, 18, 19, 5], [(5, 0, 2, 66)]⟩)]
def Xd (okf : LB) (fi : List AV -> Plc) (c : SCfg) (mp : MV) (np : Nat) (fp : RD) (nd : Nat) (fd : RD) (rel : Int) (g m : Nat) (l1 : MV) (n2 : Nat) (f2 : RD) (n3 : Nat) (f3 : RD) (n4 : Nat) (f4 : RD) (i19 : Int) := LK prog (oIn okf fi) AfB (List.length (α := Nat × Blk) (HKB c mp np fp nd fd)) g f22 3 m ⟨frm [(0, .c (.ptr 0 0)), (1, iA rel), (5, .c (.row 4 2 n4)), (18, iA (↑(List.length (SRel.subs (List.getD (SCfg.rels c) (Int.toNat rel) rel0))) : Int)), (19, iA i19)] 0 f22.ntmps, [(0, Blk.cells [.d (.v (.string (SSta.name (SCfg.sta c)))), C.d (Aa 1 busC e0 (SSta.buses (SCfg.sta c))), C.d (Aa 5 As Af (SSta.lines (SCfg.sta c))), C.d (Aa 6 Ar src0 (SSta.srcs (SCfg.sta c))), C.d (Aa 12 bayC bay0 (SSta.bays (SCfg.sta c))), C.d (Aa 53 relC rel0 (SCfg.rels c)), C.mp 1, C.row 2 5 n2, C.row 3 3 n3] 81), (1, Blk.map 4 l1), (2, Blk.row n2 f2 5 70), (3, Blk.row n3 f3 3 51), (4, Blk.row n4 f4 2 66)], 5⟩
theorem binb : f22.body = some (Ad f22) := by kernel_rfl
theorem AkK (okf : LB) (fi : List AV -> Plc) (c : SCfg) (mp : MV) (np : Nat) (fp : RD) (nd : Nat) (fd : RD) (rel : Int) (g : Nat) : Al prog (oIn okf fi) AfB g f22 (Ad f22) [.c (.ptr 0 0), vI rel] (HKB c mp np fp nd fd) =
 (bif decide (0 <= rel) && decide (rel < (↑c.rels.length : Int)) then Xd okf fi c mp np fp nd fd rel g g mp np fp nd fd 0 (fun x => []) 0 else none) := by kernel_rfl
theorem Zj (okf : LB) (fi : List AV -> Plc) (c : SCfg) (mp : MV) (np : Nat) (fp : RD) (nd : Nat) (fd : RD) (rel : Int) (g m : Nat) (l1 : MV) (n2 : Nat) (f2 : RD) (n3 : Nat) (f3 : RD) (n4 : Nat) (f4 : RD) (i19 : Int) : Xd okf fi c mp np fp nd fd rel g (m + 1) l1 n2 f2 n3 f3 n4 f4 i19 =
 (bif decide (i19 < (↑(SRel.subs (c.rels.getD rel.toNat rel0)).length : Int)) then (bif okf [gA (cfgC c), iA rel, AV.c (.d
 (iD i19))] then (bif decide ((n4 + 1) * 16 <= 140737488355328) && decide (n4 + 1 <= 9223372036854775807) then Xd okf fi c mp np fp nd fd rel g m l1 n2 f2 n3 f3 (n4 + 1)
 (appF n4 f4 (Au [D.v (Nw 4 (A2 l1 (Value.agg #[Value.int IntKind.i64 (Plc.rel (fi [gA (cfgC c), AV.c (.d (iD rel)), AV.c (.d (.v (.int .i64
 i19)))])), Value.int IntKind.i64 (Plc.set (fi [gA (cfgC c), AV.c (.d (iD rel)), AV.c (.d (iD i19))]))]))), dI (Plc.item (fi [AV.agg
 (List.map C.d (cfgC c)), AV.c (.d (iD rel)), AV.c (.d (iD i19))]))] (1 + 1))) (IntKind.wrap .i64 (i19 + 1)) else none) else none) else some (T.leaf (AV.c
 (C.row (4) (2) n4), [(0, Blk.cells [C.d (.v (.string (SSta.name c.sta))), C.d (Aa (1) busC e0 (SSta.buses c.sta)), C.d (Aa (5) As Af (SSta.lines c.sta)), C.d (Aa (6) Ar src0
 (SSta.srcs c.sta)), C.d (Aa ((12 : Nat)) bayC bay0 (SSta.bays c.sta)), C.d (Aa (53) relC rel0 c.rels), C.mp (1), C.row (2) (5) n2, C.row (3) (3) n3] (81)), (1, Blk.map (4) l1), (2,
 Blk.row n2 f2 (5) (70)), (3, Blk.row n3 f3 (3) (51)), (4, Blk.row n4 f4 (2) (66))]))) := by kernel_rfl
def AfC : Ann := A4 [(3, ⟨[0, 1, 18, 19, 5], [(5, 0, 2, 66)]⟩)]
def Acr (okf : LB) (fi : List AV -> Plc) (c : SCfg) (np : Nat) (fp : RD) (nd : Nat) (fd : RD) (rel : Int) (g m : Nat) (n1 : Nat) (f1 : RD) (n2 : Nat) (f2 : RD) (n3 : Nat) (f3 : RD) (i19 : Int) := LK prog (oIn okf fi) AfC (List.length (α := Nat × Blk) (HKA c np fp nd fd)) g f22 3 m ⟨frm [(0, .c (.ptr 0 0)), (1, iA rel), (5, .c (.row 3 2 n3)), (18, iA (↑(List.length (SRel.subs (List.getD (SCfg.rels c) (Int.toNat rel) rel0))) : Int)), (19, iA i19)] 0 f22.ntmps, [(0, Blk.cells [.d (.v (.string (SSta.name (SCfg.sta c)))), C.d (Aa 1 busC e0 (SSta.buses (SCfg.sta c))), C.d (Aa 5 As Af (SSta.lines (SCfg.sta c))), C.d (Aa 6 Ar src0 (SSta.srcs (SCfg.sta c))), C.d (Aa 12 bayC bay0 (SSta.bays (SCfg.sta c))), C.d (Aa 53 relC rel0 (SCfg.rels c)), C.d (D.v (Value.map none)), C.row 1 5 n1, C.row 2 3 n2] 81), (1, Blk.row n1 f1 5 70), (2, Blk.row n2 f2 3 51), (3, Blk.row n3 f3 2 66)], 4⟩
theorem bina : f22.body = some (Ad f22) := by kernel_rfl
theorem AkL (okf : LB) (fi : List AV -> Plc) (c : SCfg) (np : Nat) (fp : RD) (nd : Nat) (fd : RD) (rel : Int) (g : Nat) : Al prog (oIn okf fi) AfC g f22 (Ad f22) [.c (.ptr 0 0), vI rel] (HKA c np fp nd fd) =
 (bif decide (0 <= rel) && decide (rel < (↑c.rels.length : Int)) then Acr okf fi c np fp nd fd rel g g np fp nd fd 0 (fun x => []) 0 else none) := by kernel_rfl
theorem Agi (okf : LB) (fi : List AV -> Plc) (c : SCfg) (np : Nat) (fp : RD) (nd : Nat) (fd : RD) (rel : Int) (g m : Nat) (n1 : Nat) (f1 : RD) (n2 : Nat) (f2 : RD) (n3 : Nat) (f3 : RD) (i19 : Int) : Acr okf fi c np fp nd fd rel g (m + 1) n1 f1 n2 f2 n3 f3 i19 =
 (bif decide (i19 < (↑(SRel.subs (c.rels.getD rel.toNat rel0)).length : Int)) then (bif okf [gA (cfgC c), iA rel, AV.c (.d
 (iD i19))] then (bif decide ((n3 + 1) * 16 <= 140737488355328) && decide (n3 + 1 <= 9223372036854775807) then Acr okf fi c np fp nd fd rel g m n1 f1 n2 f2 (n3 + 1) (appF
 n3 f3 (Au [D.v (Nw 4 none), dI (Plc.item (fi [gA (cfgC c), AV.c (.d (iD rel)), AV.c (.d (iD i19))]))] (1 + 1))) (IntKind.wrap .i64 (i19 +
 1)) else none) else none) else some (T.leaf (AV.c (C.row (3) (2) n3), [(0, Blk.cells [C.d (.v (.string (SSta.name c.sta))), C.d (Aa (1) busC e0 (SSta.buses c.sta)), C.d (Aa (5) As
 Af (SSta.lines c.sta)), C.d (Aa (6) Ar src0 (SSta.srcs c.sta)), C.d (Aa ((12 : Nat)) bayC bay0 (SSta.bays c.sta)), C.d (Aa (53) relC rel0 c.rels), C.d (D.v (Value.map none)), C.row
 (1) (5) n1, C.row (2) ((3 : Nat)) n2] (81)), (1, Blk.row n1 f1 (5) (70)), (2, Blk.row n2 f2 (3) (51)), (3, Blk.row n3 f3 (2) ((66 : Nat)))]))) := by kernel_rfl
end Go.Proofs.YtbpndheehcbldaaGreatDoor.tb
namespace Go.Proofs.YtbpndheehcbldaaGreatDoor.sg
open Go.RowKit Go.Eb Go.Proofs.YtbpndheehcbldaaGreatDoor.st
set_option maxRecDepth 100000
theorem AiD (l : List SSet) (n : ByteArray) (g : Nat) (hb : l.length <= 9223372036854775807) : ∀ (m k : Nat), k <= l.length -> l.length - k < m ->
  W9 l n g m k = some (.leaf (vI (idxP (fun s : SSet => isT s.name n) k (l.drop k)), HN n))
 | 0, k, _, h => by omega
 | m + 1, k, hk, h => by
  rw [Age]
  by_cases hlt : k < l.length
  ·rw [Am (d := set0) hlt, lt1 hlt, ge0, tn, nx hlt hb, AiD l n g hb m (k + 1) (by omega) (by omega)]
   simp only [idxP]
   show (bif isT (l.getD k set0).name n then _ else _) = _
   cases isT (l.getD k set0).name n <;> rfl
  ·rw [lt0 hlt, List.drop_of_length_le (by omega)]
   rfl
theorem cisx (l : List SSet) (n : ByteArray) (hb : l.length <= 9223372036854775807) :
  CX prog 46 [.c (.d (J9 l)), .c (.fn 212 [] [.ptr 0 0])] (HN n) (vI (idxP (fun s : SSet => isT s.name n) 0 l)) (HN n) := by
 have ho : Dh prog (Orc.cons 212 (inl prog Orc.nil na 1 f212) Orc.nil) := (OrcS.cons (.inl .nil func212 (by kernel_rfl)) .nil).ok
 exact Ax ho func46 bisx rfl ((AkG l n (l.length + 1)).trans (AiD l n (l.length + 1) hb (l.length + 1) 0 (by omega) (by omega)))
theorem AiG (l : List SPub) (x : SSub) (g : Nat) (hb : l.length <= 9223372036854775807) : ∀ (m k : Nat), k <= l.length -> l.length - k < m ->
  Xc l x g m k = some (.leaf (vI (idxP (fun p : SPub => isT p.set x.set) k (l.drop k)), HSb x))
 | 0, k, _, h => by omega
 | m + 1, k, hk, h => by
  rw [Agh]
  by_cases hlt : k < l.length
  ·rw [Am (d := pub0) hlt, lt1 hlt, ge0, tn, nx hlt hb, AiG l x g hb m (k + 1) (by omega) (by omega)]
   simp only [idxP]
   show (bif isT (l.getD k pub0).set x.set then _ else _) = _
   cases isT (l.getD k pub0).set x.set <;> rfl
  ·rw [lt0 hlt, List.drop_of_length_le (by omega)]
   rfl
theorem cipx (l : List SPub) (x : SSub) (hb : l.length <= 9223372036854775807) :
  CX prog 213 [.c (.d (T1 l)), .c (.fn 146 [] [.ptr 0 0])] (HSb x) (vI (idxP (fun p : SPub => isT p.set x.set) 0 l)) (HSb x) := by
 have ho : Dh prog (Orc.cons 146 (inl prog Orc.nil na 1 f146) Orc.nil) := (OrcS.cons (.inl .nil func146 (by kernel_rfl)) .nil).ok
 exact Ax ho func213 bipx rfl ((AkJ l x (l.length + 1)).trans (AiG l x (l.length + 1) hb (l.length + 1) 0 (by omega) (by omega)))
end Go.Proofs.YtbpndheehcbldaaGreatDoor.sg
namespace Go.Proofs.YtbpndheehcbldaaGreatDoor.sg
open Go.RowKit Go.Eb Go.Proofs.YtbpndheehcbldaaGreatDoor.st
set_option maxRecDepth 100000
structure KSo where
 ok : List AV -> Hp -> Bool
 ix : List AV -> Hp -> Int
 nm : List AV -> Hp -> ByteArray
def oSo (Z : KSo) : Orc := Orc.cons 46 (ansM Z.ok (fun x H => vI (Z.ix x H)) fun x H => [(0, .cells [.d (dS (Z.nm x H))] 9)]) Orc.nil
theorem evSo (Z : KSo) (r : SRel) (n : ByteArray) : Al prog (oSo Z) na 5 f144 (Ad f144) [aRel r, vS n] [] =
 (bif KSo.ok Z [AV.c (C.d (Aa (2) setC set0 r.sets)), AV.c (C.fn (212) [] [Rf.ptr (0) (0)])] [(0, Blk.cells [C.d (D.v (Value.string n))] (9))] then leI (KSo.ix Z [AV.c (C.d (Aa (2)
 setC set0 r.sets)), AV.c (C.fn (212) [] [Rf.ptr (0) (0)])] [(0, Blk.cells [C.d (.v (.string n))] (9))]) else none) := by kernel_rfl
structure KFi where
 okr : LB
 so : LI
 okp : List AV -> Hp -> Bool
 px : List AV -> Hp -> Int
 sb : List AV -> Hp -> SSub
 okx : LB
 ix : LI
def oFi (Z : KFi) : Orc := Orc.cons 144 (ansG Z.okr fun x => vI (Z.so x)) (Orc.cons 145 (inl prog (Orc.cons 213 (ansM Z.okp (fun x H => vI (Z.px x H)) fun x H => [(0, .cells ((subC (Z.sb x H)).map .d) 68)]) Orc.nil) na 1 f145) (Orc.cons 48 (ansG Z.okx fun x => vI (Z.ix x)) Orc.nil))
theorem evFi (Z : KFi) (c : SCfg) (of dev : Int) (x : SSub) : Al prog (oFi Z) na 5 f79 (Ad f79) [aCfg c, vI of, vI dev, Aec x] [] =
 (bif decide (dev < 0) then some (T.leaf (AV.tup [(true, [C.d (iD 0), C.d (iD 0), C.d (iD 0)]), (false, [C.d (iD 9)])],
 [])) else (bif dev == of then some (T.leaf (AV.tup [(true, [C.d (iD 0), C.d (iD 0), C.d (iD 0)]), (false, [C.d (iD 12)])], [])) else
 (bif decide (0 <= dev) && decide (dev < (↑c.rels.length : Int)) then (bif KFi.okr Z [gA (relC (c.rels.getD dev.toNat rel0)), AV.c (C.d (D.v (.string x.set)))]
 then (bif decide (KFi.so Z [gA (relC (c.rels.getD dev.toNat rel0)), AV.c (.d (.v (.string x.set)))] < 0) then some (T.leaf (AV.tup [(true, [C.d (.v (.int .i64
 0)), C.d (iD 0), C.d (iD 0)]), (false, [C.d (iD 9)])], [])) else (bif KFi.okp Z [AV.c (C.d (Aa (3) pubC pub0 (SRel.pubs (c.rels.getD dev.toNat
 rel0)))), AV.c (C.fn (146) [] [Rf.ptr (0) (0)])] [(0, Blk.cells (List.map C.d (subC x)) (68))] then (bif !decide (KFi.px Z [AV.c (C.d (Aa (3) pubC pub0 (SRel.pubs (c.rels.getD
 dev.toNat rel0)))), AV.c (C.fn (146) [] [Rf.ptr (0) (0)])] [(0, Blk.cells (List.map C.d (subC x)) (68))] >= 0) then some (T.leaf (AV.tup [(true, [C.d (iD 0), C.d (.v
 (.int .i64 0)), C.d (iD 0)]), (false, [C.d (iD 11)])], [])) else (bif decide (0 <= KFi.so Z [gA (relC (c.rels.getD dev.toNat rel0)), AV.c
 (.d (.v (.string x.set)))]) && decide (KFi.so Z [gA (relC (c.rels.getD dev.toNat rel0)), AV.c (.d (.v (.string x.set)))] < (↑(SRel.sets (c.rels.getD dev.toNat
 rel0)).length : Int)) then (bif KFi.okx Z [AV.c (C.d (Aa (1) busC e0 (SSet.sigs ((SRel.sets (c.rels.getD dev.toNat rel0)).getD (Int.toNat (KFi.so Z [gA (relC
 (c.rels.getD dev.toNat rel0)), AV.c (.d (.v (.string x.set)))])) set0)))), AV.c (.d (.v (.string (SSub.sig (KFi.sb Z [AV.c (C.d (Aa (3) pubC pub0 (SRel.pubs (c.rels.getD dev.toNat
 rel0)))), AV.c (C.fn (146) [] [Rf.ptr (0) (0)])] [(0, Blk.cells (List.map C.d (subC x)) ((68 : Nat)))])))))] then (bif decide (KFi.ix Z [AV.c (C.d (Aa (1) busC e0 (SSet.sigs
 ((SRel.sets (c.rels.getD dev.toNat rel0)).getD (Int.toNat (KFi.so Z [gA (relC (c.rels.getD dev.toNat rel0)), AV.c (.d (.v (.string x.set)))])) set0)))), AV.c (.d
 (.v (.string (SSub.sig (KFi.sb Z [AV.c (C.d (Aa (3) pubC pub0 (SRel.pubs (c.rels.getD dev.toNat rel0)))), AV.c (C.fn (146) [] [Rf.ptr (0) (0)])] [((0 : Nat), Blk.cells (List.map
 C.d (subC x)) (68))])))))] < 0) then some (T.leaf (AV.tup [(true, [C.d (iD 0), C.d (iD 0), C.d (iD 0)]), (false, [C.d (.v (.int
 .i64 9))])], [])) else some (T.leaf (AV.tup [(true, [C.d (iD dev), C.d (iD (KFi.so Z [gA (relC (c.rels.getD dev.toNat rel0)),
 AV.c (C.d (D.v (Value.string x.set)))])), C.d (iD (KFi.ix Z [AV.c (C.d (Aa (1) busC e0 (SSet.sigs ((SRel.sets (c.rels.getD dev.toNat rel0)).getD (Int.toNat (KFi.so Z
 [gA (relC (c.rels.getD dev.toNat rel0)), AV.c (.d (.v (.string x.set)))])) set0)))), AV.c (C.d (D.v (Value.string (SSub.sig (KFi.sb Z [AV.c (C.d (Aa (3) pubC
 pub0 (SRel.pubs (c.rels.getD dev.toNat rel0)))), AV.c (C.fn (146) [] [Rf.ptr ((0 : Nat)) (0)])] [(0, Blk.cells (List.map C.d (subC x)) (68))])))))]))]), (false, [C.d (.v (.int
 .i64 0))])], []))) else none) else none)) else none)) else none) else none))) := by kernel_rfl
def Afj : Ann := A4 [(2, ⟨[0, 1, 7, 8], []⟩)]
def W0 (l : List ByteArray) (n : ByteArray) (g m : Nat) (i8 : Int) := LK prog Orc.nil Afj 0 g f48 2 m ⟨frm [(0, .c (.d (Aa 1 busC e0 l))), (1, .c (.d (.v (.string n)))), (7, iA (↑(List.length l) : Int)), (8, iA i8)] 0 f48.ntmps, [], 0⟩
theorem bsix : f48.body = some (Ad f48) := by kernel_rfl
theorem Akn (l : List ByteArray) (n : ByteArray) (g : Nat) : Al prog Orc.nil Afj g f48 (Ad f48) [.c (.d (Ab l)), vS n] [] =
 W0 l n g g 0 := by kernel_rfl
theorem AfU (l : List ByteArray) (n : ByteArray) (g m : Nat) (i8 : Int) : W0 l n g (m + 1) i8 =
 (bif decide (i8 < (↑l.length : Int)) then (bif decide (0 <= i8) && decide (i8 < (↑l.length : Int)) then (bif n.toList == (l.getD i8.toNat e0).toList then leI i8 else W0 l n g m
 (IntKind.wrap .i64 (i8 + 1))) else none) else leI (-1)) := by kernel_rfl
def Afo : Ann := A4 [(3, ⟨[3, 7, 8, 9], []⟩)]
def W5 (l : List ByteArray) (g m : Nat) (l0 : MV) (i9 : Int) := LK prog Orc.nil Afo 0 g f141 3 m ⟨frm [(3, .c (.mp 0)), (7, .c (.d (Aa 1 busC e0 l))), (8, iA (↑(List.length l) : Int)), (9, iA i9)] 0 f141.ntmps, [(0, Blk.map 0 l0)], 1⟩
theorem brpt : f141.body = some (Ad f141) := by kernel_rfl
theorem Akt (l : List ByteArray) (g : Nat) : Al prog Orc.nil Afo g f141 (Ad f141) [.c (.d (Ab l))] [] =
 W5 l g g ([]) 0 := by kernel_rfl
theorem AfX (l : List ByteArray) (g m : Nat) (l0 : MV) (i9 : Int) : W5 l g (m + 1) l0 i9 =
 (bif decide (i9 < (↑l.length : Int)) then (bif decide (0 <= i9) && decide (i9 < (↑l.length : Int)) then (bif B0 (A2 l0 (Value.string (l.getD i9.toNat e0))) then leB true else W5 l g
 m ((Value.string (l.getD i9.toNat e0), Value.bool true) :: l0) (IntKind.wrap .i64 (i9 + 1))) else none) else leB false) := by kernel_rfl
def AfD : Ann := A4 [(3, ⟨[3, 10, 11, 12], []⟩)]
def Th (c : SCfg) (g m : Nat) (l0 : MV) (i12 : Int) := LK prog Orc.nil AfD 0 g f77 3 m ⟨frm [(3, .c (.mp 0)), (10, .c (.d (Aa 53 relC rel0 (SCfg.rels c)))), (11, iA (↑(List.length (SCfg.rels c)) : Int)), (12, iA i12)] 0 f77.ntmps, [(0, Blk.map 1 l0)], 1⟩
theorem bdvs : f77.body = some (Ad f77) := by kernel_rfl
theorem AkM (c : SCfg) (g : Nat) : Al prog Orc.nil AfD g f77 (Ad f77) [aCfg c] [] =
 Th c g g ([]) 0 := by kernel_rfl
theorem Agj (c : SCfg) (g m : Nat) (l0 : MV) (i12 : Int) : Th c g (m + 1) l0 i12 =
 (bif decide (i12 < (↑c.rels.length : Int)) then (bif decide (0 <= i12) && decide (i12 < (↑c.rels.length : Int)) then (bif !Option.isSome (A2 l0 (Value.string (SRel.name (c.rels.getD
 i12.toNat rel0)))) then Th c g m ((Value.string (SRel.name (c.rels.getD i12.toNat rel0)), Value.int IntKind.i64 i12) :: l0) (IntKind.wrap .i64 (i12 + 1)) else Th c g m l0
 (IntKind.wrap .i64 (i12 + 1))) else none) else some (T.leaf (AV.c (C.mp ((0 : Nat))), [(0, Blk.map (1) l0)]))) := by kernel_rfl
structure KOw where
 oko : LB
 ou : List AV -> List ByteArray
 okn : LB
 inn : List AV -> List ByteArray
 okc : LB
 cl : List AV -> List ByteArray
 okr : LB
 rp : LB
 oks : LB
 so : LI
def oOw (Z : KOw) : Orc := Orc.cons 45 (ansG Z.oko fun x => .c (.d (Ab (Z.ou x)))) (Orc.cons 143 (ansG Z.okn fun x => .c (.d (Ab (Z.inn x)))) (Orc.cons 142 (ansN (fun x => Z.okc x) (fun x => .c (.row 0 1 (Z.cl x).length)) fun x => [(0, .row (Z.cl x).length (fun i => busC ((Z.cl x).getD i e0)) 1 9)])
 (Orc.cons 141 (ansL Z.okr fun x => vB (Z.rp x)) (Orc.cons 144 (ansG Z.oks fun x => vI (Z.so x)) Orc.nil))))
def S0 : Ann := A4 [(6, ⟨[4, 23, 1, 24, 25], []⟩), (11, ⟨[4, 33, 1, 34, 35], []⟩), (15, ⟨[9, 4, 41, 33, 1, 34, 35, 42, 43], []⟩), (25, ⟨[1, 61, 62, 63], []⟩)]
def Tc (Z : KOw) (r : SRel) (g m : Nat) (l1 : MV) (i25 : Int) := LK prog (oOw Z) S0 0 g f78 6 m ⟨frm [(1, .c (.ptr 0 0)), (4, .c (.mp 1)), (23, .c (.d (Aa 1 busC e0 (KOw.ou Z [gA (relC r)])))), (24, iA (↑(List.length (KOw.ou Z [gA (relC r)])) : Int)), (25, iA i25)] 0 f78.ntmps, [(0, Blk.cells (List.map C.d (relC r)) 64), (1, Blk.map 0 l1)], 2⟩
def Gw (Z : KOw) (r : SRel) (g m : Nat) (l1 : MV) (i35 : Int) := LK prog (oOw Z) S0 0 g f78 11 m ⟨frm [(1, .c (.ptr 0 0)), (4, .c (.mp 1)), (33, .c (.d (Aa 2 setC set0 (SRel.sets r)))), (34, iA (↑(List.length (SRel.sets r)) : Int)), (35, iA i35)] 0 f78.ntmps, [(0, Blk.cells (List.map C.d (relC r)) 64), (1, Blk.map 0 l1)], 2⟩
def Nm (Z : KOw) (r : SRel) (g mo m : Nat) (l1 : MV) (l2 : MV) (i35 : Int) (i42 : Int) (i43 : Int) := LK2 prog (oOw Z) S0 0 g f78 11 mo 15 m ⟨frm [(1, .c (.ptr 0 0)), (4, .c (.mp 1)), (9, .c (.mp 2)), (33, .c (.d (Aa 2 setC set0 (SRel.sets r)))), (34, iA (↑(List.length (SRel.sets r)) : Int)), (35, iA i35), (41, .c (.d (Aa 1 busC e0 (SSet.sigs (List.getD (SRel.sets r) (Int.toNat i35) set0))))), (42, iA i42), (43, iA i43)] 0 f78.ntmps, [(0, Blk.cells (List.map C.d (relC r)) 64), (1, Blk.map 0 l1), (2, Blk.map 0 l2)], 3⟩
def Ky (Z : KOw) (r : SRel) (g m : Nat) (i63 : Int) := LK prog (oOw Z) S0 0 g f78 25 m ⟨frm [(1, .c (.ptr 0 0)), (61, .c (.d (Aa 3 pubC pub0 (SRel.pubs r)))), (62, iA (↑(List.length (SRel.pubs r)) : Int)), (63, iA i63)] 0 f78.ntmps, [(0, Blk.cells (List.map C.d (relC r)) 64)], 1⟩
theorem bown : f78.body = some (Ad f78) := by kernel_rfl
theorem Akz (Z : KOw) (r : SRel) (g : Nat) : Al prog (oOw Z) S0 g f78 (Ad f78) [aRel r] [] =
 (bif KOw.oko Z [gA (relC r)] then (bif KOw.okc Z [AV.c (C.d (Aa (1) busC e0 (KOw.ou Z [gA (relC r)])))] then (bif KOw.okn Z [AV.agg (List.map
 C.d (relC r))] then (bif decide (((KOw.cl Z [AV.c (C.d (Aa (1) busC e0 (KOw.ou Z [gA (relC r)])))]).length + (KOw.inn Z [gA (relC r)]).length)
 * 16 <= 140737488355328) && decide ((KOw.cl Z [AV.c (C.d (Aa (1) busC e0 (KOw.ou Z [gA (relC r)])))]).length + (KOw.inn Z [gA (relC r)]).length
 <= 9223372036854775807) then (bif KOw.okr Z [AV.c (C.d (D.sl (1) ((KOw.cl Z [AV.c (C.d (Aa (1) busC e0 (KOw.ou Z [gA (relC r)])))]).length + (KOw.inn Z [AV.agg
 (List.map C.d (relC r))]).length) (appF (KOw.cl Z [AV.c (C.d (Aa (1) busC e0 (KOw.ou Z [gA (relC r)])))]).length (fun i => busC ((KOw.cl Z [AV.c (C.d (Aa (1)
 busC e0 (KOw.ou Z [gA (relC r)])))]).getD i e0)) fun i => busC ((KOw.inn Z [gA (relC r)]).getD i e0))))] then (bif KOw.rp Z [AV.c (C.d (D.sl
 (1) ((KOw.cl Z [AV.c (C.d (Aa (1) busC e0 (KOw.ou Z [gA (relC r)])))]).length + (KOw.inn Z [gA (relC r)]).length) (appF (KOw.cl Z [AV.c (C.d
 (Aa (1) busC e0 (KOw.ou Z [gA (relC r)])))]).length (fun i => busC ((KOw.cl Z [AV.c (C.d (Aa (1) busC e0 (KOw.ou Z [gA (relC r)])))]).getD i
 e0)) fun i => busC ((KOw.inn Z [gA (relC r)]).getD i e0))))] then leI 8 else Tc Z r g g ([]) 0) else none) else none) else none) else none) else none) := by kernel_rfl
theorem Y9 (Z : KOw) (r : SRel) (g m : Nat) (l1 : MV) (i25 : Int) : Tc Z r g (m + 1) l1 i25 =
 (bif decide (i25 < (↑(KOw.ou Z [gA (relC r)]).length : Int)) then (bif decide (0 <= i25) && decide (i25 < (↑(KOw.ou Z [gA (relC r)]).length :
 Int)) then Tc Z r g m ((Value.string ((KOw.ou Z [gA (relC r)]).getD i25.toNat e0), Value.bool true) :: l1) (IntKind.wrap IntKind.i64 (i25 + 1)) else none) else
 Gw Z r g g l1 0) := by kernel_rfl
theorem AcH (Z : KOw) (r : SRel) (g m : Nat) (l1 : MV) (i35 : Int) : Gw Z r g (m + 1) l1 i35 =
 (bif decide (i35 < (↑r.sets.length : Int)) then (bif decide (0 <= i35) && decide (i35 < (↑r.sets.length : Int)) then Nm Z r g m g l1 ([]) i35 ((↑(SSet.sigs (r.sets.getD i35.toNat
 set0)).length : Int)) 0 else none) else Ky Z r g g 0) := by kernel_rfl
theorem AcG (Z : KOw) (r : SRel) (g mo m : Nat) (l1 : MV) (l2 : MV) (i35 : Int) (i42 : Int) (i43 : Int) : Nm Z r g mo (m + 1) l1 l2 i35 i42 i43 =
 (bif decide (i43 < i42) then (bif decide (0 <= i43) && decide (i43 < (↑(SSet.sigs (r.sets.getD i35.toNat set0)).length : Int)) then (bif !B0 (A2 l1 (Value.string ((SSet.sigs
 (r.sets.getD i35.toNat set0)).getD i43.toNat e0))) then leI 9 else (bif B0 (A2 l2 (Value.string ((SSet.sigs (r.sets.getD i35.toNat set0)).getD i43.toNat e0))) then leI 8 else Nm Z
 r g mo m l1 ((Value.string ((SSet.sigs (r.sets.getD i35.toNat set0)).getD i43.toNat e0), Value.bool true) :: l2) i35 i42 (IntKind.wrap .i64 (i43 + 1)))) else none) else Gw Z r g mo
 l1 (IntKind.wrap .i64 (i35 + 1))) := by kernel_rfl
theorem AcF (Z : KOw) (r : SRel) (g m : Nat) (i63 : Int) : Ky Z r g (m + 1) i63 =
 (bif decide (i63 < (↑r.pubs.length : Int)) then (bif decide (0 <= i63) && decide (i63 < (↑r.pubs.length : Int)) then (bif KOw.oks Z [gA (relC r), AV.c (.d (.v
 (.string (SPub.set (r.pubs.getD i63.toNat pub0)))))] then (bif decide (KOw.so Z [gA (relC r), AV.c (C.d (.v (.string (SPub.set (r.pubs.getD i63.toNat pub0)))))]
 < 0) then leI 9 else Ky Z r g m (IntKind.wrap .i64 (i63 + 1))) else none) else none) else leI 0) := by kernel_rfl
end Go.Proofs.YtbpndheehcbldaaGreatDoor.sg
namespace Go.Proofs.YtbpndheehcbldaaGreatDoor.sg
open Go.RowKit Go.Eb Go.Proofs.YtbpndheehcbldaaGreatDoor.st
set_option maxRecDepth 100000
def oIt (okd : LB) (it : List AV -> ByteArray) : Orc := Orc.cons 89 (ansG okd fun x => vS (it x)) Orc.nil
def Acl : Ann := A4 [(10, ⟨[15, 3], [(3, 0, 1, 9)]⟩)]
def K1 (okd : LB) (it : List AV -> ByteArray) (k : Int) (g m : Nat) (n0 : Nat) (f0 : RD) (i15 : Int) := LK prog (oIt okd it) Acl 0 g f108 10 m ⟨frm [(3, .c (.row 0 1 n0)), (15, iA i15)] 0 f108.ntmps, [(0, Blk.row n0 f0 1 9)], 1⟩
theorem bfix : f108.body = some (Ad f108) := by kernel_rfl
theorem Adt (okd : LB) (it : List AV -> ByteArray) (k : Int) (g : Nat) : Al prog (oIt okd it) Acl g f108 (Ad f108) [vI k] [] =
 (bif k == 1 then some (T.leaf (AV.c (C.row (0) (1) (10)), [(0, Blk.cells [C.d (.v (.string (⟨#[116, (114 : UInt8), 105, 112]⟩))), C.d (.v (.string (⟨#[99, 108, 111, 115, 101]⟩))),
 C.d (D.v (Value.string (⟨#[102, 97, 105, 108]⟩))), C.d (.v (.string (⟨#[115, 101, 110, 100]⟩))), C.d (.v (.string (⟨#[116, 114, 97, 110, 115, 102, 101, 114]⟩))), C.d (D.v
 (Value.string (⟨#[122, 111, 110, 101, 49]⟩))), C.d (.v (.string (⟨#[122, 111, (110 : UInt8), 101, 50]⟩))), C.d (.v (.string (⟨#[122, 111, 110, 101, 51]⟩))), C.d (D.v (Value.string
 (⟨#[116, 105, 109, 101]⟩))), C.d (.v (.string (⟨#[115, 116, 97, (114 : UInt8), 116, 101, 100]⟩)))] (9))])) else (bif k == 2 then (bif k == 2 then some (T.leaf (AV.c (C.row (0) (1)
 (7)), [(0, Blk.cells [C.d (.v (.string (⟨#[116, 114, 105, 112]⟩))), C.d (.v (.string (⟨#[99, 108, 111, 115, 101]⟩))), C.d (.v (.string (⟨#[102, 97, 105, 108]⟩))), C.d (.v (.string
 (⟨#[116, 105, 109, 101]⟩))), C.d (.v (.string (⟨#[115, 116, (97 : UInt8), 114, 116, 101, 100]⟩))), C.d (.v (.string (⟨#[117, 110, 100, 101, (114 : UInt8)]⟩))), C.d (.v (.string
 (⟨#[111, 118, 101, 114]⟩)))] (9))])) else (bif k == 4 then K1 okd it k g g 0 (fun x => []) 0 else some (T.leaf (AV.c (.d (.v (.slice none 0 0))), [])))) else (bif k == 3 then some
 (T.leaf (AV.c (C.row ((0 : Nat)) (1) (7)), [(0, Blk.cells [C.d (.v (.string (⟨#[116, 114, 105, 112]⟩))), C.d (D.v (Value.string (⟨#[99, 108, 111, 115, 101]⟩))), C.d (.v (.string
 (⟨#[102, 97, 105, (108 : UInt8)]⟩))), C.d (.v (.string (⟨#[116, 105, 109, 101]⟩))), C.d (.v (.string (⟨#[115, (116 : UInt8), 97, 114, 116, 101, 100]⟩))), C.d (.v (.string (⟨#[117,
 110, 100, (101 : UInt8), 114]⟩))), C.d (.v (.string (⟨#[111, 118, 101, 114]⟩)))] (9))])) else (bif k == 4 then K1 okd it k g g 0 (fun x => []) 0 else some (T.leaf (AV.c (.d (.v
 (.slice none 0 0))), [])))))) := by kernel_rfl
theorem AcL (okd : LB) (it : List AV -> ByteArray) (k : Int) (g m : Nat) (n0 : Nat) (f0 : RD) (i15 : Int) : K1 okd it k g (m + 1) n0 f0 i15 =
 (bif decide (i15 < 16) then (bif okd [AV.c (.d (iD i15))] then (bif decide (ByteArray.size (⟨#[116, 114, (105 : UInt8), 112]⟩) + ByteArray.size (it [AV.c (.d (.v (.int
 .i64 i15)))]) <= 9223372036854775807) then (bif decide ((n0 + 1) * 16 <= 140737488355328) && decide (n0 + 1 <= 9223372036854775807) then K1 okd it k g m (n0 + 1) (appF n0 f0 (Au [D.v
 (.string (ByteArray.mk #[116, 114, 105, 112] ++ it [AV.c (.d (iD i15))]))] (0 + 1))) (IntKind.wrap .i64 (i15 + 1)) else none) else none) else none) else some (T.leaf
 (AV.c (C.row (0) (1) n0), [(0, Blk.row n0 f0 (1) (9))]))) := by kernel_rfl
def oOu (okf : LB) (fx : List AV -> List ByteArray) (okn : LB) (nl : List AV -> List ByteArray) : Orc := Orc.cons 108 (ansN (fun x => okf x) (fun x => .c (.row 0 1 (fx x).length)) fun x => [(0, .row (fx x).length (fun i => busC ((fx x).getD i e0)) 1 9)]) (Orc.cons 109 (ansG okn fun x => .c (.d (Ab (nl x)))) Orc.nil)
theorem evOu (okf : LB) (fx : List AV -> List ByteArray) (okn : LB) (nl : List AV -> List ByteArray) (r : SRel) : Al prog (oOu okf fx okn nl) na 5 f45 (Ad f45) [aRel r] [] =
 (bif okf [AV.c (.d (iD r.kind))] then (bif okn [AV.c (C.d (Aa (2) D1 Bb r.rules)), AV.c (C.d (D.v (Value.func (Fn.func (110 : Nat)) #[] #[])))] then (bif decide (((fx
 [AV.c (.d (iD r.kind))]).length + (nl [AV.c (C.d (Aa (2) D1 Bb r.rules)), AV.c (C.d (D.v (Value.func (Fn.func 110) #[] #[])))]).length) * 16 <= 140737488355328) &&
 decide ((fx [iA r.kind]).length + (nl [AV.c (C.d (Aa (2) D1 Bb r.rules)), AV.c (C.d (D.v (Value.func (Fn.func 110) #[] #[])))]).length <=
 9223372036854775807) then some (T.leaf (AV.c (C.row (0) (1) ((fx [AV.c (.d (iD r.kind))]).length + (nl [AV.c (C.d (Aa (2) D1 Bb r.rules)), AV.c (C.d (D.v (Value.func
 (Fn.func 110) #[] #[])))]).length)), [(0, Blk.row ((fx [iA r.kind]).length + (nl [AV.c (C.d (Aa (2) D1 Bb r.rules)), AV.c (C.d (D.v
 (Value.func (Fn.func 110) #[] #[])))]).length) (appF (fx [AV.c (.d (iD r.kind))]).length (fun i => busC ((fx [AV.c (.d (iD r.kind))]).getD i e0)) fun i =>
 busC ((nl [AV.c (C.d (Aa (2) D1 Bb r.rules)), AV.c (C.d (D.v (Value.func (Fn.func 110) #[] #[])))]).getD i e0)) (1) ((9 : Nat)))])) else none) else none) else none) := by kernel_rfl
theorem evIn (okn : LB) (nl : List AV -> List ByteArray) (r : SRel) : Al prog (Orc.cons 210 (ansG okn fun x => .c (.d (Ab (nl x)))) Orc.nil) na 5 f143 (Ad f143) [aRel r] [] =
 (bif okn [AV.c (C.d (Aa (4) subC sub0 r.subs)), AV.c (C.d (D.v (Value.func (Fn.func 211) #[] #[])))] then some (T.leaf (AV.c (C.d (Aa (1) busC e0 (nl [AV.c (C.d (Aa (4) subC sub0
 r.subs)), AV.c (C.d (D.v (Value.func (Fn.func 211) #[] #[])))]))), [])) else none) := by kernel_rfl
def Afv : Ann := A4 [(3, ⟨[1, 8, 9, 10, 5], [(5, 0, 1, 9)]⟩)]
def Tf (l : List SRule) (g m : Nat) (n0 : Nat) (f0 : RD) (i10 : Int) := LK prog (Orc.cons 110 (inl prog Orc.nil na 1 f110) Orc.nil) Afv 0 g f109 3 m ⟨frm [(1, .c (.d (D.v (Value.func (Fn.func (110 : FuncId)) #[] #[])))), (5, .c (.row 0 1 n0)), (8, .c (.d (Aa 2 D1 Bb l))), (9, iA (↑(List.length l) : Int)), (10, iA i10)] 0 f109.ntmps, [(0, Blk.row n0 f0 1 9)], 1⟩
theorem bnru : f109.body = some (Ad f109) := by kernel_rfl
theorem AkD (l : List SRule) (g : Nat) : Al prog (Orc.cons 110 (inl prog Orc.nil na 1 f110) Orc.nil) Afv g f109 (Ad f109) [.c (.d (L6 l)), .c (.d (.v (.func (.func 110) #[] #[])))] [] =
 Tf l g g 0 (fun x => []) 0 := by kernel_rfl
theorem Zf (l : List SRule) (g m : Nat) (n0 : Nat) (f0 : RD) (i10 : Int) : Tf l g (m + 1) n0 f0 i10 =
 (bif decide (i10 < (↑l.length : Int)) then (bif decide (0 <= i10) && decide (i10 < (↑l.length : Int)) then (bif decide ((n0 + 1) * 16 <= 140737488355328) && decide (n0 + 1 <=
 9223372036854775807) then Tf l g m (n0 + 1) (appF n0 f0 (Au [dS (SRule.name (l.getD i10.toNat Bb))] (0 + 1))) (IntKind.wrap .i64 (i10 + 1)) else none) else none) else some (T.leaf
 (AV.c (C.row (0) (1) n0), [(0, Blk.row n0 f0 (1) (9))]))) := by kernel_rfl
def Afu : Ann := A4 [(3, ⟨[1, 8, 9, 10, 5], [(5, 0, 1, 9)]⟩)]
def Te (l : List SSub) (g m : Nat) (n0 : Nat) (f0 : RD) (i10 : Int) := LK prog (Orc.cons 211 (inl prog Orc.nil na 1 f211) Orc.nil) Afu 0 g f210 3 m ⟨frm [(1, .c (.d (D.v (Value.func (Fn.func (211 : FuncId)) #[] #[])))), (5, .c (.row 0 1 n0)), (8, .c (.d (Aa 4 subC sub0 l))), (9, iA (↑(List.length l) : Int)), (10, iA i10)] 0 f210.ntmps, [(0, Blk.row n0 f0 1 9)], 1⟩
theorem bnsu : f210.body = some (Ad f210) := by kernel_rfl
theorem AkC (l : List SSub) (g : Nat) : Al prog (Orc.cons 211 (inl prog Orc.nil na 1 f211) Orc.nil) Afu g f210 (Ad f210) [.c (.d (Ts l)), .c (.d (.v (.func (.func 211) #[] #[])))] [] =
 Te l g g 0 (fun x => []) 0 := by kernel_rfl
theorem Ze (l : List SSub) (g m : Nat) (n0 : Nat) (f0 : RD) (i10 : Int) : Te l g (m + 1) n0 f0 i10 =
 (bif decide (i10 < (↑l.length : Int)) then (bif decide (0 <= i10) && decide (i10 < (↑l.length : Int)) then (bif decide ((n0 + 1) * 16 <= 140737488355328) && decide (n0 + 1 <=
 9223372036854775807) then Te l g m (n0 + 1) (appF n0 f0 (Au [dS (SSub.loc (l.getD i10.toNat sub0))] (0 + 1))) (IntKind.wrap .i64 (i10 + 1)) else none) else none) else some (T.leaf
 (AV.c (C.row (0) (1) n0), [(0, Blk.row n0 f0 (1) (9))]))) := by kernel_rfl
end Go.Proofs.YtbpndheehcbldaaGreatDoor.sg
namespace Go.Proofs.YtbpndheehcbldaaGreatDoor.ito
open Go.Shelf
def Ud : Go.Shelf.Ren := ⟨fun | 171 => 89 | 243 => 150 | 246 => 218 | 283 => 229 | 284 => 230 | 285 => 231 | 286 => 232 | 129 => 244 | 317 => 243 | 318 => 245 | 319 => 246 | 320 => 247 | 337 => 252 | 338 => 253 | n => n, fun | 3 => 3 | 9 => 9 | 2 => 2 | 4 => 4 | 171 => 299 | 0 => 0 | 53 => 300 | 37 => 107 | 5 => 5 | 173 => 303 | 212 => 315 | 51 => 72 | 20 => 20 | 213 => 316 | 46 => 105 | 232 => 321 | 233 => 322 | n => n, fun | 17 => 0 | 18 => 2 | 19 => 3 | n => n⟩
theorem AgZ : Go.Proofs.LaysM.n171 prog Ud := {
 mixed := by kernel_rfl
 f129 := func244.trans (congrArg some (by kernel_rfl))
 f171 := func89.trans (congrArg some (by kernel_rfl))
 f243 := func150.trans (congrArg some (by kernel_rfl))
 f246 := func218.trans (congrArg some (by kernel_rfl))
 f283 := func229.trans (congrArg some (by kernel_rfl))
 f284 := func230.trans (congrArg some (by kernel_rfl))
 f285 := func231.trans (congrArg some (by kernel_rfl))
 f286 := func232.trans (congrArg some (by kernel_rfl))
 f317 := func243.trans (congrArg some (by kernel_rfl))
 f318 := func245.trans (congrArg some (by kernel_rfl))
 f319 := func246.trans (congrArg some (by kernel_rfl))
 f320 := func247.trans (congrArg some (by kernel_rfl))
 f337 := func252.trans (congrArg some (by kernel_rfl))
 f338 := func253.trans (congrArg some (by kernel_rfl))
 t0 := underlying0
 a0 := Tryz.isAgg0
 z0 := Tryz.sizeOf0
 v0 := Tryz.zeroValue0
 t2 := underlying2
 a2 := Tryz.isAgg2
 z2 := Tryz.sizeOf2
 v2 := Tryz.zeroValue2
 t3 := underlying3
 a3 := Tryz.isAgg3
 z3 := Tryz.sizeOf3
 v3 := Tryz.zeroValue3
 t4 := underlying4
 a4 := Tryz.isAgg4
 z4 := Tryz.sizeOf4
 v4 := Tryz.zeroValue4
 t5 := underlying5
 a5 := Tryz.isAgg5
 z5 := Tryz.sizeOf5
 v5 := Tryz.zeroValue5
 t9 := underlying9
 a9 := Tryz.isAgg9
 z9 := Tryz.sizeOf9
 v9 := Tryz.zeroValue9
 t20 := underlying20
 a20 := Tryz.isAgg20
 z20 := Tryz.sizeOf20
 v20 := Tryz.zeroValue20
 t37 := underlying107
 a37 := Tryz.isAgg107
 z37 := Tryz.sizeOf107
 v37 := Tryz.zeroValue107
 t46 := underlying105
 a46 := Tryz.isAgg105
 z46 := Tryz.sizeOf105
 v46 := Tryz.zeroValue105
 t51 := underlying72
 a51 := Tryz.isAgg72
 z51 := Tryz.sizeOf72
 v51 := Tryz.zeroValue72
 t53 := underlying300
 a53 := Tryz.isAgg300
 z53 := Tryz.sizeOf300
 v53 := Tryz.zeroValue300
 t171 := underlying299
 a171 := Tryz.isAgg299
 z171 := Tryz.sizeOf299
 v171 := Tryz.zeroValue299
 t173 := underlying303
 a173 := Tryz.isAgg303
 z173 := Tryz.sizeOf303
 v173 := Tryz.zeroValue303
 t212 := underlying315
 a212 := Tryz.isAgg315
 z212 := Tryz.sizeOf315
 v212 := Tryz.zeroValue315
 t213 := underlying316
 a213 := Tryz.isAgg316
 z213 := Tryz.sizeOf316
 t232 := underlying321
 a232 := Tryz.isAgg321
 z232 := Tryz.sizeOf321
 v232 := Tryz.zeroValue321
 t233 := underlying322
 a233 := Tryz.isAgg322
 z233 := Tryz.sizeOf322
 v233 := Tryz.zeroValue322
 g17 := by kernel_rfl
 g18 := by kernel_rfl
 g19 := by kernel_rfl
 i0 := by kernel_rfl
 i2 := by kernel_rfl
 i3 := by kernel_rfl
 i4 := by kernel_rfl
 i5 := by kernel_rfl
 i9 := by kernel_rfl
 i20 := by kernel_rfl
 i37 := by kernel_rfl
 i46 := by kernel_rfl
 i51 := by kernel_rfl
 i53 := by kernel_rfl
 i171 := by kernel_rfl
 i173 := by kernel_rfl
 i212 := by kernel_rfl
 i232 := by kernel_rfl
 i233 := by kernel_rfl
 m17 := by kernel_rfl
 m18 := by kernel_rfl
 m19 := by kernel_rfl }
end Go.Proofs.YtbpndheehcbldaaGreatDoor.ito
namespace Go.Proofs.YtbpndheehcbldaaGreatDoor.ito
open Go.RowKit Go.Eb
set_option maxRecDepth 100000
theorem Po (u : Nat) : decB u = ⟨(Lib.decDigits u).toArray⟩ := by
 induction u using Nat.strongRecOn with
 | ind u ih =>
  rw [Lib.decDigits]
  by_cases h : u < 10
  ·rw [dif_pos h, Bo h]
  ·rw [dif_neg h, Gk h, ih (u / 10) (by omega), Bo (by omega)]
   apply ByteArray.ext
   rw [ByteArray.data_append]
   simp
theorem Adm {n : Int} : (⟨(Lib.itoa n).toArray⟩ : ByteArray) = decI n := by
 unfold Lib.itoa decI
 by_cases h : n < 0
 ·rw [if_pos h, decide_eq_true h, cond_true, Po]
  apply ByteArray.ext
  rw [ByteArray.data_append]
  simp
 ·rw [if_neg h, decide_eq_false h, cond_false, Po]
def tab : Array Value := (Lib.pow10Tab.map fun z => Value.int .u64 z).toArray
theorem U9 : tab.size = 20 := by simp [tab, Lib.pow10Tab]
theorem Yu (i : Nat) (h : i < 20) : tab[i]? = some (.int .u64 ((10 ^ i : Nat) : Int)) := by
 simp [tab, Lib.pow10Tab, h]
theorem Ui {I : Im} {w : World} (hg : Glob I w) (i : Nat) (h : i < 21) : w.cell? ⟨0, i, none⟩ = (bif Nat.blt i 20 then some (.int .u64 ((10 ^ i : Nat) : Int)) else none) := by
 have := hg (0, i, bif Nat.blt i 20 then some (.int .u64 ((10 ^ i : Nat) : Int)) else none) (by
  unfold Sc
  exact List.mem_map.2 ⟨i, List.mem_range.2 h, rfl⟩)
 exact this.2
theorem AhY {I : Im} {w : World} (hg : Glob I w) : ∃ t fz, w.heap[0]? = some (.cells tab t fz) := by
 have h0 := Ui hg 0 (by omega)
 rw [show (bif Nat.blt 0 20 then some (Value.int .u64 ((10 ^ 0 : Nat) : Int)) else none) = some (Value.int .u64 1) from rfl] at h0
 have hc : ∀ {c : Array Value} {t : TypeId} {fz : Nat × Nat}, w.heap[0]? = some (.cells c t fz) -> ∀ i, w.cell? ⟨0, i, none⟩ = c[i]? := fun hh i => by
  unfold World.cell?
  rw [hh]
  rfl
 cases hh : w.heap[0]? with
 | none => unfold World.cell? at h0; rw [hh] at h0; cases h0
 | some o =>
  cases o with
  | cells c t fz =>
   refine ⟨t, fz, ?_⟩
   have e : c = tab := by
    apply Array.ext_getElem?
    intro i
    by_cases h : i < 20
    ·have := Ui hg i (by omega)
     rw [hc hh, bltD, decide_eq_true h] at this
     rw [this, Yu i h]
     rfl
    ·have := Ui hg 20 (by omega)
     rw [hc hh] at this
     have h20 : c[20]? = none := this
     have hs : c.size <= 20 := by simpa using h20
     rw [Array.getElem?_eq_none (by omega), Array.getElem?_eq_none (by rw [U9]; omega)]
   rw [e]
  | _ => unfold World.cell? at h0; rw [hh] at h0; cases h0
theorem Uh (w : World) (k : Nat) (os : Array Obj) {b : Nat} (h : b < w.heap.size) : (Sort.grow (w.drewN k) os).heap[b]? = w.heap[b]? := by
 show (w.heap ++ os)[b]? = _
 rw [Array.getElem?_append, if_pos h]
theorem Abj (w : World) (k : Nat) (os : Array Obj) {b o : Nat} (h : b < w.heap.size) : (Sort.grow (w.drewN k) os).cell? ⟨b, o, none⟩ = w.cell? ⟨b, o, none⟩ := by
 unfold World.cell?
 rw [Uh w k os h]
theorem cItoa (n : Int) (h0 : -1000000 <= n) (h1 : n <= 1000000) : CX prog 89 [vI n] [] (vS (decI n)) [] := by
 refine CX.of_cr func89 (by kernel_rfl : f89.body = some (Ad f89)) ?_
 intro β I w vs hr ha
 obtain ⟨hl, hv⟩ := ha
 have hs : vs.size = 1 := by rw [<- hl]; rfl
 obtain ⟨v, rfl⟩ : ∃ v, vs = #[v] := by
  refine ⟨vs[0]'(by omega), ?_⟩
  apply Array.ext
  ·simp [hs]
  ·intro i h1 h2
   have : i = 0 := by omega
   subst this
   rfl
 have hx : RepA β w I (vI n) v := hv 0 _ v rfl (by simp)
 have hd : RepD w I (.v (.int .i64 n)) v := hx
 obtain rfl := RepD.v_eq hd
 obtain ⟨t, fz, hh⟩ := AhY hr.gl
 have hi : ∀ h, β h = .free := fun h => hr.dom h rfl
 refine (Any.strconv_Itoa AgZ n (by omega) (by omega) w ?_).mono ?_
 ·unfold Lib.TabIs World.var?
  refine Eq.trans (congrArg (fun o => Option.bind o _) (?_ : _ = some 0)) ?_
  ·kernel_rfl
  ·show (match w.heap[0]? with | some (.cells cs _ _) => some cs | _ => none) = _
   rw [hh]
   rfl
 ·rintro e w' ⟨rfl, k, os, rfl⟩
  have hsz : w.heap.size <= (Sort.grow (w.drewN k) os).heap.size := by
   show _ <= (w.heap ++ os).size
   simp
  have hE : Ext β I β I w (Sort.grow (w.drewN k) os) := ⟨rfl, rfl, rfl, hsz, fun b hb _ => Uh w k os hb, fun _ _ hi => hi, fun b o hi => Abj w k os (hr.old b o hi), fun _ _ hi => .inl hi, fun x b hb => .inl ⟨x, hb⟩, fun b vs t fz hb => ⟨vs, fz, by rw [Uh w k os (Array.getElem?_eq_some_iff.1 hb).1]; exact hb, rfl⟩⟩
  refine ⟨_, β, I, rfl, ⟨⟨hr.inj, fun h b hb => Nat.lt_of_lt_of_le (hr.lt h b hb) hsz, hr.off, fun b o hi => Nat.lt_of_lt_of_le (hr.old b o hi) hsz, hr.gl.step (fun _ _ hi => hi) hE.cell⟩, hr.dom, fun h B hB => by have hB' : (none : Option Blk) = some B := hB; cases hB'⟩, ?_, hE, .refl β⟩
  rw [Adm]
  exact RepD.v _ rfl
end Go.Proofs.YtbpndheehcbldaaGreatDoor.ito
namespace Go.Proofs.YtbpndheehcbldaaGreatDoor.sg
open Go.RowKit Go.Eb Go.Proofs.YtbpndheehcbldaaGreatDoor.st
set_option maxRecDepth 100000
abbrev rowS (l : List ByteArray) : AV := .c (.row 0 1 l.length)
abbrev hpS (l : List ByteArray) : Hp := [(0, .row l.length (fun i => busC (l.getD i e0)) 1 9)]
theorem AhB : ∀ n : Int, 0 <= n -> n < 16 -> decI n = sgDig.getD n.toNat e0 := by
 intro n h0 h1
 have : n = 0 \/ n = 1 \/ n = 2 \/ n = 3 \/ n = 4 \/ n = 5 \/ n = 6 \/ n = 7 \/ n = 8 \/ n = 9 \/ n = 10 \/ n = 11 \/ n = 12 \/ n = 13 \/ n = 14 \/ n = 15 := by omega
 have e : ∀ k : Nat, decI (k : Int) = decB k := fun k => by
  unfold decI
  rw [decide_eq_false (by omega)]
  rfl
 rcases this with rfl | rfl | rfl | rfl | rfl | rfl | rfl | rfl | rfl | rfl | rfl | rfl | rfl | rfl | rfl | rfl
 ·exact (e 0).trans ((Bo (by omega)).trans rfl)
 ·exact (e 1).trans ((Bo (by omega)).trans rfl)
 ·exact (e 2).trans ((Bo (by omega)).trans rfl)
 ·exact (e 3).trans ((Bo (by omega)).trans rfl)
 ·exact (e 4).trans ((Bo (by omega)).trans rfl)
 ·exact (e 5).trans ((Bo (by omega)).trans rfl)
 ·exact (e 6).trans ((Bo (by omega)).trans rfl)
 ·exact (e 7).trans ((Bo (by omega)).trans rfl)
 ·exact (e 8).trans ((Bo (by omega)).trans rfl)
 ·exact (e 9).trans ((Bo (by omega)).trans rfl)
 ·exact (e 10).trans ((Gk (by omega)).trans (by rw [Bo (by omega), Bo (by omega)]; rfl))
 ·exact (e 11).trans ((Gk (by omega)).trans (by rw [Bo (by omega)]; rfl))
 ·exact (e 12).trans ((Gk (by omega)).trans (by rw [Bo (by omega), Bo (by omega)]; rfl))
 ·exact (e 13).trans ((Gk (by omega)).trans (by rw [Bo (by omega), Bo (by omega)]; rfl))
 ·exact (e 14).trans ((Gk (by omega)).trans (by rw [Bo (by omega), Bo (by omega)]; rfl))
 ·exact (e 15).trans ((Gk (by omega)).trans (by rw [Bo (by omega), Bo (by omega)]; rfl))
def ok16 (n : Int) : Bool := decide (0 <= n) && decide (n < 16)
abbrev eI1 := en1 vI
theorem Kk : InjT eI1 := Ea Jd
theorem sIt : OrcS prog (oIt (okG eI1 ok16) fun x => sgDig.getD (theT eI1 x).toNat e0) :=
 .cons (.t' (enc := eI1) (c := ok16) (r := fun n => vS (sgDig.getD n.toNat e0)) fun n h => by
  unfold ok16 at h
  simp only [Bool.and_eq_true, decide_eq_true_eq] at h
  have := ito.cItoa n (by omega) (by omega)
  rw [AhB n h.1 h.2] at this
  exact this) .nil
theorem AcS {k : Nat} (h : k < 16) : sgBus.getD k e0 = Rk ++ sgDig.getD k e0 := by
 have : ∀ k, k < 16 -> sgBus.getD k e0 = Rk ++ sgDig.getD k e0 := by
  intro k hk
  unfold sgBus
  rw [List.getD_eq_getElem?_getD, List.getElem?_map, List.getElem?_range hk]
  rfl
 exact this k h
theorem AdB : ∀ k, k < 16 -> (sgDig.getD k e0).size <= 2 := by decide
theorem AiH (okd : LB) (it : List AV -> ByteArray) (hok : ∀ k : Nat, k < 16 -> okd [vI k] = true) (hit : ∀ k : Nat, k < 16 -> it [vI k] = sgDig.getD k e0) (q : Int) (g : Nat) : ∀ (m k : Nat) (f : RD), k <= 16 -> 16 - k < m -> RLe busC e0 k f (sgBus.take k) ->
  ∃ f', RLe busC e0 16 f' sgBus /\ K1 okd it q g m k f k = some (.leaf (.c (.row 0 1 16), [(0, .row 16 f' 1 9)]))
 | 0, k, f, _, h, _ => by omega
 | m + 1, k, f, hk, h, hr => by
  rw [AcL]
  by_cases hlt : k < 16
  ·have l : sgBus.length = 16 := by simp [sgBus]
   have hr' : RLe busC e0 (k + 1) (appF k f (Au (busC (Rk ++ sgDig.getD k e0)) 1)) (sgBus.take (k + 1)) := by
    have := hr.app (x := sgBus.getD k e0) (sz := 1) (ds := busC (Rk ++ sgDig.getD k e0)) rfl (by rw [AcS hlt]; exact .refl _)
    rw [List.take_add_one, show sgBus[k]? = some (sgBus.getD k e0) by simp [List.getD, l, hlt]]
    exact this
   obtain ⟨f', h1, h2⟩ := AiH okd it hok hit q g m (k + 1) _ (by omega) (by omega) hr'
   refine ⟨f', h1, ?_⟩
   have e1 : decide ((k : Int) < 16) = true := decide_eq_true (by omega)
   have e2 := hok k hlt
   have e3 := hit k hlt
   have e4 : decide (ByteArray.size (ByteArray.mk #[(116 : UInt8), (114 : UInt8), (105 : UInt8), (112 : UInt8)]) + ByteArray.size (sgDig.getD k e0) <= (9223372036854775807 : Nat)) = true := decide_eq_true (by
    have := AdB k hlt
    show 4 + _ <= _
    omega)
   rw [e1, e2, e3, e4, Fv (by omega)]
   simp only [cond_true]
   rw [show IntKind.wrap IntKind.i64 ((k : Int) + 1) = ((k + 1 : Nat) : Int) by rw [Fz (by omega) (by omega)]; omega]
   exact h2
  ·obtain rfl : k = 16 := by omega
   rw [List.take_of_length_le (by simp [sgBus])] at hr
   exact ⟨f, hr, rfl⟩
theorem Ajw (k : Int) (h1 : 1 <= k) (h4 : k <= 4) : CX prog 108 [vI k] [] (rowS (Cg k)) (hpS (Cg k)) := by
 have : k = 1 \/ k = 2 \/ k = 3 \/ k = 4 := by omega
 have go : ∀ (k : Int) (l : List ByteArray), Al prog (oIt (okG eI1 ok16) fun x => sgDig.getD (theT eI1 x).toNat e0) Acl 20 f108 (Ad f108) [vI k] [] = some (.leaf (.c (.row 0 1 l.length), [(0, .cells ((l.map dS).map .d) 9)])) ->
  CX prog 108 [vI k] [] (rowS l) (hpS l) := fun k l h =>
  CX.of_cr func108 bfix (CR.cellsRow (ds := l.map dS) (by simp) (fun i hi => by
   simp [busC, List.getD, hi]) (M3 sIt.ok func108 bfix rfl h))
 rcases this with rfl | rfl | rfl | rfl
 ·have e := Adt (okG eI1 ok16) (fun x => sgDig.getD (theT eI1 x).toNat e0) 1 20
  rw [show ((1 : Int) == 1) = true from rfl, cond_true] at e
  exact go 1 sgLine e
 ·have e := Adt (okG eI1 ok16) (fun x => sgDig.getD (theT eI1 x).toNat e0) 2 20
  rw [show ((2 : Int) == 1) = false from rfl, cond_false, show ((2 : Int) == 2) = true from rfl, cond_true, cond_true] at e
  exact go 2 sgSrc e
 ·have e := Adt (okG eI1 ok16) (fun x => sgDig.getD (theT eI1 x).toNat e0) 3 20
  rw [show ((3 : Int) == 1) = false from rfl, cond_false, show ((3 : Int) == 2) = false from rfl, cond_false, show ((3 : Int) == 3) = true from rfl, cond_true] at e
  exact go 3 sgSrc e
 ·obtain ⟨f', hr, he⟩ := AiH (okG eI1 ok16) (fun x => sgDig.getD (theT eI1 x).toNat e0) (fun k hk => Aj Kk (c := ok16) (k : Int) (by unfold ok16; rw [decide_eq_true (by omega), decide_eq_true (by omega)]; rfl))
   (fun k hk => by
     have : theT eI1 [vI (k : Int)] = (k : Int) := Ag Kk (k : Int)
     rw [this, Int.toNat_natCast]) 4 20 20 0 (fun _ => []) (by omega) (by omega) (.nil _)
  have e := Adt (okG eI1 ok16) (fun x => sgDig.getD (theT eI1 x).toNat e0) 4 20
  rw [show ((4 : Int) == 1) = false from rfl, cond_false, show ((4 : Int) == 2) = false from rfl, cond_false, show ((4 : Int) == 3) = false from rfl, cond_false, show ((4 : Int) == 4) = true from rfl, cond_true] at e
  have he : K1 (okG eI1 ok16) (fun x => sgDig.getD (theT eI1 x).toNat e0) 4 20 20 0 (fun _ => []) 0 = _ := he
  have hl : sgBus.length = 16 := by simp [sgBus]
  have c := Ax sIt.ok func108 bfix rfl (e.trans he)
  show CX prog 108 [vI 4] [] (rowS sgBus) (hpS sgBus)
  unfold rowS hpS
  rw [hl]
  exact c.le (.refl _) (.cons ⟨rfl, rfl, rfl, hr.le⟩ (.refl _))
end Go.Proofs.YtbpndheehcbldaaGreatDoor.sg
namespace Go.Proofs.YtbpndheehcbldaaGreatDoor.cln
open Go.Shelf
def AaW : Go.Shelf.Ren := ⟨fun | 16 => 142 | n => n, fun | 24 => 22 | 9 => 9 | 4 => 4 | n => n, fun | n => n⟩
theorem Akd : Go.Proofs.Lays2.n16 prog AaW := {
 mixed := by kernel_rfl
 f16 := func142.trans (congrArg some (by kernel_rfl))
 t4 := underlying4
 a4 := Tryz.isAgg4
 z4 := Tryz.sizeOf4
 v4 := Tryz.zeroValue4
 t9 := underlying9
 a9 := Tryz.isAgg9
 z9 := Tryz.sizeOf9
 v9 := Tryz.zeroValue9
 t24 := underlying22
 a24 := Tryz.isAgg22
 z24 := Tryz.sizeOf22
 v24 := Tryz.zeroValue22
 i9 := by kernel_rfl }
end Go.Proofs.YtbpndheehcbldaaGreatDoor.cln
namespace Go.Proofs.YtbpndheehcbldaaGreatDoor.cln
open Go.RowKit Go.Eb
set_option maxRecDepth 100000
theorem cClone (ws : List ByteArray) (h0 : ws ≠ []) (h1 : ws.length <= 1000000) : CX prog 142 [.c (.d (Ab ws))] [] (.c (.row 0 1 ws.length)) [(0, .row ws.length (fun i => busC (ws.getD i e0)) 1 9)] := by
 refine CX.of_cr func142 (by kernel_rfl : f142.body = some (Ad f142)) ?_
 intro β I w vs hr ha
 obtain ⟨hl, hv⟩ := ha
 have hs : vs.size = 1 := by rw [<- hl]; rfl
 obtain ⟨v, rfl⟩ : ∃ v, vs = #[v] := by
  refine ⟨vs[0]'(by omega), ?_⟩
  apply Array.ext
  ·simp [hs]
  ·intro i h1 h2
   have : i = 0 := by omega
   subst this
   rfl
 have hx : RepA β w I (.c (.d (Ab ws))) v := hv 0 _ v rfl (by simp)
 have hd : RepD w I (.sl 1 ws.length fun i => busC (ws.getD i e0)) v := hx
 have hfree : ∀ h, β h = .free := fun h => hr.dom h rfl
 have hpos : 0 < ws.length := List.length_pos_iff.2 h0
 generalize hn : ws.length = n at hd
 cases hd with
 | nil => omega
 | emp => omega
 | sl _ _ _ b off cap g hcap hsz hc hi hre =>
  have hcell : ∀ j, j < ws.length -> w.cell? ⟨b, off + j, none⟩ = some (.string (ws.getD j ByteArray.empty)) := fun j hj => by
   have e1 := hc j 0 _ (by omega) rfl
   have e2 := hre j 0 _ (by omega) rfl
   have e3 : g j 0 = .string (ws.getD j e0) := (RepD.v_eq e2)
   rw [Nat.mul_one, Nat.add_zero] at e1
   rw [e1, e3]
   rfl
  refine (Go.Proofs.Any.slices_Clone_string Akd b off n cap ws w (by omega) (by omega) hcell).mono ?_
  rintro e w' ⟨v', rfl, hown, hnn, hbel⟩
  obtain ⟨hlen, hcase⟩ := hown
  rcases hcase with ⟨rfl, _⟩ | ⟨gb, cap', cur, rfl, hge, hheap, hle, hmx, hcs, htake⟩
  ·exact absurd rfl hnn
  have hgb : gb < w'.heap.size := (Array.getElem?_eq_some_iff.1 hheap).1
  have hb0 : ∀ k bb, (setB β 0 (.row (some gb) n) k).blk = some bb -> k = 0 /\ bb = gb := fun k bb hk => by
   by_cases e : k = 0
   ·subst e
    rw [Ah] at hk
    exact ⟨rfl, by simpa [Nst.blk] using hk.symm⟩
   ·rw [Bj e, hfree] at hk
    cases hk
  have hcl : ∀ bb o, I bb o -> w'.cell? ⟨bb, o, none⟩ = w.cell? ⟨bb, o, none⟩ := fun bb o hI => by
   unfold World.cell?
   rw [hbel.block bb (hr.old bb o hI)]
  have hE : Ext β I (setB β 0 (.row (some gb) n)) I w w' := ⟨hbel.os, hbel.tape, hbel.output, hbel.size, fun bb hbb _ => hbel.block bb hbb, fun _ _ hI => hI, hcl, fun _ _ hI => .inl hI, fun k bb hk => .inr (by rw [(hb0 k bb hk).2]; exact hge),
   fun bb cs t fz hbb => ⟨cs, fz, by rw [hbel.block bb (Array.getElem?_eq_some_iff.1 hbb).1]; exact hbb, rfl⟩⟩
  have hcur : ∀ i, i < n -> cur[i]? = some (.string (ws.getD i e0)) := fun i hi' => by
   have h2 : (cur.toList.take (n * 1))[i]? = some (.string (ws.getD i e0)) := by
    rw [htake, List.take_of_length_le (by omega)]
    have : i < ws.length := by omega
    simp [List.getD, this]
   rw [List.getElem?_take] at h2
   rw [if_pos (by omega)] at h2
   rw [<- Array.getElem?_toList]
   exact h2
  refine ⟨_, setB β 0 (.row (some gb) n), I, rfl, ⟨⟨fun i j bb h1 h2 => by rw [(hb0 i bb h1).1, (hb0 j bb h2).1], fun k bb hk => by rw [(hb0 k bb hk).2]; exact hgb, fun k bb o hk hI => ?_, fun bb o hI => Nat.lt_of_lt_of_le (hr.old bb o hI) hbel.size, hr.gl.step (fun _ _ hI => hI) hcl⟩, fun k hk => ?_, fun k B hB => ?_⟩, ?_, hE, .set (hfree 0) _⟩
  ·rw [(hb0 k bb hk).2] at hI
   have := hr.old gb o hI
   omega
  ·by_cases e : k = 0
   ·subst e
    have hk' : (some (Blk.row n (fun i => busC (ws.getD i e0)) 1 9) : Option Blk) = none := hk
    cases hk'
   ·rw [Bj e]; exact hfree k
  ·by_cases e : k = 0
   ·subst e
    have hB' : some (Blk.row n (fun i => busC (ws.getD i e0)) 1 9) = some B := hB
    cases hB'
    refine ⟨by omega, .inr ⟨gb, cur, Ah _ _ _, hheap, by rw [hcs]; omega, fun i hi' => ⟨rfl, fun j d hj => ?_⟩⟩⟩
    match j, hj with
    | 0, hj =>
     have hj' : dS (ws.getD i e0) = d := by simpa [busC] using hj
     subst hj'
     exact ⟨_, by rw [Nat.mul_one, Nat.add_zero]; exact hcur i hi', RepD.v _ rfl⟩
    | j + 1, hj => simp [busC] at hj
   ·have hB' : (bif Nat.beq k 0 then some (Blk.row n (fun i => busC (ws.getD i e0)) 1 9) else none) = some B := hB
    rw [beqD, decide_eq_false e] at hB'
    cases hB'
  ·refine .inr ⟨gb, cap', rfl, hle, .inr ⟨by rw [Ah]; rfl, fun ob m hm => ?_, cur, _, _, hheap, hcs⟩⟩
   rw [Ah] at hm
   cases hm
   omega
end Go.Proofs.YtbpndheehcbldaaGreatDoor.cln
namespace Go.Proofs.YtbpndheehcbldaaGreatDoor.sg
open Go.RowKit Go.Eb Go.Proofs.YtbpndheehcbldaaGreatDoor.st
set_option maxRecDepth 100000
abbrev lfR (n : Nat) (f : RD) : Option (T (AV × Hp)) := some (.leaf (.c (.row 0 1 n), [(0, .row n f 1 9)]))
theorem cNru (l : List SRule) (hl : l.length <= 5000) : CX prog 109 [.c (.d (L6 l)), .c (.d (.v (.func (.func 110) #[] #[])))] [] (.c (.d (Ab (l.map SRule.name)))) [] := by
 have ho : Dh prog (Orc.cons 110 (inl prog Orc.nil na 1 f110) Orc.nil) := (OrcS.cons (.inl .nil func110 (by kernel_rfl)) .nil).ok
 obtain ⟨f', h1, h2⟩ := app_loop (L := fun m n f i => Tf l (l.length + 1) m n f i) (K := lfR) (l := l) (d := Bb) (c := busC) (d0 := e0) (ch := fun x => [dS x.name]) (e := SRule.name) (sz := 1)
  (fun m k n f hk hn => by rw [Zf, lt1 hk, ge0, tn, nx hk (by omega), Fv (by omega), tt, cond_true, cond_true, cond_true, Nat.zero_add])
  (fun m n f => by rw [Zf, lt0 (Nat.lt_irrefl _)]; rfl) (fun _ => rfl) (fun k hk => .refl _) (l.length + 1) 0 0 (fun _ => []) [] (by omega) (by omega) (by omega) (.nil _)
 simp only [Nat.sub_zero, Nat.zero_add, List.nil_append, List.drop_zero] at h1 h2
 have h2 : Tf l (l.length + 1) (l.length + 1) 0 (fun _ => []) 0 = lfR l.length f' := h2
 have hc := (M3 ho func109 bnru rfl ((AkD l (l.length + 1)).trans h2)).data (y := .c (.d (.sl 1 l.length f'))) rfl
 exact (CX.of_cr func109 bnru hc).le (show DE _ _ from h1.de) (.refl _)
theorem cNsu (l : List SSub) (hl : l.length <= 5000) : CX prog 210 [.c (.d (Ts l)), .c (.d (.v (.func (.func 211) #[] #[])))] [] (.c (.d (Ab (l.map SSub.loc)))) [] := by
 have ho : Dh prog (Orc.cons 211 (inl prog Orc.nil na 1 f211) Orc.nil) := (OrcS.cons (.inl .nil func211 (by kernel_rfl)) .nil).ok
 obtain ⟨f', h1, h2⟩ := app_loop (L := fun m n f i => Te l (l.length + 1) m n f i) (K := lfR) (l := l) (d := sub0) (c := busC) (d0 := e0) (ch := fun x => [dS x.loc]) (e := SSub.loc) (sz := 1)
  (fun m k n f hk hn => by rw [Ze, lt1 hk, ge0, tn, nx hk (by omega), Fv (by omega), tt, cond_true, cond_true, cond_true, Nat.zero_add])
  (fun m n f => by rw [Ze, lt0 (Nat.lt_irrefl _)]; rfl) (fun _ => rfl) (fun k hk => .refl _) (l.length + 1) 0 0 (fun _ => []) [] (by omega) (by omega) (by omega) (.nil _)
 simp only [Nat.sub_zero, Nat.zero_add, List.nil_append, List.drop_zero] at h1 h2
 have h2 : Te l (l.length + 1) (l.length + 1) 0 (fun _ => []) 0 = lfR l.length f' := h2
 have hc := (M3 ho func210 bnsu rfl ((AkC l (l.length + 1)).trans h2)).data (y := .c (.d (.sl 1 l.length f'))) rfl
 exact (CX.of_cr func210 bnsu hc).le (show DE _ _ from h1.de) (.refl _)
def fitR (r : SRel) : Bool := (decide (1 <= r.kind) && decide (r.kind <= 4)) && (decide (r.rules.length <= 1000) && (decide (r.sets.length <= 1000) && (decide (r.pubs.length <= 1000) && (decide (r.subs.length <= 1000) && r.sets.all fun x => decide (x.sigs.length <= 1000)))))
structure FitR (r : SRel) : Prop where
 k1 : 1 <= r.kind
 k4 : r.kind <= 4
 ru : r.rules.length <= 1000
 se : r.sets.length <= 1000
 pu : r.pubs.length <= 1000
 su : r.subs.length <= 1000
 sg : ∀ x ∈ r.sets, x.sigs.length <= 1000
theorem Av {r : SRel} (h : fitR r = true) : FitR r := by
 unfold fitR at h
 simp only [Bool.and_eq_true, decide_eq_true_eq, List.all_eq_true] at h
 exact ⟨h.1.1, h.1.2, h.2.1, h.2.2.1, h.2.2.2.1, h.2.2.2.2.1, h.2.2.2.2.2⟩
def k14 (n : Int) : Bool := decide (1 <= n) && decide (n <= 4)
abbrev eNr (l : List SRule) : List AV := [.c (.d (L6 l)), .c (.d (.v (.func (.func 110) #[] #[])))]
abbrev eNs (l : List SSub) : List AV := [.c (.d (Ts l)), .c (.d (.v (.func (.func 211) #[] #[])))]
theorem AbK : InjT eNr := fun a b h => At (sz := 2) (d0 := Bb) Jg _ _ (H7 (Ai h).1)
theorem AbJ : InjT eNs := fun a b h => At (sz := 4) (d0 := sub0) E7 _ _ (H7 (Ai h).1)
def le5 {α : Type} (l : List α) : Bool := decide (l.length <= 5000)
theorem Mv (k : Int) : (Cg k).length <= 16 := by
 unfold Cg
 cases (k == 1)
 ·cases (k == 2 || k == 3)
  ·cases (k == 4)
   ·exact Nat.zero_le _
   ·show sgBus.length <= 16; simp [sgBus]
  ·show sgSrc.length <= 16; decide
 ·show sgLine.length <= 16; decide
theorem Dj (r : SRel) : (outS r).length <= 16 + r.rules.length := by
 unfold outS
 have := Mv r.kind
 simp; omega
theorem cOu (r : SRel) (h : FitR r) : CX prog 45 [aRel r] [] (rowS (outS r)) (hpS (outS r)) := by
 have ho : OrcS prog (oOu (okG eI1 k14) (fun x => Cg (theT eI1 x)) (okG eNr le5) fun x => (theT eNr x).map SRule.name) :=
  .cons (.nt (enc := eI1) (c := k14) (r := fun k => rowS (Cg k)) (H' := fun k => hpS (Cg k)) fun k hk => by
   unfold k14 at hk
   simp only [Bool.and_eq_true, decide_eq_true_eq] at hk
   exact Ajw k hk.1 hk.2) (.cons (.t' (enc := eNr) (c := le5) (r := fun l => .c (.d (Ab (l.map SRule.name)))) fun l hl => cNru l (by unfold le5 at hl; simpa using hl)) .nil)
 have e := evOu (okG eI1 k14) (fun x => Cg (theT eI1 x)) (okG eNr le5) (fun x => (theT eNr x).map SRule.name) r
 have k1 : okG eI1 k14 [AV.c (C.d (D.v (Value.int IntKind.i64 r.kind)))] = true := Aj Kk (c := k14) r.kind (by unfold k14; rw [decide_eq_true h.k1, decide_eq_true h.k4]; rfl)
 have k2 : theT eI1 [AV.c (C.d (D.v (Value.int IntKind.i64 r.kind)))] = r.kind := Ag Kk r.kind
 have k3 : okG eNr le5 (eNr r.rules) = true := Aj AbK (c := le5) r.rules (by unfold le5; exact decide_eq_true (by have := h.ru; omega))
 have k4 : theT eNr (eNr r.rules) = r.rules := Ag AbK r.rules
 have k5 : (decide (((Cg r.kind).length + (r.rules.map SRule.name).length) * 16 <= 140737488355328) && decide ((Cg r.kind).length + (r.rules.map SRule.name).length <= 9223372036854775807)) = true := by
  have := Mv r.kind
  have := h.ru
  rw [List.length_map, decide_eq_true (by omega), decide_eq_true (by omega)]; rfl
 rw [k1, k2, k3, k4, k5, cond_true, cond_true, cond_true] at e
 refine (Ax ho.ok func45 (by kernel_rfl) rfl e).le ?_ (.cons ((RL.cat (RL.data (Cg r.kind)) (RL.data (r.rules.map SRule.name))).ble) (.refl _))
 unfold rowS
 rw [show (outS r).length = (Cg r.kind).length + (r.rules.map SRule.name).length from List.length_append]
 exact .refl _
theorem cIn (r : SRel) (h : FitR r) : CX prog 143 [aRel r] [] (.c (.d (Ab (inS r)))) [] := by
 have ho : OrcS prog (Orc.cons 210 (ansG (okG eNs le5) fun x => .c (.d (Ab ((theT eNs x).map SSub.loc)))) Orc.nil) :=
  .cons (.t' (enc := eNs) (c := le5) (r := fun l => .c (.d (Ab (l.map SSub.loc)))) fun l hl => cNsu l (by unfold le5 at hl; simpa using hl)) .nil
 have e := evIn (okG eNs le5) (fun x => (theT eNs x).map SSub.loc) r
 have k3 : okG eNs le5 (eNs r.subs) = true := Aj AbJ (c := le5) r.subs (by unfold le5; exact decide_eq_true (by have := h.su; omega))
 have k4 : theT eNs (eNs r.subs) = r.subs := Ag AbJ r.subs
 rw [k3, k4, cond_true] at e
 exact Ax ho.ok func143 (by kernel_rfl) rfl e
theorem cOuD (r : SRel) (h : FitR r) : CX prog 45 [aRel r] [] (.c (.d (Ab (outS r)))) [] := by
 have hb : f45.body = some (Ad f45) := by kernel_rfl
 exact CX.of_cr func45 hb (((cOu r h).cr func45 hb).data (y := .c (.d (Ab (outS r)))) rfl)
def eSx (a : List SSet × ByteArray) : List AV × Hp := ([.c (.d (J9 a.1)), .c (.fn 212 [] [.ptr 0 0])], HN a.2)
theorem Alh {x y : D} {a b : List D} (h : Csle ((x :: a).map .d) ((y :: b).map .d)) : DE x y := h.2 0 (.d x) (.d y) rfl rfl
theorem AbD : InjY eSx := fun a b h1 h2 => Prod.ext (At (sz := 2) (d0 := set0) Gx _ _ (H7 (Ai h1).1))
 (Ed (Alh (x := dS a.2) (y := dS b.2) (a := []) (b := []) (J3 (G4 h2 0 (a := .cells [.d (dS a.2)] 9) (b := .cells [.d (dS b.2)] 9) rfl rfl))))
def ePx (a : List SPub × SSub) : List AV × Hp := ([.c (.d (T1 a.1)), .c (.fn 146 [] [.ptr 0 0])], HSb a.2)
theorem AbH : InjY ePx := fun a b h1 h2 => Prod.ext (At (sz := 3) (d0 := pub0) Ji _ _ (H7 (Ai h1).1))
 (E7 _ _ (Ng (x := subC a.2) (y := subC b.2) (J3 (G4 h2 0 (a := .cells ((subC a.2).map .d) 68) (b := .cells ((subC b.2).map .d) 68) rfl rfl))))
abbrev eRS := en2 aRel vS
theorem Gi : InjT eRS := Mw G7 Yq
def ZSo : KSo where
 ok := okZ eSx fun a => Ak a.1
 ix x H := idxP (fun s : SSet => isT s.name (theY eSx x H).2) 0 (theY eSx x H).1
 nm x H := (theY eSx x H).2
theorem sSo : OrcS prog (oSo ZSo) := .cons (.m (enc := eSx) (c := fun a => Ak a.1) (r := fun a => vI (idxP (fun s : SSet => isT s.name a.2) 0 a.1)) (H' := fun a => HN a.2) fun a h => cisx a.1 a.2 (A7 h)) .nil
theorem cSo (r : SRel) (n : ByteArray) (h : Ak r.sets = true) : CX prog 144 [aRel r, vS n] [] (vI (A0 r n)) [] := by
 have e := evSo ZSo r n
 have k1 : ZSo.ok (eSx (r.sets, n)).1 (eSx (r.sets, n)).2 = true := Hs AbD (c := fun a => Ak a.1) (r.sets, n) h
 have t : theY eSx (eSx (r.sets, n)).1 (eSx (r.sets, n)).2 = (r.sets, n) := E6 AbD (r.sets, n)
 have k2 : ZSo.ix (eSx (r.sets, n)).1 (eSx (r.sets, n)).2 = A0 r n := by dsimp only [ZSo]; rw [t]; rfl
 unfold eSx HN at k1 k2
 refine Ax sSo.ok func144 (by kernel_rfl) rfl (e.trans ?_)
 refine (congrArg (fun b => cond b _ _) k1).trans ?_
 rw [cond_true]
 exact congrArg (fun n => some (T.leaf (vI n, ([] : Hp)))) k2
theorem AiA (l : List ByteArray) (n : ByteArray) (g : Nat) (hb : l.length <= 9223372036854775807) : ∀ (m k : Nat), k <= l.length -> l.length - k < m -> W0 l n g m k = some (.leaf (vI (idxP (fun x : ByteArray => isT x n) k (l.drop k)), []))
 | 0, k, _, h => by omega
 | m + 1, k, hk, h => by
  rw [AfU]
  by_cases hlt : k < l.length
  ·rw [Am (d := e0) hlt, lt1 hlt, ge0, tn, nx hlt hb, AiA l n g hb m (k + 1) (by omega) (by omega), tt, cond_true, cond_true]
   simp only [idxP]
   rw [Qu (l.getD k e0) n]
   show (bif isT n (l.getD k e0) then _ else _) = _
   cases isT n (l.getD k e0) <;> rfl
  ·rw [lt0 hlt, List.drop_of_length_le (by omega)]
   rfl
theorem cSix (l : List ByteArray) (n : ByteArray) (h : Ak l = true) : CX prog 48 [.c (.d (Ab l)), vS n] [] (vI (Bl l n)) [] :=
 Ax (Orc.nil_ok _) func48 bsix rfl ((Akn l n (l.length + 1)).trans (AiA l n (l.length + 1) (A7 h) (l.length + 1) 0 (by omega) (by omega)))
def ZFi : KFi where
 okr := okG eRS fun a => Ak a.1.sets
 so x := A0 (theT eRS x).1 (theT eRS x).2
 okp := okZ ePx fun a => Ak a.1
 px x H := idxP (fun p : SPub => isT p.set (theY ePx x H).2.set) 0 (theY ePx x H).1
 sb x H := (theY ePx x H).2
 okx := okG eIx cIx
 ix x := Bl (theT eIx x).1 (theT eIx x).2
theorem sFi : OrcS prog (oFi ZFi) :=
 .cons (.t' (enc := eRS) (c := fun a => Ak a.1.sets) (r := fun a => vI (A0 a.1 a.2)) fun a h => cSo a.1 a.2 h)
  (.cons (.inl (.cons (.m (enc := ePx) (c := fun a => Ak a.1) (r := fun a => vI (idxP (fun p : SPub => isT p.set a.2.set) 0 a.1)) (H' := fun a => HSb a.2) fun a h => cipx a.1 a.2 (A7 h)) .nil) func145 (by kernel_rfl))
  (.cons (.t' (enc := eIx) (c := cIx) (r := fun a => vI (Bl a.1 a.2)) fun a h => cSix a.1 a.2 h) .nil))
theorem AdM (c : SCfg) (of dev : Int) (x : SSub) (hd : dev < c.rels.length) (ha : c.rels.all B6 = true) : CX prog 79 [aCfg c, vI of, vI dev, Aec x] [] (aPl (Gg c.rels of dev x)) [] := by
 refine Ax sFi.ok func79 (by kernel_rfl) rfl ((evFi ZFi c of dev x).trans ?_)
 unfold Gg
 cases h1 : decide (dev < 0) with
 | true => rfl
 | false =>
  have h1' : 0 <= dev := by have := of_decide_eq_false h1; omega
  cases h2 : (dev == of) with
  | true => rfl
  | false =>
   have hr : B6 (c.rels.getD dev.toNat rel0) = true := Dv ha rfl _
   generalize c.rels.getD dev.toNat rel0 = r at hr ⊢
   obtain ⟨_, o2, o3, _, o5⟩ := Ga hr
   have e1 : (decide (0 <= dev) && decide (dev < (c.rels.length : Int))) = true := by rw [decide_eq_true h1', decide_eq_true hd]; rfl
   have k1 : ZFi.okr [AV.agg (List.map C.d (relC r)), AV.c (C.d (D.v (Value.string x.set)))] = true := Aj Gi (c := fun a => Ak a.1.sets) (r, x.set) (by unfold Ak; exact decide_eq_true o2)
   have t1 : theT eRS [AV.agg (List.map C.d (relC r)), AV.c (C.d (D.v (Value.string x.set)))] = (r, x.set) := Ag Gi (r, x.set)
   have k2 : ZFi.so [AV.agg (List.map C.d (relC r)), AV.c (C.d (D.v (Value.string x.set)))] = A0 r x.set := by dsimp only [ZFi]; rw [t1]
   have k3 : ZFi.okp (ePx (r.pubs, x)).1 (ePx (r.pubs, x)).2 = true := Hs AbH (c := fun a => Ak a.1) (r.pubs, x) (by unfold Ak; exact decide_eq_true o3)
   have t2 : theY ePx (ePx (r.pubs, x)).1 (ePx (r.pubs, x)).2 = (r.pubs, x) := E6 AbH (r.pubs, x)
   have k4 : ZFi.px (ePx (r.pubs, x)).1 (ePx (r.pubs, x)).2 = idxP (fun p : SPub => isT p.set x.set) 0 r.pubs := by dsimp only [ZFi]; rw [t2]
   have k5 : ZFi.sb (ePx (r.pubs, x)).1 (ePx (r.pubs, x)).2 = x := by dsimp only [ZFi]; rw [t2]
   unfold ePx HSb at k3 k4 k5
   simp only [] at k3 k4 k5
   rw [e1, k1, k2, k3, k4, k5]
   simp only [cond_true, cond_false, Mp]
   unfold Yd
   cases h3 : decide (A0 r x.set < 0) with
   | true => rfl
   | false =>
    cases h4 : (r.pubs.any fun p => isT p.set x.set) with
    | false => rfl
    | true =>
     obtain ⟨j, hj, hje, _⟩ := De (p := fun s : SSet => isT s.name x.set) set0 (l := r.sets) (by have := of_decide_eq_false h3; show 0 <= A0 r x.set; omega)
     have hje : A0 r x.set = j := hje
     have e2 : (decide (0 <= A0 r x.set) && decide (A0 r x.set < (r.sets.length : Int))) = true := by rw [hje, decide_eq_true (by omega), decide_eq_true (by omega)]; rfl
     have hs : Jk (r.sets.getD (A0 r x.set).toNat set0) = true := Dv o5 rfl _
     generalize r.sets.getD (A0 r x.set).toNat set0 = q at hs ⊢
     have k6 : ZFi.okx [AV.c (C.d (Aa 1 busC e0 q.sigs)), AV.c (C.d (D.v (Value.string x.sig)))] = true := Aj Cv (c := cIx) (q.sigs, x.sig) hs
     have t3 : theT eIx [AV.c (C.d (Aa 1 busC e0 q.sigs)), AV.c (C.d (D.v (Value.string x.sig)))] = (q.sigs, x.sig) := Ag Cv (q.sigs, x.sig)
     have k7 : ZFi.ix [AV.c (C.d (Aa 1 busC e0 q.sigs)), AV.c (C.d (D.v (Value.string x.sig)))] = Bl q.sigs x.sig := by dsimp only [ZFi]; rw [t3]
     rw [e2, k6, k7]
     simp only [Bool.not_true, cond_true, cond_false]
     cases h5 : decide (Bl q.sigs x.sig < 0) <;> rfl
end Go.Proofs.YtbpndheehcbldaaGreatDoor.sg
namespace Go.Proofs.YtbpndheehcbldaaGreatDoor.sg
open Go.RowKit Go.Eb Go.Proofs.YtbpndheehcbldaaGreatDoor.st
set_option maxRecDepth 100000
structure KSc where
 okd : LB
 dm : List AV -> List (Value × Value)
 oko : LB
 ow : LI
 okf : LB
 fi : List AV -> Plc
def oSc (Z : KSc) : Orc := Orc.cons 77 (ansN (fun x => Z.okd x) (fun _ => .c (.mp 0)) fun x => [(0, .map 1 (Z.dm x))]) (Orc.cons 78 (ansG Z.oko fun x => vI (Z.ow x)) (Orc.cons 79 (ansG Z.okf fun x => aPl (Z.fi x)) (Orc.cons 80 (inl prog Orc.nil na 1 f80) Orc.nil)))
def Acj : Ann := A4 [(3, ⟨[4, 1, 13, 14, 15], []⟩), (9, ⟨[5, 4, 1, 27, 13, 14, 15, 28, 29], []⟩)]
def S7 (Z : KSc) (c : SCfg) (g m : Nat) (l1 : MV) (i15 : Int) := LK prog (oSc Z) Acj 0 g f33 3 m ⟨frm [(1, .c (.ptr 0 0)), (4, .c (.mp 1)), (13, .c (.d (Aa 53 relC rel0 (SCfg.rels c)))), (14, iA (↑(List.length (SCfg.rels c)) : Int)), (15, iA i15)] 0 f33.ntmps, [(0, Blk.cells (List.map C.d (cfgC c)) 30), (1, Blk.map 1 l1)], 2⟩
def Py (Z : KSc) (c : SCfg) (g mo m : Nat) (l1 : MV) (i5 : Int) (i15 : Int) (i28 : Int) (i29 : Int) := LK2 prog (oSc Z) Acj 0 g f33 3 mo 9 m ⟨frm [(1, .c (.ptr 0 0)), (4, .c (.mp 1)), (5, iA i5), (13, .c (.d (Aa 53 relC rel0 (SCfg.rels c)))), (14, iA (↑(List.length (SCfg.rels c)) : Int)), (15, iA i15), (27, .c (.d (Aa 4 subC sub0 (SRel.subs (List.getD (SCfg.rels c) (Int.toNat i15) rel0))))), (28, iA i28), (29, iA i29)] 0 f33.ntmps, [(0, Blk.cells (List.map C.d (cfgC c)) 30), (1, Blk.map 1 l1)], 2⟩
theorem bsck : f33.body = some (Ad f33) := by kernel_rfl
theorem Akp (Z : KSc) (c : SCfg) (g : Nat) : Al prog (oSc Z) Acj g f33 (Ad f33) [aCfg c] [] =
 (bif KSc.okd Z [gA (cfgC c)] then S7 Z c g g (KSc.dm Z [gA (cfgC c)]) 0 else none) := by kernel_rfl
theorem AfW (Z : KSc) (c : SCfg) (g m : Nat) (l1 : MV) (i15 : Int) : S7 Z c g (m + 1) l1 i15 =
 (bif decide (i15 < (↑c.rels.length : Int)) then (bif decide (0 <= i15) && decide (i15 < (↑c.rels.length : Int)) then (bif KSc.oko Z [gA (relC (c.rels.getD
 i15.toNat rel0))] then (bif KSc.ow Z [gA (relC (c.rels.getD i15.toNat rel0))] != 0 then some (T.leaf (AV.tup [(false, [C.d (iD i15)]), (false, [C.d
 (iD (KSc.ow Z [gA (relC (c.rels.getD i15.toNat rel0))]))])], [])) else Py Z c g m g l1 i15 i15 ((↑(SRel.subs (c.rels.getD i15.toNat rel0)).length :
 Int)) 0) else none) else none) else some (T.leaf (AV.tup [(false, [C.d (iD 0)]), (false, [C.d (iD 0)])], []))) := by kernel_rfl
theorem AfV (Z : KSc) (c : SCfg) (g mo m : Nat) (l1 : MV) (i5 : Int) (i15 : Int) (i28 : Int) (i29 : Int) : Py Z c g mo (m + 1) l1 i5 i15 i28 i29 =
 (bif decide (i29 < i28) then (bif decide (0 <= i29) && decide (i29 < (↑(SRel.subs (c.rels.getD i15.toNat rel0)).length : Int)) then (bif Option.isSome (A2 l1 (Value.string (SSub.dev
 ((SRel.subs (c.rels.getD i15.toNat rel0)).getD i29.toNat sub0)))) then (bif KSc.okf Z [gA (cfgC c), AV.c (.d (iD i5)), AV.c (.d (.v (.int .i64
 (Eb.intOf (A2 l1 (Value.string (SSub.dev ((SRel.subs (c.rels.getD i15.toNat rel0)).getD i29.toNat sub0)))))))), gA (subC ((SRel.subs (c.rels.getD i15.toNat
 rel0)).getD i29.toNat sub0))] then (bif Plc.err (KSc.fi Z [gA (cfgC c), AV.c (.d (iD i5)), AV.c (.d (iD (Eb.intOf (A2 l1 (Value.string
 (SSub.dev ((SRel.subs (c.rels.getD i15.toNat rel0)).getD i29.toNat sub0))))))), gA (subC ((SRel.subs (c.rels.getD i15.toNat rel0)).getD i29.toNat sub0))]) != 0
 then some (T.leaf (AV.tup [(false, [C.d (iD i5)]), (false, [C.d (iD (Plc.err (KSc.fi Z [gA (cfgC c), AV.c (.d (.v (.int .i64
 i5))), AV.c (.d (iD (Eb.intOf (A2 l1 (Value.string (SSub.dev ((SRel.subs (c.rels.getD i15.toNat rel0)).getD i29.toNat sub0))))))), gA (subC
 ((SRel.subs (c.rels.getD i15.toNat rel0)).getD i29.toNat sub0))])))])], [])) else Py Z c g mo m l1 i5 i15 i28 (IntKind.wrap .i64 (i29 + 1))) else none) else (bif KSc.okf Z
 [gA (cfgC c), AV.c (.d (iD i5)), AV.c (.d (iD (-1))), gA (subC ((SRel.subs (c.rels.getD i15.toNat rel0)).getD i29.toNat
 sub0))] then (bif Plc.err (KSc.fi Z [gA (cfgC c), iA i5, AV.c (.d (iD (-1))), gA (subC
 ((SRel.subs (c.rels.getD i15.toNat rel0)).getD i29.toNat sub0))]) != 0 then some (T.leaf (AV.tup [(false, [C.d (iD i5)]), (false, [C.d (iD (Plc.err (KSc.fi
 Z [gA (cfgC c), AV.c (.d (iD i5)), AV.c (.d (iD (-1))), gA (subC ((SRel.subs (c.rels.getD i15.toNat rel0)).getD
 i29.toNat sub0))])))])], [])) else Py Z c g mo m l1 i5 i15 i28 (IntKind.wrap .i64 (i29 + 1))) else none)) else none) else S7 Z c g mo l1 (IntKind.wrap .i64 (i15 + 1))) := by kernel_rfl
end Go.Proofs.YtbpndheehcbldaaGreatDoor.sg
namespace Go.Proofs.YtbpndheehcbldaaGreatDoor.sg
open Go.RowKit Go.Eb Go.Proofs.YtbpndheehcbldaaGreatDoor.st
set_option maxRecDepth 100000
theorem AiB (l : List ByteArray) (g : Nat) (hb : l.length <= 9223372036854775807) : ∀ (m k : Nat) (seen : List ByteArray), k <= l.length -> l.length - k < m -> W5 l g m (Ao seen) k = some (.leaf (vB (repS seen (l.drop k)), []))
 | 0, k, _, _, h => by omega
 | m + 1, k, seen, hk, h => by
  rw [AfX]
  by_cases hlt : k < l.length
  ·rw [Am (d := e0) hlt, lt1 hlt, ge0, tn, nx hlt hb, Ck, <- B3, AiB l g hb m (k + 1) _ (by omega) (by omega), tt, cond_true, cond_true]
   simp only [repS]
   cases inB seen (l.getD k e0) <;> rfl
  ·rw [lt0 hlt, List.drop_of_length_le (by omega)]
   rfl
theorem cRpt (l : List ByteArray) (h : Ak l = true) : CX prog 141 [.c (.d (Ab l))] [] (vB (repS [] l)) [] :=
 Ax (Orc.nil_ok _) func141 brpt rfl ((Akt l (l.length + 1)).trans (AiB l (l.length + 1) (A7 h) (l.length + 1) 0 [] (by omega) (by omega)))
theorem AgU (c : SCfg) (g : Nat) (hb : c.rels.length <= 9223372036854775807) : ∀ (m k : Nat) (acc : MV), k <= c.rels.length -> c.rels.length - k < m -> Th c g m acc k = some (.leaf (.c (.mp 0), [(0, .map 1 (devA acc k (c.rels.drop k)))]))
 | 0, k, _, _, h => by omega
 | m + 1, k, acc, hk, h => by
  rw [Agj]
  by_cases hlt : k < c.rels.length
  ·rw [Am (d := rel0) hlt, lt1 hlt, ge0, tn, nx hlt hb, AgU c g hb m (k + 1) _ (by omega) (by omega), AgU c g hb m (k + 1) _ (by omega) (by omega), tt, cond_true, cond_true]
   simp only [devA]
   cases (!(A2 acc (Value.string (c.rels.getD k rel0).name)).isSome) <;> rfl
  ·rw [lt0 hlt, List.drop_of_length_le (by omega)]
   rfl
theorem cDvs (c : SCfg) (h : Ak c.rels = true) : CX prog 77 [aCfg c] [] (.c (.mp 0)) [(0, .map 1 (devA [] 0 c.rels))] :=
 Ax (Orc.nil_ok _) func77 bdvs rfl ((AkM c (c.rels.length + 1)).trans (AgU c (c.rels.length + 1) (A7 h) (c.rels.length + 1) 0 [] (by omega) (by omega)))
abbrev eR1 := en1 aRel
theorem By : InjT eR1 := Ea G7
abbrev eBu := en1 (aD Ab)
theorem Km : InjT eBu := Ea (S3 (At (sz := 1) (d0 := e0) B9))
def cNe (l : List ByteArray) : Bool := !l.isEmpty && decide (l.length <= 1000000)
def ZOw : KOw where
 oko := okG eR1 fitR
 ou x := outS (theT eR1 x)
 okn := okG eR1 fitR
 inn x := inS (theT eR1 x)
 okc := okG eBu cNe
 cl x := theT eBu x
 okr := okG eBu Ak
 rp x := repS [] (theT eBu x)
 oks := okG eRS fun a => Ak a.1.sets
 so x := A0 (theT eRS x).1 (theT eRS x).2
theorem sOw : OrcS prog (oOw ZOw) :=
 .cons (.t' (enc := eR1) (c := fitR) (r := fun r => .c (.d (Ab (outS r)))) fun r h => cOuD r (Av h)) (.cons (.t' (enc := eR1) (c := fitR) (r := fun r => .c (.d (Ab (inS r)))) fun r h => cIn r (Av h))
  (.cons (.nt (enc := eBu) (c := cNe) (r := rowS) (H' := hpS) fun l h => by
    unfold cNe at h
    simp only [Bool.and_eq_true, decide_eq_true_eq, Bool.not_eq_true', List.isEmpty_eq_false_iff] at h
    exact cln.cClone l h.1 h.2)
  (.cons (.lt (enc := eBu) (c := Ak) (r := fun l => vB (repS [] l)) func141 brpt (fun _ => rfl) fun l h => cRpt l h)
  (.cons (.t' (enc := eRS) (c := fun a => Ak a.1.sets) (r := fun a => vI (A0 a.1 a.2)) fun a h => cSo a.1 a.2 h) .nil))))
theorem AgI {r : SRel} (h : FitR r) : outS r ≠ [] := by
 have h1 := h.k1
 have h4 := h.k4
 have : r.kind = 1 \/ r.kind = 2 \/ r.kind = 3 \/ r.kind = 4 := by omega
 unfold outS
 intro e
 have e := (List.append_eq_nil_iff.1 e).1
 rcases this with k | k | k | k <;> (rw [k] at e; revert e; decide)
theorem AaN (r : SRel) (g mo : Nat) (K : List ByteArray) (i : Nat) (hs : (r.sets.getD i set0).sigs.length <= 1000) : ∀ (m j : Nat) (seen : List ByteArray), j <= (r.sets.getD i set0).sigs.length -> (r.sets.getD i set0).sigs.length - j < m ->
  Nm ZOw r g mo m (Ao K) (Ao seen) i ((r.sets.getD i set0).sigs.length : Nat) j = bif D0 K seen ((r.sets.getD i set0).sigs.drop j) != 0 then lN (D0 K seen ((r.sets.getD i set0).sigs.drop j)) else Gw ZOw r g mo (Ao K) (IntKind.wrap IntKind.i64 ((i : Int) + 1))
 | 0, j, _, _, h => by omega
 | m + 1, j, seen, hj, h => by
  rw [AcG, tn i, tn j]
  by_cases hlt : j < (r.sets.getD i set0).sigs.length
  ·rw [Am (d := e0) hlt, lt1 hlt, ge0, nx hlt (by omega), Ck, Ck, <- B3, AaN r g mo K i hs m (j + 1) _ (by omega) (by omega), tt, cond_true, cond_true]
   simp only [D0]
   cases inB K ((r.sets.getD i set0).sigs.getD j e0) with
   | false => rfl
   | true => cases inB seen ((r.sets.getD i set0).sigs.getD j e0) <;> rfl
  ·rw [lt0 hlt, List.drop_of_length_le (by omega)]
   rfl
theorem AaO (r : SRel) (g : Nat) (K : List ByteArray) (hr : FitR r) (hg : 1000 < g) : ∀ (m k : Nat), k <= r.sets.length -> r.sets.length - k < m ->
  Gw ZOw r g m (Ao K) k = bif Cp K (r.sets.drop k) != 0 then lN (Cp K (r.sets.drop k)) else Ky ZOw r g g 0
 | 0, k, _, h => by omega
 | m + 1, k, hk, h => by
  rw [AcH]
  by_cases hlt : k < r.sets.length
  ·have hs := hr.sg _ (A3 set0 hlt)
   have e : Nm ZOw r g m g (Ao K) [] (k : Int) ((r.sets.getD k set0).sigs.length : Nat) 0 = _ := AaN r g m K k hs g 0 [] (by omega) (by omega)
   rw [nx hlt (by have := hr.se; omega), AaO r g K hr hg m (k + 1) (by omega) (by omega), List.drop_zero] at e
   rw [Am (d := set0) hlt, lt1 hlt, ge0, tn, tt, cond_true, cond_true]
   refine e.trans ?_
   simp only [Cp]
   cases hz : (D0 K [] (r.sets.getD k set0).sigs != 0) with
   | true => simp only [cond_true, hz]
   | false => rfl
  ·rw [lt0 hlt, List.drop_of_length_le (by omega)]
   rfl
theorem AaM (r : SRel) (g : Nat) (hr : FitR r) : ∀ (m k : Nat), k <= r.pubs.length -> r.pubs.length - k < m -> Ky ZOw r g m k = lN (D4 r (r.pubs.drop k))
 | 0, k, _, h => by omega
 | m + 1, k, hk, h => by
  rw [AcF]
  by_cases hlt : k < r.pubs.length
  ·rw [Am (d := pub0) hlt, lt1 hlt, ge0, tn, nx hlt (by have := hr.pu; omega), AaM r g hr m (k + 1) (by omega) (by omega), tt, cond_true, cond_true]
   generalize r.pubs.getD k pub0 = p
   have k1 : ZOw.oks [AV.agg (List.map C.d (relC r)), AV.c (C.d (D.v (Value.string p.set)))] = true := Aj Gi (c := fun a => Ak a.1.sets) (r, p.set) (by unfold Ak; exact decide_eq_true (by have := hr.se; show r.sets.length <= _; omega))
   have t1 : theT eRS [AV.agg (List.map C.d (relC r)), AV.c (C.d (D.v (Value.string p.set)))] = (r, p.set) := Ag Gi (r, p.set)
   have k2 : ZOw.so [AV.agg (List.map C.d (relC r)), AV.c (C.d (D.v (Value.string p.set)))] = A0 r p.set := by dsimp only [ZOw]; rw [t1]
   rw [k1, k2, cond_true]
   simp only [D4]
   cases decide (A0 r p.set < 0) <;> rfl
  ·rw [lt0 hlt, List.drop_of_length_le (by omega)]
   rfl
theorem cOwn (r : SRel) (h : fitR r = true) : CX prog 78 [aRel r] [] (vI (D6 r)) [] := by
 have hr := Av h
 have ol := Dj r
 have hru := hr.ru
 obtain ⟨g, hg⟩ : ∃ g, 2000 < g := ⟨2001, by omega⟩
 refine Ax sOw.ok func78 bown rfl ((Akz ZOw r g).trans ?_)
 have k1 : ZOw.oko [AV.agg (List.map C.d (relC r))] = true := Aj By (c := fitR) r h
 have t1 : theT eR1 [AV.agg (List.map C.d (relC r))] = r := Ag By r
 have k2 : ZOw.ou [AV.agg (List.map C.d (relC r))] = outS r := by dsimp only [ZOw]; rw [t1]
 have k3 : ZOw.okn [AV.agg (List.map C.d (relC r))] = true := k1
 have k4 : ZOw.inn [AV.agg (List.map C.d (relC r))] = inS r := by dsimp only [ZOw]; rw [t1]
 have k5 : ZOw.okc [AV.c (C.d (Aa 1 busC e0 (outS r)))] = true := Aj Km (c := cNe) (outS r) (by
  unfold cNe
  rw [decide_eq_true (by omega)]
  cases ho : outS r with
  | nil => exact absurd ho (AgI hr)
  | cons a b => rfl)
 have k6 : ZOw.cl [AV.c (C.d (Aa 1 busC e0 (outS r)))] = outS r := Ag Km (outS r)
 have hcat := RL.cat (c := busC) (d0 := e0) (RL.data (outS r)) (RL.data (inS r))
 have hin : (inS r).length = r.subs.length := by simp [inS]
 have hsu := hr.su
 have a1 : Asle [AV.c (C.d (D.sl 1 ((outS r).length + (inS r).length) (appF (outS r).length (fun i => busC ((outS r).getD i e0)) fun i => busC ((inS r).getD i e0))))] (eBu (outS r ++ inS r)) := .cons (show DE _ _ from hcat.de (sz := 1)) .nil
 have a2 : Asle (eBu (outS r ++ inS r)) [AV.c (C.d (D.sl 1 ((outS r).length + (inS r).length) (appF (outS r).length (fun i => busC ((outS r).getD i e0)) fun i => busC ((inS r).getD i e0))))] := .cons (show DE _ _ from hcat.ed (sz := 1)) .nil
 have k7 : ZOw.okr [AV.c (C.d (D.sl 1 ((outS r).length + (inS r).length) (appF (outS r).length (fun i => busC ((outS r).getD i e0)) fun i => busC ((inS r).getD i e0))))] = true :=
  R2 Km (a := outS r ++ inS r) a1 a2 (by unfold Ak; exact decide_eq_true (by rw [List.length_append]; omega))
 have k8 : ZOw.rp [AV.c (C.d (D.sl 1 ((outS r).length + (inS r).length) (appF (outS r).length (fun i => busC ((outS r).getD i e0)) fun i => busC ((inS r).getD i e0))))] = repS [] (outS r ++ inS r) := by
  dsimp only [ZOw]
  rw [J8 Km (a := outS r ++ inS r) a1 a2]
 have k9 : (decide (((outS r).length + (inS r).length) * 16 <= 140737488355328) && decide ((outS r).length + (inS r).length <= 9223372036854775807)) = true := by
  rw [decide_eq_true (by omega), decide_eq_true (by omega)]; rfl
 rw [k1, k2, k3, k4, k5, k6, k7, k8, k9]
 simp only [cond_true]
 unfold D6
 cases hrep : repS [] (outS r ++ inS r) with
 | true => rfl
 | false =>
  rw [cond_false, cond_false]
  have l1 : Tc ZOw r g g (Ao []) ((0 : Nat) : Int) = Gw ZOw r g g (Ao ([] ++ ((outS r).drop 0).map id)) 0 := Ev (nm := id) (d0 := e0) (l := outS r) (L := fun m mp i => Tc ZOw r g m mp i) (NX := fun mp => Gw ZOw r g g mp 0) (fun m k N hk => by
   rw [Y9, k2, lt1 hk, ge0, tn, nx hk (by omega), B3, tt, cond_true, cond_true]; rfl) (fun m mp => by rw [Y9, k2, lt0 (Nat.lt_irrefl _)]; rfl) g 0 [] (by omega) (by omega)
  rw [List.drop_zero, List.map_id, List.nil_append] at l1
  have l2 : Gw ZOw r g g (Ao (outS r)) ((0 : Nat) : Int) = _ := AaO r g (outS r) hr (by omega) g 0 (by omega) (by have := hr.se; omega)
  have l3 : Ky ZOw r g g ((0 : Nat) : Int) = _ := AaM r g hr g 0 (by omega) (by have := hr.pu; omega)
  rw [List.drop_zero] at l2 l3
  refine Eq.trans l1 (Eq.trans l2 ?_)
  cases hz : (Cp (outS r) r.sets != 0) with
  | true => rfl
  | false => exact l3
def vQ (p : Int × Int) : AV := .tup [(false, [.d (dI p.1)]), (false, [.d (dI p.2)])]
def fitC (l : List SRel) : Bool := decide (l.length <= 1000) && (l.all fitR && l.all B6)
theorem B2 {l : List SRel} (h : fitC l = true) : l.length <= 1000 /\ (∀ r ∈ l, fitR r = true) /\ l.all B6 = true := by
 unfold fitC at h
 simp only [Bool.and_eq_true, decide_eq_true_eq] at h
 exact ⟨h.1, List.all_eq_true.1 h.2.1, h.2.2⟩
abbrev eCf := en1 aCfg
theorem Wy : InjA aCfg := Le AdG
theorem Cz : InjT eCf := Ea Wy
def eFd (c : SCfg) (a : Int × Int × SSub) : List AV := [aCfg c, vI a.1, vI a.2.1, Aec a.2.2]
theorem Acn : InjA Aec := Le E7
theorem Kl (c : SCfg) : InjT (eFd c) := fun a b h => by
 obtain ⟨x1, h⟩ := Ai (Ai h).2
 obtain ⟨x2, h⟩ := Ai h
 obtain ⟨x3, h⟩ := Ai h
 exact Prod.ext (Jd _ _ x1) (Prod.ext (Jd _ _ x2) (Acn _ _ x3))
def cFd (l : List SRel) (a : Int × Int × SSub) : Bool := decide (a.2.1 < l.length)
def ZSc (c : SCfg) : KSc where
 okd := okG eCf fun a => Ak a.rels
 dm x := devA [] 0 (theT eCf x).rels
 oko := okG eR1 fitR
 ow x := D6 (theT eR1 x)
 okf := okG (eFd c) (cFd c.rels)
 fi x := Gg c.rels (theT (eFd c) x).1 (theT (eFd c) x).2.1 (theT (eFd c) x).2.2
theorem sSc (c : SCfg) (h : fitC c.rels = true) : OrcS prog (oSc (ZSc c)) :=
 .cons (.nt (enc := eCf) (c := fun a => Ak a.rels) (r := fun _ => .c (.mp 0)) (H' := fun a => [(0, .map 1 (devA [] 0 a.rels))]) fun a h => cDvs a h) (.cons (.t' (enc := eR1) (c := fitR) (r := fun r => vI (D6 r)) fun r h => cOwn r h)
  (.cons (.t' (enc := eFd c) (c := cFd c.rels) (r := fun a => aPl (Gg c.rels a.1 a.2.1 a.2.2)) fun a ha => AdM c a.1 a.2.1 a.2.2 (by unfold cFd at ha; simpa using ha) (B2 h).2.2) (.cons (.inl .nil func80 (by kernel_rfl)) .nil)))
abbrev lE (p : Int × Int) : Option (T (AV × Hp)) := some (.leaf (vQ p, []))
theorem Jz (l : List SRel) (n : ByteArray) : Cf l n < l.length /\ (Cf l n < 0 -> Cf l n = -1) := by
 rcases Ey (fun r : SRel => isT r.name n) rel0 l 0 with ⟨h1, _⟩ | ⟨k, hk, h1, _⟩
 ·have h1 : Cf l n = -1 := h1
  omega
 ·have h1 : Cf l n = _ := h1
  omega
theorem AeR (c : SCfg) (g mo : Nat) (i : Nat) (hs : (c.rels.getD i rel0).subs.length <= 1000) : ∀ (m j : Nat), j <= (c.rels.getD i rel0).subs.length -> (c.rels.getD i rel0).subs.length - j < m ->
  Py (ZSc c) c g mo m (devA [] 0 c.rels) i i ((c.rels.getD i rel0).subs.length : Nat) j = bif Dy c.rels i ((c.rels.getD i rel0).subs.drop j) != 0 then lE (i, Dy c.rels i ((c.rels.getD i rel0).subs.drop j)) else S7 (ZSc c) c g mo (devA [] 0 c.rels) (IntKind.wrap IntKind.i64 ((i : Int) + 1))
 | 0, j, _, h => by omega
 | m + 1, j, hj, h => by
  rw [AfV, tn i, tn j]
  by_cases hlt : j < (c.rels.getD i rel0).subs.length
  ·rw [Am (d := sub0) hlt, lt1 hlt, ge0, nx hlt (by omega), AeR c g mo i hs m (j + 1) (by omega) (by omega), tt, cond_true, cond_true]
   generalize (c.rels.getD i rel0).subs.getD j sub0 = x
   have key : ∀ d : Int, d < c.rels.length -> (ZSc c).okf [aCfg c, AV.c (C.d (D.v (Value.int IntKind.i64 (i : Int)))), AV.c (C.d (D.v (Value.int IntKind.i64 d))), AV.agg (List.map C.d (subC x))] = true /\ (ZSc c).fi [aCfg c, AV.c (C.d (D.v (Value.int IntKind.i64 (i : Int)))), AV.c (C.d (D.v (Value.int IntKind.i64 d))), AV.agg (List.map C.d (subC x))] = Gg c.rels i d x := fun d hd => by
    have t : theT (eFd c) [aCfg c, AV.c (C.d (D.v (Value.int IntKind.i64 (i : Int)))), AV.c (C.d (D.v (Value.int IntKind.i64 d))), AV.agg (List.map C.d (subC x))] = ((i : Int), d, x) := Ag (Kl c) ((i : Int), d, x)
    refine ⟨Aj (Kl c) (c := cFd c.rels) ((i : Int), d, x) (by unfold cFd; exact decide_eq_true hd), ?_⟩
    dsimp only [ZSc]
    rw [t]
   obtain ⟨d1, d2⟩ := Jz c.rels x.dev
   obtain ⟨k1, k2⟩ := key (Cf c.rels x.dev) d1
   obtain ⟨k3, k4⟩ := key (-1) (by omega)
   rw [Acf]
   simp only [Dy]
   cases hd : decide (Cf c.rels x.dev < 0) with
   | true =>
    have hd' := d2 (of_decide_eq_true hd)
    rw [cond_true, Option.isSome_none, cond_false, k3, k4, cond_true]
    have e : Br c.rels i x = Gg c.rels i (-1) x := by unfold Br; rw [hd']
    rw [e]
    cases hz : ((Gg c.rels i (-1) x).err != 0) with
    | true => simp only [cond_true, hz]; rfl
    | false => rfl
   | false =>
    rw [cond_false, Option.isSome_some, cond_true]
    show (bif (ZSc c).okf [aCfg c, _, AV.c (C.d (D.v (Value.int IntKind.i64 (Cf c.rels x.dev)))), _] then (bif Plc.err ((ZSc c).fi [aCfg c, _, AV.c (C.d (D.v (Value.int IntKind.i64 (Cf c.rels x.dev)))), _]) != 0 then lE (i, Plc.err ((ZSc c).fi [aCfg c, _, AV.c (C.d (D.v (Value.int IntKind.i64 (Cf c.rels x.dev)))), _])) else _) else none) = _
    rw [k1, k2, cond_true]
    have e : Br c.rels i x = Gg c.rels i (Cf c.rels x.dev) x := rfl
    rw [e]
    cases hz : ((Gg c.rels i (Cf c.rels x.dev) x).err != 0) with
    | true => simp only [cond_true, hz]
    | false => rfl
  ·rw [lt0 hlt, List.drop_of_length_le (by omega)]
   rfl
theorem AeS (c : SCfg) (g : Nat) (hl : fitC c.rels = true) (hg : 1000 < g) : ∀ (m k : Nat), k <= c.rels.length -> c.rels.length - k < m -> S7 (ZSc c) c g m (devA [] 0 c.rels) k = lE (C4 c.rels k (c.rels.drop k))
 | 0, k, _, h => by omega
 | m + 1, k, hk, h => by
  rw [AfW]
  by_cases hlt : k < c.rels.length
  ·obtain ⟨hn, hf, _⟩ := B2 hl
   have hfr := hf _ (A3 rel0 hlt)
   have hr := Av hfr
   have e : Py (ZSc c) c g m g (devA [] 0 c.rels) k k ((c.rels.getD k rel0).subs.length : Nat) ((0 : Nat) : Int) = _ := AeR c g m k hr.su g 0 (by omega) (by have := hr.su; omega)
   rw [nx hlt (by omega), AeS c g hl hg m (k + 1) (by omega) (by omega), List.drop_zero] at e
   rw [Am (d := rel0) hlt, lt1 hlt, ge0, tn, tt, cond_true, cond_true]
   have k1 : (ZSc c).oko [AV.agg (List.map C.d (relC (c.rels.getD k rel0)))] = true := Aj By (c := fitR) (c.rels.getD k rel0) hfr
   have k2 : (ZSc c).ow [AV.agg (List.map C.d (relC (c.rels.getD k rel0)))] = D6 (c.rels.getD k rel0) := congrArg D6 (Ag By (c.rels.getD k rel0))
   rw [k1, k2, cond_true]
   simp only [C4]
   unfold D2
   cases hz : (D6 (c.rels.getD k rel0) != 0) with
   | true => simp only [cond_true, hz]; rfl
   | false =>
    refine e.trans ?_
    simp only [cond_false]
    cases hy : (Dy c.rels k (c.rels.getD k rel0).subs != 0) <;> rfl
  ·rw [lt0 hlt, List.drop_of_length_le (by omega)]
   rfl
theorem cSck (c : SCfg) (h : fitC c.rels = true) : CX prog 33 [aCfg c] [] (vQ (C4 c.rels 0 c.rels)) [] := by
 obtain ⟨g, hg⟩ : ∃ g, 2000 < g := ⟨2001, by omega⟩
 have hn := (B2 h).1
 refine Ax (sSc c h).ok func33 bsck rfl ((Akp (ZSc c) c g).trans ?_)
 have k1 : (ZSc c).okd [aCfg c] = true := Aj Cz (c := fun a => Ak a.rels) c (by unfold Ak; exact decide_eq_true (by show c.rels.length <= _; omega))
 have k2 : (ZSc c).dm [aCfg c] = devA [] 0 c.rels := by
  dsimp only [ZSc]
  rw [show theT eCf [aCfg c] = c from Ag Cz c]
 rw [k1, k2, cond_true]
 have := AeS c g h (by omega) g 0 (by omega) (by omega)
 exact this
end Go.Proofs.YtbpndheehcbldaaGreatDoor.sg
namespace Go.Proofs.YtbpndheehcbldaaGreatDoor.sg
open Go.RowKit Go.Eb Go.Proofs.YtbpndheehcbldaaGreatDoor.st
set_option maxRecDepth 100000
def Wu : Ann := A4 [(10, ⟨[4, 3], [(3, 0, 1, 9)]⟩), (14, ⟨[5, 3], [(3, 0, 1, 9)]⟩)]
def Kv (k : Int) (g m : Nat) (n0 : Nat) (f0 : RD) (i4 : Int) := LK prog Orc.nil Wu 0 g f53 10 m ⟨frm [(3, .c (.row 0 1 n0)), (4, iA i4)] 0 f53.ntmps, [(0, Blk.row n0 f0 1 9)], 1⟩
def Ra (k : Int) (g m : Nat) (n0 : Nat) (f0 : RD) (i5 : Int) := LK prog Orc.nil Wu 0 g f53 14 m ⟨frm [(3, .c (.row 0 1 n0)), (5, iA i5)] 0 f53.ntmps, [(0, Blk.row n0 f0 1 9)], 1⟩
theorem brfi : f53.body = some (Ad f53) := by kernel_rfl
theorem Ads (k : Int) (g : Nat) : Al prog Orc.nil Wu g f53 (Ad f53) [vI k] [] =
 (bif k == 1 then some (T.leaf (AV.c (C.row (0) (1) (10)), [(0, Blk.cells [C.d (.v (.string (⟨#[116, (114 : UInt8), 105, 112]⟩))), C.d (.v (.string (⟨#[99, 108, 111, 115, 101]⟩))),
 C.d (D.v (Value.string (⟨#[102, 97, 105, 108]⟩))), C.d (.v (.string (⟨#[115, 101, 110, 100]⟩))), C.d (.v (.string (⟨#[116, 114, 97, 110, 115, 102, 101, 114]⟩))), C.d (D.v
 (Value.string (⟨#[122, 111, 110, 101, 49]⟩))), C.d (.v (.string (⟨#[122, 111, (110 : UInt8), 101, 50]⟩))), C.d (.v (.string (⟨#[122, 111, 110, 101, 51]⟩))), C.d (D.v (Value.string
 (⟨#[116, 105, 109, 101]⟩))), C.d (.v (.string (⟨#[115, 116, 97, (114 : UInt8), 116, 101, 100]⟩)))] (9))])) else (bif k == 2 then (bif k == 2 then some (T.leaf (AV.c (C.row (0) (1)
 (7)), [(0, Blk.cells [C.d (.v (.string (⟨#[116, 114, 105, 112]⟩))), C.d (.v (.string (⟨#[99, 108, 111, 115, 101]⟩))), C.d (.v (.string (⟨#[102, 97, 105, 108]⟩))), C.d (.v (.string
 (⟨#[116, 105, 109, 101]⟩))), C.d (.v (.string (⟨#[115, 116, (97 : UInt8), 114, 116, 101, 100]⟩))), C.d (.v (.string (⟨#[117, 110, 100, 101, (114 : UInt8)]⟩))), C.d (.v (.string
 (⟨#[111, 118, 101, 114]⟩)))] (9))])) else (bif k == 4 then Kv k g g (0 : Nat) (fun x => []) 0 else some (T.leaf (AV.c (.d (.v (.slice none 0 0))), [])))) else (bif k == 3 then some
 (T.leaf (AV.c (C.row (0) (1) (7)), [(0, Blk.cells [C.d (.v (.string (⟨#[116, 114, 105, 112]⟩))), C.d (D.v (Value.string (⟨#[99, 108, 111, 115, 101]⟩))), C.d (.v (.string (⟨#[102,
 97, 105, (108 : UInt8)]⟩))), C.d (.v (.string (⟨#[116, 105, 109, 101]⟩))), C.d (.v (.string (⟨#[115, (116 : UInt8), 97, 114, 116, 101, 100]⟩))), C.d (.v (.string (⟨#[117, 110, 100,
 (101 : UInt8), 114]⟩))), C.d (.v (.string (⟨#[111, 118, 101, 114]⟩)))] (9))])) else (bif k == 4 then Kv k g g 0 (fun x => []) 0 else some (T.leaf (AV.c (.d (.v (.slice none 0 0))),
 [])))))) := by kernel_rfl
theorem AcB (k : Int) (g m : Nat) (n0 : Nat) (f0 : RD) (i4 : Int) : Kv k g (m + 1) n0 f0 i4 =
 (bif decide (i4 < 10) then (bif Fu 1 (some (Blk.cells [C.d (D.v (Value.int IntKind.u8 (IntKind.wrap IntKind.u8 (IntKind.wrap .i64 (48 + i4)))))] (5))) then (bif decide ((n0 + 1) *
 16 <= 140737488355328) && decide (n0 + 1 <= 9223372036854775807) then Kv k g m (n0 + 1) (appF n0 f0 (Au [D.v (.string (ByteArray.mk #[116, 114, 105, 112] ++ M2 1 (some (Blk.cells
 [C.d (D.v (Value.int IntKind.u8 (IntKind.wrap IntKind.u8 (IntKind.wrap .i64 (48 + i4)))))] (5)))))] (0 + 1))) (IntKind.wrap .i64 (i4 + 1)) else none) else none) else Ra k g g n0 f0
 0) := by kernel_rfl
theorem AcA (k : Int) (g m : Nat) (n0 : Nat) (f0 : RD) (i5 : Int) : Ra k g (m + 1) n0 f0 i5 =
 (bif decide (i5 < 6) then (bif Fu 1 (some (Blk.cells [C.d (D.v (Value.int IntKind.u8 (IntKind.wrap IntKind.u8 (IntKind.wrap .i64 (48 + i5)))))] (5))) then (bif decide ((n0 + 1) *
 16 <= 140737488355328) && decide (n0 + 1 <= 9223372036854775807) then Ra k g m (n0 + 1) (appF n0 f0 (Au [D.v (.string (ByteArray.mk #[116, 114, 105, 112, 49] ++ M2 1 (some (Blk.cells
 [C.d (D.v (Value.int IntKind.u8 (IntKind.wrap IntKind.u8 (IntKind.wrap .i64 (48 + i5)))))] (5)))))] (0 + 1))) (IntKind.wrap .i64 (i5 + 1)) else none) else none) else some (T.leaf
 (AV.c (C.row (0) (1) n0), [(0, Blk.row n0 f0 (1) (9))]))) := by kernel_rfl
def oRu (okf : LB) (fx : List AV -> List ByteArray) : Orc := Orc.cons 53 (ansN (fun x => okf x) (fun x => .c (.row 0 1 (fx x).length)) fun x => [(0, .row (fx x).length (fun i => busC ((fx x).getD i e0)) 1 9)]) Orc.nil
def Afp : Ann := A4 [(3, ⟨[1, 4, 3], []⟩)]
def W6 (okf : LB) (fx : List AV -> List ByteArray) (r : SRel) (g m : Nat) (n1 : Nat) (f1 : RD) (i4 : Int) := LK prog (oRu okf fx) Afp 0 g f24 3 m ⟨frm [(1, .c (.ptr 0 0)), (3, .c (.row 1 1 n1)), (4, iA i4)] 0 f24.ntmps, [(0, Blk.cells (List.map C.d (relC r)) 64), (1, Blk.row n1 f1 1 9)], 2⟩
theorem brou : f24.body = some (Ad f24) := by kernel_rfl
theorem Akv (okf : LB) (fx : List AV -> List ByteArray) (r : SRel) (g : Nat) : Al prog (oRu okf fx) Afp g f24 (Ad f24) [aRel r] [] =
 (bif okf [AV.c (.d (iD r.kind))] then W6 okf fx r g g (fx [AV.c (.d (iD r.kind))]).length (fun i => busC ((fx [AV.c (.d (iD r.kind))]).getD i
 e0)) 0 else none) := by kernel_rfl
theorem Y6 (okf : LB) (fx : List AV -> List ByteArray) (r : SRel) (g m : Nat) (n1 : Nat) (f1 : RD) (i4 : Int) : W6 okf fx r g (m + 1) n1 f1 i4 =
 (bif decide (i4 < (↑r.rules.length : Int)) then (bif decide (0 <= i4) && decide (i4 < (↑r.rules.length : Int)) then (bif decide ((n1 + 1) * 16 <= 140737488355328) && decide (n1 + 1 <=
 9223372036854775807) then W6 okf fx r g m (n1 + 1) (appF n1 f1 (Au [dS (SRule.name (r.rules.getD i4.toNat Bb))] (0 + 1))) (IntKind.wrap .i64 (i4 + 1)) else none) else none) else
 some (T.leaf (AV.c (C.row ((0 : Nat)) (1) n1), [(0, Blk.row n1 f1 (1) (9))]))) := by kernel_rfl
def Afr : Ann := A4 [(3, ⟨[1, 4, 3], [(3, 0, 1, 9)]⟩)]
def Ta (r : SRel) (g m : Nat) (n1 : Nat) (f1 : RD) (i4 : Int) := LK prog Orc.nil Afr 0 g f126 3 m ⟨frm [(1, .c (.ptr 0 0)), (3, .c (.row 1 1 n1)), (4, iA i4)] 0 f126.ntmps, [(0, Blk.cells (List.map C.d (relC r)) 64), (1, Blk.row n1 f1 1 9)], 2⟩
theorem brin : f126.body = some (Ad f126) := by kernel_rfl
theorem Akx (r : SRel) (g : Nat) : Al prog Orc.nil Afr g f126 (Ad f126) [aRel r] [] =
 Ta r g g 0 (fun x => []) 0 := by kernel_rfl
theorem Y8 (r : SRel) (g m : Nat) (n1 : Nat) (f1 : RD) (i4 : Int) : Ta r g (m + 1) n1 f1 i4 =
 (bif decide (i4 < (↑r.subs.length : Int)) then (bif decide (0 <= i4) && decide (i4 < (↑r.subs.length : Int)) then (bif decide ((n1 + 1) * 16 <= 140737488355328) && decide (n1 + 1 <=
 9223372036854775807) then Ta r g m (n1 + 1) (appF n1 f1 (Au [dS (SSub.loc (r.subs.getD i4.toNat sub0))] (0 + 1))) (IntKind.wrap .i64 (i4 + 1)) else none) else none) else some
 (T.leaf (AV.c (C.row (0) ((1 : Nat)) n1), [(0, Blk.row n1 f1 (1) (9))]))) := by kernel_rfl
def Afm : Ann := A4 [(2, ⟨[5, 1, 2], []⟩)]
def W3 (c : SCfg) (n : ByteArray) (g m : Nat) (i5 : Int) := LK prog Orc.nil Afm 0 g f54 2 m ⟨frm [(1, .c (.d (.v (.string n)))), (2, .c (.ptr 0 0)), (5, iA i5)] 0 f54.ntmps, [(0, Blk.cells (List.map C.d (cfgC c)) 30)], 1⟩
theorem brrl : f54.body = some (Ad f54) := by kernel_rfl
theorem Akr (c : SCfg) (n : ByteArray) (g : Nat) : Al prog Orc.nil Afm g f54 (Ad f54) [aCfg c, vS n] [] =
 W3 c n g g 0 := by kernel_rfl
theorem Y4 (c : SCfg) (n : ByteArray) (g m : Nat) (i5 : Int) : W3 c n g (m + 1) i5 =
 (bif decide (i5 < (↑c.rels.length : Int)) then (bif decide (0 <= i5) && decide (i5 < (↑c.rels.length : Int)) then (bif (SRel.name (c.rels.getD i5.toNat rel0)).toList == n.toList
 then leI i5 else W3 c n g m (IntKind.wrap IntKind.i64 (i5 + 1))) else none) else leI (-1)) := by kernel_rfl
def Afl : Ann := A4 [(2, ⟨[5, 1, 2], []⟩)]
def W2 (r : SRel) (n : ByteArray) (g m : Nat) (i5 : Int) := LK prog Orc.nil Afl 0 g f55 2 m ⟨frm [(1, .c (.d (.v (.string n)))), (2, .c (.ptr 0 0)), (5, iA i5)] 0 f55.ntmps, [(0, Blk.cells (List.map C.d (relC r)) 64)], 1⟩
theorem brse : f55.body = some (Ad f55) := by kernel_rfl
theorem Akq (r : SRel) (n : ByteArray) (g : Nat) : Al prog Orc.nil Afl g f55 (Ad f55) [aRel r, vS n] [] =
 W2 r n g g 0 := by kernel_rfl
theorem Y3 (r : SRel) (n : ByteArray) (g m : Nat) (i5 : Int) : W2 r n g (m + 1) i5 =
 (bif decide (i5 < (↑r.sets.length : Int)) then (bif decide (0 <= i5) && decide (i5 < (↑r.sets.length : Int)) then (bif (SSet.name (r.sets.getD i5.toNat set0)).toList == n.toList
 then leI i5 else W2 r n g m (IntKind.wrap IntKind.i64 (i5 + 1))) else none) else leI (-1)) := by kernel_rfl
def Afn : Ann := A4 [(2, ⟨[1, 2, 5], []⟩)]
def W4 (r : SRel) (n : ByteArray) (g m : Nat) (i5 : Int) := LK prog Orc.nil Afn 0 g f56 2 m ⟨frm [(1, .c (.d (.v (.string n)))), (2, .c (.ptr 0 0)), (5, iA i5)] 0 f56.ntmps, [(0, Blk.cells (List.map C.d (relC r)) 64)], 1⟩
theorem brpu : f56.body = some (Ad f56) := by kernel_rfl
theorem Aks (r : SRel) (n : ByteArray) (g : Nat) : Al prog Orc.nil Afn g f56 (Ad f56) [aRel r, vS n] [] =
 W4 r n g g 0 := by kernel_rfl
theorem Y5 (r : SRel) (n : ByteArray) (g m : Nat) (i5 : Int) : W4 r n g (m + 1) i5 =
 (bif decide (i5 < (↑r.pubs.length : Int)) then (bif decide (0 <= i5) && decide (i5 < (↑r.pubs.length : Int)) then (bif (SPub.set (r.pubs.getD i5.toNat pub0)).toList == n.toList then
 leB true else W4 r n g m (IntKind.wrap .i64 (i5 + 1))) else none) else leB false) := by kernel_rfl
structure KRf where
 okl : LB
 rl : LI
 oks : LB
 se : LI
 pu : LB
 okx : LB
 ix : LI
def oRf (Z : KRf) : Orc := Orc.cons 54 (ansG Z.okl fun x => vI (Z.rl x)) (Orc.cons 55 (ansG Z.oks fun x => vI (Z.se x)) (Orc.cons 56 (ansG Z.oks fun x => vB (Z.pu x)) (Orc.cons 52 (ansG Z.okx fun x => vI (Z.ix x)) Orc.nil)))
theorem evRf (Z : KRf) (c : SCfg) (of sub : Int) : Al prog (oRf Z) na 5 f25 (Ad f25) [aCfg c, vI of, vI sub] [] =
 (bif decide (of < 0) then some (T.leaf (AV.tup [(true, [C.d (iD 0), C.d (iD 0), C.d (iD 0)]), (false, [C.d (iD 1)])],
 [])) else (bif decide (of >= (↑c.rels.length : Int)) then some (T.leaf (AV.tup [(true, [C.d (iD 0), C.d (iD 0), C.d (iD 0)]), (false, [C.d (D.v
 (Value.int IntKind.i64 1))])], [])) else (bif decide (sub < 0) then some (T.leaf (AV.tup [(true, [C.d (iD 0), C.d (iD 0), C.d (.v (.int .i64
 0))]), (false, [C.d (iD 1)])], [])) else (bif decide (0 <= of) && decide (of < (↑c.rels.length : Int)) then (bif decide (sub >= (↑(SRel.subs (c.rels.getD of.toNat
 rel0)).length : Int)) then some (T.leaf (AV.tup [(true, [C.d (iD 0), C.d (iD 0), C.d (iD 0)]), (false, [C.d (iD 1)])], [])) else
 (bif decide (0 <= of) && decide (of < (↑c.rels.length : Int)) then (bif decide (0 <= sub) && decide (sub < (↑(SRel.subs (c.rels.getD of.toNat rel0)).length : Int)) then (bif KRf.okl
 Z [gA (cfgC c), AV.c (.d (.v (.string (SSub.dev ((SRel.subs (c.rels.getD of.toNat rel0)).getD sub.toNat sub0)))))] then (bif decide (KRf.rl Z [AV.agg (List.map
 C.d (cfgC c)), AV.c (.d (.v (.string (SSub.dev ((SRel.subs (c.rels.getD of.toNat rel0)).getD sub.toNat sub0)))))] < 0) then some (T.leaf (AV.tup [(true, [C.d (iD 0),
 C.d (iD 0), C.d (iD 0)]), (false, [C.d (iD 9)])], [])) else (bif KRf.rl Z [gA (cfgC c), AV.c (.d (.v (.string (SSub.dev
 ((SRel.subs (c.rels.getD of.toNat rel0)).getD sub.toNat sub0)))))] == of then some (T.leaf (AV.tup [(true, [C.d (iD 0), C.d (iD 0), C.d (.v (.int .i64
 0))]), (false, [C.d (iD 12)])], [])) else (bif decide (0 <= KRf.rl Z [gA (cfgC c), AV.c (.d (.v (.string (SSub.dev ((SRel.subs (c.rels.getD of.toNat
 rel0)).getD sub.toNat sub0)))))]) && decide (KRf.rl Z [gA (cfgC c), AV.c (.d (.v (.string (SSub.dev ((SRel.subs (c.rels.getD of.toNat rel0)).getD sub.toNat
 sub0)))))] < (↑c.rels.length : Int)) then (bif KRf.oks Z [gA (relC (c.rels.getD (Int.toNat (KRf.rl Z [gA (cfgC c), AV.c (.d (.v (.string
 (SSub.dev ((SRel.subs (c.rels.getD of.toNat rel0)).getD sub.toNat sub0)))))])) rel0)), AV.c (.d (.v (.string (SSub.set ((SRel.subs (c.rels.getD of.toNat rel0)).getD sub.toNat
 sub0)))))] then (bif decide (KRf.se Z [gA (relC (c.rels.getD (Int.toNat (KRf.rl Z [gA (cfgC c), AV.c (C.d (D.v (Value.string (SSub.dev
 ((SRel.subs (c.rels.getD of.toNat rel0)).getD sub.toNat sub0)))))])) rel0)), AV.c (.d (.v (.string (SSub.set ((SRel.subs (c.rels.getD of.toNat rel0)).getD sub.toNat sub0)))))] <
 0) then some (T.leaf (AV.tup [(true, [C.d (iD 0), C.d (iD 0), C.d (iD 0)]), (false, [C.d (iD 9)])], [])) else (bif
 decide (0 <= KRf.rl Z [gA (cfgC c), AV.c (.d (.v (.string (SSub.dev ((SRel.subs (c.rels.getD of.toNat rel0)).getD sub.toNat sub0)))))]) && decide (KRf.rl Z
 [gA (cfgC c), AV.c (.d (.v (.string (SSub.dev ((SRel.subs (c.rels.getD of.toNat rel0)).getD sub.toNat sub0)))))] < (↑c.rels.length : Int)) then (bif KRf.oks Z
 [gA (relC (c.rels.getD (Int.toNat (KRf.rl Z [gA (cfgC c), AV.c (C.d (D.v (Value.string (SSub.dev ((SRel.subs (c.rels.getD of.toNat rel0)).getD
 sub.toNat sub0)))))])) rel0)), AV.c (.d (.v (.string (SSub.set ((SRel.subs (c.rels.getD of.toNat rel0)).getD sub.toNat sub0)))))] then (bif !KRf.pu Z [gA (relC
 (c.rels.getD (Int.toNat (KRf.rl Z [gA (cfgC c), AV.c (.d (.v (.string (SSub.dev ((SRel.subs (c.rels.getD of.toNat rel0)).getD sub.toNat sub0)))))])) rel0)),
 AV.c (.d (.v (.string (SSub.set ((SRel.subs (c.rels.getD of.toNat rel0)).getD sub.toNat sub0)))))] then some (T.leaf (AV.tup [(true, [C.d (iD 0), C.d (.v
 (.int .i64 0)), C.d (iD 0)]), (false, [C.d (iD 11)])], [])) else (bif decide (0 <= KRf.rl Z [gA (cfgC c), AV.c (.d (.v (.string (SSub.dev
 ((SRel.subs (c.rels.getD of.toNat rel0)).getD sub.toNat sub0)))))]) && decide (KRf.rl Z [gA (cfgC c), AV.c (.d (.v (.string (SSub.dev ((SRel.subs (c.rels.getD
 of.toNat rel0)).getD sub.toNat sub0)))))] < (↑c.rels.length : Int)) then (bif decide (0 <= KRf.se Z [gA (relC (c.rels.getD (Int.toNat (KRf.rl Z [AV.agg (List.map
 C.d (cfgC c)), AV.c (.d (.v (.string (SSub.dev ((SRel.subs (c.rels.getD of.toNat rel0)).getD sub.toNat sub0)))))])) rel0)), AV.c (.d (.v (.string (SSub.set ((SRel.subs
 (c.rels.getD of.toNat rel0)).getD sub.toNat sub0)))))]) && decide (KRf.se Z [gA (relC (c.rels.getD (Int.toNat (KRf.rl Z [gA (cfgC c), AV.c (.d
 (.v (.string (SSub.dev ((SRel.subs (c.rels.getD of.toNat rel0)).getD sub.toNat sub0)))))])) rel0)), AV.c (.d (.v (.string (SSub.set ((SRel.subs (c.rels.getD of.toNat rel0)).getD
 sub.toNat sub0)))))] < (↑(SRel.sets (c.rels.getD (Int.toNat (KRf.rl Z [gA (cfgC c), AV.c (C.d (D.v (Value.string (SSub.dev ((SRel.subs (c.rels.getD of.toNat
 rel0)).getD sub.toNat sub0)))))])) rel0)).length : Int)) then (bif KRf.okx Z [AV.c (C.d (Aa ((1 : Nat)) busC e0 (SSet.sigs ((SRel.sets (c.rels.getD (Int.toNat (KRf.rl Z [AV.agg
 (List.map C.d (cfgC c)), AV.c (.d (.v (.string (SSub.dev ((SRel.subs (c.rels.getD of.toNat rel0)).getD sub.toNat sub0)))))])) rel0)).getD (Int.toNat (KRf.se Z [AV.agg (List.map C.d
 (relC (c.rels.getD (Int.toNat (KRf.rl Z [gA (cfgC c), AV.c (.d (.v (.string (SSub.dev ((SRel.subs (c.rels.getD of.toNat rel0)).getD sub.toNat sub0)))))]))
 rel0))), AV.c (.d (.v (.string (SSub.set ((SRel.subs (c.rels.getD of.toNat rel0)).getD sub.toNat sub0)))))])) set0)))), AV.c (C.d (D.v (Value.string (SSub.sig ((SRel.subs
 (c.rels.getD of.toNat rel0)).getD sub.toNat sub0)))))] then (bif decide (KRf.ix Z [AV.c (C.d (Aa (1) busC e0 (SSet.sigs ((SRel.sets (c.rels.getD (Int.toNat (KRf.rl Z [AV.agg
 (List.map C.d (cfgC c)), AV.c (.d (.v (.string (SSub.dev ((SRel.subs (c.rels.getD of.toNat rel0)).getD sub.toNat sub0)))))])) rel0)).getD (Int.toNat (KRf.se Z [AV.agg (List.map C.d
 (relC (c.rels.getD (Int.toNat (KRf.rl Z [gA (cfgC c), AV.c (.d (.v (.string (SSub.dev ((SRel.subs (c.rels.getD of.toNat rel0)).getD sub.toNat sub0)))))]))
 rel0))), AV.c (.d (.v (.string (SSub.set ((SRel.subs (c.rels.getD of.toNat rel0)).getD sub.toNat sub0)))))])) set0)))), AV.c (C.d (D.v (Value.string (SSub.sig ((SRel.subs
 (c.rels.getD of.toNat rel0)).getD sub.toNat sub0)))))] < 0) then some (T.leaf (AV.tup [(true, [C.d (iD 0), C.d (iD 0), C.d (.v (.int .i64
 0))]), (false, [C.d (iD 9)])], [])) else some (T.leaf (AV.tup [(true, [C.d (iD (KRf.rl Z [gA (cfgC c), AV.c (.d (.v (.string (SSub.dev
 ((SRel.subs (c.rels.getD of.toNat rel0)).getD sub.toNat sub0)))))])), C.d (iD (KRf.se Z [gA (relC (c.rels.getD (Int.toNat (KRf.rl Z [AV.agg (List.map
 C.d (cfgC c)), AV.c (.d (.v (.string (SSub.dev ((SRel.subs (c.rels.getD of.toNat rel0)).getD sub.toNat sub0)))))])) rel0)), AV.c (.d (.v (.string (SSub.set ((SRel.subs
 (c.rels.getD of.toNat rel0)).getD sub.toNat sub0)))))])), C.d (iD (KRf.ix Z [AV.c (C.d (Aa (1) busC e0 (SSet.sigs ((SRel.sets (c.rels.getD (Int.toNat (KRf.rl Z [AV.agg
 (List.map C.d (cfgC c)), AV.c (C.d (D.v (Value.string (SSub.dev ((SRel.subs (c.rels.getD of.toNat rel0)).getD sub.toNat sub0)))))])) rel0)).getD (Int.toNat (KRf.se Z [AV.agg
 (List.map C.d (relC (c.rels.getD (Int.toNat (KRf.rl Z [gA (cfgC c), AV.c (.d (.v (.string (SSub.dev ((SRel.subs (c.rels.getD of.toNat rel0)).getD sub.toNat
 sub0)))))])) rel0))), AV.c (.d (.v (.string (SSub.set ((SRel.subs (c.rels.getD of.toNat rel0)).getD sub.toNat sub0)))))])) set0)))), AV.c (.d (.v (.string (SSub.sig ((SRel.subs
 (c.rels.getD of.toNat rel0)).getD sub.toNat sub0)))))]))]), (false, [C.d (iD 0)])], []))) else none) else none) else none)) else none) else none)) else
 none) else none))) else none) else none) else none)) else none)))) := by kernel_rfl
def oTw (okx : LB) (ix : LI) : Orc := Orc.cons 52 (ansG okx fun x => vI (ix x)) Orc.nil
def Afi : Ann := A4 [(2, ⟨[0, 3], []⟩)]
def Wz (okx : LB) (ix : LI) (l : List ByteArray) (g m : Nat) (i3 : Int) := LK prog (oTw okx ix) Afi 0 g f125 2 m ⟨frm [(0, .c (.d (Aa 1 busC e0 l))), (3, iA i3)] 0 f125.ntmps, [], 0⟩
theorem btwi : f125.body = some (Ad f125) := by kernel_rfl
theorem Akj (okx : LB) (ix : LI) (l : List ByteArray) (g : Nat) : Al prog (oTw okx ix) Afi g f125 (Ad f125) [.c (.d (Ab l))] [] =
 Wz okx ix l g g 0 := by kernel_rfl
theorem AfT (okx : LB) (ix : LI) (l : List ByteArray) (g m : Nat) (i3 : Int) : Wz okx ix l g (m + 1) i3 =
 (bif decide (i3 < (↑l.length : Int)) then (bif decide (0 <= (↑(0 : Nat) : Int)) && decide ((↑(0 : Nat) : Int) <= i3) && decide (i3 <= (↑l.length : Int)) then (bif decide (0 <= i3) &&
 decide (i3 < (↑l.length : Int)) then (bif okx [AV.c (C.d (D.sl (1) (i3.toNat - Int.toNat (↑(0 : Nat) : Int)) fun i => busC (l.getD (Int.toNat (↑(0 : Nat) : Int) + i) e0))), AV.c
 (.d (.v (.string (l.getD i3.toNat e0))))] then (bif decide (ix [AV.c (C.d (D.sl (1) (i3.toNat - Int.toNat (↑(0 : Nat) : Int)) fun i => busC (l.getD (Int.toNat (↑(0 : Nat) : Int) +
 i) e0))), AV.c (.d (.v (.string (l.getD i3.toNat e0))))] >= 0) then leB true else Wz okx ix l g m (IntKind.wrap .i64 (i3 + 1))) else none) else none) else none) else leB false) := by kernel_rfl
structure KRo where
 oko : LB
 ou : List AV -> List ByteArray
 inn : List AV -> List ByteArray
 okt : LB
 tw : LB
 okx : LB
 ix : LI
 oks : LB
 se : LI
 okf : LB
 fi : List AV -> Plc
def oRo (Z : KRo) : Orc := Orc.cons 24 (ansN (fun x => Z.oko x) (fun x => .c (.row 0 1 (Z.ou x).length)) fun x => [(0, .row (Z.ou x).length (fun i => busC ((Z.ou x).getD i e0)) 1 9)]) (Orc.cons 126 (ansG Z.oko fun x => .c (.d (Ab (Z.inn x))))
 (Orc.cons 125 (ansL Z.okt fun x => vB (Z.tw x)) (Orc.cons 52 (ansL Z.okx fun x => vI (Z.ix x)) (Orc.cons 55 (ansG Z.oks fun x => vI (Z.se x)) (Orc.cons 25 (ansG Z.okf fun x => aPl (Z.fi x)) Orc.nil)))))
def S1 : Ann := A4 [(5, ⟨[6, 5, 1, 2], []⟩), (8, ⟨[6, 5, 1, 2, 7], []⟩), (16, ⟨[5, 1, 2, 9], []⟩), (21, ⟨[1, 2, 5, 10], []⟩)]
def P0 (Z : KRo) (c : SCfg) (i : Int) (g m : Nat) (i6 : Int) := LK prog (oRo Z) S1 0 g f64 5 m ⟨frm [(1, iA i), (2, .c (.ptr 0 0)), (5, .c (.ptr 1 0)), (6, iA i6)] 0 f64.ntmps, [(0, Blk.cells (List.map C.d (cfgC c)) 30), (1, Blk.cells (List.map C.d (relC (List.getD (SCfg.rels c) (Int.toNat i) rel0))) 64)], 2⟩
def Td (Z : KRo) (c : SCfg) (i : Int) (g mo m : Nat) (i6 : Int) (i7 : Int) := LK2 prog (oRo Z) S1 0 g f64 5 mo 8 m ⟨frm [(1, iA i), (2, .c (.ptr 0 0)), (5, .c (.ptr 1 0)), (6, iA i6), (7, iA i7)] 0 f64.ntmps, [(0, Blk.cells (List.map C.d (cfgC c)) 30), (1, Blk.cells (List.map C.d (relC (List.getD (SCfg.rels c) (Int.toNat i) rel0))) 64)], 2⟩
def K0 (Z : KRo) (c : SCfg) (i : Int) (g m : Nat) (i9 : Int) := LK prog (oRo Z) S1 0 g f64 16 m ⟨frm [(1, iA i), (2, .c (.ptr 0 0)), (5, .c (.ptr 1 0)), (9, iA i9)] 0 f64.ntmps, [(0, Blk.cells (List.map C.d (cfgC c)) 30), (1, Blk.cells (List.map C.d (relC (List.getD (SCfg.rels c) (Int.toNat i) rel0))) 64)], 2⟩
def Kz (Z : KRo) (c : SCfg) (i : Int) (g m : Nat) (i10 : Int) := LK prog (oRo Z) S1 0 g f64 21 m ⟨frm [(1, iA i), (2, .c (.ptr 0 0)), (5, .c (.ptr 1 0)), (10, iA i10)] 0 f64.ntmps, [(0, Blk.cells (List.map C.d (cfgC c)) 30), (1, Blk.cells (List.map C.d (relC (List.getD (SCfg.rels c) (Int.toNat i) rel0))) 64)], 2⟩
theorem bone : f64.body = some (Ad f64) := by kernel_rfl
theorem AkA (Z : KRo) (c : SCfg) (i : Int) (g : Nat) : Al prog (oRo Z) S1 g f64 (Ad f64) [aCfg c, vI i] [] =
 (bif decide (0 <= i) && decide (i < (↑c.rels.length : Int)) then (bif KRo.oko Z [gA (relC (c.rels.getD i.toNat rel0))] then (bif KRo.oko Z [AV.agg (List.map C.d
 (relC (c.rels.getD i.toNat rel0)))] then (bif decide (((KRo.ou Z [gA (relC (c.rels.getD i.toNat rel0))]).length + (KRo.inn Z [gA (relC
 (c.rels.getD i.toNat rel0))]).length) * 16 <= 140737488355328) && decide ((KRo.ou Z [gA (relC (c.rels.getD i.toNat rel0))]).length + (KRo.inn Z [AV.agg (List.map
 C.d (relC (c.rels.getD i.toNat rel0)))]).length <= 9223372036854775807) then (bif KRo.okt Z [AV.c (C.d (D.sl (1) ((KRo.ou Z [gA (relC (c.rels.getD i.toNat
 rel0))]).length + (KRo.inn Z [gA (relC (c.rels.getD i.toNat rel0))]).length) (appF (KRo.ou Z [gA (relC (c.rels.getD i.toNat rel0))]).length
 (fun i_1 => busC ((KRo.ou Z [gA (relC (c.rels.getD i.toNat rel0))]).getD i_1 e0)) fun i_1 => busC ((KRo.inn Z [gA (relC (c.rels.getD i.toNat
 rel0))]).getD i_1 e0))))] then (bif KRo.tw Z [AV.c (C.d (D.sl (1) ((KRo.ou Z [gA (relC (c.rels.getD i.toNat rel0))]).length + (KRo.inn Z [AV.agg (List.map C.d
 (relC (c.rels.getD i.toNat rel0)))]).length) (appF (KRo.ou Z [gA (relC (c.rels.getD i.toNat rel0))]).length (fun i_1 => busC ((KRo.ou Z [AV.agg (List.map C.d
 (relC (c.rels.getD i.toNat rel0)))]).getD i_1 e0)) fun i_1 => busC ((KRo.inn Z [gA (relC (c.rels.getD i.toNat rel0))]).getD i_1 e0))))] then leI 8 else P0 Z c i
 g g 0) else none) else none) else none) else none) else none) := by kernel_rfl
theorem Agd (Z : KRo) (c : SCfg) (i : Int) (g m : Nat) (i6 : Int) : P0 Z c i g (m + 1) i6 =
 (bif decide (i6 < (↑(SRel.sets (c.rels.getD i.toNat rel0)).length : Int)) then Td Z c i g m g i6 0 else K0 Z c i g g 0) := by kernel_rfl
theorem Agc (Z : KRo) (c : SCfg) (i : Int) (g mo m : Nat) (i6 : Int) (i7 : Int) : Td Z c i g mo (m + 1) i6 i7 =
 (bif decide (0 <= i6) && decide (i6 < (↑(SRel.sets (c.rels.getD i.toNat rel0)).length : Int)) then (bif decide (i7 < (↑(SSet.sigs ((SRel.sets (c.rels.getD i.toNat rel0)).getD
 i6.toNat set0)).length : Int)) then (bif decide (0 <= i6) && decide (i6 < (↑(SRel.sets (c.rels.getD i.toNat rel0)).length : Int)) then (bif decide (0 <= i7) && decide (i7 <
 (↑(SSet.sigs ((SRel.sets (c.rels.getD i.toNat rel0)).getD i6.toNat set0)).length : Int)) then (bif KRo.oko Z [gA (relC (c.rels.getD i.toNat rel0))] then (bif
 KRo.okx Z [AV.c (C.d (Aa (1) busC e0 (KRo.ou Z [gA (relC (c.rels.getD i.toNat rel0))]))), AV.c (.d (.v (.string ((SSet.sigs ((SRel.sets (c.rels.getD i.toNat
 rel0)).getD i6.toNat set0)).getD i7.toNat e0))))] then (bif decide (KRo.ix Z [AV.c (C.d (Aa (1) busC e0 (KRo.ou Z [gA (relC (c.rels.getD i.toNat rel0))]))), AV.c
 (.d (.v (.string ((SSet.sigs ((SRel.sets (c.rels.getD i.toNat rel0)).getD i6.toNat set0)).getD i7.toNat e0))))] < 0) then leI 9 else (bif decide (0 <= i6) && decide (i6 <
 (↑(SRel.sets (c.rels.getD i.toNat rel0)).length : Int)) then (bif decide (0 <= (↑(0 : Nat) : Int)) && decide ((↑(0 : Nat) : Int) <= i7) && decide (i7 <= (↑(SSet.sigs ((SRel.sets
 (c.rels.getD i.toNat rel0)).getD i6.toNat set0)).length : Int)) then (bif KRo.okx Z [AV.c (C.d (D.sl (1) (i7.toNat - Int.toNat (↑(0 : Nat) : Int)) fun i_1 => busC ((SSet.sigs
 ((SRel.sets (c.rels.getD i.toNat rel0)).getD i6.toNat set0)).getD (Int.toNat (↑(0 : Nat) : Int) + i_1) e0))), AV.c (.d (.v (.string ((SSet.sigs ((SRel.sets (c.rels.getD i.toNat
 rel0)).getD i6.toNat set0)).getD i7.toNat e0))))] then (bif decide (KRo.ix Z [AV.c (C.d (D.sl (1) (i7.toNat - Int.toNat (↑(0 : Nat) : Int)) fun i_1 => busC ((SSet.sigs ((SRel.sets
 (c.rels.getD i.toNat rel0)).getD i6.toNat set0)).getD (Int.toNat (↑(0 : Nat) : Int) + i_1) e0))), AV.c (C.d (D.v (Value.string ((SSet.sigs ((SRel.sets (c.rels.getD i.toNat
 rel0)).getD i6.toNat set0)).getD i7.toNat e0))))] >= 0) then leI 8 else Td Z c i g mo m i6 (IntKind.wrap .i64 (i7 + 1))) else none) else none) else none)) else none) else none) else
 none) else none) else P0 Z c i g mo (IntKind.wrap .i64 (i6 + 1))) else none) := by kernel_rfl
theorem AcK (Z : KRo) (c : SCfg) (i : Int) (g m : Nat) (i9 : Int) : K0 Z c i g (m + 1) i9 =
 (bif decide (i9 < (↑(SRel.pubs (c.rels.getD i.toNat rel0)).length : Int)) then (bif decide (0 <= i9) && decide (i9 < (↑(SRel.pubs (c.rels.getD i.toNat rel0)).length : Int)) then
 (bif KRo.oks Z [gA (relC (c.rels.getD i.toNat rel0)), AV.c (C.d (D.v (Value.string (SPub.set ((SRel.pubs (c.rels.getD i.toNat rel0)).getD i9.toNat pub0)))))]
 then (bif decide (KRo.se Z [gA (relC (c.rels.getD i.toNat rel0)), AV.c (.d (.v (.string (SPub.set ((SRel.pubs (c.rels.getD i.toNat rel0)).getD i9.toNat
 pub0)))))] < 0) then leI 9 else K0 Z c i g m (IntKind.wrap .i64 (i9 + 1))) else none) else none) else Kz Z c i g g 0) := by kernel_rfl
theorem AcJ (Z : KRo) (c : SCfg) (i : Int) (g m : Nat) (i10 : Int) : Kz Z c i g (m + 1) i10 =
 (bif decide (i10 < (↑(SRel.subs (c.rels.getD i.toNat rel0)).length : Int)) then (bif KRo.okf Z [gA (cfgC c), iA i, AV.c (.d
 (iD i10))] then (bif Plc.err (KRo.fi Z [gA (cfgC c), AV.c (.d (iD i)), iA i10]) != 0 then leI (Plc.err (KRo.fi
 Z [gA (cfgC c), iA i, AV.c (.d (iD i10))])) else Kz Z c i g m (IntKind.wrap .i64 (i10 + 1))) else none) else
 leI 0) := by kernel_rfl
def oRc (ok : LB) (er : LI) : Orc := Orc.cons 64 (ansG ok fun x => vI (er x)) Orc.nil
def Afs : Ann := A4 [(2, ⟨[4, 1], []⟩)]
def W7 (ok : LB) (er : LI) (c : SCfg) (g m : Nat) (i4 : Int) := LK prog (oRc ok er) Afs 0 g f30 2 m ⟨frm [(1, .c (.ptr 0 0)), (4, iA i4)] 0 f30.ntmps, [(0, Blk.cells (List.map C.d (cfgC c)) 30)], 1⟩
theorem brck : f30.body = some (Ad f30) := by kernel_rfl
theorem Aky (ok : LB) (er : LI) (c : SCfg) (g : Nat) : Al prog (oRc ok er) Afs g f30 (Ad f30) [aCfg c] [] =
 W7 ok er c g g 0 := by kernel_rfl
theorem Agb (ok : LB) (er : LI) (c : SCfg) (g m : Nat) (i4 : Int) : W7 ok er c g (m + 1) i4 =
 (bif decide (i4 < (↑c.rels.length : Int)) then (bif ok [gA (cfgC c), AV.c (.d (iD i4))] then (bif er [gA (cfgC c), AV.c (.d (.v
 (.int .i64 i4)))] != 0 then some (T.leaf (AV.tup [(false, [C.d (iD i4)]), (false, [C.d (iD (er [gA (cfgC c), AV.c (.d (.v
 (.int .i64 i4)))]))])], [])) else W7 ok er c g m (IntKind.wrap .i64 (i4 + 1))) else none) else some (T.leaf (AV.tup [(false, [C.d (iD 0)]), (false, [C.d (.v (.int .i64
 0))])], []))) := by kernel_rfl
end Go.Proofs.YtbpndheehcbldaaGreatDoor.sg
namespace Go.Proofs.YtbpndheehcbldaaGreatDoor.st
open Go.RowKit Go.Eb
abbrev nilC : C := .d (.v (.slice none 0 0))
def oNm (nk : ByteArray -> Bool) : Orc := Orc.cons 65 (ansP decS fun s => vB (nk s)) Orc.nil
def oNam (nk : ByteArray -> Bool) : Orc := Orc.cons 127 (inl prog (oNm nk) na 1 f127) Orc.nil
def o26 (nk : ByteArray -> Bool) : Orc := Orc.cons 68 (inl prog (oNam nk) na 1 f68) Orc.nil
def oWi : Orc := Orc.cons 129 (inl prog Orc.nil na 1 f129) Orc.nil
def oIm (nk : ByteArray -> Bool) : Orc := Orc.cons 128 (inl prog oWi na 1 f128) (Orc.cons 129 (inl prog Orc.nil na 1 f129) (oNam nk))
def o28 (nk : ByteArray -> Bool) : Orc := Orc.cons 70 (inl prog (oIm nk) na 1 f70) Orc.nil
def o30 (nk : ByteArray -> Bool) : Orc := Orc.cons 72 (inl prog (oIm nk) na 1 f72) Orc.nil
abbrev fnOf (f : FuncId) : AV := .c (.fn f [.ptr 0 0] [])
abbrev H1 (s0 : ByteArray) (mpa : MV) : Hp := [(0, .cells [.d (dS s0), nilC, nilC, nilC, nilC, .mp 1] 207), (1, .map 0 mpa)]
abbrev H1' (s0 : ByteArray) (mpa : MV) (ka : Nat) (ga : RD) : Hp := [(0, .cells [.d (dS s0), .row 2 1 ka, nilC, nilC, nilC, .mp 1] 207), (1, .map 0 mpa), (2, .row ka ga 1 9)]
abbrev H2 (s0 : ByteArray) (ka : Nat) (ga : RD) (mpa : MV) : Hp := [(0, .cells [.d (dS s0), .row 1 1 ka, nilC, nilC, nilC, .mp 2] 207), (1, .row ka ga 1 9), (2, .map 0 mpa)]
abbrev H2' (s0 : ByteArray) (ka : Nat) (ga : RD) (mpa : MV) (kb : Nat) (gb : RD) : Hp := [(0, .cells [.d (dS s0), .row 1 1 ka, .row 3 5 kb, nilC, nilC, .mp 2] 207), (1, .row ka ga 1 9), (2, .map 0 mpa), (3, .row kb gb 5 144)]
abbrev H3 (s0 : ByteArray) (ka : Nat) (ga : RD) (kb : Nat) (gb : RD) (mpa : MV) : Hp := [(0, .cells [.d (dS s0), .row 1 1 ka, .row 2 5 kb, nilC, nilC, .mp 3] 207), (1, .row ka ga 1 9), (2, .row kb gb 5 144), (3, .map 0 mpa)]
abbrev H3' (s0 : ByteArray) (ka : Nat) (ga : RD) (kb : Nat) (gb : RD) (mpa : MV) (kc : Nat) (gc : RD) : Hp := [(0, .cells [.d (dS s0), .row 1 1 ka, .row 2 5 kb, .row 4 6 kc, nilC, .mp 3] 207), (1, .row ka ga 1 9), (2, .row kb gb 5 144), (3, .map 0 mpa), (4, .row kc gc 6 147)]
abbrev H4 (s0 : ByteArray) (ka : Nat) (ga : RD) (kb : Nat) (gb : RD) (kc : Nat) (gc : RD) (mpa : MV) : Hp := [(0, .cells [.d (dS s0), .row 1 1 ka, .row 2 5 kb, .row 3 6 kc, nilC, .mp 4] 207), (1, .row ka ga 1 9), (2, .row kb gb 5 144), (3, .row kc gc 6 147), (4, .map 0 mpa)]
abbrev H4' (s0 : ByteArray) (ka : Nat) (ga : RD) (kb : Nat) (gb : RD) (kc : Nat) (gc : RD) (mpa : MV) (kd : Nat) (gd : RD) : Hp := [(0, .cells [.d (dS s0), .row 1 1 ka, .row 2 5 kb, .row 3 6 kc, .row 5 12 kd, .mp 4] 207), (1, .row ka ga 1 9), (2, .row kb gb 5 144), (3, .row kc gc 6 147), (4, .map 0 mpa), (5, .row kd gd 12 118)]
abbrev H5 (s0 : ByteArray) (ka : Nat) (ga : RD) (kb : Nat) (gb : RD) (kc : Nat) (gc : RD) (kd : Nat) (gd : RD) (mpa : MV) : Hp := [(0, .cells [.d (dS s0), .row 1 1 ka, .row 2 5 kb, .row 3 6 kc, .row 4 12 kd, .mp 5] 207), (1, .row ka ga 1 9), (2, .row kb gb 5 144), (3, .row kc gc 6 147), (4, .row kd gd 12 118), (5, .map 0 mpa)]
def AjH : Ann := A4 [(2, ⟨[1, 8, 9, 10], [(1, 1, 1, 9)]⟩)]
def Aei (nk : ByteArray -> Bool) (l : List ByteArray) (s0 : ByteArray) (mpa : MV) (g m : Nat) (l1 : MV) (n2 : Nat) (f2 : RD) (i10 : Int) := LK prog (o26 nk) AjH (List.length (α := Nat × Blk) [(0, .cells [.d (dS s0), nilC, nilC, nilC, nilC, .mp 1] 207), (1, .map 0 mpa)]) g f67 2 m ⟨frm [(1, .c (.fn 68 [Rf.ptr 0 0] [])), (8, .c (.d (D.sl 1 (List.length l) fun i => busC (List.getD l i e0)))), (9, iA (↑(List.length l) : Int)), (10, iA i10)] 0 f67.ntmps, [(0, Blk.cells [.d (.v (.string s0)), C.row 2 1 n2, .d (.v (.slice none 0 0)), .d (.v (.slice none 0 0)), .d (.v (.slice none 0 0)), C.mp 1] 207), (1, Blk.map 0 l1), (2, Blk.row n2 f2 1 9)], 3⟩
theorem b26 : f67.body = some (Ad f67) := by kernel_rfl
theorem ev26 (nk : ByteArray -> Bool) (l : List ByteArray) (s0 : ByteArray) (mpa : MV) (g : Nat) : Al prog (o26 nk) AjH g f67 (Ad f67) [.c (.d (Ab l)), fnOf 68] [(0, .cells [.d (dS s0), nilC, nilC, nilC, nilC, .mp 1] 207), (1, .map 0 mpa)] =
 Aei nk l s0 mpa g g mpa 0 (fun x => []) 0 := by kernel_rfl
theorem Aez (nk : ByteArray -> Bool) (l : List ByteArray) (s0 : ByteArray) (mpa : MV) (g m : Nat) (l1 : MV) (n2 : Nat) (f2 : RD) (i10 : Int) : Aei nk l s0 mpa g (m + 1) l1 n2 f2 i10 =
 (bif decide (i10 < (↑l.length : Int)) then (bif decide (0 <= i10) && decide (i10 < (↑l.length : Int)) then (bif !nk (l.getD i10.toNat e0) then some (T.leaf (AV.c (.d (.v (.int .i64
 7))), [(0, Blk.cells [C.d (.v (.string s0)), C.row (2) (1) n2, C.d (D.v (Value.slice none (0 : Nat) 0)), C.d (.v (.slice none 0 0)), C.d (.v (.slice none 0 0)), C.mp (1)] (207)),
 (1, Blk.map ((0 : Nat)) l1), (2, Blk.row n2 f2 (1) (9))])) else (bif B0 (A2 l1 (Value.string (l.getD i10.toNat e0))) then some (T.leaf (iA 8,
 [(0, Blk.cells [C.d (.v (.string s0)), C.row (2) (1) n2, C.d (.v (.slice none 0 0)), C.d (D.v (.slice none 0 0)), C.d (.v (.slice none 0 0)), C.mp (1)] (207)), (1, Blk.map (0) l1),
 (2, Blk.row n2 f2 (1) (9))])) else (bif decide ((n2 + 1) * 16 <= 140737488355328) && decide (n2 + 1 <= 9223372036854775807) then Aei nk l s0 mpa g m ((Value.string (l.getD i10.toNat
 e0), Value.bool true) :: l1) (n2 + 1) (appF n2 f2 (Au [dS (l.getD i10.toNat e0)] (0 + 1))) (IntKind.wrap .i64 (i10 + 1)) else none))) else none) else some (T.leaf (AV.c (.d (.v
 (.int .i64 0))), [(0, Blk.cells [C.d (D.v (.string s0)), C.row (2) (1) n2, C.d (.v (.slice none 0 0)), C.d (.v (.slice none 0 0)), C.d (D.v (Value.slice none 0 0)), C.mp (1)]
 (207)), (1, Blk.map (0) l1), (2, Blk.row n2 f2 (1) (9))]))) := by kernel_rfl
def ann28 : Ann := A4 [(2, ⟨[1, 8, 9, 10], [(1, 2, 5, 144)]⟩)]
def Aeh (nk : ByteArray -> Bool) (l : List SLine) (s0 : ByteArray) (ka : Nat) (ga : RD) (mpa : MV) (g m : Nat) (l2 : MV) (n3 : Nat) (f3 : RD) (i10 : Int) := LK prog (o28 nk) ann28 (List.length (α := Nat × Blk) [(0, .cells [.d (dS s0), .row 1 1 ka, nilC, nilC, nilC, .mp 2] 207), (1, .row ka ga 1 9), (2, .map 0 mpa)]) g f69 2 m ⟨frm [(1, .c (.fn 70 [Rf.ptr 0 0] [])), (8, .c (.d (D.sl 5 (List.length l) fun i => As (List.getD l i Af)))), (9, iA (↑(List.length l) : Int)), (10, iA i10)] 0 f69.ntmps, [(0, Blk.cells [.d (.v (.string s0)), C.row 1 1 ka, C.row 3 5 n3, .d (.v (.slice none 0 0)), .d (.v (.slice none 0 0)), C.mp 2] 207), (1, Blk.row ka ga 1 9), (2, Blk.map 0 l2), (3, Blk.row n3 f3 5 144)], 4⟩
theorem b28 : f69.body = some (Ad f69) := by kernel_rfl
theorem ev28 (nk : ByteArray -> Bool) (l : List SLine) (s0 : ByteArray) (ka : Nat) (ga : RD) (mpa : MV) (g : Nat) : Al prog (o28 nk) ann28 g f69 (Ad f69) [.c (.d (Ap l)), fnOf 70] [(0, .cells [.d (dS s0), .row 1 1 ka, nilC, nilC, nilC, .mp 2] 207), (1, .row ka ga 1 9), (2, .map 0 mpa)] =
 Aeh nk l s0 ka ga mpa g g mpa 0 (fun x => []) 0 := by kernel_rfl
theorem Aey (nk : ByteArray -> Bool) (l : List SLine) (s0 : ByteArray) (ka : Nat) (ga : RD) (mpa : MV) (g m : Nat) (l2 : MV) (n3 : Nat) (f3 : RD) (i10 : Int) : Aeh nk l s0 ka ga mpa g (m + 1) l2 n3 f3 i10 =
 (bif decide (i10 < (↑l.length : Int)) then (bif decide (0 <= i10) && decide (i10 < (↑l.length : Int)) then (bif !nk (SLine.name (l.getD i10.toNat Af)) then some (T.leaf (AV.c (.d
 (iD 7)), [(0, Blk.cells [C.d (.v (.string s0)), C.row (1) (1) ka, C.row ((3 : Nat)) (5) n3, C.d (.v (.slice none 0 0)), C.d (.v (.slice none 0 0)), C.mp (2)] (207)),
 (1, Blk.row ka ga (1) (9)), (2, Blk.map (0) l2), (3, Blk.row n3 f3 (5) (144))])) else (bif B0 (A2 l2 (Value.string (SLine.name (l.getD i10.toNat Af)))) then some (T.leaf (AV.c (.d
 (iD 8)), [(0, Blk.cells [C.d (.v (.string s0)), C.row (1) (1) ka, C.row (3) (5) n3, C.d (.v (.slice none 0 0)), C.d (.v (.slice none 0 0)), C.mp (2)] ((207 : Nat))),
 (1, Blk.row ka ga (1) (9)), (2, Blk.map (0) l2), (3, Blk.row n3 f3 (5) (144))])) else (bif decide (SLine.r1 (l.getD i10.toNat Af) >= 0) then (bif decide (SLine.r1 (l.getD i10.toNat
 Af) <= 1000) then (bif decide (SLine.x1 (l.getD i10.toNat Af) >= 1) then (bif !decide (SLine.x1 (l.getD i10.toNat Af) <= 1000) then some (T.leaf (AV.c (.d (iD 2)), [((0 :
 Nat), Blk.cells [C.d (.v (.string s0)), C.row (1) (1) ka, C.row (3) (5) n3, C.d (.v (.slice none 0 0)), C.d (D.v (Value.slice none 0 0)), C.mp (2)] (207)), (1, Blk.row ka ga (1)
 (9)), (2, Blk.map (0) l2), (3, Blk.row n3 f3 (5) (144))])) else (bif decide (SLine.r0 (l.getD i10.toNat Af) >= 0) then (bif decide (SLine.r0 (l.getD i10.toNat Af) <= 1000) then (bif
 decide (SLine.x0 (l.getD i10.toNat Af) >= 1) then (bif !decide (SLine.x0 (l.getD i10.toNat Af) <= 1000) then some (T.leaf (AV.c (.d (iD 2)), [(0, Blk.cells [C.d (.v
 (.string s0)), C.row (1) (1) ka, C.row (3) ((5 : Nat)) n3, C.d (.v (.slice none 0 0)), C.d (.v (.slice none 0 0)), C.mp (2)] (207)), (1, Blk.row ka ga (1) (9)), (2, Blk.map (0)
 l2), (3, Blk.row n3 f3 (5) (144))])) else (bif decide ((n3 + 1) * 48 <= 140737488355328) && decide (n3 + 1 <= 9223372036854775807) then Aeh nk l s0 ka ga mpa g m ((Value.string
 (SLine.name (l.getD i10.toNat Af)), Value.bool true) :: l2) (n3 + 1) (appF n3 f3 (Au [dS (SLine.name (l.getD i10.toNat Af)), dI (SLine.r1 (l.getD i10.toNat Af)), dI (SLine.x1
 (l.getD i10.toNat Af)), dI (SLine.r0 (l.getD i10.toNat Af)), dI (SLine.x0 (l.getD i10.toNat Af))] (4 + 1))) (IntKind.wrap .i64 (i10 + 1)) else none)) else some (T.leaf (AV.c (.d
 (iD 2)), [(0, Blk.cells [C.d (.v (.string s0)), C.row (1) (1) ka, C.row (3) (5) n3, C.d (.v (.slice none 0 0)), C.d (.v (.slice none 0 0)), C.mp (2)] (207)), (1,
 Blk.row ka ga (1) (9)), (2, Blk.map (0) l2), (3, Blk.row n3 f3 (5) (144))]))) else some (T.leaf (iA 2, [(0, Blk.cells [C.d (.v (.string s0)),
 C.row (1) (1) ka, C.row (3) (5) n3, C.d (D.v (Value.slice none (0 : Nat) 0)), C.d (.v (.slice none 0 0)), C.mp (2)] (207)), (1, Blk.row ka ga (1) (9)), (2, Blk.map ((0 : Nat)) l2),
 (3, Blk.row n3 f3 (5) (144))]))) else some (T.leaf (AV.c (.d (iD 2)), [(0, Blk.cells [C.d (D.v (Value.string s0)), C.row (1) (1) ka, C.row (3) (5) n3, C.d (.v (.slice
 none 0 0)), C.d (D.v (Value.slice none 0 (0 : Nat))), C.mp (2)] (207)), (1, Blk.row ka ga (1) (9)), (2, Blk.map (0) l2), (3, Blk.row n3 f3 (5) ((144 : Nat)))])))) else some (T.leaf
 (AV.c (.d (iD 2)), [(0, Blk.cells [C.d (.v (.string s0)), C.row (1) (1) ka, C.row ((3 : Nat)) (5) n3, C.d (.v (.slice none 0 0)), C.d (.v (.slice none 0 0)), C.mp (2)]
 (207)), (1, Blk.row ka ga (1) (9)), (2, Blk.map (0) l2), (3, Blk.row n3 f3 (5) (144))]))) else some (T.leaf (AV.c (.d (iD 2)), [(0, Blk.cells [C.d (.v (.string s0)),
 C.row (1) (1) ka, C.row (3) (5) n3, C.d (.v (.slice none 0 0)), C.d (.v (.slice none 0 0)), C.mp (2)] (207)), (1, Blk.row ka ga (1) (9)), (2, Blk.map (0) l2), ((3 : Nat), Blk.row
 n3 f3 (5) (144))]))) else some (T.leaf (AV.c (.d (iD 2)), [(0, Blk.cells [C.d (.v (.string s0)), C.row (1) (1) ka, C.row (3) (5) n3, C.d (.v (.slice none 0 0)), C.d (.v
 (.slice none 0 0)), C.mp (2)] (207)), (1, Blk.row ka ga (1) (9)), (2, Blk.map (0) l2), (3, Blk.row n3 f3 (5) (144))]))))) else none) else some (T.leaf (AV.c (.d (.v (.int .i64
 0))), [(0, Blk.cells [C.d (.v (.string s0)), C.row (1) (1) ka, C.row (3) ((5 : Nat)) n3, C.d (.v (.slice none 0 0)), C.d (.v (.slice none 0 0)), C.mp (2)] (207)), (1, Blk.row ka ga
 (1) (9)), (2, Blk.map (0) l2), (3, Blk.row n3 f3 (5) (144))]))) := by kernel_rfl
def AjG : Ann := A4 [(2, ⟨[1, 8, 9, 10], [(1, 3, 6, 147)]⟩)]
def Aeg (nk : ByteArray -> Bool) (l : List SSrc) (s0 : ByteArray) (ka : Nat) (ga : RD) (kb : Nat) (gb : RD) (mpa : MV) (g m : Nat) (l3 : MV) (n4 : Nat) (f4 : RD) (i10 : Int) := LK prog (o30 nk) AjG (List.length (α := Nat × Blk) [(0, .cells [.d (dS s0), .row 1 1 ka, .row 2 5 kb, nilC, nilC, .mp 3] 207), (1, .row ka ga 1 9), (2, .row kb gb 5 144), (3, .map 0 mpa)]) g f71 2 m ⟨frm [(1, .c (.fn 72 [Rf.ptr 0 0] [])), (8, .c (.d (D.sl 6 (List.length l) fun i => Ar (List.getD l i src0)))), (9, iA (↑(List.length l) : Int)), (10, iA i10)] 0 f71.ntmps, [(0, Blk.cells [.d (.v (.string s0)), C.row 1 1 ka, C.row 2 5 kb, C.row 4 6 n4, .d (.v (.slice none 0 0)), C.mp 3] 207), (1, Blk.row ka ga 1 9), (2, Blk.row kb gb 5 144), (3, Blk.map 0 l3), (4, Blk.row n4 f4 6 147)], 5⟩
theorem b30 : f71.body = some (Ad f71) := by kernel_rfl
theorem ev30 (nk : ByteArray -> Bool) (l : List SSrc) (s0 : ByteArray) (ka : Nat) (ga : RD) (kb : Nat) (gb : RD) (mpa : MV) (g : Nat) : Al prog (o30 nk) AjG g f71 (Ad f71) [.c (.d (Ca l)), fnOf 72] [(0, .cells [.d (dS s0), .row 1 1 ka, .row 2 5 kb, nilC, nilC, .mp 3] 207), (1, .row ka ga 1 9), (2, .row kb gb 5 144), (3, .map 0 mpa)] =
 Aeg nk l s0 ka ga kb gb mpa g g mpa 0 (fun x => []) 0 := by kernel_rfl
theorem Aev (nk : ByteArray -> Bool) (l : List SSrc) (s0 : ByteArray) (ka : Nat) (ga : RD) (kb : Nat) (gb : RD) (mpa : MV) (g m : Nat) (l3 : MV) (n4 : Nat) (f4 : RD) (i10 : Int) : Aeg nk l s0 ka ga kb gb mpa g (m + 1) l3 n4 f4 i10 =
 (bif decide (i10 < (↑l.length : Int)) then (bif decide (0 <= i10) && decide (i10 < (↑l.length : Int)) then (bif !nk (SSrc.name (l.getD i10.toNat src0)) then some (T.leaf (AV.c (.d
 (iD 7)), [(0, Blk.cells [C.d (.v (.string s0)), C.row (1) (1) ka, C.row ((2 : Nat)) (5) kb, C.row (4) (6) n4, C.d (.v (.slice none 0 0)), C.mp (3)] (207)), (1, Blk.row
 ka ga (1) ((9 : Nat))), (2, Blk.row kb gb (5) (144)), (3, Blk.map (0) l3), (4, Blk.row n4 f4 (6) (147))])) else (bif B0 (A2 l3 (Value.string (SSrc.name (l.getD i10.toNat src0))))
 then some (T.leaf (AV.c (.d (iD 8)), [(0, Blk.cells [C.d (D.v (Value.string s0)), C.row (1) (1) ka, C.row (2) (5) kb, C.row (4) (6) n4, C.d (.v (.slice none 0 0)), C.mp
 ((3 : Nat))] (207)), (1, Blk.row ka ga (1) (9)), (2, Blk.row kb gb (5) (144)), (3, Blk.map (0) l3), (4, Blk.row n4 f4 (6) (147))])) else (bif decide (SSrc.emf (l.getD i10.toNat
 src0) >= 1) then (bif !decide (SSrc.emf (l.getD i10.toNat src0) <= 1000000) then some (T.leaf (AV.c (.d (iD 2)), [(0, Blk.cells [C.d (.v (.string s0)), C.row (1) (1) ka,
 C.row (2) (5) kb, C.row (4) (6) n4, C.d (.v (.slice none 0 0)), C.mp (3)] (207)), (1, Blk.row ka ga ((1 : Nat)) (9)), (2, Blk.row kb gb (5) (144)), (3, Blk.map (0) l3), (4, Blk.row
 n4 f4 (6) (147))])) else (bif decide (SSrc.r1 (l.getD i10.toNat src0) >= 0) then (bif decide (SSrc.r1 (l.getD i10.toNat src0) <= 1000) then (bif decide (SSrc.x1 (l.getD i10.toNat
 src0) >= 1) then (bif !decide (SSrc.x1 (l.getD i10.toNat src0) <= 1000) then some (T.leaf (AV.c (.d (iD 2)), [(0, Blk.cells [C.d (.v (.string s0)), C.row (1) (1) ka,
 C.row (2) (5) kb, C.row (4) (6) n4, C.d (D.v (Value.slice none 0 0)), C.mp (3)] (207)), (1, Blk.row ka ga (1) (9)), (2, Blk.row kb gb (5) (144)), (3, Blk.map (0) l3), (4, Blk.row
 n4 f4 (6) (147))])) else (bif decide (SSrc.r0 (l.getD i10.toNat src0) >= 0) then (bif decide (SSrc.r0 (l.getD i10.toNat src0) <= 1000) then (bif decide (SSrc.x0 (l.getD i10.toNat
 src0) >= 1) then (bif !decide (SSrc.x0 (l.getD i10.toNat src0) <= 1000) then some (T.leaf (AV.c (.d (iD 2)), [(0, Blk.cells [C.d (.v (.string s0)), C.row (1) (1) ka,
 C.row (2) (5) kb, C.row (4) (6) n4, C.d (.v (.slice none 0 0)), C.mp (3)] (207)), (1, Blk.row ka ga (1) (9)), (2, Blk.row kb gb (5) (144)), (3, Blk.map (0) l3), (4, Blk.row n4 f4
 (6) ((147 : Nat)))])) else (bif decide ((n4 + 1) * 56 <= 140737488355328) && decide (n4 + 1 <= 9223372036854775807) then Aeg nk l s0 ka ga kb gb mpa g m ((Value.string (SSrc.name
 (l.getD i10.toNat src0)), Value.bool true) :: l3) (n4 + 1) (appF n4 f4 (Au [dS (SSrc.name (l.getD i10.toNat src0)), dI (SSrc.emf (l.getD i10.toNat src0)), dI (SSrc.r1 (l.getD
 i10.toNat src0)), dI (SSrc.x1 (l.getD i10.toNat src0)), dI (SSrc.r0 (l.getD i10.toNat src0)), dI (SSrc.x0 (l.getD i10.toNat src0))] (5 + 1))) (IntKind.wrap .i64 (i10 + 1)) else
 none)) else some (T.leaf (iA 2, [(0, Blk.cells [C.d (.v (.string s0)), C.row (1) (1) ka, C.row (2) (5) kb, C.row (4) ((6 : Nat)) n4, C.d (.v
 (.slice none 0 0)), C.mp (3)] (207)), (1, Blk.row ka ga (1) (9)), (2, Blk.row kb gb ((5 : Nat)) (144)), (3, Blk.map (0) l3), (4, Blk.row n4 f4 (6) (147))]))) else some (T.leaf
 (AV.c (.d (iD 2)), [(0, Blk.cells [C.d (.v (.string s0)), C.row (1) (1) ka, C.row (2) (5) kb, C.row (4) (6) n4, C.d (D.v (Value.slice none 0 0)), C.mp (3)] (207)), (1,
 Blk.row ka ga (1) (9)), (2, Blk.row kb gb (5) (144)), (3, Blk.map (0) l3), (4, Blk.row n4 f4 (6) (147))]))) else some (T.leaf (AV.c (.d (iD 2)), [(0, Blk.cells [C.d (.v
 (.string s0)), C.row (1) (1) ka, C.row (2) (5) kb, C.row (4) (6) n4, C.d (D.v (Value.slice none 0 (0 : Nat))), C.mp (3)] (207)), (1, Blk.row ka ga (1) (9)), (2, Blk.row kb gb (5)
 (144)), (3, Blk.map (0) l3), (4, Blk.row n4 f4 (6) (147))])))) else some (T.leaf (AV.c (.d (iD 2)), [(0, Blk.cells [C.d (D.v (Value.string s0)), C.row (1) (1) ka, C.row
 (2) (5) kb, C.row (4) (6) n4, C.d (.v (.slice none 0 0)), C.mp (3)] ((207 : Nat))), (1, Blk.row ka ga (1) (9)), (2, Blk.row kb gb (5) (144)), (3, Blk.map (0) l3), (4, Blk.row n4 f4
 (6) (147))]))) else some (T.leaf (AV.c (.d (iD 2)), [(0, Blk.cells [C.d (.v (.string s0)), C.row (1) ((1 : Nat)) ka, C.row (2) (5) kb, C.row (4) (6) n4, C.d (.v (.slice
 none 0 0)), C.mp (3)] (207)), (1, Blk.row ka ga (1) (9)), (2, Blk.row kb gb (5) (144)), (3, Blk.map (0) l3), (4, Blk.row n4 f4 (6) (147))]))) else some (T.leaf (AV.c (.d (.v (.int
 .i64 2))), [(0, Blk.cells [C.d (.v (.string s0)), C.row (1) (1) ka, C.row (2) ((5 : Nat)) kb, C.row (4) (6) n4, C.d (.v (.slice none 0 0)), C.mp (3)] (207)), (1, Blk.row ka ga (1)
 (9)), (2, Blk.row kb gb (5) (144)), (3, Blk.map (0) l3), (4, Blk.row n4 f4 (6) (147))])))) else some (T.leaf (iA 2, [(0, Blk.cells [C.d (.v (.string s0)),
 C.row (1) (1) ka, C.row (2) (5) kb, C.row (4) (6) n4, C.d (.v (.slice none 0 0)), C.mp (3)] (207)), (1, Blk.row ka ga (1) (9)), (2, Blk.row kb gb ((5 : Nat)) (144)), (3, Blk.map
 (0) l3), (4, Blk.row n4 f4 (6) (147))]))))) else none) else some (T.leaf (iA 0, [(0, Blk.cells [C.d (.v (.string s0)), C.row (1) (1) ka, C.row
 (2) (5) kb, C.row (4) (6) n4, C.d (.v (.slice none 0 0)), C.mp (3)] (207)), (1, Blk.row ka ga (1) (9)), (2, Blk.row kb gb (5) ((144 : Nat))), (3, Blk.map (0) l3), (4, Blk.row n4 f4
 (6) (147))]))) := by kernel_rfl
end Go.Proofs.YtbpndheehcbldaaGreatDoor.st
namespace Go.Proofs.YtbpndheehcbldaaGreatDoor.st
open Go.RowKit Go.Eb
abbrev A5 := (ByteArray × Nat × Nat × Nat × Nat × Unit × Unit) × (Nat × RD) × (Nat × RD) × (Nat × RD) × (Nat × RD) × (List (Value × Value)) × Unit
def dH5 : Dec Hp A5 := .cons (.blk 0 (.cells 207 (.cons .str (.cons (.row 1 1) (.cons (.row 2 5) (.cons (.row 3 6) (.cons (.row 4 12) (.cons (.mp 5) .nil)))))))) (.cons (.blk 1 (.rowB 1 9)) (.cons (.blk 2 (.rowB 5 144)) (.cons (.blk 3 (.rowB 6 147)) (.cons (.blk 4 (.rowB 12 118)) (.cons (.blk 5 (.mapB 0)) .nil)))))
def dBay : Dec (List AV) (Unit × RBay × Unit) := .cons (.c (.ptr 0 0)) (.cons (.agg bayD) .nil)
def d55 : Dec (List AV × Hp) ((Unit × RBay × Unit) × A5) := .pair dBay dH5
def o55 : Orc := oWi
def AjD : Ann := A4 [(5, ⟨[3, 0, 27, 28, 29], []⟩)]
def Rd (x : SBay) (s0 : ByteArray) (ka : Nat) (ga : RD) (kb : Nat) (gb : RD) (kc : Nat) (gc : RD) (kd : Nat) (gd : RD) (mpa : MV) (g m : Nat) (i29 : Int) := LK prog o55 AjD (List.length (α := Nat × Blk) [(0, .cells [.d (dS s0), .row 1 1 ka, .row 2 5 kb, .row 3 6 kc, .row 4 12 kd, .mp 5] 207), (1, .row ka ga 1 9), (2, .row kb gb 5 144), (3, .row kc gc 6 147), (4, .row kd gd 12 118), (5, .map 0 mpa)]) g f131 5 m ⟨frm [(0, .c (.ptr 0 0)), (3, .c (.ptr 6 0)), (27, .c (.d (D.sl 2 (List.length (SBay.links x)) fun i => Fg (List.getD (SBay.links x) i Ba)))), (28, iA (↑(List.length (SBay.links x)) : Int)), (29, iA i29)] 0 f131.ntmps, [(0, Blk.cells [.d (.v (.string s0)), C.row 1 1 ka, C.row 2 5 kb, C.row 3 6 kc, C.row 4 12 kd, C.mp 5] 207), (1, Blk.row ka ga 1 9), (2, Blk.row kb gb 5 144), (3, Blk.row kc gc 6 147), (4, Blk.row kd gd 12 118), (5, Blk.map 0 mpa), (6, Blk.cells [.d (.v (.string (SBay.name x))), .d (iD (SBay.kind x)), .d (iD (SBay.off x)), .d (iD (SBay.fin x)), .d (iD (SBay.zr x)), .d (iD (SBay.zx x)), C.d (D.sl 2 (List.length (SBay.links x)) fun i => Fg (List.getD (SBay.links x) i Ba)), .d (.v (.bool (SBay.closed x))), .d (iD (SBay.ct x)), .d (iD (SBay.vt x)), .d (iD (SBay.sat x)), .d (iD (SBay.travel x))] 118)], 7⟩
theorem b55 : f131.body = some (Ad f131) := by kernel_rfl
theorem ev55 (x : SBay) (s0 : ByteArray) (ka : Nat) (ga : RD) (kb : Nat) (gb : RD) (kc : Nat) (gc : RD) (kd : Nat) (gd : RD) (mpa : MV) (g : Nat) : Al prog o55 AjD g f131 (Ad f131) [.c (.ptr 0 0), aBay x] [(0, .cells [.d (dS s0), .row 1 1 ka, .row 2 5 kb, .row 3 6 kc, .row 4 12 kd, .mp 5] 207), (1, .row ka ga 1 9), (2, .row kb gb 5 144), (3, .row kc gc 6 147), (4, .row kd gd 12 118), (5, .map 0 mpa)] =
 (bif decide ((↑x.links.length : Int) < 1) then some (T.leaf (AV.c (.d (iD 3)), [(0, Blk.cells [C.d (D.v (Value.string s0)), C.row (1) (1) ka, C.row (2) (5) kb, C.row
 (3) (6) kc, C.row (4) (12) kd, C.mp (5)] (207)), ((1 : Nat), Blk.row ka ga (1) (9)), (2, Blk.row kb gb (5) (144)), (3, Blk.row kc gc (6) (147)), (4, Blk.row kd gd (12) (118)), (5,
 Blk.map (0) mpa)])) else (bif decide ((↑x.links.length : Int) > 2) then some (T.leaf (iA 3, [(0, Blk.cells [C.d (.v (.string s0)), C.row (1)
 (1) ka, C.row (2) (5) kb, C.row (3) ((6 : Nat)) kc, C.row (4) (12) kd, C.mp (5)] (207)), (1, Blk.row ka ga (1) (9)), (2, Blk.row kb gb (5) ((144 : Nat))), (3, Blk.row kc gc (6)
 (147)), (4, Blk.row kd gd (12) (118)), (5, Blk.map (0) mpa)])) else (bif x.kind == 3 then (bif (↑x.links.length : Int) != 2 then some (T.leaf (AV.c (.d (iD 3)), [(0,
 Blk.cells [C.d (D.v (Value.string s0)), C.row (1) (1) ka, C.row (2) (5) kb, C.row (3) (6) kc, C.row (4) (12) kd, C.mp (5)] ((207 : Nat))), (1, Blk.row ka ga (1) (9)), (2, Blk.row
 kb gb (5) (144)), (3, Blk.row kc gc (6) (147)), (4, Blk.row kd gd (12) (118)), (5, Blk.map (0) mpa)])) else Rd x s0 ka ga kb gb kc gc kd gd mpa g g 0) else Rd x s0 ka ga kb gb kc
 gc kd gd mpa g g 0))) := by kernel_rfl
theorem Aif (x : SBay) (s0 : ByteArray) (ka : Nat) (ga : RD) (kb : Nat) (gb : RD) (kc : Nat) (gc : RD) (kd : Nat) (gd : RD) (mpa : MV) (g m : Nat) (i29 : Int) : Rd x s0 ka ga kb gb kc gc kd gd mpa g (m + 1) i29 =
 (bif decide (i29 < (↑x.links.length : Int)) then (bif decide (0 <= i29) && decide (i29 < (↑x.links.length : Int)) then (bif decide (SLink.bus (x.links.getD i29.toNat Ba) >= 0) then
 (bif !decide (SLink.bus (x.links.getD i29.toNat Ba) <= IntKind.wrap .i64 ((↑ka : Int) - 1)) then some (T.leaf (AV.c (.d (iD 9)), [(0, Blk.cells [C.d (.v (.string s0)),
 C.row (1) (1) ka, C.row ((2 : Nat)) (5) kb, C.row (3) (6) kc, C.row (4) (12) kd, C.mp (5)] (207)), (1, Blk.row ka ga (1) (9)), ((2 : Nat), Blk.row kb gb (5) (144)), (3, Blk.row kc
 gc (6) (147)), (4, Blk.row kd gd (12) (118)), (5, Blk.map (0) mpa)])) else (bif SLink.pos (x.links.getD i29.toNat Ba) != 1 then (bif SLink.pos (x.links.getD i29.toNat Ba) != 0 then
 some (T.leaf (AV.c (.d (iD 16)), [(0, Blk.cells [C.d (.v (.string s0)), C.row (1) (1) ka, C.row (2) (5) kb, C.row (3) (6) kc, C.row (4) (12) kd, C.mp (5)] (207)), (1,
 Blk.row ka ga (1) (9)), ((2 : Nat), Blk.row kb gb (5) (144)), (3, Blk.row kc gc (6) (147)), (4, Blk.row kd gd (12) (118)), (5, Blk.map ((0 : Nat)) mpa)])) else (bif x.kind == 3
 then some (T.leaf (AV.c (.d (iD 16)), [(0, Blk.cells [C.d (.v (.string s0)), C.row (1) (1) ka, C.row (2) (5) kb, C.row (3) (6) kc, C.row (4) (12) kd, C.mp (5)] (207)),
 (1, Blk.row ka ga (1) (9)), (2, Blk.row kb gb (5) (144)), (3, Blk.row kc gc (6) (147)), (4, Blk.row kd gd ((12 : Nat)) (118)), (5, Blk.map (0) mpa)])) else (bif decide (i29 > 0)
 then (bif decide (0 <= IntKind.wrap .i64 (i29 - 1)) && decide (IntKind.wrap .i64 (i29 - 1) < (↑x.links.length : Int)) then (bif SLink.bus (x.links.getD (Int.toNat (IntKind.wrap .i64
 (i29 - 1))) Ba) == SLink.bus (x.links.getD i29.toNat Ba) then some (T.leaf (AV.c (.d (iD 12)), [(0, Blk.cells [C.d (D.v (Value.string s0)), C.row (1) (1) ka, C.row (2)
 (5) kb, C.row (3) (6) kc, C.row (4) (12) kd, C.mp (5)] ((207 : Nat))), (1, Blk.row ka ga (1) (9)), (2, Blk.row kb gb (5) (144)), (3, Blk.row kc gc (6) (147)), (4, Blk.row kd gd
 (12) (118)), (5, Blk.map (0) mpa)])) else Rd x s0 ka ga kb gb kc gc kd gd mpa g m (IntKind.wrap .i64 (i29 + 1))) else none) else Rd x s0 ka ga kb gb kc gc kd gd mpa g m
 (IntKind.wrap .i64 (i29 + 1))))) else (bif decide (i29 > 0) then (bif decide (0 <= IntKind.wrap IntKind.i64 (i29 - 1)) && decide (IntKind.wrap .i64 (i29 - 1) < (↑x.links.length :
 Int)) then (bif SLink.bus (x.links.getD (Int.toNat (IntKind.wrap .i64 (i29 - 1))) Ba) == SLink.bus (x.links.getD i29.toNat Ba) then some (T.leaf (AV.c (C.d (D.v (Value.int
 IntKind.i64 12))), [(0, Blk.cells [C.d (.v (.string s0)), C.row (1) (1) ka, C.row (2) (5) kb, C.row (3) (6) kc, C.row (4) (12) kd, C.mp (5)] (207)), (1, Blk.row ka ga (1) (9)), (2,
 Blk.row kb gb (5) (144)), ((3 : Nat), Blk.row kc gc (6) (147)), (4, Blk.row kd gd (12) (118)), (5, Blk.map (0) mpa)])) else Rd x s0 ka ga kb gb kc gc kd gd mpa g m (IntKind.wrap
 .i64 (i29 + 1))) else none) else Rd x s0 ka ga kb gb kc gc kd gd mpa g m (IntKind.wrap .i64 (i29 + 1))))) else some (T.leaf (AV.c (.d (iD 9)), [(0, Blk.cells [C.d (.v
 (.string s0)), C.row (1) (1) ka, C.row (2) (5) kb, C.row (3) (6) kc, C.row (4) (12) kd, C.mp (5)] (207)), (1, Blk.row ka ga (1) (9)), (2, Blk.row kb gb ((5 : Nat)) (144)), (3,
 Blk.row kc gc (6) (147)), (4, Blk.row kd gd (12) (118)), (5, Blk.map (0) mpa)]))) else none) else some (T.leaf (AV.c (.d (iD 0)), [(0, Blk.cells [C.d (.v (.string s0)),
 C.row (1) (1) ka, C.row (2) (5) kb, C.row (3) (6) kc, C.row (4) (12) kd, C.mp (5)] (207)), (1, Blk.row ka ga (1) (9)), ((2 : Nat), Blk.row kb gb (5) (144)), (3, Blk.row kc gc (6)
 (147)), (4, Blk.row kd gd (12) (118)), (5, Blk.map ((0 : Nat)) mpa)]))) := by kernel_rfl
def o54 : Orc := Orc.cons 128 (inl prog oWi na 1 f128) oWi
def Alu : Ann := A4 []
theorem b54 : f130.body = some (Ad f130) := by kernel_rfl
theorem ev54 (x : SBay) (g : Nat) : Al prog o54 Alu g f130 (Ad f130) [aBay x] [] =
 (bif x.kind == 3 then (bif decide (x.zr >= 0) then (bif decide (x.zr <= 1000) then (bif decide (x.zx >= 1) then (bif !decide (x.zx <= 1000) then leB false else (bif x.vt != 0 then leB
 false else (bif x.kind == 1 then (bif decide (x.fin >= 0) then (bif decide (x.fin <= 1) then (bif decide (x.ct >= 1) then (bif decide (x.ct <= 100) then (bif decide (x.sat >= 0) then
 (bif decide (x.sat <= 16383) then (bif decide (x.travel >= 1) then leB (decide (x.travel <= 6)) else leB false) else leB false) else leB false) else leB false) else leB false) else
 leB false) else leB false) else (bif decide (x.fin >= 0) then (bif decide (x.fin <= 0) then (bif decide (x.ct >= 1) then (bif decide (x.ct <= 100) then (bif decide (x.sat >= 0) then
 (bif decide (x.sat <= 16383) then (bif decide (x.travel >= 1) then leB (decide (x.travel <= 6)) else leB false) else leB false) else leB false) else leB false) else leB false) else
 leB false) else leB false)))) else leB false) else leB false) else leB false) else (bif !(x.zr == 0 && (x.zx == 0 && true)) then leB false else (bif decide (x.vt >= 1) then (bif
 !decide (x.vt <= 10000) then leB false else (bif x.kind == 1 then (bif decide (x.fin >= 0) then (bif decide (x.fin <= 1) then (bif decide (x.ct >= 1) then (bif decide (x.ct <= 100) then
 (bif decide (x.sat >= 0) then (bif decide (x.sat <= 16383) then (bif decide (x.travel >= 1) then leB (decide (x.travel <= 6)) else leB false) else leB false) else leB false) else leB
 false) else leB false) else leB false) else leB false) else (bif decide (x.fin >= 0) then (bif decide (x.fin <= 0) then (bif decide (x.ct >= 1) then (bif decide (x.ct <= 100) then (bif
 decide (x.sat >= 0) then (bif decide (x.sat <= 16383) then (bif decide (x.travel >= 1) then leB (decide (x.travel <= 6)) else leB false) else leB false) else leB false) else leB false)
 else leB false) else leB false) else leB false))) else leB false))) := by kernel_rfl
def d54 : Dec (List AV × Hp) ((RBay × Unit) × Unit) := .pair (.cons (.agg bayD) .nil) .nil
def oRa (nk : ByteArray -> Bool) (okr rg : RBay -> Bool) : Orc := Orc.cons 130 (ansD d54 (fun a => okr a.1.1) (fun a => vB (rg a.1.1)) fun _ => []) (oIm nk)
def o33 (nk : ByteArray -> Bool) (okr rg : RBay -> Bool) (ok : (Unit × RBay × Unit) × A5 -> Bool) (lk : (Unit × RBay × Unit) × A5 -> Int) : Orc := Orc.cons 131 (ansD d55 ok (fun a => vI (lk a)) (fun a => (d55.enc a).2)) (oRa nk okr rg)
def AhR : Ann := A4 [(18, ⟨[3, 50, 0, 51, 52], []⟩)]
def Hk (nk : ByteArray -> Bool) (okr rg : RBay -> Bool) (ok : (Unit × RBay × Unit) × A5 -> Bool) (lk : (Unit × RBay × Unit) × A5 -> Int) (x : SBay) (s0 : ByteArray) (ka : Nat) (ga : RD) (kb : Nat) (gb : RD) (kc : Nat) (gc : RD) (bs : List SBay) (mpa : MV) (g m : Nat) (i52 : Int) := LK prog (o33 nk okr rg ok lk) AhR (List.length (α := Nat × Blk) [(0, .cells [.d (dS s0), .row 1 1 ka, .row 2 5 kb, .row 3 6 kc, .row 4 12 bs.length, .mp 5] 207), (1, .row ka ga 1 9), (2, .row kb gb 5 144), (3, .row kc gc 6 147), (4, .row bs.length (fun i => bayC (bs.getD i bay0)) 12 118), (5, .map 0 mpa)]) g f74 18 m ⟨frm [(0, .c (.ptr 0 0)), (3, .c (.ptr 6 0)), (50, .c (.row 4 12 (List.length bs))), (51, iA (↑(List.length bs) : Int)), (52, iA i52)] 0 f74.ntmps, [(0, Blk.cells [.d (.v (.string s0)), C.row 1 1 ka, C.row 2 5 kb, C.row 3 6 kc, C.row 4 12 (List.length bs), C.mp 5] 207), (1, Blk.row ka ga 1 9), (2, Blk.row kb gb 5 144), (3, Blk.row kc gc 6 147), (4, Blk.row (List.length bs) (fun i => bayC (List.getD bs i bay0)) 12 118), (5, Blk.map 0 mpa), (6, Blk.cells [.d (.v (.string (SBay.name x))), .d (iD (SBay.kind x)), .d (iD (SBay.off x)), .d (iD (SBay.fin x)), .d (iD (SBay.zr x)), .d (iD (SBay.zx x)), C.d (D.sl 2 (List.length (SBay.links x)) fun i => Fg (List.getD (SBay.links x) i Ba)), .d (.v (.bool (SBay.closed x))), .d (iD (SBay.ct x)), .d (iD (SBay.vt x)), .d (iD (SBay.sat x)), .d (iD (SBay.travel x))] 118)], 7⟩
theorem b33 : f74.body = some (Ad f74) := by kernel_rfl
theorem ev33 (nk : ByteArray -> Bool) (okr rg : RBay -> Bool) (ok : (Unit × RBay × Unit) × A5 -> Bool) (lk : (Unit × RBay × Unit) × A5 -> Int) (x : SBay) (s0 : ByteArray) (ka : Nat) (ga : RD) (kb : Nat) (gb : RD) (kc : Nat) (gc : RD) (bs : List SBay) (mpa : MV) (g : Nat) : Al prog (o33 nk okr rg ok lk) AhR g f74 (Ad f74) [.c (.ptr 0 0), aBay x] [(0, .cells [.d (dS s0), .row 1 1 ka, .row 2 5 kb, .row 3 6 kc, .row 4 12 bs.length, .mp 5] 207), (1, .row ka ga 1 9), (2, .row kb gb 5 144), (3, .row kc gc 6 147), (4, .row bs.length (fun i => bayC (bs.getD i bay0)) 12 118), (5, .map 0 mpa)] =
 (bif !nk x.name then some (T.leaf (AV.c (.d (iD 7)), [(0, Blk.cells [C.d (.v (.string s0)), C.row (1) (1) ka, C.row (2) (5) kb, C.row (3) (6) kc, C.row (4) (12)
 bs.length, C.mp (5)] (207)), (1, Blk.row ka ga ((1 : Nat)) (9)), (2, Blk.row kb gb (5) (144)), (3, Blk.row kc gc (6) (147)), (4, Blk.row bs.length (fun i => bayC (bs.getD i bay0))
 (12) (118)), (5, Blk.map (0) mpa)])) else (bif B0 (A2 mpa (Value.string x.name)) then some (T.leaf (iA 8, [(0, Blk.cells [C.d (.v (.string s0)), C.row (1)
 (1) ka, C.row (2) (5) kb, C.row (3) (6) kc, C.row (4) (12) bs.length, C.mp (5)] (207)), (1, Blk.row ka ga (1) (9)), (2, Blk.row kb gb ((5 : Nat)) (144)), (3, Blk.row kc gc (6)
 (147)), (4, Blk.row bs.length (fun i => bayC (bs.getD i bay0)) (12) (118)), (5, Blk.map (0) mpa)])) else (bif x.kind == 1 then (bif decide (x.off >= 0) then (bif !decide (x.off <=
 IntKind.wrap .i64 ((↑kb : Int) - 1)) then some (T.leaf (AV.c (.d (iD 9)), [(0, Blk.cells [C.d (.v (.string s0)), C.row (1) (1) ka, C.row (2) (5) kb, C.row (3) (6) kc,
 C.row (4) (12) bs.length, C.mp (5)] (207)), (1, Blk.row ka ga ((1 : Nat)) (9)), (2, Blk.row kb gb (5) (144)), (3, Blk.row kc gc (6) (147)), (4, Blk.row bs.length (fun i => bayC
 (bs.getD i bay0)) (12) (118)), (5, Blk.map (0) mpa)])) else (bif okr (x.name, x.kind, x.off, x.fin, x.zr, x.zx, Bz x.links, x.closed, x.ct, x.vt, x.sat, x.travel, ()) then (bif !rg
 (x.name, x.kind, x.off, x.fin, x.zr, x.zx, Bz x.links, x.closed, x.ct, x.vt, x.sat, x.travel, ()) then some (T.leaf (AV.c (.d (iD 2)), [(0, Blk.cells [C.d (.v (.string
 s0)), C.row (1) (1) ka, C.row (2) (5) kb, C.row (3) (6) kc, C.row (4) (12) bs.length, C.mp (5)] (207)), (1, Blk.row ka ga (1) (9)), (2, Blk.row kb gb (5) (144)), (3, Blk.row kc gc
 (6) (147)), (4, Blk.row bs.length (fun i => bayC (bs.getD i bay0)) (12) (118)), (5, Blk.map (0) mpa)])) else Hk nk okr rg ok lk x s0 ka ga kb gb kc gc bs mpa g g 0) else none))
 else some (T.leaf (AV.c (.d (iD 9)), [(0, Blk.cells [C.d (D.v (.string s0)), C.row (1) (1) ka, C.row (2) (5) kb, C.row (3) (6) kc, C.row (4) (12) bs.length, C.mp (5)]
 (207)), (1, Blk.row ka ga (1) (9)), (2, Blk.row kb gb (5) (144)), (3, Blk.row kc gc (6) ((147 : Nat))), (4, Blk.row bs.length (fun i => bayC (bs.getD i bay0)) (12) (118)), (5,
 Blk.map (0) mpa)]))) else (bif x.kind == 2 then (bif decide (x.off >= 0) then (bif !decide (x.off <= IntKind.wrap .i64 ((↑kc : Int) - 1)) then some (T.leaf (AV.c (C.d (D.v (Value.int
 IntKind.i64 9))), [(0, Blk.cells [C.d (.v (.string s0)), C.row (1) (1) ka, C.row (2) (5) kb, C.row (3) (6) kc, C.row (4) (12) bs.length, C.mp (5)] (207)), (1, Blk.row ka ga (1)
 (9)), (2, Blk.row kb gb (5) ((144 : Nat))), (3, Blk.row kc gc (6) (147)), (4, Blk.row bs.length (fun i => bayC (bs.getD i bay0)) (12) (118)), (5, Blk.map (0) mpa)])) else (bif okr
 (x.name, x.kind, x.off, x.fin, x.zr, x.zx, Bz x.links, x.closed, x.ct, x.vt, x.sat, x.travel, ()) then (bif !rg (x.name, x.kind, x.off, x.fin, x.zr, x.zx, Bz x.links, x.closed,
 x.ct, x.vt, x.sat, x.travel, ()) then some (T.leaf (AV.c (.d (iD 2)), [(0, Blk.cells [C.d (.v (.string s0)), C.row (1) ((1 : Nat)) ka, C.row (2) (5) kb, C.row (3) (6)
 kc, C.row (4) (12) bs.length, C.mp (5)] (207)), (1, Blk.row ka ga (1) (9)), (2, Blk.row kb gb (5) (144)), (3, Blk.row kc gc (6) (147)), (4, Blk.row bs.length (fun i => bayC
 (bs.getD i bay0)) (12) (118)), (5, Blk.map (0) mpa)])) else Hk nk okr rg ok lk x s0 ka ga kb gb kc gc bs mpa g g 0) else none)) else some (T.leaf (AV.c (.d (iD 9)),
 [(0, Blk.cells [C.d (.v (.string s0)), C.row (1) (1) ka, C.row ((2 : Nat)) (5) kb, C.row (3) (6) kc, C.row (4) (12) bs.length, C.mp (5)] (207)), (1, Blk.row ka ga (1) ((9 : Nat))),
 (2, Blk.row kb gb (5) (144)), (3, Blk.row kc gc (6) (147)), (4, Blk.row bs.length (fun i => bayC (bs.getD i bay0)) (12) (118)), (5, Blk.map (0) mpa)]))) else (bif x.kind == 3 then
 (bif decide (x.off >= 0) then (bif !decide (x.off <= IntKind.wrap .i64 (1 - 1)) then some (T.leaf (AV.c (.d (iD 9)), [(0, Blk.cells [C.d (D.v (Value.string s0)), C.row
 (1) (1) ka, C.row (2) (5) kb, C.row (3) (6) kc, C.row (4) (12) bs.length, C.mp (5)] ((207 : Nat))), (1, Blk.row ka ga (1) (9)), (2, Blk.row kb gb (5) (144)), (3, Blk.row kc gc (6)
 (147)), (4, Blk.row bs.length (fun i => bayC (bs.getD i bay0)) (12) (118)), (5, Blk.map (0) mpa)])) else (bif okr (x.name, x.kind, x.off, x.fin, x.zr, x.zx, Bz x.links, x.closed,
 x.ct, x.vt, x.sat, x.travel, ()) then (bif !rg (x.name, x.kind, x.off, x.fin, x.zr, x.zx, Bz x.links, x.closed, x.ct, x.vt, x.sat, x.travel, ()) then some (T.leaf (AV.c (C.d (D.v
 (Value.int IntKind.i64 2))), [(0, Blk.cells [C.d (.v (.string s0)), C.row (1) (1) ka, C.row (2) (5) kb, C.row (3) (6) kc, C.row ((4 : Nat)) (12) bs.length, C.mp (5)] (207)), (1,
 Blk.row ka ga (1) (9)), (2, Blk.row kb gb (5) (144)), ((3 : Nat), Blk.row kc gc (6) (147)), (4, Blk.row bs.length (fun i => bayC (bs.getD i bay0)) (12) (118)), (5, Blk.map ((0 :
 Nat)) mpa)])) else Hk nk okr rg ok lk x s0 ka ga kb gb kc gc bs mpa g g 0) else none)) else some (T.leaf (AV.c (.d (iD 9)), [((0 : Nat), Blk.cells [C.d (.v (.string
 s0)), C.row (1) (1) ka, C.row (2) (5) kb, C.row (3) (6) kc, C.row (4) (12) bs.length, C.mp (5)] (207)), (1, Blk.row ka ga (1) (9)), (2, Blk.row kb gb (5) (144)), (3, Blk.row kc gc
 (6) (147)), (4, Blk.row bs.length (fun i => bayC (bs.getD i bay0)) (12) (118)), (5, Blk.map (0) mpa)]))) else some (T.leaf (AV.c (.d (iD 10)), [(0, Blk.cells [C.d (.v
 (.string s0)), C.row (1) (1) ka, C.row (2) ((5 : Nat)) kb, C.row (3) (6) kc, C.row (4) (12) bs.length, C.mp (5)] (207)), (1, Blk.row ka ga (1) (9)), (2, Blk.row kb gb (5) (144)),
 (3, Blk.row kc gc (6) (147)), (4, Blk.row bs.length (fun i => bayC (bs.getD i bay0)) (12) (118)), (5, Blk.map (0) mpa)]))))))) := by kernel_rfl
theorem Ago (nk : ByteArray -> Bool) (okr rg : RBay -> Bool) (ok : (Unit × RBay × Unit) × A5 -> Bool) (lk : (Unit × RBay × Unit) × A5 -> Int) (x : SBay) (s0 : ByteArray) (ka : Nat) (ga : RD) (kb : Nat) (gb : RD) (kc : Nat) (gc : RD) (bs : List SBay) (mpa : MV) (g m : Nat) (i52 : Int) : Hk nk okr rg ok lk x s0 ka ga kb gb kc gc bs mpa g (m + 1) i52 =
 (bif decide (i52 < (↑bs.length : Int)) then (bif decide (0 <= i52) && decide (i52 < (↑bs.length : Int)) then (bif x.kind != 3 then (bif x.kind == SBay.kind (bs.getD i52.toNat bay0)
 then (bif x.off == SBay.off (bs.getD i52.toNat bay0) then (bif x.fin == SBay.fin (bs.getD i52.toNat bay0) then some (T.leaf (AV.c (.d (iD 12)), [(0, Blk.cells [C.d (.v
 (.string s0)), C.row (1) (1) ka, C.row ((2 : Nat)) (5) kb, C.row (3) (6) kc, C.row (4) (12) bs.length, C.mp (5)] (207)), (1, Blk.row ka ga (1) ((9 : Nat))), (2, Blk.row kb gb (5)
 (144)), (3, Blk.row kc gc (6) (147)), (4, Blk.row bs.length (fun i => bayC (bs.getD i bay0)) (12) (118)), (5, Blk.map (0) mpa)])) else Hk nk okr rg ok lk x s0 ka ga kb gb kc gc bs
 mpa g m (IntKind.wrap .i64 (i52 + 1))) else Hk nk okr rg ok lk x s0 ka ga kb gb kc gc bs mpa g m (IntKind.wrap .i64 (i52 + 1))) else Hk nk okr rg ok lk x s0 ka ga kb gb kc gc bs
 mpa g m (IntKind.wrap .i64 (i52 + 1))) else Hk nk okr rg ok lk x s0 ka ga kb gb kc gc bs mpa g m (IntKind.wrap .i64 (i52 + 1))) else none) else (bif ok (((), (x.name, x.kind,
 x.off, x.fin, x.zr, x.zx, D.sl 2 x.links.length fun i => Fg (x.links.getD i Ba), x.closed, x.ct, x.vt, x.sat, x.travel, ()), ()), (s0, ka, kb, kc, bs.length, (), ()), (ka, ga),
 (kb, gb), (kc, gc), (bs.length, fun i => bayC (bs.getD i bay0)), mpa, ()) then (bif lk (((), (x.name, x.kind, x.off, x.fin, x.zr, x.zx, D.sl 2 x.links.length fun i => Fg
 (x.links.getD i Ba), x.closed, x.ct, x.vt, x.sat, x.travel, ()), ()), (s0, ka, kb, kc, bs.length, (), ()), (ka, ga), (kb, gb), (kc, gc), (bs.length, fun i => bayC (bs.getD i
 bay0)), mpa, ()) != 0 then some (T.leaf (AV.c (.d (iD (lk (((), (x.name, x.kind, x.off, x.fin, x.zr, x.zx, D.sl 2 x.links.length fun i => Fg (x.links.getD i Ba),
 x.closed, x.ct, x.vt, x.sat, x.travel, ()), ()), (s0, ka, kb, kc, bs.length, (), ()), (ka, ga), (kb, gb), (kc, gc), (bs.length, fun i => bayC (bs.getD i bay0)), mpa, ())))), [(0,
 Blk.cells [C.d (.v (.string s0)), C.row (1) (1) ka, C.row (2) (5) kb, C.row (3) (6) kc, C.row (4) ((12 : Nat)) bs.length, C.mp (5)] (207)), (1, Blk.row ka ga (1) (9)), (2, Blk.row
 kb gb (5) (144)), (3, Blk.row kc gc (6) (147)), (4, Blk.row bs.length (fun i => bayC (bs.getD i bay0)) (12) (118)), (5, Blk.map (0) (Prod.fst (Prod.snd (Prod.snd (Prod.snd
 (Prod.snd (Prod.snd (Prod.snd (((), (x.name, x.kind, x.off, x.fin, x.zr, x.zx, D.sl 2 x.links.length fun i => Fg (x.links.getD i Ba), x.closed, x.ct, x.vt, x.sat, x.travel, ()),
 ()), (s0, ka, kb, kc, bs.length, (), ()), (ka, ga), (kb, gb), (kc, gc), (bs.length, fun i => bayC (bs.getD i bay0)), mpa, ())))))))))])) else (bif decide ((bs.length + 1) * 120 <=
 140737488355328) && decide (bs.length + 1 <= 9223372036854775807) then some (T.leaf (AV.c (.d (iD 0)), [(0, Blk.cells [C.d (.v (.string s0)), C.row (1) (1) ka, C.row (2)
 (5) kb, C.row (3) (6) kc, C.row (6) (12) (bs.length + 1), C.mp (5)] (207)), (1, Blk.row ka ga (1) (9)), (2, Blk.row kb gb (5) (144)), (3, Blk.row kc gc (6) (147)), (4, Blk.dead),
 (5, Blk.map (0) ((Value.string x.name, Value.bool true) :: Prod.fst (Prod.snd (Prod.snd (Prod.snd (Prod.snd (Prod.snd (Prod.snd (((), (x.name, x.kind, x.off, x.fin, x.zr, x.zx,
 D.sl 2 x.links.length fun i => Fg (x.links.getD i Ba), x.closed, x.ct, x.vt, x.sat, x.travel, ()), ()), (s0, ka, kb, kc, bs.length, (), ()), (ka, ga), (kb, gb), (kc, gc),
 (bs.length, fun i => bayC (bs.getD i bay0)), mpa, ()))))))))), (6, Blk.row (bs.length + 1) (appF bs.length (fun i => bayC (bs.getD i bay0)) (Au [D.v (.string x.name), D.v (.int
 .i64 x.kind), iD x.off, iD x.fin, iD x.zr, iD x.zx, D.sl 2 x.links.length fun i => Fg (x.links.getD i Ba), D.v
 (Value.bool x.closed), iD x.ct, iD x.vt, iD x.sat, iD x.travel] (11 + 1))) (12) (118))])) else none)) else none)) := by kernel_rfl
def h33 (cn : Nat -> RD -> RD) (bc : RBay -> List D) (a : (Unit × RBay × Unit) × A5) : Hp := [(0, .cells [.d (dS a.2.1.1), .row 1 1 a.2.2.1.1, .row 2 5 a.2.2.2.1.1, .row 3 6 a.2.2.2.2.1.1, .row 6 12 (a.2.2.2.2.2.1.1 + 1), .mp 5] 207), (1, .row a.2.2.1.1 a.2.2.1.2 1 9), (2, .row a.2.2.2.1.1 a.2.2.2.1.2 5 144), (3, .row a.2.2.2.2.1.1 a.2.2.2.2.1.2 6 147), (4, .dead), (5, .map 0 ((.string a.1.2.1.1, .bool true) :: a.2.2.2.2.2.2.1)), (6, .row (a.2.2.2.2.2.1.1 + 1) (appF a.2.2.2.2.2.1.1 (cn a.2.2.2.2.2.1.1 a.2.2.2.2.2.1.2) (Au (bc a.1.2.1) 12)) 12 118)]
def h33e (cn : Nat -> RD -> RD) (a : (Unit × RBay × Unit) × A5) : Hp := [(0, .cells [.d (dS a.2.1.1), .row 1 1 a.2.2.1.1, .row 2 5 a.2.2.2.1.1, .row 3 6 a.2.2.2.2.1.1, .row 4 12 a.2.2.2.2.2.1.1, .mp 5] 207), (1, .row a.2.2.1.1 a.2.2.1.2 1 9), (2, .row a.2.2.2.1.1 a.2.2.2.1.2 5 144), (3, .row a.2.2.2.2.1.1 a.2.2.2.2.1.2 6 147), (4, .row a.2.2.2.2.2.1.1 (cn a.2.2.2.2.2.1.1 a.2.2.2.2.2.1.2) 12 118), (5, .map 0 a.2.2.2.2.2.2.1)]
def o32 (cn : Nat -> RD -> RD) (bc : RBay -> List D) (ok : (Unit × RBay × Unit) × A5 -> Bool) (er : (Unit × RBay × Unit) × A5 -> Int) : Orc := Orc.cons 74 (ansB d55 ok (fun a => er a == 0) (fun _ => vI 0) (h33 cn bc) (fun a => vI (er a)) (h33e cn)) Orc.nil
def ann32 : Ann := A4 [(2, ⟨[1, 8, 9, 10], [(1, 4, 12, 118)]⟩)]
def U6 (cn : Nat -> RD -> RD) (bc : RBay -> List D) (ok : (Unit × RBay × Unit) × A5 -> Bool) (er : (Unit × RBay × Unit) × A5 -> Int) (l : List SBay) (s0 : ByteArray) (ka : Nat) (ga : RD) (kb : Nat) (gb : RD) (kc : Nat) (gc : RD) (mpa : MV) (g m : Nat) (l4 : MV) (n5 : Nat) (f5 : RD) (i10 : Int) := LK prog (o32 cn bc ok er) ann32 (List.length (α := Nat × Blk) [(0, .cells [.d (dS s0), .row 1 1 ka, .row 2 5 kb, .row 3 6 kc, nilC, .mp 4] 207), (1, .row ka ga 1 9), (2, .row kb gb 5 144), (3, .row kc gc 6 147), (4, .map 0 mpa)]) g f73 2 m ⟨frm [(1, .c (.fn 74 [Rf.ptr 0 0] [])), (8, .c (.d (D.sl 12 (List.length l) fun i => bayC (List.getD l i bay0)))), (9, iA (↑(List.length l) : Int)), (10, iA i10)] 0 f73.ntmps, [(0, Blk.cells [.d (.v (.string s0)), C.row 1 1 ka, C.row 2 5 kb, C.row 3 6 kc, C.row 5 12 n5, C.mp 4] 207), (1, Blk.row ka ga 1 9), (2, Blk.row kb gb 5 144), (3, Blk.row kc gc 6 147), (4, Blk.map 0 l4), (5, Blk.row n5 f5 12 118)], 6⟩
theorem b32 : f73.body = some (Ad f73) := by kernel_rfl
theorem ev32 (cn : Nat -> RD -> RD) (bc : RBay -> List D) (ok : (Unit × RBay × Unit) × A5 -> Bool) (er : (Unit × RBay × Unit) × A5 -> Int) (l : List SBay) (s0 : ByteArray) (ka : Nat) (ga : RD) (kb : Nat) (gb : RD) (kc : Nat) (gc : RD) (mpa : MV) (g : Nat) : Al prog (o32 cn bc ok er) ann32 g f73 (Ad f73) [.c (.d (B5 l)), fnOf 74] [(0, .cells [.d (dS s0), .row 1 1 ka, .row 2 5 kb, .row 3 6 kc, nilC, .mp 4] 207), (1, .row ka ga 1 9), (2, .row kb gb 5 144), (3, .row kc gc 6 147), (4, .map 0 mpa)] =
 U6 cn bc ok er l s0 ka ga kb gb kc gc mpa g g mpa 0 (fun x => []) 0 := by kernel_rfl
theorem Aeu (cn : Nat -> RD -> RD) (bc : RBay -> List D) (ok : (Unit × RBay × Unit) × A5 -> Bool) (er : (Unit × RBay × Unit) × A5 -> Int) (l : List SBay) (s0 : ByteArray) (ka : Nat) (ga : RD) (kb : Nat) (gb : RD) (kc : Nat) (gc : RD) (mpa : MV) (g m : Nat) (l4 : MV) (n5 : Nat) (f5 : RD) (i10 : Int) : U6 cn bc ok er l s0 ka ga kb gb kc gc mpa g (m + 1) l4 n5 f5 i10 =
 (bif decide (i10 < (↑l.length : Int)) then (bif decide (0 <= i10) && decide (i10 < (↑l.length : Int)) then (bif ok (((), (SBay.name (l.getD i10.toNat bay0), SBay.kind (l.getD
 i10.toNat bay0), SBay.off (l.getD i10.toNat bay0), SBay.fin (l.getD i10.toNat bay0), SBay.zr (l.getD i10.toNat bay0), SBay.zx (l.getD i10.toNat bay0), Bz (SBay.links (l.getD
 i10.toNat bay0)), SBay.closed (l.getD i10.toNat bay0), SBay.ct (l.getD i10.toNat bay0), SBay.vt (l.getD i10.toNat bay0), SBay.sat (l.getD i10.toNat bay0), SBay.travel (l.getD
 i10.toNat bay0), ()), ()), (s0, ka, kb, kc, n5, (), ()), (ka, ga), (kb, gb), (kc, gc), (n5, f5), l4, ()) then (bif er (((), (SBay.name (l.getD i10.toNat bay0), SBay.kind (l.getD
 i10.toNat bay0), SBay.off (l.getD i10.toNat bay0), SBay.fin (l.getD i10.toNat bay0), SBay.zr (l.getD i10.toNat bay0), SBay.zx (l.getD i10.toNat bay0), Bz (SBay.links (l.getD
 i10.toNat bay0)), SBay.closed (l.getD i10.toNat bay0), SBay.ct (l.getD i10.toNat bay0), SBay.vt (l.getD i10.toNat bay0), SBay.sat (l.getD i10.toNat bay0), SBay.travel (l.getD
 i10.toNat bay0), ()), ()), (s0, ka, kb, kc, n5, (), ()), (ka, ga), (kb, gb), (kc, gc), (n5, f5), l4, ()) == 0 then U6 cn bc ok er l s0 ka ga kb gb kc gc mpa g m ((Value.string
 (SBay.name (l.getD i10.toNat bay0)), Value.bool true) :: Prod.fst (Prod.snd (Prod.snd (Prod.snd (Prod.snd (Prod.snd (Prod.snd (((), (SBay.name (l.getD i10.toNat bay0), SBay.kind
 (l.getD i10.toNat bay0), SBay.off (l.getD i10.toNat bay0), SBay.fin (l.getD i10.toNat bay0), SBay.zr (l.getD i10.toNat bay0), SBay.zx (l.getD i10.toNat bay0), Bz (SBay.links
 (l.getD i10.toNat bay0)), SBay.closed (l.getD i10.toNat bay0), SBay.ct (l.getD i10.toNat bay0), SBay.vt (l.getD i10.toNat bay0), SBay.sat (l.getD i10.toNat bay0), SBay.travel
 (l.getD i10.toNat bay0), ()), ()), (s0, ka, kb, kc, n5, (), ()), (ka, ga), (kb, gb), (kc, gc), (n5, f5), l4, ())))))))) (n5 + (1 : Nat)) (appF n5 (cn n5 f5) (Au (bc (SBay.name
 (l.getD i10.toNat bay0), SBay.kind (l.getD i10.toNat bay0), SBay.off (l.getD i10.toNat bay0), SBay.fin (l.getD i10.toNat bay0), SBay.zr (l.getD i10.toNat bay0), SBay.zx (l.getD
 i10.toNat bay0), Bz (SBay.links (l.getD i10.toNat bay0)), SBay.closed (l.getD i10.toNat bay0), SBay.ct (l.getD i10.toNat bay0), SBay.vt (l.getD i10.toNat bay0), SBay.sat (l.getD
 i10.toNat bay0), SBay.travel (l.getD i10.toNat bay0), ())) 12)) (IntKind.wrap .i64 (i10 + 1)) else (bif er (((), (SBay.name (l.getD i10.toNat bay0), SBay.kind (l.getD i10.toNat
 bay0), SBay.off (l.getD i10.toNat bay0), SBay.fin (l.getD i10.toNat bay0), SBay.zr (l.getD i10.toNat bay0), SBay.zx (l.getD i10.toNat bay0), Bz (SBay.links (l.getD i10.toNat
 bay0)), SBay.closed (l.getD i10.toNat bay0), SBay.ct (l.getD i10.toNat bay0), SBay.vt (l.getD i10.toNat bay0), SBay.sat (l.getD i10.toNat bay0), SBay.travel (l.getD i10.toNat
 bay0), ()), ()), (s0, ka, kb, kc, n5, (), ()), (ka, ga), (kb, gb), (kc, gc), (n5, f5), l4, ()) != 0 then some (T.leaf (AV.c (.d (iD (er (((), (SBay.name (l.getD
 i10.toNat bay0), SBay.kind (l.getD i10.toNat bay0), SBay.off (l.getD i10.toNat bay0), SBay.fin (l.getD i10.toNat bay0), SBay.zr (l.getD i10.toNat bay0), SBay.zx (l.getD i10.toNat
 bay0), Bz (SBay.links (l.getD i10.toNat bay0)), SBay.closed (l.getD i10.toNat bay0), SBay.ct (l.getD i10.toNat bay0), SBay.vt (l.getD i10.toNat bay0), SBay.sat (l.getD i10.toNat
 bay0), SBay.travel (l.getD i10.toNat bay0), ()), ()), (s0, ka, kb, kc, n5, (), ()), (ka, ga), (kb, gb), (kc, gc), (n5, f5), l4, ())))), [(0, Blk.cells [C.d (.v (.string s0)),
 C.row (1) (1) ka, C.row (2) (5) kb, C.row (3) (6) kc, C.row (5) (12) n5, C.mp (4)] (207)), (1, Blk.row ka ga (1) ((9 : Nat))), (2, Blk.row kb gb (5) (144)), (3, Blk.row kc gc (6)
 (147)), (4, Blk.map (0) (Prod.fst (Prod.snd (Prod.snd (Prod.snd (Prod.snd (Prod.snd (Prod.snd (((), (SBay.name (l.getD i10.toNat bay0), SBay.kind (l.getD i10.toNat bay0), SBay.off
 (l.getD i10.toNat bay0), SBay.fin (l.getD i10.toNat bay0), SBay.zr (l.getD i10.toNat bay0), SBay.zx (l.getD i10.toNat bay0), Bz (SBay.links (l.getD i10.toNat bay0)), SBay.closed
 (l.getD i10.toNat bay0), SBay.ct (l.getD i10.toNat bay0), SBay.vt (l.getD i10.toNat bay0), SBay.sat (l.getD i10.toNat bay0), SBay.travel (l.getD i10.toNat bay0), ()), ()), (s0, ka,
 kb, kc, n5, (), ()), (ka, ga), (kb, gb), (kc, gc), (n5, f5), l4, ()))))))))), (5, Blk.row n5 (cn n5 f5) (12) (118))])) else U6 cn bc ok er l s0 ka ga kb gb kc gc mpa g m (Prod.fst
 (Prod.snd (Prod.snd (Prod.snd (Prod.snd (Prod.snd (Prod.snd (((), (SBay.name (l.getD i10.toNat bay0), SBay.kind (l.getD i10.toNat bay0), SBay.off (l.getD i10.toNat bay0), SBay.fin
 (l.getD i10.toNat bay0), SBay.zr (l.getD i10.toNat bay0), SBay.zx (l.getD i10.toNat bay0), Bz (SBay.links (l.getD i10.toNat bay0)), SBay.closed (l.getD i10.toNat bay0), SBay.ct
 (l.getD i10.toNat bay0), SBay.vt (l.getD i10.toNat bay0), SBay.sat (l.getD i10.toNat bay0), SBay.travel (l.getD i10.toNat bay0), ()), ()), (s0, ka, kb, kc, n5, (), ()), (ka, ga),
 (kb, gb), (kc, gc), (n5, f5), l4, ())))))))) n5 (cn n5 f5) (IntKind.wrap .i64 (i10 + 1)))) else none) else none) else some (T.leaf (AV.c (.d (iD 0)), [(0, Blk.cells
 [C.d (.v (.string s0)), C.row (1) (1) ka, C.row (2) (5) kb, C.row (3) (6) kc, C.row (5) (12) n5, C.mp (4)] (207)), (1, Blk.row ka ga (1) ((9 : Nat))), (2, Blk.row kb gb (5) (144)),
 (3, Blk.row kc gc (6) (147)), (4, Blk.map (0) l4), (5, Blk.row n5 f5 (12) (118))]))) := by kernel_rfl
end Go.Proofs.YtbpndheehcbldaaGreatDoor.st
namespace Go.Proofs.YtbpndheehcbldaaGreatDoor.st
open Go.RowKit Go.Eb
theorem AdU {k b : Nat} (h : k + 1 <= 1000) (hb : b <= 1000) : (decide ((k + 1) * b <= 140737488355328) && decide (k + 1 <= 9223372036854775807)) = true := by
 have h1 : (k + 1) * b <= 1000 * 1000 := Nat.mul_le_mul h hb
 rw [decide_eq_true (by omega), decide_eq_true (by omega)]; rfl
theorem sNm : OrcS prog (oNm Ae) := .cons (.p Em c15) .nil
theorem sNam : OrcS prog (oNam Ae) := .cons (.inl sNm func127 (by kernel_rfl)) .nil
theorem s26 : OrcS prog (o26 Ae) := .cons (.inl sNam func68 (by kernel_rfl)) .nil
theorem sWi : OrcS prog oWi := .cons (.inl .nil func129 (by kernel_rfl)) .nil
theorem sIm : OrcS prog (oIm Ae) := .cons (.inl sWi func128 (by kernel_rfl)) (.cons (.inl .nil func129 (by kernel_rfl)) sNam)
theorem s28 : OrcS prog (o28 Ae) := .cons (.inl sIm func70 (by kernel_rfl)) .nil
theorem s30 : OrcS prog (o30 Ae) := .cons (.inl sIm func72 (by kernel_rfl)) .nil
theorem c26 (l : List ByteArray) (s0 : ByteArray) (N : List ByteArray) (hl : l.length <= 900) :
  CX prog 67 [.c (.d (Ab l)), fnOf 68] (H1 s0 (Ao N)) (vI (Dp id (fun N _ x => Bw N x) N [] l).1)
   (H1' s0 (Ao (N ++ (Dp id (fun N _ x => Bw N x) N [] l).2.map id)) (Dp id (fun N _ x => Bw N x) N [] l).2.length (fun i => busC ((Dp id (fun N _ x => Bw N x) N [] l).2.getD i e0))) := by
 obtain ⟨g, hg⟩ : ∃ g, l.length < g := ⟨l.length + 1, by omega⟩
 obtain ⟨f', hr, he⟩ := E0 (nm := id) (F := fun N _ x => Bw N x) (N := N) (c := busC) (d0 := e0) (l := l) (L := fun m mp n f i => Aei Ae l s0 (Ao N) g m mp n f i) (HX := fun mp n f => H1' s0 mp n f)
  (fun m k before f hk hb hr => by
    refine ⟨_, f, hr.app' rfl, hr, ?_⟩
    rw [Aez]
    simp only [lt1 hk, ge0, tn, Bool.and_self, cond_true, nx hk (by omega), Ck, AdU (k := k) (b := 16) (by omega) (by omega)]
    unfold Bw
    simp only [id]
    cases Ae (l.getD k e0) with
    | false => rfl
    | true => cases inB (N ++ before.map id) (l.getD k e0) <;> rfl)
  (fun m mp n f => by
    rw [Aez, lt0 (Nat.lt_irrefl _)]
    rfl) g 0 [] (fun _ => []) (by omega) (by omega) rfl (.nil _)
 have hev := ev26 Ae l s0 (Ao N) g
 simp only [List.map_nil, List.append_nil, List.drop_zero] at he hr
 refine (Ax s26.ok func67 b26 rfl (hev.trans he)).le (.refl _) ?_
 exact .cons (.refl _) (.cons (.refl _) (.cons hr.ble .nil))
theorem c28 (l : List SLine) (s0 : ByteArray) (ka : Nat) (ga : RD) (N : List ByteArray) (hl : l.length <= 900) :
  CX prog 69 [.c (.d (Ap l)), fnOf 70] (H2 s0 ka ga (Ao N)) (vI (F2 N l).1)
   (H2' s0 ka ga (Ao (N ++ (F2 N l).2.map SLine.name)) (F2 N l).2.length (fun i => As ((F2 N l).2.getD i Af))) := by
 obtain ⟨g, hg⟩ : ∃ g, l.length < g := ⟨l.length + 1, by omega⟩
 obtain ⟨f', hr, he⟩ := E0 (nm := SLine.name) (F := fun N _ x => Kh N x) (N := N) (c := As) (d0 := Af) (l := l) (L := fun m mp n f i => Aeh Ae l s0 ka ga (Ao N) g m mp n f i) (HX := fun mp n f => H2' s0 ka ga mp n f)
  (fun m k before f hk hb hr => by
    refine ⟨_, f, hr.app' rfl, hr, ?_⟩
    rw [Aey]
    simp only [lt1 hk, ge0, tn, Bool.and_self, cond_true, nx hk (by omega), Ck, AdU (k := k) (b := 48) (by omega) (by omega), fNot, fAnd]
    unfold Kh Bw Mo Ac
    cases Ae (l.getD k Af).name with
    | false => rfl
    | true =>
     cases inB (N ++ before.map SLine.name) (l.getD k Af).name with
     | true => rfl
     | false =>
      generalize decide ((l.getD k Af).r1 >= 0) = b1
      generalize decide ((l.getD k Af).r1 <= 1000) = b2
      generalize decide ((l.getD k Af).x1 >= 1) = b3
      generalize decide ((l.getD k Af).x1 <= 1000) = b4
      generalize decide ((l.getD k Af).r0 >= 0) = b5
      generalize decide ((l.getD k Af).r0 <= 1000) = b6
      generalize decide ((l.getD k Af).x0 >= 1) = b7
      generalize decide ((l.getD k Af).x0 <= 1000) = b8
      cases b1 <;> cases b2 <;> cases b3 <;> cases b4 <;> first | rfl | (cases b5 <;> cases b6 <;> cases b7 <;> cases b8 <;> rfl))
  (fun m mp n f => by
    rw [Aey, lt0 (Nat.lt_irrefl _)]
    rfl) g 0 [] (fun _ => []) (by omega) (by omega) rfl (.nil _)
 have hev := ev28 Ae l s0 ka ga (Ao N) g
 simp only [List.map_nil, List.append_nil, List.drop_zero] at he hr
 refine (Ax s28.ok func69 b28 rfl (hev.trans he)).le (.refl _) ?_
 exact .cons (.refl _) (.cons (.refl _) (.cons (.refl _) (.cons hr.ble .nil)))
theorem c30 (l : List SSrc) (s0 : ByteArray) (ka : Nat) (ga : RD) (kb : Nat) (gb : RD) (N : List ByteArray) (hl : l.length <= 900) :
  CX prog 71 [.c (.d (Ca l)), fnOf 72] (H3 s0 ka ga kb gb (Ao N)) (vI (tSrc N l).1)
   (H3' s0 ka ga kb gb (Ao (N ++ (tSrc N l).2.map SSrc.name)) (tSrc N l).2.length (fun i => Ar ((tSrc N l).2.getD i src0))) := by
 obtain ⟨g, hg⟩ : ∃ g, l.length < g := ⟨l.length + 1, by omega⟩
 obtain ⟨f', hr, he⟩ := E0 (nm := SSrc.name) (F := fun N _ x => N4 N x) (N := N) (c := Ar) (d0 := src0) (l := l) (L := fun m mp n f i => Aeg Ae l s0 ka ga kb gb (Ao N) g m mp n f i) (HX := fun mp n f => H3' s0 ka ga kb gb mp n f)
  (fun m k before f hk hb hr => by
    refine ⟨_, f, hr.app' rfl, hr, ?_⟩
    rw [Aev]
    simp only [lt1 hk, ge0, tn, Bool.and_self, cond_true, nx hk (by omega), Ck, AdU (k := k) (b := 56) (by omega) (by omega), fNot, fAnd]
    unfold N4 Bw Mo Ac
    cases Ae (l.getD k src0).name with
    | false => rfl
    | true =>
     cases inB (N ++ before.map SSrc.name) (l.getD k src0).name with
     | true => rfl
     | false =>
      generalize decide ((l.getD k src0).emf >= 1) = a1
      generalize decide ((l.getD k src0).emf <= 1000000) = a2
      generalize decide ((l.getD k src0).r1 >= 0) = b1
      generalize decide ((l.getD k src0).r1 <= 1000) = b2
      generalize decide ((l.getD k src0).x1 >= 1) = b3
      generalize decide ((l.getD k src0).x1 <= 1000) = b4
      generalize decide ((l.getD k src0).r0 >= 0) = b5
      generalize decide ((l.getD k src0).r0 <= 1000) = b6
      generalize decide ((l.getD k src0).x0 >= 1) = b7
      generalize decide ((l.getD k src0).x0 <= 1000) = b8
      cases a1 <;> cases a2 <;> first | rfl | (cases b1 <;> cases b2 <;> cases b3 <;> cases b4 <;> first | rfl | (cases b5 <;> cases b6 <;> cases b7 <;> cases b8 <;> rfl)))
  (fun m mp n f => by
    rw [Aev, lt0 (Nat.lt_irrefl _)]
    rfl) g 0 [] (fun _ => []) (by omega) (by omega) rfl (.nil _)
 have hev := ev30 Ae l s0 ka ga kb gb (Ao N) g
 simp only [List.map_nil, List.append_nil, List.drop_zero] at he hr
 refine (Ax s30.ok func71 b30 rfl (hev.trans he)).le (.refl _) ?_
 exact .cons (.refl _) (.cons (.refl _) (.cons (.refl _) (.cons (.refl _) (.cons hr.ble .nil))))
end Go.Proofs.YtbpndheehcbldaaGreatDoor.st
namespace Go.Proofs.YtbpndheehcbldaaGreatDoor.st
open Go.RowKit Go.Eb
abbrev lI (e : Int) (H : Hp) : Option (T (AV × Hp)) := some (.leaf (vI e, H))
theorem w1 {k : Nat} (h : k <= 9223372036854775807) : IntKind.wrap IntKind.i64 ((k : Int) - 1) = (k : Int) - 1 := Fz (by omega) (by omega)
theorem AaU (n : Nat) : decide ((n : Int) < 1) = decide (n < 1) := by rw [decide_eq_decide]; omega
theorem AaV (n : Nat) : decide ((n : Int) > 2) = decide (2 < n) := by rw [decide_eq_decide]; omega
theorem AaT (n : Nat) : ((n : Int) != 2) = (n != 2) := by
 rw [Bool.eq_iff_iff]; simp only [bne_iff_ne]; omega
theorem gt0 (k : Nat) : decide ((k : Int) > 0) = decide (0 < k) := by rw [decide_eq_decide]; omega
section
variable (x : SBay) (s0 : ByteArray) (ka : Nat) (ga : RD) (kb : Nat) (gb : RD) (kc : Nat) (gc : RD) (kd : Nat) (gd : RD) (mpa : MV)
def Xs (l : List SLink) : Nat -> Option Int
 | 0 => none
 | k + 1 => some (l.getD k Ba).bus
theorem lp55 (hka : ka <= 9223372036854775807) (hl : x.links.length <= 9223372036854775807) (g : Nat) : ∀ (m k : Nat), k <= x.links.length -> x.links.length - k < m ->
  Rd x s0 ka ga kb gb kc gc kd gd mpa g m k = lI (Ge ka x.kind (Xs x.links k) (x.links.drop k)) (H5 s0 ka ga kb gb kc gc kd gd mpa)
 | 0, k, _, h => by omega
 | m + 1, k, hk, h => by
  rw [Aif]
  by_cases hlt : k < x.links.length
  ·have ih := lp55 hka hl g m (k + 1) (by omega) (by omega)
   rw [Am (d := Ba) hlt]
   simp only [lt1 hlt, ge0, tn, Bool.and_self, cond_true, nx hlt (by omega), ih, w1 hka, Ge, Ac]
   cases k with
   | zero =>
    simp only [Xs, List.getD_cons_zero]
    generalize decide ((x.links.getD 0 Ba).bus >= 0) = b1
    generalize decide ((x.links.getD 0 Ba).bus <= (ka : Int) - 1) = b2
    generalize ((x.links.getD 0 Ba).pos != 1) = b3
    generalize ((x.links.getD 0 Ba).pos != 0) = b4
    generalize (x.kind == 3) = b5
    cases b1 <;> cases b2 <;> cases b3 <;> cases b4 <;> cases b5 <;> rfl
   | succ k =>
    have e1 : IntKind.wrap IntKind.i64 (((k + 1 : Nat) : Int) - 1) = (k : Int) := by rw [Fz (by omega) (by omega)]; omega
    have e2 : decide (((k + 1 : Nat) : Int) > 0) = true := by rw [gt0]; simp
    have e3 : decide ((k : Int) < (x.links.length : Int)) = true := lt1 (by omega)
    have e4 : (some (x.links.getD k Ba).bus == some (x.links.getD (k + 1) Ba).bus) = ((x.links.getD k Ba).bus == (x.links.getD (k + 1) Ba).bus) := rfl
    simp only [Xs, e1, e2, e3, e4, ge0, tn, Bool.and_self, cond_true]
    generalize decide ((x.links.getD (k + 1) Ba).bus >= 0) = b1
    generalize decide ((x.links.getD (k + 1) Ba).bus <= (ka : Int) - 1) = b2
    generalize ((x.links.getD (k + 1) Ba).pos != 1) = b3
    generalize ((x.links.getD (k + 1) Ba).pos != 0) = b4
    generalize (x.kind == 3) = b5
    generalize ((x.links.getD k Ba).bus == (x.links.getD (k + 1) Ba).bus) = b6
    cases b1 <;> cases b2 <;> cases b3 <;> cases b4 <;> cases b5 <;> cases b6 <;> rfl
  ·rw [lt0 hlt, List.drop_of_length_le (by omega)]
   rfl
theorem c55 (hka : ka <= 9223372036854775807) (hl : x.links.length <= 9223372036854775807) : CX prog 131 [.c (.ptr 0 0), aBay x] (H5 s0 ka ga kb gb kc gc kd gd mpa) (vI (B1 ka x)) (H5 s0 ka ga kb gb kc gc kd gd mpa) := by
 obtain ⟨g, hg⟩ : ∃ g, x.links.length < g := ⟨x.links.length + 1, by omega⟩
 refine Ax (sWi.ok) func131 b55 rfl ((ev55 x s0 ka ga kb gb kc gc kd gd mpa g).trans ?_)
 have := lp55 x s0 ka ga kb gb kc gc kd gd mpa hka hl g g 0 (by omega) (by omega)
 have e0 : Rd x s0 ka ga kb gb kc gc kd gd mpa g g 0 = lI (Ge ka x.kind none x.links) (H5 s0 ka ga kb gb kc gc kd gd mpa) := this
 rw [e0, AaU, AaV, AaT]
 unfold B1
 generalize decide (x.links.length < 1) = b1
 generalize decide (2 < x.links.length) = b2
 generalize (x.kind == 3) = b3
 generalize (x.links.length != 2) = b4
 cases b1 <;> cases b2 <;> cases b3 <;> cases b4 <;> rfl
end
theorem s54 : OrcS prog o54 := .cons (.inl sWi func128 (by kernel_rfl)) sWi
theorem c54 (x : SBay) : CX prog 130 [aBay x] [] (vB (Dc x)) [] := by
 refine Ax s54.ok func130 b54 rfl ((ev54 x 1).trans ?_)
 simp only [fNot, bAnd, neN, Bool.and_true]
 unfold Dc Mo Ac
 cases (x.kind == 3) with
 | true =>
  simp only [cond_true]
  cases (x.kind == 1) <;> simp only [cond_true, cond_false, Bool.and_assoc, bAnd]
 | false =>
  simp only [cond_false]
  cases (x.kind == 1) <;> simp only [cond_true, cond_false, Bool.and_assoc, bAnd]
def eqs (a : A5) : Bool := Nat.beq a.1.2.1 a.2.1.1 && (Nat.beq a.1.2.2.1 a.2.2.1.1 && (Nat.beq a.1.2.2.2.1 a.2.2.2.1.1 && (Nat.beq a.1.2.2.2.2.1 a.2.2.2.2.1.1 && (Nat.ble a.1.2.1 900 && (Nat.ble a.1.2.2.1 900 && (Nat.ble a.1.2.2.2.1 900 && Nat.ble a.1.2.2.2.2.1 900))))))
theorem Ajp (a : (Unit × RBay × Unit) × A5) (h : eqs a.2 = true) : (d55.enc a).2 = H5 a.2.1.1 a.2.2.1.1 a.2.2.1.2 a.2.2.2.1.1 a.2.2.2.1.2 a.2.2.2.2.1.1 a.2.2.2.2.1.2 a.2.2.2.2.2.1.1 a.2.2.2.2.2.1.2 a.2.2.2.2.2.2.1 /\ (a.2.2.1.1 <= 900 /\ a.2.2.2.1.1 <= 900 /\ a.2.2.2.2.1.1 <= 900 /\ a.2.2.2.2.2.1.1 <= 900) := by
 unfold eqs at h
 simp only [Bool.and_eq_true] at h
 obtain ⟨h1, h2, h3, h4, h5, h6, h7, h8⟩ := h
 have e1 := Nat.eq_of_beq_eq_true h1
 have e2 := Nat.eq_of_beq_eq_true h2
 have e3 := Nat.eq_of_beq_eq_true h3
 have e4 := Nat.eq_of_beq_eq_true h4
 have g5 := Nat.le_of_ble_eq_true h5
 have g6 := Nat.le_of_ble_eq_true h6
 have g7 := Nat.le_of_ble_eq_true h7
 have g8 := Nat.le_of_ble_eq_true h8
 refine ⟨?_, by omega, by omega, by omega, by omega⟩
 show [(0, Blk.cells [.d (dS a.2.1.1), .row 1 1 a.2.1.2.1, .row 2 5 a.2.1.2.2.1, .row 3 6 a.2.1.2.2.2.1, .row 4 12 a.2.1.2.2.2.2.1, .mp 5] 207), (1, .row a.2.2.1.1 a.2.2.1.2 1 9), (2, .row a.2.2.2.1.1 a.2.2.2.1.2 5 144), (3, .row a.2.2.2.2.1.1 a.2.2.2.2.1.2 6 147), (4, .row a.2.2.2.2.2.1.1 a.2.2.2.2.2.1.2 12 118), (5, .map 0 a.2.2.2.2.2.2.1)] = _
 rw [e1, e2, e3, e4]
def ok33 (a : (Unit × RBay × Unit) × A5) : Bool := okRB a.1.2.1 && eqs a.2
def lk33 (a : (Unit × RBay × Unit) × A5) : Int := B1 a.2.2.1.1 (rbay a.1.2.1)
theorem Qk {x : RBay} (h : okRB x = true) : (rbay x).links.length <= 9223372036854775807 := by
 unfold okRB okLk at h
 simp only [Bool.and_eq_true, decide_eq_true_eq] at h
 exact h.2
theorem s33 : OrcS prog (o33 Ae okRB (fun a => Dc (rbay a)) ok33 lk33) := by
 refine .cons (.d fun a ha => ?_) (.cons (.d fun a ha => ?_) sIm)
 ·unfold ok33 at ha
  simp only [Bool.and_eq_true] at ha
  obtain ⟨e, h1, _⟩ := Ajp a ha.2
  rw [e]
  exact (c55 (rbay a.1.2.1) _ _ _ _ _ _ _ _ _ _ (by omega) (Qk ha.1)).ge (.cons (.refl _) (.cons (So _ ha.1) .nil)) (.refl _)
 ·exact (c54 (rbay a.1.1)).ge (.cons (So _ ha) .nil) (.refl _)
section
variable (x : SBay) (s0 : ByteArray) (ka : Nat) (ga : RD) (kb : Nat) (gb : RD) (kc : Nat) (gc : RD) (bs : List SBay) (mpa : MV)
abbrev cnB (bs : List SBay) : RD := fun i => bayC (bs.getD i bay0)
def H33 : Hp := [(0, .cells [.d (dS s0), .row 1 1 ka, .row 2 5 kb, .row 3 6 kc, .row 6 12 (bs.length + 1), .mp 5] 207), (1, .row ka ga 1 9), (2, .row kb gb 5 144), (3, .row kc gc 6 147), (4, .dead), (5, .map 0 ((.string x.name, .bool true) :: mpa)), (6, .row (bs.length + 1) (appF bs.length (cnB bs) (Au (bayC x) 12)) 12 118)]
def Aea : Option (T (AV × Hp)) := bif B1 ka x != 0 then lI (B1 ka x) (H5 s0 ka ga kb gb kc gc bs.length (cnB bs) mpa) else lI 0 (H33 x s0 ka ga kb gb kc gc bs mpa)
theorem lp33 (hka : ka <= 900) (hkb : kb <= 900) (hkc : kc <= 900) (hbs : bs.length <= 900) (hl : x.links.length <= 9223372036854775807) (g : Nat) : ∀ (m k : Nat), k <= bs.length -> bs.length - k < m ->
  Hk Ae okRB (fun a => Dc (rbay a)) ok33 lk33 x s0 ka ga kb gb kc gc bs mpa g m k = bif (bs.drop k).any (Eg x) then lI 12 (H5 s0 ka ga kb gb kc gc bs.length (cnB bs) mpa) else Aea x s0 ka ga kb gb kc gc bs mpa
 | 0, k, _, h => by omega
 | m + 1, k, hk, h => by
  rw [Ago]
  by_cases hlt : k < bs.length
  ·have ih := lp33 hka hkb hkc hbs hl g m (k + 1) (by omega) (by omega)
   rw [Am (d := bay0) hlt]
   simp only [lt1 hlt, ge0, tn, Bool.and_self, cond_true, nx hlt (by omega), ih, List.any_cons, Eg]
   generalize (x.kind != 3) = b1
   generalize (x.kind == (bs.getD k bay0).kind) = b2
   generalize (x.off == (bs.getD k bay0).off) = b3
   generalize (x.fin == (bs.getD k bay0).fin) = b4
   cases b1 <;> cases b2 <;> cases b3 <;> cases b4 <;> rfl
  ·rw [lt0 hlt, List.drop_of_length_le (by omega)]
   have hok : ok33 (((), bayR x, ()), (s0, ka, kb, kc, bs.length, (), ()), (ka, ga), (kb, gb), (kc, gc), (bs.length, cnB bs), mpa, ()) = true := by
    unfold ok33
    have e1 : okRB (bayR x) = true := Eu hl
    have e2 : eqs ((s0, ka, kb, kc, bs.length, (), ()), (ka, ga), (kb, gb), (kc, gc), (bs.length, cnB bs), mpa, ()) = true := by
     unfold eqs
     simp only [Nat.beq_refl, Bool.true_and, bleD, decide_eq_true hka, decide_eq_true hkb, decide_eq_true hkc, decide_eq_true hbs]
    simp only [e1, e2, Bool.and_self]
   have hlk : lk33 (((), bayR x, ()), (s0, ka, kb, kc, bs.length, (), ()), (ka, ga), (kb, gb), (kc, gc), (bs.length, cnB bs), mpa, ()) = B1 ka x := by
    unfold lk33
    simp only [F7]
   simp only [cond_false, List.any_nil]
   show (bif ok33 (((), bayR x, ()), (s0, ka, kb, kc, bs.length, (), ()), (ka, ga), (kb, gb), (kc, gc), (bs.length, cnB bs), mpa, ()) then (bif lk33 (((), bayR x, ()), (s0, ka, kb, kc, bs.length, (), ()), (ka, ga), (kb, gb), (kc, gc), (bs.length, cnB bs), mpa, ()) != 0 then
    lI (lk33 (((), bayR x, ()), (s0, ka, kb, kc, bs.length, (), ()), (ka, ga), (kb, gb), (kc, gc), (bs.length, cnB bs), mpa, ())) (H5 s0 ka ga kb gb kc gc bs.length (cnB bs) mpa) else
    (bif decide ((bs.length + 1) * 120 <= 140737488355328) && decide (bs.length + 1 <= 9223372036854775807) then lI 0 (H33 x s0 ka ga kb gb kc gc bs mpa) else none)) else none) = _
   rw [hok, hlk, AdU (k := bs.length) (b := 120) (by omega) (by omega)]
   unfold Aea
   cases (B1 ka x != 0) <;> rfl
def r33 : Option (T (AV × Hp)) := bif H0 ka kb kc (B0 (A2 mpa (.string x.name))) bs x != 0 then lI (H0 ka kb kc (B0 (A2 mpa (.string x.name))) bs x) (H5 s0 ka ga kb gb kc gc bs.length (cnB bs) mpa) else lI 0 (H33 x s0 ka ga kb gb kc gc bs mpa)
theorem e33 (hka : ka <= 900) (hkb : kb <= 900) (hkc : kc <= 900) (hbs : bs.length <= 900) (hl : x.links.length <= 9223372036854775807) (g : Nat) (hg : bs.length < g) :
  Al prog (o33 Ae okRB (fun a => Dc (rbay a)) ok33 lk33) AhR g f74 (Ad f74) [.c (.ptr 0 0), aBay x] (H5 s0 ka ga kb gb kc gc bs.length (cnB bs) mpa) = r33 x s0 ka ga kb gb kc gc bs mpa := by
 refine (ev33 Ae okRB (fun a => Dc (rbay a)) ok33 lk33 x s0 ka ga kb gb kc gc bs mpa g).trans ?_
 have hL := lp33 x s0 ka ga kb gb kc gc bs mpa hka hkb hkc hbs hl g g 0 (by omega) (by omega)
 have hL0 : Hk Ae okRB (fun a => Dc (rbay a)) ok33 lk33 x s0 ka ga kb gb kc gc bs mpa g g 0 = bif bs.any (Eg x) then lI 12 (H5 s0 ka ga kb gb kc gc bs.length (cnB bs) mpa) else Aea x s0 ka ga kb gb kc gc bs mpa := hL
 have e1 : okRB (bayR x) = true := Eu hl
 have e2 : Dc (rbay (bayR x)) = Dc x := by rw [F7]
 have e1' : okRB (x.name, x.kind, x.off, x.fin, x.zr, x.zx, Bz x.links, x.closed, x.ct, x.vt, x.sat, x.travel, ()) = true := e1
 have e2' : Dc (rbay (x.name, x.kind, x.off, x.fin, x.zr, x.zx, Bz x.links, x.closed, x.ct, x.vt, x.sat, x.travel, ())) = Dc x := e2
 have w0 : IntKind.wrap IntKind.i64 ((1 : Int) - 1) = (1 : Int) - 1 := by decide
 rw [hL0]
 simp only [e1', e2', w1 (show kb <= 9223372036854775807 by omega), w1 (show kc <= 9223372036854775807 by omega), w0, cond_true]
 unfold r33 H0 AdF Ac Aea
 cases Ae x.name with
 | false => rfl
 | true =>
  cases B0 (A2 mpa (Value.string x.name)) with
  | true => rfl
  | false =>
   cases (x.kind == 1) with
   | true =>
    simp only [cond_true, cond_false, Bool.not_true]
    generalize decide (x.off >= 0) = b1
    generalize decide (x.off <= (kb : Int) - 1) = b2
    cases b1 <;> cases b2 <;> first | rfl | (cases Dc x <;> first | rfl | (cases bs.any (Eg x) <;> rfl))
   | false =>
    cases (x.kind == 2) with
    | true =>
     simp only [cond_true, cond_false, Bool.not_true]
     generalize decide (x.off >= 0) = b1
     generalize decide (x.off <= (kc : Int) - 1) = b2
     cases b1 <;> cases b2 <;> first | rfl | (cases Dc x <;> first | rfl | (cases bs.any (Eg x) <;> rfl))
    | false =>
     cases (x.kind == 3) with
     | true =>
      simp only [cond_true, cond_false, Bool.not_true]
      generalize decide (x.off >= 0) = b1
      generalize decide (x.off <= (1 : Int) - 1) = b2
      cases b1 <;> cases b2 <;> first | rfl | (cases Dc x <;> first | rfl | (cases bs.any (Eg x) <;> rfl))
     | false => rfl
end
end Go.Proofs.YtbpndheehcbldaaGreatDoor.st
namespace Go.Proofs.YtbpndheehcbldaaGreatDoor.st
open Go.RowKit Go.Eb
def ok32 (a : (Unit × RBay × Unit) × A5) : Bool := (okRB a.1.2.1 && eqs a.2) && okE B5 (.sl 12 a.2.2.2.2.2.1.1 a.2.2.2.2.2.1.2)
def er32 (a : (Unit × RBay × Unit) × A5) : Int := H0 a.2.2.1.1 a.2.2.2.1.1 a.2.2.2.2.1.1 (B0 (A2 a.2.2.2.2.2.2.1 (.string (rbay a.1.2.1).name))) (theE B5 (.sl 12 a.2.2.2.2.2.1.1 a.2.2.2.2.2.1.2)) (rbay a.1.2.1)
def cn32 (n : Nat) (f : RD) : RD := cnB (theE B5 (.sl 12 n f))
def bc32 (x : RBay) : List D := bayC (rbay x)
theorem s32 : OrcS prog (o32 cn32 bc32 ok32 er32) := by
 have key : ∀ a, ok32 a = true -> ∀ e K, r33 (rbay a.1.2.1) a.2.1.1 a.2.2.1.1 a.2.2.1.2 a.2.2.2.1.1 a.2.2.2.1.2 a.2.2.2.2.1.1 a.2.2.2.2.1.2 (theE B5 (.sl 12 a.2.2.2.2.2.1.1 a.2.2.2.2.2.1.2)) a.2.2.2.2.2.2.1 = lI e K -> CX prog 74 (d55.enc a).1 (d55.enc a).2 (vI e) K := by
  intro a ha e K hr
  unfold ok32 at ha
  simp only [Bool.and_eq_true] at ha
  obtain ⟨⟨h1, h2⟩, h3⟩ := ha
  obtain ⟨he, g1, g2, g3, g4⟩ := Ajp a h2
  have hn := (RL.of_ok h3).1
  have hb := Acb (t := 118) h3
  generalize hbs : theE B5 (.sl 12 a.2.2.2.2.2.1.1 a.2.2.2.2.2.1.2) = bs at hr hn hb
  have hc := e33 (rbay a.1.2.1) a.2.1.1 a.2.2.1.1 a.2.2.1.2 a.2.2.2.1.1 a.2.2.2.1.2 a.2.2.2.2.1.1 a.2.2.2.2.1.2 bs a.2.2.2.2.2.2.1 g1 g2 g3 (by omega) (Qk h1) (bs.length + 1) (by omega)
  rw [hr] at hc
  refine (Ax s33.ok func74 b33 rfl hc).ge (.cons (.refl _) (.cons (So _ h1) .nil)) ?_
  rw [he]
  have e0 : a.2.2.2.2.2.1.1 = bs.length := hn
  refine .cons ?_ (.cons (.refl _) (.cons (.refl _) (.cons (.refl _) (.cons hb (.cons (.refl _) .nil)))))
  rw [e0]
  exact .refl _
 refine .cons (.b (fun a ha hb => ?_) (fun a ha hb => ?_)) .nil
 ·have hb' : er32 a = 0 := by simpa using hb
  have h3 : okE B5 (.sl 12 a.2.2.2.2.2.1.1 a.2.2.2.2.2.1.2) = true := by unfold ok32 at ha; simp only [Bool.and_eq_true] at ha; exact ha.2
  have hn := (RL.of_ok h3).1
  refine (key a ha 0 _ ?_).le (.refl _) (.refl _)
  unfold r33
  unfold er32 at hb'
  rw [hb']
  simp only [bne_self_eq_false, cond_false]
  congr 3
  unfold h33 H33 cn32 bc32
  rw [<- hn]
  rfl
 ·have hb' : er32 a ≠ 0 := by intro e; rw [e] at hb; simp at hb
  have h3 : okE B5 (.sl 12 a.2.2.2.2.2.1.1 a.2.2.2.2.2.1.2) = true := by unfold ok32 at ha; simp only [Bool.and_eq_true] at ha; exact ha.2
  have h2 : eqs a.2 = true := by unfold ok32 at ha; simp only [Bool.and_eq_true] at ha; exact ha.1.2
  have hx := key a ha (er32 a) (H5 a.2.1.1 a.2.2.1.1 a.2.2.1.2 a.2.2.2.1.1 a.2.2.2.1.2 a.2.2.2.2.1.1 a.2.2.2.2.1.2 (theE B5 (.sl 12 a.2.2.2.2.2.1.1 a.2.2.2.2.2.1.2)).length (cnB (theE B5 (.sl 12 a.2.2.2.2.2.1.1 a.2.2.2.2.2.1.2))) a.2.2.2.2.2.2.1) (by
   unfold r33
   have : (H0 a.2.2.1.1 a.2.2.2.1.1 a.2.2.2.2.1.1 (B0 (A2 a.2.2.2.2.2.2.1 (Value.string (rbay a.1.2.1).name))) (theE B5 (.sl 12 a.2.2.2.2.2.1.1 a.2.2.2.2.2.1.2)) (rbay a.1.2.1) != 0) = true := by
    unfold er32 at hb'
    simpa using hb'
   rw [this]
   rfl)
  refine hx.le (.refl _) ?_
  unfold h33e cn32
  have hn := (RL.of_ok h3).1
  rw [<- hn]
  exact .refl _
theorem c32 (l : List SBay) (s0 : ByteArray) (ka : Nat) (ga : RD) (kb : Nat) (gb : RD) (kc : Nat) (gc : RD) (N : List ByteArray) (hl : l.length <= 900) (hka : ka <= 900) (hkb : kb <= 900) (hkc : kc <= 900) (hlk : ∀ i, i < l.length -> (l.getD i bay0).links.length <= 9223372036854775807) :
  CX prog 73 [.c (.d (B5 l)), fnOf 74] (H4 s0 ka ga kb gb kc gc (Ao N)) (vI (tBay ka kb kc N l).1)
   (H4' s0 ka ga kb gb kc gc (Ao (N ++ (tBay ka kb kc N l).2.map SBay.name)) (tBay ka kb kc N l).2.length (fun i => bayC ((tBay ka kb kc N l).2.getD i bay0))) := by
 obtain ⟨g, hg⟩ : ∃ g, l.length < g := ⟨l.length + 1, by omega⟩
 obtain ⟨f', hr, he⟩ := E0 (nm := SBay.name) (F := fun N before x => Ld ka kb kc N before x) (N := N) (c := bayC) (d0 := bay0) (l := l) (L := fun m mp n f i => U6 cn32 bc32 ok32 er32 l s0 ka ga kb gb kc gc (Ao N) g m mp n f i) (HX := fun mp n f => H4' s0 ka ga kb gb kc gc mp n f)
  (fun m k before f hk hb hr => by
    have hthe := hr.the (sz := 12) J4
    have hx : rbay (bayR (l.getD k bay0)) = l.getD k bay0 := F7 _
    have hok : ok32 (((), bayR (l.getD k bay0), ()), (s0, ka, kb, kc, k, (), ()), (ka, ga), (kb, gb), (kc, gc), (k, f), Ao (N ++ before.map SBay.name), ()) = true := by
     unfold ok32
     have e1 : okRB (bayR (l.getD k bay0)) = true := Eu (hlk k hk)
     have e2 : eqs ((s0, ka, kb, kc, k, (), ()), (ka, ga), (kb, gb), (kc, gc), (k, f), Ao (N ++ before.map SBay.name), ()) = true := by
      unfold eqs
      simp only [Nat.beq_refl, Bool.true_and, bleD, decide_eq_true hka, decide_eq_true hkb, decide_eq_true hkc, decide_eq_true (show k <= 900 by omega)]
     simp only [e1, e2, hthe.1, Bool.and_self]
    have her : er32 (((), bayR (l.getD k bay0), ()), (s0, ka, kb, kc, k, (), ()), (ka, ga), (kb, gb), (kc, gc), (k, f), Ao (N ++ before.map SBay.name), ()) = Ld ka kb kc (N ++ before.map SBay.name) before (l.getD k bay0) := by
     unfold er32 Ld
     simp only [hx, hthe.2, Ck]
    refine ⟨appF k (cn32 k f) (Au (bc32 (bayR (l.getD k bay0))) 12), cn32 k f, ?_, ?_, ?_⟩
    ·unfold bc32 cn32
     rw [hx, hthe.2]
     have := (RL.data (c := bayC) (d0 := bay0) before).app' (x := l.getD k bay0) (sz := 12) rfl
     rw [hb] at this
     exact this
    ·unfold cn32
     rw [hthe.2]
     have := RL.data (c := bayC) (d0 := bay0) before
     rw [hb] at this
     exact this
    ·rw [Aeu]
     simp only [lt1 hk, ge0, tn, Bool.and_self, cond_true, nx hk (by omega)]
     show (bif ok32 (((), bayR (l.getD k bay0), ()), (s0, ka, kb, kc, k, (), ()), (ka, ga), (kb, gb), (kc, gc), (k, f), Ao (N ++ before.map SBay.name), ()) then
      (bif er32 (((), bayR (l.getD k bay0), ()), (s0, ka, kb, kc, k, (), ()), (ka, ga), (kb, gb), (kc, gc), (k, f), Ao (N ++ before.map SBay.name), ()) == 0 then
        U6 cn32 bc32 ok32 er32 l s0 ka ga kb gb kc gc (Ao N) g m ((Value.string (l.getD k bay0).name, Value.bool true) :: Ao (N ++ before.map SBay.name)) (k + 1) (appF k (cn32 k f) (Au (bc32 (bayR (l.getD k bay0))) 12)) ((k + 1 : Nat) : Int)
      else (bif er32 (((), bayR (l.getD k bay0), ()), (s0, ka, kb, kc, k, (), ()), (ka, ga), (kb, gb), (kc, gc), (k, f), Ao (N ++ before.map SBay.name), ()) != 0 then lI (er32 (((), bayR (l.getD k bay0), ()), (s0, ka, kb, kc, k, (), ()), (ka, ga), (kb, gb), (kc, gc), (k, f), Ao (N ++ before.map SBay.name), ())) (H4' s0 ka ga kb gb kc gc (Ao (N ++ before.map SBay.name)) k (cn32 k f)) else U6 cn32 bc32 ok32 er32 l s0 ka ga kb gb kc gc (Ao N) g m (Ao (N ++ before.map SBay.name)) k (cn32 k f) ((k + 1 : Nat) : Int))) else none) = _
     rw [hok, her]
     unfold bne
     cases (Ld ka kb kc (N ++ before.map SBay.name) before (l.getD k bay0) == 0) <;> rfl)
  (fun m mp n f => by
    rw [Aeu, lt0 (Nat.lt_irrefl _)]
    rfl) g 0 [] (fun _ => []) (by omega) (by omega) rfl (.nil _)
 have hev := ev32 cn32 bc32 ok32 er32 l s0 ka ga kb gb kc gc (Ao N) g
 simp only [List.map_nil, List.append_nil, List.drop_zero] at he hr
 refine (Ax s32.ok func73 b32 rfl (hev.trans he)).le (.refl _) ?_
 exact .cons (.refl _) (.cons (.refl _) (.cons (.refl _) (.cons (.refl _) (.cons (.refl _) (.cons hr.ble .nil)))))
end Go.Proofs.YtbpndheehcbldaaGreatDoor.st
end
