/-
  An evaluator of Go code on abstract values, proved sound, and what it computes of the functions that the statement reaches (part 4). No condition.
-/
import Derived.Test.YthmapnolgdpkbaaDoorQ3
set_option maxRecDepth 100000
namespace Go.Proofs.YthmapnolgdpkbaaDoor.de
open Go.RowKit Go.Eb Go.Proofs.YthmapnolgdpkbaaDoor.st
set_option maxRecDepth 100000

structure KS where
  okf : List AV → Bool
  fn : List AV → Nat
  fv : List AV → Nat → Int
  fo : List AV → Bool
  ob : (Nat × ByteArray × Unit) × (Nat × (Nat → List D)) × Unit → Bool
  ib : (Nat × ByteArray × Unit) × (Nat × (Nat → List D)) × Unit → Int
noncomputable def oLk (Z : KS) : Orc := Orc.cons 101 (ansD dIxb Z.ob (fun a => vI (Z.ib a)) fun a => (dIxb.enc a).2) Orc.nil
noncomputable def oSt (Z : KS) : Orc := oFm Z.okf Z.fn Z.fv Z.fo (Orc.cons 94 (inl Tryd.prog (oLk Z) na 1 Tryd.f94) Orc.nil)
noncomputable def annsct : Ann := annOf []
theorem bsct : Tryd.f80.body = some (bodyOf Tryd.f80) := by kernel_rfl
theorem evsct (Z : KS) (t : ByteArray) (s0 : ByteArray) (ka : Nat) (ga : Nat → List D) (kb : Nat) (gb : Nat → List D) (kc : Nat) (gc : Nat → List D) (kd : Nat) (gd : Nat → List D) (mpa : List (Value × Value)) (nd : Bool) (b : SBay) (kl : Nat) (gl : Nat → List D) (seen : List (Value × Value)) (g : Nat) : callC Tryd.prog (oSt Z) annsct g Tryd.f80 (bodyOf Tryd.f80) [.c (.ptr 0 0), aIt (say [tCt, t]), .c (.ptr 6 0), .c (.mp 8)] [(0, .cells [.d (dS s0), .row 1 1 ka, .row 2 5 kb, .row 3 6 kc, .row 4 12 kd, .mp 5, .d (dB nd)] 73), (1, .row ka ga 1 9), (2, .row kb gb 5 50), (3, .row kc gc 6 53), (4, .row kd gd 12 44), (5, .map 0 mpa), (6, .cells [.d (dS b.name), .d (dI b.kind), .d (dI b.off), .d (dI b.fin), .d (dI b.zr), .d (dI b.zx), .row 7 2 kl, .d (dB b.closed), .d (dI b.ct), .d (dI b.vt), .d (dI b.sat), .d (dI b.travel)] 44), (7, .row kl gl 2 104), (8, .map 0 seen)] =
 (bif KS.okf Z [AV.agg (List.map C.d (icells (say [tCt, t]))), AV.c (.d (.v (.string (ByteArray.mk #[119, 110])))), AV.c (.d (.v (.bool false)))]
 then (bif !KS.fo Z [AV.agg (List.map C.d (icells (say [tCt, t]))), AV.c (.d (.v (.string (ByteArray.mk #[119, 110])))), AV.c (C.d (D.v (Value.bool
 false)))] then some (T.leaf (AV.c (.d (.v (.int .i64 (6 : Int)))), [(0, Blk.cells [C.d (.v (.string s0)), C.row (1) (1) ka, C.row ((2 :
 Nat)) (5) kb, C.row (3) (6) kc, C.row (4) (12) kd, C.mp (5), C.d (.v (.bool nd))] (73)), (1, Blk.row ka ga ((1
 : Nat)) (9)), (2, Blk.row kb gb (5) (50)), (3, Blk.row kc gc (6) (53)), (4, Blk.row kd gd (12) (44)),
 (5, Blk.map (0) mpa), (6, Blk.cells [C.d (.v (.string (SBay.name b))), C.d (.v (.int .i64 (SBay.kind b))), C.d (D.v (Value.int IntKind.i64
 (SBay.off b))), C.d (.v (.int .i64 (SBay.fin b))), C.d (.v (.int .i64 (SBay.zr b))), C.d (.v (.int .i64 (SBay.zx b))), C.row (7) ((2 :
 Nat)) kl, C.d (.v (.bool (SBay.closed b))), C.d (.v (.int .i64 (SBay.ct b))), C.d (.v (.int .i64 (SBay.vt b))), C.d (D.v (Value.int IntKind.i64
 (SBay.sat b))), C.d (.v (.int .i64 (SBay.travel b)))] (44)), (7, Blk.row kl gl (2) (104)), (8, Blk.map (0) seen)])) else
 (bif boolOf (assoc seen (Value.string (Wd.text (List.getD (It.words (say [tCt, t])) (Int.toNat (0 : Int)) w0)))) then some (T.leaf (AV.c (.d (.v (.int .i64 (8 :
 Int)))), [(0, Blk.cells [C.d (.v (.string s0)), C.row (1) (1) ka, C.row (2) (5) kb, C.row (3) (6) kc, C.row (4)
 (12) kd, C.mp (5), C.d (.v (.bool nd))] (73)), (1, Blk.row ka ga (1) (9)), (2, Blk.row kb gb (5) (50)),
 (3, Blk.row kc gc (6) (53)), (4, Blk.row kd gd (12) (44)), (5, Blk.map (0) mpa), (6, Blk.cells [C.d (D.v
 (Value.string (SBay.name b))), C.d (.v (.int .i64 (SBay.kind b))), C.d (.v (.int .i64 (SBay.off b))), C.d (.v (.int .i64 (SBay.fin b))), C.d
 (D.v (.int .i64 (SBay.zr b))), C.d (.v (.int .i64 (SBay.zx b))), C.row (7) (2) kl, C.d (.v (.bool (SBay.closed b))), C.d (D.v
 (Value.int IntKind.i64 (SBay.ct b))), C.d (.v (.int .i64 (SBay.vt b))), C.d (.v (.int .i64 (SBay.sat b))), C.d (.v (.int .i64 (SBay.travel
 b)))] (44)), (7, Blk.row kl gl (2) (104)), (8, Blk.map (0) seen)])) else (bif decide ((0 : Int) ≤ (0 : Int)) && decide ((0 : Int) <
 (↑(KS.fn Z [AV.agg (List.map C.d (icells (say [tCt, t]))), AV.c (.d (.v (.string (ByteArray.mk #[119, 110])))), AV.c (.d (.v (.bool false)))]) :
 Int)) then some (T.leaf (AV.c (.d (.v (.int .i64 (0 : Int)))), [(0, Blk.cells [C.d (.v (.string s0)), C.row (1) (1) ka, C.row (2)
 (5) kb, C.row (3) (6) kc, C.row (4) (12) kd, C.mp (5), C.d (.v (.bool nd))] (73)), (1, Blk.row ka ga ((1 :
 Nat)) (9)), (2, Blk.row kb gb (5) (50)), (3, Blk.row kc gc (6) (53)), (4, Blk.row kd gd (12) (44)),
 (5, Blk.map (0) mpa), (6, Blk.cells [C.d (.v (.string (SBay.name b))), C.d (.v (.int .i64 (SBay.kind b))), C.d (D.v (Value.int IntKind.i64
 (SBay.off b))), C.d (.v (.int .i64 (SBay.fin b))), C.d (.v (.int .i64 (SBay.zr b))), C.d (.v (.int .i64 (SBay.zx b))), C.row (7) ((2 :
 Nat)) kl, C.d (.v (.bool (SBay.closed b))), C.d (.v (.int .i64 (KS.fv Z [AV.agg (List.map C.d (icells (say [tCt, t]))), AV.c (.d (.v (.string (ByteArray.mk
 #[119, 110])))), AV.c (.d (.v (.bool false)))] (Int.toNat (0 : Int))))), C.d (.v (.int .i64 (SBay.vt b))), C.d (D.v (Value.int IntKind.i64
 (SBay.sat b))), C.d (.v (.int .i64 (SBay.travel b)))] (44)), (7, Blk.row kl gl (2) (104)), (8, Blk.map (0) seen)])) else
 none))) else none) := by kernel_rfl
noncomputable def annsvt : Ann := annOf []
theorem bsvt : Tryd.f80.body = some (bodyOf Tryd.f80) := by kernel_rfl
theorem evsvt (Z : KS) (t : ByteArray) (s0 : ByteArray) (ka : Nat) (ga : Nat → List D) (kb : Nat) (gb : Nat → List D) (kc : Nat) (gc : Nat → List D) (kd : Nat) (gd : Nat → List D) (mpa : List (Value × Value)) (nd : Bool) (b : SBay) (kl : Nat) (gl : Nat → List D) (seen : List (Value × Value)) (g : Nat) : callC Tryd.prog (oSt Z) annsvt g Tryd.f80 (bodyOf Tryd.f80) [.c (.ptr 0 0), aIt (say [tVt, t]), .c (.ptr 6 0), .c (.mp 8)] [(0, .cells [.d (dS s0), .row 1 1 ka, .row 2 5 kb, .row 3 6 kc, .row 4 12 kd, .mp 5, .d (dB nd)] 73), (1, .row ka ga 1 9), (2, .row kb gb 5 50), (3, .row kc gc 6 53), (4, .row kd gd 12 44), (5, .map 0 mpa), (6, .cells [.d (dS b.name), .d (dI b.kind), .d (dI b.off), .d (dI b.fin), .d (dI b.zr), .d (dI b.zx), .row 7 2 kl, .d (dB b.closed), .d (dI b.ct), .d (dI b.vt), .d (dI b.sat), .d (dI b.travel)] 44), (7, .row kl gl 2 104), (8, .map 0 seen)] =
 (bif KS.okf Z [AV.agg (List.map C.d (icells (say [tVt, t]))), AV.c (.d (.v (.string (ByteArray.mk #[119, 110])))), AV.c (.d (.v (.bool false)))]
 then (bif !KS.fo Z [AV.agg (List.map C.d (icells (say [tVt, t]))), AV.c (.d (.v (.string (ByteArray.mk #[119, 110])))), AV.c (C.d (D.v (Value.bool
 false)))] then some (T.leaf (AV.c (.d (.v (.int .i64 (6 : Int)))), [(0, Blk.cells [C.d (.v (.string s0)), C.row (1) (1) ka, C.row ((2 :
 Nat)) (5) kb, C.row (3) (6) kc, C.row (4) (12) kd, C.mp (5), C.d (.v (.bool nd))] (73)), (1, Blk.row ka ga ((1
 : Nat)) (9)), (2, Blk.row kb gb (5) (50)), (3, Blk.row kc gc (6) (53)), (4, Blk.row kd gd (12) (44)),
 (5, Blk.map (0) mpa), (6, Blk.cells [C.d (.v (.string (SBay.name b))), C.d (.v (.int .i64 (SBay.kind b))), C.d (D.v (Value.int IntKind.i64
 (SBay.off b))), C.d (.v (.int .i64 (SBay.fin b))), C.d (.v (.int .i64 (SBay.zr b))), C.d (.v (.int .i64 (SBay.zx b))), C.row (7) ((2 :
 Nat)) kl, C.d (.v (.bool (SBay.closed b))), C.d (.v (.int .i64 (SBay.ct b))), C.d (.v (.int .i64 (SBay.vt b))), C.d (D.v (Value.int IntKind.i64
 (SBay.sat b))), C.d (.v (.int .i64 (SBay.travel b)))] (44)), (7, Blk.row kl gl (2) (104)), (8, Blk.map (0) seen)])) else
 (bif boolOf (assoc seen (Value.string (Wd.text (List.getD (It.words (say [tVt, t])) (Int.toNat (0 : Int)) w0)))) then some (T.leaf (AV.c (.d (.v (.int .i64 (8 :
 Int)))), [(0, Blk.cells [C.d (.v (.string s0)), C.row (1) (1) ka, C.row (2) (5) kb, C.row (3) (6) kc, C.row (4)
 (12) kd, C.mp (5), C.d (.v (.bool nd))] (73)), (1, Blk.row ka ga (1) (9)), (2, Blk.row kb gb (5) (50)),
 (3, Blk.row kc gc (6) (53)), (4, Blk.row kd gd (12) (44)), (5, Blk.map (0) mpa), (6, Blk.cells [C.d (D.v
 (Value.string (SBay.name b))), C.d (.v (.int .i64 (SBay.kind b))), C.d (.v (.int .i64 (SBay.off b))), C.d (.v (.int .i64 (SBay.fin b))), C.d
 (D.v (.int .i64 (SBay.zr b))), C.d (.v (.int .i64 (SBay.zx b))), C.row (7) (2) kl, C.d (.v (.bool (SBay.closed b))), C.d (D.v
 (Value.int IntKind.i64 (SBay.ct b))), C.d (.v (.int .i64 (SBay.vt b))), C.d (.v (.int .i64 (SBay.sat b))), C.d (.v (.int .i64 (SBay.travel
 b)))] (44)), (7, Blk.row kl gl (2) (104)), (8, Blk.map (0) seen)])) else (bif decide ((0 : Int) ≤ (0 : Int)) && decide ((0 : Int) <
 (↑(KS.fn Z [AV.agg (List.map C.d (icells (say [tVt, t]))), AV.c (.d (.v (.string (ByteArray.mk #[119, 110])))), AV.c (.d (.v (.bool false)))]) :
 Int)) then some (T.leaf (AV.c (.d (.v (.int .i64 (0 : Int)))), [(0, Blk.cells [C.d (.v (.string s0)), C.row (1) (1) ka, C.row (2)
 (5) kb, C.row (3) (6) kc, C.row (4) (12) kd, C.mp (5), C.d (.v (.bool nd))] (73)), (1, Blk.row ka ga ((1 :
 Nat)) (9)), (2, Blk.row kb gb (5) (50)), (3, Blk.row kc gc (6) (53)), (4, Blk.row kd gd (12) (44)),
 (5, Blk.map (0) mpa), (6, Blk.cells [C.d (.v (.string (SBay.name b))), C.d (.v (.int .i64 (SBay.kind b))), C.d (D.v (Value.int IntKind.i64
 (SBay.off b))), C.d (.v (.int .i64 (SBay.fin b))), C.d (.v (.int .i64 (SBay.zr b))), C.d (.v (.int .i64 (SBay.zx b))), C.row (7) ((2 :
 Nat)) kl, C.d (.v (.bool (SBay.closed b))), C.d (.v (.int .i64 (SBay.ct b))), C.d (.v (.int .i64 (KS.fv Z [AV.agg (List.map C.d (icells (say [tVt,
 t]))), AV.c (.d (.v (.string (ByteArray.mk #[119, 110])))), AV.c (.d (.v (.bool false)))] (Int.toNat (0 : Int))))), C.d (D.v (Value.int IntKind.i64
 (SBay.sat b))), C.d (.v (.int .i64 (SBay.travel b)))] (44)), (7, Blk.row kl gl (2) (104)), (8, Blk.map (0) seen)])) else
 none))) else none) := by kernel_rfl
noncomputable def annssa : Ann := annOf []
theorem bssa : Tryd.f80.body = some (bodyOf Tryd.f80) := by kernel_rfl
theorem evssa (Z : KS) (t : ByteArray) (s0 : ByteArray) (ka : Nat) (ga : Nat → List D) (kb : Nat) (gb : Nat → List D) (kc : Nat) (gc : Nat → List D) (kd : Nat) (gd : Nat → List D) (mpa : List (Value × Value)) (nd : Bool) (b : SBay) (kl : Nat) (gl : Nat → List D) (seen : List (Value × Value)) (g : Nat) : callC Tryd.prog (oSt Z) annssa g Tryd.f80 (bodyOf Tryd.f80) [.c (.ptr 0 0), aIt (say [tSat, t]), .c (.ptr 6 0), .c (.mp 8)] [(0, .cells [.d (dS s0), .row 1 1 ka, .row 2 5 kb, .row 3 6 kc, .row 4 12 kd, .mp 5, .d (dB nd)] 73), (1, .row ka ga 1 9), (2, .row kb gb 5 50), (3, .row kc gc 6 53), (4, .row kd gd 12 44), (5, .map 0 mpa), (6, .cells [.d (dS b.name), .d (dI b.kind), .d (dI b.off), .d (dI b.fin), .d (dI b.zr), .d (dI b.zx), .row 7 2 kl, .d (dB b.closed), .d (dI b.ct), .d (dI b.vt), .d (dI b.sat), .d (dI b.travel)] 44), (7, .row kl gl 2 104), (8, .map 0 seen)] =
 (bif KS.okf Z [AV.agg (List.map C.d (icells (say [tSat, t]))), AV.c (.d (.v (.string (ByteArray.mk #[119, 110])))), AV.c (.d (.v (.bool false)))]
 then (bif !KS.fo Z [AV.agg (List.map C.d (icells (say [tSat, t]))), AV.c (.d (.v (.string (ByteArray.mk #[119, 110])))), AV.c (C.d (D.v (Value.bool
 false)))] then some (T.leaf (AV.c (.d (.v (.int .i64 (6 : Int)))), [(0, Blk.cells [C.d (.v (.string s0)), C.row (1) (1) ka, C.row ((2 :
 Nat)) (5) kb, C.row (3) (6) kc, C.row (4) (12) kd, C.mp (5), C.d (.v (.bool nd))] (73)), (1, Blk.row ka ga ((1
 : Nat)) (9)), (2, Blk.row kb gb (5) (50)), (3, Blk.row kc gc (6) (53)), (4, Blk.row kd gd (12) (44)),
 (5, Blk.map (0) mpa), (6, Blk.cells [C.d (.v (.string (SBay.name b))), C.d (.v (.int .i64 (SBay.kind b))), C.d (D.v (Value.int IntKind.i64
 (SBay.off b))), C.d (.v (.int .i64 (SBay.fin b))), C.d (.v (.int .i64 (SBay.zr b))), C.d (.v (.int .i64 (SBay.zx b))), C.row (7) ((2 :
 Nat)) kl, C.d (.v (.bool (SBay.closed b))), C.d (.v (.int .i64 (SBay.ct b))), C.d (.v (.int .i64 (SBay.vt b))), C.d (D.v (Value.int IntKind.i64
 (SBay.sat b))), C.d (.v (.int .i64 (SBay.travel b)))] (44)), (7, Blk.row kl gl (2) (104)), (8, Blk.map (0) seen)])) else
 (bif boolOf (assoc seen (Value.string (Wd.text (List.getD (It.words (say [tSat, t])) (Int.toNat (0 : Int)) w0)))) then some (T.leaf (AV.c (.d (.v (.int .i64 (8 :
 Int)))), [(0, Blk.cells [C.d (.v (.string s0)), C.row (1) (1) ka, C.row (2) (5) kb, C.row (3) (6) kc, C.row (4)
 (12) kd, C.mp (5), C.d (.v (.bool nd))] (73)), (1, Blk.row ka ga (1) (9)), (2, Blk.row kb gb (5) (50)),
 (3, Blk.row kc gc (6) (53)), (4, Blk.row kd gd (12) (44)), (5, Blk.map (0) mpa), (6, Blk.cells [C.d (D.v
 (Value.string (SBay.name b))), C.d (.v (.int .i64 (SBay.kind b))), C.d (.v (.int .i64 (SBay.off b))), C.d (.v (.int .i64 (SBay.fin b))), C.d
 (D.v (.int .i64 (SBay.zr b))), C.d (.v (.int .i64 (SBay.zx b))), C.row (7) (2) kl, C.d (.v (.bool (SBay.closed b))), C.d (D.v
 (Value.int IntKind.i64 (SBay.ct b))), C.d (.v (.int .i64 (SBay.vt b))), C.d (.v (.int .i64 (SBay.sat b))), C.d (.v (.int .i64 (SBay.travel
 b)))] (44)), (7, Blk.row kl gl (2) (104)), (8, Blk.map (0) seen)])) else (bif decide ((0 : Int) ≤ (0 : Int)) && decide ((0 : Int) <
 (↑(KS.fn Z [AV.agg (List.map C.d (icells (say [tSat, t]))), AV.c (.d (.v (.string (ByteArray.mk #[119, 110])))), AV.c (.d (.v (.bool false)))]) :
 Int)) then some (T.leaf (AV.c (.d (.v (.int .i64 (0 : Int)))), [(0, Blk.cells [C.d (.v (.string s0)), C.row (1) (1) ka, C.row (2)
 (5) kb, C.row (3) (6) kc, C.row (4) (12) kd, C.mp (5), C.d (.v (.bool nd))] (73)), (1, Blk.row ka ga ((1 :
 Nat)) (9)), (2, Blk.row kb gb (5) (50)), (3, Blk.row kc gc (6) (53)), (4, Blk.row kd gd (12) (44)),
 (5, Blk.map (0) mpa), (6, Blk.cells [C.d (.v (.string (SBay.name b))), C.d (.v (.int .i64 (SBay.kind b))), C.d (D.v (Value.int IntKind.i64
 (SBay.off b))), C.d (.v (.int .i64 (SBay.fin b))), C.d (.v (.int .i64 (SBay.zr b))), C.d (.v (.int .i64 (SBay.zx b))), C.row (7) ((2 :
 Nat)) kl, C.d (.v (.bool (SBay.closed b))), C.d (.v (.int .i64 (SBay.ct b))), C.d (.v (.int .i64 (SBay.vt b))), C.d (D.v (Value.int IntKind.i64
 (KS.fv Z [AV.agg (List.map C.d (icells (say [tSat, t]))), AV.c (.d (.v (.string (ByteArray.mk #[119, 110])))), AV.c (.d (.v (.bool false)))]
 (Int.toNat (0 : Int))))), C.d (.v (.int .i64 (SBay.travel b)))] (44)), (7, Blk.row kl gl (2) (104)), (8, Blk.map (0)
 seen)])) else none))) else none) := by kernel_rfl
noncomputable def annstr : Ann := annOf []
theorem bstr : Tryd.f80.body = some (bodyOf Tryd.f80) := by kernel_rfl
theorem evstr (Z : KS) (t : ByteArray) (s0 : ByteArray) (ka : Nat) (ga : Nat → List D) (kb : Nat) (gb : Nat → List D) (kc : Nat) (gc : Nat → List D) (kd : Nat) (gd : Nat → List D) (mpa : List (Value × Value)) (nd : Bool) (b : SBay) (kl : Nat) (gl : Nat → List D) (seen : List (Value × Value)) (g : Nat) : callC Tryd.prog (oSt Z) annstr g Tryd.f80 (bodyOf Tryd.f80) [.c (.ptr 0 0), aIt (say [tTravel, t]), .c (.ptr 6 0), .c (.mp 8)] [(0, .cells [.d (dS s0), .row 1 1 ka, .row 2 5 kb, .row 3 6 kc, .row 4 12 kd, .mp 5, .d (dB nd)] 73), (1, .row ka ga 1 9), (2, .row kb gb 5 50), (3, .row kc gc 6 53), (4, .row kd gd 12 44), (5, .map 0 mpa), (6, .cells [.d (dS b.name), .d (dI b.kind), .d (dI b.off), .d (dI b.fin), .d (dI b.zr), .d (dI b.zx), .row 7 2 kl, .d (dB b.closed), .d (dI b.ct), .d (dI b.vt), .d (dI b.sat), .d (dI b.travel)] 44), (7, .row kl gl 2 104), (8, .map 0 seen)] =
 (bif KS.okf Z [AV.agg (List.map C.d (icells (say [tTravel, t]))), AV.c (.d (.v (.string (ByteArray.mk #[119, 110])))), AV.c (C.d (D.v (Value.bool
 false)))] then (bif !KS.fo Z [AV.agg (List.map C.d (icells (say [tTravel, t]))), AV.c (.d (.v (.string (ByteArray.mk #[119, 110])))), AV.c (C.d (D.v
 (Value.bool false)))] then some (T.leaf (AV.c (.d (.v (.int .i64 (6 : Int)))), [(0, Blk.cells [C.d (.v (.string s0)), C.row (1) (1) ka,
 C.row (2) (5) kb, C.row (3) (6) kc, C.row (4) (12) kd, C.mp (5), C.d (.v (.bool nd))] (73)), (1,
 Blk.row ka ga (1) (9)), (2, Blk.row kb gb (5) (50)), (3, Blk.row kc gc (6) (53)), (4, Blk.row kd gd ((12 :
 Nat)) (44)), (5, Blk.map (0) mpa), (6, Blk.cells [C.d (.v (.string (SBay.name b))), C.d (.v (.int .i64 (SBay.kind b))), C.d (D.v
 (Value.int IntKind.i64 (SBay.off b))), C.d (.v (.int .i64 (SBay.fin b))), C.d (.v (.int .i64 (SBay.zr b))), C.d (.v (.int .i64 (SBay.zx b))),
 C.row (7) (2) kl, C.d (.v (.bool (SBay.closed b))), C.d (.v (.int .i64 (SBay.ct b))), C.d (.v (.int .i64 (SBay.vt b))), C.d (D.v
 (Value.int IntKind.i64 (SBay.sat b))), C.d (.v (.int .i64 (SBay.travel b)))] (44)), (7, Blk.row kl gl (2) (104)), (8, Blk.map
 (0) seen)])) else (bif boolOf (assoc seen (Value.string (Wd.text (List.getD (It.words (say [tTravel, t])) (Int.toNat (0 : Int)) w0)))) then some (T.leaf (AV.c (C.d (D.v
 (Value.int IntKind.i64 (8 : Int)))), [(0, Blk.cells [C.d (.v (.string s0)), C.row (1) (1) ka, C.row (2) (5) kb, C.row (3) ((6 :
 Nat)) kc, C.row (4) (12) kd, C.mp (5), C.d (.v (.bool nd))] (73)), (1, Blk.row ka ga (1) (9)), (2, Blk.row kb
 gb (5) (50)), (3, Blk.row kc gc (6) (53)), (4, Blk.row kd gd (12) (44)), (5, Blk.map (0) mpa), ((6 :
 Nat), Blk.cells [C.d (.v (.string (SBay.name b))), C.d (.v (.int .i64 (SBay.kind b))), C.d (.v (.int .i64 (SBay.off b))), C.d (D.v (Value.int
 IntKind.i64 (SBay.fin b))), C.d (.v (.int .i64 (SBay.zr b))), C.d (.v (.int .i64 (SBay.zx b))), C.row (7) (2) kl, C.d (D.v (Value.bool
 (SBay.closed b))), C.d (.v (.int .i64 (SBay.ct b))), C.d (.v (.int .i64 (SBay.vt b))), C.d (.v (.int .i64 (SBay.sat b))), C.d (D.v (Value.int
 IntKind.i64 (SBay.travel b)))] (44)), (7, Blk.row kl gl (2) (104)), (8, Blk.map (0) seen)])) else (bif decide ((0 : Int) ≤ (0 : Int))
 && decide ((0 : Int) < (↑(KS.fn Z [AV.agg (List.map C.d (icells (say [tTravel, t]))), AV.c (.d (.v (.string (ByteArray.mk #[119, 110])))), AV.c (C.d (D.v
 (Value.bool false)))]) : Int)) then some (T.leaf (AV.c (.d (.v (.int .i64 (0 : Int)))), [(0, Blk.cells [C.d (.v (.string s0)), C.row (1) ((1 :
 Nat)) ka, C.row (2) (5) kb, C.row (3) (6) kc, C.row (4) (12) kd, C.mp (5), C.d (.v (.bool nd))] (73)), ((1 :
 Nat), Blk.row ka ga (1) (9)), (2, Blk.row kb gb (5) (50)), (3, Blk.row kc gc (6) (53)), (4, Blk.row kd gd
 (12) (44)), (5, Blk.map (0) mpa), (6, Blk.cells [C.d (.v (.string (SBay.name b))), C.d (.v (.int .i64 (SBay.kind b))), C.d
 (D.v (.int .i64 (SBay.off b))), C.d (.v (.int .i64 (SBay.fin b))), C.d (.v (.int .i64 (SBay.zr b))), C.d (.v (.int .i64 (SBay.zx
 b))), C.row (7) (2) kl, C.d (.v (.bool (SBay.closed b))), C.d (.v (.int .i64 (SBay.ct b))), C.d (.v (.int .i64 (SBay.vt b))), C.d
 (D.v (.int .i64 (SBay.sat b))), C.d (.v (.int .i64 (KS.fv Z [AV.agg (List.map C.d (icells (say [tTravel, t]))), AV.c (.d (.v (.string (ByteArray.mk
 #[119, 110])))), AV.c (.d (.v (.bool false)))] (Int.toNat (0 : Int)))))] (44)), (7, Blk.row kl gl (2) (104)), (8,
 Blk.map (0) seen)])) else none))) else none) := by kernel_rfl
noncomputable def annsel1 : Ann := annOf []
theorem bsel1 : Tryd.f80.body = some (bodyOf Tryd.f80) := by kernel_rfl
theorem evsel1 (Z : KS) (t : ByteArray) (s0 : ByteArray) (ka : Nat) (ga : Nat → List D) (kb : Nat) (gb : Nat → List D) (kc : Nat) (gc : Nat → List D) (kd : Nat) (gd : Nat → List D) (mpa : List (Value × Value)) (nd : Bool) (b : SBay) (kl : Nat) (gl : Nat → List D) (seen : List (Value × Value)) (g : Nat) : callC Tryd.prog (oSt Z) annsel1 g Tryd.f80 (bodyOf Tryd.f80) [.c (.ptr 0 0), aIt (say [tSelect, t, tClosed]), .c (.ptr 6 0), .c (.mp 8)] [(0, .cells [.d (dS s0), .row 1 1 ka, .row 2 5 kb, .row 3 6 kc, .row 4 12 kd, .mp 5, .d (dB nd)] 73), (1, .row ka ga 1 9), (2, .row kb gb 5 50), (3, .row kc gc 6 53), (4, .row kd gd 12 44), (5, .map 0 mpa), (6, .cells [.d (dS b.name), .d (dI b.kind), .d (dI b.off), .d (dI b.fin), .d (dI b.zr), .d (dI b.zx), .row 7 2 kl, .d (dB b.closed), .d (dI b.ct), .d (dI b.vt), .d (dI b.sat), .d (dI b.travel)] 44), (7, .row kl gl 2 104), (8, .map 0 seen)] =
 (bif KS.okf Z [AV.agg (List.map C.d (icells (say [tSelect, t, tClosed]))), AV.c (.d (.v (.string (ByteArray.mk #[119, 119, 119])))), AV.c (C.d
 (D.v (.bool false)))] then (bif !KS.fo Z [AV.agg (List.map C.d (icells (say [tSelect, t, tClosed]))), AV.c (.d (.v (.string (ByteArray.mk #[119, 119,
 119])))), AV.c (.d (.v (.bool false)))] then some (T.leaf (AV.c (.d (.v (.int .i64 (6 : Int)))), [(0, Blk.cells [C.d (.v (.string s0)),
 C.row (1) (1) ka, C.row (2) (5) kb, C.row (3) (6) kc, C.row (4) (12) kd, C.mp (5), C.d (.v (.bool nd))]
 (73)), (1, Blk.row ka ga (1) (9)), (2, Blk.row kb gb (5) (50)), (3, Blk.row kc gc (6) (53)), ((4 :
 Nat), Blk.row kd gd (12) (44)), (5, Blk.map (0) mpa), (6, Blk.cells [C.d (.v (.string (SBay.name b))), C.d (D.v (Value.int IntKind.i64
 (SBay.kind b))), C.d (.v (.int .i64 (SBay.off b))), C.d (.v (.int .i64 (SBay.fin b))), C.d (.v (.int .i64 (SBay.zr b))), C.d (D.v (Value.int
 IntKind.i64 (SBay.zx b))), C.row (7) (2) kl, C.d (.v (.bool (SBay.closed b))), C.d (.v (.int .i64 (SBay.ct b))), C.d (D.v (Value.int IntKind.i64
 (SBay.vt b))), C.d (.v (.int .i64 (SBay.sat b))), C.d (.v (.int .i64 (SBay.travel b)))] (44)), (7, Blk.row kl gl (2) ((104 :
 Nat))), (8, Blk.map (0) seen)])) else (bif KS.ob Z ((ka, Wd.text (List.getD (It.words (say [tSelect, t, tClosed])) (Int.toNat (1 : Int)) w0), ()), (ka, ga), ()) then
 (bif decide (KS.ib Z ((ka, Wd.text (List.getD (It.words (say [tSelect, t, tClosed])) (Int.toNat (1 : Int)) w0), ()), (ka, ga), ()) < (0 : Int)) then some (T.leaf (AV.c (C.d (D.v
 (Value.int IntKind.i64 (9 : Int)))), [(0, Blk.cells [C.d (.v (.string s0)), C.row (1) (1) ka, C.row (2) (5) kb, C.row (3) ((6 :
 Nat)) kc, C.row (4) (12) kd, C.mp (5), C.d (.v (.bool nd))] (73)), (1, Blk.row ka ga (1) (9)), (2, Blk.row kb
 gb (5) (50)), (3, Blk.row kc gc (6) (53)), (4, Blk.row kd gd (12) (44)), (5, Blk.map (0) mpa), ((6 :
 Nat), Blk.cells [C.d (.v (.string (SBay.name b))), C.d (.v (.int .i64 (SBay.kind b))), C.d (.v (.int .i64 (SBay.off b))), C.d (D.v (Value.int
 IntKind.i64 (SBay.fin b))), C.d (.v (.int .i64 (SBay.zr b))), C.d (.v (.int .i64 (SBay.zx b))), C.row (7) (2) kl, C.d (D.v (Value.bool
 (SBay.closed b))), C.d (.v (.int .i64 (SBay.ct b))), C.d (.v (.int .i64 (SBay.vt b))), C.d (.v (.int .i64 (SBay.sat b))), C.d (D.v (Value.int
 IntKind.i64 (SBay.travel b)))] (44)), (7, Blk.row kl gl (2) (104)), (8, Blk.map (0) seen)])) else (bif decide ((kl + 1) * (16
 : Nat) ≤ 140737488355328) && decide (kl + 1 ≤ 9223372036854775807) then some (T.leaf (AV.c (.d (.v (.int .i64 (0 : Int)))), [(0,
 Blk.cells [C.d (.v (.string s0)), C.row (1) (1) ka, C.row (2) (5) kb, C.row (3) (6) kc, C.row (4) (12) kd, C.mp
 (5), C.d (.v (.bool nd))] (73)), (1, Blk.row ka ga (1) (9)), (2, Blk.row kb gb (5) (50)), (3, Blk.row
 kc gc (6) (53)), (4, Blk.row kd gd (12) (44)), (5, Blk.map (0) mpa), (6, Blk.cells [C.d (.v (.string (SBay.name
 b))), C.d (.v (.int .i64 (SBay.kind b))), C.d (.v (.int .i64 (SBay.off b))), C.d (.v (.int .i64 (SBay.fin b))), C.d (D.v (Value.int
 IntKind.i64 (SBay.zr b))), C.d (.v (.int .i64 (SBay.zx b))), C.row (9) (2) (kl + 1), C.d (.v (.bool (SBay.closed b))), C.d (D.v (Value.int
 IntKind.i64 (SBay.ct b))), C.d (.v (.int .i64 (SBay.vt b))), C.d (.v (.int .i64 (SBay.sat b))), C.d (.v (.int .i64 (SBay.travel b)))] ((44 :
 Nat))), (7, Blk.dead), (8, Blk.map (0) seen), (9, Blk.row (kl + 1) (appF kl gl (chunk [D.v (.int .i64 (KS.ib Z ((ka, Wd.text
 (List.getD (It.words (say [tSelect, t, tClosed])) (Int.toNat (1 : Int)) w0), ()), (ka, ga), ()))), D.v (.int .i64 (1 : Int))] (1 + 1))) (2) ((104
 : Nat)))])) else none)) else none)) else none) := by kernel_rfl
noncomputable def annsel0 : Ann := annOf []
theorem bsel0 : Tryd.f80.body = some (bodyOf Tryd.f80) := by kernel_rfl
theorem evsel0 (Z : KS) (t : ByteArray) (s0 : ByteArray) (ka : Nat) (ga : Nat → List D) (kb : Nat) (gb : Nat → List D) (kc : Nat) (gc : Nat → List D) (kd : Nat) (gd : Nat → List D) (mpa : List (Value × Value)) (nd : Bool) (b : SBay) (kl : Nat) (gl : Nat → List D) (seen : List (Value × Value)) (g : Nat) : callC Tryd.prog (oSt Z) annsel0 g Tryd.f80 (bodyOf Tryd.f80) [.c (.ptr 0 0), aIt (say [tSelect, t, tOpen]), .c (.ptr 6 0), .c (.mp 8)] [(0, .cells [.d (dS s0), .row 1 1 ka, .row 2 5 kb, .row 3 6 kc, .row 4 12 kd, .mp 5, .d (dB nd)] 73), (1, .row ka ga 1 9), (2, .row kb gb 5 50), (3, .row kc gc 6 53), (4, .row kd gd 12 44), (5, .map 0 mpa), (6, .cells [.d (dS b.name), .d (dI b.kind), .d (dI b.off), .d (dI b.fin), .d (dI b.zr), .d (dI b.zx), .row 7 2 kl, .d (dB b.closed), .d (dI b.ct), .d (dI b.vt), .d (dI b.sat), .d (dI b.travel)] 44), (7, .row kl gl 2 104), (8, .map 0 seen)] =
 (bif KS.okf Z [AV.agg (List.map C.d (icells (say [tSelect, t, tOpen]))), AV.c (.d (.v (.string (ByteArray.mk #[119, 119, 119])))), AV.c (C.d
 (D.v (.bool false)))] then (bif !KS.fo Z [AV.agg (List.map C.d (icells (say [tSelect, t, tOpen]))), AV.c (.d (.v (.string (ByteArray.mk #[119, 119,
 119])))), AV.c (.d (.v (.bool false)))] then some (T.leaf (AV.c (.d (.v (.int .i64 (6 : Int)))), [(0, Blk.cells [C.d (.v (.string s0)),
 C.row (1) (1) ka, C.row (2) (5) kb, C.row (3) (6) kc, C.row (4) (12) kd, C.mp (5), C.d (.v (.bool nd))]
 (73)), (1, Blk.row ka ga (1) (9)), (2, Blk.row kb gb (5) (50)), (3, Blk.row kc gc (6) (53)), ((4 :
 Nat), Blk.row kd gd (12) (44)), (5, Blk.map (0) mpa), (6, Blk.cells [C.d (.v (.string (SBay.name b))), C.d (D.v (Value.int IntKind.i64
 (SBay.kind b))), C.d (.v (.int .i64 (SBay.off b))), C.d (.v (.int .i64 (SBay.fin b))), C.d (.v (.int .i64 (SBay.zr b))), C.d (D.v (Value.int
 IntKind.i64 (SBay.zx b))), C.row (7) (2) kl, C.d (.v (.bool (SBay.closed b))), C.d (.v (.int .i64 (SBay.ct b))), C.d (D.v (Value.int IntKind.i64
 (SBay.vt b))), C.d (.v (.int .i64 (SBay.sat b))), C.d (.v (.int .i64 (SBay.travel b)))] (44)), (7, Blk.row kl gl (2) ((104 :
 Nat))), (8, Blk.map (0) seen)])) else (bif KS.ob Z ((ka, Wd.text (List.getD (It.words (say [tSelect, t, tOpen])) (Int.toNat (1 : Int)) w0), ()), (ka, ga), ()) then
 (bif decide (KS.ib Z ((ka, Wd.text (List.getD (It.words (say [tSelect, t, tOpen])) (Int.toNat (1 : Int)) w0), ()), (ka, ga), ()) < (0 : Int)) then some (T.leaf (AV.c (C.d (D.v
 (Value.int IntKind.i64 (9 : Int)))), [(0, Blk.cells [C.d (.v (.string s0)), C.row (1) (1) ka, C.row (2) (5) kb, C.row (3) ((6 :
 Nat)) kc, C.row (4) (12) kd, C.mp (5), C.d (.v (.bool nd))] (73)), (1, Blk.row ka ga (1) (9)), (2, Blk.row kb
 gb (5) (50)), (3, Blk.row kc gc (6) (53)), (4, Blk.row kd gd (12) (44)), (5, Blk.map (0) mpa), ((6 :
 Nat), Blk.cells [C.d (.v (.string (SBay.name b))), C.d (.v (.int .i64 (SBay.kind b))), C.d (.v (.int .i64 (SBay.off b))), C.d (D.v (Value.int
 IntKind.i64 (SBay.fin b))), C.d (.v (.int .i64 (SBay.zr b))), C.d (.v (.int .i64 (SBay.zx b))), C.row (7) (2) kl, C.d (D.v (Value.bool
 (SBay.closed b))), C.d (.v (.int .i64 (SBay.ct b))), C.d (.v (.int .i64 (SBay.vt b))), C.d (.v (.int .i64 (SBay.sat b))), C.d (D.v (Value.int
 IntKind.i64 (SBay.travel b)))] (44)), (7, Blk.row kl gl (2) (104)), (8, Blk.map (0) seen)])) else (bif decide ((kl + 1) * (16
 : Nat) ≤ 140737488355328) && decide (kl + 1 ≤ 9223372036854775807) then some (T.leaf (AV.c (.d (.v (.int .i64 (0 : Int)))), [(0,
 Blk.cells [C.d (.v (.string s0)), C.row (1) (1) ka, C.row (2) (5) kb, C.row (3) (6) kc, C.row (4) (12) kd, C.mp
 (5), C.d (.v (.bool nd))] (73)), (1, Blk.row ka ga (1) (9)), (2, Blk.row kb gb (5) (50)), (3, Blk.row
 kc gc (6) (53)), (4, Blk.row kd gd (12) (44)), (5, Blk.map (0) mpa), (6, Blk.cells [C.d (.v (.string (SBay.name
 b))), C.d (.v (.int .i64 (SBay.kind b))), C.d (.v (.int .i64 (SBay.off b))), C.d (.v (.int .i64 (SBay.fin b))), C.d (D.v (Value.int
 IntKind.i64 (SBay.zr b))), C.d (.v (.int .i64 (SBay.zx b))), C.row (9) (2) (kl + 1), C.d (.v (.bool (SBay.closed b))), C.d (D.v (Value.int
 IntKind.i64 (SBay.ct b))), C.d (.v (.int .i64 (SBay.vt b))), C.d (.v (.int .i64 (SBay.sat b))), C.d (.v (.int .i64 (SBay.travel b)))] ((44 :
 Nat))), (7, Blk.dead), (8, Blk.map (0) seen), (9, Blk.row (kl + 1) (appF kl gl (chunk [D.v (.int .i64 (KS.ib Z ((ka, Wd.text
 (List.getD (It.words (say [tSelect, t, tOpen])) (Int.toNat (1 : Int)) w0), ()), (ka, ga), ()))), D.v (.int .i64 (0 : Int))] (1 + 1))) (2) ((104 :
 Nat)))])) else none)) else none)) else none) := by kernel_rfl
noncomputable def annsbr : Ann := annOf []
theorem bsbr : Tryd.f80.body = some (bodyOf Tryd.f80) := by kernel_rfl
theorem evsbr (Z : KS)  (s0 : ByteArray) (ka : Nat) (ga : Nat → List D) (kb : Nat) (gb : Nat → List D) (kc : Nat) (gc : Nat → List D) (kd : Nat) (gd : Nat → List D) (mpa : List (Value × Value)) (nd : Bool) (b : SBay) (kl : Nat) (gl : Nat → List D) (seen : List (Value × Value)) (g : Nat) : callC Tryd.prog (oSt Z) annsbr g Tryd.f80 (bodyOf Tryd.f80) [.c (.ptr 0 0), aIt (say [tBreaker, tOpen]), .c (.ptr 6 0), .c (.mp 8)] [(0, .cells [.d (dS s0), .row 1 1 ka, .row 2 5 kb, .row 3 6 kc, .row 4 12 kd, .mp 5, .d (dB nd)] 73), (1, .row ka ga 1 9), (2, .row kb gb 5 50), (3, .row kc gc 6 53), (4, .row kd gd 12 44), (5, .map 0 mpa), (6, .cells [.d (dS b.name), .d (dI b.kind), .d (dI b.off), .d (dI b.fin), .d (dI b.zr), .d (dI b.zx), .row 7 2 kl, .d (dB b.closed), .d (dI b.ct), .d (dI b.vt), .d (dI b.sat), .d (dI b.travel)] 44), (7, .row kl gl 2 104), (8, .map 0 seen)] =
 (bif KS.okf Z [AV.agg (List.map C.d (icells (say [tBreaker, tOpen]))), AV.c (.d (.v (.string (ByteArray.mk #[119, 119])))), AV.c (C.d (D.v (Value.bool
 false)))] then (bif !KS.fo Z [AV.agg (List.map C.d (icells (say [tBreaker, tOpen]))), AV.c (.d (.v (.string (ByteArray.mk #[119, 119])))), AV.c (C.d (D.v
 (Value.bool false)))] then some (T.leaf (AV.c (.d (.v (.int .i64 (6 : Int)))), [(0, Blk.cells [C.d (.v (.string s0)), C.row (1) (1) ka,
 C.row (2) (5) kb, C.row (3) (6) kc, C.row (4) (12) kd, C.mp (5), C.d (.v (.bool nd))] (73)), (1,
 Blk.row ka ga (1) (9)), (2, Blk.row kb gb (5) (50)), (3, Blk.row kc gc (6) (53)), (4, Blk.row kd gd ((12 :
 Nat)) (44)), (5, Blk.map (0) mpa), (6, Blk.cells [C.d (.v (.string (SBay.name b))), C.d (.v (.int .i64 (SBay.kind b))), C.d (D.v
 (Value.int IntKind.i64 (SBay.off b))), C.d (.v (.int .i64 (SBay.fin b))), C.d (.v (.int .i64 (SBay.zr b))), C.d (.v (.int .i64 (SBay.zx b))),
 C.row (7) (2) kl, C.d (.v (.bool (SBay.closed b))), C.d (.v (.int .i64 (SBay.ct b))), C.d (.v (.int .i64 (SBay.vt b))), C.d (D.v
 (Value.int IntKind.i64 (SBay.sat b))), C.d (.v (.int .i64 (SBay.travel b)))] (44)), (7, Blk.row kl gl (2) (104)), (8, Blk.map
 (0) seen)])) else (bif boolOf (assoc seen (Value.string (Wd.text (List.getD (It.words (say [tBreaker, tOpen])) (Int.toNat (0 : Int)) w0)))) then some (T.leaf (AV.c (C.d (D.v
 (Value.int IntKind.i64 (8 : Int)))), [(0, Blk.cells [C.d (.v (.string s0)), C.row (1) (1) ka, C.row (2) (5) kb, C.row (3) ((6 :
 Nat)) kc, C.row (4) (12) kd, C.mp (5), C.d (.v (.bool nd))] (73)), (1, Blk.row ka ga (1) (9)), (2, Blk.row kb
 gb (5) (50)), (3, Blk.row kc gc (6) (53)), (4, Blk.row kd gd (12) (44)), (5, Blk.map (0) mpa), ((6 :
 Nat), Blk.cells [C.d (.v (.string (SBay.name b))), C.d (.v (.int .i64 (SBay.kind b))), C.d (.v (.int .i64 (SBay.off b))), C.d (D.v (Value.int
 IntKind.i64 (SBay.fin b))), C.d (.v (.int .i64 (SBay.zr b))), C.d (.v (.int .i64 (SBay.zx b))), C.row (7) (2) kl, C.d (D.v (Value.bool
 (SBay.closed b))), C.d (.v (.int .i64 (SBay.ct b))), C.d (.v (.int .i64 (SBay.vt b))), C.d (.v (.int .i64 (SBay.sat b))), C.d (D.v (Value.int
 IntKind.i64 (SBay.travel b)))] (44)), (7, Blk.row kl gl (2) (104)), (8, Blk.map (0) seen)])) else some (T.leaf (AV.c (C.d (D.v
 (Value.int IntKind.i64 (0 : Int)))), [(0, Blk.cells [C.d (.v (.string s0)), C.row (1) (1) ka, C.row (2) (5) kb, C.row (3) ((6 :
 Nat)) kc, C.row (4) (12) kd, C.mp (5), C.d (.v (.bool nd))] (73)), (1, Blk.row ka ga (1) (9)), (2, Blk.row kb
 gb (5) (50)), (3, Blk.row kc gc (6) (53)), (4, Blk.row kd gd (12) (44)), (5, Blk.map (0) mpa), ((6 :
 Nat), Blk.cells [C.d (.v (.string (SBay.name b))), C.d (.v (.int .i64 (SBay.kind b))), C.d (.v (.int .i64 (SBay.off b))), C.d (D.v (Value.int
 IntKind.i64 (SBay.fin b))), C.d (.v (.int .i64 (SBay.zr b))), C.d (.v (.int .i64 (SBay.zx b))), C.row (7) (2) kl, C.d (D.v (Value.bool
 false)), C.d (.v (.int .i64 (SBay.ct b))), C.d (.v (.int .i64 (SBay.vt b))), C.d (.v (.int .i64 (SBay.sat b))), C.d (D.v (Value.int
 IntKind.i64 (SBay.travel b)))] (44)), (7, Blk.row kl gl (2) (104)), (8, Blk.map (0) seen)])))) else none) := by kernel_rfl
end Go.Proofs.YthmapnolgdpkbaaDoor.de
namespace Go.Proofs.YthmapnolgdpkbaaDoor.de
open Go.RowKit Go.Eb Go.Proofs.YthmapnolgdpkbaaDoor.st
set_option maxRecDepth 100000

end Go.Proofs.YthmapnolgdpkbaaDoor.de
namespace Go.Proofs.YthmapnolgdpkbaaDoor.de
open Go.RowKit Go.Eb Go.Proofs.YthmapnolgdpkbaaDoor.st
set_option maxRecDepth 100000

end Go.Proofs.YthmapnolgdpkbaaDoor.de
namespace Go.Proofs.YthmapnolgdpkbaaDoor.de
open Go.RowKit Go.Eb Go.Proofs.YthmapnolgdpkbaaDoor.st
set_option maxRecDepth 100000

/-! decimal -/
noncomputable def okD (n : Int) (x : List AV) : Bool := okG (en1 vI) (fun k => decide (0 ≤ k) && decide (k < n)) x
noncomputable def dcD (x : List AV) : ByteArray := dec (theT (en1 vI) x)
theorem okD_of {n k : Int} (h0 : 0 ≤ k) (h1 : k < n) : okD n [vI k] = true := okG_enc (en1_inj vI_inj) k (by simp [h0, h1])
theorem dcD_of (k : Int) : dcD [vI k] = dec k := by
  unfold dcD
  rw [show [vI k] = en1 vI k from rfl, theT_enc (en1_inj vI_inj)]
abbrev M12 : Int := 1000000000000
end Go.Proofs.YthmapnolgdpkbaaDoor.de
namespace Go.Proofs.YthmapnolgdpkbaaDoor.de
open Go.RowKit Go.Eb Go.Proofs.YthmapnolgdpkbaaDoor.st
set_option maxRecDepth 100000

def numOk (n : Int) : Prop := 0 ≤ n ∧ n < M12
theorem okN {n : Int} (h : numOk n) : okD M12 [AV.c (C.d (D.v (Value.int IntKind.i64 n)))] = true := okD_of h.1 h.2
theorem dcN (n : Int) : dcD [AV.c (C.d (D.v (Value.int IntKind.i64 n)))] = dec n := dcD_of n
structure BFit (s : SSta) (b : SBay) : Prop where
  off1 : b.kind = 1 → 0 ≤ b.off ∧ b.off < s.lines.length
  off2 : b.kind = 2 → 0 ≤ b.off ∧ b.off < s.srcs.length
  fin : numOk b.fin
  zr : numOk b.zr
  zx : numOk b.zx
  ct : numOk b.ct
  vt : numOk b.vt
  sat : numOk b.sat
  travel : numOk b.travel
  bus : ∀ k, k < b.links.length → 0 ≤ (b.links.getD k link0).bus ∧ (b.links.getD k link0).bus < s.buses.length
  len : b.links.length ≤ 100
theorem appOk5 {n : Nat} (h : n ≤ 5000) : (decide ((n + 1) * 64 ≤ 140737488355328) && decide (n + 1 ≤ 9223372036854775807)) = true := by
  rw [decide_eq_true (by omega), decide_eq_true (by omega)]; rfl
section
variable {s : SSta} {b : SBay} (h : BFit s b) (g : Nat) (hg : 200 < g) (x2 : Int) (x2' : Bool) (w : D)
include h
include hg
end

end Go.Proofs.YthmapnolgdpkbaaDoor.de
namespace Go.Proofs.YthmapnolgdpkbaaDoor.de
open Go.RowKit Go.Eb Go.Proofs.YthmapnolgdpkbaaDoor.st
set_option maxRecDepth 100000

structure LFit (l : SLine) : Prop where
  r1 : numOk l.r1
  x1 : numOk l.x1
  r0 : numOk l.r0
  x0 : numOk l.x0
structure GFit (l : SSrc) : Prop where
  emf : numOk l.emf
  r1 : numOk l.r1
  x1 : numOk l.x1
  r0 : numOk l.r0
  x0 : numOk l.x0
structure SFit (s : SSta) : Prop where
  lines : ∀ k, k < s.lines.length → LFit (s.lines.getD k line0)
  srcs : ∀ k, k < s.srcs.length → GFit (s.srcs.getD k src0)
  bays : ∀ k, k < s.bays.length → BFit s (s.bays.getD k bay0)
  nb : s.buses.length ≤ 900
  nl : s.lines.length ≤ 900
  ns : s.srcs.length ≤ 900
  nq : s.bays.length ≤ 900
noncomputable def bFit (a : SSta × SBay) : Bool := @decide (BFit a.1 a.2) (Classical.propDecidable _)
theorem bFit_iff {a : SSta × SBay} : bFit a = true ↔ BFit a.1 a.2 := by unfold bFit; simp
theorem aBay_inj : InjA aBay := aG_inj bayC_inj
abbrev eSB := en2 aSta aBay
theorem eSB_inj : InjT eSB := en2_inj aSta_inj aBay_inj
section
variable {s : SSta} (hs : SFit s) (g : Nat) (hg : 6000 < g)
include hs hg
end

end Go.Proofs.YthmapnolgdpkbaaDoor.de
namespace Go.Proofs.YthmapnolgdpkbaaDoor.de
open Go.RowKit Go.Eb Go.Proofs.YthmapnolgdpkbaaDoor.st
set_option maxRecDepth 100000
open Go.Proofs.YthmapnolgdpkbaaDoor.wd (numS rN c11)

def formS : List Wd → List UInt8 → List Int × Bool
  | [], _ => ([], true)
  | w :: r, ks => bif w.q then ([], false) else bif ((ks.headD 0).toNat : Int) != 110 then formS r ks.tail else bif !(numS w.text).2 then ([], false) else ((numS w.text).1 :: (formS r ks.tail).1, (formS r ks.tail).2)
abbrev intC (n : Int) : List D := [dI n]
abbrev intsD (l : List Int) : D := .sl 1 l.length fun i => [dI (l.getD i 0)]
def noF : Option (T (AV × Hp)) := some (T.leaf (AV.tup [(false, [C.d (D.v (Value.slice none 0 0))]), (false, [C.d (D.v (Value.bool false))])], []))
def okF (n : Nat) (f : Nat → List D) : Option (T (AV × Hp)) := some (T.leaf (AV.tup [(false, [C.row 0 1 n]), (false, [C.d (D.v (Value.bool true))])], [(0, Blk.row n f 1 3)]))
theorem appOk8 {n : Nat} (h : n ≤ 5000) : (decide ((n + 1) * 8 ≤ 140737488355328) && decide (n + 1 ≤ 9223372036854775807)) = true := by
  rw [decide_eq_true (by omega), decide_eq_true (by omega)]; rfl
theorem drop_head {l : List UInt8} {k : Nat} : (l.drop k).headD 0 = l.getD k 0 := by
  rw [List.headD_eq_head?_getD, List.head?_drop, List.getD_eq_getElem?_getD]
theorem lpfrm (x : It) (ks : ByteArray) (b : Bool) (hl : x.words.length = ks.size) (h5 : x.words.length ≤ 2000) (g : Nat) : ∀ (m k n : Nat) (f : Nat → List D) (bef : List Int), k ≤ x.words.length → x.words.length - k < m → n ≤ k → RLe intC 0 n f bef →
    ∃ n' f', ((formS (x.words.drop k) (ks.data.toList.drop k)).2 = true → RLe intC 0 n' f' (bef ++ (formS (x.words.drop k) (ks.data.toList.drop k)).1)) ∧
      Lfrm_5 numS x ks b g m n f k = bif (formS (x.words.drop k) (ks.data.toList.drop k)).2 then okF n' f' else noF := by
  intro m
  induction m with
  | zero => intro k n f bef _ h; omega
  | succ m ih =>
    intro k n f bef hk hm hn hr
    rw [stfrm_5]
    by_cases hlt : k < x.words.length
    · have hks : decide ((k : Int) < (ks.size : Int)) = true := lt1 (by omega)
      rw [drop_at' (d := w0) hlt]
      unfold formS
      simp -implicitDefEqProofs only [lt1 hlt, hks, ge0, tn, tt, cond_true, nx hlt (by omega), appOk8 (show n ≤ 5000 by omega)]
      cases hq : (x.words.getD k w0).q with
      | true => exact ⟨n, f, (fun h => by cases h), rfl⟩
      | false =>
        rw [drop_head, List.tail_drop]
        simp only [cond_false]
        cases h110 : (((ks.data.toList.getD k 0).toNat : Int) != 110) with
        | true =>
          obtain ⟨n', f', h1, h2⟩ := ih (k + 1) n f bef (by omega) (by omega) (by omega) hr
          simp only [cond_true]
          exact ⟨n', f', h1, h2⟩
        | false =>
          simp only [cond_false]
          cases hnu : (numS (x.words.getD k w0).text).2 with
          | false => exact ⟨n, f, (fun h => by cases h), rfl⟩
          | true =>
            obtain ⟨n', f', h1, h2⟩ := ih (k + 1) (n + 1) (appF n f (chunk [dI (numS (x.words.getD k w0).text).1] 1)) (bef ++ [(numS (x.words.getD k w0).text).1]) (by omega) (by omega) (by omega) (hr.app rfl (.refl _))
            simp only [Bool.not_true, cond_false]
            refine ⟨n', f', fun h => ?_, h2⟩
            have := h1 h
            simpa using this
    · rw [lt0 hlt, List.drop_of_length_le (by omega)]
      exact ⟨n, f, fun _ => by simpa [formS] using hr, rfl⟩
def formR (x : It) (ks : ByteArray) (b : Bool) : List Int × Bool := bif ((x.words.length : Int) != (ks.size : Int)) then ([], false) else bif !x.block == b then ([], false) else bif (formS x.words ks.data.toList).2 then formS x.words ks.data.toList else ([], false)
theorem sNu : OrcS Tryd.prog (oNu numS) := .cons (.p decS_ok c11) .nil
abbrev aForm (l : List Int) (o : Bool) : AV := .tup [(false, [.d (intsD l)]), (false, [.d (dB o)])]
theorem ale2 {a b c d : D} (h : DE a b) (k : DE c d) : Ale (.tup [(false, [.d a]), (false, [.d c])]) (.tup [(false, [.d b]), (false, [.d d])]) := by
  refine ⟨rfl, fun j p q h1 h2 => ?_⟩
  match j with
  | 0 => simp at h1 h2; subst h1 h2; exact ⟨rfl, .cons h .nil⟩
  | 1 => simp at h1 h2; subst h1 h2; exact ⟨rfl, .cons k .nil⟩
  | j + 2 => simp at h1
theorem cfrm (x : It) (ks : ByteArray) (b : Bool) (h5 : x.words.length ≤ 2000) : CX Tryd.prog 78 [aIt x, vS ks, vB b] [] (aForm (formR x ks b).1 (formR x ks b).2) [] := by
  obtain ⟨g, hg⟩ : ∃ g, 3000 < g := ⟨3001, by omega⟩
  have ev := evfrm numS x ks b g
  have no : callC Tryd.prog (oNu numS) annfrm g Tryd.f78 (bodyOf Tryd.f78) [aIt x, vS ks, vB b] [] = noF → CX Tryd.prog 78 [aIt x, vS ks, vB b] [] (aForm [] false) [] := fun h => by
    refine (cx_of sNu.ok Tryd.func78 bfrm rfl h).le ?_ (.refl _)
    exact ale2 (.nil _ _) (.refl _)
  unfold formR
  cases h1 : ((x.words.length : Int) != (ks.size : Int)) with
  | true => rw [h1] at ev; exact no ev
  | false =>
    rw [h1] at ev
    simp only [cond_false] at ev ⊢
    cases h2 : (!x.block == b) with
    | true => rw [h2] at ev; exact no ev
    | false =>
      rw [h2] at ev
      simp only [cond_false] at ev ⊢
      have hl : x.words.length = ks.size := by
        have : (x.words.length : Int) = (ks.size : Int) := by simpa using h1
        omega
      obtain ⟨n', f', k1, k2⟩ := lpfrm x ks b hl h5 g g 0 0 _ [] (by omega) (by omega) (by omega) (.nil fun _ => [])
      simp only [List.drop_zero] at k1 k2
      have e := ev.trans k2
      cases h3 : (formS x.words ks.data.toList).2 with
      | false => rw [h3] at e; exact no e
      | true =>
        rw [h3] at e
        have hr := k1 h3
        have hc := (cr_of sNu.ok Tryd.func78 bfrm rfl e).data (y := .tup [(false, [.d (.sl 1 n' f')]), (false, [.d (dB true)])]) rfl
        simp only [cond_true]
        rw [h3]
        refine (CX.of_cr Tryd.func78 bfrm hc).le ?_ (.refl _)
        exact ale2 (hr.de (sz := 1)) (.refl _)
end Go.Proofs.YthmapnolgdpkbaaDoor.de
namespace Go.Proofs.YthmapnolgdpkbaaDoor.de
open Go.RowKit Go.Eb Go.Proofs.YthmapnolgdpkbaaDoor.st
set_option maxRecDepth 100000

noncomputable def idxS {α : Type} (nm : α → ByteArray) (s : ByteArray) : List α → Int → Int
  | [], _ => -1
  | x :: r, k => bif same (nm x) s then k else idxS nm s r (k + 1)
theorem lpixl (l : List SLine) (x : It) (g : Nat) (hl : l.length ≤ 900) (h3 : 3 < x.words.length) : ∀ (m k : Nat), k ≤ l.length → l.length - k < m →
    Lixl_2 l x g m k = some (.leaf (vI (idxS SLine.name (x.words.getD 3 w0).text (l.drop k) k), [(0, .row l.length (fun i => lineC (l.getD i line0)) 5 50), (1, .cells ((icells x).map .d) 47)]))
  | 0, k, _, h => by omega
  | m + 1, k, hk, h => by
    rw [stixl_2]
    by_cases hlt : k < l.length
    · have ih := lpixl l x g hl h3 m (k + 1) (by omega) (by omega)
      have e3 : decide ((3 : Int) < (x.words.length : Int)) = true := decide_eq_true (by omega)
      have e0 : decide ((0 : Int) ≤ 3) = true := rfl
      have e4 : Int.toNat 3 = 3 := rfl
      rw [drop_at' (d := line0) hlt]
      simp -implicitDefEqProofs only [lt1 hlt, ge0, tn, tt, cond_true, nx hlt (by omega), e3, e0, e4, strEq, ih, idxS]
      cases same (l.getD k line0).name (x.words.getD 3 w0).text with
      | true => rfl
      | false => rfl
    · rw [lt0 hlt, List.drop_of_length_le (by omega)]
      rfl
theorem cixl (l : List SLine) (x : It) (hl : l.length ≤ 900) (h3 : 3 < x.words.length) : CX Tryd.prog 90 [.c (.row 0 5 l.length), .c (.fn 91 [] [.ptr 1 0])] [(0, .row l.length (fun i => lineC (l.getD i line0)) 5 50), (1, .cells ((icells x).map .d) 47)]
    (vI (idxS SLine.name (x.words.getD 3 w0).text l 0)) [(0, .row l.length (fun i => lineC (l.getD i line0)) 5 50), (1, .cells ((icells x).map .d) 47)] := by
  obtain ⟨g, hg⟩ : ∃ g, 1000 < g := ⟨1001, by omega⟩
  have so : OrcS Tryd.prog oH1 := .cons (.inl .nil Tryd.func91 (by kernel_rfl)) .nil
  have := lpixl l x g hl h3 g 0 (by omega) (by omega)
  rw [List.drop_zero] at this
  exact cx_of so.ok Tryd.func90 bixl rfl ((evixl l x g).trans this)
theorem lpixs (l : List SSrc) (x : It) (g : Nat) (hl : l.length ≤ 900) (h3 : 3 < x.words.length) : ∀ (m k : Nat), k ≤ l.length → l.length - k < m →
    Lixs_2 l x g m k = some (.leaf (vI (idxS SSrc.name (x.words.getD 3 w0).text (l.drop k) k), [(0, .row l.length (fun i => srcC' (l.getD i src0)) 6 53), (1, .cells ((icells x).map .d) 47)]))
  | 0, k, _, h => by omega
  | m + 1, k, hk, h => by
    rw [stixs_2]
    by_cases hlt : k < l.length
    · have ih := lpixs l x g hl h3 m (k + 1) (by omega) (by omega)
      have e3 : decide ((3 : Int) < (x.words.length : Int)) = true := decide_eq_true (by omega)
      have e0 : decide ((0 : Int) ≤ 3) = true := rfl
      have e4 : Int.toNat 3 = 3 := rfl
      rw [drop_at' (d := src0) hlt]
      simp -implicitDefEqProofs only [lt1 hlt, ge0, tn, tt, cond_true, nx hlt (by omega), e3, e0, e4, strEq, ih, idxS]
      cases same (l.getD k src0).name (x.words.getD 3 w0).text with
      | true => rfl
      | false => rfl
    · rw [lt0 hlt, List.drop_of_length_le (by omega)]
      rfl
theorem cixs (l : List SSrc) (x : It) (hl : l.length ≤ 900) (h3 : 3 < x.words.length) : CX Tryd.prog 92 [.c (.row 0 6 l.length), .c (.fn 93 [] [.ptr 1 0])] [(0, .row l.length (fun i => srcC' (l.getD i src0)) 6 53), (1, .cells ((icells x).map .d) 47)]
    (vI (idxS SSrc.name (x.words.getD 3 w0).text l 0)) [(0, .row l.length (fun i => srcC' (l.getD i src0)) 6 53), (1, .cells ((icells x).map .d) 47)] := by
  obtain ⟨g, hg⟩ : ∃ g, 1000 < g := ⟨1001, by omega⟩
  have so : OrcS Tryd.prog oH2 := .cons (.inl .nil Tryd.func93 (by kernel_rfl)) .nil
  have := lpixs l x g hl h3 g 0 (by omega) (by omega)
  rw [List.drop_zero] at this
  exact cx_of so.ok Tryd.func92 bixs rfl ((evixs l x g).trans this)
theorem lpixb (l : List ByteArray) (s : ByteArray) (g : Nat) (hl : l.length ≤ 900) : ∀ (m k : Nat), k ≤ l.length → l.length - k < m →
    Lixb_2 l s g m k = some (.leaf (vI (idxS id s (l.drop k) k), [(0, .row l.length (fun i => busC (l.getD i e0)) 1 9)]))
  | 0, k, _, h => by omega
  | m + 1, k, hk, h => by
    rw [stixb_2]
    by_cases hlt : k < l.length
    · have ih := lpixb l s g hl m (k + 1) (by omega) (by omega)
      have e5 : (s.toList == (l.getD k e0).toList) = same (l.getD k e0) s := by
        rw [strEq, Bool.eq_iff_iff, same_iff, same_iff]; exact ⟨fun h => h.symm, fun h => h.symm⟩
      rw [drop_at' (d := e0) hlt]
      simp -implicitDefEqProofs only [lt1 hlt, ge0, tn, tt, cond_true, nx hlt (by omega), e5, ih, idxS, id]
      cases same (l.getD k e0) s with
      | true => rfl
      | false => rfl
    · rw [lt0 hlt, List.drop_of_length_le (by omega)]
      rfl
theorem cixb (l : List ByteArray) (s : ByteArray) (hl : l.length ≤ 900) : CX Tryd.prog 101 [.c (.row 0 1 l.length), vS s] [(0, .row l.length (fun i => busC (l.getD i e0)) 1 9)] (vI (idxS id s l 0)) [(0, .row l.length (fun i => busC (l.getD i e0)) 1 9)] := by
  obtain ⟨g, hg⟩ : ∃ g, 1000 < g := ⟨1001, by omega⟩
  have := lpixb l s g hl g 0 (by omega) (by omega)
  rw [List.drop_zero] at this
  exact cx_of (Orc.nil_ok _) Tryd.func101 bixb rfl ((evixb l s g).trans this)
end Go.Proofs.YthmapnolgdpkbaaDoor.de
namespace Go.Proofs.YthmapnolgdpkbaaDoor.de
open Go.RowKit Go.Eb Go.Proofs.YthmapnolgdpkbaaDoor.st
set_option maxRecDepth 100000
open Go.Proofs.YthmapnolgdpkbaaDoor.wd (numS rN c11)

theorem icells_inj (x y : It) (h : DEs (icells x) (icells y)) : x = y := by
  have e1 := de_v (h.2 0 _ _ rfl rfl)
  have e2 := wordsD_inj (h.2 1 _ _ rfl rfl)
  have e3 := de_v (h.2 2 _ _ rfl rfl)
  have e4 := kidsD_inj x y (h.2 3 _ _ rfl rfl)
  rw [It.eta x, It.eta y, e2, e4]
  simp only [Value.int.injEq, Value.bool.injEq, true_and] at e1 e3
  rw [e1, e3]
theorem aIt_inj : InjA aIt := aG_inj icells_inj
instance : Inhabited It := ⟨i0⟩
noncomputable abbrev enF : It × ByteArray × Bool → List AV := en3 aIt vS vB
def cF (a : It × ByteArray × Bool) : Bool := decide (a.1.words.length ≤ 2000)
theorem enF_inj : InjT enF := en3_inj aIt_inj vS_inj vB_inj
noncomputable def rFm (x : List AV) : List Int × Bool := formR (theT enF x).1 (theT enF x).2.1 (theT enF x).2.2
theorem sFm {r : Orc} (hr : OrcS Tryd.prog r) : OrcS Tryd.prog (oFm (okG enF cF) (fun x => (rFm x).1.length) (fun x i => (rFm x).1.getD i 0) (fun x => (rFm x).2) r) :=
  .cons (AnsS.t' (r := fun a : It × ByteArray × Bool => aForm (formR a.1 a.2.1 a.2.2).1 (formR a.1 a.2.1 a.2.2).2) fun a h => cfrm a.1 a.2.1 a.2.2 (by unfold cF at h; exact of_decide_eq_true h)) hr
theorem fmo (x : It) (ks : ByteArray) (b : Bool) (h : x.words.length ≤ 2000) : okG enF cF [AV.agg (List.map C.d (icells x)), AV.c (C.d (D.v (Value.string ks))), AV.c (C.d (D.v (Value.bool b)))] = true := okG_enc enF_inj (x, ks, b) (by unfold cF; exact decide_eq_true h)
theorem fmr (x : It) (ks : ByteArray) (b : Bool) : rFm [AV.agg (List.map C.d (icells x)), AV.c (C.d (D.v (Value.string ks))), AV.c (C.d (D.v (Value.bool b)))] = formR x ks b := by
  have h : theT enF [AV.agg (List.map C.d (icells x)), AV.c (C.d (D.v (Value.string ks))), AV.c (C.d (D.v (Value.bool b)))] = (x, ks, b) := theT_enc enF_inj (x, ks, b)
  unfold rFm
  rw [h]

/-! rows that are a list's own row, to the letter -/
section
variable {β : Type} (c : β → List D) (d0 : β) (sz : Nat)
noncomputable def okC (n : Nat) (f : Nat → List D) : Bool := @decide (∃ l : List β, n = l.length ∧ l.length ≤ 900 ∧ f = fun i => c (l.getD i d0)) (Classical.propDecidable _)
noncomputable def theC (n : Nat) (f : Nat → List D) : List β := theE (listD sz c d0) (.sl sz n f)
variable {c d0 sz}
theorem theC_can (hc : ∀ a b, DEs (c a) (c b) → a = b) (l : List β) : theC c d0 sz l.length (fun i => c (l.getD i d0)) = l := (the_list hc l).2
theorem okC_can {l : List β} (h : l.length ≤ 900) : okC c d0 l.length (fun i => c (l.getD i d0)) = true := by
  unfold okC
  simp only [decide_eq_true_eq]
  exact ⟨l, rfl, h, rfl⟩
theorem okC_iff {n : Nat} {f : Nat → List D} (h : okC c d0 n f = true) : ∃ l : List β, n = l.length ∧ l.length ≤ 900 ∧ f = fun i => c (l.getD i d0) := by
  unfold okC at h
  simpa only [decide_eq_true_eq] using h
end
noncomputable def zS : KS where
  okf := okG enF cF
  fn := fun x => (rFm x).1.length
  fv := fun x i => (rFm x).1.getD i 0
  fo := fun x => (rFm x).2
  ob := fun a => okC busC e0 a.2.1.1 a.2.1.2 && Nat.beq a.1.1 a.2.1.1
  ib := fun a => idxS id a.1.2.1 (theC busC e0 1 a.2.1.1 a.2.1.2) 0
theorem sSt : OrcS Tryd.prog (oSt zS) := sFm (.cons (.inl (.cons (.d fun a h => by
  obtain ⟨⟨nk, s, ⟨⟩⟩, ⟨n, f⟩, ⟨⟩⟩ := a
  have h : (okC busC e0 n f && Nat.beq nk n) = true := h
  simp only [Bool.and_eq_true] at h
  obtain ⟨l, h1, h2, h3⟩ := okC_iff h.1
  have h4 := Nat.eq_of_beq_eq_true h.2
  subst h4 h1 h3
  have e : zS.ib ((l.length, s, ()), (l.length, fun i => busC (l.getD i e0)), ()) = idxS id s l 0 := by
    show idxS id s (theC busC e0 1 l.length fun i => busC (l.getD i e0)) 0 = _
    rw [theC_can busC_inj]
  show CX _ _ _ _ (vI (zS.ib ((l.length, s, ()), (l.length, fun i => busC (l.getD i e0)), ()))) _
  rw [e]
  exact cixb l s h2) .nil) Tryd.func94 (by kernel_rfl)) .nil)
theorem zo (x : It) (ks : ByteArray) (b : Bool) (h : x.words.length ≤ 2000) : KS.okf zS [AV.agg (List.map C.d (icells x)), AV.c (C.d (D.v (Value.string ks))), AV.c (C.d (D.v (Value.bool b)))] = true := fmo x ks b h
theorem zf (x : It) (ks : ByteArray) (b : Bool) : KS.fo zS [AV.agg (List.map C.d (icells x)), AV.c (C.d (D.v (Value.string ks))), AV.c (C.d (D.v (Value.bool b)))] = (formR x ks b).2 := by rw [← fmr]; rfl
theorem zn (x : It) (ks : ByteArray) (b : Bool) : KS.fn zS [AV.agg (List.map C.d (icells x)), AV.c (C.d (D.v (Value.string ks))), AV.c (C.d (D.v (Value.bool b)))] = (formR x ks b).1.length := by rw [← fmr]; rfl
theorem zv (x : It) (ks : ByteArray) (b : Bool) (i : Nat) : KS.fv zS [AV.agg (List.map C.d (icells x)), AV.c (C.d (D.v (Value.string ks))), AV.c (C.d (D.v (Value.bool b)))] i = (formR x ks b).1.getD i 0 := by rw [← fmr]; rfl
theorem form_wn (w t : ByteArray) (h : (numS t).2 = true) : formR (say [w, t]) (ByteArray.mk #[119, 110]) false = ([(numS t).1], true) := by
  have e : formS (say [w, t]).words (ByteArray.mk #[119, 110]).data.toList = ([(numS t).1], true) := by
    show (bif false then ([], false) else bif ((119 : Int) != 110) then (bif false then ([], false) else bif ((110 : Int) != 110) then (([] : List Int), true) else bif !(numS t).2 then ([], false) else ([(numS t).1], true)) else _) = _
    rw [h]; rfl
  unfold formR
  rw [e]; rfl
theorem form_ww (w t : ByteArray) : formR (say [w, t]) (ByteArray.mk #[119, 119]) false = ([], true) := rfl
theorem form_www (w t u : ByteArray) : formR (say [w, t, u]) (ByteArray.mk #[119, 119, 119]) false = ([], true) := rfl

section
variable (t : ByteArray) (s0 : ByteArray) (ka : Nat) (ga : Nat → List D) (kb : Nat) (gb : Nat → List D) (kc : Nat) (gc : Nat → List D) (kd : Nat) (gd : Nat → List D) (mpa : List (Value × Value)) (nd : Bool) (b : SBay) (kl : Nat) (gl : Nat → List D) (seen : List (Value × Value))
abbrev HS : Hp := [(0, .cells [.d (dS s0), .row 1 1 ka, .row 2 5 kb, .row 3 6 kc, .row 4 12 kd, .mp 5, .d (dB nd)] 73), (1, .row ka ga 1 9), (2, .row kb gb 5 50), (3, .row kc gc 6 53), (4, .row kd gd 12 44), (5, .map 0 mpa), (6, .cells [.d (dS b.name), .d (dI b.kind), .d (dI b.off), .d (dI b.fin), .d (dI b.zr), .d (dI b.zx), .row 7 2 kl, .d (dB b.closed), .d (dI b.ct), .d (dI b.vt), .d (dI b.sat), .d (dI b.travel)] 44), (7, .row kl gl 2 104), (8, .map 0 seen)]
abbrev HS' (f : Nat → List D) : Hp := [(0, .cells [.d (dS s0), .row 1 1 ka, .row 2 5 kb, .row 3 6 kc, .row 4 12 kd, .mp 5, .d (dB nd)] 73), (1, .row ka ga 1 9), (2, .row kb gb 5 50), (3, .row kc gc 6 53), (4, .row kd gd 12 44), (5, .map 0 mpa), (6, .cells [.d (dS b.name), .d (dI b.kind), .d (dI b.off), .d (dI b.fin), .d (dI b.zr), .d (dI b.zx), .row 9 2 (kl + 1), .d (dB b.closed), .d (dI b.ct), .d (dI b.vt), .d (dI b.sat), .d (dI b.travel)] 44), (7, .dead), (8, .map 0 seen), (9, .row (kl + 1) f 2 104)]
abbrev argS (y : It) : List AV := [.c (.ptr 0 0), aIt y, .c (.ptr 6 0), .c (.mp 8)]
theorem gct (hn : (numS t).2 = true) (hs : boolOf (assoc seen (.string tCt)) = false) : CX Tryd.prog 80 (argS (say [tCt, t])) (HS s0 ka ga kb gb kc gc kd gd mpa nd b kl gl seen) (vI 0) (HS s0 ka ga kb gb kc gc kd gd mpa nd { b with ct := (numS t).1 } kl gl seen) := by
  refine cx_of sSt.ok Tryd.func80 bsct rfl ((evsct zS t s0 ka ga kb gb kc gc kd gd mpa nd b kl gl seen 0).trans ?_)
  have e : (Wd.text (List.getD (It.words (say [tCt, t])) (Int.toNat (0 : Int)) w0)) = tCt := rfl
  rw [zo _ _ _ (by show 2 ≤ 2000; omega), zf, zn, zv, form_wn _ _ hn, e, hs]
  rfl
theorem gvt (hn : (numS t).2 = true) (hs : boolOf (assoc seen (.string tVt)) = false) : CX Tryd.prog 80 (argS (say [tVt, t])) (HS s0 ka ga kb gb kc gc kd gd mpa nd b kl gl seen) (vI 0) (HS s0 ka ga kb gb kc gc kd gd mpa nd { b with vt := (numS t).1 } kl gl seen) := by
  refine cx_of sSt.ok Tryd.func80 bsvt rfl ((evsvt zS t s0 ka ga kb gb kc gc kd gd mpa nd b kl gl seen 0).trans ?_)
  have e : (Wd.text (List.getD (It.words (say [tVt, t])) (Int.toNat (0 : Int)) w0)) = tVt := rfl
  rw [zo _ _ _ (by show 2 ≤ 2000; omega), zf, zn, zv, form_wn _ _ hn, e, hs]
  rfl
theorem gsa (hn : (numS t).2 = true) (hs : boolOf (assoc seen (.string tSat)) = false) : CX Tryd.prog 80 (argS (say [tSat, t])) (HS s0 ka ga kb gb kc gc kd gd mpa nd b kl gl seen) (vI 0) (HS s0 ka ga kb gb kc gc kd gd mpa nd { b with sat := (numS t).1 } kl gl seen) := by
  refine cx_of sSt.ok Tryd.func80 bssa rfl ((evssa zS t s0 ka ga kb gb kc gc kd gd mpa nd b kl gl seen 0).trans ?_)
  have e : (Wd.text (List.getD (It.words (say [tSat, t])) (Int.toNat (0 : Int)) w0)) = tSat := rfl
  rw [zo _ _ _ (by show 2 ≤ 2000; omega), zf, zn, zv, form_wn _ _ hn, e, hs]
  rfl
theorem gtr (hn : (numS t).2 = true) (hs : boolOf (assoc seen (.string tTravel)) = false) : CX Tryd.prog 80 (argS (say [tTravel, t])) (HS s0 ka ga kb gb kc gc kd gd mpa nd b kl gl seen) (vI 0) (HS s0 ka ga kb gb kc gc kd gd mpa nd { b with travel := (numS t).1 } kl gl seen) := by
  refine cx_of sSt.ok Tryd.func80 bstr rfl ((evstr zS t s0 ka ga kb gb kc gc kd gd mpa nd b kl gl seen 0).trans ?_)
  have e : (Wd.text (List.getD (It.words (say [tTravel, t])) (Int.toNat (0 : Int)) w0)) = tTravel := rfl
  rw [zo _ _ _ (by show 2 ≤ 2000; omega), zf, zn, zv, form_wn _ _ hn, e, hs]
  rfl
theorem gbr (hs : boolOf (assoc seen (.string tBreaker)) = false) : CX Tryd.prog 80 (argS (say [tBreaker, tOpen])) (HS s0 ka ga kb gb kc gc kd gd mpa nd b kl gl seen) (vI 0) (HS s0 ka ga kb gb kc gc kd gd mpa nd { b with closed := false } kl gl seen) := by
  refine cx_of sSt.ok Tryd.func80 bsbr rfl ((evsbr zS s0 ka ga kb gb kc gc kd gd mpa nd b kl gl seen 0).trans ?_)
  have e : (Wd.text (List.getD (It.words (say [tBreaker, tOpen])) (Int.toNat (0 : Int)) w0)) = tBreaker := rfl
  rw [zo _ _ _ (by show 2 ≤ 2000; omega), zf, form_ww, e, hs]
  rfl
theorem apOk16' (h : kl ≤ 5000) : (decide ((kl + 1) * 16 ≤ 140737488355328) && decide (kl + 1 ≤ 9223372036854775807)) = true := by
  rw [decide_eq_true (by omega), decide_eq_true (by omega)]; rfl
theorem zb (l : List ByteArray) (s : ByteArray) (h : l.length ≤ 900) : KS.ob zS ((l.length, s, ()), (l.length, fun i => busC (l.getD i e0)), ()) = true ∧ KS.ib zS ((l.length, s, ()), (l.length, fun i => busC (l.getD i e0)), ()) = idxS id s l 0 := by
  refine ⟨?_, ?_⟩
  · show (okC busC e0 l.length (fun i => busC (l.getD i e0)) && Nat.beq l.length l.length) = true
    rw [okC_can h, Nat.beq_refl]; rfl
  · show idxS id s (theC busC e0 1 l.length fun i => busC (l.getD i e0)) 0 = _
    rw [theC_can busC_inj]
theorem gsel1 (l : List ByteArray) (h9 : l.length ≤ 900) (hk : kl ≤ 5000) (hi : decide (idxS id t l 0 < 0) = false) : CX Tryd.prog 80 (argS (say [tSelect, t, tClosed])) (HS s0 l.length (fun i => busC (l.getD i e0)) kb gb kc gc kd gd mpa nd b kl gl seen) (vI 0) (HS' s0 l.length (fun i => busC (l.getD i e0)) kb gb kc gc kd gd mpa nd b kl seen (appF kl gl (chunk [dI (idxS id t l 0), dI 1] 2))) := by
  refine cx_of sSt.ok Tryd.func80 bsel1 rfl ((evsel1 zS t s0 l.length (fun i => busC (l.getD i e0)) kb gb kc gc kd gd mpa nd b kl gl seen 0).trans ?_)
  have e : (Wd.text (List.getD (It.words (say [tSelect, t, tClosed])) (Int.toNat (1 : Int)) w0)) = t := rfl
  rw [zo _ _ _ (by show 3 ≤ 2000; omega), zf, form_www, e, (zb l t h9).1, (zb l t h9).2, hi, apOk16' kl hk]
  rfl
theorem gsel0 (l : List ByteArray) (h9 : l.length ≤ 900) (hk : kl ≤ 5000) (hi : decide (idxS id t l 0 < 0) = false) : CX Tryd.prog 80 (argS (say [tSelect, t, tOpen])) (HS s0 l.length (fun i => busC (l.getD i e0)) kb gb kc gc kd gd mpa nd b kl gl seen) (vI 0) (HS' s0 l.length (fun i => busC (l.getD i e0)) kb gb kc gc kd gd mpa nd b kl seen (appF kl gl (chunk [dI (idxS id t l 0), dI 0] 2))) := by
  refine cx_of sSt.ok Tryd.func80 bsel0 rfl ((evsel0 zS t s0 l.length (fun i => busC (l.getD i e0)) kb gb kc gc kd gd mpa nd b kl gl seen 0).trans ?_)
  have e : (Wd.text (List.getD (It.words (say [tSelect, t, tOpen])) (Int.toNat (1 : Int)) w0)) = t := rfl
  rw [zo _ _ _ (by show 3 ≤ 2000; omega), zf, form_www, e, (zb l t h9).1, (zb l t h9).2, hi, apOk16' kl hk]
  rfl
end
end Go.Proofs.YthmapnolgdpkbaaDoor.de
namespace Go.Proofs.YthmapnolgdpkbaaDoor.de
open Go.RowKit Go.Eb Go.Proofs.YthmapnolgdpkbaaDoor.st
set_option maxRecDepth 100000

def dBay : Dec (List AV) (Unit × RBay × Unit) := .cons (.c (.ptr 0 0)) (.cons (.agg bayD) .nil)
def d55 : Dec (List AV × Hp) ((Unit × RBay × Unit) × AD) := .pair dBay dHD
noncomputable def o55 : Orc := oWi
noncomputable def ann55 : Ann := annOf [(5, ⟨[3, 0, 27, 28, 29], []⟩)]
noncomputable def L55_5 (x : SBay) (s0 : ByteArray) (ka : Nat) (ga : Nat → List D) (kb : Nat) (gb : Nat → List D) (kc : Nat) (gc : Nat → List D) (kd : Nat) (gd : Nat → List D) (mpa : List (Value × Value)) (nd : Bool) (g m : Nat) (i29 : Int) := LK Tryd.prog o55 ann55 (List.length (α := Nat × Blk) [(0, .cells [.d (dS s0), .row 1 1 ka, .row 2 5 kb, .row 3 6 kc, .row 4 12 kd, .mp 5, .d (dB nd)] 73), (1, .row ka ga 1 9), (2, .row kb gb 5 50), (3, .row kc gc 6 53), (4, .row kd gd 12 44), (5, .map 0 mpa)]) g Tryd.f73 5 m ⟨frm [(0, AV.c (C.ptr 0 0)), (3, AV.c (C.ptr 6 0)), (27, AV.c (C.d (listD 2 linkC link0 (SBay.links x)))), (28, AV.c (C.d (D.v (Value.int IntKind.i64 (↑(List.length (SBay.links x)) : Int))))), (29, AV.c (C.d (D.v (Value.int IntKind.i64 i29))))] 0 Tryd.f73.ntmps, [(0, Blk.cells [C.d (D.v (Value.string s0)), C.row 1 1 ka, C.row 2 5 kb, C.row 3 6 kc, C.row 4 12 kd, C.mp 5, C.d (D.v (Value.bool nd))] 73), (1, Blk.row ka ga 1 9), (2, Blk.row kb gb 5 50), (3, Blk.row kc gc 6 53), (4, Blk.row kd gd 12 44), (5, Blk.map 0 mpa), (6, Blk.cells (List.map C.d (bayC x)) 44)], 7⟩
theorem b55 : Tryd.f73.body = some (bodyOf Tryd.f73) := by kernel_rfl
theorem ev55 (x : SBay) (s0 : ByteArray) (ka : Nat) (ga : Nat → List D) (kb : Nat) (gb : Nat → List D) (kc : Nat) (gc : Nat → List D) (kd : Nat) (gd : Nat → List D) (mpa : List (Value × Value)) (nd : Bool) (g : Nat) : callC Tryd.prog o55 ann55 g Tryd.f73 (bodyOf Tryd.f73) [.c (.ptr 0 0), aBay x] [(0, .cells [.d (dS s0), .row 1 1 ka, .row 2 5 kb, .row 3 6 kc, .row 4 12 kd, .mp 5, .d (dB nd)] 73), (1, .row ka ga 1 9), (2, .row kb gb 5 50), (3, .row kc gc 6 53), (4, .row kd gd 12 44), (5, .map 0 mpa)] =
 (bif decide ((↑(List.length (SBay.links x)) : Int) < (1 : Int)) then some (T.leaf (AV.c (.d (.v (.int .i64 (3 : Int)))), [(0, Blk.cells [C.d (D.v (Value.string
 s0)), C.row (1) (1) ka, C.row (2) (5) kb, C.row (3) (6) kc, C.row (4) (12) kd, C.mp (5), C.d (D.v (Value.bool
 nd))] (73)), (1, Blk.row ka ga (1) (9)), (2, Blk.row kb gb (5) (50)), (3, Blk.row kc gc (6) (53)),
 (4, Blk.row kd gd (12) (44)), (5, Blk.map (0) mpa)])) else (bif decide ((↑(List.length (SBay.links x)) : Int) > (2 : Int)) then some (T.leaf
 (AV.c (.d (.v (.int .i64 (3 : Int)))), [(0, Blk.cells [C.d (.v (.string s0)), C.row (1) (1) ka, C.row (2) (5) kb, C.row
 (3) (6) kc, C.row (4) (12) kd, C.mp (5), C.d (.v (.bool nd))] (73)), (1, Blk.row ka ga (1) (9)), ((2 :
 Nat), Blk.row kb gb (5) (50)), (3, Blk.row kc gc (6) (53)), (4, Blk.row kd gd (12) (44)), (5, Blk.map ((0 :
 Nat)) mpa)])) else (bif SBay.kind x == (3 : Int) then (bif (↑(List.length (SBay.links x)) : Int) != (2 : Int) then some (T.leaf (AV.c (.d (.v (.int .i64 (3 : Int)))),
 [(0, Blk.cells [C.d (.v (.string s0)), C.row (1) (1) ka, C.row (2) (5) kb, C.row (3) (6) kc, C.row (4) ((12 :
 Nat)) kd, C.mp (5), C.d (.v (.bool nd))] (73)), (1, Blk.row ka ga (1) (9)), (2, Blk.row kb gb (5) (50)), ((3 :
 Nat), Blk.row kc gc (6) (53)), (4, Blk.row kd gd (12) (44)), (5, Blk.map (0) mpa)])) else L55_5 x s0 ka ga kb gb kc gc kd gd
 mpa nd g g ((0 : Int))) else L55_5 x s0 ka ga kb gb kc gc kd gd mpa nd g g ((0 : Int))))) := by kernel_rfl
theorem st55_5 (x : SBay) (s0 : ByteArray) (ka : Nat) (ga : Nat → List D) (kb : Nat) (gb : Nat → List D) (kc : Nat) (gc : Nat → List D) (kd : Nat) (gd : Nat → List D) (mpa : List (Value × Value)) (nd : Bool) (g m : Nat) (i29 : Int) : L55_5 x s0 ka ga kb gb kc gc kd gd mpa nd g (m + 1) i29 =
 (bif decide (i29 < (↑(List.length (SBay.links x)) : Int)) then (bif decide ((0 : Int) ≤ i29) && decide (i29 < (↑(List.length (SBay.links x)) : Int)) then (bif decide (SLink.bus
 (List.getD (SBay.links x) (Int.toNat i29) link0) ≥ (0 : Int)) then (bif !decide (SLink.bus (List.getD (SBay.links x) (Int.toNat i29) link0) ≤ IntKind.wrap IntKind.i64 ((↑ka : Int) -
 (1 : Int))) then some (T.leaf (AV.c (.d (.v (.int .i64 (9 : Int)))), [(0, Blk.cells [C.d (.v (.string s0)), C.row (1) (1) ka, C.row ((2 :
 Nat)) (5) kb, C.row (3) (6) kc, C.row (4) (12) kd, C.mp (5), C.d (.v (.bool nd))] (73)), (1, Blk.row ka ga ((1
 : Nat)) (9)), (2, Blk.row kb gb (5) (50)), (3, Blk.row kc gc (6) (53)), (4, Blk.row kd gd (12) (44)),
 (5, Blk.map (0) mpa)])) else (bif SLink.pos (List.getD (SBay.links x) (Int.toNat i29) link0) != (1 : Int) then (bif SLink.pos (List.getD (SBay.links x) (Int.toNat
 i29) link0) != (0 : Int) then some (T.leaf (AV.c (.d (.v (.int .i64 (16 : Int)))), [(0, Blk.cells [C.d (.v (.string s0)), C.row (1) (1)
 ka, C.row (2) (5) kb, C.row (3) (6) kc, C.row (4) (12) kd, C.mp (5), C.d (.v (.bool nd))] (73)), (1,
 Blk.row ka ga (1) (9)), (2, Blk.row kb gb (5) (50)), (3, Blk.row kc gc (6) (53)), (4, Blk.row kd gd ((12 :
 Nat)) (44)), (5, Blk.map (0) mpa)])) else (bif SBay.kind x == (3 : Int) then some (T.leaf (AV.c (.d (.v (.int .i64 (16 : Int)))), [(0,
 Blk.cells [C.d (.v (.string s0)), C.row (1) (1) ka, C.row (2) (5) kb, C.row (3) (6) kc, C.row (4) (12) kd, C.mp
 (5), C.d (.v (.bool nd))] (73)), (1, Blk.row ka ga (1) (9)), (2, Blk.row kb gb (5) (50)), (3, Blk.row
 kc gc (6) (53)), (4, Blk.row kd gd (12) (44)), (5, Blk.map (0) mpa)])) else (bif decide (i29 > (0 : Int)) then (bif decide
 ((0 : Int) ≤ IntKind.wrap IntKind.i64 (i29 - (1 : Int))) && decide (IntKind.wrap IntKind.i64 (i29 - (1 : Int)) < (↑(List.length (SBay.links x)) : Int)) then (bif SLink.bus
 (List.getD (SBay.links x) (Int.toNat (IntKind.wrap IntKind.i64 (i29 - (1 : Int)))) link0) == SLink.bus (List.getD (SBay.links x) (Int.toNat i29) link0) then some (T.leaf (AV.c (C.d
 (D.v (.int .i64 (12 : Int)))), [(0, Blk.cells [C.d (.v (.string s0)), C.row (1) (1) ka, C.row (2) (5) kb, C.row (3)
 (6) kc, C.row (4) (12) kd, C.mp (5), C.d (.v (.bool nd))] (73)), (1, Blk.row ka ga (1) (9)), (2,
 Blk.row kb gb (5) (50)), (3, Blk.row kc gc (6) (53)), (4, Blk.row kd gd (12) (44)), (5, Blk.map (0)
 mpa)])) else L55_5 x s0 ka ga kb gb kc gc kd gd mpa nd g m (IntKind.wrap IntKind.i64 (i29 + (1 : Int)))) else none) else L55_5 x s0 ka ga kb gb kc gc kd gd mpa nd g m (IntKind.wrap
 IntKind.i64 (i29 + (1 : Int)))))) else (bif decide (i29 > (0 : Int)) then (bif decide ((0 : Int) ≤ IntKind.wrap IntKind.i64 (i29 - (1 : Int))) && decide (IntKind.wrap IntKind.i64
 (i29 - (1 : Int)) < (↑(List.length (SBay.links x)) : Int)) then (bif SLink.bus (List.getD (SBay.links x) (Int.toNat (IntKind.wrap IntKind.i64 (i29 - (1 : Int)))) link0) == SLink.bus
 (List.getD (SBay.links x) (Int.toNat i29) link0) then some (T.leaf (AV.c (.d (.v (.int .i64 (12 : Int)))), [(0, Blk.cells [C.d (.v (.string s0)), C.row
 (1) (1) ka, C.row (2) (5) kb, C.row (3) (6) kc, C.row (4) (12) kd, C.mp (5), C.d (.v (.bool nd))] ((73
 : Nat))), (1, Blk.row ka ga (1) (9)), (2, Blk.row kb gb (5) (50)), (3, Blk.row kc gc (6) (53)), (4,
 Blk.row kd gd (12) (44)), (5, Blk.map (0) mpa)])) else L55_5 x s0 ka ga kb gb kc gc kd gd mpa nd g m (IntKind.wrap IntKind.i64 (i29 + (1 : Int))))
 else none) else L55_5 x s0 ka ga kb gb kc gc kd gd mpa nd g m (IntKind.wrap IntKind.i64 (i29 + (1 : Int)))))) else some (T.leaf (AV.c (.d (.v (.int .i64 (9 : Int)))),
 [(0, Blk.cells [C.d (.v (.string s0)), C.row (1) (1) ka, C.row (2) (5) kb, C.row (3) (6) kc, C.row (4) ((12 :
 Nat)) kd, C.mp (5), C.d (.v (.bool nd))] (73)), (1, Blk.row ka ga (1) (9)), (2, Blk.row kb gb (5) (50)), ((3 :
 Nat), Blk.row kc gc (6) (53)), (4, Blk.row kd gd (12) (44)), (5, Blk.map (0) mpa)]))) else none) else some (T.leaf (AV.c (C.d
 (D.v (.int .i64 (0 : Int)))), [(0, Blk.cells [C.d (.v (.string s0)), C.row (1) (1) ka, C.row (2) (5) kb, C.row (3)
 (6) kc, C.row (4) (12) kd, C.mp (5), C.d (.v (.bool nd))] (73)), (1, Blk.row ka ga (1) (9)), (2,
 Blk.row kb gb (5) (50)), (3, Blk.row kc gc (6) (53)), (4, Blk.row kd gd (12) (44)), (5, Blk.map (0)
 mpa)]))) := by kernel_rfl
noncomputable def o54 : Orc := Orc.cons 70 (inl Tryd.prog oWi na 1 Tryd.f70) oWi
noncomputable def ann54 : Ann := annOf []
theorem b54 : Tryd.f72.body = some (bodyOf Tryd.f72) := by kernel_rfl
theorem ev54 (x : SBay) (g : Nat) : callC Tryd.prog o54 ann54 g Tryd.f72 (bodyOf Tryd.f72) [aBay x] [] =
 (bif SBay.kind x == (3 : Int) then (bif decide (SBay.zr x ≥ (0 : Int)) then (bif decide (SBay.zr x ≤ (1000 : Int)) then (bif decide (SBay.zx x ≥ (1 : Int)) then (bif !decide
 (SBay.zx x ≤ (1000 : Int)) then some (T.leaf (AV.c (.d (.v (.bool false))), [])) else (bif SBay.vt x != (0 : Int) then some (T.leaf (AV.c (.d (.v (.bool false))), []))
 else (bif SBay.kind x == (1 : Int) then (bif decide (SBay.fin x ≥ (0 : Int)) then (bif decide (SBay.fin x ≤ (1 : Int)) then (bif decide (SBay.ct x ≥ (1 : Int)) then (bif decide
 (SBay.ct x ≤ (100 : Int)) then (bif decide (SBay.sat x ≥ (0 : Int)) then (bif decide (SBay.sat x ≤ (16383 : Int)) then (bif decide (SBay.travel x ≥ (1 : Int)) then some (T.leaf
 (AV.c (.d (.v (.bool (decide (SBay.travel x ≤ (6 : Int)))))), [])) else some (T.leaf (AV.c (.d (.v (.bool false))), []))) else some (T.leaf (AV.c (C.d (D.v (Value.bool
 false))), []))) else some (T.leaf (AV.c (.d (.v (.bool false))), []))) else some (T.leaf (AV.c (.d (.v (.bool false))), []))) else some (T.leaf (AV.c (C.d (D.v
 (Value.bool false))), []))) else some (T.leaf (AV.c (.d (.v (.bool false))), []))) else some (T.leaf (AV.c (.d (.v (.bool false))), []))) else (bif decide (SBay.fin x
 ≥ (0 : Int)) then (bif decide (SBay.fin x ≤ (0 : Int)) then (bif decide (SBay.ct x ≥ (1 : Int)) then (bif decide (SBay.ct x ≤ (100 : Int)) then (bif decide (SBay.sat x ≥ (0 : Int))
 then (bif decide (SBay.sat x ≤ (16383 : Int)) then (bif decide (SBay.travel x ≥ (1 : Int)) then some (T.leaf (AV.c (.d (.v (.bool (decide (SBay.travel x ≤ (6 : Int)))))),
 [])) else some (T.leaf (AV.c (.d (.v (.bool false))), []))) else some (T.leaf (AV.c (.d (.v (.bool false))), []))) else some (T.leaf (AV.c (C.d (D.v (Value.bool
 false))), []))) else some (T.leaf (AV.c (.d (.v (.bool false))), []))) else some (T.leaf (AV.c (.d (.v (.bool false))), []))) else some (T.leaf (AV.c (C.d (D.v
 (Value.bool false))), []))) else some (T.leaf (AV.c (.d (.v (.bool false))), [])))))) else some (T.leaf (AV.c (.d (.v (.bool false))), []))) else some (T.leaf (AV.c
 (C.d (.v (.bool false))), []))) else some (T.leaf (AV.c (.d (.v (.bool false))), []))) else (bif !(SBay.zr x == (0 : Int) && (SBay.zx x == (0 : Int) && true)) then some
 (T.leaf (AV.c (.d (.v (.bool false))), [])) else (bif decide (SBay.vt x ≥ (1 : Int)) then (bif !decide (SBay.vt x ≤ (10000 : Int)) then some (T.leaf (AV.c (C.d (D.v
 (Value.bool false))), [])) else (bif SBay.kind x == (1 : Int) then (bif decide (SBay.fin x ≥ (0 : Int)) then (bif decide (SBay.fin x ≤ (1 : Int)) then (bif decide (SBay.ct x ≥ (1 :
 Int)) then (bif decide (SBay.ct x ≤ (100 : Int)) then (bif decide (SBay.sat x ≥ (0 : Int)) then (bif decide (SBay.sat x ≤ (16383 : Int)) then (bif decide (SBay.travel x ≥ (1 : Int))
 then some (T.leaf (AV.c (.d (.v (.bool (decide (SBay.travel x ≤ (6 : Int)))))), [])) else some (T.leaf (AV.c (.d (.v (.bool false))), []))) else some (T.leaf (AV.c
 (C.d (.v (.bool false))), []))) else some (T.leaf (AV.c (.d (.v (.bool false))), []))) else some (T.leaf (AV.c (.d (.v (.bool false))), []))) else some (T.leaf
 (AV.c (.d (.v (.bool false))), []))) else some (T.leaf (AV.c (.d (.v (.bool false))), []))) else some (T.leaf (AV.c (.d (.v (.bool false))), []))) else (bif
 decide (SBay.fin x ≥ (0 : Int)) then (bif decide (SBay.fin x ≤ (0 : Int)) then (bif decide (SBay.ct x ≥ (1 : Int)) then (bif decide (SBay.ct x ≤ (100 : Int)) then (bif decide
 (SBay.sat x ≥ (0 : Int)) then (bif decide (SBay.sat x ≤ (16383 : Int)) then (bif decide (SBay.travel x ≥ (1 : Int)) then some (T.leaf (AV.c (.d (.v (.bool (decide
 (SBay.travel x ≤ (6 : Int)))))), [])) else some (T.leaf (AV.c (.d (.v (.bool false))), []))) else some (T.leaf (AV.c (.d (.v (.bool false))), []))) else some (T.leaf
 (AV.c (.d (.v (.bool false))), []))) else some (T.leaf (AV.c (.d (.v (.bool false))), []))) else some (T.leaf (AV.c (.d (.v (.bool false))), []))) else some
 (T.leaf (AV.c (.d (.v (.bool false))), []))) else some (T.leaf (AV.c (.d (.v (.bool false))), []))))) else some (T.leaf (AV.c (.d (.v (.bool false))), []))))) := by kernel_rfl
def d54 : Dec (List AV × Hp) ((RBay × Unit) × Unit) := .pair (.cons (.agg bayD) .nil) .nil
noncomputable def oRa (nk : ByteArray → Bool) (okr rg : RBay → Bool) : Orc := Orc.cons 72 (ansD d54 (fun a => okr a.1.1) (fun a => vB (rg a.1.1)) fun _ => []) (oIm nk)
noncomputable def o33 (nk : ByteArray → Bool) (okr rg : RBay → Bool) (ok : (Unit × RBay × Unit) × AD → Bool) (lk : (Unit × RBay × Unit) × AD → Int) : Orc := Orc.cons 73 (ansD d55 ok (fun a => vI (lk a)) (fun a => (d55.enc a).2)) (oRa nk okr rg)
noncomputable def ann33 : Ann := annOf [(18, ⟨[3, 50, 0, 51, 52], []⟩)]
noncomputable def L33_18 (nk : ByteArray → Bool) (okr rg : RBay → Bool) (ok : (Unit × RBay × Unit) × AD → Bool) (lk : (Unit × RBay × Unit) × AD → Int) (x : SBay) (s0 : ByteArray) (ka : Nat) (ga : Nat → List D) (kb : Nat) (gb : Nat → List D) (kc : Nat) (gc : Nat → List D) (bs : List SBay) (mpa : List (Value × Value)) (nd : Bool) (g m : Nat) (i52 : Int) := LK Tryd.prog (o33 nk okr rg ok lk) ann33 (List.length (α := Nat × Blk) [(0, .cells [.d (dS s0), .row 1 1 ka, .row 2 5 kb, .row 3 6 kc, .row 4 12 bs.length, .mp 5, .d (dB nd)] 73), (1, .row ka ga 1 9), (2, .row kb gb 5 50), (3, .row kc gc 6 53), (4, .row bs.length (fun i => bayC (bs.getD i bay0)) 12 44), (5, .map 0 mpa)]) g Tryd.f47 18 m ⟨frm [(0, AV.c (C.ptr 0 0)), (3, AV.c (C.ptr 6 0)), (50, AV.c (C.row 4 12 (List.length bs))), (51, AV.c (C.d (D.v (Value.int IntKind.i64 (↑(List.length bs) : Int))))), (52, AV.c (C.d (D.v (Value.int IntKind.i64 i52))))] 0 Tryd.f47.ntmps, [(0, Blk.cells [C.d (D.v (Value.string s0)), C.row 1 1 ka, C.row 2 5 kb, C.row 3 6 kc, C.row 4 12 (List.length bs), C.mp 5, C.d (D.v (Value.bool nd))] 73), (1, Blk.row ka ga 1 9), (2, Blk.row kb gb 5 50), (3, Blk.row kc gc 6 53), (4, Blk.row (List.length bs) (fun i => bayC (List.getD bs i bay0)) 12 44), (5, Blk.map 0 mpa), (6, Blk.cells (List.map C.d (bayC x)) 44)], 7⟩
theorem b33 : Tryd.f47.body = some (bodyOf Tryd.f47) := by kernel_rfl
theorem ev33 (nk : ByteArray → Bool) (okr rg : RBay → Bool) (ok : (Unit × RBay × Unit) × AD → Bool) (lk : (Unit × RBay × Unit) × AD → Int) (x : SBay) (s0 : ByteArray) (ka : Nat) (ga : Nat → List D) (kb : Nat) (gb : Nat → List D) (kc : Nat) (gc : Nat → List D) (bs : List SBay) (mpa : List (Value × Value)) (nd : Bool) (g : Nat) : callC Tryd.prog (o33 nk okr rg ok lk) ann33 g Tryd.f47 (bodyOf Tryd.f47) [.c (.ptr 0 0), aBay x] [(0, .cells [.d (dS s0), .row 1 1 ka, .row 2 5 kb, .row 3 6 kc, .row 4 12 bs.length, .mp 5, .d (dB nd)] 73), (1, .row ka ga 1 9), (2, .row kb gb 5 50), (3, .row kc gc 6 53), (4, .row bs.length (fun i => bayC (bs.getD i bay0)) 12 44), (5, .map 0 mpa)] =
 (bif !nk (SBay.name x) then some (T.leaf (AV.c (.d (.v (.int .i64 (7 : Int)))), [(0, Blk.cells [C.d (.v (.string s0)), C.row (1) (1) ka,
 C.row (2) (5) kb, C.row (3) (6) kc, C.row (4) (12) (List.length bs), C.mp (5), C.d (.v (.bool nd))] (73)), ((1
 : Nat), Blk.row ka ga (1) (9)), (2, Blk.row kb gb (5) (50)), (3, Blk.row kc gc (6) (53)), (4, Blk.row
 (List.length bs) (fun i => bayC (List.getD bs i bay0)) (12) (44)), (5, Blk.map (0) mpa)])) else (bif boolOf (assoc mpa (Value.string (SBay.name x)))
 then some (T.leaf (AV.c (.d (.v (.int .i64 (8 : Int)))), [(0, Blk.cells [C.d (.v (.string s0)), C.row (1) (1) ka, C.row (2) ((5 :
 Nat)) kb, C.row (3) (6) kc, C.row (4) (12) (List.length bs), C.mp (5), C.d (.v (.bool nd))] (73)), (1, Blk.row ka ga
 (1) (9)), (2, Blk.row kb gb (5) (50)), (3, Blk.row kc gc (6) (53)), (4, Blk.row (List.length bs) (fun i =>
 bayC (List.getD bs i bay0)) (12) (44)), (5, Blk.map (0) mpa)])) else (bif SBay.kind x == (1 : Int) then (bif decide (SBay.off x ≥ (0 : Int)) then
 (bif !decide (SBay.off x ≤ IntKind.wrap IntKind.i64 ((↑kb : Int) - (1 : Int))) then some (T.leaf (AV.c (.d (.v (.int .i64 (9 : Int)))), [(0, Blk.cells [C.d
 (D.v (.string s0)), C.row (1) (1) ka, C.row (2) (5) kb, C.row (3) (6) kc, C.row (4) (12) (List.length bs), C.mp
 (5), C.d (.v (.bool nd))] (73)), (1, Blk.row ka ga (1) (9)), (2, Blk.row kb gb (5) (50)), (3, Blk.row
 kc gc (6) (53)), (4, Blk.row (List.length bs) (fun i => bayC (List.getD bs i bay0)) (12) (44)), (5, Blk.map (0) mpa)])) else
 (bif okr (SBay.name x, SBay.kind x, SBay.off x, SBay.fin x, SBay.zr x, SBay.zx x, linksD (SBay.links x), SBay.closed x, SBay.ct x, SBay.vt x, SBay.sat x, SBay.travel x, ()) then
 (bif !rg (SBay.name x, SBay.kind x, SBay.off x, SBay.fin x, SBay.zr x, SBay.zx x, linksD (SBay.links x), SBay.closed x, SBay.ct x, SBay.vt x, SBay.sat x, SBay.travel x, ()) then
 some (T.leaf (AV.c (.d (.v (.int .i64 (2 : Int)))), [(0, Blk.cells [C.d (.v (.string s0)), C.row (1) (1) ka, C.row (2) ((5 :
 Nat)) kb, C.row (3) (6) kc, C.row (4) (12) (List.length bs), C.mp (5), C.d (.v (.bool nd))] (73)), (1, Blk.row ka ga
 (1) (9)), (2, Blk.row kb gb (5) (50)), (3, Blk.row kc gc (6) (53)), (4, Blk.row (List.length bs) (fun i =>
 bayC (List.getD bs i bay0)) (12) (44)), (5, Blk.map (0) mpa)])) else L33_18 nk okr rg ok lk x s0 ka ga kb gb kc gc bs mpa nd g g ((0 : Int))) else
 none)) else some (T.leaf (AV.c (.d (.v (.int .i64 (9 : Int)))), [(0, Blk.cells [C.d (.v (.string s0)), C.row (1) (1) ka, C.row ((2 :
 Nat)) (5) kb, C.row (3) (6) kc, C.row (4) (12) (List.length bs), C.mp (5), C.d (.v (.bool nd))] (73)), (1,
 Blk.row ka ga (1) (9)), (2, Blk.row kb gb (5) (50)), (3, Blk.row kc gc (6) (53)), (4, Blk.row (List.length
 bs) (fun i => bayC (List.getD bs i bay0)) (12) (44)), (5, Blk.map (0) mpa)]))) else (bif SBay.kind x == (2 : Int) then (bif decide (SBay.off x ≥ (0 :
 Int)) then (bif !decide (SBay.off x ≤ IntKind.wrap IntKind.i64 ((↑kc : Int) - (1 : Int))) then some (T.leaf (AV.c (.d (.v (.int .i64 (9 : Int)))), [(0,
 Blk.cells [C.d (.v (.string s0)), C.row (1) (1) ka, C.row (2) (5) kb, C.row (3) (6) kc, C.row (4) (12)
 (List.length bs), C.mp (5), C.d (.v (.bool nd))] (73)), (1, Blk.row ka ga (1) (9)), (2, Blk.row kb gb (5) ((50 :
 Nat))), (3, Blk.row kc gc (6) (53)), (4, Blk.row (List.length bs) (fun i => bayC (List.getD bs i bay0)) (12) (44)), (5,
 Blk.map (0) mpa)])) else (bif okr (SBay.name x, SBay.kind x, SBay.off x, SBay.fin x, SBay.zr x, SBay.zx x, linksD (SBay.links x), SBay.closed x, SBay.ct x, SBay.vt x,
 SBay.sat x, SBay.travel x, ()) then (bif !rg (SBay.name x, SBay.kind x, SBay.off x, SBay.fin x, SBay.zr x, SBay.zx x, linksD (SBay.links x), SBay.closed x, SBay.ct x, SBay.vt x,
 SBay.sat x, SBay.travel x, ()) then some (T.leaf (AV.c (.d (.v (.int .i64 (2 : Int)))), [(0, Blk.cells [C.d (.v (.string s0)), C.row (1) ((1 :
 Nat)) ka, C.row (2) (5) kb, C.row (3) (6) kc, C.row (4) (12) (List.length bs), C.mp (5), C.d (.v (.bool nd))] ((73 :
 Nat))), (1, Blk.row ka ga (1) (9)), (2, Blk.row kb gb (5) (50)), (3, Blk.row kc gc (6) (53)), (4,
 Blk.row (List.length bs) (fun i => bayC (List.getD bs i bay0)) (12) (44)), (5, Blk.map (0) mpa)])) else L33_18 nk okr rg ok lk x s0 ka ga kb gb kc gc
 bs mpa nd g g ((0 : Int))) else none)) else some (T.leaf (AV.c (.d (.v (.int .i64 (9 : Int)))), [(0, Blk.cells [C.d (.v (.string s0)), C.row (1)
 (1) ka, C.row (2) (5) kb, C.row (3) (6) kc, C.row (4) (12) (List.length bs), C.mp (5), C.d (.v (.bool nd))]
 (73)), (1, Blk.row ka ga (1) (9)), (2, Blk.row kb gb (5) (50)), (3, Blk.row kc gc (6) (53)), ((4 :
 Nat), Blk.row (List.length bs) (fun i => bayC (List.getD bs i bay0)) (12) (44)), (5, Blk.map (0) mpa)]))) else (bif SBay.kind x == (3 : Int) then
 (bif decide (SBay.off x ≥ (0 : Int)) then (bif !decide (SBay.off x ≤ IntKind.wrap IntKind.i64 ((1 : Int) - (1 : Int))) then some (T.leaf (AV.c (.d (.v (.int .i64 (9 :
 Int)))), [(0, Blk.cells [C.d (.v (.string s0)), C.row (1) (1) ka, C.row (2) (5) kb, C.row (3) (6) kc, C.row (4)
 (12) (List.length bs), C.mp (5), C.d (.v (.bool nd))] (73)), (1, Blk.row ka ga (1) (9)), (2, Blk.row kb gb (5)
 (50)), (3, Blk.row kc gc (6) (53)), (4, Blk.row (List.length bs) (fun i => bayC (List.getD bs i bay0)) (12) (44)), ((5 :
 Nat), Blk.map (0) mpa)])) else (bif okr (SBay.name x, SBay.kind x, SBay.off x, SBay.fin x, SBay.zr x, SBay.zx x, linksD (SBay.links x), SBay.closed x, SBay.ct x, SBay.vt x,
 SBay.sat x, SBay.travel x, ()) then (bif !rg (SBay.name x, SBay.kind x, SBay.off x, SBay.fin x, SBay.zr x, SBay.zx x, linksD (SBay.links x), SBay.closed x, SBay.ct x, SBay.vt x,
 SBay.sat x, SBay.travel x, ()) then some (T.leaf (AV.c (.d (.v (.int .i64 (2 : Int)))), [(0, Blk.cells [C.d (.v (.string s0)), C.row (1) ((1 :
 Nat)) ka, C.row (2) (5) kb, C.row (3) (6) kc, C.row (4) (12) (List.length bs), C.mp (5), C.d (.v (.bool nd))] ((73 :
 Nat))), (1, Blk.row ka ga (1) (9)), (2, Blk.row kb gb (5) (50)), (3, Blk.row kc gc (6) (53)), (4,
 Blk.row (List.length bs) (fun i => bayC (List.getD bs i bay0)) (12) (44)), (5, Blk.map (0) mpa)])) else L33_18 nk okr rg ok lk x s0 ka ga kb gb kc gc
 bs mpa nd g g ((0 : Int))) else none)) else some (T.leaf (AV.c (.d (.v (.int .i64 (9 : Int)))), [(0, Blk.cells [C.d (.v (.string s0)), C.row (1)
 (1) ka, C.row (2) (5) kb, C.row (3) (6) kc, C.row (4) (12) (List.length bs), C.mp (5), C.d (.v (.bool nd))]
 (73)), (1, Blk.row ka ga (1) (9)), (2, Blk.row kb gb (5) (50)), (3, Blk.row kc gc (6) (53)), ((4 :
 Nat), Blk.row (List.length bs) (fun i => bayC (List.getD bs i bay0)) (12) (44)), (5, Blk.map (0) mpa)]))) else some (T.leaf (AV.c (C.d (D.v
 (Value.int IntKind.i64 (10 : Int)))), [(0, Blk.cells [C.d (.v (.string s0)), C.row (1) (1) ka, C.row (2) (5) kb, C.row (3) ((6
 : Nat)) kc, C.row (4) (12) (List.length bs), C.mp (5), C.d (.v (.bool nd))] (73)), (1, Blk.row ka ga (1) (9)), ((2 :
 Nat), Blk.row kb gb (5) (50)), (3, Blk.row kc gc (6) (53)), (4, Blk.row (List.length bs) (fun i => bayC (List.getD bs i bay0)) ((12 :
 Nat)) (44)), (5, Blk.map (0) mpa)]))))))) := by kernel_rfl
theorem st33_18 (nk : ByteArray → Bool) (okr rg : RBay → Bool) (ok : (Unit × RBay × Unit) × AD → Bool) (lk : (Unit × RBay × Unit) × AD → Int) (x : SBay) (s0 : ByteArray) (ka : Nat) (ga : Nat → List D) (kb : Nat) (gb : Nat → List D) (kc : Nat) (gc : Nat → List D) (bs : List SBay) (mpa : List (Value × Value)) (nd : Bool) (g m : Nat) (i52 : Int) : L33_18 nk okr rg ok lk x s0 ka ga kb gb kc gc bs mpa nd g (m + 1) i52 =
 (bif decide (i52 < (↑(List.length bs) : Int)) then (bif decide ((0 : Int) ≤ i52) && decide (i52 < (↑(List.length bs) : Int)) then (bif SBay.kind x != (3 : Int) then (bif SBay.kind x
 == SBay.kind (List.getD bs (Int.toNat i52) bay0) then (bif SBay.off x == SBay.off (List.getD bs (Int.toNat i52) bay0) then (bif SBay.fin x == SBay.fin (List.getD bs (Int.toNat i52)
 bay0) then some (T.leaf (AV.c (.d (.v (.int .i64 (12 : Int)))), [(0, Blk.cells [C.d (.v (.string s0)), C.row (1) (1) ka, C.row ((2 :
 Nat)) (5) kb, C.row (3) (6) kc, C.row (4) (12) (List.length bs), C.mp (5), C.d (.v (.bool nd))] (73)), (1,
 Blk.row ka ga (1) (9)), (2, Blk.row kb gb (5) (50)), (3, Blk.row kc gc (6) (53)), (4, Blk.row (List.length
 bs) (fun i => bayC (List.getD bs i bay0)) (12) (44)), (5, Blk.map (0) mpa)])) else L33_18 nk okr rg ok lk x s0 ka ga kb gb kc gc bs mpa nd g m
 (IntKind.wrap IntKind.i64 (i52 + (1 : Int)))) else L33_18 nk okr rg ok lk x s0 ka ga kb gb kc gc bs mpa nd g m (IntKind.wrap IntKind.i64 (i52 + (1 : Int)))) else L33_18 nk okr rg ok
 lk x s0 ka ga kb gb kc gc bs mpa nd g m (IntKind.wrap IntKind.i64 (i52 + (1 : Int)))) else L33_18 nk okr rg ok lk x s0 ka ga kb gb kc gc bs mpa nd g m (IntKind.wrap IntKind.i64 (i52
 + (1 : Int)))) else none) else (bif ok (((), (SBay.name x, SBay.kind x, SBay.off x, SBay.fin x, SBay.zr x, SBay.zx x, linksD (SBay.links x), SBay.closed x, SBay.ct x, SBay.vt x,
 SBay.sat x, SBay.travel x, ()), ()), (s0, ka, kb, kc, List.length bs, (), nd, ()), (ka, ga), (kb, gb), (kc, gc), (List.length bs, fun i => bayC (List.getD bs i bay0)), mpa, ()) then
 (bif lk (((), (SBay.name x, SBay.kind x, SBay.off x, SBay.fin x, SBay.zr x, SBay.zx x, linksD (SBay.links x), SBay.closed x, SBay.ct x, SBay.vt x, SBay.sat x, SBay.travel x, ()),
 ()), (s0, ka, kb, kc, List.length bs, (), nd, ()), (ka, ga), (kb, gb), (kc, gc), (List.length bs, fun i => bayC (List.getD bs i bay0)), mpa, ()) != (0 : Int) then some (T.leaf (AV.c
 (C.d (.v (.int .i64 (lk (((), (SBay.name x, SBay.kind x, SBay.off x, SBay.fin x, SBay.zr x, SBay.zx x, linksD (SBay.links x), SBay.closed x, SBay.ct x, SBay.vt x,
 SBay.sat x, SBay.travel x, ()), ()), (s0, ka, kb, kc, List.length bs, (), nd, ()), (ka, ga), (kb, gb), (kc, gc), (List.length bs, fun i => bayC (List.getD bs i bay0)), mpa, ()))))),
 [(0, Blk.cells [C.d (.v (.string s0)), C.row (1) (1) ka, C.row (2) (5) kb, C.row (3) (6) kc, C.row (4) ((12 :
 Nat)) (List.length bs), C.mp (5), C.d (.v (.bool nd))] (73)), (1, Blk.row ka ga (1) (9)), (2, Blk.row kb gb (5) ((50 :
 Nat))), (3, Blk.row kc gc (6) (53)), (4, Blk.row (List.length bs) (fun i => bayC (List.getD bs i bay0)) (12) (44)), (5,
 Blk.map (0) (Prod.fst (Prod.snd (Prod.snd (Prod.snd (Prod.snd (Prod.snd (Prod.snd (((), (SBay.name x, SBay.kind x, SBay.off x, SBay.fin x, SBay.zr x, SBay.zx x, linksD
 (SBay.links x), SBay.closed x, SBay.ct x, SBay.vt x, SBay.sat x, SBay.travel x, ()), ()), (s0, ka, kb, kc, List.length bs, (), nd, ()), (ka, ga), (kb, gb), (kc, gc), (List.length
 bs, fun i => bayC (List.getD bs i bay0)), mpa, ())))))))))])) else (bif decide ((List.length bs + 1) * 120 ≤ 140737488355328) && decide (List.length bs + (1
 : Nat) ≤ 9223372036854775807) then some (T.leaf (AV.c (.d (.v (.int .i64 (0 : Int)))), [(0, Blk.cells [C.d (.v (.string s0)), C.row (1)
 (1) ka, C.row (2) (5) kb, C.row (3) (6) kc, C.row (6) (12) (List.length bs + 1), C.mp (5), C.d (D.v
 (Value.bool nd))] (73)), (1, Blk.row ka ga (1) (9)), (2, Blk.row kb gb (5) (50)), (3, Blk.row kc gc (6) ((53
 : Nat))), (4, Blk.dead), (5, Blk.map (0) ((Value.string (SBay.name x), Value.bool true) :: Prod.fst (Prod.snd (Prod.snd (Prod.snd (Prod.snd (Prod.snd
 (Prod.snd (((), (SBay.name x, SBay.kind x, SBay.off x, SBay.fin x, SBay.zr x, SBay.zx x, linksD (SBay.links x), SBay.closed x, SBay.ct x, SBay.vt x, SBay.sat x, SBay.travel x, ()),
 ()), (s0, ka, kb, kc, List.length bs, (), nd, ()), (ka, ga), (kb, gb), (kc, gc), (List.length bs, fun i => bayC (List.getD bs i bay0)), mpa, ()))))))))), (6, Blk.row
 (List.length bs + 1) (appF (List.length bs) (fun i => bayC (List.getD bs i bay0)) (chunk [dS (SBay.name x), dI (SBay.kind x), dI (SBay.off x), dI (SBay.fin x), dI (SBay.zr
 x), dI (SBay.zx x), linksD (SBay.links x), dB (SBay.closed x), dI (SBay.ct x), dI (SBay.vt x), dI (SBay.sat x), dI (SBay.travel x)] (11 + 1))) (12) ((44 :
 Nat)))])) else none)) else none)) := by kernel_rfl
end Go.Proofs.YthmapnolgdpkbaaDoor.de
namespace Go.Proofs.YthmapnolgdpkbaaDoor.de
open Go.RowKit Go.Eb Go.Proofs.YthmapnolgdpkbaaDoor.st
set_option maxRecDepth 100000

theorem appOk {k b : Nat} (h : k + 1 ≤ 1000) (hb : b ≤ 1000) : (decide ((k + 1) * b ≤ 140737488355328) && decide (k + 1 ≤ 9223372036854775807)) = true := by
  have h1 : (k + 1) * b ≤ 1000 * 1000 := Nat.mul_le_mul h hb
  rw [decide_eq_true (by omega), decide_eq_true (by omega)]; rfl
theorem sNm : OrcS Tryd.prog (oNm nameOk) := .cons (.p decS_ok c15) .nil
theorem sNam : OrcS Tryd.prog (oNam nameOk) := .cons (.inl sNm Tryd.func69 (by kernel_rfl)) .nil
theorem sWi : OrcS Tryd.prog oWi := .cons (.inl .nil Tryd.func71 (by kernel_rfl)) .nil
theorem sIm : OrcS Tryd.prog (oIm nameOk) := .cons (.inl sWi Tryd.func70 (by kernel_rfl)) (.cons (.inl .nil Tryd.func71 (by kernel_rfl)) sNam)
abbrev lI (e : Int) (H : Hp) : Option (T (AV × Hp)) := some (.leaf (vI e, H))
theorem w1 {k : Nat} (h : k ≤ 9223372036854775807) : IntKind.wrap IntKind.i64 ((k : Int) - 1) = (k : Int) - 1 := wrap_id (by omega) (by omega)
theorem len_lt1 (n : Nat) : decide ((n : Int) < 1) = decide (n < 1) := by rw [decide_eq_decide]; omega
theorem len_gt2 (n : Nat) : decide ((n : Int) > 2) = decide (2 < n) := by rw [decide_eq_decide]; omega
theorem len_ne2 (n : Nat) : ((n : Int) != 2) = (n != 2) := by
  rw [Bool.eq_iff_iff]; simp only [bne_iff_ne]; omega
theorem gt0 (k : Nat) : decide ((k : Int) > 0) = decide (0 < k) := by rw [decide_eq_decide]; omega

section
variable (x : SBay) (s0 : ByteArray) (ka : Nat) (ga : Nat → List D) (kb : Nat) (gb : Nat → List D) (kc : Nat) (gc : Nat → List D) (kd : Nat) (gd : Nat → List D) (mpa : List (Value × Value)) (nd : Bool)
def prevB (l : List SLink) : Nat → Option Int
  | 0 => none
  | k + 1 => some (l.getD k link0).bus
theorem lp55 (hka : ka ≤ 9223372036854775807) (hl : x.links.length ≤ 9223372036854775807) (g : Nat) : ∀ (m k : Nat), k ≤ x.links.length → x.links.length - k < m →
    L55_5 x s0 ka ga kb gb kc gc kd gd mpa nd g m k = lI (linkErr ka x.kind (prevB x.links k) (x.links.drop k)) (HD s0 ka ga kb gb kc gc kd gd mpa nd)
  | 0, k, _, h => by omega
  | m + 1, k, hk, h => by
    rw [st55_5]
    by_cases hlt : k < x.links.length
    · have ih := lp55 hka hl g m (k + 1) (by omega) (by omega)
      rw [drop_at' (d := link0) hlt]
      simp only [lt1 hlt, ge0, tn, Bool.and_self, cond_true, nx hlt (by omega), ih, w1 hka, linkErr, within]
      cases k with
      | zero =>
        simp only [prevB, List.getD_cons_zero]
        generalize decide ((x.links.getD 0 link0).bus ≥ 0) = b1
        generalize decide ((x.links.getD 0 link0).bus ≤ (ka : Int) - 1) = b2
        generalize ((x.links.getD 0 link0).pos != 1) = b3
        generalize ((x.links.getD 0 link0).pos != 0) = b4
        generalize (x.kind == 3) = b5
        cases b1 <;> cases b2 <;> cases b3 <;> cases b4 <;> cases b5 <;> rfl
      | succ k =>
        have e1 : IntKind.wrap IntKind.i64 (((k + 1 : Nat) : Int) - 1) = (k : Int) := by rw [wrap_id (by omega) (by omega)]; omega
        have e2 : decide (((k + 1 : Nat) : Int) > 0) = true := by rw [gt0]; simp
        have e3 : decide ((k : Int) < (x.links.length : Int)) = true := lt1 (by omega)
        have e4 : (some (x.links.getD k link0).bus == some (x.links.getD (k + 1) link0).bus) = ((x.links.getD k link0).bus == (x.links.getD (k + 1) link0).bus) := rfl
        simp only [prevB, e1, e2, e3, e4, ge0, tn, Bool.and_self, cond_true]
        generalize decide ((x.links.getD (k + 1) link0).bus ≥ 0) = b1
        generalize decide ((x.links.getD (k + 1) link0).bus ≤ (ka : Int) - 1) = b2
        generalize ((x.links.getD (k + 1) link0).pos != 1) = b3
        generalize ((x.links.getD (k + 1) link0).pos != 0) = b4
        generalize (x.kind == 3) = b5
        generalize ((x.links.getD k link0).bus == (x.links.getD (k + 1) link0).bus) = b6
        cases b1 <;> cases b2 <;> cases b3 <;> cases b4 <;> cases b5 <;> cases b6 <;> rfl
    · rw [lt0 hlt, List.drop_of_length_le (by omega)]
      rfl
theorem c55 (hka : ka ≤ 9223372036854775807) (hl : x.links.length ≤ 9223372036854775807) : CX Tryd.prog 73 [.c (.ptr 0 0), aBay x] (HD s0 ka ga kb gb kc gc kd gd mpa nd) (vI (linksErr ka x)) (HD s0 ka ga kb gb kc gc kd gd mpa nd) := by
  obtain ⟨g, hg⟩ : ∃ g, x.links.length < g := ⟨x.links.length + 1, by omega⟩
  refine cx_of (sWi.ok) Tryd.func73 b55 rfl ((ev55 x s0 ka ga kb gb kc gc kd gd mpa nd g).trans ?_)
  have := lp55 x s0 ka ga kb gb kc gc kd gd mpa nd hka hl g g 0 (by omega) (by omega)
  have e0 : L55_5 x s0 ka ga kb gb kc gc kd gd mpa nd g g 0 = lI (linkErr ka x.kind none x.links) (HD s0 ka ga kb gb kc gc kd gd mpa nd) := this
  rw [e0, len_lt1, len_gt2, len_ne2]
  unfold linksErr
  generalize decide (x.links.length < 1) = b1
  generalize decide (2 < x.links.length) = b2
  generalize (x.kind == 3) = b3
  generalize (x.links.length != 2) = b4
  cases b1 <;> cases b2 <;> cases b3 <;> cases b4 <;> rfl
end

theorem s54 : OrcS Tryd.prog o54 := .cons (.inl sWi Tryd.func70 (by kernel_rfl)) sWi
theorem c54 (x : SBay) : CX Tryd.prog 72 [aBay x] [] (vB (rngOk x)) [] := by
  refine cx_of s54.ok Tryd.func72 b54 rfl ((ev54 x 1).trans ?_)
  simp only [fNot, bAnd, neN, Bool.and_true]
  unfold rngOk impOk within
  cases (x.kind == 3) with
  | true =>
    simp only [cond_true]
    cases (x.kind == 1) <;> simp only [cond_true, cond_false, Bool.and_assoc, bAnd]
  | false =>
    simp only [cond_false]
    cases (x.kind == 1) <;> simp only [cond_true, cond_false, Bool.and_assoc, bAnd]

def eqs (a : AD) : Bool := Nat.beq a.1.2.1 a.2.1.1 && (Nat.beq a.1.2.2.1 a.2.2.1.1 && (Nat.beq a.1.2.2.2.1 a.2.2.2.1.1 && (Nat.beq a.1.2.2.2.2.1 a.2.2.2.2.1.1 && (Nat.ble a.1.2.1 900 && (Nat.ble a.1.2.2.1 900 && (Nat.ble a.1.2.2.2.1 900 && Nat.ble a.1.2.2.2.2.1 900))))))
theorem enc55 (a : (Unit × RBay × Unit) × AD) (h : eqs a.2 = true) : (d55.enc a).2 = HD a.2.1.1 a.2.2.1.1 a.2.2.1.2 a.2.2.2.1.1 a.2.2.2.1.2 a.2.2.2.2.1.1 a.2.2.2.2.1.2 a.2.2.2.2.2.1.1 a.2.2.2.2.2.1.2 a.2.2.2.2.2.2.1 a.2.1.2.2.2.2.2.2.1 ∧ (a.2.2.1.1 ≤ 900 ∧ a.2.2.2.1.1 ≤ 900 ∧ a.2.2.2.2.1.1 ≤ 900 ∧ a.2.2.2.2.2.1.1 ≤ 900) := by
  unfold eqs at h
  simp only [Bool.and_eq_true] at h
  obtain ⟨h1, h2, h3, h4, h5, h6, h7, h8⟩ := h
  have e1 := Nat.eq_of_beq_eq_true h1
  have e2 := Nat.eq_of_beq_eq_true h2
  have e3 := Nat.eq_of_beq_eq_true h3
  have e4 := Nat.eq_of_beq_eq_true h4
  have g5 := Nat.le_of_ble_eq_true h5
  have g6 := Nat.le_of_ble_eq_true h6
  have g7 := Nat.le_of_ble_eq_true h7
  have g8 := Nat.le_of_ble_eq_true h8
  refine ⟨?_, by omega, by omega, by omega, by omega⟩
  show [(0, Blk.cells [.d (dS a.2.1.1), .row 1 1 a.2.1.2.1, .row 2 5 a.2.1.2.2.1, .row 3 6 a.2.1.2.2.2.1, .row 4 12 a.2.1.2.2.2.2.1, .mp 5, .d (dB a.2.1.2.2.2.2.2.2.1)] 73), (1, .row a.2.2.1.1 a.2.2.1.2 1 9), (2, .row a.2.2.2.1.1 a.2.2.2.1.2 5 50), (3, .row a.2.2.2.2.1.1 a.2.2.2.2.1.2 6 53), (4, .row a.2.2.2.2.2.1.1 a.2.2.2.2.2.1.2 12 44), (5, .map 0 a.2.2.2.2.2.2.1)] = _
  rw [e1, e2, e3, e4]

noncomputable def ok33 (a : (Unit × RBay × Unit) × AD) : Bool := okRB a.1.2.1 && eqs a.2
noncomputable def lk33 (a : (Unit × RBay × Unit) × AD) : Int := linksErr a.2.2.1.1 (rbay a.1.2.1)
theorem okRB_len {x : RBay} (h : okRB x = true) : (rbay x).links.length ≤ 9223372036854775807 := by
  unfold okRB okLk at h
  simp only [Bool.and_eq_true, decide_eq_true_eq] at h
  exact h.2
theorem s33 : OrcS Tryd.prog (o33 nameOk okRB (fun a => rngOk (rbay a)) ok33 lk33) := by
  refine .cons (.d fun a ha => ?_) (.cons (.d fun a ha => ?_) sIm)
  · unfold ok33 at ha
    simp only [Bool.and_eq_true] at ha
    obtain ⟨e, h1, _⟩ := enc55 a ha.2
    rw [e]
    exact (c55 (rbay a.1.2.1) _ _ _ _ _ _ _ _ _ _ _ (by omega) (okRB_len ha.1)).ge (.cons (.refl _) (.cons (bay_le _ ha.1) .nil)) (.refl _)
  · exact (c54 (rbay a.1.1)).ge (.cons (bay_le _ ha) .nil) (.refl _)

section
variable (x : SBay) (s0 : ByteArray) (ka : Nat) (ga : Nat → List D) (kb : Nat) (gb : Nat → List D) (kc : Nat) (gc : Nat → List D) (bs : List SBay) (mpa : List (Value × Value)) (nd : Bool)
abbrev cnB (bs : List SBay) : Nat → List D := fun i => bayC (bs.getD i bay0)
def H33 : Hp := [(0, .cells [.d (dS s0), .row 1 1 ka, .row 2 5 kb, .row 3 6 kc, .row 6 12 (bs.length + 1), .mp 5, .d (dB nd)] 73), (1, .row ka ga 1 9), (2, .row kb gb 5 50), (3, .row kc gc 6 53), (4, .dead), (5, .map 0 ((.string x.name, .bool true) :: mpa)), (6, .row (bs.length + 1) (appF bs.length (cnB bs) (chunk (bayC x) 12)) 12 44)]
def aft33 : Option (T (AV × Hp)) := bif linksErr ka x != 0 then lI (linksErr ka x) (HD s0 ka ga kb gb kc gc bs.length (cnB bs) mpa nd) else lI 0 (H33 x s0 ka ga kb gb kc gc bs mpa nd)
theorem lp33 (hka : ka ≤ 900) (hkb : kb ≤ 900) (hkc : kc ≤ 900) (hbs : bs.length ≤ 900) (hl : x.links.length ≤ 9223372036854775807) (g : Nat) : ∀ (m k : Nat), k ≤ bs.length → bs.length - k < m →
    L33_18 nameOk okRB (fun a => rngOk (rbay a)) ok33 lk33 x s0 ka ga kb gb kc gc bs mpa nd g m k = bif (bs.drop k).any (clash x) then lI 12 (HD s0 ka ga kb gb kc gc bs.length (cnB bs) mpa nd) else aft33 x s0 ka ga kb gb kc gc bs mpa nd
  | 0, k, _, h => by omega
  | m + 1, k, hk, h => by
    rw [st33_18]
    by_cases hlt : k < bs.length
    · have ih := lp33 hka hkb hkc hbs hl g m (k + 1) (by omega) (by omega)
      rw [drop_at' (d := bay0) hlt]
      simp only [lt1 hlt, ge0, tn, Bool.and_self, cond_true, nx hlt (by omega), ih, List.any_cons, clash]
      generalize (x.kind != 3) = b1
      generalize (x.kind == (bs.getD k bay0).kind) = b2
      generalize (x.off == (bs.getD k bay0).off) = b3
      generalize (x.fin == (bs.getD k bay0).fin) = b4
      cases b1 <;> cases b2 <;> cases b3 <;> cases b4 <;> rfl
    · rw [lt0 hlt, List.drop_of_length_le (by omega)]
      have hok : ok33 (((), bayR x, ()), (s0, ka, kb, kc, bs.length, (), nd, ()), (ka, ga), (kb, gb), (kc, gc), (bs.length, cnB bs), mpa, ()) = true := by
        unfold ok33
        have e1 : okRB (bayR x) = true := okLk_links hl
        have e2 : eqs ((s0, ka, kb, kc, bs.length, (), nd, ()), (ka, ga), (kb, gb), (kc, gc), (bs.length, cnB bs), mpa, ()) = true := by
          unfold eqs
          simp only [Nat.beq_refl, Bool.true_and, bleD, decide_eq_true hka, decide_eq_true hkb, decide_eq_true hkc, decide_eq_true hbs]
        simp only [e1, e2, Bool.and_self]
      have hlk : lk33 (((), bayR x, ()), (s0, ka, kb, kc, bs.length, (), nd, ()), (ka, ga), (kb, gb), (kc, gc), (bs.length, cnB bs), mpa, ()) = linksErr ka x := by
        unfold lk33
        simp only [rbay_bayR]
      simp only [cond_false, List.any_nil]
      show (bif ok33 (((), bayR x, ()), (s0, ka, kb, kc, bs.length, (), nd, ()), (ka, ga), (kb, gb), (kc, gc), (bs.length, cnB bs), mpa, ()) then (bif lk33 (((), bayR x, ()), (s0, ka, kb, kc, bs.length, (), nd, ()), (ka, ga), (kb, gb), (kc, gc), (bs.length, cnB bs), mpa, ()) != 0 then
        lI (lk33 (((), bayR x, ()), (s0, ka, kb, kc, bs.length, (), nd, ()), (ka, ga), (kb, gb), (kc, gc), (bs.length, cnB bs), mpa, ())) (HD s0 ka ga kb gb kc gc bs.length (cnB bs) mpa nd) else
        (bif decide ((bs.length + 1) * 120 ≤ 140737488355328) && decide (bs.length + 1 ≤ 9223372036854775807) then lI 0 (H33 x s0 ka ga kb gb kc gc bs mpa nd) else none)) else none) = _
      rw [hok, hlk, appOk (k := bs.length) (b := 120) (by omega) (by omega)]
      unfold aft33
      cases (linksErr ka x != 0) <;> rfl

def r33 : Option (T (AV × Hp)) := bif bayErrD ka kb kc (boolOf (assoc mpa (.string x.name))) bs x != 0 then lI (bayErrD ka kb kc (boolOf (assoc mpa (.string x.name))) bs x) (HD s0 ka ga kb gb kc gc bs.length (cnB bs) mpa nd) else lI 0 (H33 x s0 ka ga kb gb kc gc bs mpa nd)
theorem e33 (hka : ka ≤ 900) (hkb : kb ≤ 900) (hkc : kc ≤ 900) (hbs : bs.length ≤ 900) (hl : x.links.length ≤ 9223372036854775807) (g : Nat) (hg : bs.length < g) :
    callC Tryd.prog (o33 nameOk okRB (fun a => rngOk (rbay a)) ok33 lk33) ann33 g Tryd.f47 (bodyOf Tryd.f47) [.c (.ptr 0 0), aBay x] (HD s0 ka ga kb gb kc gc bs.length (cnB bs) mpa nd) = r33 x s0 ka ga kb gb kc gc bs mpa nd := by
  refine (ev33 nameOk okRB (fun a => rngOk (rbay a)) ok33 lk33 x s0 ka ga kb gb kc gc bs mpa nd g).trans ?_
  have hL := lp33 x s0 ka ga kb gb kc gc bs mpa nd hka hkb hkc hbs hl g g 0 (by omega) (by omega)
  have hL0 : L33_18 nameOk okRB (fun a => rngOk (rbay a)) ok33 lk33 x s0 ka ga kb gb kc gc bs mpa nd g g 0 = bif bs.any (clash x) then lI 12 (HD s0 ka ga kb gb kc gc bs.length (cnB bs) mpa nd) else aft33 x s0 ka ga kb gb kc gc bs mpa nd := hL
  have e1 : okRB (bayR x) = true := okLk_links hl
  have e2 : rngOk (rbay (bayR x)) = rngOk x := by rw [rbay_bayR]
  have e1' : okRB (x.name, x.kind, x.off, x.fin, x.zr, x.zx, linksD x.links, x.closed, x.ct, x.vt, x.sat, x.travel, ()) = true := e1
  have e2' : rngOk (rbay (x.name, x.kind, x.off, x.fin, x.zr, x.zx, linksD x.links, x.closed, x.ct, x.vt, x.sat, x.travel, ())) = rngOk x := e2
  have w0 : IntKind.wrap IntKind.i64 ((1 : Int) - 1) = (1 : Int) - 1 := by decide
  rw [hL0]
  simp only [e1', e2', w1 (show kb ≤ 9223372036854775807 by omega), w1 (show kc ≤ 9223372036854775807 by omega), w0, cond_true]
  unfold r33 bayErrD cntOf within aft33
  cases nameOk x.name with
  | false => rfl
  | true =>
    cases boolOf (assoc mpa (Value.string x.name)) with
    | true => rfl
    | false =>
      cases (x.kind == 1) with
      | true =>
        simp only [cond_true, cond_false, Bool.not_true]
        generalize decide (x.off ≥ 0) = b1
        generalize decide (x.off ≤ (kb : Int) - 1) = b2
        cases b1 <;> cases b2 <;> first | rfl | (cases rngOk x <;> first | rfl | (cases bs.any (clash x) <;> rfl))
      | false =>
        cases (x.kind == 2) with
        | true =>
          simp only [cond_true, cond_false, Bool.not_true]
          generalize decide (x.off ≥ 0) = b1
          generalize decide (x.off ≤ (kc : Int) - 1) = b2
          cases b1 <;> cases b2 <;> first | rfl | (cases rngOk x <;> first | rfl | (cases bs.any (clash x) <;> rfl))
        | false =>
          cases (x.kind == 3) with
          | true =>
            simp only [cond_true, cond_false, Bool.not_true]
            generalize decide (x.off ≥ 0) = b1
            generalize decide (x.off ≤ (1 : Int) - 1) = b2
            cases b1 <;> cases b2 <;> first | rfl | (cases rngOk x <;> first | rfl | (cases bs.any (clash x) <;> rfl))
          | false => rfl
end
end Go.Proofs.YthmapnolgdpkbaaDoor.de
namespace Go.Proofs.YthmapnolgdpkbaaDoor.de
open Go.RowKit Go.Eb Go.Proofs.YthmapnolgdpkbaaDoor.st
set_option maxRecDepth 100000
open Go.Proofs.YthmapnolgdpkbaaDoor.wd (numS rN c11)

def ydOf (r : RIt) : D := .sl 4 1 fun _ => [dI r.1, r.2.1, dB r.2.2.1, r.2.2.2.1]
noncomputable def theIt (r : RIt) : It := (theI (ydOf r)).getD 0 i0
theorem theIt_le {r : RIt} (h : okI (ydOf r) = true) : DEs [dI r.1, r.2.1, dB r.2.2.1, r.2.2.2.1] (icells (theIt r)) := by
  obtain ⟨_, hl, hf⟩ := de_sl (theI_de h)
  exact hf 0 (by omega)
theorem theIt_of {r : RIt} {x : It} (h1 : DEs [dI r.1, r.2.1, dB r.2.2.1, r.2.2.2.1] (icells x)) (h2 : DEs (icells x) [dI r.1, r.2.1, dB r.2.2.1, r.2.2.2.1]) : okI (ydOf r) = true ∧ theIt r = x := by
  have e1 : DE (ydOf r) (itemsD [x]) := .sls fun i hi => by
    obtain rfl : i = 0 := by omega
    exact h1
  have e2 : DE (itemsD [x]) (ydOf r) := .sls fun i hi => by
    have hi : i < 1 := hi
    obtain rfl : i = 0 := by omega
    exact h2
  have := theI_of e1 e2
  exact ⟨this.1, by unfold theIt; rw [this.2]; rfl⟩
theorem theIt_it (x : It) : okI (ydOf (x.line, wordsD x.words, x.block, kidsD x, ())) = true ∧ theIt (x.line, wordsD x.words, x.block, kidsD x, ()) = x := theIt_of (.refl _) (.refl _)
def hd (y : It) : ByteArray := (y.words.getD 0 w0).text
def tx (y : It) (i : Nat) : ByteArray := (y.words.getD i w0).text
noncomputable def setB (y : It) (b : SBay) : SBay := bif same (hd y) tCt then { b with ct := (numS (tx y 1)).1 } else bif same (hd y) tVt then { b with vt := (numS (tx y 1)).1 } else bif same (hd y) tSat then { b with sat := (numS (tx y 1)).1 } else bif same (hd y) tTravel then { b with travel := (numS (tx y 1)).1 } else bif same (hd y) tBreaker then { b with closed := false } else b
noncomputable def setL (bs : List ByteArray) (y : It) : SLink := ⟨idxS id (tx y 1) bs 0, bif same (tx y 2) tClosed then 1 else 0⟩
abbrev Sn := List (Value × Value)
def fresh (seen : Sn) (s : ByteArray) : Prop := boolOf (assoc seen (.string s)) = false
def GoodS (bs : List ByteArray) (n : Nat) (seen : Sn) (y : It) : Prop :=
  (∃ t, (numS t).2 = true ∧ ((y = say [tCt, t] ∧ fresh seen tCt) ∨ (y = say [tVt, t] ∧ fresh seen tVt) ∨ (y = say [tSat, t] ∧ fresh seen tSat) ∨ (y = say [tTravel, t] ∧ fresh seen tTravel))) ∨ (y = say [tBreaker, tOpen] ∧ fresh seen tBreaker) ∨
  (∃ t, (y = say [tSelect, t, tClosed] ∨ y = say [tSelect, t, tOpen]) ∧ decide (idxS id t bs 0 < 0) = false ∧ n ≤ 5000)
theorem sne {a b : ByteArray} (h : a ≠ b) : same a b = false := by
  cases e : same a b with
  | false => rfl
  | true => exact absurd (same_iff.1 e) h
theorem sre (a : ByteArray) : same a a = true := same_iff.2 rfl
noncomputable def tsB (a : TS) : SBay := ⟨a.2.2.2.2.2.2.2.1.1, a.2.2.2.2.2.2.2.1.2.1, a.2.2.2.2.2.2.2.1.2.2.1, a.2.2.2.2.2.2.2.1.2.2.2.1, a.2.2.2.2.2.2.2.1.2.2.2.2.1, a.2.2.2.2.2.2.2.1.2.2.2.2.2.1, [], a.2.2.2.2.2.2.2.1.2.2.2.2.2.2.2.1, a.2.2.2.2.2.2.2.1.2.2.2.2.2.2.2.2.1, a.2.2.2.2.2.2.2.1.2.2.2.2.2.2.2.2.2.1, a.2.2.2.2.2.2.2.1.2.2.2.2.2.2.2.2.2.2.1, a.2.2.2.2.2.2.2.1.2.2.2.2.2.2.2.2.2.2.2.1⟩
noncomputable def tsY (a : TS) : It := theIt a.1.2.1
noncomputable def tsN (a : TS) : List ByteArray := theC busC e0 1 a.2.2.1.1 a.2.2.1.2
noncomputable def tsG (a : TS) : Bool := @decide (GoodS (tsN a) a.2.2.2.2.2.2.2.2.1.1 a.2.2.2.2.2.2.2.2.2.1 (tsY a)) (Classical.propDecidable _)
noncomputable def okS6 (a : TS) : Bool := okI (ydOf a.1.2.1) && (okC busC e0 a.2.2.1.1 a.2.2.1.2 && (Nat.beq a.2.1.2.1 a.2.2.1.1 && (Nat.beq a.2.1.2.2.1 a.2.2.2.1.1 && (Nat.beq a.2.1.2.2.2.1 a.2.2.2.2.1.1 && (Nat.beq a.2.1.2.2.2.2.1 a.2.2.2.2.2.1.1 && (Nat.beq a.2.2.2.2.2.2.2.1.2.2.2.2.2.2.1 a.2.2.2.2.2.2.2.2.1.1 && tsG a))))))
noncomputable def selS (a : TS) : Bool := same (hd (tsY a)) tSelect
noncomputable def glS (a : TS) : Nat → List D := appF a.2.2.2.2.2.2.2.2.1.1 a.2.2.2.2.2.2.2.2.1.2 (chunk (linkC (setL (tsN a) (tsY a))) 2)
noncomputable def clS (a : TS) : Bool := (setB (tsY a) (tsB a)).closed
noncomputable def ctS (a : TS) : Int := (setB (tsY a) (tsB a)).ct
noncomputable def vtS (a : TS) : Int := (setB (tsY a) (tsB a)).vt
noncomputable def saS (a : TS) : Int := (setB (tsY a) (tsB a)).sat
noncomputable def trS (a : TS) : Int := (setB (tsY a) (tsB a)).travel
theorem setB_ct (t : ByteArray) (b : SBay) : setB (say [tCt, t]) b = { b with ct := (numS t).1 } := by
  unfold setB
  show (bif same tCt tCt then _ else _) = _
  rw [sre]; rfl
theorem setB_vt (t : ByteArray) (b : SBay) : setB (say [tVt, t]) b = { b with vt := (numS t).1 } := by
  unfold setB
  show (bif same tVt tCt then _ else bif same tVt tVt then _ else _) = _
  rw [sre, sne (by decide)]; rfl
theorem setB_sa (t : ByteArray) (b : SBay) : setB (say [tSat, t]) b = { b with sat := (numS t).1 } := by
  unfold setB
  show (bif same tSat tCt then _ else bif same tSat tVt then _ else bif same tSat tSat then _ else _) = _
  rw [sre, sne (show tSat ≠ tCt by decide), sne (show tSat ≠ tVt by decide)]; rfl
theorem setB_tr (t : ByteArray) (b : SBay) : setB (say [tTravel, t]) b = { b with travel := (numS t).1 } := by
  unfold setB
  show (bif same tTravel tCt then _ else bif same tTravel tVt then _ else bif same tTravel tSat then _ else bif same tTravel tTravel then _ else _) = _
  rw [sre, sne (show tTravel ≠ tCt by decide), sne (show tTravel ≠ tVt by decide), sne (show tTravel ≠ tSat by decide)]; rfl
theorem setB_br (b : SBay) : setB (say [tBreaker, tOpen]) b = { b with closed := false } := by
  unfold setB
  show (bif same tBreaker tCt then _ else bif same tBreaker tVt then _ else bif same tBreaker tSat then _ else bif same tBreaker tTravel then _ else bif same tBreaker tBreaker then _ else _) = _
  rw [sre, sne (show tBreaker ≠ tCt by decide), sne (show tBreaker ≠ tVt by decide), sne (show tBreaker ≠ tSat by decide), sne (show tBreaker ≠ tTravel by decide)]; rfl
theorem setB_sel (t u : ByteArray) (b : SBay) : setB (say [tSelect, t, u]) b = b := by
  unfold setB
  show (bif same tSelect tCt then _ else bif same tSelect tVt then _ else bif same tSelect tSat then _ else bif same tSelect tTravel then _ else bif same tSelect tBreaker then _ else _) = _
  rw [sne (show tSelect ≠ tCt by decide), sne (show tSelect ≠ tVt by decide), sne (show tSelect ≠ tSat by decide), sne (show tSelect ≠ tTravel by decide), sne (show tSelect ≠ tBreaker by decide)]; rfl
theorem arg_le {r : RIt} (h : okI (ydOf r) = true) : Ale (.agg ([dI r.1, r.2.1, dB r.2.2.1, r.2.2.2.1].map .d)) (aIt (theIt r)) := by
  have := theIt_le h
  refine ⟨by simpa using this.1, fun j p q h1 h2 => ?_⟩
  rw [List.getElem?_map] at h1 h2
  cases e1 : [dI r.1, r.2.1, dB r.2.2.1, r.2.2.2.1][j]? with
  | none => rw [e1] at h1; cases h1
  | some a =>
    cases e2 : (icells (theIt r))[j]? with
    | none => rw [e2] at h2; cases h2
    | some b =>
      rw [e1] at h1; rw [e2] at h2
      cases h1; cases h2
      exact this.2 j a b e1 e2
theorem s75 : AnsS Tryd.prog 80 (ansB dSt okS6 selS (fun _ => vI 0) (hS1 clS ctS vtS saS trS glS) (fun _ => vI 0) (hS2 clS ctS vtS saS trS)) := by
  have key : ∀ a, okS6 a = true → ∃ (l : List ByteArray) (s0 : ByteArray) (ka kb kc kd : Nat) (nd : Bool) (gb gc gd : Nat → List D) (mpa : Sn) (b : SBay) (kl : Nat) (gl : Nat → List D) (seen : Sn) (y : It) (ln : Int) (ws : D) (bl : Bool) (kd' : D),
      l.length ≤ 900 ∧ a = (((), (ln, ws, bl, kd', ()), (), (), ()), (s0, l.length, kb, kc, kd, (), nd, ()), (l.length, fun i => busC (l.getD i e0)), (kb, gb), (kc, gc), (kd, gd), mpa, (b.name, b.kind, b.off, b.fin, b.zr, b.zx, kl, b.closed, b.ct, b.vt, b.sat, b.travel, ()), (kl, gl), seen, ()) ∧ tsN a = l ∧ tsY a = y ∧ GoodS l kl seen y ∧ Ale (.agg ([dI ln, ws, dB bl, kd'].map .d)) (aIt y) ∧ tsB a = { b with links := [] } := by
    intro a h
    unfold okS6 at h
    simp only [Bool.and_eq_true] at h
    obtain ⟨h1, h2, h3, h4, h5, h6, h7, h8⟩ := h
    obtain ⟨l, l1, l2, l3⟩ := okC_iff h2
    replace h3 := Nat.eq_of_beq_eq_true h3
    replace h4 := Nat.eq_of_beq_eq_true h4
    replace h5 := Nat.eq_of_beq_eq_true h5
    replace h6 := Nat.eq_of_beq_eq_true h6
    replace h7 := Nat.eq_of_beq_eq_true h7
    have hN : tsN a = l := by
      unfold tsN
      rw [l1, l3]
      exact theC_can busC_inj l
    have hA := arg_le h1
    have hG : GoodS (tsN a) a.2.2.2.2.2.2.2.2.1.1 a.2.2.2.2.2.2.2.2.2.1 (tsY a) := by
      unfold tsG at h8
      simpa only [decide_eq_true_eq] using h8
    rw [hN] at hG
    obtain ⟨⟨⟨⟩, ⟨ln, ws, bl, kd', ⟨⟩⟩, ⟨⟩, ⟨⟩, ⟨⟩⟩, ⟨s0, ka', kb', kc', kd2, ⟨⟩, nd, ⟨⟩⟩, ⟨ka, ga⟩, ⟨kb, gb⟩, ⟨kc, gc⟩, ⟨kd, gd⟩, mpa, ⟨nm, ki, off, fi, zr, zx, n8', cl, ct, vt, sa, tr, ⟨⟩⟩, ⟨n8, f8⟩, seen, ⟨⟩⟩ := a
    replace l1 : ka = l.length := l1
    replace l3 : ga = fun i => busC (l.getD i e0) := l3
    replace h3 : ka' = ka := h3
    replace h4 : kb' = kb := h4
    replace h5 : kc' = kc := h5
    replace h6 : kd2 = kd := h6
    replace h7 : n8' = n8 := h7
    subst h3 h4 h5 h6 h7 l1 l3
    exact ⟨l, s0, l.length, kb', kc', kd2, nd, gb, gc, gd, mpa, ⟨nm, ki, off, fi, zr, zx, [], cl, ct, vt, sa, tr⟩, n8', f8, seen, _, ln, ws, bl, kd', l2, rfl, hN, rfl, hG, hA, rfl⟩
  refine .b (fun a ha hb => ?_) (fun a ha hb => ?_)
  · obtain ⟨l, s0, ka, kb, kc, kd, nd, gb, gc, gd, mpa, b, kl, gl, seen, y, ln, ws, bl, kd', h9, hae, hN, hY, hG, hA, hB⟩ := key a ha
    unfold selS at hb
    rw [hY] at hb
    have hb := same_iff.1 hb
    have ec : clS a = b.closed ∧ ctS a = b.ct ∧ vtS a = b.vt ∧ saS a = b.sat ∧ trS a = b.travel := by
      unfold clS ctS vtS saS trS
      rw [hY, hB]
      have : setB y { b with links := [] } = { b with links := [] } := by
        rcases hG with ⟨t, _, ⟨rfl, _⟩ | ⟨rfl, _⟩ | ⟨rfl, _⟩ | ⟨rfl, _⟩⟩ | ⟨rfl, _⟩ | ⟨t, rfl | rfl, _⟩
        · exact absurd hb (show tCt ≠ tSelect by decide)
        · exact absurd hb (show tVt ≠ tSelect by decide)
        · exact absurd hb (show tSat ≠ tSelect by decide)
        · exact absurd hb (show tTravel ≠ tSelect by decide)
        · exact absurd hb (show tBreaker ≠ tSelect by decide)
        · exact setB_sel _ _ _
        · exact setB_sel _ _ _
      rw [this]
      exact ⟨rfl, rfl, rfl, rfl, rfl⟩
    have eg : glS a = appF kl gl (chunk (linkC (setL l y)) 2) := by
      unfold glS
      rw [hY, hN, hae]
    have hmem : hS1 clS ctS vtS saS trS glS a = HS' s0 l.length (fun i => busC (l.getD i e0)) kb gb kc gc kd gd mpa nd b kl seen (appF kl gl (chunk (linkC (setL l y)) 2)) := by
      unfold hS1
      rw [ec.1, ec.2.1, ec.2.2.1, ec.2.2.2.1, ec.2.2.2.2, eg, hae]
    rw [hmem, hae]
    rcases hG with ⟨t, _, ⟨rfl, _⟩ | ⟨rfl, _⟩ | ⟨rfl, _⟩ | ⟨rfl, _⟩⟩ | ⟨rfl, _⟩ | ⟨t, rfl | rfl, hi, hk⟩
    · exact absurd hb (show tCt ≠ tSelect by decide)
    · exact absurd hb (show tVt ≠ tSelect by decide)
    · exact absurd hb (show tSat ≠ tSelect by decide)
    · exact absurd hb (show tTravel ≠ tSelect by decide)
    · exact absurd hb (show tBreaker ≠ tSelect by decide)
    · have e : linkC (setL l (say [tSelect, t, tClosed])) = [dI (idxS id t l 0), dI 1] := by
        unfold setL linkC
        show [dI (idxS id t l 0), dI (bif same tClosed tClosed then 1 else 0)] = _
        rw [sre]; rfl
      rw [e]
      exact (gsel1 t s0 kb gb kc gc kd gd mpa nd b kl gl seen l h9 hk hi).ge (.cons (.refl _) (.cons hA (.cons (.refl _) (.cons (.refl _) .nil)))) (.refl _)
    · have e : linkC (setL l (say [tSelect, t, tOpen])) = [dI (idxS id t l 0), dI 0] := by
        unfold setL linkC
        show [dI (idxS id t l 0), dI (bif same tOpen tClosed then 1 else 0)] = _
        rw [sne (show tOpen ≠ tClosed by decide)]; rfl
      rw [e]
      exact (gsel0 t s0 kb gb kc gc kd gd mpa nd b kl gl seen l h9 hk hi).ge (.cons (.refl _) (.cons hA (.cons (.refl _) (.cons (.refl _) .nil)))) (.refl _)
  · obtain ⟨l, s0, ka, kb, kc, kd, nd, gb, gc, gd, mpa, b, kl, gl, seen, y, ln, ws, bl, kd', h9, hae, hN, hY, hG, hA, hB⟩ := key a ha
    unfold selS at hb
    rw [hY] at hb
    have hmem : hS2 clS ctS vtS saS trS a = HS s0 l.length (fun i => busC (l.getD i e0)) kb gb kc gc kd gd mpa nd { b with closed := (setB y { b with links := [] }).closed, ct := (setB y { b with links := [] }).ct, vt := (setB y { b with links := [] }).vt, sat := (setB y { b with links := [] }).sat, travel := (setB y { b with links := [] }).travel } kl gl seen := by
      have e1 : clS a = (setB y { b with links := [] }).closed := by unfold clS; rw [hY, hB]
      have e2 : ctS a = (setB y { b with links := [] }).ct := by unfold ctS; rw [hY, hB]
      have e3 : vtS a = (setB y { b with links := [] }).vt := by unfold vtS; rw [hY, hB]
      have e4 : saS a = (setB y { b with links := [] }).sat := by unfold saS; rw [hY, hB]
      have e5 : trS a = (setB y { b with links := [] }).travel := by unfold trS; rw [hY, hB]
      unfold hS2
      rw [e1, e2, e3, e4, e5, hae]
    rw [hmem, hae]
    have hg : ∀ {x : List AV} {K : Hp}, CX Tryd.prog 80 (argS y) (HS s0 l.length (fun i => busC (l.getD i e0)) kb gb kc gc kd gd mpa nd b kl gl seen) (vI 0) K → CX Tryd.prog 80 [.c (.ptr 0 0), .agg ([dI ln, ws, dB bl, kd'].map .d), .c (.ptr 6 0), .c (.mp 8)] (HS s0 l.length (fun i => busC (l.getD i e0)) kb gb kc gc kd gd mpa nd b kl gl seen) (vI 0) K :=
      fun h => h.ge (.cons (.refl _) (.cons hA (.cons (.refl _) (.cons (.refl _) .nil)))) (.refl _)
    rcases hG with ⟨t, hn, ⟨rfl, hf⟩ | ⟨rfl, hf⟩ | ⟨rfl, hf⟩ | ⟨rfl, hf⟩⟩ | ⟨rfl, hf⟩ | ⟨t, rfl | rfl, hi, hk⟩
    · rw [setB_ct]
      exact hg (x := []) (gct t s0 l.length _ kb gb kc gc kd gd mpa nd b kl gl seen hn hf)
    · rw [setB_vt]
      exact hg (x := []) (gvt t s0 l.length _ kb gb kc gc kd gd mpa nd b kl gl seen hn hf)
    · rw [setB_sa]
      exact hg (x := []) (gsa t s0 l.length _ kb gb kc gc kd gd mpa nd b kl gl seen hn hf)
    · rw [setB_tr]
      exact hg (x := []) (gtr t s0 l.length _ kb gb kc gc kd gd mpa nd b kl gl seen hn hf)
    · rw [setB_br]
      exact hg (x := []) (gbr s0 l.length _ kb gb kc gc kd gd mpa nd b kl gl seen hf)
    · exact absurd (show same tSelect tSelect = true from sre _) (by rw [show same tSelect tSelect = false from hb]; decide)
    · exact absurd (show same tSelect tSelect = true from sre _) (by rw [show same tSelect tSelect = false from hb]; decide)
end Go.Proofs.YthmapnolgdpkbaaDoor.de
namespace Go.Proofs.YthmapnolgdpkbaaDoor.de
open Go.RowKit Go.Eb Go.Proofs.YthmapnolgdpkbaaDoor.st
set_option maxRecDepth 100000
open Go.Proofs.YthmapnolgdpkbaaDoor.wd (numS rN c11)

noncomputable def okY (r : RIt) : Bool := @decide (DEs (icells (theIt r)) [dI r.1, r.2.1, dB r.2.2.1, r.2.2.2.1]) (Classical.propDecidable _) && (okI (ydOf r) && decide (3 < (theIt r).words.length))
theorem okY_iff {r : RIt} (h : okY r = true) : DEs (icells (theIt r)) [dI r.1, r.2.1, dB r.2.2.1, r.2.2.2.1] ∧ DEs [dI r.1, r.2.1, dB r.2.2.1, r.2.2.2.1] (icells (theIt r)) ∧ 3 < (theIt r).words.length := by
  unfold okY at h
  simp only [Bool.and_eq_true, decide_eq_true_eq] at h
  exact ⟨h.1, theIt_le h.2.1, h.2.2⟩
theorem Csle.ofD {a b : List D} (h : DEs a b) : Csle (a.map .d) (b.map .d) := by
  refine ⟨by simpa using h.1, fun j p q h1 h2 => ?_⟩
  rw [List.getElem?_map] at h1 h2
  cases e1 : a[j]? with
  | none => rw [e1] at h1; cases h1
  | some a' =>
    cases e2 : b[j]? with
    | none => rw [e2] at h2; cases h2
    | some b' =>
      rw [e1] at h1; rw [e2] at h2
      cases h1; cases h2
      exact h.2 j a' b' e1 e2
abbrev AY := (Unit × RBay × Unit) × AD
noncomputable def zB : KB where
  ok6 := okS6
  sel := selS
  cl := clS
  ct := ctS
  vt := vtS
  sa := saS
  tr := trS
  gl := glS
  okf := okG enF cF
  fn := fun x => (rFm x).1.length
  fv := fun x i => (rFm x).1.getD i 0
  fo := fun x => (rFm x).2
  ol := fun a => okC lineC line0 a.2.1.1 a.2.1.2 && (Nat.beq a.1.1 a.2.1.1 && okY a.2.2.1)
  il := fun a => idxS SLine.name (tx (theIt a.2.2.1) 3) (theC lineC line0 5 a.2.1.1 a.2.1.2) 0
  os := fun a => okC srcC' src0 a.2.1.1 a.2.1.2 && (Nat.beq a.1.1 a.2.1.1 && okY a.2.2.1)
  is := fun a => idxS SSrc.name (tx (theIt a.2.2.1) 3) (theC srcC' src0 6 a.2.1.1 a.2.1.2) 0
  oy := fun a => okRB a.1.2.1 && (eqs a.2 && (okC bayC bay0 a.2.2.2.2.2.1.1 a.2.2.2.2.2.1.2 && (bayErrD a.2.2.1.1 a.2.2.2.1.1 a.2.2.2.2.1.1 (boolOf (assoc a.2.2.2.2.2.2.1 (.string (rbay a.1.2.1).name))) (theC bayC bay0 12 a.2.2.2.2.2.1.1 a.2.2.2.2.2.1.2) (rbay a.1.2.1) == 0)))
  my := fun a => (.string (rbay a.1.2.1).name, .bool true) :: a.2.2.2.2.2.2.1
  gy := fun a => appF a.2.2.2.2.2.1.1 a.2.2.2.2.2.1.2 (chunk (bayC (rbay a.1.2.1)) 12)
theorem Hle2 {n sz : Nat} {t ty : TypeId} {f : Nat → List D} {a b : List D} (h : DEs a b) : Hle [(0, .row n f sz t), (1, .cells (a.map .d) ty)] [(0, .row n f sz t), (1, .cells (b.map .d) ty)] := .cons (.refl _) (.cons ⟨rfl, Csle.ofD h⟩ .nil)
theorem sHd : OrcS Tryd.prog (oHd zB) := sFm (.cons (.d fun a h => by
  obtain ⟨⟨nk, ⟨⟩, ⟨⟩⟩, ⟨n, f⟩, r, ⟨⟩⟩ := a
  replace h : (okC lineC line0 n f && (Nat.beq nk n && okY r)) = true := h
  simp only [Bool.and_eq_true] at h
  obtain ⟨h1, h2, h3⟩ := h
  obtain ⟨l, l1, l2, l3⟩ := okC_iff h1
  replace h2 := Nat.eq_of_beq_eq_true h2
  obtain ⟨y1, y2, y3⟩ := okY_iff h3
  subst h2 l3
  obtain rfl : nk = l.length := l1
  have e : zB.il ((l.length, (), ()), (l.length, fun i => lineC (l.getD i line0)), r, ()) = idxS SLine.name (tx (theIt r) 3) l 0 := by
    show idxS SLine.name (tx (theIt r) 3) (theC lineC line0 5 l.length fun i => lineC (l.getD i line0)) 0 = _
    rw [theC_can lineC_inj]
  show CX _ _ _ _ (vI (zB.il ((l.length, (), ()), (l.length, fun i => lineC (l.getD i line0)), r, ()))) _
  rw [e]
  exact ((cixl l (theIt r) l2 y3).ge (.refl _) (Hle2 y2)).le (.refl _) (Hle2 y1)) (.cons (.d fun a h => by
  obtain ⟨⟨nk, ⟨⟩, ⟨⟩⟩, ⟨n, f⟩, r, ⟨⟩⟩ := a
  replace h : (okC srcC' src0 n f && (Nat.beq nk n && okY r)) = true := h
  simp only [Bool.and_eq_true] at h
  obtain ⟨h1, h2, h3⟩ := h
  obtain ⟨l, l1, l2, l3⟩ := okC_iff h1
  replace h2 := Nat.eq_of_beq_eq_true h2
  obtain ⟨y1, y2, y3⟩ := okY_iff h3
  subst h2 l3
  obtain rfl : nk = l.length := l1
  have e : zB.is ((l.length, (), ()), (l.length, fun i => srcC' (l.getD i src0)), r, ()) = idxS SSrc.name (tx (theIt r) 3) l 0 := by
    show idxS SSrc.name (tx (theIt r) 3) (theC srcC' src0 6 l.length fun i => srcC' (l.getD i src0)) 0 = _
    rw [theC_can srcC_inj]
  show CX _ _ _ _ (vI (zB.is ((l.length, (), ()), (l.length, fun i => srcC' (l.getD i src0)), r, ()))) _
  rw [e]
  exact ((cixs l (theIt r) l2 y3).ge (.refl _) (Hle2 y2)).le (.refl _) (Hle2 y1)) .nil))
theorem sRb : OrcS Tryd.prog (oRb zB) := .cons (.inl sHd Tryd.func79 (by kernel_rfl)) (.cons s75 (.cons (.d fun a h => by
  replace h : (okRB a.1.2.1 && (eqs a.2 && (okC bayC bay0 a.2.2.2.2.2.1.1 a.2.2.2.2.2.1.2 && (bayErrD a.2.2.1.1 a.2.2.2.1.1 a.2.2.2.2.1.1 (boolOf (assoc a.2.2.2.2.2.2.1 (.string (rbay a.1.2.1).name))) (theC bayC bay0 12 a.2.2.2.2.2.1.1 a.2.2.2.2.2.1.2) (rbay a.1.2.1) == 0)))) = true := h
  simp only [Bool.and_eq_true] at h
  obtain ⟨h1, h2, h3, h4⟩ := h
  obtain ⟨bs, l1, l2, l3⟩ := okC_iff h3
  rw [show theC bayC bay0 12 a.2.2.2.2.2.1.1 a.2.2.2.2.2.1.2 = bs by rw [l1, l3]; exact theC_can bayC_inj bs] at h4
  obtain ⟨he, g1, g2, g3, g4⟩ := enc55 a h2
  have hc := e33 (rbay a.1.2.1) a.2.1.1 a.2.2.1.1 a.2.2.1.2 a.2.2.2.1.1 a.2.2.2.1.2 a.2.2.2.2.1.1 a.2.2.2.2.1.2 bs a.2.2.2.2.2.2.1 a.2.1.2.2.2.2.2.2.1 g1 g2 g3 (by omega) (okRB_len h1) (bs.length + 1) (by omega)
  have e0 : bayErrD a.2.2.1.1 a.2.2.2.1.1 a.2.2.2.2.1.1 (boolOf (assoc a.2.2.2.2.2.2.1 (.string (rbay a.1.2.1).name))) bs (rbay a.1.2.1) = 0 := by simpa using h4
  unfold r33 at hc
  rw [e0] at hc
  have hx := (cx_of s33.ok Tryd.func47 b33 rfl hc).ge (.cons (.refl _) (.cons (bay_le _ h1) .nil)) (.refl _)
  have hd : hy zB.my zB.gy a = H33 (rbay a.1.2.1) a.2.1.1 a.2.2.1.1 a.2.2.1.2 a.2.2.2.1.1 a.2.2.2.1.2 a.2.2.2.2.1.1 a.2.2.2.2.1.2 bs a.2.2.2.2.2.2.1 a.2.1.2.2.2.2.2.2.1 := by
    have e1 : zB.gy a = appF bs.length (cnB bs) (chunk (bayC (rbay a.1.2.1)) 12) := by
      show appF a.2.2.2.2.2.1.1 a.2.2.2.2.2.1.2 _ = _
      rw [l1, l3]
    unfold hy H33
    rw [e1, l1]
    rfl
  rw [hd]
  show CX _ _ _ (dBy.enc a).2 _ _
  rw [show (dBy.enc a).2 = (d55.enc a).2 from rfl, he, l1, l3]
  exact hx) .nil))
end Go.Proofs.YthmapnolgdpkbaaDoor.de
namespace Go.Proofs.YthmapnolgdpkbaaDoor.de
open Go.RowKit Go.Eb Go.Proofs.YthmapnolgdpkbaaDoor.st
set_option maxRecDepth 100000
open Go.Proofs.YthmapnolgdpkbaaDoor.wd (numS rN c11)

noncomputable def updB (y : It) (b : SBay) : SBay := { b with closed := (setB y { b with links := [] }).closed, ct := (setB y { b with links := [] }).ct, vt := (setB y { b with links := [] }).vt, sat := (setB y { b with links := [] }).sat, travel := (setB y { b with links := [] }).travel }
noncomputable def stepB (bs : List ByteArray) (y : It) (b : SBay) : SBay := bif same (hd y) tSelect then { updB y b with links := b.links ++ [setL bs y] } else updB y b
noncomputable def kidsR (bs : List ByteArray) : List It → SBay → SBay
  | [], b => b
  | y :: r, b => kidsR bs r (stepB bs y b)
def seenR : List It → Sn → Sn
  | [], s => s
  | y :: r, s => seenR r ((.string (hd y), .bool true) :: s)
noncomputable def GoodK (bs : List ByteArray) : List It → Nat → Sn → Prop
  | [], _, _ => True
  | y :: r, n, s => GoodS bs n s y ∧ GoodK bs r (bif same (hd y) tSelect then n + 1 else n) ((.string (hd y), .bool true) :: s)
theorem good_len {bs : List ByteArray} {n : Nat} {s : Sn} {y : It} (h : GoodS bs n s y) : decide ((0 : Int) < (y.words.length : Int)) = true := by
  have : 0 < y.words.length := by
    rcases h with ⟨t, _, ⟨rfl, _⟩ | ⟨rfl, _⟩ | ⟨rfl, _⟩ | ⟨rfl, _⟩⟩ | ⟨rfl, _⟩ | ⟨t, rfl | rfl, _⟩ <;> exact Nat.succ_pos _
  exact decide_eq_true (by omega)

section
variable (x : It) (s0 : ByteArray) (nl : List ByteArray) (ll : List SLine) (sl : List SSrc) (yl : List SBay) (mpa : Sn) (nd : Bool)
abbrev rB (l : List ByteArray) : Nat → List D := fun i => busC (l.getD i e0)
abbrev rL (l : List SLine) : Nat → List D := fun i => lineC (l.getD i line0)
abbrev rS (l : List SSrc) : Nat → List D := fun i => srcC' (l.getD i src0)
abbrev tup (y : It) (n : Nat) (f : Nat → List D) (sn : Sn) (b : SBay) : TS := (((), (It.line y, wordsD (It.words y), It.block y, kidsD y, ()), (), (), ()), (s0, nl.length, ll.length, sl.length, yl.length, (), nd, ()), (nl.length, rB nl), (ll.length, rL ll), (sl.length, rS sl), (yl.length, cnB yl), mpa, (b.name, b.kind, b.off, b.fin, b.zr, b.zx, n, b.closed, b.ct, b.vt, b.sat, b.travel, ()), (n, f), sn, ())
theorem tsY_tup (y : It) (n : Nat) (f : Nat → List D) (sn : Sn) (b : SBay) : tsY (tup s0 nl ll sl yl mpa nd y n f sn b) = y := (theIt_it y).2
theorem tsN_tup (y : It) (n : Nat) (f : Nat → List D) (sn : Sn) (b : SBay) : tsN (tup s0 nl ll sl yl mpa nd y n f sn b) = nl := theC_can busC_inj nl
theorem tsB_tup (y : It) (n : Nat) (f : Nat → List D) (sn : Sn) (b : SBay) : tsB (tup s0 nl ll sl yl mpa nd y n f sn b) = { b with links := [] } := rfl
theorem hok6 (y : It) (n : Nat) (f : Nat → List D) (sn : Sn) (b : SBay) (h9 : nl.length ≤ 900) (hg : GoodS nl n sn y) : KB.ok6 zB (tup s0 nl ll sl yl mpa nd y n f sn b) = true := by
  have hG : tsG (tup s0 nl ll sl yl mpa nd y n f sn b) = true := by
    unfold tsG
    rw [tsY_tup, tsN_tup]
    simp only [decide_eq_true_eq]
    exact hg
  show okS6 (tup s0 nl ll sl yl mpa nd y n f sn b) = true
  unfold okS6
  rw [hG]
  show (okI (ydOf (It.line y, wordsD (It.words y), It.block y, kidsD y, ())) && (okC busC e0 nl.length (rB nl) && (Nat.beq nl.length nl.length && (Nat.beq ll.length ll.length && (Nat.beq sl.length sl.length && (Nat.beq yl.length yl.length && (Nat.beq n n && true))))))) = true
  rw [(theIt_it y).1, okC_can h9]
  simp only [Nat.beq_refl, Bool.and_true]
theorem hsel6 (y : It) (n : Nat) (f : Nat → List D) (sn : Sn) (b : SBay) : KB.sel zB (tup s0 nl ll sl yl mpa nd y n f sn b) = same (hd y) tSelect := by
  show same (hd (tsY (tup s0 nl ll sl yl mpa nd y n f sn b))) tSelect = _
  rw [tsY_tup]
theorem hgl6 (y : It) (n : Nat) (f : Nat → List D) (sn : Sn) (b : SBay) : KB.gl zB (tup s0 nl ll sl yl mpa nd y n f sn b) = appF n f (chunk (linkC (setL nl y)) 2) := by
  show appF n f (chunk (linkC (setL (tsN (tup s0 nl ll sl yl mpa nd y n f sn b)) (tsY (tup s0 nl ll sl yl mpa nd y n f sn b)))) 2) = _
  rw [tsY_tup, tsN_tup]
theorem hcl6 (y : It) (n : Nat) (f : Nat → List D) (sn : Sn) (b : SBay) : KB.cl zB (tup s0 nl ll sl yl mpa nd y n f sn b) = (updB y b).closed := by
  show (setB (tsY (tup s0 nl ll sl yl mpa nd y n f sn b)) (tsB (tup s0 nl ll sl yl mpa nd y n f sn b))).closed = _
  rw [tsY_tup, tsB_tup]; rfl
theorem hct6 (y : It) (n : Nat) (f : Nat → List D) (sn : Sn) (b : SBay) : KB.ct zB (tup s0 nl ll sl yl mpa nd y n f sn b) = (updB y b).ct := by
  show (setB (tsY (tup s0 nl ll sl yl mpa nd y n f sn b)) (tsB (tup s0 nl ll sl yl mpa nd y n f sn b))).ct = _
  rw [tsY_tup, tsB_tup]; rfl
theorem hvt6 (y : It) (n : Nat) (f : Nat → List D) (sn : Sn) (b : SBay) : KB.vt zB (tup s0 nl ll sl yl mpa nd y n f sn b) = (updB y b).vt := by
  show (setB (tsY (tup s0 nl ll sl yl mpa nd y n f sn b)) (tsB (tup s0 nl ll sl yl mpa nd y n f sn b))).vt = _
  rw [tsY_tup, tsB_tup]; rfl
theorem hsa6 (y : It) (n : Nat) (f : Nat → List D) (sn : Sn) (b : SBay) : KB.sa zB (tup s0 nl ll sl yl mpa nd y n f sn b) = (updB y b).sat := by
  show (setB (tsY (tup s0 nl ll sl yl mpa nd y n f sn b)) (tsB (tup s0 nl ll sl yl mpa nd y n f sn b))).sat = _
  rw [tsY_tup, tsB_tup]; rfl
theorem htr6 (y : It) (n : Nat) (f : Nat → List D) (sn : Sn) (b : SBay) : KB.tr zB (tup s0 nl ll sl yl mpa nd y n f sn b) = (updB y b).travel := by
  show (setB (tsY (tup s0 nl ll sl yl mpa nd y n f sn b)) (tsB (tup s0 nl ll sl yl mpa nd y n f sn b))).travel = _
  rw [tsY_tup, tsB_tup]; rfl
noncomputable abbrev L6 (g m n : Nat) (f : Nat → List D) (sn : Sn) (k : Int) (b : SBay) := Lrdb_6 zB x s0 nl.length (rB nl) ll.length (rL ll) sl.length (rS sl) yl.length (cnB yl) mpa nd g m n f sn k b.name b.kind b.off b.fin b.zr b.zx b.closed b.ct b.vt b.sat b.travel
noncomputable abbrev G13 (g m : Nat) (sn : Sn) (d : D) (b : SBay) := Lrdb_13 zB x s0 nl.length (rB nl) ll.length (rL ll) sl.length (rS sl) yl.length (cnB yl) mpa nd g m sn b.name b.kind b.off b.fin b.zr b.zx d b.closed b.ct b.vt b.sat b.travel
theorem L6_step (h9 : nl.length ≤ 900) (g m n : Nat) (f : Nat → List D) (sn : Sn) (k : Nat) (b : SBay) (hk : k < x.kids.length) (hl : x.kids.length ≤ 9000) (hg : GoodS nl n sn (x.kids.getD k i0)) :
    L6 x s0 nl ll sl yl mpa nd g (m + 1) n f sn k b = bif same (hd (x.kids.getD k i0)) tSelect then L6 x s0 nl ll sl yl mpa nd g m (n + 1) (appF n f (chunk (linkC (setL nl (x.kids.getD k i0))) 2)) ((.string (hd (x.kids.getD k i0)), .bool true) :: sn) ((k + 1 : Nat) : Int) (updB (x.kids.getD k i0) b)
      else L6 x s0 nl ll sl yl mpa nd g m n f ((.string (hd (x.kids.getD k i0)), .bool true) :: sn) ((k + 1 : Nat) : Int) (updB (x.kids.getD k i0) b) := by
  unfold L6
  rw [strdb_6]
  have e0 : Int.toNat (0 : Int) = 0 := rfl
  have e1 : decide ((0 : Int) ≤ 0) = true := rfl
  simp -implicitDefEqProofs only [lt1 hk, ge0, tn, tt, cond_true, nx hk (show x.kids.length ≤ 9223372036854775807 by omega), e0, e1]
  generalize x.kids.getD k i0 = y at hg
  rw [hok6 s0 nl ll sl yl mpa nd y n f sn b h9 hg, hsel6 s0 nl ll sl yl mpa nd y n f sn b, hgl6 s0 nl ll sl yl mpa nd y n f sn b, hcl6 s0 nl ll sl yl mpa nd y n f sn b, hct6 s0 nl ll sl yl mpa nd y n f sn b, hvt6 s0 nl ll sl yl mpa nd y n f sn b, hsa6 s0 nl ll sl yl mpa nd y n f sn b, htr6 s0 nl ll sl yl mpa nd y n f sn b, good_len hg]
  simp -implicitDefEqProofs only [tt, cond_true]
  rfl
theorem L6_end (g m n : Nat) (f : Nat → List D) (sn : Sn) (k : Nat) (b : SBay) (hk : ¬ k < x.kids.length) : L6 x s0 nl ll sl yl mpa nd g (m + 1) n f sn k b = G13 x s0 nl ll sl yl mpa nd g g sn (.sl 2 n f) b := by
  unfold L6
  rw [strdb_6, lt0 hk]
  rfl
theorem lp6 (h9 : nl.length ≤ 900) (hl : x.kids.length ≤ 9000) (g : Nat) : ∀ (r : List It) (m k n : Nat) (f : Nat → List D) (sn : Sn) (b : SBay), x.kids.drop k = r → k ≤ x.kids.length → r.length < m → GoodK nl r n sn → RL linkC link0 n f b.links →
    ∃ n' f', RL linkC link0 n' f' (kidsR nl r b).links ∧ L6 x s0 nl ll sl yl mpa nd g m n f sn k b = G13 x s0 nl ll sl yl mpa nd g g (seenR r sn) (.sl 2 n' f') (kidsR nl r b)
  | [], 0, k, n, f, sn, b, _, _, hm, _, _ => by simp at hm
  | _ :: _, 0, k, n, f, sn, b, _, _, hm, _, _ => by simp at hm
  | [], m + 1, k, n, f, sn, b, hd', hk, hm, _, hr => by
    have : ¬ k < x.kids.length := by
      intro h
      have := congrArg List.length hd'
      rw [List.length_drop] at this
      simp at this
      omega
    exact ⟨n, f, hr, L6_end x s0 nl ll sl yl mpa nd g m n f sn k b this⟩
  | y :: r, m + 1, k, n, f, sn, b, hd', hk, hm, hG, hr => by
    have hlt : k < x.kids.length := by
      have := congrArg List.length hd'
      rw [List.length_drop] at this
      simp at this
      omega
    have hdr := drop_at' (d := i0) hlt
    rw [hd'] at hdr
    obtain ⟨e1, e2⟩ := List.cons.inj hdr
    obtain ⟨g1, g2⟩ := hG
    rw [L6_step x s0 nl ll sl yl mpa nd h9 g m n f sn k b hlt hl (by rw [← e1]; exact g1), ← e1]
    have hm' : r.length < m := by simp at hm; omega
    cases hs : same (hd y) tSelect with
    | true =>
      rw [hs] at g2
      have hst : stepB nl y b = { updB y b with links := b.links ++ [setL nl y] } := by unfold stepB; rw [hs]; rfl
      have := lp6 h9 hl g r m (k + 1) (n + 1) (appF n f (chunk (linkC (setL nl y)) 2)) ((.string (hd y), .bool true) :: sn) (stepB nl y b) e2.symm (by omega) hm' g2 (by rw [hst]; exact hr.app' rfl)
      obtain ⟨n', f', k1, k2⟩ := this
      refine ⟨n', f', k1, Eq.trans ?_ k2⟩
      rw [hst]
      rfl
    | false =>
      rw [hs] at g2
      have hst : stepB nl y b = updB y b := by unfold stepB; rw [hs]; rfl
      have := lp6 h9 hl g r m (k + 1) n f ((.string (hd y), .bool true) :: sn) (stepB nl y b) e2.symm (by omega) hm' g2 (by rw [hst]; exact hr)
      obtain ⟨n', f', k1, k2⟩ := this
      refine ⟨n', f', k1, Eq.trans ?_ k2⟩
      rw [hst]
      rfl
end
end Go.Proofs.YthmapnolgdpkbaaDoor.de
namespace Go.Proofs.YthmapnolgdpkbaaDoor.de
open Go.RowKit Go.Eb Go.Proofs.YthmapnolgdpkbaaDoor.st
set_option maxRecDepth 100000
open Go.Proofs.YthmapnolgdpkbaaDoor.wd (numS rN c11)

def NumDec : Prop := ∀ n : Int, 0 ≤ n → n ≤ 9999999 → numS (dec n) = (n, true)
def nOk (n : Int) : Prop := 0 ≤ n ∧ n ≤ 9999999
theorem NumDec.f (h : NumDec) {n : Int} (k : nOk n) : (numS (dec n)).1 = n := by rw [h n k.1 k.2]
theorem NumDec.s (h : NumDec) {n : Int} (k : nOk n) : (numS (dec n)).2 = true := by rw [h n k.1 k.2]
structure LinkOk (nl : List ByteArray) (l : SLink) : Prop where
  ix : idxS id (nl.getD l.bus.toNat e0) nl 0 = l.bus
  lo : 0 ≤ l.bus
  ps : l.pos = 0 ∨ l.pos = 1

theorem updB_of {y : It} {b : SBay} {c : SBay} (h : setB y { b with links := [] } = { c with links := [] }) (h1 : c.name = b.name) (h2 : c.kind = b.kind) (h3 : c.off = b.off) (h4 : c.fin = b.fin) (h5 : c.zr = b.zr) (h6 : c.zx = b.zx) (h7 : c.links = b.links) : updB y b = c := by
  unfold updB
  rw [h, ← h1, ← h2, ← h3, ← h4, ← h5, ← h6, ← h7]
section
variable (nl : List ByteArray) (t u : ByteArray) (b : SBay)
theorem stepB_ct : stepB nl (say [tCt, t]) b = { b with ct := (numS t).1 } := by
  unfold stepB
  rw [show same (hd (say [tCt, t])) tSelect = false from sne (show tCt ≠ tSelect by decide)]
  exact updB_of (setB_ct _ _) rfl rfl rfl rfl rfl rfl rfl
theorem stepB_vt : stepB nl (say [tVt, t]) b = { b with vt := (numS t).1 } := by
  unfold stepB
  rw [show same (hd (say [tVt, t])) tSelect = false from sne (show tVt ≠ tSelect by decide)]
  exact updB_of (setB_vt _ _) rfl rfl rfl rfl rfl rfl rfl
theorem stepB_sa : stepB nl (say [tSat, t]) b = { b with sat := (numS t).1 } := by
  unfold stepB
  rw [show same (hd (say [tSat, t])) tSelect = false from sne (show tSat ≠ tSelect by decide)]
  exact updB_of (setB_sa _ _) rfl rfl rfl rfl rfl rfl rfl
theorem stepB_tr : stepB nl (say [tTravel, t]) b = { b with travel := (numS t).1 } := by
  unfold stepB
  rw [show same (hd (say [tTravel, t])) tSelect = false from sne (show tTravel ≠ tSelect by decide)]
  exact updB_of (setB_tr _ _) rfl rfl rfl rfl rfl rfl rfl
theorem stepB_br : stepB nl (say [tBreaker, tOpen]) b = { b with closed := false } := by
  unfold stepB
  rw [show same (hd (say [tBreaker, tOpen])) tSelect = false from sne (show tBreaker ≠ tSelect by decide)]
  exact updB_of (setB_br _) rfl rfl rfl rfl rfl rfl rfl
theorem stepB_sel {l : SLink} (h : LinkOk nl l) : stepB nl (encSel nl l) b = { b with links := b.links ++ [l] } := by
  unfold stepB
  rw [show same (hd (encSel nl l)) tSelect = true from sre _]
  have e1 : updB (encSel nl l) b = b := updB_of (setB_sel _ _ _) rfl rfl rfl rfl rfl rfl rfl
  have e2 : setL nl (encSel nl l) = l := by
    unfold setL
    show (⟨idxS id (nl.getD l.bus.toNat e0) nl 0, bif same (bif l.pos == 1 then tClosed else tOpen) tClosed then 1 else 0⟩ : SLink) = l
    rw [h.ix]
    rcases h.ps with e | e
    · rw [e, show ((0 : Int) == 1) = false from rfl, cond_false, sne (show tOpen ≠ tClosed by decide), cond_false, ← e]
    · rw [e, show ((1 : Int) == 1) = true from rfl, cond_true, sre, cond_true, ← e]
  rw [e1, e2]; rfl
variable {nl t u b} {r : List It} {n : Nat} {s : Sn}
theorem K_ct (h : (numS t).2 = true) (hf : fresh s tCt) (k : GoodK nl r n ((.string tCt, .bool true) :: s)) : GoodK nl (say [tCt, t] :: r) n s := by
  refine ⟨.inl ⟨t, h, .inl ⟨rfl, hf⟩⟩, ?_⟩
  rw [show same (hd (say [tCt, t])) tSelect = false from sne (show tCt ≠ tSelect by decide)]
  exact k
theorem K_vt (h : (numS t).2 = true) (hf : fresh s tVt) (k : GoodK nl r n ((.string tVt, .bool true) :: s)) : GoodK nl (say [tVt, t] :: r) n s := by
  refine ⟨.inl ⟨t, h, .inr (.inl ⟨rfl, hf⟩)⟩, ?_⟩
  rw [show same (hd (say [tVt, t])) tSelect = false from sne (show tVt ≠ tSelect by decide)]
  exact k
theorem K_sa (h : (numS t).2 = true) (hf : fresh s tSat) (k : GoodK nl r n ((.string tSat, .bool true) :: s)) : GoodK nl (say [tSat, t] :: r) n s := by
  refine ⟨.inl ⟨t, h, .inr (.inr (.inl ⟨rfl, hf⟩))⟩, ?_⟩
  rw [show same (hd (say [tSat, t])) tSelect = false from sne (show tSat ≠ tSelect by decide)]
  exact k
theorem K_tr (h : (numS t).2 = true) (hf : fresh s tTravel) (k : GoodK nl r n ((.string tTravel, .bool true) :: s)) : GoodK nl (say [tTravel, t] :: r) n s := by
  refine ⟨.inl ⟨t, h, .inr (.inr (.inr ⟨rfl, hf⟩))⟩, ?_⟩
  rw [show same (hd (say [tTravel, t])) tSelect = false from sne (show tTravel ≠ tSelect by decide)]
  exact k
theorem K_br (hf : fresh s tBreaker) (k : GoodK nl r n ((.string tBreaker, .bool true) :: s)) : GoodK nl (say [tBreaker, tOpen] :: r) n s := by
  refine ⟨.inr (.inl ⟨rfl, hf⟩), ?_⟩
  rw [show same (hd (say [tBreaker, tOpen])) tSelect = false from sne (show tBreaker ≠ tSelect by decide)]
  exact k
theorem K_sel {l : SLink} (h : LinkOk nl l) (hn : n ≤ 5000) (k : GoodK nl r (n + 1) ((.string tSelect, .bool true) :: s)) : GoodK nl (encSel nl l :: r) n s := by
  refine ⟨.inr (.inr ⟨nl.getD l.bus.toNat e0, ?_, ?_, hn⟩), ?_⟩
  · unfold encSel
    cases (l.pos == 1) with
    | true => exact .inl rfl
    | false => exact .inr rfl
  · rw [h.ix]; have := h.lo; simp; omega
  · rw [show same (hd (encSel nl l)) tSelect = true from sre _]
    exact k
end
theorem kids_ok (s : SSta) (b : SBay) (hN : NumDec) (hct : nOk b.ct) (hvt : nOk b.vt) (hsa : nOk b.sat) (htr : nOk b.travel) (hlk : ∀ l ∈ b.links, LinkOk s.buses l) (hll : b.links.length = 1 ∨ b.links.length = 2) (b0 : SBay) (hb0 : b0.links = []) :
    GoodK s.buses (bayK s b) 0 [] ∧ kidsR s.buses (bayK s b) b0 = { b0 with ct := b.ct, vt := bif b.kind != 3 then b.vt else b0.vt, sat := bif b.sat != 0 then b.sat else b0.sat, travel := b.travel, links := b.links, closed := bif !b.closed then false else b0.closed } ∧
      boolOf (assoc (seenR (bayK s b) []) (.string tCt)) = true ∧ boolOf (assoc (seenR (bayK s b) []) (.string tTravel)) = true ∧ boolOf (assoc (seenR (bayK s b) []) (.string tVt)) = (b.kind != 3) := by
  have l12 : (∃ l, b.links = [l] ∧ LinkOk s.buses l) ∨ (∃ l k, b.links = [l, k] ∧ LinkOk s.buses l ∧ LinkOk s.buses k) := by
    rcases hll with h | h
    · obtain ⟨l, e⟩ := List.length_eq_one_iff.1 h
      exact .inl ⟨l, e, hlk l (by rw [e]; simp)⟩
    · obtain ⟨l, k, e⟩ : ∃ l k, b.links = [l, k] := by
        match hb : b.links, h with
        | [l, k], _ => exact ⟨l, k, rfl⟩
      exact .inr ⟨l, k, e, hlk l (by rw [e]; simp), hlk k (by rw [e]; simp)⟩
  unfold bayK
  rcases l12 with ⟨l, e, h1⟩ | ⟨l, k, e, h1, h2⟩ <;> rw [e] <;> cases (b.kind != 3) <;> cases (b.sat != 0) <;> cases b.closed <;>
    refine ⟨?_, ?_, rfl, rfl, rfl⟩ <;>
    simp only [cond_true, cond_false, Bool.not_true, Bool.not_false, List.singleton_append, List.cons_append, List.nil_append, List.append_nil, List.map_cons, List.map_nil, kidsR, stepB_ct, stepB_vt, stepB_sa, stepB_tr, stepB_br, stepB_sel _ _ h1, hb0, hN.f hct, hN.f hvt, hN.f hsa, hN.f htr] <;>
    first
    | rfl
    | (simp only [stepB_sel _ _ h2, List.cons_append, List.nil_append]; done)
    | (repeat (first | exact True.intro | refine K_ct (hN.s hct) rfl ?_ | refine K_vt (hN.s hvt) rfl ?_ | refine K_sa (hN.s hsa) rfl ?_ | refine K_tr (hN.s htr) rfl ?_ | refine K_sel h1 (by omega) ?_ | refine K_sel h2 (by omega) ?_ | refine K_br rfl ?_))
end Go.Proofs.YthmapnolgdpkbaaDoor.de
namespace Go.Proofs.YthmapnolgdpkbaaDoor.de
open Go.RowKit Go.Eb Go.Proofs.YthmapnolgdpkbaaDoor.st Go.Proofs.YthmapnolgdpkbaaDoor.wd
set_option maxRecDepth 100000

theorem bs_app (a b : ByteArray) : bs (a ++ b) = bs a ++ bs b := by simp [bs]
theorem val_app (a b : List UInt8) (n : Int) : val (a ++ b) n = val b (val a n) := by
  induction a generalizing n with
  | nil => rfl
  | cons c r ih => exact ih _
theorem u8 {n : Nat} (h : n < 10) : (UInt8.ofNat (48 + n)).toNat = 48 + n := by
  rw [UInt8.toNat_ofNat']; omega
theorem bs1 {n : Nat} (h : n < 10) : bs (decB n) = [UInt8.ofNat (48 + n)] := by rw [decB_lt h]
theorem decB_facts (n : Nat) : digs (bs (decB n)) = true ∧ val (bs (decB n)) 0 = n ∧ (∃ c r, bs (decB n) = c :: r ∧ 48 ≤ c.toNat ∧ (0 < n → c.toNat ≠ 48)) := by
  induction n using Nat.strongRecOn with
  | ind n ih =>
    by_cases h : n < 10
    · rw [bs1 h]
      refine ⟨?_, ?_, _, [], rfl, by rw [u8 h]; omega, fun h0 => by rw [u8 h]; omega⟩
      · show (digit ((UInt8.ofNat (48 + n)).toNat : Int) && true) = true
        rw [u8 h]
        unfold digit
        simp; omega
      · show (10 * 0 + (((UInt8.ofNat (48 + n)).toNat : Int) - 48)) = _
        rw [u8 h]; omega
    · obtain ⟨h1, h2, c, r, h3, h4, h5⟩ := ih (n / 10) (by omega)
      obtain ⟨k1, k2, _⟩ := ih (n % 10) (by omega)
      have hm : n % 10 < 10 := by omega
      rw [decB_ge h, bs_app]
      refine ⟨?_, ?_, c, r ++ bs (decB (n % 10)), by rw [h3]; rfl, h4, fun _ => h5 (by omega)⟩
      · unfold digs at h1 k1 ⊢
        rw [List.all_append, h1, k1]; rfl
      · rw [val_app, h2, bs1 hm]
        show (10 * ((n / 10 : Nat) : Int) + (((UInt8.ofNat (48 + n % 10)).toNat : Int) - 48)) = _
        rw [u8 hm]; omega
theorem decB_sz (k : Nat) : ∀ n : Nat, n < 10 ^ (k + 1) → (decB n).size ≤ k + 1 := by
  induction k with
  | zero => intro n h; rw [decB_lt (by simpa using h)]; exact Nat.le_refl 1
  | succ k ih =>
    intro n h
    by_cases h10 : n < 10
    · rw [decB_lt h10]; show 1 ≤ _; omega
    · rw [decB_ge h10, ByteArray.size_append, decB_lt (show n % 10 < 10 by omega)]
      have : n / 10 < 10 ^ (k + 1) := by
        rw [Nat.div_lt_iff_lt_mul (by omega), ← Nat.pow_succ]; exact h
      have := ih (n / 10) this
      show (decB (n / 10)).size + 1 ≤ _
      omega
theorem cut_none {d : ByteArray} {c : UInt8} {r : List UInt8} (h : bs d = c :: r) (hc : 48 ≤ c.toNat) : cutP d (ByteArray.mk #[45]) = (d, false) := by
  have : hasP d (ByteArray.mk #[45]) = false := by
    unfold hasP
    rw [strEq, sne (fun e => ?_), Bool.and_false]
    have e2 : (d.extract 0 1).data.toList = [45] := by
      exact congrArg (fun x : ByteArray => x.data.toList) e
    have e3 : (d.extract 0 1).data.toList = (bs d).take 1 := by simp [bs]
    rw [e3, h] at e2
    simp at e2
    rw [e2] at hc
    revert hc
    decide
  unfold cutP
  rw [this]; rfl
theorem numDec : NumDec := fun n h0 h1 => by
  obtain ⟨f1, f2, c, r, f3, f4, f5⟩ := decB_facts n.toNat
  have hs : (decB n.toNat).size ≤ 7 := decB_sz 6 n.toNat (by omega)
  have hl : 1 ≤ (decB n.toNat).size := by rw [← bs_len, f3]; simp
  unfold numS dec
  rw [cut_none f3 f4]
  show wd.res (decB n.toNat) false = _
  unfold wd.res
  rw [f1, f2, decide_eq_true hs]
  show fin (decB n.toNat) false (n.toNat : Int) = _
  have hn : ((n.toNat : Nat) : Int) = n := by omega
  rw [hn]
  unfold fin
  have e0 : ((decB n.toNat).toList == (ByteArray.mk #[]).toList) = false := by
    rw [strEq]
    exact sne fun e => by rw [e] at hl; exact absurd hl (by decide)
  have ec : (bs (decB n.toNat)).getD 0 0 = c := by rw [f3]; rfl
  rw [e0, ec]
  cases h48 : (c.toNat == 48) with
  | false => rfl
  | true =>
    have : c.toNat = 48 := by simpa using h48
    have hz : n.toNat = 0 := by
      by_cases hp : 0 < n.toNat
      · exact absurd this (f5 hp)
      · omega
    rw [hz, decB_lt (by omega)]
    rfl

theorem idxS_at {α : Type} {nm : α → ByteArray} {d : α} : ∀ (l : List α) (k : Nat) (j : Int), k < l.length → (∀ i, i < k → nm (l.getD i d) ≠ nm (l.getD k d)) → idxS nm (nm (l.getD k d)) l j = j + k
  | [], k, j, h, _ => by simp at h
  | x :: r, 0, j, _, _ => by
    unfold idxS
    rw [List.getD_cons_zero, sre]
    simp
  | x :: r, k + 1, j, h, hd => by
    unfold idxS
    have h0 := hd 0 (by omega)
    rw [List.getD_cons_zero] at h0
    rw [sne h0, cond_false, List.getD_cons_succ, idxS_at r k (j + 1) (by simpa using h) (fun i hi => by have := hd (i + 1) (by omega); simpa using this)]
    omega
end Go.Proofs.YthmapnolgdpkbaaDoor.de
namespace Go.Proofs.YthmapnolgdpkbaaDoor.de
open Go.RowKit Go.Eb Go.Proofs.YthmapnolgdpkbaaDoor.st
set_option maxRecDepth 100000
open Go.Proofs.YthmapnolgdpkbaaDoor.wd (numS rN c11)

section
variable (x : It) (s0 : ByteArray) (nl : List ByteArray) (ll : List SLine) (sl : List SSrc) (yl : List SBay) (mpa : Sn) (nd : Bool) (b : SBay)
abbrev rbR (b : SBay) (d : D) : RBay := (b.name, b.kind, b.off, b.fin, b.zr, b.zx, d, b.closed, b.ct, b.vt, b.sat, b.travel, ())
theorem rbay_rbR {b : SBay} {n : Nat} {f : Nat → List D} (h : RL linkC link0 n f b.links) : rbay (rbR b (.sl 2 n f)) = b := by
  have := (h.the (sz := 2) linkC_inj).2
  show (⟨b.name, b.kind, b.off, b.fin, b.zr, b.zx, theE linksD (.sl 2 n f), b.closed, b.ct, b.vt, b.sat, b.travel⟩ : SBay) = b
  rw [show theE linksD (.sl 2 n f) = b.links from this]
theorem okRB_rbR {b : SBay} {n : Nat} {f : Nat → List D} (h : RL linkC link0 n f b.links) (hl : b.links.length ≤ 5000) : okRB (rbR b (.sl 2 n f)) = true := by
  have h1 := (h.the (sz := 2) linkC_inj)
  show okLk (.sl 2 n f) = true
  unfold okLk
  rw [show okE linksD (.sl 2 n f) = true from h1.1, show theE linksD (.sl 2 n f) = b.links from h1.2, decide_eq_true (by omega)]
  rfl
abbrev tyb (d : D) : AY := (((), rbR b d, ()), (s0, nl.length, ll.length, sl.length, yl.length, (), nd, ()), (nl.length, rB nl), (ll.length, rL ll), (sl.length, rS sl), (yl.length, cnB yl), mpa, ())
theorem hoy {n : Nat} {f : Nat → List D} (hr : RL linkC link0 n f b.links) (hb : b.links.length ≤ 5000) (h1 : nl.length ≤ 900) (h2 : ll.length ≤ 900) (h3 : sl.length ≤ 900) (h4 : yl.length ≤ 900) (he : bayErrD nl.length ll.length sl.length (boolOf (assoc mpa (.string b.name))) yl b = 0) : KB.oy zB (tyb s0 nl ll sl yl mpa nd b (.sl 2 n f)) = true := by
  have e2 : eqs (tyb s0 nl ll sl yl mpa nd b (.sl 2 n f)).2 = true := by
    unfold eqs
    simp only [Nat.beq_refl, Bool.true_and, bleD, decide_eq_true h1, decide_eq_true h2, decide_eq_true h3, decide_eq_true h4]
  show (okRB (rbR b (.sl 2 n f)) && (eqs (tyb s0 nl ll sl yl mpa nd b (.sl 2 n f)).2 && (okC bayC bay0 yl.length (cnB yl) && (bayErrD nl.length ll.length sl.length (boolOf (assoc mpa (.string (rbay (rbR b (.sl 2 n f))).name))) (theC bayC bay0 12 yl.length (cnB yl)) (rbay (rbR b (.sl 2 n f))) == 0)))) = true
  rw [okRB_rbR hr hb, e2, okC_can h4, rbay_rbR hr, theC_can bayC_inj, he]
  rfl
theorem hgy {n : Nat} {f : Nat → List D} (hr : RL linkC link0 n f b.links) : KB.gy zB (tyb s0 nl ll sl yl mpa nd b (.sl 2 n f)) = appF yl.length (cnB yl) (chunk (bayC b) 12) := by
  show appF yl.length (cnB yl) (chunk (bayC (rbay (rbR b (.sl 2 n f)))) 12) = _
  rw [rbay_rbR hr]
theorem hmy {n : Nat} {f : Nat → List D} (hr : RL linkC link0 n f b.links) : KB.my zB (tyb s0 nl ll sl yl mpa nd b (.sl 2 n f)) = (.string b.name, .bool true) :: mpa := by
  show (Value.string (rbay (rbR b (.sl 2 n f))).name, Value.bool true) :: mpa = _
  rw [rbay_rbR hr]
def lRb (ln : Int) (H : Hp) : Option (T (AV × Hp)) := some (T.leaf (AV.tup [(false, [C.d (D.v (Value.int IntKind.i64 ln))]), (false, [C.d (D.v (Value.int IntKind.i64 0))])], H))
theorem G13_ok (g m : Nat) (sn : Sn) {n : Nat} {f : Nat → List D} (hr : RL linkC link0 n f b.links) (hb : b.links.length ≤ 5000) (h1 : nl.length ≤ 900) (h2 : ll.length ≤ 900) (h3 : sl.length ≤ 900) (h4 : yl.length < 16) (he : bayErrD nl.length ll.length sl.length (boolOf (assoc mpa (.string b.name))) yl b = 0)
    (hct : boolOf (assoc sn (.string tCt)) = true) (htr : boolOf (assoc sn (.string tTravel)) = true) (hvt : boolOf (assoc sn (.string tVt)) = (b.kind != 3)) :
    G13 x s0 nl ll sl yl mpa nd g (m + 1) sn (.sl 2 n f) b = lRb x.line (H33 b s0 nl.length (rB nl) ll.length (rL ll) sl.length (rS sl) yl mpa nd) := by
  have hct' : boolOf (assoc sn (Value.string (ByteArray.mk #[(99 : UInt8), (116 : UInt8)]))) = true := hct
  have htr' : boolOf (assoc sn (Value.string (ByteArray.mk #[(116 : UInt8), (114 : UInt8), (97 : UInt8), (118 : UInt8), (101 : UInt8), (108 : UInt8)]))) = true := htr
  have hvt' : boolOf (assoc sn (Value.string (ByteArray.mk #[(118 : UInt8), (116 : UInt8)]))) = (b.kind != 3) := hvt
  have h16 : ((yl.length : Int) == (16 : Int)) = false := by
    cases e : ((yl.length : Int) == (16 : Int)) with
    | false => rfl
    | true => have := eq_of_beq e; omega
  unfold G13
  rw [strdb_13, hct', htr', hvt', h16, hoy s0 nl ll sl yl mpa nd b hr hb h1 h2 h3 (by omega) he, hgy s0 nl ll sl yl mpa nd b hr, hmy s0 nl ll sl yl mpa nd b hr]
  cases (b.kind != 3) <;> rfl
end

/-! the head's facts -/
theorem asleK (x : It) (ks : ByteArray) (b : Bool) : Asle [AV.agg [C.d (D.v (Value.int IntKind.i64 (It.line x))), C.d (listD 2 wcells w0 (It.words x)), C.d (D.v (Value.bool (It.block x))), C.d (listD 4 icells i0 (It.kids x))], AV.c (C.d (D.v (Value.string ks))), AV.c (C.d (D.v (Value.bool b)))] (enF (x, ks, b)) ∧ Asle (enF (x, ks, b)) [AV.agg [C.d (D.v (Value.int IntKind.i64 (It.line x))), C.d (listD 2 wcells w0 (It.words x)), C.d (D.v (Value.bool (It.block x))), C.d (listD 4 icells i0 (It.kids x))], AV.c (C.d (D.v (Value.string ks))), AV.c (C.d (D.v (Value.bool b)))] := by
  have a1 : DEs [dI x.line, wordsD x.words, dB x.block, itemsD x.kids] (icells x) := .cons (.refl _) (.cons (.refl _) (.cons (.refl _) (.cons (itemsD_de x) .nil)))
  have a2 : DEs (icells x) [dI x.line, wordsD x.words, dB x.block, itemsD x.kids] := .cons (.refl _) (.cons (.refl _) (.cons (.refl _) (.cons (kidsD_de x) .nil)))
  exact ⟨.cons (show Ale (.agg _) (.agg _) from Csle.ofD a1) (.cons (.refl _) (.cons (.refl _) .nil)), .cons (show Ale (.agg _) (.agg _) from Csle.ofD a2) (.cons (.refl _) (.cons (.refl _) .nil))⟩
theorem ko (x : It) (ks : ByteArray) (b : Bool) (h : x.words.length ≤ 2000) : KB.okf zB [AV.agg [C.d (D.v (Value.int IntKind.i64 (It.line x))), C.d (listD 2 wcells w0 (It.words x)), C.d (D.v (Value.bool (It.block x))), C.d (listD 4 icells i0 (It.kids x))], AV.c (C.d (D.v (Value.string ks))), AV.c (C.d (D.v (Value.bool b)))] = true :=
  okG_of enF_inj (asleK x ks b).1 (asleK x ks b).2 (by unfold cF; exact decide_eq_true h)
theorem kr (x : It) (ks : ByteArray) (b : Bool) : rFm [AV.agg [C.d (D.v (Value.int IntKind.i64 (It.line x))), C.d (listD 2 wcells w0 (It.words x)), C.d (D.v (Value.bool (It.block x))), C.d (listD 4 icells i0 (It.kids x))], AV.c (C.d (D.v (Value.string ks))), AV.c (C.d (D.v (Value.bool b)))] = formR x ks b := by
  unfold rFm
  rw [theT_of enF_inj (asleK x ks b).1 (asleK x ks b).2]
theorem kf (x : It) (ks : ByteArray) (b : Bool) : KB.fo zB [AV.agg [C.d (D.v (Value.int IntKind.i64 (It.line x))), C.d (listD 2 wcells w0 (It.words x)), C.d (D.v (Value.bool (It.block x))), C.d (listD 4 icells i0 (It.kids x))], AV.c (C.d (D.v (Value.string ks))), AV.c (C.d (D.v (Value.bool b)))] = (formR x ks b).2 := by rw [← kr]; rfl
theorem kn (x : It) (ks : ByteArray) (b : Bool) : KB.fn zB [AV.agg [C.d (D.v (Value.int IntKind.i64 (It.line x))), C.d (listD 2 wcells w0 (It.words x)), C.d (D.v (Value.bool (It.block x))), C.d (listD 4 icells i0 (It.kids x))], AV.c (C.d (D.v (Value.string ks))), AV.c (C.d (D.v (Value.bool b)))] = (formR x ks b).1.length := by rw [← kr]; rfl
theorem kv (x : It) (ks : ByteArray) (b : Bool) (i : Nat) : KB.fv zB [AV.agg [C.d (D.v (Value.int IntKind.i64 (It.line x))), C.d (listD 2 wcells w0 (It.words x)), C.d (D.v (Value.bool (It.block x))), C.d (listD 4 icells i0 (It.kids x))], AV.c (C.d (D.v (Value.string ks))), AV.c (C.d (D.v (Value.bool b)))] i = (formR x ks b).1.getD i 0 := by rw [← kr]; rfl
theorem okY_it {x : It} (h : 3 < x.words.length) : okY (It.line x, wordsD (It.words x), It.block x, itemsD (It.kids x), ()) = true ∧ theIt (It.line x, wordsD (It.words x), It.block x, itemsD (It.kids x), ()) = x := by
  have a1 : DEs [dI x.line, wordsD x.words, dB x.block, itemsD x.kids] (icells x) := .cons (.refl _) (.cons (.refl _) (.cons (.refl _) (.cons (itemsD_de x) .nil)))
  have a2 : DEs (icells x) [dI x.line, wordsD x.words, dB x.block, itemsD x.kids] := .cons (.refl _) (.cons (.refl _) (.cons (.refl _) (.cons (kidsD_de x) .nil)))
  have := theIt_of (r := (It.line x, wordsD (It.words x), It.block x, itemsD (It.kids x), ())) a1 a2
  refine ⟨?_, this.2⟩
  unfold okY
  rw [this.1, this.2, decide_eq_true h]
  simp only [Bool.and_true, decide_eq_true_eq]
  exact a2
section
variable (x : It) (ll : List SLine) (sl : List SSrc)
theorem hol (h : ll.length ≤ 900) (hw : 3 < x.words.length) : KB.ol zB ((ll.length, (), ()), (ll.length, rL ll), (It.line x, wordsD (It.words x), It.block x, itemsD (It.kids x), ()), ()) = true := by
  show (okC lineC line0 ll.length (rL ll) && (Nat.beq ll.length ll.length && okY (It.line x, wordsD (It.words x), It.block x, itemsD (It.kids x), ()))) = true
  rw [okC_can h, Nat.beq_refl, (okY_it hw).1]; rfl
theorem hil (hw : 3 < x.words.length) : KB.il zB ((ll.length, (), ()), (ll.length, rL ll), (It.line x, wordsD (It.words x), It.block x, itemsD (It.kids x), ()), ()) = idxS SLine.name (tx x 3) ll 0 := by
  show idxS SLine.name (tx (theIt (It.line x, wordsD (It.words x), It.block x, itemsD (It.kids x), ())) 3) (theC lineC line0 5 ll.length (rL ll)) 0 = _
  rw [(okY_it hw).2, theC_can lineC_inj]
theorem hos (h : sl.length ≤ 900) (hw : 3 < x.words.length) : KB.os zB ((sl.length, (), ()), (sl.length, rS sl), (It.line x, wordsD (It.words x), It.block x, itemsD (It.kids x), ()), ()) = true := by
  show (okC srcC' src0 sl.length (rS sl) && (Nat.beq sl.length sl.length && okY (It.line x, wordsD (It.words x), It.block x, itemsD (It.kids x), ()))) = true
  rw [okC_can h, Nat.beq_refl, (okY_it hw).1]; rfl
theorem his (hw : 3 < x.words.length) : KB.is zB ((sl.length, (), ()), (sl.length, rS sl), (It.line x, wordsD (It.words x), It.block x, itemsD (It.kids x), ()), ()) = idxS SSrc.name (tx x 3) sl 0 := by
  show idxS SSrc.name (tx (theIt (It.line x, wordsD (It.words x), It.block x, itemsD (It.kids x), ())) 3) (theC srcC' src0 6 sl.length (rS sl)) 0 = _
  rw [(okY_it hw).2, theC_can srcC_inj]
end
end Go.Proofs.YthmapnolgdpkbaaDoor.de
namespace Go.Proofs.YthmapnolgdpkbaaDoor.de
open Go.RowKit Go.Eb Go.Proofs.YthmapnolgdpkbaaDoor.st
set_option maxRecDepth 100000
open Go.Proofs.YthmapnolgdpkbaaDoor.wd (numS rN c11)

abbrev xB (ws : List ByteArray) (ks : List It) : It := .mk 0 (plainW ws) true ks
theorem form_l (a b c d e : ByteArray) (ks : List It) (h : (numS e).2 = true) : formR (xB [a, b, c, d, e] ks) (ByteArray.mk #[119, 119, 119, 119, 110]) true = ([(numS e).1], true) := by
  have e1 : formS (xB [a, b, c, d, e] ks).words (ByteArray.mk #[119, 119, 119, 119, 110]).data.toList = ([(numS e).1], true) := by
    show (bif !(numS e).2 then (([] : List Int), false) else ([(numS e).1], true)) = _
    rw [h]; rfl
  unfold formR
  rw [e1]; rfl
theorem form_s (a b c d : ByteArray) (ks : List It) : formR (xB [a, b, c, d] ks) (ByteArray.mk #[119, 119, 119, 119]) true = ([], true) := rfl
theorem form_c (a b c d e : ByteArray) (ks : List It) (h : (numS d).2 = true) (k : (numS e).2 = true) : formR (xB [a, b, c, d, e] ks) (ByteArray.mk #[119, 119, 119, 110, 110]) true = ([(numS d).1, (numS e).1], true) := by
  have e1 : formS (xB [a, b, c, d, e] ks).words (ByteArray.mk #[119, 119, 119, 110, 110]).data.toList = ([(numS d).1, (numS e).1], true) := by
    show (bif !(numS d).2 then (([] : List Int), false) else ((numS d).1 :: (bif !(numS e).2 then (([] : List Int), false) else ([(numS e).1], true)).1, (bif !(numS e).2 then (([] : List Int), false) else ([(numS e).1], true)).2)) = _
    rw [h, k]; rfl
  unfold formR
  rw [e1]; rfl
section
variable (s0 : ByteArray) (nl : List ByteArray) (ll : List SLine) (sl : List SSrc) (yl : List SBay) (mpa : Sn) (nd : Bool) (ks : List It) (nm o : ByteArray) (off fi zr zx : Int) (g : Nat)
abbrev HD' : Hp := HD s0 nl.length (rB nl) ll.length (rL ll) sl.length (rS sl) yl.length (cnB yl) mpa nd
theorem b3' {n : Nat} (h : 3 ≤ n) : decide ((n : Int) < 3) = false := by simp; omega
theorem b1' {n : Nat} (h : 3 ≤ n) : decide ((1 : Int) < (n : Int)) = true := by simp; omega
theorem b2' {n : Nat} (h : 3 ≤ n) : decide ((2 : Int) < (n : Int)) = true := by simp; omega
theorem ev_l (hN : NumDec) (hf : nOk fi) (h2 : ll.length ≤ 900) (hi : idxS SLine.name o ll 0 = off) (h0 : 0 ≤ off) :
    callC Tryd.prog (oRb zB) annrdb g Tryd.f62 (bodyOf Tryd.f62) [.c (.ptr 0 0), aItK (xB [tBay', nm, tLine', o, dec fi] ks)] (HD' s0 nl ll sl yl mpa nd) =
      L6 (xB [tBay', nm, tLine', o, dec fi] ks) s0 nl ll sl yl mpa nd g g 0 (fun _ => []) [] 0 ⟨nm, 1, off, fi, 0, 0, [], true, 0, 0, 0, 0⟩ := by
  refine (evrdb zB (xB [tBay', nm, tLine', o, dec fi] ks) s0 nl.length (rB nl) ll.length (rL ll) sl.length (rS sl) yl.length (cnB yl) mpa nd g).trans ?_
  have fr := form_l tBay' nm tLine' o (dec fi) ks (hN.s hf)
  have hl : 3 < (xB [tBay', nm, tLine', o, dec fi] ks).words.length := by show 3 < 5; omega
  have w1 : Wd.text (List.getD (It.words (xB [tBay', nm, tLine', o, dec fi] ks)) (Int.toNat (1 : Int)) w0) = nm := rfl
  have w2 : Wd.text (List.getD (It.words (xB [tBay', nm, tLine', o, dec fi] ks)) (Int.toNat (2 : Int)) w0) = tLine' := rfl
  have hx : tx (xB [tBay', nm, tLine', o, dec fi] ks) 3 = o := rfl
  have eL : (ByteArray.toList tLine' == ByteArray.toList (ByteArray.mk #[(108 : UInt8), (105 : UInt8), (110 : UInt8), (101 : UInt8)])) = true := by rw [strEq]; exact sre _
  have d1 : decide ((0 : Int) ≤ 1) = true := rfl
  have d2 : decide ((0 : Int) ≤ 2) = true := rfl
  have d0 : decide ((0 : Int) ≤ 0) = true := rfl
  have f1 : decide ((0 : Int) < (([(numS (dec fi)).1] : List Int).length : Int)) = true := rfl
  have fo : decide (off < 0) = false := by simp; omega
  have fg : ([(numS (dec fi)).1] : List Int).getD (Int.toNat 0) 0 = fi := hN.f hf
  rw [b3' (show 3 ≤ (xB [tBay', nm, tLine', o, dec fi] ks).words.length by omega), b1' (show 3 ≤ (xB [tBay', nm, tLine', o, dec fi] ks).words.length by omega), b2' (show 3 ≤ (xB [tBay', nm, tLine', o, dec fi] ks).words.length by omega), w1, w2, eL, ko _ _ _ (by show 5 ≤ 2000; omega), kf, kn, kv, fr, hol _ ll h2 hl, hil _ ll hl, hx, hi, fo, d0, d1, d2, f1, fg]
  rfl
theorem ev_s (h3 : sl.length ≤ 900) (hi : idxS SSrc.name o sl 0 = off) (h0 : 0 ≤ off) :
    callC Tryd.prog (oRb zB) annrdb g Tryd.f62 (bodyOf Tryd.f62) [.c (.ptr 0 0), aItK (xB [tBay', nm, tSource, o] ks)] (HD' s0 nl ll sl yl mpa nd) =
      L6 (xB [tBay', nm, tSource, o] ks) s0 nl ll sl yl mpa nd g g 0 (fun _ => []) [] 0 ⟨nm, 2, off, 0, 0, 0, [], true, 0, 0, 0, 0⟩ := by
  refine (evrdb zB (xB [tBay', nm, tSource, o] ks) s0 nl.length (rB nl) ll.length (rL ll) sl.length (rS sl) yl.length (cnB yl) mpa nd g).trans ?_
  have fr := form_s tBay' nm tSource o ks
  have hl : 3 < (xB [tBay', nm, tSource, o] ks).words.length := by show 3 < 4; omega
  have w1 : Wd.text (List.getD (It.words (xB [tBay', nm, tSource, o] ks)) (Int.toNat (1 : Int)) w0) = nm := rfl
  have w2 : Wd.text (List.getD (It.words (xB [tBay', nm, tSource, o] ks)) (Int.toNat (2 : Int)) w0) = tSource := rfl
  have hx : tx (xB [tBay', nm, tSource, o] ks) 3 = o := rfl
  have eL : (ByteArray.toList tSource == ByteArray.toList (ByteArray.mk #[(108 : UInt8), (105 : UInt8), (110 : UInt8), (101 : UInt8)])) = false := by rw [strEq]; exact sne (by decide)
  have eS : (ByteArray.toList tSource == ByteArray.toList (ByteArray.mk #[(115 : UInt8), (111 : UInt8), (117 : UInt8), (114 : UInt8), (99 : UInt8), (101 : UInt8)])) = true := by rw [strEq]; exact sre _
  have d1 : decide ((0 : Int) ≤ 1) = true := rfl
  have d2 : decide ((0 : Int) ≤ 2) = true := rfl
  have fo : decide (off < 0) = false := by simp; omega
  rw [b3' (show 3 ≤ (xB [tBay', nm, tSource, o] ks).words.length by omega), b1' (show 3 ≤ (xB [tBay', nm, tSource, o] ks).words.length by omega), b2' (show 3 ≤ (xB [tBay', nm, tSource, o] ks).words.length by omega), w1, w2, eL, eS, ko _ (ByteArray.mk #[119, 119, 119, 119]) _ (by show 4 ≤ 2000; omega), kf _ (ByteArray.mk #[119, 119, 119, 119]), fr, hos _ sl h3 hl, his _ sl hl, hx, hi, fo, d1, d2]
  rfl
theorem ev_c (hN : NumDec) (hr : nOk zr) (hz : nOk zx) :
    callC Tryd.prog (oRb zB) annrdb g Tryd.f62 (bodyOf Tryd.f62) [.c (.ptr 0 0), aItK (xB [tBay', nm, tCoupler, dec zr, dec zx] ks)] (HD' s0 nl ll sl yl mpa nd) =
      L6 (xB [tBay', nm, tCoupler, dec zr, dec zx] ks) s0 nl ll sl yl mpa nd g g 0 (fun _ => []) [] 0 ⟨nm, 3, 0, 0, zr, zx, [], true, 0, 0, 0, 0⟩ := by
  refine (evrdb zB (xB [tBay', nm, tCoupler, dec zr, dec zx] ks) s0 nl.length (rB nl) ll.length (rL ll) sl.length (rS sl) yl.length (cnB yl) mpa nd g).trans ?_
  have fr := form_c tBay' nm tCoupler (dec zr) (dec zx) ks (hN.s hr) (hN.s hz)
  have hl : 3 < (xB [tBay', nm, tCoupler, dec zr, dec zx] ks).words.length := by show 3 < 5; omega
  have w1 : Wd.text (List.getD (It.words (xB [tBay', nm, tCoupler, dec zr, dec zx] ks)) (Int.toNat (1 : Int)) w0) = nm := rfl
  have w2 : Wd.text (List.getD (It.words (xB [tBay', nm, tCoupler, dec zr, dec zx] ks)) (Int.toNat (2 : Int)) w0) = tCoupler := rfl
  have eL : (ByteArray.toList tCoupler == ByteArray.toList (ByteArray.mk #[(108 : UInt8), (105 : UInt8), (110 : UInt8), (101 : UInt8)])) = false := by rw [strEq]; exact sne (by decide)
  have eS : (ByteArray.toList tCoupler == ByteArray.toList (ByteArray.mk #[(115 : UInt8), (111 : UInt8), (117 : UInt8), (114 : UInt8), (99 : UInt8), (101 : UInt8)])) = false := by rw [strEq]; exact sne (by decide)
  have eC : (ByteArray.toList tCoupler == ByteArray.toList (ByteArray.mk #[(99 : UInt8), (111 : UInt8), (117 : UInt8), (112 : UInt8), (108 : UInt8), (101 : UInt8), (114 : UInt8)])) = true := by rw [strEq]; exact sre _
  have d1 : decide ((0 : Int) ≤ 1) = true := rfl
  have d2 : decide ((0 : Int) ≤ 2) = true := rfl
  have d0 : decide ((0 : Int) ≤ 0) = true := rfl
  have f0 : decide ((0 : Int) < (([(numS (dec zr)).1, (numS (dec zx)).1] : List Int).length : Int)) = true := rfl
  have f1 : decide ((1 : Int) < (([(numS (dec zr)).1, (numS (dec zx)).1] : List Int).length : Int)) = true := rfl
  have fg : ([(numS (dec zr)).1, (numS (dec zx)).1] : List Int).getD (Int.toNat 0) 0 = zr := hN.f hr
  have fh : ([(numS (dec zr)).1, (numS (dec zx)).1] : List Int).getD (Int.toNat 1) 0 = zx := hN.f hz
  rw [b3' (show 3 ≤ (xB [tBay', nm, tCoupler, dec zr, dec zx] ks).words.length by omega), b1' (show 3 ≤ (xB [tBay', nm, tCoupler, dec zr, dec zx] ks).words.length by omega), b2' (show 3 ≤ (xB [tBay', nm, tCoupler, dec zr, dec zx] ks).words.length by omega), w1, w2, eL, eS, eC, ko _ (ByteArray.mk #[119, 119, 119, 110, 110]) _ (by show 5 ≤ 2000; omega), kf _ (ByteArray.mk #[119, 119, 119, 110, 110]), kn _ (ByteArray.mk #[119, 119, 119, 110, 110]), kv _ (ByteArray.mk #[119, 119, 119, 110, 110]), kv _ (ByteArray.mk #[119, 119, 119, 110, 110]), fr, d0, d1, d2, f0, f1, fg, fh]
  rfl
end
end Go.Proofs.YthmapnolgdpkbaaDoor.de
namespace Go.Proofs.YthmapnolgdpkbaaDoor.de
open Go.RowKit Go.Eb Go.Proofs.YthmapnolgdpkbaaDoor.st
set_option maxRecDepth 100000
open Go.Proofs.YthmapnolgdpkbaaDoor.wd (numS rN c11)

theorem bay_facts {nb nl ns : Nat} {dup : Bool} {bef : List SBay} {b : SBay} (h : bayErrD nb nl ns dup bef b = 0) : (b.kind = 1 ∨ b.kind = 2 ∨ b.kind = 3) ∧ rngOk b = true ∧ 0 ≤ b.off ∧ (b.kind = 3 → b.off = 0) ∧ linksErr nb b = 0 := by
  unfold bayErrD at h
  cases hn : nameOk b.name with
  | false => rw [hn] at h; exact absurd h (show ¬ (7 : Int) = 0 by decide)
  | true =>
    rw [hn] at h
    cases dup with
    | true => exact absurd h (show ¬ (8 : Int) = 0 by decide)
    | false =>
      simp only [Bool.not_true, cond_false] at h
      cases hc : cntOf nl ns b.kind with
      | none => rw [hc] at h; exact absurd h (show ¬ (10 : Int) = 0 by decide)
      | some c =>
        rw [hc] at h
        simp only [] at h
        have hk : b.kind = 1 ∨ b.kind = 2 ∨ (b.kind = 3 ∧ c = 1) := by
          unfold cntOf at hc
          cases e1 : (b.kind == 1) with
          | true => exact .inl (eq_of_beq e1)
          | false =>
            cases e2 : (b.kind == 2) with
            | true => exact .inr (.inl (eq_of_beq e2))
            | false =>
              cases e3 : (b.kind == 3) with
              | true => rw [e1, e2, e3] at hc; simp only [cond_true, cond_false, Option.some.injEq] at hc; exact .inr (.inr ⟨eq_of_beq e3, hc.symm⟩)
              | false => rw [e1, e2, e3] at hc; cases hc
        cases hw : within b.off 0 (c - 1) with
        | false => rw [hw] at h; exact absurd h (show ¬ (9 : Int) = 0 by decide)
        | true =>
          rw [hw] at h
          cases hr : rngOk b with
          | false => rw [hr] at h; exact absurd h (show ¬ (2 : Int) = 0 by decide)
          | true =>
            rw [hr] at h
            cases ha : bef.any (clash b) with
            | true => rw [ha] at h; exact absurd h (show ¬ (12 : Int) = 0 by decide)
            | false =>
              rw [ha] at h
              simp only [Bool.not_true, cond_false] at h
              unfold within at hw
              simp only [Bool.and_eq_true, decide_eq_true_eq] at hw
              refine ⟨?_, rfl, hw.1, fun k => ?_, h⟩
              · rcases hk with k | k | k
                · exact .inl k
                · exact .inr (.inl k)
                · exact .inr (.inr k.1)
              · rcases hk with k' | k' | ⟨_, k'⟩ <;> omega
theorem links_len {nb : Nat} {b : SBay} (h : linksErr nb b = 0) : (b.links.length = 1 ∨ b.links.length = 2) ∧ linkErr nb b.kind none b.links = 0 := by
  unfold linksErr at h
  cases e1 : decide (b.links.length < 1) with
  | true => rw [e1] at h; exact absurd h (show ¬ (3 : Int) = 0 by decide)
  | false =>
    cases e2 : decide (2 < b.links.length) with
    | true => rw [e1, e2] at h; exact absurd h (show ¬ (3 : Int) = 0 by decide)
    | false =>
      cases e3 : (b.kind == 3 && b.links.length != 2) with
      | true => rw [e1, e2, e3] at h; exact absurd h (show ¬ (3 : Int) = 0 by decide)
      | false =>
        rw [e1, e2, e3] at h
        have q1 := of_decide_eq_false e1
        have q2 := of_decide_eq_false e2
        exact ⟨by omega, h⟩
theorem rng_facts {b : SBay} (h : rngOk b = true) : nOk b.ct ∧ nOk b.vt ∧ nOk b.sat ∧ nOk b.travel ∧ nOk b.fin ∧ nOk b.zr ∧ nOk b.zx ∧ (b.kind = 3 → b.vt = 0) ∧ (b.kind ≠ 1 → b.fin = 0) ∧ (b.kind ≠ 3 → b.zr = 0 ∧ b.zx = 0) := by
  unfold rngOk at h
  unfold nOk
  by_cases k3 : b.kind = 3
  · have k1 : ¬ b.kind = 1 := by omega
    simp [k3, within, impOk] at h
    refine ⟨by omega, by omega, by omega, by omega, by omega, by omega, by omega, fun _ => by omega, fun _ => by omega, fun q => absurd k3 q⟩
  · by_cases k1 : b.kind = 1
    · simp [k1, within, impOk] at h
      refine ⟨by omega, by omega, by omega, by omega, by omega, by omega, by omega, fun _ => by omega, fun _ => by omega, fun q => by omega⟩
    · have kb : (b.kind == 1) = false := by simpa using k1
      simp [kb, k3, within, impOk] at h
      refine ⟨by omega, by omega, by omega, by omega, by omega, by omega, by omega, fun _ => by omega, fun _ => by omega, fun q => by omega⟩
theorem back (b b0 : SBay) (e1 : b0.name = b.name) (e2 : b0.kind = b.kind) (e3 : b0.off = b.off) (e4 : b0.fin = b.fin) (e5 : b0.zr = b.zr) (e6 : b0.zx = b.zx) (c0 : b0.closed = true) (v0 : b0.vt = 0) (a0 : b0.sat = 0) (hv : b.kind = 3 → b.vt = 0) :
    ({ b0 with ct := b.ct, vt := bif b.kind != 3 then b.vt else b0.vt, sat := bif b.sat != 0 then b.sat else b0.sat, travel := b.travel, links := b.links, closed := bif !b.closed then false else b0.closed } : SBay) = b := by
  have q1 : (bif b.kind != 3 then b.vt else b0.vt) = b.vt := by
    cases h : (b.kind != 3) with
    | true => rfl
    | false => have : b.kind = 3 := by simpa using h
               rw [cond_false, v0, hv this]
  have q2 : (bif b.sat != 0 then b.sat else b0.sat) = b.sat := by
    cases h : (b.sat != 0) with
    | true => rfl
    | false => have : b.sat = 0 := by simpa using h
               rw [cond_false, a0, this]
  have q3 : (bif !b.closed then false else b0.closed) = b.closed := by rw [c0]; cases b.closed <;> rfl
  rw [q1, q2, q3, e1, e2, e3, e4, e5, e6]
theorem bayK_len (s : SSta) (b : SBay) (h : b.links.length = 1 ∨ b.links.length = 2) : (bayK s b).length ≤ 9000 := by
  unfold bayK
  simp only [List.length_append, List.length_map]
  cases (b.kind != 3) <;> cases (b.sat != 0) <;> cases b.closed <;> simp only [cond_true, cond_false, Bool.not_true, Bool.not_false, List.length_cons, List.length_nil] <;> omega
section
variable (s : SSta) (b : SBay) (s0 : ByteArray) (yl : List SBay) (mpa : Sn) (nd : Bool)
theorem after (x : It) (b0 : SBay) (hx : x.kids = bayK s b) (h1 : s.buses.length ≤ 900) (h2 : s.lines.length ≤ 900) (h3 : s.srcs.length ≤ 900) (h4 : yl.length < 16)
    (he : bayErrD s.buses.length s.lines.length s.srcs.length (boolOf (assoc mpa (.string b.name))) yl b = 0) (hlk : ∀ l ∈ b.links, LinkOk s.buses l) (hl0 : b0.links = []) 
    (e1 : b0.name = b.name) (e2 : b0.kind = b.kind) (e3 : b0.off = b.off) (e4 : b0.fin = b.fin) (e5 : b0.zr = b.zr) (e6 : b0.zx = b.zx) (c0 : b0.closed = true) (v0 : b0.vt = 0) (a0 : b0.sat = 0) :
    L6 x s0 s.buses s.lines s.srcs yl mpa nd 9001 9001 0 (fun _ => []) [] 0 b0 = lRb x.line (H33 b s0 s.buses.length (rB s.buses) s.lines.length (rL s.lines) s.srcs.length (rS s.srcs) yl mpa nd) := by
  obtain ⟨hk, hr, _, _, hle⟩ := bay_facts he
  obtain ⟨hll, _⟩ := links_len hle
  obtain ⟨r1, r2, r3, r4, _, _, _, r8, _, _⟩ := rng_facts hr
  obtain ⟨k1, k2, k3, k4, k5⟩ := kids_ok s b numDec r1 r2 r3 r4 hlk hll b0 hl0
  have hK := bayK_len s b hll
  obtain ⟨n', f', p1, p2⟩ := lp6 x s0 s.buses s.lines s.srcs yl mpa nd h1 (by rw [hx]; exact hK) 9001 (bayK s b) 9001 0 0 (fun _ => []) [] b0 (by rw [hx]; rfl) (Nat.zero_le _) (by omega) k1 (by rw [hl0]; exact RL.nil _)
  rw [show ((0 : Nat) : Int) = 0 from rfl] at p2
  have hb : kidsR s.buses (bayK s b) b0 = b := k2.trans (back b b0 e1 e2 e3 e4 e5 e6 c0 v0 a0 r8)
  rw [hb] at p1 p2
  exact p2.trans (G13_ok x s0 s.buses s.lines s.srcs yl mpa nd b 9001 9000 _ p1 (by omega) h1 h2 h3 h4 he k3 k4 k5)
theorem crb (h1 : s.buses.length ≤ 900) (h2 : s.lines.length ≤ 900) (h3 : s.srcs.length ≤ 900) (h4 : yl.length < 16)
    (he : bayErrD s.buses.length s.lines.length s.srcs.length (boolOf (assoc mpa (.string b.name))) yl b = 0) (hlk : ∀ l ∈ b.links, LinkOk s.buses l)
    (hL : b.kind = 1 → idxS SLine.name (s.lines.getD b.off.toNat line0).name s.lines 0 = b.off) (hS : b.kind = 2 → idxS SSrc.name (s.srcs.getD b.off.toNat src0).name s.srcs 0 = b.off) :
    CX Tryd.prog 62 [.c (.ptr 0 0), aIt (encBay s b)] (HD' s0 s.buses s.lines s.srcs yl mpa nd) (.tup [pI 0, pI 0]) (H33 b s0 s.buses.length (rB s.buses) s.lines.length (rL s.lines) s.srcs.length (rS s.srcs) yl mpa nd) := by
  obtain ⟨hk, hr, ho, ho3, hle⟩ := bay_facts he
  obtain ⟨r1, r2, r3, r4, r5, r6, r7, r8, r9, r10⟩ := rng_facts hr
  have key : ∀ (x : It) (b0 : SBay), encBay s b = x → x.kids = bayK s b → x.line = 0 →
      callC Tryd.prog (oRb zB) annrdb 9001 Tryd.f62 (bodyOf Tryd.f62) [.c (.ptr 0 0), aItK x] (HD' s0 s.buses s.lines s.srcs yl mpa nd) = L6 x s0 s.buses s.lines s.srcs yl mpa nd 9001 9001 0 (fun _ => []) [] 0 b0 →
      b0.links = [] → b0.name = b.name → b0.kind = b.kind → b0.off = b.off → b0.fin = b.fin → b0.zr = b.zr → b0.zx = b.zx → b0.closed = true → b0.vt = 0 → b0.sat = 0 →
      CX Tryd.prog 62 [.c (.ptr 0 0), aIt (encBay s b)] (HD' s0 s.buses s.lines s.srcs yl mpa nd) (.tup [pI 0, pI 0]) (H33 b s0 s.buses.length (rB s.buses) s.lines.length (rL s.lines) s.srcs.length (rS s.srcs) yl mpa nd) := by
    intro x b0 hx hxk hxl hev hl0 e1 e2 e3 e4 e5 e6 c0 v0 a0
    have ha := after s b s0 yl mpa nd x b0 hxk h1 h2 h3 h4 he hlk hl0 e1 e2 e3 e4 e5 e6 c0 v0 a0
    rw [hxl] at ha
    rw [hx]
    have a2 : DEs (icells x) [dI x.line, wordsD x.words, dB x.block, itemsD x.kids] := .cons (.refl _) (.cons (.refl _) (.cons (.refl _) (.cons (kidsD_de x) .nil)))
    exact (cx_of sRb.ok Tryd.func62 brdb rfl (hev.trans ha)).ge (.cons (.refl _) (.cons (show Ale (.agg _) (.agg _) from Csle.ofD a2) .nil)) (.refl _)
  rcases hk with k | k | k
  · have hx : encBay s b = xB [tBay', b.name, tLine', (s.lines.getD b.off.toNat line0).name, dec b.fin] (bayK s b) := by
      unfold encBay bayW
      rw [k]; rfl
    obtain ⟨z1, z2⟩ := r10 (by omega)
    exact key _ ⟨b.name, 1, b.off, b.fin, 0, 0, [], true, 0, 0, 0, 0⟩ hx rfl rfl (ev_l s0 s.buses s.lines s.srcs yl mpa nd (bayK s b) b.name _ b.off b.fin 9001 numDec r5 h2 (hL k) ho) rfl rfl k.symm rfl rfl z1.symm z2.symm rfl rfl rfl
  · have hx : encBay s b = xB [tBay', b.name, tSource, (s.srcs.getD b.off.toNat src0).name] (bayK s b) := by
      unfold encBay bayW
      rw [k]; rfl
    obtain ⟨z1, z2⟩ := r10 (by omega)
    exact key _ ⟨b.name, 2, b.off, 0, 0, 0, [], true, 0, 0, 0, 0⟩ hx rfl rfl (ev_s s0 s.buses s.lines s.srcs yl mpa nd (bayK s b) b.name _ b.off 9001 h3 (hS k) ho) rfl rfl k.symm rfl (r9 (by omega)).symm z1.symm z2.symm rfl rfl rfl
  · have hx : encBay s b = xB [tBay', b.name, tCoupler, dec b.zr, dec b.zx] (bayK s b) := by
      unfold encBay bayW
      rw [k]; rfl
    exact key _ ⟨b.name, 3, 0, 0, b.zr, b.zx, [], true, 0, 0, 0, 0⟩ hx rfl rfl (ev_c s0 s.buses s.lines s.srcs yl mpa nd (bayK s b) b.name b.zr b.zx 9001 numDec r6 r7) rfl rfl k.symm (ho3 k).symm (r9 (by omega)).symm rfl rfl rfl rfl rfl
end
end Go.Proofs.YthmapnolgdpkbaaDoor.de
namespace Go.Proofs.YthmapnolgdpkbaaDoor.ck
open Go.RowKit Go.Eb
set_option maxRecDepth 100000
open Go.Proofs.YthmapnolgdpkbaaDoor.wd (letter digit plainR plainS)

abbrev aWd (w : Wd) : AV := .agg ((wcells w).map .d)
def decWd : List AV → Option Wd
  | [.agg [.d (.v (.string s)), .d (.v (.bool q))]] => some ⟨s, q⟩
  | _ => none
def sB : Nat := 9223372036854775807

noncomputable def o49 : Orc := Orc.cons 87 (ansP dec32 fun r => vB (letter r)) Orc.nil
theorem ev49 (w : Wd) : callC Tryd.prog o49 na 1 Tryd.f75 (bodyOf Tryd.f75) [aWd w] [] =
 (bif !Wd.q w then (bif !ByteArray.toList (Wd.text w) == ByteArray.toList (ByteArray.mk #[]) then (bif decide ((0 : Int) ≤ (0 : Int)) && decide ((0 : Int) < (↑(ByteArray.size
 (Wd.text w)) : Int)) then some (T.leaf (AV.c (.d (.v (.bool (letter (IntKind.wrap IntKind.i32 (↑(UInt8.toNat (List.getD (Array.toList (ByteArray.data (Wd.text w))) (Int.toNat
 (0 : Int)) 0)) : Int)))))), [])) else none) else some (T.leaf (AV.c (.d (.v (.bool false))), []))) else some (T.leaf (AV.c (.d (.v (.bool false))), []))) := by kernel_rfl
noncomputable def ann50 := annOf [(2, ⟨[0, 5, 6], []⟩)]
noncomputable def L50 (s : ByteArray) (g m : Nat) (i : Int) := loopK Tryd.prog Orc.nil ann50 0 g (sub [true, false, true, false, false] (bodyOf Tryd.f76)) m ⟨frm [(0, vS s), (5, vI s.size), (6, vI i)] 0 Tryd.f76.ntmps, [], 0⟩ (kAt Tryd.prog Orc.nil ann50 0 g [true, false, true, false] (bodyOf Tryd.f76) (kEnd Tryd.prog Tryd.f76 0))
theorem ev50 (s : ByteArray) (g : Nat) : callC Tryd.prog Orc.nil ann50 g Tryd.f76 (bodyOf Tryd.f76) [vS s] [] =
 L50 s g g ((0 : Int)) := by kernel_rfl
theorem st50 (s : ByteArray) (g m : Nat) (i : Int) : L50 s g (m + 1) i =
 (bif decide (i < (↑(ByteArray.size s) : Int)) then (bif decide ((0 : Int) ≤ i) && decide (i < (↑(ByteArray.size s) : Int)) then (bif decide ((↑(UInt8.toNat (List.getD (Array.toList
 (ByteArray.data s)) (Int.toNat i) 0)) : Int) < (32 : Int)) then some (T.leaf (AV.c (.d (.v (.bool false))), [])) else (bif decide ((0 : Int) ≤ i) && decide (i <
 (↑(ByteArray.size s) : Int)) then (bif decide ((↑(UInt8.toNat (List.getD (Array.toList (ByteArray.data s)) (Int.toNat i) 0)) : Int) > (126 : Int)) then some (T.leaf (AV.c
 (C.d (.v (.bool false))), [])) else (bif decide ((0 : Int) ≤ i) && decide (i < (↑(ByteArray.size s) : Int)) then (bif (↑(UInt8.toNat (List.getD (Array.toList (ByteArray.data
 s)) (Int.toNat i) 0)) : Int) == (34 : Int) then some (T.leaf (AV.c (.d (.v (.bool false))), [])) else L50 s g m (IntKind.wrap IntKind.i64 (i + (1 : Int)))) else
 none)) else none)) else none) else some (T.leaf (AV.c (.d (.v (.bool true))), []))) := by kernel_rfl

noncomputable def o37 (op : Wd → Bool) (qu : ByteArray → Bool) : Orc := Orc.cons 75 (ansP decWd fun w => vB (op w)) (Orc.cons 76 (ansC decS (fun s => decide (s.size ≤ sB)) fun s => vB (qu s)) (Orc.cons 77 (ansP decS fun s => vB (plainS s)) Orc.nil))
noncomputable def ann37 := annOf [(6, ⟨[1, 22, 23, 24], []⟩)]
noncomputable def L37 (op : Wd → Bool) (qu : ByteArray → Bool) (x : It) (g m : Nat) (i : Int) := loopK Tryd.prog (o37 op qu) ann37 0 g (sub [true, true, true, false, true, false, false] (bodyOf Tryd.f57)) m ⟨frm [(1, .c (.ptr 0 0)), (22, aW x.words), (23, vI x.words.length), (24, vI i)] 0 Tryd.f57.ntmps, [(0, .cells ((icells x).map .d) 47)], 1⟩ (kAt Tryd.prog (o37 op qu) ann37 0 g [true, true, true, false, true, false] (bodyOf Tryd.f57) (kEnd Tryd.prog Tryd.f57 0))
theorem ev37 (op : Wd → Bool) (qu : ByteArray → Bool) (x : It) (g : Nat) : callC Tryd.prog (o37 op qu) ann37 g Tryd.f57 (bodyOf Tryd.f57) [aT x] [] =
 (bif (↑(List.length (It.words x)) : Int) == (0 : Int) then some (T.leaf (AV.c (.d (.v (.int .i64 (6 : Int)))), [])) else (bif decide ((0 : Int) ≤ (0 : Int)) && decide
 ((0 : Int) < (↑(List.length (It.words x)) : Int)) then (bif !op (Wd.mk (Wd.text (List.getD (It.words x) (Int.toNat (0 : Int)) w0)) (Wd.q (List.getD (It.words x) (Int.toNat (0 :
 Int)) w0))) then some (T.leaf (AV.c (.d (.v (.int .i64 (6 : Int)))), [])) else (bif decide ((↑(List.length (It.words x)) : Int) > (40 : Int)) then some (T.leaf (AV.c
 (C.d (.v (.int .i64 (3 : Int)))), [])) else L37 op qu x g g ((0 : Int)))) else none)) := by kernel_rfl
theorem st37 (op : Wd → Bool) (qu : ByteArray → Bool) (x : It) (g m : Nat) (i : Int) : L37 op qu x g (m + 1) i =
 (bif decide (i < (↑(List.length (It.words x)) : Int)) then (bif decide ((0 : Int) ≤ i) && decide (i < (↑(List.length (It.words x)) : Int)) then (bif decide ((↑(ByteArray.size
 (Wd.text (List.getD (It.words x) (Int.toNat i) w0))) : Int) > (120 : Int)) then some (T.leaf (AV.c (.d (.v (.int .i64 (4 : Int)))), [])) else (bif Wd.q (List.getD
 (It.words x) (Int.toNat i) w0) then (bif decide (ByteArray.size (Wd.text (List.getD (It.words x) (Int.toNat i) w0)) ≤ sB) then (bif !qu (Wd.text (List.getD (It.words x) (Int.toNat
 i) w0)) then some (T.leaf (AV.c (.d (.v (.int .i64 (5 : Int)))), [])) else (bif !Wd.q (List.getD (It.words x) (Int.toNat i) w0) then (bif !plainS (Wd.text (List.getD
 (It.words x) (Int.toNat i) w0)) then some (T.leaf (AV.c (.d (.v (.int .i64 (6 : Int)))), [])) else L37 op qu x g m (IntKind.wrap IntKind.i64 (i + (1 : Int)))) else L37
 op qu x g m (IntKind.wrap IntKind.i64 (i + (1 : Int))))) else none) else (bif !Wd.q (List.getD (It.words x) (Int.toNat i) w0) then (bif !plainS (Wd.text (List.getD (It.words x)
 (Int.toNat i) w0)) then some (T.leaf (AV.c (.d (.v (.int .i64 (6 : Int)))), [])) else L37 op qu x g m (IntKind.wrap IntKind.i64 (i + (1 : Int)))) else L37 op qu x g m
 (IntKind.wrap IntKind.i64 (i + (1 : Int)))))) else none) else (bif !It.block x then (bif decide ((↑(List.length (It.kids x)) : Int) > (0 : Int)) then some (T.leaf (AV.c (C.d (D.v
 (Value.int IntKind.i64 (12 : Int)))), [])) else some (T.leaf (AV.c (.d (.v (.int .i64 (0 : Int)))), []))) else some (T.leaf (AV.c (.d (.v (.int .i64 (0 :
 Int)))), [])))) := by kernel_rfl

noncomputable def ansT (g : Int → D → Bool → D → AV) : (R : Type) → List AV → Hp → (AV → Hp → Option (T R)) → Option (T R) := fun _ args H k => match H, args with
  | [], [.agg [.d (.v (.int .i64 n)), .d w, .d (.v (.bool b)), .d ks]] => bif okW w && okI ks && okWs (theW w) && okL (theI ks) then k (g n w b ks) [] else none
  | _, _ => none
abbrev H36 (n : Int) : Hp := [(0, .cells [.d (.v (.int .i64 n))] 3), (1, .cells [.fn 56 [] [.ptr 0 0, .ptr 1 0]] 109)]
def ans36 (c : D → Bool) (e : D → Int → Int → Int) (n' : D → Int → Int → Int) : (R : Type) → List AV → Hp → (AV → Hp → Option (T R)) → Option (T R) := fun _ args H k => match H, args with
  | [(0, .cells [.d (.v (.int .i64 n))] 3), (1, .cells [.fn 56 [] [.ptr 0 0, .ptr 1 0]] 109)], [.c (.d x), .c (.d (.v (.int .i64 d))), .c (.ptr 0 0), .c (.ptr 1 0)] => bif c x then k (vI (e x d n)) (H36 (n' x d n)) else none
  | _, _ => none
noncomputable def o36 (ci : Int → D → Bool → D → Int) (c : D → Bool) (e n' : D → Int → Int → Int) : Orc := Orc.cons 57 (ansT fun n w b ks => vI (ci n w b ks)) (Orc.cons 56 (ans36 c e n') Orc.nil)
noncomputable def ann36 := annOf [(2, ⟨[1, 2, 3, 11, 12, 13], []⟩)]
noncomputable def L36 (ci : Int → D → Bool → D → Int) (c : D → Bool) (e n' : D → Int → Int → Int) (l : List It) (d : Int) (g m : Nat) (n i : Int) := loopK Tryd.prog (o36 ci c e n') ann36 2 g (sub [true, false, true, false, false] (bodyOf Tryd.f56)) m ⟨frm [(1, vI d), (2, .c (.ptr 0 0)), (3, .c (.ptr 1 0)), (11, aI l), (12, vI l.length), (13, vI i)] 0 Tryd.f56.ntmps, H36 n, 2⟩ (kAt Tryd.prog (o36 ci c e n') ann36 2 g [true, false, true, false] (bodyOf Tryd.f56) (kEnd Tryd.prog Tryd.f56 2))
theorem ev36 (ci : Int → D → Bool → D → Int) (c : D → Bool) (e n' : D → Int → Int → Int) (l : List It) (d : Int) (g : Nat) (n : Int) : callC Tryd.prog (o36 ci c e n') ann36 g Tryd.f56 (bodyOf Tryd.f56) [aI l, vI d, .c (.ptr 0 0), .c (.ptr 1 0)] (H36 n) =
 L36 ci c e n' l d g g n ((0 : Int)) := by kernel_rfl
theorem st36 (ci : Int → D → Bool → D → Int) (c : D → Bool) (e n' : D → Int → Int → Int) (l : List It) (d : Int) (g m : Nat) (n i : Int) : L36 ci c e n' l d g (m + 1) n i =
 (bif decide (i < (↑(List.length l) : Int)) then (bif decide ((0 : Int) ≤ i) && decide (i < (↑(List.length l) : Int)) then (bif decide (IntKind.wrap IntKind.i64 (n + (1 : Int)) >
 (600 : Int)) then some (T.leaf (AV.c (.d (.v (.int .i64 (3 : Int)))), [(0, Blk.cells [C.d (.v (.int .i64 (IntKind.wrap IntKind.i64 (n + (1 :
 Int)))))] (3)), (1, Blk.cells [C.fn (56) [] [Rf.ptr (0) (0), Rf.ptr (1) (0)]] (109))])) else (bif decide (d > (4 :
 Int)) then some (T.leaf (AV.c (.d (.v (.int .i64 (17 : Int)))), [(0, Blk.cells [C.d (.v (.int .i64 (IntKind.wrap IntKind.i64 (n + (1 : Int)))))]
 (3)), (1, Blk.cells [C.fn (56) [] [Rf.ptr (0) (0), Rf.ptr (1) (0)]] (109))])) else (bif okW (wordsD (It.words
 (List.getD l (Int.toNat i) i0))) && okI (kidsD (List.getD l (Int.toNat i) i0)) && okWs (theW (wordsD (It.words (List.getD l (Int.toNat i) i0)))) && okL (theI (kidsD (List.getD l
 (Int.toNat i) i0))) then (bif ci (It.line (List.getD l (Int.toNat i) i0)) (wordsD (It.words (List.getD l (Int.toNat i) i0))) (It.block (List.getD l (Int.toNat i) i0)) (kidsD
 (List.getD l (Int.toNat i) i0)) != (0 : Int) then some (T.leaf (AV.c (.d (.v (.int .i64 (ci (It.line (List.getD l (Int.toNat i) i0)) (wordsD (It.words (List.getD l
 (Int.toNat i) i0))) (It.block (List.getD l (Int.toNat i) i0)) (kidsD (List.getD l (Int.toNat i) i0)))))), [(0, Blk.cells [C.d (.v (.int .i64 (IntKind.wrap
 IntKind.i64 (n + (1 : Int)))))] (3)), (1, Blk.cells [C.fn (56) [] [Rf.ptr (0) (0), Rf.ptr (1) (0)]] (109))])) else
 (bif c (kidsD (List.getD l (Int.toNat i) i0)) then (bif e (kidsD (List.getD l (Int.toNat i) i0)) (IntKind.wrap IntKind.i64 (d + (1 : Int))) (IntKind.wrap IntKind.i64 (n + (1 :
 Int))) != (0 : Int) then some (T.leaf (AV.c (.d (.v (.int .i64 (e (kidsD (List.getD l (Int.toNat i) i0)) (IntKind.wrap IntKind.i64 (d + (1 : Int))) (IntKind.wrap
 IntKind.i64 (n + (1 : Int))))))), [(0, Blk.cells [C.d (.v (.int .i64 (n' (kidsD (List.getD l (Int.toNat i) i0)) (IntKind.wrap IntKind.i64 (d + (1 : Int)))
 (IntKind.wrap IntKind.i64 (n + (1 : Int))))))] (3)), (1, Blk.cells [C.fn (56) [] [Rf.ptr (0) (0), Rf.ptr (1) (0)]] ((109 :
 Nat)))])) else L36 ci c e n' l d g m (n' (kidsD (List.getD l (Int.toNat i) i0)) (IntKind.wrap IntKind.i64 (d + (1 : Int))) (IntKind.wrap IntKind.i64 (n + (1 : Int)))) (IntKind.wrap
 IntKind.i64 (i + (1 : Int)))) else none)) else none))) else none) else some (T.leaf (AV.c (.d (.v (.int .i64 (0 : Int)))), [(0, Blk.cells [C.d (D.v (Value.int
 IntKind.i64 n))] (3)), (1, Blk.cells [C.fn (56) [] [Rf.ptr (0) (0), Rf.ptr (1) (0)]] (109))]))) := by kernel_rfl
noncomputable def o16 (c : D → Bool) (e n' : D → Int → Int → Int) : Orc := Orc.cons 56 (ans36 c e n') Orc.nil
theorem ev16 (c : D → Bool) (e n' : D → Int → Int → Int) (l : List It) : callC Tryd.prog (o16 c e n') na 1 Tryd.f28 (bodyOf Tryd.f28) [aI l] [] =
 (bif c (itemsD l) then some (T.leaf (AV.c (.d (.v (.int .i64 (e (itemsD l) (0 : Int) (0 : Int))))), [])) else none) := by kernel_rfl

end Go.Proofs.YthmapnolgdpkbaaDoor.ck
namespace Go.Proofs.YthmapnolgdpkbaaDoor.ck
open Go.RowKit Go.Eb
set_option maxRecDepth 100000
open Go.Proofs.YthmapnolgdpkbaaDoor.wd

theorem aT_ge {n : Int} {w ks : D} {b : Bool} (hw : okW w = true) (hk : okI ks = true) : Ale (.agg [.d (.v (.int .i64 n)), .d w, .d (.v (.bool b)), .d ks]) (aT (.mk n (theW w) b (theI ks))) :=
  Csle.cons (DE.refl _) (Csle.cons (theW_de hw) (Csle.cons (DE.refl _) (Csle.cons ((theI_de hk).trans (itemsD_de (.mk n (theW w) b (theI ks)))) Csle.nil)))
theorem drop_cons {α : Type} (l : List α) (d : α) {k : Nat} (h : k < l.length) : l.drop k = l.getD k d :: l.drop (k + 1) := drop_at' h

theorem b49 : Tryd.f75.body = some (bodyOf Tryd.f75) := by kernel_rfl
theorem b50 : Tryd.f76.body = some (bodyOf Tryd.f76) := by kernel_rfl
theorem b37 : Tryd.f57.body = some (bodyOf Tryd.f57) := by kernel_rfl
theorem b36 : Tryd.f56.body = some (bodyOf Tryd.f56) := by kernel_rfl
theorem b16 : Tryd.f28.body = some (bodyOf Tryd.f28) := by kernel_rfl
theorem decWd_ok (args : List AV) (w : Wd) (h : decWd args = some w) : args = [aWd w] := by
  unfold decWd at h
  split at h
  · cases h; rfl
  · simp at h

def opn (w : Wd) : Bool := !w.q && (!(w.text.toList == (ByteArray.mk #[]).toList) && letter ((bs w.text).getD 0 0).toNat)

theorem pos_of_ne {d : ByteArray} (hz : (d.toList == (ByteArray.mk #[]).toList) = false) : 0 < d.size := by
  rcases Nat.eq_zero_or_pos d.size with h0 | h0
  · exfalso
    have : d = ByteArray.mk #[] := by
      cases d with
      | mk a => congr 1; exact Array.eq_empty_of_size_eq_zero h0
    rw [this] at hz; simp at hz
  · exact h0
theorem byte_lt (c : UInt8) : (c.toNat : Int) ≤ 255 := by have := c.toNat_lt; omega

theorem c49 (w : Wd) : CX Tryd.prog 75 [aWd w] [] (vB (opn w)) [] := by
  have ho : OrcOk Tryd.prog o49 := Orc.cons_ok (Orc.nil_ok _) (ansP_ok dec32_ok c46)
  refine cx_of ho Tryd.func75 b49 rfl ((ev49 w).trans ?_)
  unfold opn
  cases hq : w.q with
  | true => rfl
  | false =>
    cases hz : (w.text.toList == (ByteArray.mk #[]).toList) with
    | true => rfl
    | false =>
      have hp := pos_of_ne hz
      have g1 : (decide ((0 : Int) ≤ 0) && decide ((0 : Int) < (w.text.size : Int))) = true := by simp; omega
      have hw : IntKind.wrap IntKind.i32 ((((bs w.text).getD (Int.toNat 0) 0).toNat : Nat) : Int) = (((bs w.text).getD (Int.toNat 0) 0).toNat : Int) := wrap32_id (by omega) (by have := byte_lt ((bs w.text).getD (Int.toNat 0) 0); omega)
      rw [g1]
      simp only [Bool.not_false, cond_true, Bool.true_and]
      rw [hw]
      rfl
def qch (c : UInt8) : Bool := !(decide ((c.toNat : Int) < 32)) && (!(decide ((c.toNat : Int) > 126)) && !((c.toNat : Int) == 34))
def quot (s : ByteArray) : Bool := (bs s).all qch

theorem lp50 (s : ByteArray) (g : Nat) (hs : s.size ≤ 9223372036854775807) : ∀ (m k : Nat), k ≤ s.size → s.size - k < m → L50 s g m k = some (.leaf (vB (((bs s).drop k).all qch), []))
  | 0, k, _, h => by omega
  | m + 1, k, hk, h => by
    rw [st50]
    by_cases hlt : k < s.size
    · have hl : k < (bs s).length := by rw [bs_len]; exact hlt
      rw [all_drop _ _ hl]
      simp only [lt1 hlt, ge0, tn, Bool.and_self, cond_true]
      rw [nx hlt hs, lp50 s g hs m (k + 1) (by omega) (by omega)]
      unfold qch
      cases decide ((((bs s).getD k 0).toNat : Int) < 32) <;> cases decide ((((bs s).getD k 0).toNat : Int) > 126) <;> cases ((((bs s).getD k 0).toNat : Int) == 34) <;> rfl
    · rw [lt0 hlt, List.drop_of_length_le (by rw [bs_len]; omega)]
      rfl
theorem c50 (s : ByteArray) (hs : s.size ≤ 9223372036854775807) : CX Tryd.prog 76 [vS s] [] (vB (quot s)) [] := by
  refine cx_of (Orc.nil_ok _) Tryd.func76 b50 rfl ((ev50 s (s.size + 1)).trans ?_)
  exact lp50 s (s.size + 1) hs (s.size + 1) 0 (by omega) (by omega)

def cwd (w : Wd) : Int := bif decide ((w.text.size : Int) > 120) then 4 else bif w.q then (bif quot w.text then 0 else 5) else (bif plainS w.text then 0 else 6)
def cws : List Wd → Int
  | [] => 0
  | w :: r => bif cwd w != 0 then cwd w else cws r
def ckItem (x : It) : Int :=
  bif (x.words.length : Int) == 0 then 6 else bif !opn (x.words.getD 0 w0) then 6 else bif decide ((x.words.length : Int) > 40) then 3 else
    bif cws x.words != 0 then cws x.words else bif !x.block then (bif decide ((x.kids.length : Int) > 0) then 12 else 0) else 0
def ckEnd (x : It) (e : Int) : Int := bif e != 0 then e else bif !x.block then (bif decide ((x.kids.length : Int) > 0) then 12 else 0) else 0

theorem ok37 : OrcOk Tryd.prog (o37 opn quot) := Orc.cons_ok (Orc.cons_ok (Orc.cons_ok (Orc.nil_ok _) (ansP_ok decS_ok c13)) (ansC_ok decS_ok fun s h => c50 s (by unfold sB at h; simpa using h))) (ansP_ok decWd_ok c49)

theorem wsz {l : List Wd} (h : okWs l = true) {k : Nat} (hk : k < l.length) : (l.getD k w0).text.size ≤ 9223372036854775807 := by
  unfold okWs at h
  simp only [Bool.and_eq_true, List.all_eq_true, decide_eq_true_eq] at h
  refine h.2 _ ?_
  simp [List.getD, hk]

theorem lp37 (x : It) (g : Nat) (hw : okWs x.words = true) : ∀ (m k : Nat), k ≤ x.words.length → x.words.length - k < m → L37 opn quot x g m k = some (.leaf (vI (ckEnd x (cws (x.words.drop k))), []))
  | 0, k, _, h => by omega
  | m + 1, k, hk, h => by
    rw [st37]
    by_cases hlt : k < x.words.length
    · have hsz : decide ((x.words.getD k w0).text.size ≤ sB) = true := decide_eq_true (wsz hw hlt)
      simp only [lt1 hlt, ge0, tn, Bool.and_self, cond_true, hsz]
      rw [nx hlt (okWs_len hw), lp37 x g hw m (k + 1) (by omega) (by omega), drop_cons x.words w0 hlt]
      simp only [cws, cwd]
      cases decide (((x.words.getD k w0).text.size : Int) > 120) <;> cases (x.words.getD k w0).q <;> cases quot (x.words.getD k w0).text <;> cases plainS (x.words.getD k w0).text <;> rfl
    · rw [lt0 hlt, List.drop_of_length_le (by omega)]
      unfold ckEnd cws
      cases x.block <;> cases decide ((x.kids.length : Int) > 0) <;> rfl

theorem c37 (x : It) (hw : okWs x.words = true) : CX Tryd.prog 57 [aT x] [] (vI (ckItem x)) [] := by
  refine cx_of ok37 Tryd.func57 b37 rfl ((ev37 opn quot x (x.words.length + 1)).trans ?_)
  have hl := lp37 x (x.words.length + 1) hw (x.words.length + 1) 0 (by omega) (by omega)
  have hl' : L37 opn quot x (x.words.length + 1) (x.words.length + 1) 0 = _ := hl
  rw [hl']
  unfold ckItem ckEnd
  cases h0 : ((x.words.length : Int) == 0) with
  | true => rfl
  | false =>
    have hne : x.words.length ≠ 0 := fun e => by rw [e] at h0; simp at h0
    have hp : (decide ((0 : Int) ≤ 0) && decide ((0 : Int) < (x.words.length : Int))) = true := by rw [decide_eq_true (show (0 : Int) < (x.words.length : Int) by omega)]; rfl
    rw [hp]
    simp only [cond_false, cond_true, List.drop_zero]
    show (bif !opn (x.words.getD 0 w0) then _ else _) = _
    cases opn (x.words.getD 0 w0) <;> cases decide ((x.words.length : Int) > 40) <;> cases (cws x.words != 0) <;> rfl

theorem ansT_ok {f : FuncId} {ci : It → Int} (hc : ∀ x, okWs x.words = true → CX Tryd.prog f [aT x] [] (vI (ci x)) []) : ∀ (R : Type) args H (k : AV → Hp → Option (T R)) t, ansT (fun n w b ks => vI (ci (.mk n (theW w) b (theI ks)))) R args H k = some t → ∃ x H', k x H' = some t ∧ CX Tryd.prog f args H x H' := fun R args H k t h => by
  unfold ansT at h
  split at h
  · rename_i n w b ks
    cases hx : (okW w && okI ks && okWs (theW w) && okL (theI ks)) with
    | false => rw [hx] at h; cases h
    | true =>
      rw [hx] at h
      simp only [Bool.and_eq_true] at hx
      obtain ⟨⟨⟨h1, h2⟩, h3⟩, h4⟩ := hx
      exact ⟨_, _, h, (hc (.mk n (theW w) b (theI ks)) h3).ge (.cons (aT_ge h1 h2) .nil) .nil⟩
  · simp at h

def chP : List It → Int → Int → Int × Int
  | [], _, n => (0, n)
  | .mk a w b k :: r, d, n =>
    bif decide (IntKind.wrap IntKind.i64 (n + 1) > 600) then (3, IntKind.wrap IntKind.i64 (n + 1)) else bif decide (d > 4) then (17, IntKind.wrap IntKind.i64 (n + 1)) else
      bif ckItem (.mk a w b k) != 0 then (ckItem (.mk a w b k), IntKind.wrap IntKind.i64 (n + 1)) else
        bif (chP k (IntKind.wrap IntKind.i64 (d + 1)) (IntKind.wrap IntKind.i64 (n + 1))).1 != 0 then chP k (IntKind.wrap IntKind.i64 (d + 1)) (IntKind.wrap IntKind.i64 (n + 1)) else
          chP r d (chP k (IntKind.wrap IntKind.i64 (d + 1)) (IntKind.wrap IntKind.i64 (n + 1))).2
theorem chP_cons (x : It) (r : List It) (d n : Int) : chP (x :: r) d n = bif decide (IntKind.wrap IntKind.i64 (n + 1) > 600) then (3, IntKind.wrap IntKind.i64 (n + 1)) else bif decide (d > 4) then (17, IntKind.wrap IntKind.i64 (n + 1)) else
      bif ckItem x != 0 then (ckItem x, IntKind.wrap IntKind.i64 (n + 1)) else
        bif (chP x.kids (IntKind.wrap IntKind.i64 (d + 1)) (IntKind.wrap IntKind.i64 (n + 1))).1 != 0 then chP x.kids (IntKind.wrap IntKind.i64 (d + 1)) (IntKind.wrap IntKind.i64 (n + 1)) else
          chP r d (chP x.kids (IntKind.wrap IntKind.i64 (d + 1)) (IntKind.wrap IntKind.i64 (n + 1))).2 := by cases x; simp only [chP, It.kids]

noncomputable def cc (N : Nat) (x : D) : Bool := okI x && okL (theI x) && decide (dep (theI x) < N)
noncomputable def ciP (n : Int) (w : D) (b : Bool) (ks : D) : Int := ckItem (.mk n (theW w) b (theI ks))
noncomputable def eP (x : D) (d n : Int) : Int := (chP (theI x) d n).1
noncomputable def nP (x : D) (d n : Int) : Int := (chP (theI x) d n).2

theorem lp36 (N : Nat) (l : List It) (d : Int) (g : Nat) (hN : dep l ≤ N) (hL : okL l = true) : ∀ (m k : Nat) (n : Int), k ≤ l.length → l.length - k < m →
    L36 ciP (cc N) eP nP l d g m n k = some (.leaf (vI (chP (l.drop k) d n).1, H36 (chP (l.drop k) d n).2))
  | 0, k, n, _, h => by omega
  | m + 1, k, n, hk, h => by
    rw [st36]
    by_cases hlt : k < l.length
    · have hd := dep_get l k hlt
      obtain ⟨ho, hw⟩ := okL_get hL hlt
      have hdd : decide (dep (l.getD k i0).kids < N) = true := decide_eq_true (by omega)
      simp only [lt1 hlt, ge0, tn, Bool.and_self, cond_true, cc, eP, nP, ciP, okW_words, theW_words, okI_kids, theI_kids, ho, hw, hdd]
      rw [nx hlt (okL_len hL), lp36 N l d g hN hL m (k + 1) _ (by omega) (by omega), drop_cons l i0 hlt, chP_cons]
      rw [← It.eta (l.getD k i0)]
      cases decide (IntKind.wrap IntKind.i64 (n + 1) > 600) with
      | true => rfl
      | false =>
        cases decide (d > 4) with
        | true => rfl
        | false =>
          cases hc : (ckItem (l.getD k i0) != 0) with
          | true => rfl
          | false =>
            cases he : ((chP (l.getD k i0).kids (IntKind.wrap IntKind.i64 (d + 1)) (IntKind.wrap IntKind.i64 (n + 1))).1 != 0) with
            | true => simp only [cond_false, cond_true]
            | false => rfl
    · rw [lt0 hlt, List.drop_of_length_le (by omega)]
      simp only [cond_false, chP]

theorem ans36_ok {N : Nat} (hc : ∀ (l : List It) (d n : Int), dep l < N → okL l = true → CX Tryd.prog 56 [aI l, vI d, .c (.ptr 0 0), .c (.ptr 1 0)] (H36 n) (vI (chP l d n).1) (H36 (chP l d n).2)) :
    ∀ (R : Type) args H (k : AV → Hp → Option (T R)) t, ans36 (cc N) eP nP R args H k = some t → ∃ x H', k x H' = some t ∧ CX Tryd.prog 56 args H x H' := fun R args H k t h => by
  unfold ans36 at h
  split at h
  · rename_i n x d
    cases hx : cc N x with
    | false => rw [hx] at h; cases h
    | true =>
      rw [hx] at h
      unfold cc at hx
      simp only [Bool.and_eq_true, decide_eq_true_eq] at hx
      exact ⟨_, _, h, (hc (theI x) d n hx.2 hx.1.2).ge (.cons (ale_d (theI_de hx.1.1)) (.refl _)) (.refl _)⟩
  · simp at h

theorem c36 : ∀ (N : Nat) (l : List It) (d n : Int), dep l < N → okL l = true → CX Tryd.prog 56 [aI l, vI d, .c (.ptr 0 0), .c (.ptr 1 0)] (H36 n) (vI (chP l d n).1) (H36 (chP l d n).2)
  | 0, l, d, n, h, _ => by omega
  | N + 1, l, d, n, h, hL => by
    have ho : OrcOk Tryd.prog (o36 ciP (cc N) eP nP) := Orc.cons_ok (Orc.cons_ok (Orc.nil_ok _) (ans36_ok (c36 N))) (ansT_ok c37)
    refine cx_of ho Tryd.func56 b36 rfl ((ev36 ciP (cc N) eP nP l d (l.length + 1) n).trans ?_)
    exact lp36 N l d (l.length + 1) (by omega) hL (l.length + 1) 0 n (by omega) (by omega)

def chk (l : List It) : Int := (chP l 0 0).1
theorem c16 (l : List It) (hL : okL l = true) : CX Tryd.prog 28 [aI l] [] (vI (chk l)) [] := by
  have ho : OrcOk Tryd.prog (o16 (cc (dep l + 1)) eP nP) := Orc.cons_ok (Orc.nil_ok _) (ans36_ok (c36 (dep l + 1)))
  refine cx_of ho Tryd.func28 b16 rfl ((ev16 (cc (dep l + 1)) eP nP l).trans ?_)
  simp only [cc, eP, okI_items, theI_items, hL, Bool.true_and]
  rw [decide_eq_true (Nat.lt_succ_self _)]
  rfl

end Go.Proofs.YthmapnolgdpkbaaDoor.ck
namespace Go.Proofs.YthmapnolgdpkbaaDoor.de
open Go.RowKit Go.Eb Go.Proofs.YthmapnolgdpkbaaDoor.st
set_option maxRecDepth 100000
open Go.Proofs.YthmapnolgdpkbaaDoor.wd (numS rN c11)

noncomputable def b0Of (ll : List SLine) (sl : List SSrc) (y : It) : SBay :=
  bif same (tx y 2) tLine' then ⟨tx y 1, 1, idxS SLine.name (tx y 3) ll 0, (numS (tx y 4)).1, 0, 0, [], true, 0, 0, 0, 0⟩
  else bif same (tx y 2) tSource then ⟨tx y 1, 2, idxS SSrc.name (tx y 3) sl 0, 0, 0, 0, [], true, 0, 0, 0, 0⟩
  else ⟨tx y 1, 3, 0, 0, (numS (tx y 3)).1, (numS (tx y 4)).1, [], true, 0, 0, 0, 0⟩
noncomputable def bayOf (nl : List ByteArray) (ll : List SLine) (sl : List SSrc) (y : It) : SBay := kidsR nl y.kids (b0Of ll sl y)
structure BayOk (s : SSta) (b : SBay) (yl : List SBay) (mpa : Sn) : Prop where
  h1 : s.buses.length ≤ 900
  h2 : s.lines.length ≤ 900
  h3 : s.srcs.length ≤ 900
  h4 : yl.length < 16
  he : bayErrD s.buses.length s.lines.length s.srcs.length (boolOf (assoc mpa (.string b.name))) yl b = 0
  hlk : ∀ l ∈ b.links, LinkOk s.buses l
  hL : b.kind = 1 → idxS SLine.name (s.lines.getD b.off.toNat line0).name s.lines 0 = b.off
  hS : b.kind = 2 → idxS SSrc.name (s.srcs.getD b.off.toNat src0).name s.srcs 0 = b.off
theorem bayOf_enc {s : SSta} {b : SBay} {yl : List SBay} {mpa : Sn} (h : BayOk s b yl mpa) : bayOf s.buses s.lines s.srcs (encBay s b) = b := by
  obtain ⟨hk, hr, _, ho3, hle⟩ := bay_facts h.he
  obtain ⟨hll, _⟩ := links_len hle
  obtain ⟨r1, r2, r3, r4, r5, r6, r7, r8, r9, r10⟩ := rng_facts hr
  have key : ∀ b0 : SBay, b0Of s.lines s.srcs (encBay s b) = b0 → b0.links = [] → b0.name = b.name → b0.kind = b.kind → b0.off = b.off → b0.fin = b.fin → b0.zr = b.zr → b0.zx = b.zx → b0.closed = true → b0.vt = 0 → b0.sat = 0 → bayOf s.buses s.lines s.srcs (encBay s b) = b := by
    intro b0 h0 hl0 e1 e2 e3 e4 e5 e6 c0 v0 a0
    unfold bayOf
    rw [h0]
    exact (kids_ok s b numDec r1 r2 r3 r4 h.hlk hll b0 hl0).2.1.trans (back b b0 e1 e2 e3 e4 e5 e6 c0 v0 a0 r8)
  rcases hk with k | k | k
  · have hx : encBay s b = xB [tBay', b.name, tLine', (s.lines.getD b.off.toNat line0).name, dec b.fin] (bayK s b) := by
      unfold encBay bayW
      rw [k]; rfl
    obtain ⟨z1, z2⟩ := r10 (by omega)
    refine key ⟨b.name, 1, b.off, b.fin, 0, 0, [], true, 0, 0, 0, 0⟩ ?_ rfl rfl k.symm rfl rfl z1.symm z2.symm rfl rfl rfl
    rw [hx]
    unfold b0Of
    show (bif same tLine' tLine' then (⟨b.name, 1, idxS SLine.name (s.lines.getD b.off.toNat line0).name s.lines 0, (numS (dec b.fin)).1, 0, 0, [], true, 0, 0, 0, 0⟩ : SBay) else _) = _
    rw [sre, cond_true, h.hL k, numDec.f r5]
  · have hx : encBay s b = xB [tBay', b.name, tSource, (s.srcs.getD b.off.toNat src0).name] (bayK s b) := by
      unfold encBay bayW
      rw [k]; rfl
    obtain ⟨z1, z2⟩ := r10 (by omega)
    refine key ⟨b.name, 2, b.off, 0, 0, 0, [], true, 0, 0, 0, 0⟩ ?_ rfl rfl k.symm rfl (r9 (by omega)).symm z1.symm z2.symm rfl rfl rfl
    rw [hx]
    unfold b0Of
    show (bif same tSource tLine' then _ else bif same tSource tSource then (⟨b.name, 2, idxS SSrc.name (s.srcs.getD b.off.toNat src0).name s.srcs 0, 0, 0, 0, [], true, 0, 0, 0, 0⟩ : SBay) else _) = _
    rw [sne (show tSource ≠ tLine' by decide), sre, cond_false, cond_true, h.hS k]
  · have hx : encBay s b = xB [tBay', b.name, tCoupler, dec b.zr, dec b.zx] (bayK s b) := by
      unfold encBay bayW
      rw [k]; rfl
    refine key ⟨b.name, 3, 0, 0, b.zr, b.zx, [], true, 0, 0, 0, 0⟩ ?_ rfl rfl k.symm (ho3 k).symm (r9 (by omega)).symm rfl rfl rfl rfl rfl
    rw [hx]
    unfold b0Of
    show (bif same tCoupler tLine' then _ else bif same tCoupler tSource then _ else (⟨b.name, 3, 0, 0, (numS (dec b.zr)).1, (numS (dec b.zx)).1, [], true, 0, 0, 0, 0⟩ : SBay)) = _
    rw [sne (show tCoupler ≠ tLine' by decide), sne (show tCoupler ≠ tSource by decide), cond_false, cond_false, numDec.f r6, numDec.f r7]

abbrev AQ := (Unit × RIt × Unit) × AD
noncomputable def qB (a : AQ) : List ByteArray := theC busC e0 1 a.2.2.1.1 a.2.2.1.2
noncomputable def qL (a : AQ) : List SLine := theC lineC line0 5 a.2.2.2.1.1 a.2.2.2.1.2
noncomputable def qS (a : AQ) : List SSrc := theC srcC' src0 6 a.2.2.2.2.1.1 a.2.2.2.2.1.2
noncomputable def qY (a : AQ) : List SBay := theC bayC bay0 12 a.2.2.2.2.2.1.1 a.2.2.2.2.2.1.2
noncomputable def qI (a : AQ) : It := theIt a.1.2.1
noncomputable def qX (a : AQ) : SBay := bayOf (qB a) (qL a) (qS a) (qI a)
def qP (a : AQ) : Prop := ∃ (s : SSta) (b : SBay), s.buses = qB a ∧ s.lines = qL a ∧ s.srcs = qS a ∧ qI a = encBay s b ∧ BayOk s b (qY a) a.2.2.2.2.2.2.1
noncomputable def qOk (a : AQ) : Bool := okI (ydOf a.1.2.1) && (eqs a.2 && (okE (listD 1 busC e0) (.sl 1 a.2.2.1.1 a.2.2.1.2) && (okE (listD 5 lineC line0) (.sl 5 a.2.2.2.1.1 a.2.2.2.1.2) && (okE (listD 6 srcC' src0) (.sl 6 a.2.2.2.2.1.1 a.2.2.2.2.1.2) && (okE (listD 12 bayC bay0) (.sl 12 a.2.2.2.2.2.1.1 a.2.2.2.2.2.1.2) && @decide (qP a) (Classical.propDecidable _))))))
noncomputable def zD : KD where
  okf := okG enF cF
  fn := fun x => (rFm x).1.length
  fv := fun x i => (rFm x).1.getD i 0
  fo := fun x => (rFm x).2
  nk := nameOk
  okc := okG (en1 (aD itemsD)) fun l => Go.Eb.okL l
  ck := fun x => ck.chk (theT (en1 (aD itemsD)) x)
  okq := qOk
  lq := fun _ => 0
  mq := fun a => (.string (qX a).name, .bool true) :: a.2.2.2.2.2.2.1
  gq := fun a => appF (qY a).length (cnB (qY a)) (chunk (bayC (qX a)) 12)
  c1 := fun n f => rB (theC busC e0 1 n f)
  c5 := fun n f => rL (theC lineC line0 5 n f)
  c6 := fun n f => rS (theC srcC' src0 6 n f)
end Go.Proofs.YthmapnolgdpkbaaDoor.de
namespace Go.Proofs.YthmapnolgdpkbaaDoor.de
open Go.RowKit Go.Eb Go.Proofs.YthmapnolgdpkbaaDoor.st
set_option maxRecDepth 100000
open Go.Proofs.YthmapnolgdpkbaaDoor.wd (numS rN c11)

theorem ble_can {β : Type} {c : β → List D} {d0 : β} {sz n : Nat} {t : TypeId} {f : Nat → List D} (h : okE (listD sz c d0) (.sl sz n f) = true) : n = (theC c d0 sz n f).length ∧ Ble (.row n f sz t) (.row (theC c d0 sz n f).length (fun i => c ((theC c d0 sz n f).getD i d0)) sz t) := ⟨(RL.of_ok h).1, ble_of_ok h⟩
theorem sBy : AnsS Tryd.prog 62 (ansD dRB zD.okq (fun a => .tup [pI (zD.lq a), pI 0]) (hq zD.mq zD.gq zD.c1 zD.c5 zD.c6)) := .d fun a h => by
  replace h : qOk a = true := h
  unfold qOk at h
  simp only [Bool.and_eq_true, decide_eq_true_eq] at h
  obtain ⟨h1, h2, h3, h4, h5, h6, s, b, e1, e2, e3, e4, hb⟩ := h
  have hbe := bayOf_enc hb
  obtain ⟨he, g1, g2, g3, g4⟩ := enc55 (((), (e0, 0, 0, 0, 0, 0, dB false, false, 0, 0, 0, 0, ()), ()), a.2) h2
  replace he : (dRB.enc a).2 = HD a.2.1.1 a.2.2.1.1 a.2.2.1.2 a.2.2.2.1.1 a.2.2.2.1.2 a.2.2.2.2.1.1 a.2.2.2.2.1.2 a.2.2.2.2.2.1.1 a.2.2.2.2.2.1.2 a.2.2.2.2.2.2.1 a.2.1.2.2.2.2.2.2.1 := he
  obtain ⟨n1, b1⟩ := ble_can (t := 9) h3
  obtain ⟨n2, b2⟩ := ble_can (t := 50) h4
  obtain ⟨n3, b3⟩ := ble_can (t := 53) h5
  obtain ⟨n4, b4⟩ := ble_can (t := 44) h6
  have hx : qX a = b := by
    unfold qX
    rw [e4, ← e1, ← e2, ← e3]
    exact hbe
  have hc := crb s b a.2.1.1 (qY a) a.2.2.2.2.2.2.1 a.2.1.2.2.2.2.2.2.1 hb.h1 hb.h2 hb.h3 hb.h4 hb.he hb.hlk hb.hL hb.hS
  have hA := arg_le h1
  rw [show theIt a.1.2.1 = encBay s b from e4] at hA
  have hm : hq zD.mq zD.gq zD.c1 zD.c5 zD.c6 a = H33 b a.2.1.1 s.buses.length (rB s.buses) s.lines.length (rL s.lines) s.srcs.length (rS s.srcs) (qY a) a.2.2.2.2.2.2.1 a.2.1.2.2.2.2.2.2.1 := by
    have m1 : zD.mq a = (.string b.name, .bool true) :: a.2.2.2.2.2.2.1 := by
      show (Value.string (qX a).name, Value.bool true) :: _ = _
      rw [hx]
    have m2 : zD.gq a = appF (qY a).length (cnB (qY a)) (chunk (bayC b) 12) := by
      show appF (qY a).length (cnB (qY a)) (chunk (bayC (qX a)) 12) = _
      rw [hx]
    have m3 : zD.c1 a.2.2.1.1 a.2.2.1.2 = rB s.buses := by rw [e1]; rfl
    have m4 : zD.c5 a.2.2.2.1.1 a.2.2.2.1.2 = rL s.lines := by rw [e2]; rfl
    have m5 : zD.c6 a.2.2.2.2.1.1 a.2.2.2.2.1.2 = rS s.srcs := by rw [e3]; rfl
    have l1 : a.2.2.1.1 = s.buses.length := by rw [e1]; exact n1
    have l2 : a.2.2.2.1.1 = s.lines.length := by rw [e2]; exact n2
    have l3 : a.2.2.2.2.1.1 = s.srcs.length := by rw [e3]; exact n3
    have l4 : a.2.2.2.2.2.1.1 = (qY a).length := n4
    unfold hq H33
    rw [m1, m2, m3, m4, m5, l1, l2, l3, l4]
  rw [hm]
  refine hc.ge (.cons (.refl _) (.cons hA .nil)) ?_
  rw [he]
  have q1 : Ble (.row a.2.2.1.1 a.2.2.1.2 1 9) (.row s.buses.length (rB s.buses) 1 9) := by rw [e1]; exact b1
  have q2 : Ble (.row a.2.2.2.1.1 a.2.2.2.1.2 5 50) (.row s.lines.length (rL s.lines) 5 50) := by rw [e2]; exact b2
  have q3 : Ble (.row a.2.2.2.2.1.1 a.2.2.2.2.1.2 6 53) (.row s.srcs.length (rS s.srcs) 6 53) := by rw [e3]; exact b3
  have l1 : a.2.2.1.1 = s.buses.length := by rw [e1]; exact n1
  have l2 : a.2.2.2.1.1 = s.lines.length := by rw [e2]; exact n2
  have l3 : a.2.2.2.2.1.1 = s.srcs.length := by rw [e3]; exact n3
  have l4 : a.2.2.2.2.2.1.1 = (qY a).length := n4
  refine .cons ?_ (.cons q1 (.cons q2 (.cons q3 (.cons b4 (.cons (.refl _) .nil)))))
  rw [l1, l2, l3, l4]
  exact .refl _
theorem sRd1 : OrcS Tryd.prog (oRd1 zD) := sFm (.cons (.inl sNam Tryd.func41 (by kernel_rfl)) (.cons (.inl sIm Tryd.func43 (by kernel_rfl)) (.cons (.inl sIm Tryd.func45 (by kernel_rfl)) sNm)))
theorem sRd2 : OrcS Tryd.prog (oRd2 zD) := .cons (.inl sRd1 Tryd.func58 (by kernel_rfl)) (.cons (.inl sRd1 Tryd.func59 (by kernel_rfl)) (.cons (.inl sRd1 Tryd.func60 (by kernel_rfl)) (.cons (.inl sRd1 Tryd.func61 (by kernel_rfl)) (.cons sBy .nil))))
theorem sCk : AnsS Tryd.prog 28 (ansG zD.okc fun x => vI (zD.ck x)) := AnsS.t' (r := fun l : List It => vI (ck.chk l)) fun l h => ck.c16 l h
theorem sDe : OrcS Tryd.prog (oDe zD) := .cons sCk (.cons (.inl .nil Tryd.func29 (by kernel_rfl)) (.cons (.inl sRd2 Tryd.func30 (by kernel_rfl)) .nil))
end Go.Proofs.YthmapnolgdpkbaaDoor.de
namespace Go.Proofs.YthmapnolgdpkbaaDoor.de
open Go.RowKit Go.Eb Go.Proofs.YthmapnolgdpkbaaDoor.st
set_option maxRecDepth 100000
open Go.Proofs.YthmapnolgdpkbaaDoor.wd (numS rN c11)

theorem yo (x : It) (ks : ByteArray) (b : Bool) (h : x.words.length ≤ 2000) : KD.okf zD [AV.agg (List.map C.d (icells x)), AV.c (C.d (D.v (Value.string ks))), AV.c (C.d (D.v (Value.bool b)))] = true := fmo x ks b h
theorem yf (x : It) (ks : ByteArray) (b : Bool) : KD.fo zD [AV.agg (List.map C.d (icells x)), AV.c (C.d (D.v (Value.string ks))), AV.c (C.d (D.v (Value.bool b)))] = (formR x ks b).2 := by rw [← fmr]; rfl
theorem yn (x : It) (ks : ByteArray) (b : Bool) : KD.fn zD [AV.agg (List.map C.d (icells x)), AV.c (C.d (D.v (Value.string ks))), AV.c (C.d (D.v (Value.bool b)))] = (formR x ks b).1.length := by rw [← fmr]; rfl
theorem yv (x : It) (ks : ByteArray) (b : Bool) (i : Nat) : KD.fv zD [AV.agg (List.map C.d (icells x)), AV.c (C.d (D.v (Value.string ks))), AV.c (C.d (D.v (Value.bool b)))] i = (formR x ks b).1.getD i 0 := by rw [← fmr]; rfl
theorem ynk (s : ByteArray) : KD.nk zD s = nameOk s := rfl
section
variable (l : List It) (g m : Nat) (n2 : Nat) (f2 : Nat → List D) (n3 : Nat) (f3 : Nat → List D) (n4 : Nat) (f4 : Nat → List D) (n5 : Nat) (f5 : Nat → List D) (mpa : Sn) (k : Nat) (x0 x1 : ByteArray) (nd : Bool)
theorem LD_sta (nm : ByteArray) (hk : k < l.length) (hl : l.length ≤ 9000) (hy : l.getD k i0 = say [tStation, nm]) (hn : nameOk nm = true) :
    Ldco_5 zD l g (m + 1) n2 f2 n3 f3 n4 f4 n5 f5 mpa k x0 x1 false = Ldco_5 zD l g m n2 f2 n3 f3 n4 f4 n5 f5 mpa ((k + 1 : Nat) : Int) x0 nm true := by
  rw [stdco_5]
  have c0 : decide ((0 : Int) < ((It.words (say [tStation, nm])).length : Int)) = true := rfl
  have c1 : decide ((1 : Int) < ((It.words (say [tStation, nm])).length : Int)) = true := rfl
  have d0 : decide ((0 : Int) ≤ 0) = true := rfl
  have d1 : decide ((0 : Int) ≤ 1) = true := rfl
  have w0' : Wd.text (List.getD (It.words (say [tStation, nm])) (Int.toNat (0 : Int)) w0) = tStation := rfl
  have w1' : Wd.text (List.getD (It.words (say [tStation, nm])) (Int.toNat (1 : Int)) w0) = nm := rfl
  have t1 : (ByteArray.toList tStation == ByteArray.toList (ByteArray.mk #[(115 : UInt8), (116 : UInt8), (97 : UInt8), (116 : UInt8), (105 : UInt8), (111 : UInt8), (110 : UInt8)])) = true := by rw [strEq]; exact sre _
  rw [lt1 hk, ge0, tn, nx hk (show l.length ≤ 9223372036854775807 by omega), hy, c0, c1, d0, d1, w0', w1', t1, yo _ _ _ (by show 2 ≤ 2000; omega), yf, form_ww, ynk, hn]
  rfl
theorem LD_bus (nm : ByteArray) (hk : k < l.length) (hl : l.length ≤ 9000) (hy : l.getD k i0 = say [tBus', nm]) (hn : nameOk nm = true) (h4 : n2 < 4) (hm : boolOf (assoc mpa (.string nm)) = false) :
    Ldco_5 zD l g (m + 1) n2 f2 n3 f3 n4 f4 n5 f5 mpa k x0 x1 nd = Ldco_5 zD l g m (n2 + 1) (appF n2 f2 (chunk (busC nm) 1)) n3 f3 n4 f4 n5 f5 ((.string nm, .bool true) :: mpa) ((k + 1 : Nat) : Int) x0 x1 nd := by
  rw [stdco_5]
  have c0 : decide ((0 : Int) < ((It.words (say [tBus', nm])).length : Int)) = true := rfl
  have c1 : decide ((1 : Int) < ((It.words (say [tBus', nm])).length : Int)) = true := rfl
  have d0 : decide ((0 : Int) ≤ 0) = true := rfl
  have d1 : decide ((0 : Int) ≤ 1) = true := rfl
  have w0' : Wd.text (List.getD (It.words (say [tBus', nm])) (Int.toNat (0 : Int)) w0) = tBus' := rfl
  have w1' : Wd.text (List.getD (It.words (say [tBus', nm])) (Int.toNat (1 : Int)) w0) = nm := rfl
  have t1 : (ByteArray.toList tBus' == ByteArray.toList (ByteArray.mk #[(115 : UInt8), (116 : UInt8), (97 : UInt8), (116 : UInt8), (105 : UInt8), (111 : UInt8), (110 : UInt8)])) = false := by rw [strEq]; exact sne (by decide)
  have t2 : (ByteArray.toList tBus' == ByteArray.toList (ByteArray.mk #[(98 : UInt8), (117 : UInt8), (115 : UInt8)])) = true := by rw [strEq]; exact sre _
  have hn4 : ((n2 : Int) == (4 : Int)) = false := by
    cases e : ((n2 : Int) == (4 : Int)) with
    | false => rfl
    | true => have := eq_of_beq e; omega
  have ap : (decide ((n2 + 1) * 16 ≤ 140737488355328) && decide (n2 + 1 ≤ 9223372036854775807)) = true := by rw [decide_eq_true (by omega), decide_eq_true (by omega)]; rfl
  rw [lt1 hk, ge0, tn, nx hk (show l.length ≤ 9223372036854775807 by omega), hy, c0, c1, d0, d1, w0', w1', t1, t2, yo _ _ _ (by show 2 ≤ 2000; omega), yf, form_ww, ynk, hn, hn4, hm, ap]
  rfl
theorem LD_oth (hk : k < l.length) (hl : l.length ≤ 9000) (hw : 0 < (l.getD k i0).words.length) (h1 : hd (l.getD k i0) ≠ tStation) (h2 : hd (l.getD k i0) ≠ tBus') (h3 : hd (l.getD k i0) ≠ tLine') (h4 : hd (l.getD k i0) ≠ tSource) (h5 : hd (l.getD k i0) ≠ tBay') :
    Ldco_5 zD l g (m + 1) n2 f2 n3 f3 n4 f4 n5 f5 mpa k x0 x1 nd = Ldco_5 zD l g m n2 f2 n3 f3 n4 f4 n5 f5 mpa ((k + 1 : Nat) : Int) x0 x1 nd := by
  rw [stdco_5, lt1 hk, ge0, tn, nx hk (show l.length ≤ 9223372036854775807 by omega)]
  generalize l.getD k i0 = y at *
  have c0 : decide ((0 : Int) < ((It.words y).length : Int)) = true := decide_eq_true (by omega)
  have d0 : decide ((0 : Int) ≤ 0) = true := rfl
  have w0' : Wd.text (List.getD (It.words y) (Int.toNat (0 : Int)) w0) = hd y := rfl
  have t1 : (ByteArray.toList (hd y) == ByteArray.toList (ByteArray.mk #[(115 : UInt8), (116 : UInt8), (97 : UInt8), (116 : UInt8), (105 : UInt8), (111 : UInt8), (110 : UInt8)])) = false := by rw [strEq]; exact sne h1
  have t2 : (ByteArray.toList (hd y) == ByteArray.toList (ByteArray.mk #[(98 : UInt8), (117 : UInt8), (115 : UInt8)])) = false := by rw [strEq]; exact sne h2
  have t3 : (ByteArray.toList (hd y) == ByteArray.toList (ByteArray.mk #[(108 : UInt8), (105 : UInt8), (110 : UInt8), (101 : UInt8)])) = false := by rw [strEq]; exact sne h3
  have t4 : (ByteArray.toList (hd y) == ByteArray.toList (ByteArray.mk #[(115 : UInt8), (111 : UInt8), (117 : UInt8), (114 : UInt8), (99 : UInt8), (101 : UInt8)])) = false := by rw [strEq]; exact sne h4
  have t5 : (ByteArray.toList (hd y) == ByteArray.toList (ByteArray.mk #[(98 : UInt8), (97 : UInt8), (121 : UInt8)])) = false := by rw [strEq]; exact sne h5
  rw [c0, d0, w0', t1, t2, t3, t4, t5]
  rfl
theorem LD_bay (y : It) (mx : Sn) (fx : Nat → List D) (hk : k < l.length) (hl : l.length ≤ 9000) (hy : l.getD k i0 = y) (hw : 0 < y.words.length) (h5 : hd y = tBay')
    (ho : KD.okq zD (((), (It.line y, wordsD (It.words y), It.block y, kidsD y, ()), ()), (x1, n2, n3, n4, n5, (), nd, ()), (n2, f2), (n3, f3), (n4, f4), (n5, f5), mpa, ()) = true)
    (hg : KD.gq zD (((), (It.line y, wordsD (It.words y), It.block y, kidsD y, ()), ()), (x1, n2, n3, n4, n5, (), nd, ()), (n2, f2), (n3, f3), (n4, f4), (n5, f5), mpa, ()) = fx)
    (hq' : KD.mq zD (((), (It.line y, wordsD (It.words y), It.block y, kidsD y, ()), ()), (x1, n2, n3, n4, n5, (), nd, ()), (n2, f2), (n3, f3), (n4, f4), (n5, f5), mpa, ()) = mx) :
    Ldco_5 zD l g (m + 1) n2 f2 n3 f3 n4 f4 n5 f5 mpa k x0 x1 nd = Ldco_5 zD l g m n2 (rB (theC busC e0 1 n2 f2)) n3 (rL (theC lineC line0 5 n3 f3)) n4 (rS (theC srcC' src0 6 n4 f4)) (n5 + 1) fx mx ((k + 1 : Nat) : Int) x0 x1 nd := by
  rw [stdco_5, lt1 hk, ge0, tn, nx hk (show l.length ≤ 9223372036854775807 by omega), hy]
  have c0 : decide ((0 : Int) < ((It.words y).length : Int)) = true := decide_eq_true (by omega)
  have d0 : decide ((0 : Int) ≤ 0) = true := rfl
  have w0' : Wd.text (List.getD (It.words y) (Int.toNat (0 : Int)) w0) = tBay' := h5
  have t1 : (ByteArray.toList tBay' == ByteArray.toList (ByteArray.mk #[(115 : UInt8), (116 : UInt8), (97 : UInt8), (116 : UInt8), (105 : UInt8), (111 : UInt8), (110 : UInt8)])) = false := by rw [strEq]; exact sne (by decide)
  have t2 : (ByteArray.toList tBay' == ByteArray.toList (ByteArray.mk #[(98 : UInt8), (117 : UInt8), (115 : UInt8)])) = false := by rw [strEq]; exact sne (by decide)
  have t3 : (ByteArray.toList tBay' == ByteArray.toList (ByteArray.mk #[(108 : UInt8), (105 : UInt8), (110 : UInt8), (101 : UInt8)])) = false := by rw [strEq]; exact sne (by decide)
  have t4 : (ByteArray.toList tBay' == ByteArray.toList (ByteArray.mk #[(115 : UInt8), (111 : UInt8), (117 : UInt8), (114 : UInt8), (99 : UInt8), (101 : UInt8)])) = false := by rw [strEq]; exact sne (by decide)
  have t5 : (ByteArray.toList tBay' == ByteArray.toList (ByteArray.mk #[(98 : UInt8), (97 : UInt8), (121 : UInt8)])) = true := by rw [strEq]; exact sre _
  rw [c0, d0, w0', t1, t2, t3, t4, t5, ho, hg, hq']
  rfl
end
end Go.Proofs.YthmapnolgdpkbaaDoor.de
namespace Go.Proofs.YthmapnolgdpkbaaDoor.de
open Go.RowKit Go.Eb Go.Proofs.YthmapnolgdpkbaaDoor.st
set_option maxRecDepth 100000
open Go.Proofs.YthmapnolgdpkbaaDoor.wd (numS rN c11)

theorem form_line (w n a b c d : ByteArray) (ha : (numS a).2 = true) (hb : (numS b).2 = true) (hc : (numS c).2 = true) (hd : (numS d).2 = true) : formR (say [w, n, a, b, c, d]) (ByteArray.mk #[119, 119, 110, 110, 110, 110]) false = ([(numS a).1, (numS b).1, (numS c).1, (numS d).1], true) := by
  have e1 : formS (say [w, n, a, b, c, d]).words (ByteArray.mk #[119, 119, 110, 110, 110, 110]).data.toList = ([(numS a).1, (numS b).1, (numS c).1, (numS d).1], true) := by
    have s4 : formS [⟨d, false⟩] [110] = ([(numS d).1], true) := by
      show (bif !(numS d).2 then (([] : List Int), false) else ([(numS d).1], true)) = _
      rw [hd]; rfl
    have s3 : formS [⟨c, false⟩, ⟨d, false⟩] [110, 110] = ([(numS c).1, (numS d).1], true) := by
      show (bif !(numS c).2 then (([] : List Int), false) else ((numS c).1 :: (formS [⟨d, false⟩] [110]).1, (formS [⟨d, false⟩] [110]).2)) = _
      rw [hc, s4]; rfl
    have s2 : formS [⟨b, false⟩, ⟨c, false⟩, ⟨d, false⟩] [110, 110, 110] = ([(numS b).1, (numS c).1, (numS d).1], true) := by
      show (bif !(numS b).2 then (([] : List Int), false) else ((numS b).1 :: (formS [⟨c, false⟩, ⟨d, false⟩] [110, 110]).1, (formS [⟨c, false⟩, ⟨d, false⟩] [110, 110]).2)) = _
      rw [hb, s3]; rfl
    show (bif !(numS a).2 then (([] : List Int), false) else ((numS a).1 :: (formS [⟨b, false⟩, ⟨c, false⟩, ⟨d, false⟩] [110, 110, 110]).1, (formS [⟨b, false⟩, ⟨c, false⟩, ⟨d, false⟩] [110, 110, 110]).2)) = _
    rw [ha, s2]; rfl
  unfold formR
  rw [e1]; rfl
theorem form_src (w n z a b c d : ByteArray) (hz : (numS z).2 = true) (ha : (numS a).2 = true) (hb : (numS b).2 = true) (hc : (numS c).2 = true) (hd : (numS d).2 = true) : formR (say [w, n, z, a, b, c, d]) (ByteArray.mk #[119, 119, 110, 110, 110, 110, 110]) false = ([(numS z).1, (numS a).1, (numS b).1, (numS c).1, (numS d).1], true) := by
  have e1 : formS (say [w, n, z, a, b, c, d]).words (ByteArray.mk #[119, 119, 110, 110, 110, 110, 110]).data.toList = ([(numS z).1, (numS a).1, (numS b).1, (numS c).1, (numS d).1], true) := by
    have s4 : formS [⟨d, false⟩] [110] = ([(numS d).1], true) := by
      show (bif !(numS d).2 then (([] : List Int), false) else ([(numS d).1], true)) = _
      rw [hd]; rfl
    have s3 : formS [⟨c, false⟩, ⟨d, false⟩] [110, 110] = ([(numS c).1, (numS d).1], true) := by
      show (bif !(numS c).2 then (([] : List Int), false) else ((numS c).1 :: (formS [⟨d, false⟩] [110]).1, (formS [⟨d, false⟩] [110]).2)) = _
      rw [hc, s4]; rfl
    have s2 : formS [⟨b, false⟩, ⟨c, false⟩, ⟨d, false⟩] [110, 110, 110] = ([(numS b).1, (numS c).1, (numS d).1], true) := by
      show (bif !(numS b).2 then (([] : List Int), false) else ((numS b).1 :: (formS [⟨c, false⟩, ⟨d, false⟩] [110, 110]).1, (formS [⟨c, false⟩, ⟨d, false⟩] [110, 110]).2)) = _
      rw [hb, s3]; rfl
    have s1 : formS [⟨a, false⟩, ⟨b, false⟩, ⟨c, false⟩, ⟨d, false⟩] [110, 110, 110, 110] = ([(numS a).1, (numS b).1, (numS c).1, (numS d).1], true) := by
      show (bif !(numS a).2 then (([] : List Int), false) else ((numS a).1 :: (formS [⟨b, false⟩, ⟨c, false⟩, ⟨d, false⟩] [110, 110, 110]).1, (formS [⟨b, false⟩, ⟨c, false⟩, ⟨d, false⟩] [110, 110, 110]).2)) = _
      rw [ha, s2]; rfl
    show (bif !(numS z).2 then (([] : List Int), false) else ((numS z).1 :: (formS [⟨a, false⟩, ⟨b, false⟩, ⟨c, false⟩, ⟨d, false⟩] [110, 110, 110, 110]).1, (formS [⟨a, false⟩, ⟨b, false⟩, ⟨c, false⟩, ⟨d, false⟩] [110, 110, 110, 110]).2)) = _
    rw [hz, s1]; rfl
  unfold formR
  rw [e1]; rfl
theorem imp_facts {r x : Int} (h : impOk r x = true) : 0 ≤ r ∧ r ≤ 1000 ∧ 1 ≤ x ∧ x ≤ 1000 := by
  unfold impOk within at h
  simp at h
  omega
section
variable (l : List It) (g m : Nat) (n2 : Nat) (f2 : Nat → List D) (n3 : Nat) (f3 : Nat → List D) (n4 : Nat) (f4 : Nat → List D) (n5 : Nat) (f5 : Nat → List D) (mpa : Sn) (k : Nat) (x0 x1 : ByteArray) (nd : Bool)
theorem LD_line (L : SLine) (hk : k < l.length) (hl : l.length ≤ 9000) (hy : l.getD k i0 = encLine L) (hn : nameOk L.name = true) (h6 : n3 < 6) (hm : boolOf (assoc mpa (.string L.name)) = false) (i1 : impOk L.r1 L.x1 = true) (i2 : impOk L.r0 L.x0 = true) :
    Ldco_5 zD l g (m + 1) n2 f2 n3 f3 n4 f4 n5 f5 mpa k x0 x1 nd = Ldco_5 zD l g m n2 f2 (n3 + 1) (appF n3 f3 (chunk (lineC L) 5)) n4 f4 n5 f5 ((.string L.name, .bool true) :: mpa) ((k + 1 : Nat) : Int) x0 x1 nd := by
  obtain ⟨p1, p2, p3, p4⟩ := imp_facts i1
  obtain ⟨p5, p6, p7, p8⟩ := imp_facts i2
  have q1 : nOk L.r1 := ⟨by omega, by omega⟩
  have q2 : nOk L.x1 := ⟨by omega, by omega⟩
  have q3 : nOk L.r0 := ⟨by omega, by omega⟩
  have q4 : nOk L.x0 := ⟨by omega, by omega⟩
  replace hy : l.getD k i0 = say [tLine', L.name, dec L.r1, dec L.x1, dec L.r0, dec L.x0] := hy
  rw [stdco_5]
  have fr := form_line tLine' L.name (dec L.r1) (dec L.x1) (dec L.r0) (dec L.x0) (numDec.s q1) (numDec.s q2) (numDec.s q3) (numDec.s q4)
  rw [numDec.f q1, numDec.f q2, numDec.f q3, numDec.f q4] at fr
  generalize hY : say [tLine', L.name, dec L.r1, dec L.x1, dec L.r0, dec L.x0] = Y at hy fr
  have hwl : (It.words Y).length = 6 := by rw [← hY]; rfl
  have w0' : Wd.text (List.getD (It.words Y) (Int.toNat (0 : Int)) w0) = tLine' := by rw [← hY]; rfl
  have w1' : Wd.text (List.getD (It.words Y) (Int.toNat (1 : Int)) w0) = L.name := by rw [← hY]; rfl
  have t1 : (ByteArray.toList tLine' == ByteArray.toList (ByteArray.mk #[(115 : UInt8), (116 : UInt8), (97 : UInt8), (116 : UInt8), (105 : UInt8), (111 : UInt8), (110 : UInt8)])) = false := by rw [strEq]; exact sne (by decide)
  have t2 : (ByteArray.toList tLine' == ByteArray.toList (ByteArray.mk #[(98 : UInt8), (117 : UInt8), (115 : UInt8)])) = false := by rw [strEq]; exact sne (by decide)
  have t3 : (ByteArray.toList tLine' == ByteArray.toList (ByteArray.mk #[(108 : UInt8), (105 : UInt8), (110 : UInt8), (101 : UInt8)])) = true := by rw [strEq]; exact sre _
  have hn6 : ((n3 : Int) == (6 : Int)) = false := by
    cases e : ((n3 : Int) == (6 : Int)) with
    | false => rfl
    | true => have := eq_of_beq e; omega
  have ap : (decide ((n3 + 1) * 48 ≤ 140737488355328) && decide (n3 + 1 ≤ 9223372036854775807)) = true := by rw [decide_eq_true (by omega), decide_eq_true (by omega)]; rfl
  have v0 : ([L.r1, L.x1, L.r0, L.x0] : List Int).getD (Int.toNat 0) 0 = L.r1 := rfl
  have v1 : ([L.r1, L.x1, L.r0, L.x0] : List Int).getD (Int.toNat 1) 0 = L.x1 := rfl
  have v2 : ([L.r1, L.x1, L.r0, L.x0] : List Int).getD (Int.toNat 2) 0 = L.r0 := rfl
  have v3 : ([L.r1, L.x1, L.r0, L.x0] : List Int).getD (Int.toNat 3) 0 = L.x0 := rfl
  rw [lt1 hk, ge0, tn, nx hk (show l.length ≤ 9223372036854775807 by omega), hy, hwl, w0', w1', t1, t2, t3, yo Y (ByteArray.mk #[119, 119, 110, 110, 110, 110]) _ (by omega), yf Y (ByteArray.mk #[119, 119, 110, 110, 110, 110]), yn Y (ByteArray.mk #[119, 119, 110, 110, 110, 110]), yv Y (ByteArray.mk #[119, 119, 110, 110, 110, 110]), yv Y (ByteArray.mk #[119, 119, 110, 110, 110, 110]), yv Y (ByteArray.mk #[119, 119, 110, 110, 110, 110]), yv Y (ByteArray.mk #[119, 119, 110, 110, 110, 110]), fr, v0, v1, v2, v3, ynk, hn, hn6, hm, ap,
    decide_eq_true (show L.r1 ≥ 0 from p1), decide_eq_true p2, decide_eq_true (show L.x1 ≥ 1 from p3), decide_eq_true p4, decide_eq_true (show L.r0 ≥ 0 from p5), decide_eq_true p6, decide_eq_true (show L.x0 ≥ 1 from p7), decide_eq_true p8]
  rfl
theorem LD_src (L : SSrc) (hk : k < l.length) (hl : l.length ≤ 9000) (hy : l.getD k i0 = encSrc L) (hn : nameOk L.name = true) (h6 : n4 < 4) (hm : boolOf (assoc mpa (.string L.name)) = false) (i1 : impOk L.r1 L.x1 = true) (i2 : impOk L.r0 L.x0 = true) (iz : within L.emf 1 1000000 = true) :
    Ldco_5 zD l g (m + 1) n2 f2 n3 f3 n4 f4 n5 f5 mpa k x0 x1 nd = Ldco_5 zD l g m n2 f2 n3 f3 (n4 + 1) (appF n4 f4 (chunk (srcC' L) 6)) n5 f5 ((.string L.name, .bool true) :: mpa) ((k + 1 : Nat) : Int) x0 x1 nd := by
  obtain ⟨p1, p2, p3, p4⟩ := imp_facts i1
  obtain ⟨p5, p6, p7, p8⟩ := imp_facts i2
  have ⟨z1, z2⟩ : 1 ≤ L.emf ∧ L.emf ≤ 1000000 := by unfold within at iz; simp at iz; omega
  have q0 : nOk L.emf := ⟨by omega, by omega⟩
  have q1 : nOk L.r1 := ⟨by omega, by omega⟩
  have q2 : nOk L.x1 := ⟨by omega, by omega⟩
  have q3 : nOk L.r0 := ⟨by omega, by omega⟩
  have q4 : nOk L.x0 := ⟨by omega, by omega⟩
  replace hy : l.getD k i0 = say [tSource, L.name, dec L.emf, dec L.r1, dec L.x1, dec L.r0, dec L.x0] := hy
  rw [stdco_5]
  have fr := form_src tSource L.name (dec L.emf) (dec L.r1) (dec L.x1) (dec L.r0) (dec L.x0) (numDec.s q0) (numDec.s q1) (numDec.s q2) (numDec.s q3) (numDec.s q4)
  rw [numDec.f q0, numDec.f q1, numDec.f q2, numDec.f q3, numDec.f q4] at fr
  generalize hY : say [tSource, L.name, dec L.emf, dec L.r1, dec L.x1, dec L.r0, dec L.x0] = Y at hy fr
  have hwl : (It.words Y).length = 7 := by rw [← hY]; rfl
  have w0' : Wd.text (List.getD (It.words Y) (Int.toNat (0 : Int)) w0) = tSource := by rw [← hY]; rfl
  have w1' : Wd.text (List.getD (It.words Y) (Int.toNat (1 : Int)) w0) = L.name := by rw [← hY]; rfl
  have t1 : (ByteArray.toList tSource == ByteArray.toList (ByteArray.mk #[(115 : UInt8), (116 : UInt8), (97 : UInt8), (116 : UInt8), (105 : UInt8), (111 : UInt8), (110 : UInt8)])) = false := by rw [strEq]; exact sne (by decide)
  have t2 : (ByteArray.toList tSource == ByteArray.toList (ByteArray.mk #[(98 : UInt8), (117 : UInt8), (115 : UInt8)])) = false := by rw [strEq]; exact sne (by decide)
  have t3 : (ByteArray.toList tSource == ByteArray.toList (ByteArray.mk #[(108 : UInt8), (105 : UInt8), (110 : UInt8), (101 : UInt8)])) = false := by rw [strEq]; exact sne (by decide)
  have t4 : (ByteArray.toList tSource == ByteArray.toList (ByteArray.mk #[(115 : UInt8), (111 : UInt8), (117 : UInt8), (114 : UInt8), (99 : UInt8), (101 : UInt8)])) = true := by rw [strEq]; exact sre _
  have hn6 : ((n4 : Int) == (4 : Int)) = false := by
    cases e : ((n4 : Int) == (4 : Int)) with
    | false => rfl
    | true => have := eq_of_beq e; omega
  have ap : (decide ((n4 + 1) * 56 ≤ 140737488355328) && decide (n4 + 1 ≤ 9223372036854775807)) = true := by rw [decide_eq_true (by omega), decide_eq_true (by omega)]; rfl
  have vz : ([L.emf, L.r1, L.x1, L.r0, L.x0] : List Int).getD (Int.toNat 0) 0 = L.emf := rfl
  have v0 : ([L.emf, L.r1, L.x1, L.r0, L.x0] : List Int).getD (Int.toNat 1) 0 = L.r1 := rfl
  have v1 : ([L.emf, L.r1, L.x1, L.r0, L.x0] : List Int).getD (Int.toNat 2) 0 = L.x1 := rfl
  have v2 : ([L.emf, L.r1, L.x1, L.r0, L.x0] : List Int).getD (Int.toNat 3) 0 = L.r0 := rfl
  have v3 : ([L.emf, L.r1, L.x1, L.r0, L.x0] : List Int).getD (Int.toNat 4) 0 = L.x0 := rfl
  rw [lt1 hk, ge0, tn, nx hk (show l.length ≤ 9223372036854775807 by omega), hy, hwl, w0', w1', t1, t2, t3, t4, yo Y (ByteArray.mk #[119, 119, 110, 110, 110, 110, 110]) _ (by omega), yf Y (ByteArray.mk #[119, 119, 110, 110, 110, 110, 110]), yn Y (ByteArray.mk #[119, 119, 110, 110, 110, 110, 110]), yv Y (ByteArray.mk #[119, 119, 110, 110, 110, 110, 110]), yv Y (ByteArray.mk #[119, 119, 110, 110, 110, 110, 110]), yv Y (ByteArray.mk #[119, 119, 110, 110, 110, 110, 110]), yv Y (ByteArray.mk #[119, 119, 110, 110, 110, 110, 110]), yv Y (ByteArray.mk #[119, 119, 110, 110, 110, 110, 110]), fr, vz, v0, v1, v2, v3, ynk, hn, hn6, hm, ap,
    decide_eq_true (show L.emf ≥ 1 from z1), decide_eq_true z2, decide_eq_true (show L.r1 ≥ 0 from p1), decide_eq_true p2, decide_eq_true (show L.x1 ≥ 1 from p3), decide_eq_true p4, decide_eq_true (show L.r0 ≥ 0 from p5), decide_eq_true p6, decide_eq_true (show L.x0 ≥ 1 from p7), decide_eq_true p8]
  rfl
end
end Go.Proofs.YthmapnolgdpkbaaDoor.de
namespace Go.Proofs.YthmapnolgdpkbaaDoor.de
open Go.RowKit Go.Eb Go.Proofs.YthmapnolgdpkbaaDoor.st
set_option maxRecDepth 100000
open Go.Proofs.YthmapnolgdpkbaaDoor.wd (numS rN c11)

structure DS where
  nm : ByteArray
  nd : Bool
  nl : List ByteArray
  ll : List SLine
  sl : List SSrc
  yl : List SBay
  mpa : Sn
inductive Tg where
  | sta
  | bus (n : ByteArray)
  | line (L : SLine)
  | src (L : SSrc)
  | bay (b : SBay)
  | oth (y : It)
def Tg.enc (s : SSta) : Tg → It
  | .sta => say [tStation, s.name]
  | .bus n => encBus n
  | .line L => encLine L
  | .src L => encSrc L
  | .bay b => encBay s b
  | .oth y => y
def Tg.step (s : SSta) : Tg → DS → DS
  | .sta, d => { d with nm := s.name, nd := true }
  | .bus n, d => { d with nl := d.nl ++ [n], mpa := (.string n, .bool true) :: d.mpa }
  | .line L, d => { d with ll := d.ll ++ [L], mpa := (.string L.name, .bool true) :: d.mpa }
  | .src L, d => { d with sl := d.sl ++ [L], mpa := (.string L.name, .bool true) :: d.mpa }
  | .bay b, d => { d with yl := d.yl ++ [b], mpa := (.string b.name, .bool true) :: d.mpa }
  | .oth _, d => d
def new (d : DS) (n : ByteArray) : Prop := nameOk n = true ∧ boolOf (assoc d.mpa (.string n)) = false
def Tg.Ok (s : SSta) : Tg → DS → Prop
  | .sta, d => d.nd = false ∧ nameOk s.name = true
  | .bus n, d => new d n ∧ d.nl.length < 4
  | .line L, d => new d L.name ∧ d.ll.length < 6 ∧ impOk L.r1 L.x1 = true ∧ impOk L.r0 L.x0 = true
  | .src L, d => new d L.name ∧ d.sl.length < 4 ∧ impOk L.r1 L.x1 = true ∧ impOk L.r0 L.x0 = true ∧ within L.emf 1 1000000 = true
  | .bay b, d => d.nl = s.buses ∧ d.ll = s.lines ∧ d.sl = s.srcs ∧ BayOk s b d.yl d.mpa
  | .oth y, _ => 0 < y.words.length ∧ hd y ≠ tStation ∧ hd y ≠ tBus' ∧ hd y ≠ tLine' ∧ hd y ≠ tSource ∧ hd y ≠ tBay'
def runT (s : SSta) : List Tg → DS → DS
  | [], d => d
  | t :: r, d => runT s r (t.step s d)
def OkT (s : SSta) : List Tg → DS → Prop
  | [], _ => True
  | t :: r, d => t.Ok s d ∧ OkT s r (t.step s d)
structure RD (d : DS) (n2 : Nat) (f2 : Nat → List D) (n3 : Nat) (f3 : Nat → List D) (n4 : Nat) (f4 : Nat → List D) (n5 : Nat) (f5 : Nat → List D) : Prop where
  r2 : RL busC e0 n2 f2 d.nl
  r3 : RL lineC line0 n3 f3 d.ll
  r4 : RL srcC' src0 n4 f4 d.sl
  r5 : RL bayC bay0 n5 f5 d.yl
section
variable (s : SSta) (l : List It) (g : Nat) (x0 : ByteArray)
theorem bay_hd (b : SBay) : 0 < (encBay s b).words.length ∧ hd (encBay s b) = tBay' := by
  unfold encBay bayW hd
  cases (b.kind == 1) with
  | true => exact ⟨Nat.succ_pos _, rfl⟩
  | false =>
    cases (b.kind == 2) with
    | true => exact ⟨Nat.succ_pos _, rfl⟩
    | false => exact ⟨Nat.succ_pos _, rfl⟩
theorem LD_step (t : Tg) (d : DS) (hl : l.length ≤ 9000) (m k : Nat) {n2 : Nat} {f2 : Nat → List D} {n3 : Nat} {f3 : Nat → List D} {n4 : Nat} {f4 : Nat → List D} {n5 : Nat} {f5 : Nat → List D} (hr : RD d n2 f2 n3 f3 n4 f4 n5 f5) (hk : k < l.length) (hy : l.getD k i0 = t.enc s) (ho : t.Ok s d) :
    ∃ n2' f2' n3' f3' n4' f4' n5' f5', RD (t.step s d) n2' f2' n3' f3' n4' f4' n5' f5' ∧
      Ldco_5 zD l g (m + 1) n2 f2 n3 f3 n4 f4 n5 f5 d.mpa k x0 d.nm d.nd = Ldco_5 zD l g m n2' f2' n3' f3' n4' f4' n5' f5' (t.step s d).mpa ((k + 1 : Nat) : Int) x0 (t.step s d).nm (t.step s d).nd := by
  obtain ⟨r2, r3, r4, r5⟩ := hr
  cases t with
  | sta =>
    obtain ⟨h1, h2⟩ := ho
    refine ⟨n2, f2, n3, f3, n4, f4, n5, f5, ⟨r2, r3, r4, r5⟩, ?_⟩
    rw [h1]
    exact LD_sta l g m n2 f2 n3 f3 n4 f4 n5 f5 d.mpa k x0 d.nm s.name hk hl hy h2
  | bus n =>
    obtain ⟨⟨h1, h2⟩, h3⟩ := ho
    exact ⟨n2 + 1, _, n3, f3, n4, f4, n5, f5, ⟨r2.app' rfl, r3, r4, r5⟩, LD_bus l g m n2 f2 n3 f3 n4 f4 n5 f5 d.mpa k x0 d.nm d.nd n hk hl hy h1 (by rw [r2.len]; exact h3) h2⟩
  | line L =>
    obtain ⟨⟨h1, h2⟩, h3, h4, h5⟩ := ho
    exact ⟨n2, f2, n3 + 1, _, n4, f4, n5, f5, ⟨r2, r3.app' rfl, r4, r5⟩, LD_line l g m n2 f2 n3 f3 n4 f4 n5 f5 d.mpa k x0 d.nm d.nd L hk hl hy h1 (by rw [r3.len]; exact h3) h2 h4 h5⟩
  | src L =>
    obtain ⟨⟨h1, h2⟩, h3, h4, h5, h6⟩ := ho
    exact ⟨n2, f2, n3, f3, n4 + 1, _, n5, f5, ⟨r2, r3, r4.app' rfl, r5⟩, LD_src l g m n2 f2 n3 f3 n4 f4 n5 f5 d.mpa k x0 d.nm d.nd L hk hl hy h1 (by rw [r4.len]; exact h3) h2 h4 h5 h6⟩
  | oth y =>
    obtain ⟨h0, h1, h2, h3, h4, h5⟩ := ho
    replace hy : l.getD k i0 = y := hy
    exact ⟨n2, f2, n3, f3, n4, f4, n5, f5, ⟨r2, r3, r4, r5⟩, LD_oth l g m n2 f2 n3 f3 n4 f4 n5 f5 d.mpa k x0 d.nm d.nd hk hl (by rw [hy]; exact h0) (by rw [hy]; exact h1) (by rw [hy]; exact h2) (by rw [hy]; exact h3) (by rw [hy]; exact h4) (by rw [hy]; exact h5)⟩
  | bay b =>
    obtain ⟨h1, h2, h3, h4⟩ := ho
    replace hy : l.getD k i0 = encBay s b := hy
    have t2 := r2.the (sz := 1) busC_inj
    have t3 := r3.the (sz := 5) lineC_inj
    have t4 := r4.the (sz := 6) srcC_inj
    have t5 := r5.the (sz := 12) bayC_inj
    obtain ⟨b1, b2⟩ := bay_hd s b
    generalize hY : encBay s b = Y at hy b1 b2
    have hit := theIt_it Y
    let a : AQ := (((), (It.line Y, wordsD (It.words Y), It.block Y, kidsD Y, ()), ()), (d.nm, n2, n3, n4, n5, (), d.nd, ()), (n2, f2), (n3, f3), (n4, f4), (n5, f5), d.mpa, ())
    have eB : qB a = s.buses := by rw [← h1]; exact t2.2
    have eL : qL a = s.lines := by rw [← h2]; exact t3.2
    have eS : qS a = s.srcs := by rw [← h3]; exact t4.2
    have eY : qY a = d.yl := t5.2
    have eI : qI a = encBay s b := by rw [hY]; exact hit.2
    have eX : qX a = b := by
      unfold qX
      rw [eB, eL, eS, eI]
      exact bayOf_enc h4
    have g2 : n2 ≤ 900 := by rw [r2.len, h1]; exact h4.h1
    have g3 : n3 ≤ 900 := by rw [r3.len, h2]; exact h4.h2
    have g4 : n4 ≤ 900 := by rw [r4.len, h3]; exact h4.h3
    have g5 : n5 ≤ 900 := by rw [r5.len]; have := h4.h4; omega
    have hP : qP a := ⟨s, b, eB.symm, eL.symm, eS.symm, eI, by rw [eY]; exact h4⟩
    have hq : qOk a = true := by
      have e2 : eqs a.2 = true := by
        unfold eqs
        simp only [a, Nat.beq_refl, Bool.true_and, bleD, decide_eq_true g2, decide_eq_true g3, decide_eq_true g4, decide_eq_true g5]
      unfold qOk
      have o1 : okI (ydOf a.1.2.1) = true := hit.1
      have o2 : okE (listD 1 busC e0) (.sl 1 a.2.2.1.1 a.2.2.1.2) = true := t2.1
      have o3 : okE (listD 5 lineC line0) (.sl 5 a.2.2.2.1.1 a.2.2.2.1.2) = true := t3.1
      have o4 : okE (listD 6 srcC' src0) (.sl 6 a.2.2.2.2.1.1 a.2.2.2.2.1.2) = true := t4.1
      have o5 : okE (listD 12 bayC bay0) (.sl 12 a.2.2.2.2.2.1.1 a.2.2.2.2.2.1.2) = true := t5.1
      rw [o1, e2, o2, o3, o4, o5]
      simp only [Bool.true_and, decide_eq_true_eq]
      exact hP
    have hgq : KD.gq zD a = appF d.yl.length (cnB d.yl) (chunk (bayC b) 12) := by
      show appF (qY a).length (cnB (qY a)) (chunk (bayC (qX a)) 12) = _
      rw [eY, eX]
    have hmq : KD.mq zD a = (.string b.name, .bool true) :: d.mpa := by
      show (Value.string (qX a).name, Value.bool true) :: _ = _
      rw [eX]
    have hL := LD_bay l g m n2 f2 n3 f3 n4 f4 n5 f5 d.mpa k x0 d.nm d.nd Y _ _ hk hl hy b1 b2 hq hgq hmq
    have u2 : theC busC e0 1 n2 f2 = d.nl := t2.2
    have u3 : theC lineC line0 5 n3 f3 = d.ll := t3.2
    have u4 : theC srcC' src0 6 n4 f4 = d.sl := t4.2
    rw [u2, u3, u4] at hL
    refine ⟨_, _, _, _, _, _, _, _, ⟨?_, ?_, ?_, ?_⟩, hL⟩
    · rw [r2.len]; exact RL.data d.nl
    · rw [r3.len]; exact RL.data d.ll
    · rw [r4.len]; exact RL.data d.sl
    · rw [r5.len]; exact (RL.data (c := bayC) (d0 := bay0) d.yl).app' rfl
end
end Go.Proofs.YthmapnolgdpkbaaDoor.de
namespace Go.Proofs.YthmapnolgdpkbaaDoor.de
open Go.RowKit Go.Eb Go.Proofs.YthmapnolgdpkbaaDoor.st
set_option maxRecDepth 100000

def endT (x1 : ByteArray) (n2 : Nat) (f2 : Nat → List D) (n3 : Nat) (f3 : Nat → List D) (n4 : Nat) (f4 : Nat → List D) (n5 : Nat) (f5 : Nat → List D) : Option (T (AV × Hp)) :=
  some (T.leaf (AV.tup [(true, [C.d (D.v (Value.string x1)), C.row 0 1 n2, C.row 1 5 n3, C.row 2 6 n4, C.row 3 12 n5]), (false, [C.d (D.v (Value.int IntKind.i64 (0 : Int)))]), (false, [C.d (D.v (Value.int IntKind.i64 (0 : Int)))])], [(0, Blk.row n2 f2 1 9), (1, Blk.row n3 f3 5 50), (2, Blk.row n4 f4 6 53), (3, Blk.row n5 f5 12 44)]))
section
variable (s : SSta) (l : List It) (g : Nat) (x0 : ByteArray)
theorem LD_end (d : DS) (m k : Nat) (n2 : Nat) (f2 : Nat → List D) (n3 : Nat) (f3 : Nat → List D) (n4 : Nat) (f4 : Nat → List D) (n5 : Nat) (f5 : Nat → List D) (hk : ¬ k < l.length) (hnd : d.nd = true) (h0 : n2 ≠ 0) :
    Ldco_5 zD l g (m + 1) n2 f2 n3 f3 n4 f4 n5 f5 d.mpa k x0 d.nm d.nd = endT d.nm n2 f2 n3 f3 n4 f4 n5 f5 := by
  have e0 : ((n2 : Int) == (0 : Int)) = false := by
    cases e : ((n2 : Int) == (0 : Int)) with
    | false => rfl
    | true => have := eq_of_beq e; omega
  rw [stdco_5, lt0 hk, hnd, e0]
  rfl
theorem LD_run (hl : l.length ≤ 9000) : ∀ (r : List Tg) (d : DS) (m k : Nat) (n2 : Nat) (f2 : Nat → List D) (n3 : Nat) (f3 : Nat → List D) (n4 : Nat) (f4 : Nat → List D) (n5 : Nat) (f5 : Nat → List D), RD d n2 f2 n3 f3 n4 f4 n5 f5 → l.drop k = r.map (Tg.enc s) → OkT s r d → r.length < m → (runT s r d).nd = true → (runT s r d).nl ≠ [] →
    ∃ n2' f2' n3' f3' n4' f4' n5' f5', RD (runT s r d) n2' f2' n3' f3' n4' f4' n5' f5' ∧ Ldco_5 zD l g m n2 f2 n3 f3 n4 f4 n5 f5 d.mpa k x0 d.nm d.nd = endT (runT s r d).nm n2' f2' n3' f3' n4' f4' n5' f5'
  | [], d, 0, k, n2, f2, n3, f3, n4, f4, n5, f5, _, _, _, hm, _, _ => by simp at hm
  | _ :: _, d, 0, k, n2, f2, n3, f3, n4, f4, n5, f5, _, _, _, hm, _, _ => by simp at hm
  | [], d, m + 1, k, n2, f2, n3, f3, n4, f4, n5, f5, hr, hd', _, _, hnd, h0 => by
    have hk : ¬ k < l.length := by
      intro h
      have := congrArg List.length hd'
      rw [List.length_drop] at this
      simp at this
      omega
    have hn : n2 ≠ 0 := by
      rw [hr.r2.len]
      intro e
      exact h0 (List.eq_nil_of_length_eq_zero e)
    exact ⟨n2, f2, n3, f3, n4, f4, n5, f5, hr, LD_end l g x0 d m k n2 f2 n3 f3 n4 f4 n5 f5 hk hnd hn⟩
  | t :: r, d, m + 1, k, n2, f2, n3, f3, n4, f4, n5, f5, hr, hd', ho, hm, hnd, h0 => by
    have hlt : k < l.length := by
      have := congrArg List.length hd'
      rw [List.length_drop] at this
      simp at this
      omega
    have hdr := drop_at' (d := i0) hlt
    rw [hd', List.map_cons] at hdr
    obtain ⟨e1, e2⟩ := List.cons.inj hdr
    obtain ⟨o1, o2⟩ := ho
    obtain ⟨m2, p2, m3, p3, m4, p4, m5, p5, hr', hL⟩ := LD_step s l g x0 t d hl m k hr hlt e1.symm o1
    obtain ⟨a1, a2, a3, a4, a5, a6, a7, a8, hr2, hL2⟩ := LD_run hl r (t.step s d) m (k + 1) m2 p2 m3 p3 m4 p4 m5 p5 hr' e2.symm o2 (by simp at hm; omega) hnd h0
    exact ⟨a1, a2, a3, a4, a5, a6, a7, a8, hr2, hL.trans hL2⟩
end
def d0 : DS := ⟨ByteArray.mk #[], false, [], [], [], [], []⟩
theorem RD0 : RD d0 0 (fun _ => []) 0 (fun _ => []) 0 (fun _ => []) 0 (fun _ => []) := ⟨RL.nil _, RL.nil _, RL.nil _, RL.nil _⟩
theorem injL : InjT (en1 (aD itemsD)) := en1_inj (aD_inj fun _ _ h => itemsD_inj h)
theorem yc (l : List It) (h : okL l = true) : KD.okc zD [AV.c (C.d (listD 4 icells i0 l))] = true := okG_enc injL l h
theorem yk (l : List It) : KD.ck zD [AV.c (C.d (listD 4 icells i0 l))] = ck.chk l := by
  show ck.chk (theT (en1 (aD itemsD)) (en1 (aD itemsD) l)) = _
  rw [theT_enc injL]
theorem cdecode (s : SSta) (r : List Tg) (hl : r.length ≤ 9000) (hL : okL (r.map (Tg.enc s)) = true) (hc : ck.chk (r.map (Tg.enc s)) = 0) (ho : OkT s r d0) (hn : (runT s r d0).nm = s.name) (hnd : (runT s r d0).nd = true) (h2 : (runT s r d0).nl = s.buses) (h3 : (runT s r d0).ll = s.lines) (h4 : (runT s r d0).sl = s.srcs) (h5 : (runT s r d0).yl = s.bays) (hb : s.buses ≠ []) :
    CX Tryd.prog 11 [.c (.d (itemsD (r.map (Tg.enc s))))] [] (.tup [(true, (staC s).map .d), pI 0, pI 0]) [] := by
  obtain ⟨n2, f2, n3, f3, n4, f4, n5, f5, hr, hL2⟩ := LD_run s (r.map (Tg.enc s)) 9001 (ByteArray.mk #[]) (by rw [List.length_map]; exact hl) r d0 9001 0 0 _ 0 _ 0 _ 0 _ RD0 rfl ho (by omega) hnd (by rw [h2]; exact hb)
  have ev := evdco zD (r.map (Tg.enc s)) 9001
  rw [yc _ hL, yk, hc] at ev
  rw [show ((0 : Nat) : Int) = 0 from rfl] at hL2
  have e := Eq.trans ev hL2
  obtain ⟨r2, r3, r4, r5⟩ := hr
  rw [h2] at r2
  rw [h3] at r3
  rw [h4] at r4
  rw [h5] at r5
  rw [hn] at e
  have hcr := (cr_of sDe.ok Tryd.func11 bdco rfl e).data (y := .tup [(true, [.d (dS s.name), .d (.sl 1 n2 f2), .d (.sl 5 n3 f3), .d (.sl 6 n4 f4), .d (.sl 12 n5 f5)]), (false, [.d (dI 0)]), (false, [.d (dI 0)])]) rfl
  refine (CX.of_cr Tryd.func11 bdco hcr).le ?_ (.refl _)
  refine ⟨rfl, fun j p q h1 h2 => ?_⟩
  match j with
  | 0 => simp at h1 h2; subst h1 h2; exact ⟨rfl, Csle.ofD (a := [dS s.name, .sl 1 n2 f2, .sl 5 n3 f3, .sl 6 n4 f4, .sl 12 n5 f5]) (b := staC s) (.cons (.refl _) (.cons r2.de (.cons r3.de (.cons r4.de (.cons r5.de .nil)))))⟩
  | 1 => simp at h1 h2; subst h1 h2; exact ⟨rfl, .cons (.refl _) .nil⟩
  | 2 => simp at h1 h2; subst h1 h2; exact ⟨rfl, .cons (.refl _) .nil⟩
  | j + 3 => simp at h1
end Go.Proofs.YthmapnolgdpkbaaDoor.de
namespace Go.Proofs.YthmapnolgdpkbaaDoor.de
open Go.RowKit Go.Eb Go.Proofs.YthmapnolgdpkbaaDoor.st
set_option maxRecDepth 100000

section
variable (s : SSta)
theorem runT_app : ∀ (a c : List Tg) (d : DS), runT s (a ++ c) d = runT s c (runT s a d)
  | [], _, _ => rfl
  | t :: a, c, d => runT_app a c (t.step s d)
theorem OkT_app : ∀ (a c : List Tg) (d : DS), OkT s a d → OkT s c (runT s a d) → OkT s (a ++ c) d
  | [], _, _, _, h => h
  | t :: a, c, d, h, k => ⟨h.1, OkT_app a c (t.step s d) h.2 k⟩
theorem OkT_split : ∀ (a c : List Tg) (d : DS), OkT s (a ++ c) d → OkT s a d ∧ OkT s c (runT s a d)
  | [], _, _, h => ⟨trivial, h⟩
  | t :: a, c, d, h => ⟨⟨h.1, (OkT_split a c (t.step s d) h.2).1⟩, (OkT_split a c (t.step s d) h.2).2⟩
def Tg.isSta : Tg → Bool
  | .sta => true
  | _ => false
def setN (s : SSta) (d : DS) : DS := { d with nm := s.name, nd := true }
theorem step_setN {t : Tg} (h : t.isSta = false) (d : DS) : t.step s (setN s d) = setN s (t.step s d) := by
  cases t <;> first | rfl | cases h
theorem ok_setN {t : Tg} (h : t.isSta = false) (d : DS) (k : t.Ok s d) : t.Ok s (setN s d) := by
  cases t <;> first | exact k | cases h
theorem OkT_setN : ∀ (c : List Tg) (d : DS), (∀ t ∈ c, t.isSta = false) → OkT s c d → OkT s c (setN s d) ∧ runT s c (setN s d) = setN s (runT s c d)
  | [], _, _, _ => ⟨trivial, rfl⟩
  | t :: c, d, h, k => by
    have ht := h t (by simp)
    obtain ⟨h1, h2⟩ := OkT_setN c (t.step s d) (fun t ht => h t (by simp [ht])) k.2
    refine ⟨⟨ok_setN s ht d k.1, ?_⟩, ?_⟩
    · rw [step_setN s ht]; exact h1
    · show runT s c (t.step s (setN s d)) = _
      rw [step_setN s ht]; exact h2
theorem nd_keep : ∀ (a : List Tg) (d : DS), (∀ t ∈ a, t.isSta = false) → (runT s a d).nd = d.nd
  | [], _, _ => rfl
  | t :: a, d, h => by
    have ht := h t (by simp)
    refine (nd_keep a (t.step s d) (fun t ht => h t (by simp [ht]))).trans ?_
    cases t <;> first | rfl | cases ht
theorem OkT_sta (hs : nameOk s.name = true) (a c : List Tg) (d : DS) (hd : d.nd = false) (h : OkT s (a ++ c) d) (hn : ∀ t ∈ a ++ c, t.isSta = false) : OkT s (a ++ .sta :: c) d ∧ runT s (a ++ .sta :: c) d = setN s (runT s (a ++ c) d) := by
  obtain ⟨h1, h2⟩ := OkT_split s a c d h
  have hk := nd_keep s a d (fun t ht => hn t (by simp [ht]))
  obtain ⟨k1, k2⟩ := OkT_setN s c (runT s a d) (fun t ht => hn t (by simp [ht])) h2
  refine ⟨OkT_app s a _ d h1 ⟨⟨by rw [hk]; exact hd, hs⟩, k1⟩, ?_⟩
  rw [runT_app, runT_app]
  exact k2
theorem take_run {α : Type} {nm : α → ByteArray} {F : List ByteArray → List α → α → Int} {N : List ByteArray} {tg : α → Tg} {I : DS → List α → Prop} {T : Nat}
    (ok : ∀ bef x, bef.length < T → F (N ++ bef.map nm) bef x = 0 → ∀ d, I d bef → (tg x).Ok s d ∧ I ((tg x).step s d) (bef ++ [x])) : ∀ (l bef : List α) (d : DS), bef.length + l.length ≤ T → (takeN nm F N bef l).1 = 0 → I d bef → OkT s (l.map tg) d ∧ I (runT s (l.map tg) d) (bef ++ l)
  | [], bef, d, _, _, hI => ⟨trivial, by rw [List.append_nil]; exact hI⟩
  | x :: r, bef, d, hT, h, hI => by
    simp only [takeN] at h
    cases e : (F (N ++ bef.map nm) bef x != 0) with
    | true =>
      rw [e] at h
      simp only [cond_true] at h
      rw [h] at e
      cases e
    | false =>
      rw [e] at h
      simp only [cond_false] at h
      have h0 : F (N ++ bef.map nm) bef x = 0 := by simpa using e
      obtain ⟨k1, k2⟩ := ok bef x (by simp at hT; omega) h0 d hI
      obtain ⟨k3, k4⟩ := take_run ok r (bef ++ [x]) ((tg x).step s d) (by simp at hT ⊢; omega) h k2
      refine ⟨⟨k1, k3⟩, ?_⟩
      rw [List.append_assoc] at k4
      exact k4
theorem take_at {α : Type} {nm : α → ByteArray} {F : List ByteArray → List α → α → Int} {N : List ByteArray} {x0 : α} : ∀ (l bef : List α) (k : Nat), (takeN nm F N bef l).1 = 0 → k < l.length → F (N ++ (bef ++ l.take k).map nm) (bef ++ l.take k) (l.getD k x0) = 0
  | [], _, k, _, hk => by simp at hk
  | x :: r, bef, k, h, hk => by
    simp only [takeN] at h
    cases e : (F (N ++ bef.map nm) bef x != 0) with
    | true =>
      rw [e] at h
      simp only [cond_true] at h
      rw [h] at e
      cases e
    | false =>
      rw [e] at h
      simp only [cond_false] at h
      cases k with
      | zero =>
        simp only [List.take_zero, List.append_nil, List.getD_cons_zero]
        simpa using e
      | succ k =>
        have := take_at (x0 := x0) r (bef ++ [x]) k h (by simpa using hk)
        simpa using this
end
end Go.Proofs.YthmapnolgdpkbaaDoor.de
namespace Go.Proofs.YthmapnolgdpkbaaDoor.de
open Go.RowKit Go.Eb Go.Proofs.YthmapnolgdpkbaaDoor.st
set_option maxRecDepth 100000

theorem nam_facts {N : List ByteArray} {n : ByteArray} (h : namErr N n = 0) : nameOk n = true ∧ inB N n = false := by
  unfold namErr at h
  cases h1 : nameOk n with
  | false => rw [h1] at h; exact absurd h (show ¬ (7 : Int) = 0 by decide)
  | true =>
    cases h2 : inB N n with
    | true => rw [h1, h2] at h; exact absurd h (show ¬ (8 : Int) = 0 by decide)
    | false => exact ⟨rfl, rfl⟩
theorem line_facts {N : List ByteArray} {x : SLine} (h : lineErr N x = 0) : nameOk x.name = true ∧ inB N x.name = false ∧ impOk x.r1 x.x1 = true ∧ impOk x.r0 x.x0 = true := by
  unfold lineErr at h
  cases h0 : (namErr N x.name != 0) with
  | true =>
    rw [h0] at h
    simp only [cond_true] at h
    rw [h] at h0; cases h0
  | false =>
    obtain ⟨n1, n2⟩ := nam_facts (show namErr N x.name = 0 by simpa using h0)
    rw [h0] at h
    cases h1 : impOk x.r1 x.x1 with
    | false => rw [h1] at h; exact absurd h (show ¬ (2 : Int) = 0 by decide)
    | true =>
      cases h2 : impOk x.r0 x.x0 with
      | false => rw [h1, h2] at h; exact absurd h (show ¬ (2 : Int) = 0 by decide)
      | true => exact ⟨n1, n2, rfl, rfl⟩
theorem src_facts {N : List ByteArray} {x : SSrc} (h : srcErr N x = 0) : nameOk x.name = true ∧ inB N x.name = false ∧ impOk x.r1 x.x1 = true ∧ impOk x.r0 x.x0 = true ∧ within x.emf 1 1000000 = true := by
  unfold srcErr at h
  cases h0 : (namErr N x.name != 0) with
  | true =>
    rw [h0] at h
    simp only [cond_true] at h
    rw [h] at h0; cases h0
  | false =>
    obtain ⟨n1, n2⟩ := nam_facts (show namErr N x.name = 0 by simpa using h0)
    rw [h0] at h
    cases h3 : within x.emf 1 1000000 with
    | false => rw [h3] at h; exact absurd h (show ¬ (2 : Int) = 0 by decide)
    | true =>
      cases h1 : impOk x.r1 x.x1 with
      | false => rw [h3, h1] at h; exact absurd h (show ¬ (2 : Int) = 0 by decide)
      | true =>
        cases h2 : impOk x.r0 x.x0 with
        | false => rw [h3, h1, h2] at h; exact absurd h (show ¬ (2 : Int) = 0 by decide)
        | true => exact ⟨n1, n2, rfl, rfl, rfl⟩
section
variable (s : SSta)
theorem run_bus (h : (tBus s.buses).1 = 0) (hl : s.buses.length ≤ 4) : OkT s (s.buses.map .bus) d0 ∧ runT s (s.buses.map .bus) d0 = { d0 with nl := s.buses, mpa := mapOf s.buses } := by
  have := take_run s (nm := id) (F := fun N _ x => namErr N x) (N := []) (tg := Tg.bus) (T := 4) (I := fun d bef => d = { d0 with nl := bef, mpa := mapOf bef }) (fun bef x hT hF d hI => by
    subst hI
    obtain ⟨n1, n2⟩ := nam_facts (show namErr bef x = 0 by simpa using hF)
    exact ⟨⟨⟨n1, (assoc_mapOf bef x).trans n2⟩, hT⟩, by unfold Tg.step; rw [mapOf_app]⟩) s.buses [] d0 (by simpa using hl) h rfl
  simpa using this
theorem run_line (N : List ByteArray) (h : (tLine N s.lines).1 = 0) (hl : s.lines.length ≤ 6) (d : DS) (hd1 : d.ll = []) (hd2 : d.mpa = mapOf N) : OkT s (s.lines.map .line) d ∧ runT s (s.lines.map .line) d = { d with ll := s.lines, mpa := mapOf (N ++ s.lines.map SLine.name) } := by
  have := take_run s (nm := SLine.name) (F := fun N _ x => lineErr N x) (N := N) (tg := Tg.line) (T := 6) (I := fun e bef => e = { d with ll := bef, mpa := mapOf (N ++ bef.map SLine.name) }) (fun bef x hT hF e hI => by
    subst hI
    obtain ⟨n1, n2, n3, n4⟩ := line_facts hF
    exact ⟨⟨⟨n1, (assoc_mapOf _ x.name).trans n2⟩, hT, n3, n4⟩, by unfold Tg.step; rw [List.map_append, ← List.append_assoc]; exact congrArg (fun q => ({ d with ll := bef ++ [x], mpa := q } : DS)) (mapOf_app _ _).symm⟩) s.lines [] d (by simpa using hl) h (by obtain ⟨a1, a2, a3, a4, a5, a6, a7⟩ := d; simp at hd1 hd2; subst hd1 hd2; simp)
  simpa using this
theorem run_src (N : List ByteArray) (h : (tSrc N s.srcs).1 = 0) (hl : s.srcs.length ≤ 4) (d : DS) (hd1 : d.sl = []) (hd2 : d.mpa = mapOf N) : OkT s (s.srcs.map .src) d ∧ runT s (s.srcs.map .src) d = { d with sl := s.srcs, mpa := mapOf (N ++ s.srcs.map SSrc.name) } := by
  have := take_run s (nm := SSrc.name) (F := fun N _ x => srcErr N x) (N := N) (tg := Tg.src) (T := 4) (I := fun e bef => e = { d with sl := bef, mpa := mapOf (N ++ bef.map SSrc.name) }) (fun bef x hT hF e hI => by
    subst hI
    obtain ⟨n1, n2, n3, n4, n5⟩ := src_facts hF
    exact ⟨⟨⟨n1, (assoc_mapOf _ x.name).trans n2⟩, hT, n3, n4, n5⟩, by unfold Tg.step; rw [List.map_append, ← List.append_assoc]; exact congrArg (fun q => ({ d with sl := bef ++ [x], mpa := q } : DS)) (mapOf_app _ _).symm⟩) s.srcs [] d (by simpa using hl) h (by obtain ⟨a1, a2, a3, a4, a5, a6, a7⟩ := d; simp at hd1 hd2; subst hd1 hd2; simp)
  simpa using this
end
end Go.Proofs.YthmapnolgdpkbaaDoor.de
namespace Go.Eb
open Go.RowKit

theorem inB_iff (l : List ByteArray) (s : ByteArray) : inB l s = true ↔ s ∈ l := by
  unfold inB
  rw [List.any_eq_true]
  constructor
  · rintro ⟨t, ht, h⟩
    have : s = t := by
      cases s; cases t
      simp only [beq_iff_eq] at h
      simp only [ByteArray.mk.injEq]
      exact Array.toList_inj.1 h
    rw [this]; exact ht
  · exact fun h => ⟨s, h, by simp⟩
/-! Check by names and by what else is wrong -/
end Go.Eb
namespace Go.Proofs.YthmapnolgdpkbaaDoor.de
open Go.RowKit Go.Eb Go.Proofs.YthmapnolgdpkbaaDoor.st
set_option maxRecDepth 100000

theorem mem_tk {α : Type} {d : α} : ∀ (l : List α) (i k : Nat), i < k → k < l.length → l.getD i d ∈ l.take k
  | [], i, k, _, h => by simp at h
  | x :: r, i, 0, h, _ => by omega
  | x :: r, 0, k + 1, _, _ => by simp
  | x :: r, i + 1, k + 1, h, hk => by
    rw [List.getD_cons_succ, List.take_succ_cons]
    exact List.mem_cons_of_mem _ (mem_tk r i k (by omega) (by simpa using hk))
theorem dist_of {α : Type} {nm : α → ByteArray} {d : α} {N : List ByteArray} {l : List α} {k : Nat} (hk : k < l.length) (h : inB (N ++ (l.take k).map nm) (nm (l.getD k d)) = false) : ∀ i, i < k → nm (l.getD i d) ≠ nm (l.getD k d) := by
  intro i hi e
  have : nm (l.getD k d) ∈ N ++ (l.take k).map nm := List.mem_append.2 (.inr (by rw [← e]; exact List.mem_map_of_mem (mem_tk l i k hi hk)))
  have ht := (Go.Eb.inB_iff (N ++ (l.take k).map nm) (nm (l.getD k d))).2 this
  rw [ht] at h
  cases h
theorem ix_of {α : Type} {nm : α → ByteArray} {d : α} {N : List ByteArray} {l : List α} {o : Int} (h0 : 0 ≤ o) (hk : o.toNat < l.length) (h : inB (N ++ (l.take o.toNat).map nm) (nm (l.getD o.toNat d)) = false) : idxS nm (nm (l.getD o.toNat d)) l 0 = o := by
  rw [idxS_at l o.toNat 0 hk (dist_of hk h)]
  omega
theorem bay_off {nb nl ns : Nat} {dup : Bool} {bef : List SBay} {b : SBay} (h : bayErrD nb nl ns dup bef b = 0) : (b.kind = 1 → b.off.toNat < nl) ∧ (b.kind = 2 → b.off.toNat < ns) := by
  have ho := (bay_facts h).2.2.1
  unfold bayErrD at h
  cases hn : nameOk b.name with
  | false => rw [hn] at h; exact absurd h (show ¬ (7 : Int) = 0 by decide)
  | true =>
    rw [hn] at h
    cases dup with
    | true => exact absurd h (show ¬ (8 : Int) = 0 by decide)
    | false =>
      simp only [Bool.not_true, cond_false] at h
      refine ⟨fun k => ?_, fun k => ?_⟩
      · rw [show cntOf nl ns b.kind = some (nl : Int) by unfold cntOf; rw [k]; rfl] at h
        simp only [] at h
        cases hw : within b.off 0 ((nl : Int) - 1) with
        | false => rw [hw] at h; exact absurd h (show ¬ (9 : Int) = 0 by decide)
        | true => unfold within at hw; simp only [Bool.and_eq_true, decide_eq_true_eq] at hw; omega
      · rw [show cntOf nl ns b.kind = some (ns : Int) by unfold cntOf; rw [k]; rfl] at h
        simp only [] at h
        cases hw : within b.off 0 ((ns : Int) - 1) with
        | false => rw [hw] at h; exact absurd h (show ¬ (9 : Int) = 0 by decide)
        | true => unfold within at hw; simp only [Bool.and_eq_true, decide_eq_true_eq] at hw; omega
theorem link_all {nb : Nat} {k : Int} : ∀ {p : Option Int} {ls : List SLink}, linkErr nb k p ls = 0 → ∀ l ∈ ls, 0 ≤ l.bus ∧ l.bus.toNat < nb ∧ (l.pos = 0 ∨ l.pos = 1)
  | _, [], _, l, hl => by cases hl
  | p, x :: r, h, l, hl => by
    unfold linkErr at h
    cases hw : within x.bus 0 ((nb : Int) - 1) with
    | false => rw [hw] at h; exact absurd h (show ¬ (9 : Int) = 0 by decide)
    | true =>
      rw [hw] at h
      simp only [Bool.not_true, cond_false] at h
      cases hp : (x.pos != 1 && (x.pos != 0 || k == 3)) with
      | true => rw [hp] at h; exact absurd h (show ¬ (16 : Int) = 0 by decide)
      | false =>
        rw [hp] at h
        simp only [cond_false] at h
        cases hd : (p == some x.bus) with
        | true => rw [hd] at h; exact absurd h (show ¬ (12 : Int) = 0 by decide)
        | false =>
          rw [hd] at h
          simp only [cond_false] at h
          rcases List.mem_cons.1 hl with rfl | hl
          · unfold within at hw
            simp only [Bool.and_eq_true, decide_eq_true_eq] at hw
            refine ⟨hw.1, by omega, ?_⟩
            cases q1 : (l.pos != 1) with
            | false => right; simpa using q1
            | true =>
              cases q2 : (l.pos != 0) with
              | false => left; simpa using q2
              | true => rw [q1, q2] at hp; cases hp
          · exact link_all h l hl
section
variable (s : SSta)
theorem run_bay (N : List ByteArray) (hN : N = s.buses ++ s.lines.map SLine.name ++ s.srcs.map SSrc.name) (hB : (tBus s.buses).1 = 0) (hL : (tLine s.buses s.lines).1 = 0) (hS : (tSrc (s.buses ++ s.lines.map SLine.name) s.srcs).1 = 0) (h : (tBay s.buses.length s.lines.length s.srcs.length N s.bays).1 = 0)
    (l1 : s.buses.length ≤ 4) (l2 : s.lines.length ≤ 6) (l3 : s.srcs.length ≤ 4) (l4 : s.bays.length ≤ 16) (d : DS) (hd1 : d.nl = s.buses) (hd2 : d.ll = s.lines) (hd3 : d.sl = s.srcs) (hd4 : d.yl = []) (hd5 : d.mpa = mapOf N) :
    OkT s (s.bays.map .bay) d ∧ runT s (s.bays.map .bay) d = { d with yl := s.bays, mpa := mapOf (N ++ s.bays.map SBay.name) } := by
  have := take_run s (nm := SBay.name) (F := fun N before x => bayErr s.buses.length s.lines.length s.srcs.length N before x) (N := N) (tg := Tg.bay) (T := 16) (I := fun e bef => e = { d with yl := bef, mpa := mapOf (N ++ bef.map SBay.name) }) (fun bef x hT hF e hI => by
    subst hI
    have he : bayErrD s.buses.length s.lines.length s.srcs.length (boolOf (assoc (mapOf (N ++ bef.map SBay.name)) (.string x.name))) bef x = 0 := by
      rw [assoc_mapOf]; exact hF
    obtain ⟨_, _, ho, _, hle⟩ := bay_facts he
    obtain ⟨_, hlk⟩ := links_len hle
    obtain ⟨o1, o2⟩ := bay_off he
    refine ⟨⟨hd1, hd2, hd3, ⟨by omega, by omega, by omega, hT, he, fun l hl => ?_, fun k => ?_, fun k => ?_⟩⟩, ?_⟩
    · obtain ⟨a1, a2, a3⟩ := link_all hlk l hl
      refine ⟨?_, a1, a3⟩
      have hx := take_at (x0 := e0) s.buses [] l.bus.toNat hB a2
      exact ix_of (nm := id) (N := []) a1 a2 (nam_facts hx).2
    · have hx := take_at (x0 := line0) s.lines [] x.off.toNat hL (o1 k)
      exact ix_of (nm := SLine.name) (N := s.buses) ho (o1 k) (line_facts hx).2.1
    · have hx := take_at (x0 := src0) s.srcs [] x.off.toNat hS (o2 k)
      exact ix_of (nm := SSrc.name) (N := s.buses ++ s.lines.map SLine.name) ho (o2 k) (src_facts hx).2.1
    · unfold Tg.step
      rw [List.map_append, ← List.append_assoc]
      exact congrArg (fun q => ({ d with yl := bef ++ [x], mpa := q } : DS)) (mapOf_app _ _).symm) s.bays [] d (by simpa using l4) h (by obtain ⟨a1, a2, a3, a4, a5, a6, a7⟩ := d; simp at hd4 hd5; subst hd4 hd5; simp)
  simpa using this
end
end Go.Proofs.YthmapnolgdpkbaaDoor.de
namespace Go.Proofs.YthmapnolgdpkbaaDoor.de
open Go.RowKit Go.Eb Go.Proofs.YthmapnolgdpkbaaDoor.st
set_option maxRecDepth 100000

theorem chk_split {s : SSta} (h : chkSta s = 0) : nameOk s.name = true ∧ cntBad s = false ∧ (tBus s.buses).1 = 0 ∧ (tLine s.buses s.lines).1 = 0 ∧ (tSrc (s.buses ++ s.lines.map SLine.name) s.srcs).1 = 0 ∧ (tBay s.buses.length s.lines.length s.srcs.length (s.buses ++ s.lines.map SLine.name ++ s.srcs.map SSrc.name) s.bays).1 = 0 := by
  unfold chkSta at h
  cases h1 : nameOk s.name with
  | false => rw [h1] at h; exact absurd h (show ¬ (7 : Int) = 0 by decide)
  | true =>
    cases h2 : cntBad s with
    | true => rw [h1, h2] at h; exact absurd h (show ¬ (3 : Int) = 0 by decide)
    | false =>
      rw [h1, h2] at h
      simp only [Bool.not_true, cond_false] at h
      have z : ∀ {x y : Int}, (bif x != 0 then x else y) = 0 → x = 0 ∧ y = 0 := by
        intro x y hx
        cases e : (x != 0) with
        | true => rw [e] at hx; simp only [cond_true] at hx; rw [hx] at e; cases e
        | false => rw [e] at hx; exact ⟨by simpa using e, hx⟩
      obtain ⟨a1, h⟩ := z h
      obtain ⟨a2, h⟩ := z h
      obtain ⟨a3, h⟩ := z h
      exact ⟨rfl, rfl, a1, a2, a3, h⟩
theorem cnt_facts {s : SSta} (h : cntBad s = false) : s.buses ≠ [] ∧ s.buses.length ≤ 4 ∧ s.lines.length ≤ 6 ∧ s.srcs.length ≤ 4 ∧ s.bays.length ≤ 16 := by
  unfold cntBad at h
  simp only [Bool.or_eq_false_iff, decide_eq_false_iff_not] at h
  obtain ⟨h1, h2, h3, h4, h5⟩ := h
  refine ⟨?_, by omega, by omega, by omega, by omega⟩
  intro e
  rw [e] at h1
  cases h1
def mainT (s : SSta) : List Tg := s.buses.map .bus ++ (s.lines.map .line ++ (s.srcs.map .src ++ s.bays.map .bay))
theorem main_ok {s : SSta} (h : chkSta s = 0) : OkT s (mainT s) d0 ∧ (runT s (mainT s) d0).nl = s.buses ∧ (runT s (mainT s) d0).ll = s.lines ∧ (runT s (mainT s) d0).sl = s.srcs ∧ (runT s (mainT s) d0).yl = s.bays := by
  obtain ⟨_, hc, h1, h2, h3, h4⟩ := chk_split h
  obtain ⟨_, l1, l2, l3, l4⟩ := cnt_facts hc
  obtain ⟨o1, r1⟩ := run_bus s h1 l1
  obtain ⟨o2, r2⟩ := run_line s s.buses h2 l2 { d0 with nl := s.buses, mpa := mapOf s.buses } rfl rfl
  obtain ⟨o3, r3⟩ := run_src s (s.buses ++ s.lines.map SLine.name) h3 l3 { d0 with nl := s.buses, ll := s.lines, mpa := mapOf (s.buses ++ s.lines.map SLine.name) } rfl rfl
  obtain ⟨o4, r4⟩ := run_bay s _ rfl h1 h2 h3 h4 l1 l2 l3 l4 { d0 with nl := s.buses, ll := s.lines, sl := s.srcs, mpa := mapOf (s.buses ++ s.lines.map SLine.name ++ s.srcs.map SSrc.name) } rfl rfl rfl rfl rfl
  have ho : OkT s (mainT s) d0 := by
    refine OkT_app s _ _ _ o1 ?_
    rw [r1]
    refine OkT_app s _ _ _ o2 ?_
    rw [r2]
    refine OkT_app s _ _ _ o3 ?_
    rw [r3]
    exact o4
  have hr : runT s (mainT s) d0 = { d0 with nl := s.buses, ll := s.lines, sl := s.srcs, yl := s.bays, mpa := mapOf (s.buses ++ s.lines.map SLine.name ++ s.srcs.map SSrc.name ++ s.bays.map SBay.name) } := by
    unfold mainT
    rw [runT_app, r1, runT_app, r2, runT_app, r3, r4]
  rw [hr]
  exact ⟨ho, rfl, rfl, rfl, rfl⟩
theorem main_sta (s : SSta) : ∀ t ∈ mainT s, t.isSta = false := by
  intro t ht
  unfold mainT at ht
  simp only [List.mem_append, List.mem_map] at ht
  rcases ht with ⟨_, _, rfl⟩ | ⟨_, _, rfl⟩ | ⟨_, _, rfl⟩ | ⟨_, _, rfl⟩ <;> rfl
end Go.Proofs.YthmapnolgdpkbaaDoor.de
namespace Go.Proofs.YthmapnolgdpkbaaDoor.de
open Go.RowKit Go.Eb Go.Proofs.YthmapnolgdpkbaaDoor.st
set_option maxRecDepth 100000

theorem main_enc (s : SSta) : (mainT s).map (Tg.enc s) = (encSta s).tail := by
  unfold mainT encSta
  simp [Tg.enc, List.map_append, Function.comp_def, List.append_assoc]
end Go.Proofs.YthmapnolgdpkbaaDoor.de
namespace Go.Proofs.YthmapnolgdpkbaaDoor.de
open Go.RowKit Go.Eb Go.Proofs.YthmapnolgdpkbaaDoor.st
set_option maxRecDepth 100000

theorem numOk_of {n : Int} (h : nOk n) : numOk n := by
  have h1 := h.1
  have h2 := h.2
  refine ⟨h1, ?_⟩
  show n < 1000000000000
  omega
theorem sfit_lines {s : SSta} (h : chkSta s = 0) (k : Nat) (hk : k < s.lines.length) : LFit (s.lines.getD k line0) := by
  obtain ⟨_, _, _, h2, _, _⟩ := chk_split h
  obtain ⟨_, _, i1, i2⟩ := line_facts (take_at (x0 := line0) s.lines [] k h2 hk)
  obtain ⟨p1, p2, p3, p4⟩ := imp_facts i1
  obtain ⟨p5, p6, p7, p8⟩ := imp_facts i2
  exact ⟨numOk_of ⟨by omega, by omega⟩, numOk_of ⟨by omega, by omega⟩, numOk_of ⟨by omega, by omega⟩, numOk_of ⟨by omega, by omega⟩⟩
theorem sfit_srcs {s : SSta} (h : chkSta s = 0) (k : Nat) (hk : k < s.srcs.length) : GFit (s.srcs.getD k src0) := by
  obtain ⟨_, _, _, _, h3, _⟩ := chk_split h
  obtain ⟨_, _, i1, i2, iz⟩ := src_facts (take_at (x0 := src0) s.srcs [] k h3 hk)
  obtain ⟨p1, p2, p3, p4⟩ := imp_facts i1
  obtain ⟨p5, p6, p7, p8⟩ := imp_facts i2
  unfold within at iz
  simp only [Bool.and_eq_true, decide_eq_true_eq] at iz
  exact ⟨numOk_of ⟨by omega, by omega⟩, numOk_of ⟨by omega, by omega⟩, numOk_of ⟨by omega, by omega⟩, numOk_of ⟨by omega, by omega⟩, numOk_of ⟨by omega, by omega⟩⟩
theorem sfit_bays {s : SSta} (h : chkSta s = 0) (k : Nat) (hk : k < s.bays.length) : BFit s (s.bays.getD k bay0) := by
  obtain ⟨_, _, _, _, _, h4⟩ := chk_split h
  have he := take_at (x0 := bay0) s.bays [] k h4 hk
  generalize s.bays.getD k bay0 = b at he
  unfold bayErr at he
  obtain ⟨_, hr, ho, _, hle⟩ := bay_facts he
  obtain ⟨hll, hlk⟩ := links_len hle
  obtain ⟨o1, o2⟩ := bay_off he
  obtain ⟨r1, r2, r3, r4, r5, r6, r7, _⟩ := rng_facts hr
  refine ⟨fun q => ⟨ho, by have := o1 q; omega⟩, fun q => ⟨ho, by have := o2 q; omega⟩, numOk_of r5, numOk_of r6, numOk_of r7, numOk_of r1, numOk_of r2, numOk_of r3, numOk_of r4, fun j hj => ?_, by omega⟩
  have hm : b.links.getD j link0 ∈ b.links := by
    rw [List.getD_eq_getElem?_getD, List.getElem?_eq_getElem hj]
    exact List.getElem_mem hj
  obtain ⟨a1, a2, _⟩ := link_all hlk _ hm
  exact ⟨a1, by omega⟩
theorem sfit {s : SSta} (h : chkSta s = 0) : SFit s := by
  obtain ⟨_, hc, _⟩ := chk_split h
  obtain ⟨_, l1, l2, l3, l4⟩ := cnt_facts hc
  exact ⟨sfit_lines h, sfit_srcs h, sfit_bays h, by omega, by omega, by omega, by omega⟩
end Go.Proofs.YthmapnolgdpkbaaDoor.de
namespace Go.Proofs.YthmapnolgdpkbaaDoor.de
open Go.RowKit Go.Eb Go.Proofs.YthmapnolgdpkbaaDoor.st
set_option maxRecDepth 100000
open Go.Proofs.YthmapnolgdpkbaaDoor.ck (chP chP_cons ckItem)

theorem wr1 {n : Int} (h0 : 0 ≤ n) (h : n ≤ 5000) : IntKind.wrap IntKind.i64 (n + 1) = n + 1 := wrap_id (by omega) (by omega)
theorem chP_flat : ∀ (l : List It) (d n : Int), (∀ x ∈ l, ckItem x = 0 ∧ x.kids = []) → 0 ≤ n → n + l.length ≤ 600 → 0 ≤ d → d ≤ 4 → chP l d n = (0, n + l.length)
  | [], d, n, _, _, _, _, _ => by simp [chP]
  | x :: r, d, n, h, hn, hl, hd, hd4 => by
    obtain ⟨h1, h2⟩ := h x (by simp)
    simp only [List.length_cons] at hl ⊢
    have a1 : decide (n + 1 > 600) = false := decide_eq_false (by omega)
    have a2 : decide (d > 4) = false := decide_eq_false (by omega)
    have ih := chP_flat r d (n + 1) (fun y hy => h y (by simp [hy])) (by omega) (by omega) hd hd4
    have hk : ∀ e m : Int, chP [] e m = (0, m) := fun e m => by unfold chP; rfl
    rw [chP_cons, wr1 hn (by omega), a1, a2, h1, h2, hk]
    simp only [cond_false, bne_self_eq_false]
    rw [ih]
    congr 1
    omega
def cntL : List It → Nat
  | [] => 0
  | x :: r => 1 + x.kids.length + cntL r
theorem chP_two : ∀ (l : List It) (n : Int), (∀ x ∈ l, ckItem x = 0 ∧ ∀ y ∈ x.kids, ckItem y = 0 ∧ y.kids = []) → 0 ≤ n → n + cntL l ≤ 600 → chP l 0 n = (0, n + cntL l)
  | [], n, _, _, _ => by simp [chP, cntL]
  | x :: r, n, h, hn, hl => by
    obtain ⟨h1, h2⟩ := h x (by simp)
    simp only [cntL] at hl ⊢
    have a1 : decide (n + 1 > 600) = false := decide_eq_false (by omega)
    have a2 : decide ((0 : Int) > 4) = false := rfl
    have ih := chP_two r (n + 1 + x.kids.length) (fun y hy => h y (by simp [hy])) (by omega) (by omega)
    have hk := chP_flat x.kids 1 (n + 1) h2 (by omega) (by omega) (by omega) (by omega)
    have w0 : IntKind.wrap IntKind.i64 ((0 : Int) + 1) = 1 := by decide
    rw [chP_cons, wr1 hn (by omega), a1, a2, h1, w0, hk]
    simp only [cond_false, bne_self_eq_false]
    rw [ih]
    congr 1
    omega
theorem chk_two {l : List It} (h : ∀ x ∈ l, ckItem x = 0 ∧ ∀ y ∈ x.kids, ckItem y = 0 ∧ y.kids = []) (hl : cntL l ≤ 600) : ck.chk l = 0 := by
  unfold ck.chk
  rw [chP_two l 0 h (by omega) (by omega)]
end Go.Proofs.YthmapnolgdpkbaaDoor.de
namespace Go.Proofs.YthmapnolgdpkbaaDoor.de
open Go.RowKit Go.Eb Go.Proofs.YthmapnolgdpkbaaDoor.st
set_option maxRecDepth 100000
open Go.Proofs.YthmapnolgdpkbaaDoor.wd

theorem digs_plain {l : List UInt8} (h : digs l = true) : l.all (fun c => plainR c.toNat) = true := by
  unfold digs at h
  rw [List.all_eq_true] at h ⊢
  intro c hc
  have := h c hc
  unfold plainR
  simp [this]
theorem dec_plain (n : Int) : plainS (dec n) = true := by
  obtain ⟨f1, _, c, r, f3, _⟩ := decB_facts n.toNat
  unfold plainS dec
  rw [digs_plain f1, strEq, sne]
  · rfl
  · intro e
    rw [e] at f3
    cases f3
theorem cwd_plain {t : ByteArray} (h : plainS t = true) (hs : t.size ≤ 120) : ck.cwd ⟨t, false⟩ = 0 := by
  unfold ck.cwd
  rw [decide_eq_false (by show ¬ (t.size : Int) > 120; omega), h]
  rfl
theorem cws_all : ∀ (l : List Wd), (∀ w ∈ l, ck.cwd w = 0) → ck.cws l = 0
  | [], _ => rfl
  | w :: r, h => by
    unfold ck.cws
    rw [h w (by simp)]
    exact cws_all r fun x hx => h x (by simp [hx])
theorem item_ok {x : It} (h1 : x.words.length ≤ 40) (h2 : ck.opn (x.words.getD 0 w0) = true) (h0 : x.words ≠ []) (h3 : ∀ w ∈ x.words, ck.cwd w = 0) (h4 : x.block = true ∨ x.kids = []) : ck.ckItem x = 0 := by
  unfold ck.ckItem
  have e0 : ((x.words.length : Int) == 0) = false := by
    cases e : ((x.words.length : Int) == 0) with
    | false => rfl
    | true =>
      have := eq_of_beq e
      exact absurd (List.eq_nil_of_length_eq_zero (by omega)) h0
  rw [e0, h2, decide_eq_false (by omega), cws_all _ h3]
  rcases h4 with h | h
  · rw [h]; rfl
  · rw [h]; cases x.block <;> rfl
theorem nm_plain : ∀ (l : List UInt8) (i : Nat), nmT i l = true → l.all (fun c => plainR c.toNat) = true
  | [], _, _ => rfl
  | c :: r, i, h => by
    unfold nmT at h
    simp only [Bool.and_eq_true] at h
    rw [List.all_cons, nm_plain r (i + 1) h.2, Bool.and_true]
    have h1 := h.1
    unfold letterB otherB at h1
    unfold plainR letter digit
    simp only [Bool.or_eq_true, Bool.and_eq_true] at h1 ⊢
    rcases h1 with h1 | ⟨_, h1 | h1⟩
    · exact .inl (.inl (.inl (.inl (.inl (.inl (.inl h1))))))
    · exact .inl (.inl (.inl (.inl (.inl (.inl (.inr h1))))))
    · exact .inl (.inl (.inl (.inl (.inl (.inr h1)))))
theorem name_plain {s : ByteArray} (h : nameOk s = true) : plainS s = true ∧ s.size ≤ 120 := by
  unfold nameOk at h
  simp only [Bool.and_eq_true, Bool.not_eq_true', decide_eq_false_iff_not] at h
  obtain ⟨h0, h1, h2⟩ := h
  refine ⟨?_, by omega⟩
  unfold plainS
  rw [nm_plain _ 0 h2, strEq, sne]
  · rfl
  · intro e
    rw [e] at h0
    cases h0
end Go.Proofs.YthmapnolgdpkbaaDoor.de
namespace Go.Proofs.YthmapnolgdpkbaaDoor.de
open Go.RowKit Go.Eb Go.Proofs.YthmapnolgdpkbaaDoor.st
set_option maxRecDepth 100000
open Go.Proofs.YthmapnolgdpkbaaDoor.wd

structure Good (x : It) : Prop where
  len : x.words.length ≤ 40
  ne : x.words ≠ []
  op : ck.opn (x.words.getD 0 w0) = true
  ws : ∀ w ∈ x.words, ck.cwd w = 0
theorem Good.item {x : It} (h : Good x) (hk : x.block = true ∨ x.kids = []) : ck.ckItem x = 0 := item_ok h.len h.op h.ne h.ws hk
theorem cwd_sz {w : Wd} (h : ck.cwd w = 0) : w.text.size ≤ 120 := by
  unfold ck.cwd at h
  cases e : decide ((w.text.size : Int) > 120) with
  | true => rw [e] at h; exact absurd h (show ¬ (4 : Int) = 0 by decide)
  | false => have := of_decide_eq_false e; omega
theorem Good.fit {x : It} (h : Good x) : decide (x.words.length ≤ 9223372036854775807) = true ∧ x.words.all (fun w => decide (w.text.size ≤ 9223372036854775807)) = true := by
  have h1 := h.len
  refine ⟨decide_eq_true (by omega), List.all_eq_true.2 fun w hw => decide_eq_true ?_⟩
  have := cwd_sz (h.ws w hw)
  omega
theorem fits_flat : ∀ (l : List It), (∀ x ∈ l, Good x ∧ x.kids = []) → fits l = true
  | [], _ => by rw [fits]
  | .mk a w b k :: r, h => by
    obtain ⟨h1, h2⟩ := h (.mk a w b k) (by simp)
    obtain ⟨f1, f2⟩ := h1.fit
    have hk : k = [] := h2
    subst hk
    have ih := fits_flat r fun x hx => h x (by simp [hx])
    unfold fits
    rw [show decide (w.length ≤ 9223372036854775807) = true from f1, show w.all (fun x => decide (x.text.size ≤ 9223372036854775807)) = true from f2, ih]
    unfold fits
    rfl
theorem fits_two : ∀ (l : List It), (∀ x ∈ l, Good x ∧ x.kids.length ≤ 600 ∧ ∀ y ∈ x.kids, Good y ∧ y.kids = []) → fits l = true
  | [], _ => by rw [fits]
  | .mk a w b k :: r, h => by
    obtain ⟨h1, h2, h3⟩ := h (.mk a w b k) (by simp)
    obtain ⟨f1, f2⟩ := h1.fit
    have h2' : k.length ≤ 600 := h2
    have ih := fits_two r fun x hx => h x (by simp [hx])
    unfold fits
    rw [show decide (w.length ≤ 9223372036854775807) = true from f1, show w.all (fun x => decide (x.text.size ≤ 9223372036854775807)) = true from f2, ih, fits_flat k h3, decide_eq_true (show k.length ≤ 9223372036854775807 by omega)]
    rfl
theorem say_good {t : ByteArray} {r : List ByteArray} (h1 : ck.opn ⟨t, false⟩ = true) (h2 : ck.cwd ⟨t, false⟩ = 0) (h3 : ∀ u ∈ r, ck.cwd ⟨u, false⟩ = 0) (h4 : r.length ≤ 39) : Good (say (t :: r)) ∧ (say (t :: r)).kids = [] := by
  refine ⟨⟨?_, ?_, h1, ?_⟩, rfl⟩
  · show ((t :: r).map fun t => (⟨t, false⟩ : Wd)).length ≤ 40
    simp; omega
  · show ((t :: r).map fun t => (⟨t, false⟩ : Wd)) ≠ []
    simp
  · intro w hw
    have hw' : w ∈ (t :: r).map fun t => (⟨t, false⟩ : Wd) := hw
    simp only [List.map_cons, List.mem_cons, List.mem_map] at hw'
    rcases hw' with rfl | ⟨u, hu, rfl⟩
    · exact h2
    · exact h3 u hu
theorem cwdN {t : ByteArray} (h : nameOk t = true) : ck.cwd ⟨t, false⟩ = 0 := cwd_plain (name_plain h).1 (name_plain h).2
theorem cwdD {n : Int} (h : nOk n) : ck.cwd ⟨dec n, false⟩ = 0 := by
  refine cwd_plain (dec_plain n) ?_
  have := decB_sz 6 n.toNat (by have := h.2; have := h.1; omega)
  unfold dec
  omega
structure Tag (t : ByteArray) : Prop where
  op : ck.opn ⟨t, false⟩ = true
  cw : ck.cwd ⟨t, false⟩ = 0
theorem tag_of {t : ByteArray} (h1 : t ≠ ByteArray.mk #[]) (h2 : letter ((bs t).getD 0 0).toNat = true) (h3 : (bs t).all (fun c => plainR c.toNat) = true) (h4 : t.size ≤ 120) : Tag t := by
  have h5 : (t.toList == (ByteArray.mk #[]).toList) = false := by rw [strEq]; exact sne h1
  refine ⟨?_, cwd_plain ?_ h4⟩
  · unfold ck.opn
    rw [h5, h2]
    rfl
  · unfold plainS
    rw [h3, h5]
    rfl
theorem tgStation : Tag tStation := tag_of (by decide) (by kernel_rfl) (by kernel_rfl) (by decide)
theorem tgBus : Tag tBus' := tag_of (by decide) (by kernel_rfl) (by kernel_rfl) (by decide)
theorem tgLine : Tag tLine' := tag_of (by decide) (by kernel_rfl) (by kernel_rfl) (by decide)
theorem tgSource : Tag tSource := tag_of (by decide) (by kernel_rfl) (by kernel_rfl) (by decide)
theorem tgBay : Tag tBay' := tag_of (by decide) (by kernel_rfl) (by kernel_rfl) (by decide)
theorem tgCoupler : Tag tCoupler := tag_of (by decide) (by kernel_rfl) (by kernel_rfl) (by decide)
theorem tgCt : Tag tCt := tag_of (by decide) (by kernel_rfl) (by kernel_rfl) (by decide)
theorem tgVt : Tag tVt := tag_of (by decide) (by kernel_rfl) (by kernel_rfl) (by decide)
theorem tgSat : Tag tSat := tag_of (by decide) (by kernel_rfl) (by kernel_rfl) (by decide)
theorem tgTravel : Tag tTravel := tag_of (by decide) (by kernel_rfl) (by kernel_rfl) (by decide)
theorem tgSelect : Tag tSelect := tag_of (by decide) (by kernel_rfl) (by kernel_rfl) (by decide)
theorem tgOpen : Tag tOpen := tag_of (by decide) (by kernel_rfl) (by kernel_rfl) (by decide)
theorem tgClosed : Tag tClosed := tag_of (by decide) (by kernel_rfl) (by kernel_rfl) (by decide)
theorem tgBreaker : Tag tBreaker := tag_of (by decide) (by kernel_rfl) (by kernel_rfl) (by decide)
theorem Tag.say {t : ByteArray} (h : Tag t) {r : List ByteArray} (h3 : ∀ u ∈ r, ck.cwd ⟨u, false⟩ = 0) (h4 : r.length ≤ 39) : Good (say (t :: r)) ∧ (Go.Eb.say (t :: r)).kids = [] := say_good h.op h.cw h3 h4
end Go.Proofs.YthmapnolgdpkbaaDoor.de
namespace Go.Proofs.YthmapnolgdpkbaaDoor.de
open Go.RowKit Go.Eb Go.Proofs.YthmapnolgdpkbaaDoor.st
set_option maxRecDepth 100000
open Go.Proofs.YthmapnolgdpkbaaDoor.wd

theorem mem_at {α : Type} {d x : α} : ∀ {l : List α}, x ∈ l → ∃ k, k < l.length ∧ l.getD k d = x
  | [], h => by simp at h
  | y :: r, h => by
    rcases List.mem_cons.1 h with rfl | h
    · exact ⟨0, by simp, rfl⟩
    · obtain ⟨k, h1, h2⟩ := mem_at h
      exact ⟨k + 1, by simpa using h1, h2⟩
theorem wth {n a b : Int} (h : within n a b = true) : a ≤ n ∧ n ≤ b := by
  unfold within at h
  simp only [Bool.and_eq_true, decide_eq_true_eq] at h
  exact ⟨h.1, h.2⟩
theorem imp_n {r x : Int} (h : impOk r x = true) : nOk r ∧ nOk x := by
  unfold impOk at h
  simp only [Bool.and_eq_true] at h
  have a := wth h.1
  have b := wth h.2
  exact ⟨⟨by omega, by omega⟩, ⟨by omega, by omega⟩⟩
section
variable {s : SSta} (h : chkSta s = 0)
include h
theorem bus_nm (k : Nat) (hk : k < s.buses.length) : nameOk (s.buses.getD k e0) = true := by
  obtain ⟨_, _, h1, _, _, _⟩ := chk_split h
  exact (nam_facts (take_at (x0 := e0) s.buses [] k h1 hk)).1
theorem good_bus {n : ByteArray} (hn : n ∈ s.buses) : Good (encBus n) ∧ (encBus n).kids = [] := by
  obtain ⟨k, hk, rfl⟩ := mem_at (d := e0) hn
  exact tgBus.say (by simp only [List.mem_singleton]; rintro u rfl; exact cwdN (bus_nm h k hk)) (by simp)
theorem good_line {x : SLine} (hn : x ∈ s.lines) : Good (encLine x) ∧ (encLine x).kids = [] := by
  obtain ⟨k, hk, rfl⟩ := mem_at (d := line0) hn
  obtain ⟨_, _, _, h2, _, _⟩ := chk_split h
  obtain ⟨n1, _, i1, i2⟩ := line_facts (take_at (x0 := line0) s.lines [] k h2 hk)
  obtain ⟨a1, a2⟩ := imp_n i1
  obtain ⟨a3, a4⟩ := imp_n i2
  refine tgLine.say ?_ (by simp)
  simp only [List.mem_cons, List.not_mem_nil, or_false]
  rintro u (rfl | rfl | rfl | rfl | rfl)
  · exact cwdN n1
  · exact cwdD a1
  · exact cwdD a2
  · exact cwdD a3
  · exact cwdD a4
theorem good_src {x : SSrc} (hn : x ∈ s.srcs) : Good (encSrc x) ∧ (encSrc x).kids = [] := by
  obtain ⟨k, hk, rfl⟩ := mem_at (d := src0) hn
  obtain ⟨_, _, _, _, h3, _⟩ := chk_split h
  obtain ⟨n1, _, i1, i2, i3⟩ := src_facts (take_at (x0 := src0) s.srcs [] k h3 hk)
  obtain ⟨a1, a2⟩ := imp_n i1
  obtain ⟨a3, a4⟩ := imp_n i2
  have a5 : nOk (s.srcs.getD k src0).emf := by have := wth i3; exact ⟨by omega, by omega⟩
  refine tgSource.say ?_ (by simp)
  simp only [List.mem_cons, List.not_mem_nil, or_false]
  rintro u (rfl | rfl | rfl | rfl | rfl | rfl)
  · exact cwdN n1
  · exact cwdD a5
  · exact cwdD a1
  · exact cwdD a2
  · exact cwdD a3
  · exact cwdD a4
end
theorem bay_nm {nb nl ns : Nat} {dup : Bool} {bef : List SBay} {b : SBay} (h : bayErrD nb nl ns dup bef b = 0) : nameOk b.name = true := by
  unfold bayErrD at h
  cases hn : nameOk b.name with
  | false => rw [hn] at h; exact absurd h (show ¬ (7 : Int) = 0 by decide)
  | true => rfl
theorem words_good {x : It} {t : ByteArray} {r : List ByteArray} (ht : Tag t) (hx : x.words = (t :: r).map fun t => (⟨t, false⟩ : Wd)) (h3 : ∀ u ∈ r, ck.cwd ⟨u, false⟩ = 0) (h4 : r.length ≤ 39) : Good x := by
  obtain ⟨g, _⟩ := ht.say h3 h4
  have e : (say (t :: r)).words = x.words := hx.symm
  exact ⟨e ▸ g.len, e ▸ g.ne, e ▸ g.op, e ▸ g.ws⟩
theorem good_bayW {s : SSta} {b : SBay} (hn : nameOk b.name = true) (h1 : b.kind = 1 → nameOk (s.lines.getD b.off.toNat line0).name = true) (h2 : b.kind = 2 → nameOk (s.srcs.getD b.off.toNat src0).name = true) (hf : nOk b.fin) (hr : nOk b.zr) (hx : nOk b.zx) : Good (encBay s b) := by
  cases e1 : (b.kind == 1) with
  | true =>
    refine words_good (x := encBay s b) tgBay (r := [b.name, tLine', (s.lines.getD b.off.toNat line0).name, dec b.fin]) ?_ ?_ (by simp)
    · show bayW s b = _
      unfold bayW
      rw [e1]
      rfl
    · simp only [List.mem_cons, List.not_mem_nil, or_false]
      rintro u (rfl | rfl | rfl | rfl)
      · exact cwdN hn
      · exact tgLine.cw
      · exact cwdN (h1 (eq_of_beq e1))
      · exact cwdD hf
  | false =>
    cases e2 : (b.kind == 2) with
    | true =>
      refine words_good (x := encBay s b) tgBay (r := [b.name, tSource, (s.srcs.getD b.off.toNat src0).name]) ?_ ?_ (by simp)
      · show bayW s b = _
        unfold bayW
        rw [e1, e2]
        rfl
      · simp only [List.mem_cons, List.not_mem_nil, or_false]
        rintro u (rfl | rfl | rfl)
        · exact cwdN hn
        · exact tgSource.cw
        · exact cwdN (h2 (eq_of_beq e2))
    | false =>
      refine words_good (x := encBay s b) tgBay (r := [b.name, tCoupler, dec b.zr, dec b.zx]) ?_ ?_ (by simp)
      · show bayW s b = _
        unfold bayW
        rw [e1, e2]
        rfl
      · simp only [List.mem_cons, List.not_mem_nil, or_false]
        rintro u (rfl | rfl | rfl | rfl)
        · exact cwdN hn
        · exact tgCoupler.cw
        · exact cwdD hr
        · exact cwdD hx
theorem good_bayK {s : SSta} {b : SBay} (h1 : nOk b.ct) (h2 : nOk b.vt) (h3 : nOk b.sat) (h4 : nOk b.travel) (hl : ∀ l ∈ b.links, nameOk (s.buses.getD l.bus.toNat e0) = true) : ∀ y ∈ bayK s b, Good y ∧ y.kids = [] := by
  intro y hy
  unfold bayK at hy
  simp only [List.mem_append, List.mem_singleton, List.mem_map] at hy
  have one : ∀ {t : ByteArray} {n : Int}, Tag t → nOk n → Good (say [t, dec n]) ∧ (say [t, dec n]).kids = [] := fun ht hn => ht.say (by simp only [List.mem_singleton]; rintro u rfl; exact cwdD hn) (by simp)
  rcases hy with ((((rfl | hy) | hy) | rfl) | ⟨l, hl', rfl⟩) | hy
  · exact one tgCt h1
  · cases e : (b.kind != 3) with
    | true =>
      rw [e] at hy
      obtain rfl := List.mem_singleton.1 hy
      exact one tgVt h2
    | false => rw [e] at hy; cases hy
  · cases e : (b.sat != 0) with
    | true =>
      rw [e] at hy
      obtain rfl := List.mem_singleton.1 hy
      exact one tgSat h3
    | false => rw [e] at hy; cases hy
  · exact one tgTravel h4
  · refine tgSelect.say ?_ (by simp)
    simp only [List.mem_cons, List.not_mem_nil, or_false]
    rintro u (rfl | rfl)
    · exact cwdN (hl l hl')
    · cases (l.pos == 1)
      · exact tgOpen.cw
      · exact tgClosed.cw
  · cases e : (!b.closed) with
    | true =>
      rw [e] at hy
      obtain rfl := List.mem_singleton.1 hy
      exact tgBreaker.say (by simp only [List.mem_singleton]; rintro u rfl; exact tgOpen.cw) (by simp)
    | false => rw [e] at hy; cases hy
theorem bayK_len7 (s : SSta) (b : SBay) (h : b.links.length ≤ 2) : (bayK s b).length ≤ 7 := by
  unfold bayK
  cases (b.kind != 3) <;> cases (b.sat != 0) <;> cases (!b.closed) <;> simp <;> omega
theorem good_bay {s : SSta} (h : chkSta s = 0) {b : SBay} (hb : b ∈ s.bays) : Good (encBay s b) ∧ (bayK s b).length ≤ 7 ∧ ∀ y ∈ bayK s b, Good y ∧ y.kids = [] := by
  obtain ⟨k, hk, rfl⟩ := mem_at (d := bay0) hb
  obtain ⟨_, _, _, h2, h3, h4⟩ := chk_split h
  have he := take_at (x0 := bay0) s.bays [] k h4 hk
  generalize s.bays.getD k bay0 = b at he
  unfold bayErr at he
  obtain ⟨_, hr, ho, _, hle⟩ := bay_facts he
  obtain ⟨hll, hlk⟩ := links_len hle
  obtain ⟨o1, o2⟩ := bay_off he
  obtain ⟨r1, r2, r3, r4, r5, r6, r7, _⟩ := rng_facts hr
  refine ⟨good_bayW (bay_nm he) (fun q => (line_facts (take_at (x0 := line0) s.lines [] _ h2 (o1 q))).1) (fun q => (src_facts (take_at (x0 := src0) s.srcs [] _ h3 (o2 q))).1) r5 r6 r7, bayK_len7 s b (by omega), good_bayK r1 r2 r3 r4 fun l hl => ?_⟩
  obtain ⟨_, a2, _⟩ := link_all hlk l hl
  exact bus_nm h _ a2
end Go.Proofs.YthmapnolgdpkbaaDoor.de
namespace Go.Proofs.YthmapnolgdpkbaaDoor.de
open Go.RowKit Go.Eb Go.Proofs.YthmapnolgdpkbaaDoor.st
set_option maxRecDepth 100000

def Good2 (x : It) : Prop := Good x ∧ (x.block = true ∨ x.kids = []) ∧ x.kids.length ≤ 7 ∧ ∀ y ∈ x.kids, Good y ∧ y.kids = []
theorem Good2.flat {x : It} (h : Good x ∧ x.kids = []) : Good2 x := ⟨h.1, .inr h.2, by rw [h.2]; simp, by rw [h.2]; simp⟩
theorem cntL_le (n : Nat) : ∀ (l : List It), (∀ x ∈ l, x.kids.length ≤ n) → cntL l ≤ l.length * (n + 1)
  | [], _ => by simp [cntL]
  | x :: r, h => by
    have h1 := h x (by simp)
    have ih := cntL_le n r fun y hy => h y (by simp [hy])
    simp only [cntL, List.length_cons, Nat.add_mul]
    omega
section
variable {s : SSta} (h : chkSta s = 0)
include h
theorem good_main : ∀ t ∈ mainT s, Good2 (t.enc s) := by
  intro t ht
  unfold mainT at ht
  simp only [List.mem_append, List.mem_map] at ht
  rcases ht with ⟨x, hx, rfl⟩ | ⟨x, hx, rfl⟩ | ⟨x, hx, rfl⟩ | ⟨x, hx, rfl⟩
  · exact .flat (good_bus h hx)
  · exact .flat (good_line h hx)
  · exact .flat (good_src h hx)
  · obtain ⟨g1, g2, g3⟩ := good_bay h hx
    exact ⟨g1, .inl rfl, g2, g3⟩
theorem good_sta : Good2 (Tg.sta.enc s) := by
  obtain ⟨h1, _⟩ := chk_split h
  exact .flat (tgStation.say (by simp only [List.mem_singleton]; rintro u rfl; exact cwdN h1) (by simp))
theorem main_len : (mainT s).length ≤ 30 := by
  obtain ⟨_, hc, _⟩ := chk_split h
  obtain ⟨_, l1, l2, l3, l4⟩ := cnt_facts hc
  unfold mainT
  simp
  omega
end
theorem good_list {l : List It} (h : ∀ x ∈ l, Good2 x) (hl : l.length ≤ 60) : okL l = true ∧ ck.chk l = 0 := by
  refine ⟨?_, ?_⟩
  · unfold okL
    rw [decide_eq_true (by omega), fits_two l fun x hx => ⟨(h x hx).1, by have := (h x hx).2.2.1; omega, (h x hx).2.2.2⟩]
    rfl
  · refine chk_two (fun x hx => ⟨(h x hx).1.item (h x hx).2.1, fun y hy => ⟨((h x hx).2.2.2 y hy).1.item (.inr ((h x hx).2.2.2 y hy).2), ((h x hx).2.2.2 y hy).2⟩⟩) ?_
    have := cntL_le 7 l fun x hx => (h x hx).2.2.1
    omega
end Go.Proofs.YthmapnolgdpkbaaDoor.de
