/-
  An evaluator of Go code on abstract values, proved sound, and what it computes of the functions that the statement reaches (part 7). No condition.
-/
import Derived.Test.YtbpndheehcbldaaGreatDoorQ6
import Derived.Test.YtbpndheehcbldaaGreatDoorProg
import Derived.KernelRfl
import Derived.Test.YtbpndheehcbldaaGreatDoorTie
import Derived.ProofKit
import Derived.LaidMore
import Derived.OpenShut
import Derived.Stop.Joined
set_option maxRecDepth 100000
namespace Go.Proofs.YtbpndheehcbldaaGreatDoor.st
open Go.RowKit Go.Eb
theorem shp_str {ds : List D} (h : Shp Tryz.prog 9 ds) : ∃ s, DEs ds (busC s) ∧ (fun _ => true) s = true := by
 obtain ⟨s, rfl, _⟩ := h.str_inv Tryz.underlying9
 exact ⟨s, .refl _, rfl⟩
theorem AgP {ds : List D} (h : Shp Tryz.prog 115 ds) : ∃ r x, ds = [dI r, dI x] := by
 obtain ⟨ps, rfl, hl, hp⟩ := h.struct_inv Tryz.underlying115
 match ps, hl with
 | [p0, p1], _ =>
  obtain ⟨r, rfl, _⟩ := (hp 0 _ p0 rfl rfl).int_inv Tryz.underlying3
  obtain ⟨x, rfl, _⟩ := (hp 1 _ p1 rfl rfl).int_inv Tryz.underlying3
  exact ⟨r, x, rfl⟩
theorem shp_line {ds : List D} (h : Shp Tryz.prog 144 ds) : ∃ x, DEs ds (Aap x) ∧ (fun _ => true) x = true := by
 obtain ⟨ps, rfl, hl, hp⟩ := h.struct_inv Tryz.underlying144
 match ps, hl with
 | [p0, p1, p2], _ =>
  obtain ⟨s, rfl, _⟩ := (hp 0 _ p0 rfl rfl).str_inv Tryz.underlying9
  obtain ⟨r1, x1, rfl⟩ := AgP (hp 1 _ p1 rfl rfl)
  obtain ⟨r0, x0, rfl⟩ := AgP (hp 2 _ p2 rfl rfl)
  exact ⟨⟨s, r1, x1, r0, x0⟩, .refl _, rfl⟩
theorem shp_src {ds : List D} (h : Shp Tryz.prog 147 ds) : ∃ x, DEs ds (Aao x) ∧ (fun _ => true) x = true := by
 obtain ⟨ps, rfl, hl, hp⟩ := h.struct_inv Tryz.underlying147
 match ps, hl with
 | [p0, p1, p2, p3], _ =>
  obtain ⟨s, rfl, _⟩ := (hp 0 _ p0 rfl rfl).str_inv Tryz.underlying9
  obtain ⟨e, rfl, _⟩ := (hp 1 _ p1 rfl rfl).int_inv Tryz.underlying3
  obtain ⟨r1, x1, rfl⟩ := AgP (hp 2 _ p2 rfl rfl)
  obtain ⟨r0, x0, rfl⟩ := AgP (hp 3 _ p3 rfl rfl)
  exact ⟨⟨s, e, r1, x1, r0, x0⟩, .refl _, rfl⟩
theorem shp_link {ds : List D} (h : Shp Tryz.prog 240 ds) : ∃ x, DEs ds (Adu x) ∧ (fun _ => true) x = true := by
 obtain ⟨ps, rfl, hl, hp⟩ := h.struct_inv Tryz.underlying240
 match ps, hl with
 | [p0, p1], _ =>
  obtain ⟨r, rfl, _⟩ := (hp 0 _ p0 rfl rfl).int_inv Tryz.underlying3
  obtain ⟨x, rfl, _⟩ := (hp 1 _ p1 rfl rfl).int_inv (k := .i64) (by kernel_rfl)
  exact ⟨⟨r, x⟩, .refl _, rfl⟩
theorem shp_bay {ds : List D} (h : Shp Tryz.prog 118 ds) : ∃ x, DEs ds (bayC x) ∧ (fun x => Aaq x.links) x = true := by
 obtain ⟨ps, rfl, hl, hp⟩ := h.struct_inv Tryz.underlying118
 match ps, hl with
 | [p0, p1, p2, p3, p4, p5, p6, p7, p8, p9, p10], _ =>
  obtain ⟨s, rfl, _⟩ := (hp 0 _ p0 rfl rfl).str_inv Tryz.underlying9
  obtain ⟨k, rfl, _⟩ := (hp 1 _ p1 rfl rfl).int_inv (k := .i64) (by kernel_rfl)
  obtain ⟨o, rfl, _⟩ := (hp 2 _ p2 rfl rfl).int_inv Tryz.underlying3
  obtain ⟨e, rfl, _⟩ := (hp 3 _ p3 rfl rfl).int_inv Tryz.underlying3
  obtain ⟨r, x, rfl⟩ := AgP (hp 4 _ p4 rfl rfl)
  obtain ⟨d, l, rfl, hd, hn, _⟩ := AbS (d0 := AaH) Tryz.underlying116 (show Tryz.prog.cellsOf 240 = 2 by kernel_rfl) (fun ds => shp_link) (hp 5 _ p5 rfl rfl)
  obtain ⟨c, rfl⟩ := (hp 6 _ p6 rfl rfl).bool_inv Tryz.underlying4
  obtain ⟨n1, rfl, _⟩ := (hp 7 _ p7 rfl rfl).int_inv Tryz.underlying3
  obtain ⟨n2, rfl, _⟩ := (hp 8 _ p8 rfl rfl).int_inv Tryz.underlying3
  obtain ⟨n3, rfl, _⟩ := (hp 9 _ p9 rfl rfl).int_inv Tryz.underlying3
  obtain ⟨n4, rfl, _⟩ := (hp 10 _ p10 rfl rfl).int_inv Tryz.underlying3
  exact ⟨⟨s, k, o, e, r, x, l, c, n1, n2, n3, n4⟩, .cons (.refl _) (.cons (.refl _) (.cons (.refl _) (.cons (.refl _) (.cons (.refl _) (.cons (.refl _) (.cons hd (.refl _))))))), hn⟩
theorem shp_sta {ds : List D} (h : Shp Tryz.prog 27 ds) : ∃ x, DEs ds (staC x) ∧ AcF x = true := by
 obtain ⟨ps, rfl, hl, hp⟩ := h.struct_inv Tryz.underlying27
 match ps, hl with
 | [p0, p1, p2, p3, p4], _ =>
  obtain ⟨s, rfl, _⟩ := (hp 0 _ p0 rfl rfl).str_inv Tryz.underlying9
  obtain ⟨d1, l1, rfl, h1, n1, _⟩ := AbS (d0 := e0) Tryz.underlying22 (show Tryz.prog.cellsOf 9 = 1 by kernel_rfl) (fun ds => shp_str) (hp 1 _ p1 rfl rfl)
  obtain ⟨d2, l2, rfl, h2, n2, _⟩ := AbS (d0 := Aaf) Tryz.underlying23 (show Tryz.prog.cellsOf 144 = 5 by kernel_rfl) (fun ds => shp_line) (hp 2 _ p2 rfl rfl)
  obtain ⟨d3, l3, rfl, h3, n3, _⟩ := AbS (d0 := src0) Tryz.underlying24 (show Tryz.prog.cellsOf 147 = 6 by kernel_rfl) (fun ds => shp_src) (hp 3 _ p3 rfl rfl)
  obtain ⟨d4, l4, rfl, h4, n4, a4⟩ := AbS (d0 := bay0) Tryz.underlying25 (show Tryz.prog.cellsOf 118 = 12 by kernel_rfl) (fun ds => shp_bay) (hp 4 _ p4 rfl rfl)
  refine ⟨⟨s, l1, l2, l3, l4⟩, .cons (.refl _) (.cons h1 (.cons h2 (.cons h3 (.cons h4 .nil)))), ?_⟩
  unfold AcF
  simp only [n1, n2, n3, n4, a4, Bool.and_self]
end Go.Proofs.YtbpndheehcbldaaGreatDoor.st
namespace Go.Proofs.YtbpndheehcbldaaGreatDoor.se
open Go.RowKit Go.Eb Go.Proofs.YtbpndheehcbldaaGreatDoor.st
theorem shp_rule {ds : List D} (h : Shp Tryz.prog 136 ds) : ∃ x, DEs ds (AcA x) ∧ (fun _ => true) x = true := by
 obtain ⟨ps, rfl, hl, hp⟩ := h.struct_inv Tryz.underlying136
 match ps, hl with
 | [p0, p1], _ =>
  obtain ⟨a, rfl, _⟩ := (hp 0 _ p0 rfl rfl).str_inv Tryz.underlying9
  obtain ⟨b, rfl, _⟩ := (hp 1 _ p1 rfl rfl).str_inv Tryz.underlying9
  exact ⟨⟨a, b⟩, .refl _, rfl⟩
theorem shp_set {ds : List D} (h : Shp Tryz.prog 125 ds) : ∃ x, DEs ds (setC x) ∧ Afg x = true := by
 obtain ⟨ps, rfl, hl, hp⟩ := h.struct_inv Tryz.underlying125
 match ps, hl with
 | [p0, p1], _ =>
  obtain ⟨a, rfl, _⟩ := (hp 0 _ p0 rfl rfl).str_inv Tryz.underlying9
  obtain ⟨d1, l1, rfl, h1, n1, _⟩ := AbS (d0 := e0) Tryz.underlying22 (show Tryz.prog.cellsOf 9 = 1 by kernel_rfl) (fun ds => shp_str) (hp 1 _ p1 rfl rfl)
  exact ⟨⟨a, l1⟩, .cons (.refl _) (.cons h1 .nil), n1⟩
theorem shp_pub {ds : List D} (h : Shp Tryz.prog 122 ds) : ∃ x, DEs ds (pubC x) ∧ (fun _ => true) x = true := by
 obtain ⟨ps, rfl, hl, hp⟩ := h.struct_inv Tryz.underlying122
 match ps, hl with
 | [p0, p1, p2], _ =>
  obtain ⟨a, rfl, _⟩ := (hp 0 _ p0 rfl rfl).str_inv Tryz.underlying9
  obtain ⟨b, rfl, _⟩ := (hp 1 _ p1 rfl rfl).int_inv Tryz.underlying3
  obtain ⟨c, rfl, _⟩ := (hp 2 _ p2 rfl rfl).int_inv Tryz.underlying3
  exact ⟨⟨a, b, c⟩, .refl _, rfl⟩
theorem shp_sub {ds : List D} (h : Shp Tryz.prog 68 ds) : ∃ x, DEs ds (subC x) ∧ (fun _ => true) x = true := by
 obtain ⟨ps, rfl, hl, hp⟩ := h.struct_inv Tryz.underlying68
 match ps, hl with
 | [p0, p1, p2, p3], _ =>
  obtain ⟨a, rfl, _⟩ := (hp 0 _ p0 rfl rfl).str_inv Tryz.underlying9
  obtain ⟨b, rfl, _⟩ := (hp 1 _ p1 rfl rfl).str_inv Tryz.underlying9
  obtain ⟨c, rfl, _⟩ := (hp 2 _ p2 rfl rfl).str_inv Tryz.underlying9
  obtain ⟨d, rfl, _⟩ := (hp 3 _ p3 rfl rfl).str_inv Tryz.underlying9
  exact ⟨⟨a, b, c, d⟩, .refl _, rfl⟩
theorem shp_el {ds : List D} (h : Shp Tryz.prog 56 ds) : ∃ a b c, ds = [dB a, dI b, dI c] := by
 obtain ⟨ps, rfl, hl, hp⟩ := h.struct_inv Tryz.underlying56
 match ps, hl with
 | [p0, p1, p2], _ =>
  obtain ⟨a, rfl⟩ := (hp 0 _ p0 rfl rfl).bool_inv Tryz.underlying4
  obtain ⟨b, rfl, _⟩ := (hp 1 _ p1 rfl rfl).int_inv Tryz.underlying3
  obtain ⟨c, rfl, _⟩ := (hp 2 _ p2 rfl rfl).int_inv Tryz.underlying3
  exact ⟨a, b, c, rfl⟩
theorem shp_cu {ds : List D} (h : Shp Tryz.prog 58 ds) : ∃ a b c, ds = [dB a, dI b, dI c] := by
 obtain ⟨ps, rfl, hl, hp⟩ := h.struct_inv Tryz.underlying58
 match ps, hl with
 | [p0, p1, p2], _ =>
  obtain ⟨a, rfl⟩ := (hp 0 _ p0 rfl rfl).bool_inv Tryz.underlying4
  obtain ⟨b, rfl, _⟩ := (hp 1 _ p1 rfl rfl).int_inv Tryz.underlying3
  obtain ⟨c, rfl, _⟩ := (hp 2 _ p2 rfl rfl).int_inv Tryz.underlying3
  exact ⟨a, b, c, rfl⟩
theorem shp_zo {ds : List D} (h : Shp Tryz.prog 53 ds) : ∃ a b c d e f, ds = [dB a, dB b, dI c, dI d, dI e, dI f] := by
 obtain ⟨ps, rfl, hl, hp⟩ := h.struct_inv Tryz.underlying53
 match ps, hl with
 | [p0, p1, p2, p3, p4, p5], _ =>
  obtain ⟨a, rfl⟩ := (hp 0 _ p0 rfl rfl).bool_inv Tryz.underlying4
  obtain ⟨b, rfl⟩ := (hp 1 _ p1 rfl rfl).bool_inv Tryz.underlying4
  obtain ⟨c, rfl, _⟩ := (hp 2 _ p2 rfl rfl).int_inv Tryz.underlying3
  obtain ⟨d, rfl, _⟩ := (hp 3 _ p3 rfl rfl).int_inv Tryz.underlying3
  obtain ⟨e, rfl, _⟩ := (hp 4 _ p4 rfl rfl).int_inv Tryz.underlying3
  obtain ⟨f, rfl, _⟩ := (hp 5 _ p5 rfl rfl).int_inv Tryz.underlying3
  exact ⟨a, b, c, d, e, f, rfl⟩
theorem shp_zs {ds : List D} (h : Shp Tryz.prog 54 ds) : ∃ a b c d e f a1 b1 c1 d1 e1 f1 a2 b2 c2 d2 e2 f2, ds = [dB a, dB b, dI c, dI d, dI e, dI f, dB a1, dB b1, dI c1, dI d1, dI e1, dI f1, dB a2, dB b2, dI c2, dI d2, dI e2, dI f2] := by
 obtain ⟨ps, rfl, hl, hp⟩ := h.array_inv Tryz.underlying54
 match ps, hl with
 | [p0, p1, p2], _ =>
  obtain ⟨a, b, c, d, e, f, rfl⟩ := shp_zo (hp p0 (by simp))
  obtain ⟨a1, b1, c1, d1, e1, f1, rfl⟩ := shp_zo (hp p1 (by simp))
  obtain ⟨a2, b2, c2, d2, e2, f2, rfl⟩ := shp_zo (hp p2 (by simp))
  exact ⟨a, b, c, d, e, f, a1, b1, c1, d1, e1, f1, a2, b2, c2, d2, e2, f2, rfl⟩
theorem shp_rel {ds : List D} (h : Shp Tryz.prog 64 ds) : ∃ x, DEs ds (relC x) ∧ Abk x = true := by
 obtain ⟨ps, rfl, hl, hp⟩ := h.struct_inv Tryz.underlying64
 match ps, hl with
 | [p0, p1, p2, p3, p4, p5, p6, p7, p8, p9, p10, p11, p12, p13, p14, p15, p16, p17, p18, p19, p20, p21, p22, p23, p24, p25], _ =>
  obtain ⟨x0, rfl, _⟩ := (hp 0 _ p0 rfl rfl).str_inv Tryz.underlying9
  obtain ⟨x1, rfl, _⟩ := (hp 1 _ p1 rfl rfl).int_inv Tryz.underlying3
  obtain ⟨x2, rfl, _⟩ := (hp 2 _ p2 rfl rfl).int_inv Tryz.underlying3
  obtain ⟨z0a, z0b, z0c, z0d, z0e, z0f, z1a, z1b, z1c, z1d, z1e, z1f, z2a, z2b, z2c, z2d, z2e, z2f, rfl⟩ := shp_zs (hp 3 _ p3 rfl rfl)
  obtain ⟨x4, rfl, _⟩ := (hp 4 _ p4 rfl rfl).int_inv Tryz.underlying3
  obtain ⟨x5, rfl, _⟩ := (hp 5 _ p5 rfl rfl).int_inv Tryz.underlying3
  obtain ⟨x6, rfl, _⟩ := (hp 6 _ p6 rfl rfl).int_inv Tryz.underlying3
  obtain ⟨x7, rfl, _⟩ := (hp 7 _ p7 rfl rfl).int_inv Tryz.underlying3
  obtain ⟨x8, rfl, _⟩ := (hp 8 _ p8 rfl rfl).int_inv Tryz.underlying3
  obtain ⟨x9, rfl, _⟩ := (hp 9 _ p9 rfl rfl).int_inv Tryz.underlying3
  obtain ⟨x10a, x10b, x10c, rfl⟩ := shp_el (hp 10 _ p10 rfl rfl)
  obtain ⟨x11a, x11b, x11c, rfl⟩ := shp_cu (hp 11 _ p11 rfl rfl)
  obtain ⟨x12a, x12b, x12c, rfl⟩ := shp_el (hp 12 _ p12 rfl rfl)
  obtain ⟨x13, rfl, _⟩ := (hp 13 _ p13 rfl rfl).int_inv Tryz.underlying3
  obtain ⟨x14, rfl, _⟩ := (hp 14 _ p14 rfl rfl).int_inv Tryz.underlying3
  obtain ⟨x15, rfl, _⟩ := (hp 15 _ p15 rfl rfl).int_inv Tryz.underlying3
  obtain ⟨x16a, x16b, x16c, rfl⟩ := shp_el (hp 16 _ p16 rfl rfl)
  obtain ⟨x17a, x17b, x17c, rfl⟩ := shp_el (hp 17 _ p17 rfl rfl)
  obtain ⟨x18, rfl, _⟩ := (hp 18 _ p18 rfl rfl).int_inv Tryz.underlying3
  obtain ⟨x19, rfl, _⟩ := (hp 19 _ p19 rfl rfl).int_inv Tryz.underlying3
  obtain ⟨x20, rfl, _⟩ := (hp 20 _ p20 rfl rfl).int_inv Tryz.underlying3
  obtain ⟨x21, rfl, _⟩ := (hp 21 _ p21 rfl rfl).int_inv Tryz.underlying3
  obtain ⟨d22, l22, rfl, h22, n22, a22⟩ := AbS (d0 := AaI) Tryz.underlying59 (show Tryz.prog.cellsOf 136 = 2 by kernel_rfl) (fun ds => shp_rule) (hp 22 _ p22 rfl rfl)
  obtain ⟨d23, l23, rfl, h23, n23, a23⟩ := AbS (d0 := set0) Tryz.underlying60 (show Tryz.prog.cellsOf 125 = 2 by kernel_rfl) (fun ds => shp_set) (hp 23 _ p23 rfl rfl)
  obtain ⟨d24, l24, rfl, h24, n24, a24⟩ := AbS (d0 := pub0) Tryz.underlying61 (show Tryz.prog.cellsOf 122 = 3 by kernel_rfl) (fun ds => shp_pub) (hp 24 _ p24 rfl rfl)
  obtain ⟨d25, l25, rfl, h25, n25, a25⟩ := AbS (d0 := sub0) Tryz.underlying62 (show Tryz.prog.cellsOf 68 = 4 by kernel_rfl) (fun ds => shp_sub) (hp 25 _ p25 rfl rfl)
  refine ⟨⟨x0, x1, x2, z0a, z0b, z0c, z0d, z0e, z0f, z1a, z1b, z1c, z1d, z1e, z1f, z2a, z2b, z2c, z2d, z2e, z2f, x4, x5, x6, x7, x8, x9, x10a, x10b, x10c, x11a, x11b, x11c, x12a, x12b, x12c, x13, x14, x15, x16a, x16b, x16c, x17a, x17b, x17c, x18, x19, x20, x21, l22, l23, l24, l25⟩, ?_, ?_⟩
  ·exact DEs.app (a := [_, _, _, _, _, _, _, _, _, _, _, _, _, _, _, _, _, _, _, _, _, _, _, _, _, _, _, _, _, _, _, _, _, _, _, _, _, _, _, _, _, _, _, _, _, _, _, _, _]) (.refl _) (.cons h22 (.cons h23 (.cons h24 (.cons h25 .nil))))
  ·unfold Abk
   simp only [n22, n23, n24, n25, a23, Bool.and_self]
theorem shp_rels {ds : List D} (h : Shp Tryz.prog 28 ds) : ∃ (d : D) (l : List SRel), ds = [d] ∧ DE d (AbF l) ∧ Aaq l = true ∧ l.all Abk = true :=
 AbS (d0 := rel0) Tryz.underlying28 (show Tryz.prog.cellsOf 64 = 53 by kernel_rfl) (fun ds => shp_rel) h
end Go.Proofs.YtbpndheehcbldaaGreatDoor.se
namespace Go.Proofs.YtbpndheehcbldaaGreatDoor.tb
open Go.RowKit Go.Eb Go.Proofs.YtbpndheehcbldaaGreatDoor.st
set_option maxRecDepth 100000
open Go.Proofs.YtbpndheehcbldaaGreatDoor.sg (fitR FitR AaC fitC AbB eR1 AbK eCf AbV)
def okcF (c : SCfg) : Bool := okCf c && !AbX c
noncomputable def oktF (c : SCfg) : Bool := okCf c && (!AbX c && AcP c == 0)
theorem okcF_iff {c : SCfg} (h : okcF c = true) : okCf c = true ∧ AbX c = false := by
 unfold okcF at h
 simpa using h
theorem oktF_iff {c : SCfg} (h : oktF c = true) : okCf c = true ∧ AbX c = false ∧ AcP c = 0 := by
 unfold oktF at h
 simpa using h
noncomputable def ZLw : KLw where
 okl := okG eCf okCf
 lg x := AbX (theT eCf x)
 okc := okG eCf okcF
 chk x := AcP (theT eCf x)
 okt := okG eCf oktF
 ps x := pbls 0 (theT eCf x).rels
 ds x := devs (theT eCf x).rels (pbls 0 (theT eCf x).rels) 0 0 (theT eCf x).rels
 er _ := 0
theorem cmp0 {c : SCfg} (h : oktF c = true) : CX Tryz.prog 9 [aCfg c] [] (aTs (pbls 0 c.rels) (devs c.rels (pbls 0 c.rels) 0 0 c.rels) 0) [] := by
 obtain ⟨h1, h2, h3⟩ := oktF_iff h
 refine cCmp (tab_ok h1 h2 h3) ?_
 have := cTab c h1 h2
 rwa [h3] at this
theorem sLw : OrcS Tryz.prog (oLw ZLw) :=
 .cons (.p dec0_ok kn.c9k) (.cons (.t' (enc := eCf) (c := okCf) (r := fun c => vB (AbX c)) fun c h => clg9 c h) (.cons (.t' (enc := eCf) (c := okcF) (r := fun c => vI (AcP c)) fun c h => cRtb c (okcF_iff h).1 (okcF_iff h).2)
  (.cons (.t' (enc := eCf) (c := oktF) (r := fun c => aTs (pbls 0 c.rels) (devs c.rels (pbls 0 c.rels) 0 0 c.rels) 0) fun c h => cmp0 h) .nil)))
theorem t_cf (c : SCfg) : theT eCf [AV.agg (List.map C.d (cfgC c))] = c := Aah AbV c
theorem zLw {c : SCfg} : ZLw.ps [AV.agg (List.map C.d (cfgC c))] = pbls 0 c.rels ∧ ZLw.ds [AV.agg (List.map C.d (cfgC c))] = devs c.rels (pbls 0 c.rels) 0 0 c.rels ∧ ZLw.lg [AV.agg (List.map C.d (cfgC c))] = AbX c ∧ ZLw.chk [AV.agg (List.map C.d (cfgC c))] = AcP c := by
 have t := t_cf c
 refine ⟨?_, ?_, ?_, ?_⟩ <;> dsimp only [ZLw] <;> rw [t]
theorem k_ok (c : SCfg) (h : okCf c = true) : ZLw.okl [AV.agg (List.map C.d (cfgC c))] = true := Aam AbV (c := okCf) c h
theorem k_okc (c : SCfg) (h : okCf c = true) (hL : AbX c = false) : ZLw.okc [AV.agg (List.map C.d (cfgC c))] = true := Aam AbV (c := okcF) c (by unfold okcF; rw [h, hL]; rfl)
theorem k_okt (c : SCfg) (h : okCf c = true) (hL : AbX c = false) (h0 : AcP c = 0) : ZLw.okt [AV.agg (List.map C.d (cfgC c))] = true := Aam AbV (c := oktF) c (by unfold oktF; rw [h, hL, h0]; rfl)
section
variable {c : SCfg} (h : OkC c) (g : Nat)
include h
end
section
variable {c : SCfg} (h : OkC c) (g : Nat)
include h
omit h in
theorem in_at {i k : Nat} (hk : k < (c.rels.getD i rel0).subs.length) {n d it o : Nat} (I : InOk c.rels i ((c.rels.getD i rel0).subs.getD k sub0) n d it o) :
  (devOf c.rels (pbls 0 c.rels) (0 + offs c.rels i) (0 + i) (c.rels.getD i rel0)).ins.getD k ((0 : Int), (0 : Int)) = ((n : Int), (it : Int)) := by
 unfold devOf
 simp only [Nat.zero_add]
 rw [getD_map _ hk _ sub0, I.hx, I.hit]
omit h in
theorem in_len (i : Nat) : (devOf c.rels (pbls 0 c.rels) (0 + offs c.rels i) (0 + i) (c.rels.getD i rel0)).ins.length = (c.rels.getD i rel0).subs.length := by
 unfold devOf; simp
omit h in
theorem ou_at (i : Nat) : (devOf c.rels (pbls 0 c.rels) (0 + offs c.rels i) (0 + i) (c.rels.getD i rel0)).outs = outS (c.rels.getD i rel0) := rfl
omit h in
theorem n_lt0 (k : Nat) : decide ((k : Int) < 0) = false := by simp
omit h in
theorem n_ge {k n : Nat} (h : k < n) : decide ((k : Int) ≥ (n : Int)) = false := by simp; omega
omit h in
theorem n_eq {a b : ByteArray} (h : a = b) : (!(a.toList == b.toList)) = false := by subst h; simp
theorem lin14 {i : Nat} (hi : i < c.rels.length) (mo : Nat) : ∀ m k, k ≤ (c.rels.getD i rel0).subs.length → (c.rels.getD i rel0).subs.length - k < m →
  Llin_14 ZLw c g mo m i (k : Nat) = Llin_9 ZLw c g mo ((i + 1 : Nat) : Int)
 | 0, k, _, hm => by omega
 | m + 1, k, hk, hm => by
  have hln := h.len
  have fr := AaC (OkC.fr h hi)
  have st := stlin_14 ZLw c g mo m i (k : Nat)
  rw [zLw.1, zLw.2.1] at st
  by_cases hlt : k < (c.rels.getD i rel0).subs.length
  ·obtain ⟨n, d, it, o, I⟩ := in_ok h.sig h.uq hi (x := (c.rels.getD i rel0).subs.getD k sub0) (AaP sub0 hlt)
   rw [Afv, tn, tn, Ahw _ _ _ _ _ _ hi, in_at hlt I, in_len] at st
   dsimp only [] at st
   rw [tn, I.hr, tn, tn, I.hso, tn, Ahw _ _ _ _ _ _ I.hd, ou_at, I.hon, I.hnm] at st
   rw [lt1 hi, lt1 hlt, lt1 I.hn, lt1 I.hd, lt1 I.hil, lt1 I.ho, ge0, ge0, ge0, ge0, ge0, ge0, n_lt0, n_lt0, n_lt0, n_lt0, n_ge I.hn, n_ge I.hd, n_ge I.hil, n_ge I.ho, n_eq rfl, n_eq rfl, nx hlt (by have := fr.su; omega)] at st
   simp -implicitDefEqProofs only [Bool.and_self, cond_true, cond_false] at st
   rw [st]
   exact lin14 hi mo m (k + 1) (by omega) (by omega)
  ·obtain rfl : k = (c.rels.getD i rel0).subs.length := by omega
   rw [lt1 hi, ge0, tn, lt0 (Nat.lt_irrefl _), nx hi (by omega), tt, cond_true, cond_false] at st
   exact st
theorem lin9 : ∀ m i, i ≤ c.rels.length → c.rels.length - i < m → 1000 < g → Llin_9 ZLw c g m ((i : Nat) : Int) = some (.leaf (vB true, []))
 | 0, i, _, hm, _ => by omega
 | m + 1, i, hi, hm, hg => by
  have st := stlin_9 ZLw c g m ((i : Nat) : Int)
  by_cases hlt : i < c.rels.length
  ·have fr := AaC (OkC.fr h hlt)
   have n2 : ((((c.rels.getD i rel0).subs.length : Nat) : Int) != (((c.rels.getD i rel0).subs.length : Nat) : Int)) = false := by simp
   rw [zLw.2.1, Afv, lt1 hlt, ge0, tn, Ahw _ _ _ _ _ _ hlt, in_len, n2, tt, cond_true, cond_true, cond_true, cond_false] at st
   refine st.trans ((lin14 h g hlt m g 0 (by omega) (by have := fr.su; omega)).trans ?_)
   exact lin9 m (i + 1) (by omega) (by omega) hg
  ·obtain rfl : i = c.rels.length := by omega
   rw [lt0 (Nat.lt_irrefl _), cond_false] at st
   exact st
end
theorem cInputs (c : SCfg) (h : okCf c = true) : CR Tryz.prog 4 [aCfg c] [] (vB true) [] := by
 refine cr_of sLw.ok Tryz.func4 blin rfl ((evlin ZLw c 2000).trans ?_)
 rw [k_ok c h, zLw.2.2.1, cond_true]
 cases hL : AbX c with
 | true => rfl
 | false =>
  rw [k_okc c h hL, zLw.2.2.2, cond_true, cond_false]
  cases h0 : (AcP c != 0) with
  | true => rfl
  | false =>
   have h0' : AcP c = 0 := by simpa using h0
   have hl : ((((devs c.rels (pbls 0 c.rels) 0 0 c.rels).length : Nat) : Int) != ((c.rels.length : Nat) : Int)) = false := by rw [Afv]; simp
   rw [k_okt c h hL h0', zLw.2.1, hl, cond_true, cond_false, cond_false]
   have hO := tab_ok h hL h0'
   have hln := hO.len
   exact lin9 hO 2000 2000 0 (by omega) (by omega) (by omega)
theorem shp_cfg {ds : List D} (h : Shp Tryz.prog 30 ds) : ∃ c, DEs ds (cfgC c) ∧ okCf c = true := by
 obtain ⟨ps, rfl, hl, hp⟩ := h.struct_inv Tryz.underlying30
 match ps, hl with
 | [p0, p1], _ =>
  obtain ⟨s, h0, hs⟩ := shp_sta (hp 0 _ p0 rfl rfl)
  obtain ⟨d, l, rfl, h1, n1, a1⟩ := Go.Proofs.YtbpndheehcbldaaGreatDoor.se.shp_rels (hp 1 _ p1 rfl rfl)
  refine ⟨⟨s, l⟩, h0.app (.cons h1 .nil), ?_⟩
  unfold okCf
  rw [hs, n1, a1]
  rfl
end Go.Proofs.YtbpndheehcbldaaGreatDoor.tb
namespace Go.Proofs.YtbpndheehcbldaaGreatDoor.ito
open Go Go.Eb
open Go.ChangeShapes Go.WideShapes Go.ChangeAt Go.WideMaps Go.WideElems Go.RowKit
theorem own : ownKnob Tryz.prog.godebug = none := by kernel_rfl
abbrev laidL : List (String × DataW Unit) := Rows.tablesSendsRow.laid
abbrev tT : TypeId := 315
theorem tTab : (Tryz.prog.globals[0]?).map (·.type) = some tT := by kernel_rfl
theorem uTab : Tryz.prog.underlying tT = some (.array 20 300) := by kernel_rfl
theorem uInt : Tryz.prog.underlying 300 = some (.int .u64) := by kernel_rfl
theorem cTab : Tryz.prog.cellsOf tT = 20 := by kernel_rfl
theorem cInt : Tryz.prog.cellsOf 300 = 1 := by kernel_rfl
section
variable {W : World} {base : Nat} {sp : Nat → Bool} {held : Bool} {fuel : Nat}
theorem tab_cells {cs : List Value} {p : List MemPlace} (h : DataW.trod (fun _ => ()) Tryz.prog W base sp held fuel tT cs = some (Rows.laid_internal_strconv_uint64pow10, p)) : cs = Lib.pow10Tab.map (.int .u64) := by
 obtain ⟨xs, m, rfl, hx, hlen, hn, hel⟩ := DataW.trod_array uTab h
 rw [cTab] at hlen
 rw [cInt] at hel
 have hx1 : (Lib.pow10Tab.map fun k => DataW.lit (H := Unit) (.int .u64 k)) = xs.map (·.1) := by
  simp only [Prod.mk.injEq] at hx
  have := hx.1
  simp only [Rows.laid_internal_strconv_uint64pow10, DataW.agg.injEq] at this
  exact this
 have h20 : Lib.pow10Tab.length = 20 := by simp [Lib.pow10Tab]
 refine List.ext_getElem (by simp [hlen, h20]) fun i h1 h2 => ?_
 have hi : i < 20 := by omega
 have he := hel i hi
 have hxi : i < xs.length := by omega
 rw [List.getElem?_eq_getElem hxi] at he
 obtain ⟨k, e1, e2, _⟩ := DataW.trod_int uInt he
 have hi' : i < Lib.pow10Tab.length := by omega
 have e3 : xs[i].1 = .lit (.int .u64 Lib.pow10Tab[i]) := by
  have := congrArg (fun l => l[i]?) hx1
  simpa [hxi, hi'] using this.symm
 rw [e2] at e3
 simp only [DataW.lit.injEq, Lit.int.injEq, true_and] at e3
 have e4 : (cs.drop (i * 1)).take 1 = [cs[i]] := by
  rw [Nat.mul_one, List.drop_eq_getElem_cons h1]; rfl
 rw [e4] at e1
 simp only [List.cons.injEq, and_true] at e1
 rw [List.getElem_map]
 simp [e1, e3]
end
theorem block_of {W : World} (h : laidMetH Tryz.prog laidL W) : ∃ t fz, W.heap[0]? = some (.cells tab t fz) := by
 rw [MakeChecks.laidMetH_plain _ _ _ (by kernel_rfl)] at h
 obtain ⟨ps, ⟨_, _, _, _, _, _, _, _, _, _, ⟨_, _, _, _, _, _, _, _, _, _, ⟨g, t, cs, f, p, q, hg, ht, hv, hd, _, _⟩, _⟩, _⟩, _, _⟩ := h
 have e0 : some g = some 0 := hg.symm.trans (by kernel_rfl)
 obtain rfl := Option.some.inj e0
 obtain rfl := Option.some.inj (tTab.symm.trans ht)
 have e := tab_cells hd
 unfold World.var? at hv
 rw [hg] at hv
 simp only [Option.bind_some] at hv
 split at hv
 ·rename_i cs' t' fz hw
  simp only [Option.some.injEq] at hv
  subst hv
  refine ⟨t', fz, ?_⟩
  rw [hw]
  have e1 : cs' = tab := by
   apply Array.ext'
   rw [e]
   rfl
  rw [e1]
 ·cases hv
theorem glob_of {W : World} (h : laidMetH Tryz.prog laidL W) : Glob (allI W) W := by
 obtain ⟨t, fz, hw⟩ := block_of h
 intro x hx
 unfold gcells at hx
 obtain ⟨i, hi, rfl⟩ := List.mem_map.1 hx
 refine ⟨(Array.getElem?_eq_some_iff.1 hw).1, ?_⟩
 show World.cell? W ⟨0, i, none⟩ = _
 unfold World.cell?
 rw [hw]
 show tab[i]? = _
 rw [bltD]
 by_cases h20 : i < 20
 ·rw [tab_get i h20, decide_eq_true h20]; rfl
 ·rw [decide_eq_false h20, Array.getElem?_eq_none (by rw [tab_size]; omega)]; rfl
theorem door_met (os : Os) (args : Array Value) : laidMetH Tryz.prog laidL ((World.doorLaid Tryz.prog 400 os).forCall (fun _ _ => 0) ⟨#[], args, []⟩).memory :=
 laidMetH_of_parts3 (fuel := 8) (laidMet_of_run' 8 (by kernel_rfl) (by kernel_rfl)) (by kernel_rfl) (by kernel_rfl)
end Go.Proofs.YtbpndheehcbldaaGreatDoor.ito
