/-
  Relays as arguments. No condition.
-/
import Derived.Test.YtngoglhlhlfknaaGreatZRk
import Derived.Test.YtngoglhlhlfknaaGreatOp
namespace Go.Proofs.YtngoglhlhlfknaaGreat.se
open Go.RowKit Go.Eb Go.Proofs.YtngoglhlhlfknaaGreat.st
set_option maxRecDepth 100000

theorem shp_rule {ds : List D} (h : Shp Tryz.prog 100 ds) : ∃ x, DEs ds (ruleC x) ∧ (fun _ => true) x = true := by
  obtain ⟨ps, rfl, hl, hp⟩ := h.struct_inv Tryz.underlying100
  match ps, hl with
  | [p0, p1], _ =>
    obtain ⟨a, rfl, _⟩ := (hp 0 _ p0 rfl rfl).str_inv Tryz.underlying9
    obtain ⟨b, rfl, _⟩ := (hp 1 _ p1 rfl rfl).str_inv Tryz.underlying9
    exact ⟨⟨a, b⟩, .refl _, rfl⟩
theorem shp_set {ds : List D} (h : Shp Tryz.prog 95 ds) : ∃ x, DEs ds (setC x) ∧ okSet x = true := by
  obtain ⟨ps, rfl, hl, hp⟩ := h.struct_inv Tryz.underlying95
  match ps, hl with
  | [p0, p1], _ =>
    obtain ⟨a, rfl, _⟩ := (hp 0 _ p0 rfl rfl).str_inv Tryz.underlying9
    obtain ⟨d1, l1, rfl, h1, n1, _⟩ := shp_list (d0 := e0) Tryz.underlying22 (show Tryz.prog.cellsOf 9 = 1 by kernel_rfl) (fun ds => shp_str) (hp 1 _ p1 rfl rfl)
    exact ⟨⟨a, l1⟩, .cons (.refl _) (.cons h1 .nil), n1⟩
theorem shp_pub {ds : List D} (h : Shp Tryz.prog 104 ds) : ∃ x, DEs ds (pubC x) ∧ (fun _ => true) x = true := by
  obtain ⟨ps, rfl, hl, hp⟩ := h.struct_inv Tryz.underlying104
  match ps, hl with
  | [p0, p1, p2], _ =>
    obtain ⟨a, rfl, _⟩ := (hp 0 _ p0 rfl rfl).str_inv Tryz.underlying9
    obtain ⟨b, rfl, _⟩ := (hp 1 _ p1 rfl rfl).int_inv Tryz.underlying3
    obtain ⟨c, rfl, _⟩ := (hp 2 _ p2 rfl rfl).int_inv Tryz.underlying3
    exact ⟨⟨a, b, c⟩, .refl _, rfl⟩
theorem shp_sub {ds : List D} (h : Shp Tryz.prog 107 ds) : ∃ x, DEs ds (subC x) ∧ (fun _ => true) x = true := by
  obtain ⟨ps, rfl, hl, hp⟩ := h.struct_inv Tryz.underlying107
  match ps, hl with
  | [p0, p1, p2, p3], _ =>
    obtain ⟨a, rfl, _⟩ := (hp 0 _ p0 rfl rfl).str_inv Tryz.underlying9
    obtain ⟨b, rfl, _⟩ := (hp 1 _ p1 rfl rfl).str_inv Tryz.underlying9
    obtain ⟨c, rfl, _⟩ := (hp 2 _ p2 rfl rfl).str_inv Tryz.underlying9
    obtain ⟨d, rfl, _⟩ := (hp 3 _ p3 rfl rfl).str_inv Tryz.underlying9
    exact ⟨⟨a, b, c, d⟩, .refl _, rfl⟩
theorem shp_el {ds : List D} (h : Shp Tryz.prog 49 ds) : ∃ a b c, ds = [dB a, dI b, dI c] := by
  obtain ⟨ps, rfl, hl, hp⟩ := h.struct_inv Tryz.underlying49
  match ps, hl with
  | [p0, p1, p2], _ =>
    obtain ⟨a, rfl⟩ := (hp 0 _ p0 rfl rfl).bool_inv Tryz.underlying4
    obtain ⟨b, rfl, _⟩ := (hp 1 _ p1 rfl rfl).int_inv Tryz.underlying3
    obtain ⟨c, rfl, _⟩ := (hp 2 _ p2 rfl rfl).int_inv Tryz.underlying3
    exact ⟨a, b, c, rfl⟩
theorem shp_cu {ds : List D} (h : Shp Tryz.prog 51 ds) : ∃ a b c, ds = [dB a, dI b, dI c] := by
  obtain ⟨ps, rfl, hl, hp⟩ := h.struct_inv Tryz.underlying51
  match ps, hl with
  | [p0, p1, p2], _ =>
    obtain ⟨a, rfl⟩ := (hp 0 _ p0 rfl rfl).bool_inv Tryz.underlying4
    obtain ⟨b, rfl, _⟩ := (hp 1 _ p1 rfl rfl).int_inv Tryz.underlying3
    obtain ⟨c, rfl, _⟩ := (hp 2 _ p2 rfl rfl).int_inv Tryz.underlying3
    exact ⟨a, b, c, rfl⟩
theorem shp_zo {ds : List D} (h : Shp Tryz.prog 46 ds) : ∃ a b c d e f, ds = [dB a, dB b, dI c, dI d, dI e, dI f] := by
  obtain ⟨ps, rfl, hl, hp⟩ := h.struct_inv Tryz.underlying46
  match ps, hl with
  | [p0, p1, p2, p3, p4, p5], _ =>
    obtain ⟨a, rfl⟩ := (hp 0 _ p0 rfl rfl).bool_inv Tryz.underlying4
    obtain ⟨b, rfl⟩ := (hp 1 _ p1 rfl rfl).bool_inv Tryz.underlying4
    obtain ⟨c, rfl, _⟩ := (hp 2 _ p2 rfl rfl).int_inv Tryz.underlying3
    obtain ⟨d, rfl, _⟩ := (hp 3 _ p3 rfl rfl).int_inv Tryz.underlying3
    obtain ⟨e, rfl, _⟩ := (hp 4 _ p4 rfl rfl).int_inv Tryz.underlying3
    obtain ⟨f, rfl, _⟩ := (hp 5 _ p5 rfl rfl).int_inv Tryz.underlying3
    exact ⟨a, b, c, d, e, f, rfl⟩
theorem shp_zs {ds : List D} (h : Shp Tryz.prog 47 ds) : ∃ a b c d e f a1 b1 c1 d1 e1 f1 a2 b2 c2 d2 e2 f2, ds = [dB a, dB b, dI c, dI d, dI e, dI f, dB a1, dB b1, dI c1, dI d1, dI e1, dI f1, dB a2, dB b2, dI c2, dI d2, dI e2, dI f2] := by
  obtain ⟨ps, rfl, hl, hp⟩ := h.array_inv Tryz.underlying47
  match ps, hl with
  | [p0, p1, p2], _ =>
    obtain ⟨a, b, c, d, e, f, rfl⟩ := shp_zo (hp p0 (by simp))
    obtain ⟨a1, b1, c1, d1, e1, f1, rfl⟩ := shp_zo (hp p1 (by simp))
    obtain ⟨a2, b2, c2, d2, e2, f2, rfl⟩ := shp_zo (hp p2 (by simp))
    exact ⟨a, b, c, d, e, f, a1, b1, c1, d1, e1, f1, a2, b2, c2, d2, e2, f2, rfl⟩
theorem shp_rel {ds : List D} (h : Shp Tryz.prog 57 ds) : ∃ x, DEs ds (relC x) ∧ okRel x = true := by
  obtain ⟨ps, rfl, hl, hp⟩ := h.struct_inv Tryz.underlying57
  match ps, hl with
  | [p0, p1, p2, p3, p4, p5, p6, p7, p8, p9, p10, p11, p12, p13, p14, p15, p16, p17, p18, p19, p20, p21, p22, p23, p24, p25], _ =>
    obtain ⟨x0, rfl, _⟩ := (hp 0 _ p0 rfl rfl).str_inv Tryz.underlying9
    obtain ⟨x1, rfl, _⟩ := (hp 1 _ p1 rfl rfl).int_inv Tryz.underlying3
    obtain ⟨x2, rfl, _⟩ := (hp 2 _ p2 rfl rfl).int_inv Tryz.underlying3
    obtain ⟨z0a, z0b, z0c, z0d, z0e, z0f, z1a, z1b, z1c, z1d, z1e, z1f, z2a, z2b, z2c, z2d, z2e, z2f, rfl⟩ := shp_zs (hp 3 _ p3 rfl rfl)
    obtain ⟨x4, rfl, _⟩ := (hp 4 _ p4 rfl rfl).int_inv Tryz.underlying3
    obtain ⟨x5, rfl, _⟩ := (hp 5 _ p5 rfl rfl).int_inv Tryz.underlying3
    obtain ⟨x6, rfl, _⟩ := (hp 6 _ p6 rfl rfl).int_inv Tryz.underlying3
    obtain ⟨x7, rfl, _⟩ := (hp 7 _ p7 rfl rfl).int_inv Tryz.underlying3
    obtain ⟨x8, rfl, _⟩ := (hp 8 _ p8 rfl rfl).int_inv Tryz.underlying3
    obtain ⟨x9, rfl, _⟩ := (hp 9 _ p9 rfl rfl).int_inv Tryz.underlying3
    obtain ⟨x10a, x10b, x10c, rfl⟩ := shp_el (hp 10 _ p10 rfl rfl)
    obtain ⟨x11a, x11b, x11c, rfl⟩ := shp_cu (hp 11 _ p11 rfl rfl)
    obtain ⟨x12a, x12b, x12c, rfl⟩ := shp_el (hp 12 _ p12 rfl rfl)
    obtain ⟨x13, rfl, _⟩ := (hp 13 _ p13 rfl rfl).int_inv Tryz.underlying3
    obtain ⟨x14, rfl, _⟩ := (hp 14 _ p14 rfl rfl).int_inv Tryz.underlying3
    obtain ⟨x15, rfl, _⟩ := (hp 15 _ p15 rfl rfl).int_inv Tryz.underlying3
    obtain ⟨x16a, x16b, x16c, rfl⟩ := shp_el (hp 16 _ p16 rfl rfl)
    obtain ⟨x17a, x17b, x17c, rfl⟩ := shp_el (hp 17 _ p17 rfl rfl)
    obtain ⟨x18, rfl, _⟩ := (hp 18 _ p18 rfl rfl).int_inv Tryz.underlying3
    obtain ⟨x19, rfl, _⟩ := (hp 19 _ p19 rfl rfl).int_inv Tryz.underlying3
    obtain ⟨x20, rfl, _⟩ := (hp 20 _ p20 rfl rfl).int_inv Tryz.underlying3
    obtain ⟨x21, rfl, _⟩ := (hp 21 _ p21 rfl rfl).int_inv Tryz.underlying3
    obtain ⟨d22, l22, rfl, h22, n22, a22⟩ := shp_list (d0 := rule0) Tryz.underlying52 (show Tryz.prog.cellsOf 100 = 2 by kernel_rfl) (fun ds => shp_rule) (hp 22 _ p22 rfl rfl)
    obtain ⟨d23, l23, rfl, h23, n23, a23⟩ := shp_list (d0 := set0) Tryz.underlying53 (show Tryz.prog.cellsOf 95 = 2 by kernel_rfl) (fun ds => shp_set) (hp 23 _ p23 rfl rfl)
    obtain ⟨d24, l24, rfl, h24, n24, a24⟩ := shp_list (d0 := pub0) Tryz.underlying54 (show Tryz.prog.cellsOf 104 = 3 by kernel_rfl) (fun ds => shp_pub) (hp 24 _ p24 rfl rfl)
    obtain ⟨d25, l25, rfl, h25, n25, a25⟩ := shp_list (d0 := sub0) Tryz.underlying55 (show Tryz.prog.cellsOf 107 = 4 by kernel_rfl) (fun ds => shp_sub) (hp 25 _ p25 rfl rfl)
    refine ⟨⟨x0, x1, x2, z0a, z0b, z0c, z0d, z0e, z0f, z1a, z1b, z1c, z1d, z1e, z1f, z2a, z2b, z2c, z2d, z2e, z2f, x4, x5, x6, x7, x8, x9, x10a, x10b, x10c, x11a, x11b, x11c, x12a, x12b, x12c, x13, x14, x15, x16a, x16b, x16c, x17a, x17b, x17c, x18, x19, x20, x21, l22, l23, l24, l25⟩, ?_, ?_⟩
    · exact DEs.app (a := [_, _, _, _, _, _, _, _, _, _, _, _, _, _, _, _, _, _, _, _, _, _, _, _, _, _, _, _, _, _, _, _, _, _, _, _, _, _, _, _, _, _, _, _, _, _, _, _, _]) (.refl _) (.cons h22 (.cons h23 (.cons h24 (.cons h25 .nil))))
    · unfold okRel
      simp only [n22, n23, n24, n25, a23, Bool.and_self]
theorem shp_rels {ds : List D} (h : Shp Tryz.prog 35 ds) : ∃ (d : D) (l : List SRel), ds = [d] ∧ DE d (relsD l) ∧ lenOk l = true ∧ l.all okRel = true :=
  shp_list (d0 := rel0) Tryz.underlying35 (show Tryz.prog.cellsOf 57 = 53 by kernel_rfl) (fun ds => shp_rel) h
end Go.Proofs.YtngoglhlhlfknaaGreat.se
