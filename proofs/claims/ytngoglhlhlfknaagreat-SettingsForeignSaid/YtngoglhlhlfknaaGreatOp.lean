/-
  Diagrams as arguments. No condition.
-/
import Derived.Test.YtngoglhlhlfknaaGreatZOs
import Derived.Test.YtngoglhlhlfknaaGreatProg
import Derived.KernelRfl
namespace Go.Proofs.YtngoglhlhlfknaaGreat.st
open Go.RowKit Go.Eb
set_option maxRecDepth 100000

/-! diagrams -/
theorem shp_str {ds : List D} (h : Shp Tryz.prog 9 ds) : ∃ s, DEs ds (busC s) ∧ (fun _ => true) s = true := by
  obtain ⟨s, rfl, _⟩ := h.str_inv Tryz.underlying9
  exact ⟨s, .refl _, rfl⟩
theorem shp_imp {ds : List D} (h : Shp Tryz.prog 63 ds) : ∃ r x, ds = [dI r, dI x] := by
  obtain ⟨ps, rfl, hl, hp⟩ := h.struct_inv Tryz.underlying63
  match ps, hl with
  | [p0, p1], _ =>
    obtain ⟨r, rfl, _⟩ := (hp 0 _ p0 rfl rfl).int_inv Tryz.underlying3
    obtain ⟨x, rfl, _⟩ := (hp 1 _ p1 rfl rfl).int_inv Tryz.underlying3
    exact ⟨r, x, rfl⟩
theorem shp_line {ds : List D} (h : Shp Tryz.prog 71 ds) : ∃ x, DEs ds (lineC x) ∧ (fun _ => true) x = true := by
  obtain ⟨ps, rfl, hl, hp⟩ := h.struct_inv Tryz.underlying71
  match ps, hl with
  | [p0, p1, p2], _ =>
    obtain ⟨s, rfl, _⟩ := (hp 0 _ p0 rfl rfl).str_inv Tryz.underlying9
    obtain ⟨r1, x1, rfl⟩ := shp_imp (hp 1 _ p1 rfl rfl)
    obtain ⟨r0, x0, rfl⟩ := shp_imp (hp 2 _ p2 rfl rfl)
    exact ⟨⟨s, r1, x1, r0, x0⟩, .refl _, rfl⟩
theorem shp_src {ds : List D} (h : Shp Tryz.prog 74 ds) : ∃ x, DEs ds (srcC' x) ∧ (fun _ => true) x = true := by
  obtain ⟨ps, rfl, hl, hp⟩ := h.struct_inv Tryz.underlying74
  match ps, hl with
  | [p0, p1, p2, p3], _ =>
    obtain ⟨s, rfl, _⟩ := (hp 0 _ p0 rfl rfl).str_inv Tryz.underlying9
    obtain ⟨e, rfl, _⟩ := (hp 1 _ p1 rfl rfl).int_inv Tryz.underlying3
    obtain ⟨r1, x1, rfl⟩ := shp_imp (hp 2 _ p2 rfl rfl)
    obtain ⟨r0, x0, rfl⟩ := shp_imp (hp 3 _ p3 rfl rfl)
    exact ⟨⟨s, e, r1, x1, r0, x0⟩, .refl _, rfl⟩
theorem shp_link {ds : List D} (h : Shp Tryz.prog 154 ds) : ∃ x, DEs ds (linkC x) ∧ (fun _ => true) x = true := by
  obtain ⟨ps, rfl, hl, hp⟩ := h.struct_inv Tryz.underlying154
  match ps, hl with
  | [p0, p1], _ =>
    obtain ⟨r, rfl, _⟩ := (hp 0 _ p0 rfl rfl).int_inv Tryz.underlying3
    obtain ⟨x, rfl, _⟩ := (hp 1 _ p1 rfl rfl).int_inv (k := .i64) (by kernel_rfl)
    exact ⟨⟨r, x⟩, .refl _, rfl⟩
theorem shp_bay {ds : List D} (h : Shp Tryz.prog 66 ds) : ∃ x, DEs ds (bayC x) ∧ (fun x => lenOk x.links) x = true := by
  obtain ⟨ps, rfl, hl, hp⟩ := h.struct_inv Tryz.underlying66
  match ps, hl with
  | [p0, p1, p2, p3, p4, p5, p6, p7, p8, p9, p10], _ =>
    obtain ⟨s, rfl, _⟩ := (hp 0 _ p0 rfl rfl).str_inv Tryz.underlying9
    obtain ⟨k, rfl, _⟩ := (hp 1 _ p1 rfl rfl).int_inv (k := .i64) (by kernel_rfl)
    obtain ⟨o, rfl, _⟩ := (hp 2 _ p2 rfl rfl).int_inv Tryz.underlying3
    obtain ⟨e, rfl, _⟩ := (hp 3 _ p3 rfl rfl).int_inv Tryz.underlying3
    obtain ⟨r, x, rfl⟩ := shp_imp (hp 4 _ p4 rfl rfl)
    obtain ⟨d, l, rfl, hd, hn, _⟩ := shp_list (d0 := link0) Tryz.underlying64 (show Tryz.prog.cellsOf 154 = 2 by kernel_rfl) (fun ds => shp_link) (hp 5 _ p5 rfl rfl)
    obtain ⟨c, rfl⟩ := (hp 6 _ p6 rfl rfl).bool_inv Tryz.underlying4
    obtain ⟨n1, rfl, _⟩ := (hp 7 _ p7 rfl rfl).int_inv Tryz.underlying3
    obtain ⟨n2, rfl, _⟩ := (hp 8 _ p8 rfl rfl).int_inv Tryz.underlying3
    obtain ⟨n3, rfl, _⟩ := (hp 9 _ p9 rfl rfl).int_inv Tryz.underlying3
    obtain ⟨n4, rfl, _⟩ := (hp 10 _ p10 rfl rfl).int_inv Tryz.underlying3
    exact ⟨⟨s, k, o, e, r, x, l, c, n1, n2, n3, n4⟩, .cons (.refl _) (.cons (.refl _) (.cons (.refl _) (.cons (.refl _) (.cons (.refl _) (.cons (.refl _) (.cons hd (.refl _))))))), hn⟩
theorem shp_sta {ds : List D} (h : Shp Tryz.prog 27 ds) : ∃ x, DEs ds (staC x) ∧ okSta x = true := by
  obtain ⟨ps, rfl, hl, hp⟩ := h.struct_inv Tryz.underlying27
  match ps, hl with
  | [p0, p1, p2, p3, p4], _ =>
    obtain ⟨s, rfl, _⟩ := (hp 0 _ p0 rfl rfl).str_inv Tryz.underlying9
    obtain ⟨d1, l1, rfl, h1, n1, _⟩ := shp_list (d0 := e0) Tryz.underlying22 (show Tryz.prog.cellsOf 9 = 1 by kernel_rfl) (fun ds => shp_str) (hp 1 _ p1 rfl rfl)
    obtain ⟨d2, l2, rfl, h2, n2, _⟩ := shp_list (d0 := line0) Tryz.underlying23 (show Tryz.prog.cellsOf 71 = 5 by kernel_rfl) (fun ds => shp_line) (hp 2 _ p2 rfl rfl)
    obtain ⟨d3, l3, rfl, h3, n3, _⟩ := shp_list (d0 := src0) Tryz.underlying24 (show Tryz.prog.cellsOf 74 = 6 by kernel_rfl) (fun ds => shp_src) (hp 3 _ p3 rfl rfl)
    obtain ⟨d4, l4, rfl, h4, n4, a4⟩ := shp_list (d0 := bay0) Tryz.underlying25 (show Tryz.prog.cellsOf 66 = 12 by kernel_rfl) (fun ds => shp_bay) (hp 4 _ p4 rfl rfl)
    refine ⟨⟨s, l1, l2, l3, l4⟩, .cons (.refl _) (.cons h1 (.cons h2 (.cons h3 (.cons h4 .nil)))), ?_⟩
    unfold okSta
    simp only [n1, n2, n3, n4, a4, Bool.and_self]
end Go.Proofs.YtngoglhlhlfknaaGreat.st
