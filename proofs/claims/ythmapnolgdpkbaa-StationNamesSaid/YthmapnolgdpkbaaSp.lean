/-
  Same and Large: contracts. No condition.
-/
import Derived.Test.YthmapnolgdpkbaaSo
import Derived.Test.YthmapnolgdpkbaaSh
namespace Go.Proofs.Ythmapnolgdpkbaa.st
open Go.RowKit Go.Eb

theorem same_line (x y : SLine) : eq35 x y = same x y := by
  cases x; cases y
  unfold eq35
  simp only [strEq, intEq, Bool.and_true]
  rw [Bool.eq_iff_iff]
  simp only [Bool.and_eq_true, same_iff, SLine.mk.injEq]
  exact ⟨fun ⟨a, ⟨b, c⟩, d, e⟩ => ⟨a, b, c, d, e⟩, fun ⟨a, b, c, d, e⟩ => ⟨a, ⟨b, c⟩, d, e⟩⟩
theorem same_src (x y : SSrc) : eq36 x y = same x y := by
  cases x; cases y
  unfold eq36
  simp only [strEq, intEq, Bool.and_true]
  rw [Bool.eq_iff_iff]
  simp only [Bool.and_eq_true, same_iff, SSrc.mk.injEq]
  exact ⟨fun ⟨a, f, ⟨b, c⟩, d, e⟩ => ⟨a, f, b, c, d, e⟩, fun ⟨a, f, b, c, d, e⟩ => ⟨a, f, ⟨b, c⟩, d, e⟩⟩
theorem same_link (x y : SLink) : eq56 x y = same x y := by
  cases x; cases y
  unfold eq56
  simp only [intEq, Bool.and_true]
  rw [Bool.eq_iff_iff]
  simp only [Bool.and_eq_true, same_iff, SLink.mk.injEq]
theorem same_str (x y : ByteArray) : eqS x y = same x y := strEq x y
theorem same_bay (x y : SBay) : same x y = (x.name.toList == y.name.toList && (x.kind == y.kind && (x.off == y.off && (x.fin == y.fin && ((x.zr == y.zr && (x.zx == y.zx && true)) && (same x.links y.links && (x.closed == y.closed && (x.ct == y.ct && (x.vt == y.vt && (x.sat == y.sat && x.travel == y.travel)))))))))) := by
  cases x; cases y
  simp only [strEq, intEq, boolEq, Bool.and_true]
  rw [Bool.eq_iff_iff]
  simp only [Bool.and_eq_true, same_iff, SBay.mk.injEq]
  exact ⟨fun ⟨a, b, c, d, e, f, g, h, i, j, k, l⟩ => ⟨a, b, c, d, ⟨e, f⟩, g, h, i, j, k, l⟩, fun ⟨a, b, c, d, ⟨e, f⟩, g, h, i, j, k, l⟩ => ⟨a, b, c, d, e, f, g, h, i, j, k, l⟩⟩
theorem same_sta (x y : SSta) : same x y = (x.name.toList == y.name.toList && (same x.buses y.buses && (same x.lines y.lines && (same x.srcs y.srcs && same x.bays y.bays)))) := by
  cases x; cases y
  simp only [strEq]
  rw [Bool.eq_iff_iff]
  simp only [Bool.and_eq_true, same_iff, SSta.mk.injEq]

/-! bays -/
noncomputable def okLL (x y : D) : Bool := okLk x && okLk y
noncomputable def smLL (x y : D) : Bool := same (theE linksD x) (theE linksD y)
theorem okLL_links {x y : SBay} (hx : x.links.length ≤ 9223372036854775807) (hy : y.links.length ≤ 9223372036854775807) : okLL (linksD x.links) (linksD y.links) = true := by
  unfold okLL; rw [okLk_links hx, okLk_links hy]; rfl
theorem smLL_links (x y : SBay) : smLL (linksD x.links) (linksD y.links) = same x.links y.links := by
  unfold smLL; rw [(the_list linkC_inj x.links).2, (the_list linkC_inj y.links).2]
theorem s38 : OrcS Try.prog (o38 okLL smLL) := by
  refine .cons ⟨ans2_ok fun x y h => ?_, ?_⟩ .nil
  · unfold okLL okLk at h
    simp only [Bool.and_eq_true, decide_eq_true_eq] at h
    have := c56 (theE linksD x) (theE linksD y) h.1.2
    rw [eqL_same same_link] at this
    exact this.ge (asle2 (theE_de h.1.1) (theE_de h.2.1)) (.refl _)
  · intro args H
    unfold ans2
    split
    · exact .bif _ (.one _ _ fun R k => rfl) (.no fun R k => rfl)
    · exact .no fun R k => rfl
theorem b37 : Try.f37.body = some (bodyOf Try.f37) := by kernel_rfl
theorem s37 : OrcS Try.prog (o37 okLL smLL) := .cons (.inl s38 Try.func38 (by kernel_rfl)) .nil
theorem lks_getD {l : List SBay} (h : lksOk l = true) (i : Nat) : (l.getD i bay0).links.length ≤ 9223372036854775807 := by
  by_cases hi : i < l.length
  · exact lksOk_get h i hi
  · have : l.getD i bay0 = bay0 := by simp [List.getD, hi]
    rw [this]; simp [bay0]
theorem r37 (l r : List SBay) (g : Nat) (hl : lksOk l = true) (hr : lksOk r = true) (hb : l.length ≤ 9223372036854775807) (hg : l.length < g) :
    callA Try.prog (o37 okLL smLL) ann37 g Try.f37 (bodyOf Try.f37) [.c (.d (baysD l)), .c (.d (baysD r)), .c (.d (.v (.func (.func 38) #[] #[])))] [] = some (.leaf (vB (same l r), [])) := by
  rw [ev37, ← eqL_same (eq := same) (fun _ _ => rfl) l r]
  refine eq_whole (L := L37 okLL smLL l r g) (eq := same) (d := bay0) (fun m i => ?_) hb hg
  rw [st37]
  simp only [okLL_links (lks_getD hl i.toNat) (lks_getD hr i.toNat), smLL_links, cond_true, fNot, fAnd, ← same_bay]
theorem c37 (l r : List SBay) (hl : lksOk l = true) (hr : lksOk r = true) (hb : l.length ≤ 9223372036854775807) :
    CX Try.prog 37 [.c (.d (baysD l)), .c (.d (baysD r)), .c (.d (.v (.func (.func 38) #[] #[])))] [] (vB (same l r)) [] := by
  obtain ⟨g, hg⟩ : ∃ g, l.length < g := ⟨l.length + 1, by omega⟩
  exact cx_of s37.ok Try.func37 b37 rfl (r37 l r g hl hr hb hg)

/-! Same of the program -/
def okSta (s : SSta) : Bool := lenOk s.buses && (lenOk s.lines && (lenOk s.srcs && (lenOk s.bays && s.bays.all fun b => lenOk b.links)))
theorem okSta_len {s : SSta} (h : okSta s = true) : s.buses.length ≤ 9223372036854775807 ∧ s.lines.length ≤ 9223372036854775807 ∧ s.srcs.length ≤ 9223372036854775807 ∧ s.bays.length ≤ 9223372036854775807 ∧ lksOk s.bays = true := by
  unfold okSta lenOk at h
  simp only [Bool.and_eq_true, decide_eq_true_eq] at h
  exact ⟨h.1, h.2.1, h.2.2.1, h.2.2.2.1, h.2.2.2.2⟩
abbrev eBus := aD busesD
abbrev eLin := aD linesD
abbrev eSrc := aD srcsD
abbrev eBay := aD baysD
def eFn (f : FuncId) : Unit → AV := fun _ => .c (.d (.v (.func (.func f) #[] #[])))
theorem eFn_inj (f : FuncId) : InjA (eFn f) := fun _ _ _ => rfl
def c2 {α : Type} (a : List α × List α) : Bool := lenOk a.1 && lenOk a.2
noncomputable def c2b (a : List SBay × List SBay × Unit) : Bool := lenOk a.1 && (lksOk a.1 && lksOk a.2.1)
theorem s13 : OrcS Try.prog (o13 (okG (en2 eBus eBus) c2) (okG (en2 eLin eLin) c2) (okG (en2 eSrc eSrc) c2) (okG (en3 eBay eBay (eFn 38)) c2b) (fun x => same (theT (en2 eBus eBus) x).1 (theT (en2 eBus eBus) x).2) (fun x => same (theT (en2 eLin eLin) x).1 (theT (en2 eLin eLin) x).2)
    (fun x => same (theT (en2 eSrc eSrc) x).1 (theT (en2 eSrc eSrc) x).2) (fun x => same (theT (en3 eBay eBay (eFn 38)) x).1 (theT (en3 eBay eBay (eFn 38)) x).2.1)) := by
  refine .cons (.t' (r := fun (a : List ByteArray × List ByteArray) => vB (same a.1 a.2)) fun a h => ?_) (.cons (.t' (r := fun (a : List SLine × List SLine) => vB (same a.1 a.2)) fun a h => ?_) (.cons (.t' (r := fun (a : List SSrc × List SSrc) => vB (same a.1 a.2)) fun a h => ?_) (.cons (.t' (r := fun (a : List SBay × List SBay × Unit) => vB (same a.1 a.2.1)) fun a h => ?_) .nil)))
  · unfold c2 lenOk at h; simp only [Bool.and_eq_true, decide_eq_true_eq] at h
    have := c34 a.1 a.2 h.1
    rw [eqL_same same_str] at this; exact this
  · unfold c2 lenOk at h; simp only [Bool.and_eq_true, decide_eq_true_eq] at h
    have := c35 a.1 a.2 h.1
    rw [eqL_same same_line] at this; exact this
  · unfold c2 lenOk at h; simp only [Bool.and_eq_true, decide_eq_true_eq] at h
    have := c36 a.1 a.2 h.1
    rw [eqL_same same_src] at this; exact this
  · unfold c2b lenOk at h; simp only [Bool.and_eq_true, decide_eq_true_eq] at h
    exact c37 a.1 a.2.1 h.2.1 h.2.2 h.1
theorem c13 (a b : SSta) (ha : okSta a = true) (hb : okSta b = true) : CX Try.prog 13 [aSta a, aSta b] [] (vB (same a b)) [] := by
  refine cx_of s13.ok Try.func13 b13 rfl ((ev13 _ _ _ _ _ _ _ _ a b 1).trans ?_)
  obtain ⟨a1, a2, a3, a4, a5⟩ := okSta_len ha
  obtain ⟨b1, b2, b3, b4, b5⟩ := okSta_len hb
  have i1 := en2_inj (aD_inj (listD_inj (sz := 1) (d0 := e0) busC_inj)) (aD_inj (listD_inj (sz := 1) (d0 := e0) busC_inj))
  have i2 := en2_inj (aD_inj (listD_inj (sz := 5) (d0 := line0) lineC_inj)) (aD_inj (listD_inj (sz := 5) (d0 := line0) lineC_inj))
  have i3 := en2_inj (aD_inj (listD_inj (sz := 6) (d0 := src0) srcC_inj)) (aD_inj (listD_inj (sz := 6) (d0 := src0) srcC_inj))
  have i4 := en3_inj (aD_inj (listD_inj (sz := 12) (d0 := bay0) bayC_inj)) (aD_inj (listD_inj (sz := 12) (d0 := bay0) bayC_inj)) (eFn_inj 38)
  have k1 := okG_enc i1 (c := c2) (a.buses, b.buses) (by unfold c2 lenOk; simp only [a1, b1, decide_true, Bool.and_self])
  have k2 := okG_enc i2 (c := c2) (a.lines, b.lines) (by unfold c2 lenOk; simp only [a2, b2, decide_true, Bool.and_self])
  have k3 := okG_enc i3 (c := c2) (a.srcs, b.srcs) (by unfold c2 lenOk; simp only [a3, b3, decide_true, Bool.and_self])
  have k4 := okG_enc i4 (c := c2b) (a.bays, b.bays, ()) (by unfold c2b lenOk; simp only [a4, a5, b5, decide_true, Bool.and_self])
  have t1 := theT_enc i1 (a.buses, b.buses)
  have t2 := theT_enc i2 (a.lines, b.lines)
  have t3 := theT_enc i3 (a.srcs, b.srcs)
  have t4 := theT_enc i4 (a.bays, b.bays, ())
  simp only [en2, en3, aD, eFn] at k1 k2 k3 k4 t1 t2 t3 t4
  simp only [en2, en3, aD, eFn, k1, k2, k3, k4, t1, t2, t3, t4, cond_true]
  rw [same_sta]
  simp only [bAnd]
end Go.Proofs.Ythmapnolgdpkbaa.st
