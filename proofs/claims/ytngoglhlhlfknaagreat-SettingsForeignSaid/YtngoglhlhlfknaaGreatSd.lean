/-
  Check of the program: buses, lines and sources: contracts. No condition.
-/
import Derived.Test.YtngoglhlhlfknaaGreatSb
namespace Go.Proofs.YtngoglhlhlfknaaGreat.st
open Go.RowKit Go.Eb
set_option maxRecDepth 100000

theorem appOk {k b : Nat} (h : k + 1 ≤ 1000) (hb : b ≤ 1000) : (decide ((k + 1) * b ≤ 140737488355328) && decide (k + 1 ≤ 9223372036854775807)) = true := by
  have h1 : (k + 1) * b ≤ 1000 * 1000 := Nat.mul_le_mul h hb
  rw [decide_eq_true (by omega), decide_eq_true (by omega)]; rfl

theorem sNm : OrcS Tryz.prog (oNm nameOk) := .cons (.p decS_ok c15) .nil
theorem sNam : OrcS Tryz.prog (oNam nameOk) := .cons (.inl sNm Tryz.func100 (by kernel_rfl)) .nil
theorem s26 : OrcS Tryz.prog (o26 nameOk) := .cons (.inl sNam Tryz.func53 (by kernel_rfl)) .nil
theorem sWi : OrcS Tryz.prog oWi := .cons (.inl .nil Tryz.func102 (by kernel_rfl)) .nil
theorem sIm : OrcS Tryz.prog (oIm nameOk) := .cons (.inl sWi Tryz.func101 (by kernel_rfl)) (.cons (.inl .nil Tryz.func102 (by kernel_rfl)) sNam)
theorem s28 : OrcS Tryz.prog (o28 nameOk) := .cons (.inl sIm Tryz.func55 (by kernel_rfl)) .nil
theorem s30 : OrcS Tryz.prog (o30 nameOk) := .cons (.inl sIm Tryz.func57 (by kernel_rfl)) .nil

theorem c26 (l : List ByteArray) (s0 : ByteArray) (N : List ByteArray) (hl : l.length ≤ 900) :
    CX Tryz.prog 52 [.c (.d (busesD l)), fnOf 53] (H1 s0 (mapOf N)) (vI (takeN id (fun N _ x => namErr N x) N [] l).1)
      (H1' s0 (mapOf (N ++ (takeN id (fun N _ x => namErr N x) N [] l).2.map id)) (takeN id (fun N _ x => namErr N x) N [] l).2.length (fun i => busC ((takeN id (fun N _ x => namErr N x) N [] l).2.getD i e0))) := by
  obtain ⟨g, hg⟩ : ∃ g, l.length < g := ⟨l.length + 1, by omega⟩
  obtain ⟨f', hr, he⟩ := first_loop (nm := id) (F := fun N _ x => namErr N x) (N := N) (c := busC) (d0 := e0) (l := l) (L := fun m mp n f i => L26_2 nameOk l s0 (mapOf N) g m mp n f i) (HX := fun mp n f => H1' s0 mp n f)
    (fun m k before f hk hb hr => by
      refine ⟨_, f, hr.app' rfl, hr, ?_⟩
      rw [st26_2]
      simp only [lt1 hk, ge0, tn, Bool.and_self, cond_true, nx hk (by omega), assoc_mapOf, appOk (k := k) (b := 16) (by omega) (by omega)]
      unfold namErr
      simp only [id]
      cases nameOk (l.getD k e0) with
      | false => rfl
      | true => cases inB (N ++ before.map id) (l.getD k e0) <;> rfl)
    (fun m mp n f => by
      rw [st26_2, lt0 (Nat.lt_irrefl _)]
      rfl) g 0 [] (fun _ => []) (by omega) (by omega) rfl (.nil _)
  have hev := ev26 nameOk l s0 (mapOf N) g
  simp only [List.map_nil, List.append_nil, List.drop_zero] at he hr
  refine (cx_of s26.ok Tryz.func52 b26 rfl (hev.trans he)).le (.refl _) ?_
  exact .cons (.refl _) (.cons (.refl _) (.cons hr.ble .nil))

theorem c28 (l : List SLine) (s0 : ByteArray) (ka : Nat) (ga : Nat → List D) (N : List ByteArray) (hl : l.length ≤ 900) :
    CX Tryz.prog 54 [.c (.d (linesD l)), fnOf 55] (H2 s0 ka ga (mapOf N)) (vI (tLine N l).1)
      (H2' s0 ka ga (mapOf (N ++ (tLine N l).2.map SLine.name)) (tLine N l).2.length (fun i => lineC ((tLine N l).2.getD i line0))) := by
  obtain ⟨g, hg⟩ : ∃ g, l.length < g := ⟨l.length + 1, by omega⟩
  obtain ⟨f', hr, he⟩ := first_loop (nm := SLine.name) (F := fun N _ x => lineErr N x) (N := N) (c := lineC) (d0 := line0) (l := l) (L := fun m mp n f i => L28_2 nameOk l s0 ka ga (mapOf N) g m mp n f i) (HX := fun mp n f => H2' s0 ka ga mp n f)
    (fun m k before f hk hb hr => by
      refine ⟨_, f, hr.app' rfl, hr, ?_⟩
      rw [st28_2]
      simp only [lt1 hk, ge0, tn, Bool.and_self, cond_true, nx hk (by omega), assoc_mapOf, appOk (k := k) (b := 48) (by omega) (by omega), fNot, fAnd]
      unfold lineErr namErr impOk within
      cases nameOk (l.getD k line0).name with
      | false => rfl
      | true =>
        cases inB (N ++ before.map SLine.name) (l.getD k line0).name with
        | true => rfl
        | false =>
          generalize decide ((l.getD k line0).r1 ≥ 0) = b1
          generalize decide ((l.getD k line0).r1 ≤ 1000) = b2
          generalize decide ((l.getD k line0).x1 ≥ 1) = b3
          generalize decide ((l.getD k line0).x1 ≤ 1000) = b4
          generalize decide ((l.getD k line0).r0 ≥ 0) = b5
          generalize decide ((l.getD k line0).r0 ≤ 1000) = b6
          generalize decide ((l.getD k line0).x0 ≥ 1) = b7
          generalize decide ((l.getD k line0).x0 ≤ 1000) = b8
          cases b1 <;> cases b2 <;> cases b3 <;> cases b4 <;> first | rfl | (cases b5 <;> cases b6 <;> cases b7 <;> cases b8 <;> rfl))
    (fun m mp n f => by
      rw [st28_2, lt0 (Nat.lt_irrefl _)]
      rfl) g 0 [] (fun _ => []) (by omega) (by omega) rfl (.nil _)
  have hev := ev28 nameOk l s0 ka ga (mapOf N) g
  simp only [List.map_nil, List.append_nil, List.drop_zero] at he hr
  refine (cx_of s28.ok Tryz.func54 b28 rfl (hev.trans he)).le (.refl _) ?_
  exact .cons (.refl _) (.cons (.refl _) (.cons (.refl _) (.cons hr.ble .nil)))

theorem c30 (l : List SSrc) (s0 : ByteArray) (ka : Nat) (ga : Nat → List D) (kb : Nat) (gb : Nat → List D) (N : List ByteArray) (hl : l.length ≤ 900) :
    CX Tryz.prog 56 [.c (.d (srcsD l)), fnOf 57] (H3 s0 ka ga kb gb (mapOf N)) (vI (tSrc N l).1)
      (H3' s0 ka ga kb gb (mapOf (N ++ (tSrc N l).2.map SSrc.name)) (tSrc N l).2.length (fun i => srcC' ((tSrc N l).2.getD i src0))) := by
  obtain ⟨g, hg⟩ : ∃ g, l.length < g := ⟨l.length + 1, by omega⟩
  obtain ⟨f', hr, he⟩ := first_loop (nm := SSrc.name) (F := fun N _ x => srcErr N x) (N := N) (c := srcC') (d0 := src0) (l := l) (L := fun m mp n f i => L30_2 nameOk l s0 ka ga kb gb (mapOf N) g m mp n f i) (HX := fun mp n f => H3' s0 ka ga kb gb mp n f)
    (fun m k before f hk hb hr => by
      refine ⟨_, f, hr.app' rfl, hr, ?_⟩
      rw [st30_2]
      simp only [lt1 hk, ge0, tn, Bool.and_self, cond_true, nx hk (by omega), assoc_mapOf, appOk (k := k) (b := 56) (by omega) (by omega), fNot, fAnd]
      unfold srcErr namErr impOk within
      cases nameOk (l.getD k src0).name with
      | false => rfl
      | true =>
        cases inB (N ++ before.map SSrc.name) (l.getD k src0).name with
        | true => rfl
        | false =>
          generalize decide ((l.getD k src0).emf ≥ 1) = a1
          generalize decide ((l.getD k src0).emf ≤ 1000000) = a2
          generalize decide ((l.getD k src0).r1 ≥ 0) = b1
          generalize decide ((l.getD k src0).r1 ≤ 1000) = b2
          generalize decide ((l.getD k src0).x1 ≥ 1) = b3
          generalize decide ((l.getD k src0).x1 ≤ 1000) = b4
          generalize decide ((l.getD k src0).r0 ≥ 0) = b5
          generalize decide ((l.getD k src0).r0 ≤ 1000) = b6
          generalize decide ((l.getD k src0).x0 ≥ 1) = b7
          generalize decide ((l.getD k src0).x0 ≤ 1000) = b8
          cases a1 <;> cases a2 <;> first | rfl | (cases b1 <;> cases b2 <;> cases b3 <;> cases b4 <;> first | rfl | (cases b5 <;> cases b6 <;> cases b7 <;> cases b8 <;> rfl)))
    (fun m mp n f => by
      rw [st30_2, lt0 (Nat.lt_irrefl _)]
      rfl) g 0 [] (fun _ => []) (by omega) (by omega) rfl (.nil _)
  have hev := ev30 nameOk l s0 ka ga kb gb (mapOf N) g
  simp only [List.map_nil, List.append_nil, List.drop_zero] at he hr
  refine (cx_of s30.ok Tryz.func56 b30 rfl (hev.trans he)).le (.refl _) ?_
  exact .cons (.refl _) (.cons (.refl _) (.cons (.refl _) (.cons (.refl _) (.cons hr.ble .nil))))
end Go.Proofs.YtngoglhlhlfknaaGreat.st
