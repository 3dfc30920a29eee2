/-
  StationChecks: what the statement's body computes; diagrams as arguments. No condition.
-/
import Derived.Test.YthmapnolgdpkbaaSq
import Derived.Test.YthmapnolgdpkbaaSn
import Derived.Test.YthmapnolgdpkbaaKn
namespace Go.Proofs.Ythmapnolgdpkbaa.st
open Go.RowKit Go.Eb

noncomputable def oL (okl lg : List AV → Bool) (r : Orc) : Orc := Orc.cons 6 (ansP dec0 fun _ => vB true) (Orc.cons 7 (ansG okl fun x => vB (lg x)) r)
noncomputable def o4 (okl lg : List AV → Bool) (okc : List AV → Bool) (ck : List AV → Int) (oks sm : List AV → Bool) (nk : ByteArray → Bool) : Orc := oL okl lg (Orc.cons 12 (ansG okc fun x => vI (ck x)) (Orc.cons 8 (ansG okc fun x => vI (ck x)) (Orc.cons 13 (ansG oks fun x => vB (sm x)) (Orc.cons 14 (ansG oks fun x => vB (sm x))
  (Orc.cons 15 (ansP decS fun s => vB (nk s)) (Orc.cons 16 (ansP decS fun s => vB (nk s)) Orc.nil))))))
noncomputable def ann4 : Ann := annOf []
theorem b4 : Try.f4.body = some (bodyOf Try.f4) := by kernel_rfl
set_option maxRecDepth 100000 in
theorem ev4 (okl lg okc : List AV → Bool) (ck : List AV → Int) (oks sm : List AV → Bool) (nk : ByteArray → Bool) (a b : SSta) (s : ByteArray) (g : Nat) : callA Try.prog (o4 okl lg okc ck oks sm nk) ann4 g Try.f4 (bodyOf Try.f4) [aSta a, aSta b, vS s] [] =
  (bif okl [AV.agg (List.map C.d (staC a))]
  then (bif lg [AV.agg (List.map C.d (staC a))]
    then some (T.leaf (AV.c (C.d (D.v (Value.bool true))), []))
    else (bif okl [AV.agg (List.map C.d (staC b))]
      then (bif lg [AV.agg (List.map C.d (staC b))]
        then some (T.leaf (AV.c (C.d (D.v (Value.bool true))), []))
        else (bif okc [AV.agg (List.map C.d (staC a))]
          then (bif okc [AV.agg (List.map C.d (staC a))]
            then (bif ck [AV.agg (List.map C.d (staC a))] == ck [AV.agg (List.map C.d (staC a))]
              then (bif oks [AV.agg (List.map C.d (staC a)), AV.agg (List.map C.d (staC b))]
                then (bif oks [AV.agg (List.map C.d (staC a)), AV.agg (List.map C.d (staC b))]
                  then (bif sm [AV.agg (List.map C.d (staC a)), AV.agg (List.map C.d (staC b))] ==
  sm [AV.agg (List.map C.d (staC a)), AV.agg (List.map C.d (staC b))]
                    then (bif oks [AV.agg (List.map C.d (staC a)), AV.agg (List.map C.d (staC a))]
                      then (bif sm [AV.agg (List.map C.d (staC a)), AV.agg (List.map C.d (staC a))]
                        then some (T.leaf (AV.c (C.d (D.v (Value.bool (nk s == nk s)))), []))
                        else some (T.leaf (AV.c (C.d (D.v (Value.bool false))), [])))
                      else none)
                    else some (T.leaf (AV.c (C.d (D.v (Value.bool false))), [])))
                  else none)
                else none)
              else some (T.leaf (AV.c (C.d (D.v (Value.bool false))), [])))
            else none)
          else none))
      else none))
  else none) := by kernel_rfl

/-! diagrams -/
theorem shp_str {ds : List D} (h : Shp Try.prog 9 ds) : ∃ s, DEs ds (busC s) ∧ (fun _ => true) s = true := by
  obtain ⟨s, rfl, _⟩ := h.str_inv Try.underlying9
  exact ⟨s, .refl _, rfl⟩
theorem shp_imp {ds : List D} (h : Shp Try.prog 51 ds) : ∃ r x, ds = [dI r, dI x] := by
  obtain ⟨ps, rfl, hl, hp⟩ := h.struct_inv Try.underlying51
  match ps, hl with
  | [p0, p1], _ =>
    obtain ⟨r, rfl, _⟩ := (hp 0 _ p0 rfl rfl).int_inv Try.underlying3
    obtain ⟨x, rfl, _⟩ := (hp 1 _ p1 rfl rfl).int_inv Try.underlying3
    exact ⟨r, x, rfl⟩
theorem shp_line {ds : List D} (h : Shp Try.prog 58 ds) : ∃ x, DEs ds (lineC x) ∧ (fun _ => true) x = true := by
  obtain ⟨ps, rfl, hl, hp⟩ := h.struct_inv Try.underlying58
  match ps, hl with
  | [p0, p1, p2], _ =>
    obtain ⟨s, rfl, _⟩ := (hp 0 _ p0 rfl rfl).str_inv Try.underlying9
    obtain ⟨r1, x1, rfl⟩ := shp_imp (hp 1 _ p1 rfl rfl)
    obtain ⟨r0, x0, rfl⟩ := shp_imp (hp 2 _ p2 rfl rfl)
    exact ⟨⟨s, r1, x1, r0, x0⟩, .refl _, rfl⟩
theorem shp_src {ds : List D} (h : Shp Try.prog 61 ds) : ∃ x, DEs ds (srcC' x) ∧ (fun _ => true) x = true := by
  obtain ⟨ps, rfl, hl, hp⟩ := h.struct_inv Try.underlying61
  match ps, hl with
  | [p0, p1, p2, p3], _ =>
    obtain ⟨s, rfl, _⟩ := (hp 0 _ p0 rfl rfl).str_inv Try.underlying9
    obtain ⟨e, rfl, _⟩ := (hp 1 _ p1 rfl rfl).int_inv Try.underlying3
    obtain ⟨r1, x1, rfl⟩ := shp_imp (hp 2 _ p2 rfl rfl)
    obtain ⟨r0, x0, rfl⟩ := shp_imp (hp 3 _ p3 rfl rfl)
    exact ⟨⟨s, e, r1, x1, r0, x0⟩, .refl _, rfl⟩
theorem shp_link {ds : List D} (h : Shp Try.prog 108 ds) : ∃ x, DEs ds (linkC x) ∧ (fun _ => true) x = true := by
  obtain ⟨ps, rfl, hl, hp⟩ := h.struct_inv Try.underlying108
  match ps, hl with
  | [p0, p1], _ =>
    obtain ⟨r, rfl, _⟩ := (hp 0 _ p0 rfl rfl).int_inv Try.underlying3
    obtain ⟨x, rfl, _⟩ := (hp 1 _ p1 rfl rfl).int_inv (k := .i64) (by kernel_rfl)
    exact ⟨⟨r, x⟩, .refl _, rfl⟩
theorem shp_bay {ds : List D} (h : Shp Try.prog 54 ds) : ∃ x, DEs ds (bayC x) ∧ (fun x => lenOk x.links) x = true := by
  obtain ⟨ps, rfl, hl, hp⟩ := h.struct_inv Try.underlying54
  match ps, hl with
  | [p0, p1, p2, p3, p4, p5, p6, p7, p8, p9, p10], _ =>
    obtain ⟨s, rfl, _⟩ := (hp 0 _ p0 rfl rfl).str_inv Try.underlying9
    obtain ⟨k, rfl, _⟩ := (hp 1 _ p1 rfl rfl).int_inv (k := .i64) (by kernel_rfl)
    obtain ⟨o, rfl, _⟩ := (hp 2 _ p2 rfl rfl).int_inv Try.underlying3
    obtain ⟨e, rfl, _⟩ := (hp 3 _ p3 rfl rfl).int_inv Try.underlying3
    obtain ⟨r, x, rfl⟩ := shp_imp (hp 4 _ p4 rfl rfl)
    obtain ⟨d, l, rfl, hd, hn, _⟩ := shp_list (d0 := link0) Try.underlying52 (show Try.prog.cellsOf 108 = 2 by kernel_rfl) (fun ds => shp_link) (hp 5 _ p5 rfl rfl)
    obtain ⟨c, rfl⟩ := (hp 6 _ p6 rfl rfl).bool_inv Try.underlying4
    obtain ⟨n1, rfl, _⟩ := (hp 7 _ p7 rfl rfl).int_inv Try.underlying3
    obtain ⟨n2, rfl, _⟩ := (hp 8 _ p8 rfl rfl).int_inv Try.underlying3
    obtain ⟨n3, rfl, _⟩ := (hp 9 _ p9 rfl rfl).int_inv Try.underlying3
    obtain ⟨n4, rfl, _⟩ := (hp 10 _ p10 rfl rfl).int_inv Try.underlying3
    exact ⟨⟨s, k, o, e, r, x, l, c, n1, n2, n3, n4⟩, .cons (.refl _) (.cons (.refl _) (.cons (.refl _) (.cons (.refl _) (.cons (.refl _) (.cons (.refl _) (.cons hd (.refl _))))))), hn⟩
theorem shp_sta {ds : List D} (h : Shp Try.prog 27 ds) : ∃ x, DEs ds (staC x) ∧ okSta x = true := by
  obtain ⟨ps, rfl, hl, hp⟩ := h.struct_inv Try.underlying27
  match ps, hl with
  | [p0, p1, p2, p3, p4], _ =>
    obtain ⟨s, rfl, _⟩ := (hp 0 _ p0 rfl rfl).str_inv Try.underlying9
    obtain ⟨d1, l1, rfl, h1, n1, _⟩ := shp_list (d0 := e0) Try.underlying22 (show Try.prog.cellsOf 9 = 1 by kernel_rfl) (fun ds => shp_str) (hp 1 _ p1 rfl rfl)
    obtain ⟨d2, l2, rfl, h2, n2, _⟩ := shp_list (d0 := line0) Try.underlying23 (show Try.prog.cellsOf 58 = 5 by kernel_rfl) (fun ds => shp_line) (hp 2 _ p2 rfl rfl)
    obtain ⟨d3, l3, rfl, h3, n3, _⟩ := shp_list (d0 := src0) Try.underlying24 (show Try.prog.cellsOf 61 = 6 by kernel_rfl) (fun ds => shp_src) (hp 3 _ p3 rfl rfl)
    obtain ⟨d4, l4, rfl, h4, n4, a4⟩ := shp_list (d0 := bay0) Try.underlying25 (show Try.prog.cellsOf 54 = 12 by kernel_rfl) (fun ds => shp_bay) (hp 4 _ p4 rfl rfl)
    refine ⟨⟨s, l1, l2, l3, l4⟩, .cons (.refl _) (.cons h1 (.cons h2 (.cons h3 (.cons h4 .nil)))), ?_⟩
    unfold okSta
    simp only [n1, n2, n3, n4, a4, Bool.and_self]
end Go.Proofs.Ythmapnolgdpkbaa.st
