/-
  The shapes of the arguments of the zonetimer laws. No condition.
-/
import Derived.Test.YtbgmjeifnipphaaZv
namespace Go.Proofs.Ytbgmjeifnipphaa.zt
open Go.RowKit Go.Ev

def fits (n : Int) : Prop := (Lit.int .i64 n).wf = true
theorem sh23 {ds : List D} (h : Shp Try.prog 23 ds) : ∃ z : Rc, ds = [.v (.bool z.on), .v (.bool z.fw), .v (.int .i64 z.x), .v (.int .i64 z.r), .v (.int .i64 z.l), .v (.int .i64 z.d)] ∧ fits z.d := by
  obtain ⟨ps, rfl, hl, hp⟩ := h.struct_inv Try.underlying23
  match ps, hl, hp with
  | [p0, p1, p2, p3, p4, p5], _, hp =>
    obtain ⟨a, rfl⟩ := (hp 0 4 p0 rfl rfl).bool_inv Try.underlying4
    obtain ⟨b, rfl⟩ := (hp 1 4 p1 rfl rfl).bool_inv Try.underlying4
    obtain ⟨c, rfl, _⟩ := (hp 2 3 p2 rfl rfl).int_inv Try.underlying3
    obtain ⟨d, rfl, _⟩ := (hp 3 3 p3 rfl rfl).int_inv Try.underlying3
    obtain ⟨e, rfl, _⟩ := (hp 4 3 p4 rfl rfl).int_inv Try.underlying3
    obtain ⟨f, rfl, hf⟩ := (hp 5 3 p5 rfl rfl).int_inv Try.underlying3
    exact ⟨⟨a, b, c, d, e, f⟩, rfl, hf⟩
theorem sh26 {ds : List D} (h : Shp Try.prog 26 ds) : ∃ z : Zs, AV.agg (ds.map .d) = zs z.z0 z.z1 z.z2 := by
  obtain ⟨ps, rfl, hl, hp⟩ := h.array_inv Try.underlying26
  match ps, hl, hp with
  | [p0, p1, p2], _, hp =>
    obtain ⟨a, rfl, _⟩ := sh23 (hp p0 (by simp))
    obtain ⟨b, rfl, _⟩ := sh23 (hp p1 (by simp))
    obtain ⟨c, rfl, _⟩ := sh23 (hp p2 (by simp))
    exact ⟨⟨a, b, c⟩, rfl⟩
theorem sh28 {ds : List D} (h : Shp Try.prog 28 ds) : ∃ c : I3, AV.agg (ds.map .d) = cs3 c.a c.b c.c := by
  obtain ⟨ps, rfl, hl, hp⟩ := h.array_inv Try.underlying28
  match ps, hl, hp with
  | [p0, p1, p2], _, hp =>
    obtain ⟨a, rfl, _⟩ := (hp p0 (by simp)).int_inv Try.underlying3
    obtain ⟨b, rfl, _⟩ := (hp p1 (by simp)).int_inv Try.underlying3
    obtain ⟨c, rfl, _⟩ := (hp p2 (by simp)).int_inv Try.underlying3
    exact ⟨⟨a, b, c⟩, rfl⟩
theorem sh30 {ds : List D} (h : Shp Try.prog 30 ds) : ∃ c : B3, ds = [.v (.bool c.a), .v (.bool c.b), .v (.bool c.c)] := by
  obtain ⟨ps, rfl, hl, hp⟩ := h.array_inv Try.underlying30
  match ps, hl, hp with
  | [p0, p1, p2], _, hp =>
    obtain ⟨a, rfl⟩ := (hp p0 (by simp)).bool_inv Try.underlying4
    obtain ⟨b, rfl⟩ := (hp p1 (by simp)).bool_inv Try.underlying4
    obtain ⟨c, rfl⟩ := (hp p2 (by simp)).bool_inv Try.underlying4
    exact ⟨⟨a, b, c⟩, rfl⟩
theorem sh38 {ds : List D} (h : Shp Try.prog 38 ds) : ∃ p b : B3, AV.agg (ds.map .d) = .agg [B p.a, B p.b, B p.c, B b.a, B b.b, B b.c] := by
  obtain ⟨ps, rfl, hl, hp⟩ := h.struct_inv Try.underlying38
  match ps, hl, hp with
  | [p0, p1], _, hp =>
    obtain ⟨a, rfl⟩ := sh30 (hp 0 30 p0 rfl rfl)
    obtain ⟨b, rfl⟩ := sh30 (hp 1 30 p1 rfl rfl)
    exact ⟨a, b, rfl⟩
theorem sh24 {x : D} (h : Shp Try.prog 24 [x]) : ∃ n f, x = .sl n f ∧ ∃ l : List Bool, l.length = n ∧ ∀ i, i < n → f i = [.v (.bool (l.getD i false))] := by
  obtain ⟨n, f, he, _, hf⟩ := h.sl_inv Try.underlying24
  have hx : x = .sl n f := by simpa using he
  refine ⟨n, f, hx, ?_⟩
  have : ∀ i, ∃ b, i < n → f i = [.v (.bool b)] := fun i => by
    by_cases hi : i < n
    · obtain ⟨b, hb⟩ := (hf i hi).bool_inv Try.underlying4; exact ⟨b, fun _ => hb⟩
    · exact ⟨false, fun h => absurd h hi⟩
  obtain ⟨g, hg⟩ := Classical.axiomOfChoice this
  refine ⟨(List.range n).map g, by simp, fun i hi => ?_⟩
  rw [hg i hi]
  simp [List.getD, hi]

theorem okc_bd {z : Rc} {c : Int} (h : okc z c = true) : 0 ≤ c ∧ c ≤ most z := by
  unfold okc at h
  by_cases h1 : c < 0
  · simp [h1] at h
  · by_cases h2 : c > most z
    · simp [h2] at h
    · exact ⟨by omega, by omega⟩
theorem okc_mk {z : Rc} {c : Int} (h1 : 0 ≤ c) (h2 : c ≤ most z) : okc z c = true := by
  unfold okc
  have e1 : decide (c < 0) = false := by simpa using h1
  have e2 : decide (c > most z) = false := by simpa using h2
  rw [e1, e2]; rfl
theorem most_nn (z : Rc) : 0 ≤ most z := by
  unfold most
  cases h : usable z
  · simp
  · have := usable_bd h
    rw [wr_in (by omega)]; simp; omega
theorem most_eq {z : Rc} (h : usable z = true) : most z = z.d + 1 := by
  have := usable_bd h
  unfold most; rw [h, wr_in (by omega)]; rfl
theorem mn_eq {z : Rc} {c : Int} (hu : usable z = true) (hc : okc z c = true) : mn z c = min (c + 1) (z.d + 1) := by
  have h1 := usable_bd hu
  have h2 := okc_bd hc
  rw [most_eq hu] at h2
  unfold mn
  rw [wr_in (by omega), wr_in (by omega)]
  split <;> omega
theorem okc_nx (v : Bool) (z : Rc) (c : Int) (p b : Bool) (hv : v = true → okc z c = true) : okc z (nx v z c p b) = true := by
  unfold nx
  cases v
  · exact okc_mk (by simp) (by simpa using most_nn z)
  · simp only [cond_true]
    cases ha : act (usable z) p b
    · exact okc_mk (by simp) (by simpa using most_nn z)
    · simp only [cond_true]
      have hu : usable z = true := by unfold act at ha; simp at ha; exact ha.1.1
      have := usable_bd hu
      have hc := okc_bd (hv rfl)
      rw [mn_eq hu (hv rfl)]
      exact okc_mk (by omega) (by rw [most_eq hu]; omega)
theorem va_and {a : In} (h : va a = true) : okc a.z.z0 a.c.a = true ∧ okc a.z.z1 a.c.b = true ∧ okc a.z.z2 a.c.c = true := by
  unfold va valid at h; simp at h; exact ⟨h.1.1, h.1.2, h.2⟩
theorem valid_nx (a : In) : fV (a.z, nxI a) = true := by
  unfold fV valid nxI
  simp only
  rw [okc_nx _ _ _ _ _ (fun h => (va_and h).1), okc_nx _ _ _ _ _ (fun h => (va_and h).2.1), okc_nx _ _ _ _ _ (fun h => (va_and h).2.2)]
  rfl
theorem lF_eq (a : In) : lF a = some (.c (B true)) := by
  unfold lF
  rw [valid_nx a]
  simp
theorem b6 : Try.f6.body = some (bodyOf Try.f6) := by kernel_rfl
theorem cr6 (a : In) : ∃ Hc, CR Try.prog 6 (eL a) [] (.c (B true)) Hc := callA_ok orc3_ok Try.func6 b6 (by rw [ev6, lF_eq])
end Go.Proofs.Ytbgmjeifnipphaa.zt
