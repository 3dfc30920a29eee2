/-
  Names of a diagram: a valid diagram in which one name is replaced by another one of its names. No condition.
-/
import Derived.Test.YtngoglhlhlfknaaGreatZSt
namespace Go.Eb
open Go.RowKit

theorem inB_iff (l : List ByteArray) (s : ByteArray) : inB l s = true ↔ s ∈ l := by
  unfold inB
  rw [List.any_eq_true]
  constructor
  · rintro ⟨t, ht, h⟩
    have : s = t := by
      cases s; cases t
      simp only [beq_iff_eq] at h
      simp only [ByteArray.mk.injEq]
      exact Array.toList_inj.1 h
    rw [this]; exact ht
  · exact fun h => ⟨s, h, by simp⟩
/-- the first error of names and of what else is wrong -/
def fstErr (N : List ByteArray) : List ByteArray → List Int → Int
  | n :: ns, r :: rs => bif namErr N n != 0 then namErr N n else bif r != 0 then r else fstErr (N ++ [n]) ns rs
  | _, _ => 0

theorem namErr_zero {N : List ByteArray} {n : ByteArray} : namErr N n = 0 ↔ nameOk n = true ∧ n ∉ N := by
  unfold namErr
  rw [← inB_iff]
  cases nameOk n <;> cases inB N n <;> simp
theorem namErr_dup {N : List ByteArray} {n : ByteArray} (h : nameOk n = true) (k : n ∈ N) : namErr N n = 8 := by
  unfold namErr
  rw [h, (inB_iff _ _).2 k]; rfl
theorem fst_head {N : List ByteArray} {n : ByteArray} {ns : List ByteArray} {r : Int} {rs : List Int} (h : fstErr N (n :: ns) (r :: rs) = 0) : nameOk n = true ∧ n ∉ N ∧ r = 0 ∧ fstErr (N ++ [n]) ns rs = 0 := by
  simp only [fstErr] at h
  cases h1 : (namErr N n != 0) with
  | true => rw [h1] at h; simp only [cond_true] at h; rw [h] at h1; simp at h1
  | false =>
    rw [h1] at h
    simp only [cond_false] at h
    cases h2 : (r != 0) with
    | true => rw [h2] at h; simp only [cond_true] at h; rw [h] at h2; simp at h2
    | false =>
      rw [h2] at h
      simp only [cond_false] at h
      have := namErr_zero.1 (by simpa using h1)
      exact ⟨this.1, this.2, by simpa using h2, h⟩
theorem fst_cons {N : List ByteArray} {n : ByteArray} {ns : List ByteArray} {r : Int} {rs : List Int} (h1 : nameOk n = true) (h2 : n ∉ N) (h3 : r = 0) : fstErr N (n :: ns) (r :: rs) = fstErr (N ++ [n]) ns rs := by
  simp only [fstErr, namErr_zero.2 ⟨h1, h2⟩, h3]; rfl
theorem fst_all : ∀ {N ns : List ByteArray} {rs : List Int}, ns.length = rs.length → fstErr N ns rs = 0 → ∀ n ∈ ns, nameOk n = true ∧ n ∉ N
  | N, [], rs, _, _, n, hn => by simp at hn
  | N, m :: ns, r :: rs, hl, h, n, hn => by
    obtain ⟨h1, h2, h3, h4⟩ := fst_head h
    rcases List.mem_cons.1 hn with rfl | hn
    · exact ⟨h1, h2⟩
    · have := fst_all (by simpa using hl) h4 n hn
      exact ⟨this.1, fun hN => this.2 (by simp [hN])⟩
/-- a name that is there already -/
theorem fst_in : ∀ {N N' ns : List ByteArray} {rs : List Int} (k : Nat), ns.length = rs.length → k < ns.length → fstErr N ns rs = 0 → (∀ j, j < ns.length → j ≠ k → ns.getD j e0 ∉ N') → ns.getD k e0 ∈ N' → fstErr N' ns rs = 8
  | N, N', [], rs, k, _, hk, _, _, _ => by simp at hk
  | N, N', m :: ns, r :: rs, k, hl, hk, h, hn, hin => by
    obtain ⟨h1, h2, h3, h4⟩ := fst_head h
    cases k with
    | zero =>
      simp only [List.getD_cons_zero] at hin
      simp only [fstErr, namErr_dup h1 hin]
      rfl
    | succ k =>
      have h0 := hn 0 (by simp) (by omega)
      simp only [List.getD_cons_zero] at h0
      rw [fst_cons h1 h0 h3]
      refine fst_in k (by simpa using hl) (by simpa using hk) h4 (fun j hj hjk hm => ?_) ?_
      · rcases List.mem_append.1 hm with hm | hm
        · exact hn (j + 1) (by simpa using hj) (by omega) (by simpa using hm)
        · have := (fst_all (by simpa using hl) h4 (ns.getD j e0) (by simp [List.getD, hj])).2
          exact this (List.mem_append.2 (.inr hm))
      · simp only [List.getD_cons_succ] at hin
        exact List.mem_append.2 (.inl hin)
theorem fst_set : ∀ {N ns : List ByteArray} {rs : List Int} {n : ByteArray} (i : Nat), ns.length = rs.length → i < ns.length → fstErr N ns rs = 0 → nameOk n = true → n ∈ N → fstErr N (ns.set i n) rs = 8
  | N, [], rs, n, i, _, hi, _, _, _ => by simp at hi
  | N, m :: ns, r :: rs, n, i, hl, hi, h, hk, hin => by
    obtain ⟨h1, h2, h3, h4⟩ := fst_head h
    cases i with
    | zero =>
      simp only [List.set_cons_zero, fstErr, namErr_dup hk hin]
      rfl
    | succ i =>
      rw [List.set_cons_succ, fst_cons h1 h2 h3]
      exact fst_set i (by simpa using hl) (by simpa using hi) h4 hk (List.mem_append.2 (.inl hin))
/-- one name twice -/
theorem fst_twice : ∀ {N ns : List ByteArray} {rs : List Int} (i k : Nat), ns.length = rs.length → i < ns.length → k < ns.length → i ≠ k → fstErr N ns rs = 0 → fstErr N (ns.set i (ns.getD k e0)) rs = 8
  | N, [], rs, i, k, _, hi, _, _, _ => by simp at hi
  | N, m :: ns, r :: rs, i, k, hl, hi, hk, hne, h => by
    obtain ⟨h1, h2, h3, h4⟩ := fst_head h
    have hl' : ns.length = rs.length := by simpa using hl
    cases i with
    | zero =>
      cases k with
      | zero => exact absurd rfl hne
      | succ k =>
        have hk' : k < ns.length := by simpa using hk
        have hm : ns.getD k e0 ∈ ns := by simp [List.getD, hk']
        have ha := fst_all hl' h4 _ hm
        rw [List.set_cons_zero, List.getD_cons_succ, fst_cons ha.1 (fun hN => ha.2 (List.mem_append.2 (.inl hN))) h3]
        refine fst_in k hl' hk' h4 (fun j hj hjk hmem => ?_) (by simp)
        rcases List.mem_append.1 hmem with hmem | hmem
        · exact (fst_all hl' h4 (ns.getD j e0) (by simp [List.getD, hj])).2 (List.mem_append.2 (.inl hmem))
        · simp only [List.mem_singleton] at hmem
          -- two equal names
          have key : ∀ (N ns : List ByteArray) (rs : List Int), ns.length = rs.length → fstErr N ns rs = 0 → ∀ a b, a < b → b < ns.length → ns.getD a e0 ≠ ns.getD b e0 := by
            intro N ns
            induction ns generalizing N with
            | nil => intro rs _ _ a b _ hb; simp at hb
            | cons x xs ih =>
              intro rs hl h a b hab hb
              match rs, hl, h with
              | r :: rs, hl, h =>
                obtain ⟨_, _, _, g4⟩ := fst_head h
                cases b with
                | zero => omega
                | succ b =>
                  have hb' : b < xs.length := by simpa using hb
                  cases a with
                  | zero =>
                    simp only [List.getD_cons_zero, List.getD_cons_succ]
                    intro e
                    exact (fst_all (by simpa using hl) g4 (xs.getD b e0) (by simp [List.getD, hb'])).2 (by rw [← e]; simp)
                  | succ a =>
                    simp only [List.getD_cons_succ]
                    exact ih _ rs (by simpa using hl) g4 a b (by omega) hb'
          rcases Nat.lt_or_gt_of_ne hjk with hlt | hlt
          · exact key _ _ _ hl' h4 j k hlt hk' hmem
          · exact key _ _ _ hl' h4 k j hlt hj hmem.symm
    | succ i =>
      rw [List.set_cons_succ, fst_cons h1 h2 h3]
      cases k with
      | zero =>
        simp only [List.getD_cons_zero]
        exact fst_set i hl' (by simpa using hi) h4 h1 (by simp)
      | succ k =>
        simp only [List.getD_cons_succ]
        exact fst_twice i k hl' (by simpa using hi) (by simpa using hk) (by omega) h4
theorem fst_app : ∀ (N a b : List ByteArray) (ra rb : List Int), a.length = ra.length → fstErr N (a ++ b) (ra ++ rb) = bif fstErr N a ra != 0 then fstErr N a ra else fstErr (N ++ a) b rb
  | N, [], b, [], rb, _ => by simp [fstErr]
  | N, n :: a, b, r :: ra, rb, h => by
    simp only [List.cons_append, fstErr]
    cases hn : (namErr N n != 0) with
    | true => simp only [cond_true, hn]
    | false =>
      simp only [cond_false]
      cases hr : (r != 0) with
      | true => simp only [cond_true, hr]
      | false =>
        simp only [cond_false]
        rw [fst_app (N ++ [n]) a b ra rb (by simpa using h)]
        simp

/-! Check by names and by what else is wrong -/
def restsOf {α : Type} (rest : List α → α → Int) : List α → List α → List Int
  | _, [] => []
  | before, x :: r => rest before x :: restsOf rest (before ++ [x]) r
theorem restsOf_len {α : Type} (rest : List α → α → Int) : ∀ (before l : List α), (restsOf rest before l).length = l.length
  | _, [] => rfl
  | before, x :: r => by simp [restsOf, restsOf_len rest (before ++ [x]) r]
theorem takeN_fst {α : Type} {nm : α → ByteArray} {F : List ByteArray → List α → α → Int} {rest : List α → α → Int} (hF : ∀ N before x, F N before x = bif namErr N (nm x) != 0 then namErr N (nm x) else rest before x) (N : List ByteArray) :
    ∀ (before l : List α), (takeN nm F N before l).1 = fstErr (N ++ before.map nm) (l.map nm) (restsOf rest before l)
  | before, [] => rfl
  | before, x :: r => by
    have ih := takeN_fst hF N (before ++ [x]) r
    simp only [takeN, List.map_cons, restsOf, fstErr, hF]
    cases h : (namErr (N ++ before.map nm) (nm x) != 0) with
    | true => simp only [cond_true, h]
    | false =>
      simp only [cond_false]
      cases h2 : (rest before x != 0) with
      | true => simp only [cond_true]
      | false => simp only [cond_false]; rw [ih]; simp

/-- a bay without its name -/
def core (b : SBay) : SBay := { b with name := e0 }
def restQ (nb nl ns : Nat) (before : List SBay) (b : SBay) : Int := match cntOf nl ns b.kind with
    | none => 10
    | some c => bif !within b.off 0 (c - 1) then 9 else bif !rngOk b then 2 else bif before.any (clash b) then 12 else linksErr nb b
theorem restQ_core (nb nl ns : Nat) (before : List SBay) (b : SBay) : restQ nb nl ns (before.map core) (core b) = restQ nb nl ns before b := by
  unfold restQ
  have e1 : (core b).kind = b.kind := rfl
  have e2 : (core b).off = b.off := rfl
  have e3 : rngOk (core b) = rngOk b := rfl
  have e4 : linksErr nb (core b) = linksErr nb b := rfl
  have e5 : (before.map core).any (clash (core b)) = before.any (clash b) := by
    rw [List.any_map]; rfl
  rw [e1, e2, e3, e4, e5]
theorem restsQ_core (nb nl ns : Nat) : ∀ (before l : List SBay), restsOf (restQ nb nl ns) (before.map core) (l.map core) = restsOf (restQ nb nl ns) before l
  | _, [] => rfl
  | before, x :: r => by
    have ih := restsQ_core nb nl ns (before ++ [x]) r
    simp only [List.map_cons, restsOf, restQ_core]
    rw [← ih]; simp
def restB (_ : List ByteArray) (_ : ByteArray) : Int := 0
def restL (_ : List SLine) (x : SLine) : Int := bif impOk x.r1 x.x1 && impOk x.r0 x.x0 then 0 else 2
def restS (_ : List SSrc) (x : SSrc) : Int := bif within x.emf 1 1000000 && (impOk x.r1 x.x1 && impOk x.r0 x.x0) then 0 else 2
def namesS (s : SSta) : List ByteArray := s.buses ++ (s.lines.map SLine.name ++ (s.srcs.map SSrc.name ++ s.bays.map SBay.name))
def restsS (s : SSta) : List Int := restsOf restB [] s.buses ++ (restsOf restL [] s.lines ++ (restsOf restS [] s.srcs ++ restsOf (restQ s.buses.length s.lines.length s.srcs.length) [] s.bays))
theorem names_rests (s : SSta) : (namesS s).length = (restsS s).length := by simp [namesS, restsS, restsOf_len]
theorem chk_fst (s : SSta) : chkSta s = bif !nameOk s.name then 7 else bif cntBad s then 3 else fstErr [] (namesS s) (restsS s) := by
  unfold chkSta
  have h1 : (tBus s.buses).1 = fstErr [] s.buses (restsOf restB [] s.buses) := by
    have := takeN_fst (nm := id) (F := fun N _ x => namErr N x) (rest := restB) (fun N before x => by
      unfold restB id
      cases h : (namErr N x != 0) with
      | true => rfl
      | false => simp only [cond_false]; simpa using h) [] [] s.buses
    simp only [List.map_nil, List.append_nil, List.map_id] at this
    exact this
  have h2 : ∀ N, (tLine N s.lines).1 = fstErr N (s.lines.map SLine.name) (restsOf restL [] s.lines) := fun N => by
    have := takeN_fst (nm := SLine.name) (F := fun N _ x => lineErr N x) (rest := restL) (fun N before x => rfl) N [] s.lines
    simp only [List.map_nil, List.append_nil] at this
    exact this
  have h3 : ∀ N, (tSrc N s.srcs).1 = fstErr N (s.srcs.map SSrc.name) (restsOf restS [] s.srcs) := fun N => by
    have := takeN_fst (nm := SSrc.name) (F := fun N _ x => srcErr N x) (rest := restS) (fun N before x => rfl) N [] s.srcs
    simp only [List.map_nil, List.append_nil] at this
    exact this
  have h4 : ∀ nb nl ns N, (tBay nb nl ns N s.bays).1 = fstErr N (s.bays.map SBay.name) (restsOf (restQ nb nl ns) [] s.bays) := fun nb nl ns N => by
    have := takeN_fst (nm := SBay.name) (F := fun N before x => bayErr nb nl ns N before x) (rest := restQ nb nl ns) (fun N before b => by
      unfold bayErr bayErrD namErr restQ
      cases nameOk b.name with
      | false => rfl
      | true => cases inB N b.name <;> rfl) N [] s.bays
    simp only [List.map_nil, List.append_nil] at this
    exact this
  rw [h1, h2, h3, h4]
  unfold namesS restsS
  rw [fst_app _ _ _ _ _ (by simp [restsOf_len]), fst_app _ _ _ _ _ (by simp [restsOf_len]), fst_app _ _ _ _ _ (by simp [restsOf_len])]
  simp only [List.nil_append, List.append_assoc]

/-- one name replaced -/
def renS (s : SSta) (i : Nat) (n : ByteArray) : SSta :=
  if i < s.buses.length then { s with buses := s.buses.set i n }
  else if i < s.buses.length + s.lines.length then { s with lines := s.lines.set (i - s.buses.length) { s.lines.getD (i - s.buses.length) line0 with name := n } }
  else if i < s.buses.length + s.lines.length + s.srcs.length then { s with srcs := s.srcs.set (i - s.buses.length - s.lines.length) { s.srcs.getD (i - s.buses.length - s.lines.length) src0 with name := n } }
  else { s with bays := s.bays.set (i - s.buses.length - s.lines.length - s.srcs.length) { s.bays.getD (i - s.buses.length - s.lines.length - s.srcs.length) bay0 with name := n } }
theorem restsOf_congr {α β : Type} {rest : List α → α → Int} {rest' : List β → β → Int} {g : α → β} (h : ∀ before x, rest before x = rest' (before.map g) (g x)) : ∀ (before l : List α), restsOf rest before l = restsOf rest' (before.map g) (l.map g)
  | _, [] => rfl
  | before, x :: r => by
    simp only [restsOf, List.map_cons, h, restsOf_congr h (before ++ [x]) r]; simp
theorem map_set' {α β : Type} (g : α → β) {l : List α} {i : Nat} {d x : α} (h : g x = g (l.getD i d)) : (l.set i x).map g = l.map g := by
  apply List.ext_getElem (by simp)
  intro j h1 h2
  simp only [List.getElem_map, List.getElem_set]
  split
  · rename_i e; subst e
    rw [h]; congr 1
    have : i < l.length := by simpa using h2
    simp [List.getD, this]
  · rfl
theorem set_app_l {α : Type} {a b : List α} {i : Nat} {x : α} (h : i < a.length) : (a ++ b).set i x = a.set i x ++ b := by rw [List.set_append]; simp [h]
theorem set_app_r {α : Type} {a b : List α} {i : Nat} {x : α} (h : ¬ i < a.length) : (a ++ b).set i x = a ++ b.set (i - a.length) x := by rw [List.set_append]; simp [h]
theorem ren_spec (s : SSta) (i : Nat) (n : ByteArray) (hi : i < (namesS s).length) : namesS (renS s i n) = (namesS s).set i n ∧ restsS (renS s i n) = restsS s ∧ (renS s i n).name = s.name ∧ cntBad (renS s i n) = cntBad s := by
  unfold renS
  unfold namesS at hi
  simp only [List.length_append, List.length_map] at hi
  split
  · rename_i h1
    refine ⟨?_, ?_, rfl, ?_⟩
    · unfold namesS; rw [set_app_l h1]
    · unfold restsS
      simp only [List.length_set]
      congr 1
      have : ∀ (a b l : List ByteArray), a.length = b.length → restsOf restB a l = List.replicate l.length 0 := by
        intro a b l _
        induction l generalizing a b with
        | nil => rfl
        | cons x r ih => simp only [restsOf, List.length_cons, List.replicate_succ]; rw [ih _ (b ++ [x]) (by simp_all)]; rfl
      rw [this [] [] _ rfl, this [] [] _ rfl]; simp
    · unfold cntBad; simp only [List.length_set]
  · rename_i h1
    split
    · rename_i h2
      refine ⟨?_, ?_, rfl, ?_⟩
      · unfold namesS
        rw [set_app_r h1, set_app_l (by simp; omega), List.map_set]
      · unfold restsS
        simp only [List.length_set]
        congr 2
        rw [restsOf_congr (rest := restL) (rest' := restL) (g := fun x : SLine => { x with name := e0 }) (fun _ _ => rfl) [] (s.lines.set _ _), map_set' (d := line0) _ (by rfl), ← restsOf_congr (rest := restL) (rest' := restL) (g := fun x : SLine => { x with name := e0 }) (fun _ _ => rfl)]
      · unfold cntBad; simp only [List.length_set]
    · rename_i h2
      split
      · rename_i h3
        refine ⟨?_, ?_, rfl, ?_⟩
        · unfold namesS
          rw [set_app_r h1, set_app_r (by simp; omega), set_app_l (by simp; omega), List.map_set]; simp
        · unfold restsS
          simp only [List.length_set]
          congr 3
          rw [restsOf_congr (rest := restS) (rest' := restS) (g := fun x : SSrc => { x with name := e0 }) (fun _ _ => rfl) [] (s.srcs.set _ _), map_set' (d := src0) _ (by rfl), ← restsOf_congr (rest := restS) (rest' := restS) (g := fun x : SSrc => { x with name := e0 }) (fun _ _ => rfl)]
        · unfold cntBad; simp only [List.length_set]
      · rename_i h3
        refine ⟨?_, ?_, rfl, ?_⟩
        · unfold namesS
          rw [set_app_r h1, set_app_r (by simp; omega), set_app_r (by simp; omega), List.map_set]; simp
        · unfold restsS
          simp only [List.length_set]
          congr 3
          rw [← restsQ_core _ _ _ [] (s.bays.set _ _), map_set' (d := bay0) _ (by rfl), restsQ_core]
        · unfold cntBad; simp only [List.length_set]
/-- the law -/
theorem ren_law (s : SSta) (i k : Nat) (h : chkSta s = 0) (hi : i < (namesS s).length) (hk : k < (namesS s).length) : chkSta (renS s i ((namesS s).getD k e0)) = if i = k then 0 else 8 := by
  obtain ⟨r1, r2, r3, r4⟩ := ren_spec s i ((namesS s).getD k e0) hi
  rw [chk_fst] at h ⊢
  rw [r1, r2, r3, r4]
  cases hn : nameOk s.name with
  | false => rw [hn] at h; simp at h
  | true =>
    rw [hn] at h
    simp only [Bool.not_true, cond_false] at h ⊢
    cases hc : cntBad s with
    | true => rw [hc] at h; simp at h
    | false =>
      rw [hc] at h
      simp only [cond_false] at h ⊢
      by_cases e : i = k
      · subst e
        rw [if_pos rfl]
        have : (namesS s).set i ((namesS s).getD i e0) = namesS s := by simp [List.getD, hi]
        rw [this]; exact h
      · rw [if_neg e]
        exact fst_twice i k (names_rests s) hi hk e h
end Go.Eb
