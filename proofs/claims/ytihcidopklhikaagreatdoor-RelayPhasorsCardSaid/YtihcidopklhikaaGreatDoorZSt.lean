/-
  Diagrams as data: their abstract form, and Check in plain form. No condition.
-/
import Derived.Test.YtihcidopklhikaaGreatDoorZRl
namespace Go.Eb
open Go.RowKit

structure SLine where
  name : ByteArray
  r1 : Int
  x1 : Int
  r0 : Int
  x0 : Int
structure SSrc where
  name : ByteArray
  emf : Int
  r1 : Int
  x1 : Int
  r0 : Int
  x0 : Int
structure SLink where
  bus : Int
  pos : Int
structure SBay where
  name : ByteArray
  kind : Int
  off : Int
  fin : Int
  zr : Int
  zx : Int
  links : List SLink
  closed : Bool
  ct : Int
  vt : Int
  sat : Int
  travel : Int
structure SSta where
  name : ByteArray
  buses : List ByteArray
  lines : List SLine
  srcs : List SSrc
  bays : List SBay

abbrev dS (s : ByteArray) : D := .v (.string s)
abbrev dI (n : Int) : D := .v (.int .i64 n)
abbrev dB (b : Bool) : D := .v (.bool b)
def e0 : ByteArray := ⟨#[]⟩
def line0 : SLine := ⟨e0, 0, 0, 0, 0⟩
def src0 : SSrc := ⟨e0, 0, 0, 0, 0, 0⟩
def link0 : SLink := ⟨0, 0⟩
def bay0 : SBay := ⟨e0, 0, 0, 0, 0, 0, [], false, 0, 0, 0, 0⟩
def lineC (l : SLine) : List D := [dS l.name, dI l.r1, dI l.x1, dI l.r0, dI l.x0]
def srcC' (l : SSrc) : List D := [dS l.name, dI l.emf, dI l.r1, dI l.x1, dI l.r0, dI l.x0]
def linkC (l : SLink) : List D := [dI l.bus, dI l.pos]
abbrev linksD (l : List SLink) : D := listD 2 linkC link0 l
def bayC (b : SBay) : List D := [dS b.name, dI b.kind, dI b.off, dI b.fin, dI b.zr, dI b.zx, linksD b.links, dB b.closed, dI b.ct, dI b.vt, dI b.sat, dI b.travel]
def busC (s : ByteArray) : List D := [dS s]
abbrev busesD (l : List ByteArray) : D := listD 1 busC e0 l
abbrev linesD (l : List SLine) : D := listD 5 lineC line0 l
abbrev srcsD (l : List SSrc) : D := listD 6 srcC' src0 l
abbrev baysD (l : List SBay) : D := listD 12 bayC bay0 l
def staC (s : SSta) : List D := [dS s.name, busesD s.buses, linesD s.lines, srcsD s.srcs, baysD s.bays]
instance : Inhabited SLine := ⟨line0⟩
instance : Inhabited SSrc := ⟨src0⟩
instance : Inhabited SBay := ⟨bay0⟩

theorem dS_inj {a b : ByteArray} (h : DE (dS a) (dS b)) : a = b := by have := dv_inj h; simpa using this
theorem dI_inj {a b : Int} (h : DE (dI a) (dI b)) : a = b := by have := dv_inj h; simpa using this
theorem dB_inj {a b : Bool} (h : DE (dB a) (dB b)) : a = b := by have := dv_inj h; simpa using this
theorem busC_inj (a b : ByteArray) (h : DEs (busC a) (busC b)) : a = b := dS_inj (h.2 0 _ _ rfl rfl)
theorem lineC_inj (a b : SLine) (h : DEs (lineC a) (lineC b)) : a = b := by
  cases a; cases b
  have h0 := dS_inj (h.2 0 _ _ rfl rfl)
  have h1 := dI_inj (h.2 1 _ _ rfl rfl)
  have h2 := dI_inj (h.2 2 _ _ rfl rfl)
  have h3 := dI_inj (h.2 3 _ _ rfl rfl)
  have h4 := dI_inj (h.2 4 _ _ rfl rfl)
  simp only at h0 h1 h2 h3 h4
  rw [h0, h1, h2, h3, h4]
theorem srcC_inj (a b : SSrc) (h : DEs (srcC' a) (srcC' b)) : a = b := by
  cases a; cases b
  have h0 := dS_inj (h.2 0 _ _ rfl rfl)
  have h1 := dI_inj (h.2 1 _ _ rfl rfl)
  have h2 := dI_inj (h.2 2 _ _ rfl rfl)
  have h3 := dI_inj (h.2 3 _ _ rfl rfl)
  have h4 := dI_inj (h.2 4 _ _ rfl rfl)
  have h5 := dI_inj (h.2 5 _ _ rfl rfl)
  simp only at h0 h1 h2 h3 h4 h5
  rw [h0, h1, h2, h3, h4, h5]
theorem linkC_inj (a b : SLink) (h : DEs (linkC a) (linkC b)) : a = b := by
  cases a; cases b
  have h0 := dI_inj (h.2 0 _ _ rfl rfl)
  have h1 := dI_inj (h.2 1 _ _ rfl rfl)
  simp only at h0 h1
  rw [h0, h1]
theorem bayC_inj (a b : SBay) (h : DEs (bayC a) (bayC b)) : a = b := by
  cases a; cases b
  have h0 := dS_inj (h.2 0 _ _ rfl rfl)
  have h1 := dI_inj (h.2 1 _ _ rfl rfl)
  have h2 := dI_inj (h.2 2 _ _ rfl rfl)
  have h3 := dI_inj (h.2 3 _ _ rfl rfl)
  have h4 := dI_inj (h.2 4 _ _ rfl rfl)
  have h5 := dI_inj (h.2 5 _ _ rfl rfl)
  have h6 := listD_inj linkC_inj _ _ (h.2 6 _ _ rfl rfl)
  have h7 := dB_inj (h.2 7 _ _ rfl rfl)
  have h8 := dI_inj (h.2 8 _ _ rfl rfl)
  have h9 := dI_inj (h.2 9 _ _ rfl rfl)
  have h10 := dI_inj (h.2 10 _ _ rfl rfl)
  have h11 := dI_inj (h.2 11 _ _ rfl rfl)
  simp only at h0 h1 h2 h3 h4 h5 h6 h7 h8 h9 h10 h11
  rw [h0, h1, h2, h3, h4, h5, h6, h7, h8, h9, h10, h11]
theorem staC_inj (a b : SSta) (h : DEs (staC a) (staC b)) : a = b := by
  cases a; cases b
  have h0 := dS_inj (h.2 0 _ _ rfl rfl)
  have h1 := listD_inj busC_inj _ _ (h.2 1 _ _ rfl rfl)
  have h2 := listD_inj lineC_inj _ _ (h.2 2 _ _ rfl rfl)
  have h3 := listD_inj srcC_inj _ _ (h.2 3 _ _ rfl rfl)
  have h4 := listD_inj bayC_inj _ _ (h.2 4 _ _ rfl rfl)
  simp only at h0 h1 h2 h3 h4
  rw [h0, h1, h2, h3, h4]
instance : Inhabited SSta := ⟨⟨e0, [], [], [], []⟩⟩
abbrev aSta (s : SSta) : AV := .agg ((staC s).map .d)
abbrev aBay (b : SBay) : AV := .agg ((bayC b).map .d)
abbrev aLine (b : SLine) : AV := .agg ((lineC b).map .d)
abbrev aSrc (b : SSrc) : AV := .agg ((srcC' b).map .d)

/-! forms -/
abbrev RBay := ByteArray × Int × Int × Int × Int × Int × D × Bool × Int × Int × Int × Int × Unit
def bayD : Dec (List C) RBay := .cons .str (.cons .i64 (.cons .i64 (.cons .i64 (.cons .i64 (.cons .i64 (.cons .data (.cons .bool (.cons .i64 (.cons .i64 (.cons .i64 (.cons .i64 .nil)))))))))))
abbrev RLine := ByteArray × Int × Int × Int × Int × Unit
def lineD : Dec (List C) RLine := .cons .str (.cons .i64 (.cons .i64 (.cons .i64 (.cons .i64 .nil))))
abbrev RSrc := ByteArray × Int × Int × Int × Int × Int × Unit
def srcD : Dec (List C) RSrc := .cons .str (.cons .i64 (.cons .i64 (.cons .i64 (.cons .i64 (.cons .i64 .nil)))))
abbrev RSta := ByteArray × D × D × D × D × Unit
def staD : Dec (List C) RSta := .cons .str (.cons .data (.cons .data (.cons .data (.cons .data .nil))))
instance : Inhabited SLink := ⟨link0⟩
noncomputable def okLk (x : D) : Bool := okE linksD x && decide ((theE linksD x).length ≤ 9223372036854775807)
noncomputable def rbay (x : RBay) : SBay := ⟨x.1, x.2.1, x.2.2.1, x.2.2.2.1, x.2.2.2.2.1, x.2.2.2.2.2.1, theE linksD x.2.2.2.2.2.2.1, x.2.2.2.2.2.2.2.1, x.2.2.2.2.2.2.2.2.1, x.2.2.2.2.2.2.2.2.2.1, x.2.2.2.2.2.2.2.2.2.2.1, x.2.2.2.2.2.2.2.2.2.2.2.1⟩
def bayR (b : SBay) : RBay := (b.name, b.kind, b.off, b.fin, b.zr, b.zx, linksD b.links, b.closed, b.ct, b.vt, b.sat, b.travel, ())
noncomputable def okRB (x : RBay) : Bool := okLk x.2.2.2.2.2.2.1
theorem okLk_links {l : List SLink} (h : l.length ≤ 9223372036854775807) : okLk (linksD l) = true := by
  unfold okLk
  rw [(the_list linkC_inj l).1, (the_list linkC_inj l).2]
  simp only [Bool.true_and]
  exact decide_eq_true h
theorem rbay_bayR (b : SBay) : rbay (bayR b) = b := by
  unfold rbay bayR
  simp only [(the_list linkC_inj b.links).2]
theorem bay_le (x : RBay) (h : okRB x = true) : Ale (.agg (bayD.enc x)) (aBay (rbay x)) := by
  unfold okRB okLk at h
  simp only [Bool.and_eq_true] at h
  exact .cons (.refl _) (.cons (.refl _) (.cons (.refl _) (.cons (.refl _) (.cons (.refl _) (.cons (.refl _) (.cons (theE_de h.1) (.cons (.refl _) (.cons (.refl _) (.cons (.refl _) (.cons (.refl _) (.cons (.refl _) .nil)))))))))))

/-! Check -/
def letterB (c : UInt8) : Bool := (decide (65 ≤ (c.toNat : Int)) && decide ((c.toNat : Int) ≤ 90)) || (decide (97 ≤ (c.toNat : Int)) && decide ((c.toNat : Int) ≤ 122))
def otherB (c : UInt8) : Bool := (decide (48 ≤ (c.toNat : Int)) && decide ((c.toNat : Int) ≤ 57)) || (c.toNat : Int) == 95
def nmT : Nat → List UInt8 → Bool
  | _, [] => true
  | i, c :: r => (letterB c || (i != 0 && otherB c)) && nmT (i + 1) r
def nameOk (s : ByteArray) : Bool := !((s.size : Int) == 0) && (!decide ((s.size : Int) > 12) && nmT 0 s.data.toList)
def inB (l : List ByteArray) (s : ByteArray) : Bool := l.any fun t => s.data.toList == t.data.toList
/-- a name behind others -/
def namErr (l : List ByteArray) (s : ByteArray) : Int := bif !nameOk s then 7 else bif inB l s then 8 else 0
def within (n lo hi : Int) : Bool := decide (n ≥ lo) && decide (n ≤ hi)
def impOk (r x : Int) : Bool := within r 0 1000 && within x 1 1000
def lineErr (l : List ByteArray) (x : SLine) : Int := bif namErr l x.name != 0 then namErr l x.name else bif impOk x.r1 x.x1 && impOk x.r0 x.x0 then 0 else 2
def srcErr (l : List ByteArray) (x : SSrc) : Int := bif namErr l x.name != 0 then namErr l x.name else bif within x.emf 1 1000000 && (impOk x.r1 x.x1 && impOk x.r0 x.x0) then 0 else 2
def cntOf (nl ns : Nat) (k : Int) : Option Int := bif k == 1 then some nl else bif k == 2 then some ns else bif k == 3 then some 1 else none
def rngOk (b : SBay) : Bool :=
  (bif b.kind == 3 then impOk b.zr b.zx && b.vt == 0 else (b.zr == 0 && b.zx == 0) && within b.vt 1 10000) &&
    (within b.fin 0 (bif b.kind == 1 then 1 else 0) && (within b.ct 1 100 && (within b.sat 0 16383 && within b.travel 1 6)))
def clash (x y : SBay) : Bool := x.kind != 3 && (x.kind == y.kind && (x.off == y.off && x.fin == y.fin))
def linkErr (nb : Nat) (k : Int) : Option Int → List SLink → Int
  | _, [] => 0
  | p, l :: r => bif !within l.bus 0 ((nb : Int) - 1) then 9 else bif l.pos != 1 && (l.pos != 0 || k == 3) then 16 else bif p == some l.bus then 12 else linkErr nb k (some l.bus) r
def linksErr (nb : Nat) (b : SBay) : Int := bif decide (b.links.length < 1) || (decide (2 < b.links.length) || (b.kind == 3 && b.links.length != 2)) then 3 else linkErr nb b.kind none b.links
def bayErrD (nb nl ns : Nat) (dup : Bool) (before : List SBay) (b : SBay) : Int :=
  bif !nameOk b.name then 7 else bif dup then 8 else match cntOf nl ns b.kind with
    | none => 10
    | some c => bif !within b.off 0 (c - 1) then 9 else bif !rngOk b then 2 else bif before.any (clash b) then 12 else linksErr nb b
def bayErr (nb nl ns : Nat) (l : List ByteArray) (before : List SBay) (b : SBay) : Int := bayErrD nb nl ns (inB l b.name) before b
/-- elements are taken, one after the other, up to the first error; the error, what was taken -/
def takeN {α : Type} (nm : α → ByteArray) (f : List ByteArray → List α → α → Int) (N : List ByteArray) : List α → List α → Int × List α
  | before, [] => (0, before)
  | before, x :: r => bif f (N ++ before.map nm) before x != 0 then (f (N ++ before.map nm) before x, before) else takeN nm f N (before ++ [x]) r
theorem takeN_ok {α : Type} {nm : α → ByteArray} {f : List ByteArray → List α → α → Int} {N : List ByteArray} : ∀ (before l : List α), (takeN nm f N before l).1 = 0 → (takeN nm f N before l).2 = before ++ l
  | before, [], _ => by simp [takeN]
  | before, x :: r, h => by
    simp only [takeN] at h ⊢
    cases e : (f (N ++ before.map nm) before x != 0) with
    | true => rw [e] at h; simp only [cond_true] at h; rw [h] at e; simp at e
    | false => rw [e] at h; simp only [cond_false] at h ⊢; rw [takeN_ok _ r h]; simp
theorem takeN_len {α : Type} {nm : α → ByteArray} {f : List ByteArray → List α → α → Int} {N : List ByteArray} : ∀ (before l : List α), (takeN nm f N before l).2.length ≤ before.length + l.length
  | before, [] => by simp [takeN]
  | before, x :: r => by
    simp only [takeN]
    cases (f (N ++ before.map nm) before x != 0) with
    | true => simp
    | false => simp only [cond_false]; have := takeN_len (nm := nm) (f := f) (N := N) (before ++ [x]) r; simp at this ⊢; omega
def tBus (l : List ByteArray) := takeN id (fun N _ x => namErr N x) [] [] l
def tLine (N : List ByteArray) (l : List SLine) := takeN SLine.name (fun N _ x => lineErr N x) N [] l
def tSrc (N : List ByteArray) (l : List SSrc) := takeN SSrc.name (fun N _ x => srcErr N x) N [] l
def tBay (nb nl ns : Nat) (N : List ByteArray) (l : List SBay) := takeN SBay.name (fun N before x => bayErr nb nl ns N before x) N [] l
def cntBad (s : SSta) : Bool := s.buses.length == 0 || (decide (4 < s.buses.length) || (decide (6 < s.lines.length) || (decide (4 < s.srcs.length) || decide (16 < s.bays.length))))
def chkSta (s : SSta) : Int :=
  bif !nameOk s.name then 7 else
  bif cntBad s then 3 else
  bif (tBus s.buses).1 != 0 then (tBus s.buses).1 else
  bif (tLine s.buses s.lines).1 != 0 then (tLine s.buses s.lines).1 else
  bif (tSrc (s.buses ++ s.lines.map SLine.name) s.srcs).1 != 0 then (tSrc (s.buses ++ s.lines.map SLine.name) s.srcs).1 else
  (tBay s.buses.length s.lines.length s.srcs.length (s.buses ++ s.lines.map SLine.name ++ s.srcs.map SSrc.name) s.bays).1

/-! names in a map -/
def mapOf (l : List ByteArray) : List (Value × Value) := l.reverse.map fun s => (.string s, .bool true)
theorem mapOf_app (l : List ByteArray) (s : ByteArray) : mapOf (l ++ [s]) = (.string s, .bool true) :: mapOf l := by simp [mapOf]
theorem assoc_map (s : ByteArray) : ∀ l : List ByteArray, boolOf (assoc (l.map fun s => (Value.string s, Value.bool true)) (.string s)) = l.any fun t => s.data.toList == t.data.toList
  | [] => rfl
  | t :: r => by
    simp only [List.map_cons, assoc, sameK, List.any_cons]
    cases (s.data.toList == t.data.toList) with
    | true => rfl
    | false => simp only [cond_false, Bool.false_or]; exact assoc_map s r
theorem assoc_mapOf (l : List ByteArray) (s : ByteArray) : boolOf (assoc (mapOf l) (.string s)) = inB l s := by
  unfold mapOf inB
  rw [assoc_map, List.any_reverse]

/-- a loop that takes elements into a row and their names into a map -/
theorem first_loop {α : Type} {nm : α → ByteArray} {F : List ByteArray → List α → α → Int} {N : List ByteArray} {c : α → List D} {d0 : α} {l : List α} {L : Nat → List (Value × Value) → Nat → (Nat → List D) → Int → Option (T (AV × Hp))}
    {HX : List (Value × Value) → Nat → (Nat → List D) → Hp}
    (hst : ∀ (m k : Nat) (before : List α) (f : Nat → List D), k < l.length → before.length = k → RL c d0 k f before → ∃ f1 f2, RL c d0 (k + 1) f1 (before ++ [l.getD k d0]) ∧ RL c d0 k f2 before ∧ L (m + 1) (mapOf (N ++ before.map nm)) k f k =
      bif F (N ++ before.map nm) before (l.getD k d0) != 0 then some (.leaf (vI (F (N ++ before.map nm) before (l.getD k d0)), HX (mapOf (N ++ before.map nm)) k f2))
      else L m ((.string (nm (l.getD k d0)), .bool true) :: mapOf (N ++ before.map nm)) (k + 1) f1 ((k + 1 : Nat) : Int))
    (hend : ∀ m mp n f, L (m + 1) mp n f l.length = some (.leaf (vI 0, HX mp n f))) :
    ∀ (m k : Nat) (before : List α) (f : Nat → List D), k ≤ l.length → l.length - k < m → before.length = k → RL c d0 k f before →
      ∃ f', RL c d0 (takeN nm F N before (l.drop k)).2.length f' (takeN nm F N before (l.drop k)).2 ∧
        L m (mapOf (N ++ before.map nm)) k f k = some (.leaf (vI (takeN nm F N before (l.drop k)).1, HX (mapOf (N ++ (takeN nm F N before (l.drop k)).2.map nm)) (takeN nm F N before (l.drop k)).2.length f'))
  | 0, k, before, f, _, h, _, _ => by omega
  | m + 1, k, before, f, hk, h, hb, hr => by
    by_cases e : k = l.length
    · subst e
      rw [List.drop_of_length_le (Nat.le_refl _)]
      simp only [takeN]
      rw [hend, hb]
      exact ⟨f, hr, rfl⟩
    · have hlt : k < l.length := by omega
      obtain ⟨f1, f2, hr1, hr2, hst1⟩ := hst m k before f hlt hb hr
      rw [hst1, drop_at' (d := d0) hlt]
      simp only [takeN]
      cases hF : (F (N ++ before.map nm) before (l.getD k d0) != 0) with
      | true =>
        simp only [cond_true]
        rw [hb]
        exact ⟨f2, hr2, rfl⟩
      | false =>
        simp only [cond_false]
        have ih := first_loop hst hend m (k + 1) (before ++ [l.getD k d0]) f1 (by omega) (by omega) (by simp [hb]) hr1
        have e1 : N ++ (before ++ [l.getD k d0]).map nm = (N ++ before.map nm) ++ [nm (l.getD k d0)] := by simp
        rw [e1, mapOf_app] at ih
        exact ih

theorem mapOf_inj {a b : List ByteArray} (h : mapOf a = mapOf b) : a = b := by
  unfold mapOf at h
  have h2 := (List.map_inj_right (f := fun s : ByteArray => (Value.string s, Value.bool true)) (fun x y e => by simpa using e)).1 h
  exact List.reverse_inj.1 h2
noncomputable def okM (mp : List (Value × Value)) : Bool := @decide (∃ N, mp = mapOf N) (Classical.propDecidable _)
noncomputable def theM (mp : List (Value × Value)) : List ByteArray := @dite _ (∃ N, mp = mapOf N) (Classical.propDecidable _) (fun h => Classical.choose h) (fun _ => [])
theorem theM_spec {mp : List (Value × Value)} (h : okM mp = true) : mp = mapOf (theM mp) := by
  have h' : ∃ N, mp = mapOf N := by unfold okM at h; simpa using h
  unfold theM
  rw [dif_pos h']
  exact Classical.choose_spec h'
theorem okM_mapOf (N : List ByteArray) : okM (mapOf N) = true := by unfold okM; simp; exact ⟨N, rfl⟩
theorem theM_mapOf (N : List ByteArray) : theM (mapOf N) = N := (mapOf_inj (theM_spec (okM_mapOf N))).symm
end Go.Eb
