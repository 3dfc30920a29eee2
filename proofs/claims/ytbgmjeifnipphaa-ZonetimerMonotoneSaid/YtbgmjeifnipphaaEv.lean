/-
  An evaluator of Go code on abstract values, proved sound: what it computes is what every run of the model returns. No condition.
-/
import Derived.WalkKit
import Derived.Laws.StructEq
import Derived.ChangeKeysEq
import Derived.LoopN
import Derived.ProofKit
import Derived.ChangeOld
import Derived.OpenShut
namespace Go.Ev
open Go.RowKit

/-- immutable data of one cell: a plain value, or a slice (nil or not): its length, its elements' cells -/
inductive D where
  | v (x : Value)
  | sl (n : Nat) (f : Nat → List D)

/-- one cell: data, a pointer into a block of the evaluation's own (handle, offset), a pointer at immutable cells -/
inductive C where
  | d (x : D)
  | ptr (h off : Nat)
  | ip (cs : List D)

inductive AV where
  | c (x : C)
  | agg (cs : List C)
  | tup (vs : List (Bool × List C))
  | u

inductive Blk where
  | cells (cs : List C) (t : TypeId)

/-- what an operation does, once its operands are known -/
inductive Do where
  | val (x : AV)
  | load (h off n : Nat) (agg : Bool)
  | store (h off : Nat) (cs : List C)
  | alloc (cs : List C) (t : TypeId)
  | call (f : FuncId) (args : List AV)

/-- memory of the evaluation's own: blocks by their names -/
abbrev Hp := List (Nat × Blk)

structure St where
  F : List AV
  H : Hp
  nm : Nat

def look : Hp → Nat → Option Blk
  | [], _ => none
  | (h, b) :: r, k => bif Nat.beq k h then some b else look r k

def ins (h : Nat) (b : Blk) : Hp → Hp
  | [] => [(h, b)]
  | (k, c) :: r => bif Nat.ble h k then (bif Nat.beq h k then (h, b) :: r else (h, b) :: (k, c) :: r) else (k, c) :: ins h b r

theorem beqD (a b : Nat) : Nat.beq a b = decide (a = b) := by
  rw [Bool.eq_iff_iff, decide_eq_true_eq]
  exact ⟨Nat.eq_of_beq_eq_true, fun h => by subst h; exact Nat.beq_refl a⟩
theorem bleD (a b : Nat) : Nat.ble a b = decide (a ≤ b) := by
  rw [Bool.eq_iff_iff, decide_eq_true_eq]
  exact ⟨Nat.le_of_ble_eq_true, Nat.ble_eq_true_of_le⟩

theorem bltD (a b : Nat) : Nat.blt a b = decide (a < b) := by unfold Nat.blt; rw [bleD]; rfl

theorem look_ins (h k : Nat) (b : Blk) : ∀ H : Hp, look (ins h b H) k = if k = h then some b else look H k
  | [] => by
    by_cases e : k = h <;> simp [ins, look, beqD, e]
  | (m, c) :: r => by
    have ih := look_ins h k b r
    simp only [ins, beqD, bleD]
    by_cases h1 : h ≤ m
    · by_cases h2 : h = m
      · subst h2
        by_cases e : k = h <;> simp [look, beqD, e]
      · by_cases e : k = h <;> simp [look, beqD, e, h1, h2]
    · by_cases e : k = h
      · subst e
        have : ¬ k = m := by omega
        simp [look, beqD, h1, ih, this]
      · simp [look, beqD, h1, ih, e]

theorem ins_comm {h k : Nat} (hne : h ≠ k) (b c : Blk) : ∀ H : Hp, ins h b (ins k c H) = ins k c (ins h b H)
  | [] => by
    have hne' := Ne.symm hne
    simp only [ins, beqD, bleD]
    rcases Nat.lt_or_gt_of_ne hne with hlt | hlt
    · have a1 : h ≤ k := by omega
      have a2 : ¬ k ≤ h := by omega
      simp [a1, a2, hne]
    · have a1 : k ≤ h := by omega
      have a2 : ¬ h ≤ k := by omega
      simp [a1, a2, hne']
  | (m, d) :: r => by
    have ih := ins_comm hne b c r
    have hne' := Ne.symm hne
    simp only [ins, beqD, bleD]
    by_cases h1 : h ≤ m <;> by_cases h2 : k ≤ m <;> by_cases h3 : h = m <;> by_cases h4 : k = m <;> by_cases h5 : h ≤ k <;> by_cases h6 : k ≤ h <;> first
      | omega
      | (simp [ins, beqD, bleD, h1, h2, h3, h4, h5, h6, hne, hne', ih]; done)
      | (subst h3; have z : ¬ h ≤ k := by omega
         simp [ins, beqD, bleD, h2, z, hne, hne']; done)
      | (subst h4; have z : ¬ k ≤ h := by omega
         simp [ins, beqD, bleD, h1, z, hne, hne']; done)
      | (subst h3; have z : ¬ k ≤ h := by omega
         simp [ins, beqD, bleD, z, hne, hne']; done)
      | (subst h4; have z : ¬ h ≤ k := by omega
         simp [ins, beqD, bleD, z, hne, hne']; done)

abbrev one : Value → Bool := Value.oneCell'

/-- data in a world: every cell that is read lies in the set I -/
inductive RepD (w : World) (I : Nat → Nat → Prop) : D → Value → Prop
  | v (x : Value) (h : one x = true) : RepD w I (.v x) x
  | nil (f : Nat → List D) : RepD w I (.sl 0 f) (.slice none 0 0)
  | emp (f : Nat → List D) (a : Addr) (cap : Nat) : RepD w I (.sl 0 f) (.slice (some a) 0 cap)
  | sl (n : Nat) (f : Nat → List D) (sz b off cap : Nat) (g : Nat → Nat → Value) (hcap : n ≤ cap) (hsz : ∀ i, i < n → (f i).length = sz)
      (hc : ∀ i j d, i < n → (f i)[j]? = some d → w.cell? ⟨b, off + i * sz + j, none⟩ = some (g i j))
      (hi : ∀ i j d, i < n → (f i)[j]? = some d → I b (off + i * sz + j))
      (hr : ∀ i j d, i < n → (f i)[j]? = some d → RepD w I d (g i j)) : RepD w I (.sl n f) (.slice (some ⟨b, off, none⟩) n cap)

def RepC (β : Nat → Option Nat) (w : World) (I : Nat → Nat → Prop) : C → Value → Prop
  | .d x, v => RepD w I x v
  | .ptr h off, v => ∃ b, β h = some b ∧ v = .pointer (some ⟨b, off, none⟩)
  | .ip cs, v => ∃ b off, v = .pointer (some ⟨b, off, none⟩) ∧ ∀ (j : Nat) d, cs[j]? = some d → ∃ x, w.cell? ⟨b, off + j, none⟩ = some x ∧ I b (off + j) ∧ RepD w I d x

def RepCs (β : Nat → Option Nat) (w : World) (I : Nat → Nat → Prop) (cs : List C) (vs : List Value) : Prop :=
  cs.length = vs.length ∧ ∀ (i : Nat) c v, cs[i]? = some c → vs[i]? = some v → RepC β w I c v

def RepP (β : Nat → Option Nat) (w : World) (I : Nat → Nat → Prop) : Bool × List C → Value → Prop
  | (true, cs), v => ∃ vs, v = .agg vs ∧ RepCs β w I cs vs.toList
  | (false, cs), v => ∃ c, cs = [c] ∧ RepC β w I c v

def RepA (β : Nat → Option Nat) (w : World) (I : Nat → Nat → Prop) : AV → Value → Prop
  | .c x, v => RepC β w I x v
  | .agg cs, v => ∃ vs, v = .agg vs ∧ RepCs β w I cs vs.toList
  | .tup ps, v => ∃ vs, v = .tuple vs ∧ ps.length = vs.size ∧ ∀ (i : Nat) p x, ps[i]? = some p → vs[i]? = some x → RepP β w I p x
  | .u, _ => True

def RepF (β : Nat → Option Nat) (w : World) (I : Nat → Nat → Prop) (F : List AV) (vs : Array Value) : Prop :=
  F.length = vs.size ∧ ∀ (i : Nat) x v, F[i]? = some x → vs[i]? = some v → RepA β w I x v

structure RelH (β : Nat → Option Nat) (H : Hp) (I : Nat → Nat → Prop) (w : World) : Prop where
  inj : ∀ (i j b : Nat), β i = some b → β j = some b → i = j
  blk : ∀ (h : Nat) cs t, look H h = some (.cells cs t) → ∃ b vs, β h = some b ∧ w.heap[b]? = some (.cells vs t (0, 0)) ∧ RepCs β w I cs vs.toList
  lt : ∀ (h b : Nat), β h = some b → b < w.heap.size
  off : ∀ (h b o : Nat), β h = some b → ¬ I b o
  old : ∀ b o, I b o → b < w.heap.size

structure Ext (β : Nat → Option Nat) (I : Nat → Nat → Prop) (β' : Nat → Option Nat) (I' : Nat → Nat → Prop) (w w' : World) : Prop where
  os : w'.os = w.os
  tape : w'.tape = w.tape
  output : w'.output = w.output
  size : w.heap.size ≤ w'.heap.size
  block : ∀ b, b < w.heap.size → (∀ h, β h ≠ some b) → w'.heap[b]? = w.heap[b]?
  keepI : ∀ b o, I b o → I' b o
  cell : ∀ b o, I b o → w'.cell? ⟨b, o, none⟩ = w.cell? ⟨b, o, none⟩
  newI : ∀ b o, I' b o → I b o ∨ w.heap.size ≤ b ∨ ∃ h, β h = some b
  newB : ∀ h b, β' h = some b → (∃ k, β k = some b) ∨ w.heap.size ≤ b

theorem Ext.refl (β : Nat → Option Nat) (I : Nat → Nat → Prop) (w : World) : Ext β I β I w w :=
  ⟨rfl, rfl, rfl, Nat.le_refl _, fun _ _ _ => rfl, fun _ _ h => h, fun _ _ _ => rfl, fun _ _ h => .inl h, fun h _ hb => .inl ⟨h, hb⟩⟩

theorem Ext.trans {β β₁ β₂ : Nat → Option Nat} {I I₁ I₂ : Nat → Nat → Prop} {w w₁ w₂ : World} (h : Ext β I β₁ I₁ w w₁) (k : Ext β₁ I₁ β₂ I₂ w₁ w₂) : Ext β I β₂ I₂ w w₂ where
  os := k.os.trans h.os
  tape := k.tape.trans h.tape
  output := k.output.trans h.output
  size := Nat.le_trans h.size k.size
  block b hb hn := by
    rw [k.block b (Nat.lt_of_lt_of_le hb h.size) (fun x hx => (h.newB x b hx).elim (fun ⟨y, hy⟩ => hn y hy) (fun hle => by omega)), h.block b hb hn]
  keepI b o hi := k.keepI b o (h.keepI b o hi)
  cell b o hi := (k.cell b o (h.keepI b o hi)).trans (h.cell b o hi)
  newI b o hi := by
    rcases k.newI b o hi with h1 | h1 | ⟨x, h1⟩
    · exact h.newI b o h1
    · exact .inr (.inl (Nat.le_trans h.size h1))
    · rcases h.newB x b h1 with h2 | h2
      · exact .inr (.inr h2)
      · exact .inr (.inl h2)
  newB x b hb := by
    rcases k.newB x b hb with ⟨y, h1⟩ | h1
    · exact h.newB y b h1
    · exact .inr (Nat.le_trans h.size h1)

/-- data stands where the cells of I stand -/
theorem RepD.keep {w w' : World} {I I' : Nat → Nat → Prop} (hI : ∀ b o, I b o → I' b o) (hc : ∀ b o, I b o → w'.cell? ⟨b, o, none⟩ = w.cell? ⟨b, o, none⟩) {x : D} {v : Value}
    (h : RepD w I x v) : RepD w' I' x v := by
  induction h with
  | v x h => exact .v x h
  | nil f => exact .nil f
  | emp f a cap => exact .emp f a cap
  | sl n f sz b off cap g hcap hsz hcell hi hr ih =>
    exact .sl n f sz b off cap g hcap hsz (fun i j d hin hj => (hc _ _ (hi i j d hin hj)).trans (hcell i j d hin hj)) (fun i j d hin hj => hI _ _ (hi i j d hin hj)) (fun i j d hin hj => ih i j d hin hj)

theorem RepC.keep {β β' : Nat → Option Nat} {w w' : World} {I I' : Nat → Nat → Prop} (hI : ∀ b o, I b o → I' b o) (hc : ∀ b o, I b o → w'.cell? ⟨b, o, none⟩ = w.cell? ⟨b, o, none⟩)
    (hB : ∀ (h b : Nat), β h = some b → β' h = some b) {x : C} {v : Value} (h : RepC β w I x v) : RepC β' w' I' x v := by
  cases x with
  | d x => exact RepD.keep hI hc h
  | ptr k off => obtain ⟨b, hb, hv⟩ := h; exact ⟨b, hB _ _ hb, hv⟩
  | ip cs =>
    obtain ⟨b, off, hv, hj⟩ := h
    refine ⟨b, off, hv, fun j d hd => ?_⟩
    obtain ⟨x, h1, h2, h3⟩ := hj j d hd
    exact ⟨x, (hc _ _ h2).trans h1, hI _ _ h2, RepD.keep hI hc h3⟩

theorem RepCs.keep {β β' : Nat → Option Nat} {w w' : World} {I I' : Nat → Nat → Prop} (hI : ∀ b o, I b o → I' b o) (hc : ∀ b o, I b o → w'.cell? ⟨b, o, none⟩ = w.cell? ⟨b, o, none⟩)
    (hB : ∀ (h b : Nat), β h = some b → β' h = some b) {cs : List C} {vs : List Value} (h : RepCs β w I cs vs) : RepCs β' w' I' cs vs :=
  ⟨h.1, fun i c v h1 h2 => RepC.keep hI hc hB (h.2 i c v h1 h2)⟩

theorem RepP.keep {β β' : Nat → Option Nat} {w w' : World} {I I' : Nat → Nat → Prop} (hI : ∀ b o, I b o → I' b o) (hc : ∀ b o, I b o → w'.cell? ⟨b, o, none⟩ = w.cell? ⟨b, o, none⟩)
    (hB : ∀ (h b : Nat), β h = some b → β' h = some b) {p : Bool × List C} {v : Value} (h : RepP β w I p v) : RepP β' w' I' p v := by
  obtain ⟨t, cs⟩ := p
  cases t with
  | true => obtain ⟨vs, hv, hr⟩ := h; exact ⟨vs, hv, hr.keep hI hc hB⟩
  | false => obtain ⟨c, hcs, hr⟩ := h; exact ⟨c, hcs, hr.keep hI hc hB⟩

theorem RepA.keep {β β' : Nat → Option Nat} {w w' : World} {I I' : Nat → Nat → Prop} (hI : ∀ b o, I b o → I' b o) (hc : ∀ b o, I b o → w'.cell? ⟨b, o, none⟩ = w.cell? ⟨b, o, none⟩)
    (hB : ∀ (h b : Nat), β h = some b → β' h = some b) {x : AV} {v : Value} (h : RepA β w I x v) : RepA β' w' I' x v := by
  cases x with
  | c x => exact RepC.keep hI hc hB h
  | agg cs => obtain ⟨vs, hv, hr⟩ := h; exact ⟨vs, hv, hr.keep hI hc hB⟩
  | tup ps => obtain ⟨vs, hv, hl, hr⟩ := h; exact ⟨vs, hv, hl, fun i p x h1 h2 => (hr i p x h1 h2).keep hI hc hB⟩
  | u => trivial

theorem Ext.repA {β β' : Nat → Option Nat} {I I' : Nat → Nat → Prop} {w w' : World} (h : Ext β I β' I' w w') (hB : ∀ (h b : Nat), β h = some b → β' h = some b) {x : AV} {v : Value} (hr : RepA β w I x v) : RepA β' w' I' x v :=
  hr.keep h.keepI h.cell hB

theorem Ext.repF {β β' : Nat → Option Nat} {I I' : Nat → Nat → Prop} {w w' : World} (h : Ext β I β' I' w w') (hB : ∀ (h b : Nat), β h = some b → β' h = some b) {F : List AV} {vs : Array Value} (hr : RepF β w I F vs) : RepF β' w' I' F vs :=
  ⟨hr.1, fun i x v h1 h2 => h.repA hB (hr.2 i x v h1 h2)⟩

/-- a call of function f at these arguments and this memory comes back with this result and this memory -/
def CR (P : Program) (f : FuncId) (args : List AV) (H : Hp) (r : AV) (H' : Hp) : Prop :=
  ∀ (β : Nat → Option Nat) (I : Nat → Nat → Prop) (w : World) (vs : Array Value), (∀ h, look H h = none → β h = none) → RelH β H I w → RepF β w I args vs →
    Calls P f vs w fun e w' => ∃ v β' I', e = .returned v ∧ RelH β' H' I' w' ∧ RepA β' w' I' r v ∧ Ext β I β' I' w w'

def cClosed : C → Bool
  | .ptr _ _ => false
  | _ => true

def closed : AV → Bool
  | .c x => cClosed x
  | .agg cs => cs.all cClosed
  | .tup ps => ps.all fun p => p.2.all cClosed
  | .u => false

theorem RepC.any {β β' : Nat → Option Nat} {w : World} {I : Nat → Nat → Prop} {x : C} {v : Value} (hx : cClosed x = true) (h : RepC β w I x v) : RepC β' w I x v := by
  cases x with
  | d x => exact h
  | ptr k off => simp [cClosed] at hx
  | ip cs => exact h

theorem RepCs.any {β β' : Nat → Option Nat} {w : World} {I : Nat → Nat → Prop} {cs : List C} {vs : List Value} (hx : cs.all cClosed = true) (h : RepCs β w I cs vs) : RepCs β' w I cs vs :=
  ⟨h.1, fun i c v h1 h2 => (h.2 i c v h1 h2).any (List.all_eq_true.1 hx c (List.mem_of_getElem? h1))⟩

theorem RepP.any {β β' : Nat → Option Nat} {w : World} {I : Nat → Nat → Prop} {p : Bool × List C} {v : Value} (hx : p.2.all cClosed = true) (h : RepP β w I p v) : RepP β' w I p v := by
  obtain ⟨t, cs⟩ := p
  cases t with
  | true => obtain ⟨vs, hv, hr⟩ := h; exact ⟨vs, hv, hr.any hx⟩
  | false =>
    obtain ⟨c, hcs, hr⟩ := h
    have hcs' : cs = [c] := hcs
    subst hcs'
    exact ⟨c, rfl, hr.any (by simpa using hx)⟩

theorem RepA.any {β β' : Nat → Option Nat} {w : World} {I : Nat → Nat → Prop} {x : AV} {v : Value} (hx : closed x = true) (h : RepA β w I x v) : RepA β' w I x v := by
  cases x with
  | c x => exact RepC.any hx h
  | agg cs => obtain ⟨vs, hv, hr⟩ := h; exact ⟨vs, hv, hr.any hx⟩
  | tup ps =>
    obtain ⟨vs, hv, hl, hr⟩ := h
    exact ⟨vs, hv, hl, fun i p x h1 h2 => (hr i p x h1 h2).any (List.all_eq_true.1 hx p (List.mem_of_getElem? h1))⟩
  | u => trivial
end Go.Ev
namespace Go.Ev
open Go.RowKit

/-- the run of what depends on no memory -/
def pr {α : Type} (p : Program) : Sem α → Option α
  | .pure a => some a
  | .program k => pr p (k p)
  | .load .. | .store .. | .new .. | .shape .. | .freeze .. | .frozen .. | .getObj .. | .setObj .. | .choose .. | .sys .. | .mark .. | .halt _ => none

theorem pr_run {α : Type} (p : Program) (s : Sem α) : ∀ (a : α), pr p s = some a → ∀ w, s.run p w = .ok a w := by
  induction s with
  | pure a => intro b h w; simp [pr] at h; subst h; rfl
  | program k ih => intro b h w; exact ih p b h w
  | _ => intro b h; simp [pr] at h

/-- a plain value as a cell -/
def absD : Value → Option D
  | .slice none 0 0 => some (.sl 0 fun _ => [])
  | .bool b => some (.v (.bool b))
  | .int k n => some (.v (.int k n))
  | .string s => some (.v (.string s))
  | .pointer none => some (.v (.pointer none))
  | .map none => some (.v (.map none))
  | .nilFunc => some (.v .nilFunc)
  | .nilIface => some (.v .nilIface)
  | .func (.func f) ⟨[]⟩ ⟨[]⟩ => some (.v (.func (.func f) #[] #[]))
  | _ => none

def absDs : List Value → Option (List C)
  | [] => some []
  | x :: r => match absD x, absDs r with
    | some d, some l => some (.d d :: l)
    | _, _ => none

def absA : Value → AV
  | .agg cs => match absDs cs.toList with | some l => .agg l | none => .u
  | x => match absD x with | some d => .c (.d d) | none => .u

def opA (F : List AV) : Operand → AV
  | .tmp t => F.getD t .u
  | .const v => absA v
  | .global _ => .u
  | .func f => .c (.d (.v (.func (.func f) #[] #[])))

def put (F : List AV) (dst : Option Nat) (x : AV) : List AV := match dst with | some d => F.set d x | none => F

def wantedA (ops : Array Oper) (F : List AV) (o : Oper) : Option Bool :=
  match o.guard with
  | none => some true
  | some (j, want) => match (ops[j]?).bind (·.dst) with
    | none => some false
    | some t => match F.getD t .u with
      | .c (.d (.v (.bool b))) => some (bif want then b else !b)
      | .tup [] => some false
      | _ => none

def cellsOf : AV → Option (List C)
  | .c x => some [x]
  | .agg cs => some cs
  | _ => none

/-- is a type a struct or an array? its cells -/
def aggT (P : Program) (t : TypeId) : Option Bool := match P.underlying t with | some (.struct _) => some true | some (.array _ _) => some true | some _ => some false | none => none
def sizeT (P : Program) (t : TypeId) : Option Nat := (P.info? t).map (·.size)
def zeroT (P : Program) (t : TypeId) : Option (List C) := match (P.info? t).bind (·.zero) with | some z => absDs z.cells.toList | none => none

def splice (cs : List C) (off : Nat) (new : List C) : List C := cs.take off ++ new ++ cs.drop (off + new.length)

def placesT (P : Program) : List Field → Option (List (Nat × Nat))
  | [] => some []
  | f :: r => match sizeT P f.type, placesT P r with
    | some s, some l => some ((f.offset, s) :: l)
    | _, _ => none

def fillA (place : Nat → Option (Nat × Nat)) (cells : List C) : List (Nat × AV) → Option (List C)
  | [] => some cells
  | (i, x) :: rest => match place i, cellsOf x with
    | some (off, size), some cs => if cs.length = size ∧ off + cs.length ≤ cells.length then fillA place (splice cells off cs) rest else none
    | _, _ => none

def loadL (l : List C) (off n : Nat) (agg : Bool) : Option AV :=
  if off + n ≤ l.length then (if agg then some (.agg ((l.drop off).take n)) else (l[off]?).map .c) else none

/-- equality at an array: n elements of s cells each -/
def eqN (eq : List C → List C → Option Bool) (s : Nat) : Nat → List C → List C → Option Bool
  | 0, [], [] => some true
  | n + 1, xs, ys => match eq (xs.take s) (ys.take s), eqN eq s n (xs.drop s) (ys.drop s) with
    | some a, some b => some (a && b)
    | _, _ => none
  | _, _, _ => none

/-- equality at a struct, field by field -/
def eqFs (eq : TypeId → List C → List C → Option Bool) (P : Program) : List Field → Nat → List C → List C → Option Bool
  | [], _, [], [] => some true
  | f :: r, off, xs, ys => match sizeT P f.type, (aggT P f.type).isSome with
    | some s, true => if f.offset = off ∧ f.name ≠ "_" then (match eq f.type (xs.take s) (ys.take s), eqFs eq P r (off + s) (xs.drop s) (ys.drop s) with
        | some a, some b => some (a && b)
        | _, _ => none) else none
    | _, _ => none
  | _, _, _, _ => none

/-- equality of two values of a type whose cells are booleans, integers and strings -/
def eqT (P : Program) : Nat → TypeId → List C → List C → Option Bool
  | 0, _, _, _ => none
  | d + 1, t, xs, ys => match P.underlying t with
    | some .bool => (match xs, ys with | [.d (.v (.bool a))], [.d (.v (.bool b))] => some (a == b) | _, _ => none)
    | some (.int _) => (match xs, ys with | [.d (.v (.int k a))], [.d (.v (.int k' b))] => if k = k' then some (a == b) else none | _, _ => none)
    | some .string => (match xs, ys with | [.d (.v (.string a))], [.d (.v (.string b))] => some (a.toList == b.toList) | _, _ => none)
    | some (.array n e) => (match sizeT P e, (aggT P e).isSome with | some s, true => eqN (eqT P d e) s n xs ys | _, _ => none)
    | some (.struct fs) => if P.stoodInHeld t then none else eqFs (eqT P d) P fs.toList 0 xs ys
    | _ => none

def val1 (x : Value) : Option (Bool × Do) := match absD x with | some d => some (true, .val (.c (.d d))) | none => none

def res (P : Program) (o : Oper) (ρ : Operand → AV) : Option (Bool × Do) :=
  match o.op with
  | .move x => some (true, .val (ρ x))
  | .assign x => some (true, .val (ρ x))
  | .pick c a b => match ρ c with
    | .c (.d (.v (.bool t))) => some (true, .val (bif t then ρ a else ρ b))
    | _ => none
  | .alloc e => match zeroT P e with | some cs => some (true, .alloc cs e) | none => none
  | .box e x => match cellsOf (ρ x) with | some cs => some (true, .alloc cs e) | none => none
  | .build t parts => match P.underlying t, zeroT P t with
    | some (.struct fields), some z => match placesT P fields.toList with
      | some ps => (match fillA (fun i => ps[i]?) z (parts.toList.map fun p => (p.1, ρ p.2)) with
        | some cs => some (true, .val (.agg cs))
        | none => none)
      | none => none
    | some (.array _ e), some z => match sizeT P e with
      | some s => (match fillA (fun i => some (i * s, s)) z (parts.toList.map fun p => (p.1, ρ p.2)) with
        | some cs => some (true, .val (.agg cs))
        | none => none)
      | none => none
    | _, _ => none
  | .load t a => match aggT P t, sizeT P t with
    | some ag, some n => match ρ a with
      | .c (.ptr h off) => some (true, .load h off (bif ag then n else 1) ag)
      | .c (.ip l) => (match loadL (l.map .d) 0 (bif ag then n else 1) ag with | some x => some (true, .val x) | none => none)
      | _ => none
    | _, _ => none
  | .store t a x => match sizeT P t, ρ a, cellsOf (ρ x) with
    | some n, .c (.ptr h off), some cs => if cs.length = n then some (true, .store h off cs) else none
    | _, _, _ => none
  | .nilCheck x => match ρ x with
    | .c (.ptr h off) => some (true, .val (.c (.ptr h off)))
    | .c (.ip l) => some (true, .val (.c (.ip l)))
    | _ => none
  | .binOp op t x y _ => match ρ x, ρ y with
    | .c (.d (.v a)), .c (.d (.v b)) => match pr P (do eqGuard op t x y a b; binOp op t a b) with
      | some r => val1 r
      | none => none
    | .agg xs, .agg ys => match op with
      | .eql => (match eqT P 50 t xs ys with
        | some r => if P.eqGuardType P.depth t = false ∧ aggT P t = some true then val1 (.bool r) else none
        | none => none)
      | .neq => (match eqT P 50 t xs ys with
        | some r => if P.eqGuardType P.depth t = false ∧ aggT P t = some true then val1 (.bool !r) else none
        | none => none)
      | _ => none
    | _, _ => none
  | .unOp op _ x => match ρ x with
    | .c (.d (.v a)) => (match pr P (Op.unary op a) with | some r => val1 r | none => none)
    | _ => none
  | .convert s t x => match ρ x with
    | .c (.d (.v a)) => (match pr P (Go.convert s t a) with | some r => val1 r | none => none)
    | _ => none
  | .fieldAddr s x f => match P.underlying s with
    | some (.struct fields) => match fields[f]? with
      | some fd => (match sizeT P fd.type with
        | some (_ + 1) => (match ρ x with
          | .c (.ptr h off) => some (true, .val (.c (.ptr h (off + fd.offset))))
          | .c (.ip l) => some (true, .val (.c (.ip (l.drop fd.offset))))
          | _ => none)
        | _ => none)
      | none => none
    | _ => none
  | .field t x f => match P.underlying t with
    | some (.struct fields) => match fields[f]? with
      | some fd => (match aggT P fd.type, sizeT P fd.type, ρ x with
        | some ag, some n, .agg cs => (match loadL cs fd.offset (bif ag then n else 1) ag with | some y => some (true, .val y) | none => none)
        | _, _, _ => none)
      | none => none
    | _ => none
  | .indexAddr t x i => match ρ i with
    | .c (.d (.v (.int _ n))) => (match P.underlying t, ρ x with
      | some (.array len e), .c (.ptr h off) => (match sizeT P e with
        | some s => some (decide (0 ≤ n) && decide (n < len), .val (.c (.ptr h (off + n.toNat * s))))
        | none => none)
      | some (.slice e), .c (.d (.sl len f)) => (match sizeT P e with
        | some s => some (decide (0 ≤ n) && decide (n < len) && Nat.beq (f n.toNat).length s, .val (.c (.ip (f n.toNat))))
        | none => none)
      | _, _ => none)
    | _ => none
  | .index t x i => match ρ i with
    | .c (.d (.v (.int _ n))) => (match P.underlying t, ρ x with
      | some .string, .c (.d (.v (.string s))) => some (decide (0 ≤ n) && decide (n < s.size), .val (.c (.d (.v (.int .u8 (s.data.toList.getD n.toNat 0).toNat)))))
      | some (.array len e), .agg cs => (match aggT P e, sizeT P e with
        | some ag, some sz => (match loadL cs (n.toNat * sz) (bif ag then sz else 1) ag with | some y => some (decide (0 ≤ n) && decide (n < len), .val y) | none => none)
        | _, _ => none)
      | _, _ => none)
    | _ => none
  | .extract x i => match ρ x with
    | .tup ps => (match ps[i]? with
      | some (true, cs) => some (true, .val (.agg cs))
      | some (false, [c]) => some (true, .val (.c c))
      | _ => none)
    | _ => none
  | .call c => match c.callee with
    | .value g => (match ρ g with
      | .c (.d (.v (.func (.func f) ⟨[]⟩ ⟨[]⟩))) => (match P.funcs[f]? with
        | some fn => if fn.body.isSome ∧ fn.name ≠ "runtime.NumGoroutine" then some (true, .call f (c.args.toList.map ρ)) else none
        | none => none)
      | _ => none)
    | .builtin .len => (match c.argTypes[0]?, c.args[0]? with
      | some t, some x => (match P.underlying t, ρ x with
        | some .string, .c (.d (.v (.string s))) => some (true, .val (.c (.d (.v (.int .i64 s.size)))))
        | some (.slice _), .c (.d (.sl n _)) => some (true, .val (.c (.d (.v (.int .i64 n)))))
        | some (.array n _), _ => some (true, .val (.c (.d (.v (.int .i64 n)))))
        | _, _ => none)
      | _, _ => none)
    | .builtin .min => (match c.args.toList.map ρ with
      | [.c (.d (.v (.int k a))), .c (.d (.v (.int _ b)))] => some (true, .val (.c (.d (.v (.int k (if b < a then b else a))))))
      | _ => none)
    | .builtin .max => (match c.args.toList.map ρ with
      | [.c (.d (.v (.int k a))), .c (.d (.v (.int _ b)))] => some (true, .val (.c (.d (.v (.int k (if b > a then b else a))))))
      | _ => none)
    | _ => none
  | _ => none

def loadH (H : Hp) (h off n : Nat) (agg : Bool) : Option AV := match look H h with | some (.cells cs _) => loadL cs off n agg | none => none
def storeH (H : Hp) (h off : Nat) (new : List C) : Option Hp :=
  match look H h with
  | some (.cells cs t) => if off + new.length ≤ cs.length then some (ins h (.cells (splice cs off new) t) H) else none
  | none => none

/-- calls by contract: the continuation takes the result -/
abbrev Orc := (R : Type) → FuncId → List AV → (AV → Option R) → Option R

def perfK {R : Type} (orc : Orc) (h0 : Nat) (a : Do) (H : Hp) (k : AV → Hp → Option R) : Option R :=
  match a with
  | .val x => k x H
  | .load h off n ag => match loadH H h off n ag with | some x => k x H | none => none
  | .store h off cs => match storeH H h off cs with | some H' => k (.tup []) H' | none => none
  | .alloc cs t => k (.c (.ptr h0 0)) (ins h0 (.cells cs t) H)
  | .call f args => bif args.all closed then orc R f args (fun r => bif closed r then k r H else none) else none

/-- a guarded operation: each way knows the guard's value -/
def guardK {R : Type} (ops : Array Oper) (F : List AV) (o : Oper) (yes no : List AV → Option R) : Option R :=
  match o.guard with
  | none => yes F
  | some (j, want) => match (ops[j]?).bind (·.dst) with
    | none => no F
    | some t => match F.getD t .u with
      | .c (.d (.v (.bool b))) => bif b then (bif want then yes (F.set t (.c (.d (.v (.bool true))))) else no (F.set t (.c (.d (.v (.bool true))))))
          else (bif want then no (F.set t (.c (.d (.v (.bool false))))) else yes (F.set t (.c (.d (.v (.bool false))))))
      | .tup [] => no F
      | _ => none

/-- one operation; the continuation takes what was done -/
def stepK {R : Type} (P : Program) (orc : Orc) (ops : Array Oper) (i : Nat) (s : St) (k : Option Do → St → Option R) : Option R :=
  match ops[i]? with
  | none => none
  | some o => guardK ops s.F o
      (fun F => match res P o (opA F) with
        | none => none
        | some (ok, a) => bif ok then perfK orc (s.nm + i) a s.H (fun x H => k (some a) ⟨put F o.dst x, H, s.nm⟩) else none)
      (fun F => k none ⟨put F o.dst (.tup []), s.H, s.nm⟩)

def opsK {R : Type} (P : Program) (orc : Orc) (ops : Array Oper) : List Nat → List (Nat × Option Do) → St → (List (Nat × Option Do) → St → Option R) → Option R
  | [], tr, s, k => k tr s
  | i :: rest, tr, s, k => stepK P orc ops i s fun a s' => opsK P orc ops rest (tr ++ [(i, a)]) s' k

/-- of each operation: which lie ahead of it by the edges -/
def mask (acc : List Nat) (o : Oper) : Nat := o.after.toList.foldl (fun s e => bif Region.binds .any e then s ||| (2 ^ e.on ||| acc.getD e.on 0) else s) 0
def masks (l : List Oper) (acc : List Nat) : List Nat := match l with
  | [] => acc
  | o :: r => masks r (acc ++ [mask acc o])

def indepD (h h' : Nat) : Option Do → Option Do → Bool
  | none, _ => true
  | _, none => true
  | some (.val _), _ => true
  | _, some (.val _) => true
  | some (.call ..), _ => true
  | _, some (.call ..) => true
  | some (.load ..), some (.load ..) => true
  | some (.load a ..), some (.store b ..) => a != b
  | some (.store a ..), some (.load b ..) => a != b
  | some (.store a ..), some (.store b ..) => a != b
  | some (.load a ..), some (.alloc ..) => a != h'
  | some (.store a ..), some (.alloc ..) => a != h'
  | some (.alloc ..), some (.load b ..) => h != b
  | some (.alloc ..), some (.store b ..) => h != b
  | some (.alloc ..), some (.alloc ..) => h != h'

def indep (ops : Array Oper) (nm : Nat) (x y : Nat × Option Do) : Bool :=
  match ops[x.1]?, ops[y.1]? with
  | some o, some p => o.apart ops p && indepD (nm + x.1) (nm + y.1) x.2 y.2
  | _, _ => false

/-- every two operations that the edges leave open are independent -/
def commutes (ops : Array Oper) (nm : Nat) (ms : List Nat) : List (Nat × Option Do) → Bool
  | [] => true
  | x :: r => r.all (fun y => (ms.getD y.1 0).testBit x.1 || indep ops nm x y) && commutes ops nm ms r

/-- every edge goes back -/
def edgesDown (ops : Array Oper) : Bool := ops.toList.zipIdx.all fun p => p.1.after.toList.all fun e => !Region.binds .any e || decide (e.on < p.2)

inductive Out where
  | norm
  | exit (id : Nat)
  | ret

/-- names below a number alone -/
def cBelow (n : Nat) : C → Bool
  | .ptr h _ => Nat.blt h n
  | _ => true
def aBelow (n : Nat) : AV → Bool
  | .c x => cBelow n x
  | .agg cs => cs.all (cBelow n)
  | .tup ps => ps.all fun p => p.2.all (cBelow n)
  | .u => true
def keepF (keep : List Nat) : Nat → List AV → List AV
  | _, [] => []
  | i, x :: r => (bif keep.contains i then x else .u) :: keepF keep (i + 1) r
/-- a loop's head: slots that are dead and blocks that were made since are let go -/
def trim (keep : Option (List Nat)) (nm0 : Nat) (s : St) : Option St := match keep with
  | none => some s
  | some l =>
    let F := keepF l 0 s.F
    let H := s.H.filter fun p => Nat.blt p.1 nm0
    bif F.all (aBelow nm0) && H.all (fun p => match p.2 with | .cells cs _ => cs.all (cBelow nm0)) then some ⟨F, H, nm0⟩ else none

def iterK {R : Type} (keep : Option (List Nat)) (nm0 : Nat) (body : St → (Out → St → Option R) → Option R) : Nat → St → (Out → St → Option R) → Option R
  | 0, _, _ => none
  | n + 1, s, k => body s fun o s' => match o with
    | .norm => (match trim keep nm0 s' with
      | none => none
      | some s0 => iterK keep nm0 body n s0 k)
    | .exit id => k (.exit id) s'
    | .ret => k .ret s'

def regionK {R : Type} (P : Program) (orc : Orc) (ops : Array Oper) (draw : Bool) (s : St) (k : Out → St → Option R) : Option R :=
  opsK P orc ops (List.range ops.size) [] s fun tr s' =>
    bif !draw || (commutes ops s.nm (masks ops.toList []) tr && edgesDown ops && P.follows .mixedOrders) then k .norm ⟨s'.F, s'.H, s.nm + ops.size⟩ else none

/-- the number of the first region of a piece of code -/
def firstR : Code → Option Nat
  | .region id _ _ => some id
  | .seq a b => match firstR a with | some i => some i | none => firstR b
  | .block _ c => firstR c
  | .loop c => firstR c
  | _ => none

/-- which slots a loop keeps, by the number of its first region -/
abbrev Ann := Nat → Option (List Nat)

def evK {R : Type} (P : Program) (orc : Orc) (ann : Ann) (n : Nat) : Code → St → (Out → St → Option R) → Option R
  | .skip, s, k => k .norm s
  | .region _ ops draw, s, k => regionK P orc ops draw s k
  | .seq a b, s, k => evK P orc ann n a s fun o s' => match o with
    | .norm => evK P orc ann n b s' k
    | .exit id => k (.exit id) s'
    | .ret => k .ret s'
  | .cond c x y, s, k => match opA s.F c with
    | .c (.d (.v (.bool b))) => bif b then evK P orc ann n x s k else evK P orc ann n y s k
    | _ => none
  | .block id c, s, k => evK P orc ann n c s fun o s' => match o with
    | .norm => k .norm s'
    | .exit j => bif j == id then k .norm s' else k (.exit j) s'
    | .ret => k .ret s'
  | .loop c, s, k => (match trim ((firstR c).bind ann) s.nm s with
    | none => none
    | some s0 => iterK ((firstR c).bind ann) s.nm (fun s' k' => evK P orc ann n c s' k') n s0 k)
  | .exit id, s, k => k (.exit id) s
  | .ret, s, k => k .ret s
  | _, _, _ => none

def resultsA (P : Program) (fn : Func) (s : St) : Option (List (Bool × List C)) :=
  fn.results.toList.foldr (fun r acc => match acc with
    | none => none
    | some l => match r with
      | .tmp t => (match s.F.getD t .u with
        | .c x => some ((false, [x]) :: l)
        | .agg cs => some ((true, cs) :: l)
        | _ => none)
      | .cell a t => (match s.F.getD a .u, aggT P t, sizeT P t with
        | .c (.ptr h off), some ag, some n => (match loadH s.H h off (bif ag then n else 1) ag with
          | some (.c x) => some ((false, [x]) :: l)
          | some (.agg cs) => some ((true, cs) :: l)
          | _ => none)
        | _, _, _ => none)) (some [])

def ofResults : List (Bool × List C) → Option AV
  | [(true, cs)] => some (.agg cs)
  | [(false, [c])] => some (.c c)
  | [_] => none
  | l => some (.tup l)

/-- a whole call, from the empty memory -/
def callA (P : Program) (orc : Orc) (ann : Ann) (n : Nat) (fn : Func) (c : Code) (args : List AV) : Option AV :=
  evK P orc ann n c ⟨args ++ List.replicate (fn.ntmps - args.length) (.tup []), [], 0⟩ fun o s => match o with
    | .exit _ => none
    | _ => match resultsA P fn s with
      | some l => ofResults l
      | none => none
end Go.Ev
namespace Go.Ev
open Go.RowKit

section
variable {β : Nat → Option Nat} {I : Nat → Nat → Prop} {w : World} {P : Program}

theorem RepD.one {x : D} {v : Value} (h : RepD w I x v) : v.oneCell' = true := by
  cases h with
  | v x h => exact h
  | nil f => rfl
  | emp f a cap => rfl
  | sl => rfl

theorem RepD.v_eq {x v : Value} (h : RepD w I (.v x) v) : v = x := by cases h; rfl

theorem RepC.one {x : C} {v : Value} (h : RepC β w I x v) : v.oneCell' = true := by
  cases x with
  | d x => exact RepD.one h
  | ptr k off => obtain ⟨b, _, rfl⟩ := h; rfl
  | ip cs => obtain ⟨b, off, rfl, _⟩ := h; rfl

theorem absD_rep {v : Value} {d : D} (h : absD v = some d) : RepD w I d v := by
  unfold absD at h
  split at h <;> first | (simp at h; subst h; first | exact .nil _ | exact .v _ rfl) | simp at h

theorem absDs_rep : ∀ {vs : List Value} {cs : List C}, absDs vs = some cs → RepCs β w I cs vs
  | [], cs, h => by simp [absDs] at h; subst h; exact ⟨rfl, fun i c v h => by simp at h⟩
  | x :: r, cs, h => by
    simp only [absDs] at h
    split at h
    · rename_i d l hd hl
      simp at h
      subst h
      have ih := absDs_rep hl
      refine ⟨by simp [ih.1], fun i c v h1 h2 => ?_⟩
      cases i with
      | zero => simp at h1 h2; subst h1 h2; exact absD_rep hd
      | succ i => simp at h1 h2; exact ih.2 i c v h1 h2
    · simp at h

theorem absA_rep (v : Value) : RepA β w I (absA v) v := by
  unfold absA
  split
  · rename_i cs
    split
    · rename_i l hl; exact ⟨cs, rfl, absDs_rep hl⟩
    · trivial
  · split
    · rename_i d hd; exact absD_rep (d := d) hd
    · trivial

theorem opA_rep {F : List AV} {a : Act} (h : RepF β w I F a.tmps) (x : Operand) : RepA β w I (opA F x) (a.eval x) := by
  cases x with
  | tmp t =>
    simp only [opA, Act.eval]
    by_cases ht : t < F.length
    · have ht' : t < a.tmps.size := h.1 ▸ ht
      have := h.2 t F[t] a.tmps[t] (by simp [ht]) (by simp [ht'])
      simpa [List.getD, Array.getD, ht, ht'] using this
    · simp [List.getD, List.getElem?_eq_none (Nat.le_of_not_lt ht)]; trivial
  | const v => exact absA_rep v
  | global g => trivial
  | func f => exact .v _ rfl

theorem wantedA_rep {ops : Array Oper} {F : List AV} {a : Act} {o : Oper} {b : Bool} (h : RepF β w I F a.tmps) (hw : wantedA ops F o = some b) : Region.wanted o (yielded ops a.tmps) = b := by
  unfold wantedA at hw
  unfold Region.wanted
  split at hw
  · rename_i hg; simp at hw; subst hw; simp [hg]
  · rename_i j want hg
    simp only [hg]
    split at hw
    · rename_i hd; simp at hw; subst hw
      simp [yielded, hd]
    · rename_i t hd
      have hy := opA_rep h (.tmp t)
      simp only [opA] at hy
      have hev : a.eval (.tmp t) = a.tmps.getD t undef := rfl
      split at hw
      · rename_i x hx
        rw [hx] at hy
        have hlt : t < F.length := by
          rcases Nat.lt_or_ge t F.length with hl | hl
          · exact hl
          · simp [List.getD, List.getElem?_eq_none hl] at hx
        have hlt' : t < a.tmps.size := h.1 ▸ hlt
        have he : a.eval (.tmp t) = .bool x := RepD.v_eq hy
        simp at hw
        subst hw
        have e2 : a.tmps[t]? = some (.bool x) := by
          rw [hev] at he
          simp_all [Array.getD]
        simp only [yielded, hd, Option.bind_some, e2]
        cases want <;> cases x <;> rfl
      · rename_i hx
        rw [hx] at hy
        have hlt : t < F.length := by
          rcases Nat.lt_or_ge t F.length with hl | hl
          · exact hl
          · simp [List.getD, List.getElem?_eq_none hl] at hx
        have hlt' : t < a.tmps.size := h.1 ▸ hlt
        obtain ⟨vs, hv, hl, _⟩ := hy
        simp at hw
        subst hw
        have e2 : a.tmps[t]? = some (.tuple vs) := by
          rw [hev] at hv
          simp_all [Array.getD]
        simp [yielded, hd, e2]
      · simp at hw
end
end Go.Ev
namespace Go.Ev
open Go.RowKit

section
variable {β : Nat → Option Nat} {I : Nat → Nat → Prop} {w : World} {P : Program} {H : Hp}

theorem run_sizeT {t : TypeId} {n : Nat} (h : sizeT P t = some n) (w : World) : (sizeOf t).run P w = .ok n w := by
  unfold sizeT at h
  cases hi : P.info? t with
  | none => simp [hi] at h
  | some i => simp [hi] at h; simp [sizeOf, typeInfo, hi, h]

theorem run_aggT {t : TypeId} {b : Bool} (h : aggT P t = some b) (w : World) : (isAgg t).run P w = .ok b w := by
  unfold aggT at h
  unfold isAgg
  cases hu : P.underlying t with
  | none => simp [hu] at h
  | some d => simp only [hu] at h; cases d <;> simp at h <;> subst h <;> simp [run_underlying hu]

theorem cellsOf_rep {x : AV} {v : Value} {cs : List C} (hc : cellsOf x = some cs) (h : RepA β w I x v) : RepCs β w I cs v.cells.toList := by
  cases x with
  | c x =>
    simp [cellsOf] at hc; subst hc
    have h1 := RepC.one h
    have e : v.cells = #[v] := by cases v <;> first | rfl | simp [Value.oneCell'] at h1
    rw [e]
    refine ⟨rfl, fun i c y h1 h2 => ?_⟩
    cases i with
    | zero => simp at h1 h2; subst h1 h2; exact h
    | succ i => simp at h1
  | agg l => simp [cellsOf] at hc; subst hc; obtain ⟨vs, rfl, hr⟩ := h; exact hr
  | tup ps => simp [cellsOf] at hc
  | u => simp [cellsOf] at hc

theorem RepCs.drop {cs : List C} {vs : List Value} (h : RepCs β w I cs vs) (n : Nat) : RepCs β w I (cs.drop n) (vs.drop n) :=
  ⟨by simp [h.1], fun i c v h1 h2 => h.2 (n + i) c v (by simpa using h1) (by simpa using h2)⟩

theorem RepCs.take {cs : List C} {vs : List Value} (h : RepCs β w I cs vs) (n : Nat) : RepCs β w I (cs.take n) (vs.take n) := by
  refine ⟨by simp [h.1], fun i c v h1 h2 => ?_⟩
  rw [List.getElem?_take] at h1 h2
  split at h1
  · rename_i hi; simp only [hi, if_true] at h2; exact h.2 i c v h1 h2
  · simp at h1

theorem RepCs.append {cs ds : List C} {vs us : List Value} (h : RepCs β w I cs vs) (k : RepCs β w I ds us) : RepCs β w I (cs ++ ds) (vs ++ us) := by
  refine ⟨by simp [h.1, k.1], fun i c v h1 h2 => ?_⟩
  rw [List.getElem?_append] at h1 h2
  split at h1
  · rename_i hi; rw [if_pos (h.1 ▸ hi)] at h2; exact h.2 i c v h1 h2
  · rename_i hi; rw [if_neg (h.1 ▸ hi)] at h2; exact k.2 (i - cs.length) c v h1 (by rw [h.1]; exact h2)

theorem RepCs.splice {cs new : List C} {vs us : List Value} (h : RepCs β w I cs vs) (k : RepCs β w I new us) (off : Nat) :
    RepCs β w I (splice cs off new) (vs.take off ++ us ++ vs.drop (off + us.length)) := by
  have := ((h.take off).append k).append (h.drop (off + new.length))
  unfold Ev.splice
  rw [k.1] at this
  rw [k.1]
  exact this

/-- what 'loadL' gives of cells that stand in a row -/
theorem loadL_rep {cs : List C} {vs : List Value} {off n : Nat} {ag : Bool} {x : AV} (h : RepCs β w I cs vs) (hl : loadL cs off n ag = some x) :
    off + n ≤ vs.length ∧ (if ag then RepA β w I x (.agg ((vs.drop off).take n).toArray) else ∃ v, vs[off]? = some v ∧ RepA β w I x v) := by
  unfold loadL at hl
  split at hl
  · rename_i hle
    refine ⟨h.1 ▸ hle, ?_⟩
    cases ag with
    | true => simp at hl; subst hl; exact ⟨_, rfl, (h.drop off).take n⟩
    | false =>
      simp at hl
      obtain ⟨c, hc, rfl⟩ := hl
      have hlt : off < vs.length := by
        have := (List.getElem?_eq_some_iff.1 hc).1
        rw [h.1] at this; exact this
      simp only [Bool.false_eq_true, if_false]
      exact ⟨vs[off], by simp [hlt], h.2 off c _ hc (by simp [hlt])⟩
  · simp at hl

theorem add_none (b off n : Nat) : (⟨b, off, none⟩ : Addr).add n = ⟨b, off + n, none⟩ := by unfold Addr.add; split <;> simp_all

/-- a variable that lies in a row of cells, loaded -/
theorem run_loadVar_in {t : TypeId} {ag : Bool} {n b off : Nat} {vs : List Value} {x : AV} {cs : List C} (hag : aggT P t = some ag) (hsz : sizeT P t = some n)
    (hcell : ∀ j v, vs[j]? = some v → w.cell? ⟨b, off + j, none⟩ = some v) (h : RepCs β w I cs vs) {o : Nat} (hl : loadL cs o (bif ag then n else 1) ag = some x) :
    ∃ v, (loadVar t ⟨b, off + o, none⟩).run P w = .ok v w ∧ RepA β w I x v := by
  obtain ⟨hle, hx⟩ := loadL_rep h hl
  unfold loadVar
  cases ag with
  | true =>
    simp only [cond_true] at hle hx
    simp only [if_true] at hx
    refine ⟨_, ?_, hx⟩
    have hlen : ((vs.drop o).take n).length = n := by simp; omega
    have := run_loadCells_list (P := P) w ⟨b, off + o, none⟩ ((vs.drop o).take n) (fun j v hj => by
      rw [add_none]
      rw [List.getElem?_take] at hj
      split at hj
      · rw [List.getElem?_drop] at hj
        rw [Nat.add_assoc]
        exact hcell _ _ hj
      · simp at hj)
    rw [hlen] at this
    simp [run_aggT hag, run_sizeT hsz, this]
  | false =>
    simp only [Bool.false_eq_true, if_false] at hx
    obtain ⟨v, hv, hr⟩ := hx
    refine ⟨v, ?_, hr⟩
    have := hcell o v hv
    simp [run_aggT hag, this]

theorem cellAt {b : Nat} {t : TypeId} {vs : Array Value} (hb : w.heap[b]? = some (.cells vs t (0, 0))) (j : Nat) (v : Value) (hj : vs.toList[j]? = some v) :
    w.cell? ⟨b, j, none⟩ = some v := by
  simp only [World.cell?, hb]
  simpa using hj

def upd (β : Nat → Option Nat) (h b : Nat) : Nat → Option Nat := fun k => if k = h then some b else β k

theorem upd_keep {h b : Nat} (h0 : β h = none) : ∀ (k c : Nat), β k = some c → upd β h b k = some c := fun k c hk => by
  unfold upd
  rw [if_neg (fun e => by rw [e, h0] at hk; simp at hk)]
  exact hk

theorem RelH.alloc (h : RelH β H I w) {cs : List C} {vs : Array Value} (hr : RepCs β w I cs vs.toList) (t : TypeId) {h0 : Nat} (hn : β h0 = none) :
    RelH (upd β h0 w.heap.size) (ins h0 (.cells cs t) H) I (w.alloc (.cells vs t)) ∧ Ext β I (upd β h0 w.heap.size) I w (w.alloc (.cells vs t)) ∧
      RepA (upd β h0 w.heap.size) (w.alloc (.cells vs t)) I (.c (.ptr h0 0)) (.pointer (some ⟨w.heap.size, 0, none⟩)) := by
  have hcell : ∀ b o, I b o → (w.alloc (.cells vs t)).cell? ⟨b, o, none⟩ = w.cell? ⟨b, o, none⟩ := fun b o hi => by apply World.cell?_alloc_lt; exact h.old b o hi
  have hkB := upd_keep (β := β) (b := w.heap.size) hn
  have hlast : upd β h0 w.heap.size h0 = some w.heap.size := by simp [upd]
  have hget : ∀ (k b : Nat), upd β h0 w.heap.size k = some b → (k ≠ h0 ∧ β k = some b) ∨ (k = h0 ∧ b = w.heap.size) := fun k b hb => by
    unfold upd at hb
    split at hb
    · rename_i e; simp at hb; exact .inr ⟨e, hb.symm⟩
    · rename_i e; exact .inl ⟨e, hb⟩
  refine ⟨⟨?_, ?_, ?_, ?_, ?_⟩, ⟨rfl, rfl, rfl, by simp, fun b hb _ => Below.heap_alloc _ _ _ hb, fun _ _ hi => hi, hcell, fun _ _ hi => .inl hi, ?_⟩, ⟨_, hlast, rfl⟩⟩
  · intro i j b hi hj
    rcases hget i b hi with ⟨_, h1⟩ | ⟨h1, h1'⟩ <;> rcases hget j b hj with ⟨_, h2⟩ | ⟨h2, h2'⟩
    · exact h.inj i j b h1 h2
    · have := h.lt i b h1; omega
    · have := h.lt j b h2; omega
    · omega
  · intro k cs' t' hk
    rw [look_ins] at hk
    split at hk
    · rename_i e
      simp at hk
      obtain ⟨rfl, rfl⟩ := hk
      subst e
      refine ⟨w.heap.size, vs, hlast, ?_, hr.keep (fun _ _ hi => hi) hcell hkB⟩
      show (w.heap.push _)[w.heap.size]? = _
      simp
    · obtain ⟨b, us, hb, hheap, hrep⟩ := h.blk k cs' t' hk
      refine ⟨b, us, hkB _ _ hb, ?_, hrep.keep (fun _ _ hi => hi) hcell hkB⟩
      rw [Below.heap_alloc _ _ _ (h.lt k b hb)]; exact hheap
  · intro k b hb
    rcases hget k b hb with ⟨_, h1⟩ | ⟨_, h1⟩
    · have := h.lt k b h1; simp; omega
    · simp; omega
  · intro k b o hb hi
    rcases hget k b hb with ⟨_, h1⟩ | ⟨_, h1⟩
    · exact h.off k b o h1 hi
    · have := h.old b o hi; omega
  · intro b o hi; have := h.old b o hi; simp; omega
  · intro k b hb
    rcases hget k b hb with ⟨_, h1⟩ | ⟨_, h1⟩
    · exact .inl ⟨k, h1⟩
    · exact .inr (by omega)

theorem storeH_ok (h : RelH β H I w) {k off b : Nat} {new : List C} {H' : Hp} (hb : β k = some b) {us : List Value} (hnew : RepCs β w I new us) (hs : storeH H k off new = some H') :
    ∃ w', (storeCells ⟨b, off, none⟩ us).run P w = .ok () w' ∧ RelH β H' I w' ∧ Ext β I β I w w' := by
  unfold storeH at hs
  split at hs
  · rename_i cs t hk
    split at hs
    · rename_i hle
      simp at hs
      subst hs
      obtain ⟨b', vs, hb', hheap, hrep⟩ := h.blk k cs t hk
      have : b' = b := by rw [hb] at hb'; simpa using hb'.symm
      subst this
      have hl : off + us.length ≤ vs.size := by
        have h1 := hrep.1
        have h2 := hnew.1
        simp at h1
        omega
      have hone : ∀ v ∈ us, v.oneCell' = true := fun v hv => by
        obtain ⟨i, hi, he⟩ := List.getElem_of_mem hv
        have hi' : i < new.length := by rw [hnew.1]; exact hi
        exact (hnew.2 i new[i] v (by simp [hi']) (by simp [hi, he])).one
      have hrun := run_storeCells_at P b' off t us 0 vs w hheap (by simpa using hl) hone
      simp only [Nat.add_zero] at hrun
      have hnb : ∀ b o, I b o → b ≠ b' := fun x o hi hx => h.off k b' o hb (hx ▸ hi)
      have hcell : ∀ x o, I x o → (w.setRow b' (vs.toList.take off ++ us ++ vs.toList.drop (off + us.length)).toArray).cell? ⟨x, o, none⟩ = w.cell? ⟨x, o, none⟩ := fun x o hi =>
        World.cell?_of_block (w := w) (setRow_other w b' x _ (hnb x o hi))
      have hne : ∀ {j c}, j ≠ k → β j = some c → c ≠ b' := fun hj hc hcb => hj (h.inj _ _ _ hc (by rw [hcb]; exact hb))
      refine ⟨_, hrun, ⟨h.inj, ?_, fun j c hc => by simp; exact h.lt j c hc, h.off, fun x o hi => by simp; exact h.old x o hi⟩, ⟨rfl, rfl, rfl, by simp, fun x _ hn => setRow_other _ _ _ _ (fun e => hn k (by rw [e]; exact hb)), fun _ _ hi => hi, hcell, fun _ _ hi => .inl hi, fun x _ hx => .inl ⟨x, hx⟩⟩⟩
      intro j cs' t' hj
      rw [look_ins] at hj
      split at hj
      · rename_i hkj
        subst hkj
        simp at hj
        obtain ⟨rfl, rfl⟩ := hj
        refine ⟨b', _, hb, setRow_heap w b' vs _ t _ hheap, ?_⟩
        have := hrep.splice hnew off
        simpa using this.keep (β' := β) (w' := w.setRow b' (vs.toList.take off ++ us ++ vs.toList.drop (off + us.length)).toArray) (fun _ _ hi => hi) hcell (fun _ _ hx => hx)
      · rename_i hkj
        obtain ⟨c, us', hc, hheap', hrep'⟩ := h.blk j cs' t' hj
        exact ⟨c, us', hc, by rw [setRow_other _ _ _ _ (hne hkj hc)]; exact hheap', hrep'.keep (fun _ _ hi => hi) hcell (fun _ _ hx => hx)⟩
    · simp at hs
  · simp at hs
end
end Go.Ev
namespace Go.Ev
open Go.RowKit

section
variable {β : Nat → Option Nat} {I : Nat → Nat → Prop} {w : World} {P : Program} {H : Hp}

/-- what an action does to memory -/
def PerfR (P : Program) (h0 : Nat) : Do → Hp → AV → Hp → Prop
  | .val x, H, y, H' => y = x ∧ H' = H
  | .load h off n ag, H, y, H' => loadH H h off n ag = some y ∧ H' = H
  | .store h off cs, H, y, H' => y = .tup [] ∧ storeH H h off cs = some H'
  | .alloc cs t, H, y, H' => y = .c (.ptr h0 0) ∧ H' = ins h0 (.cells cs t) H
  | .call f args, H, y, H' => H' = H ∧ args.all closed = true ∧ closed y = true ∧ ∃ Hc, CR P f args [] y Hc

def OpOk (h0 : Nat) (β : Nat → Option Nat) (I : Nat → Nat → Prop) (w : World) (x : AV) (H' : Hp) (r : Result Next) : Prop :=
  ∃ nx w' β', r = .ok nx w' ∧ ((∃ v, nx = .value v ∧ RepA β' w' I x v) ∨ (nx = .skip ∧ x = .tup [])) ∧ RelH β' H' I w' ∧ Ext β I β' I w w' ∧ (∀ k c, β k = some c → β' k = some c) ∧ (∀ k, k ≠ h0 → β' k = β k)

theorem ok_val {h0 : Nat} {x : AV} {v : Value} {r : Result Next} (hr : r = .ok (.value v) w) (hx : RepA β w I x v) (h : RelH β H I w) : OpOk h0 β I w x H r :=
  ⟨_, w, β, hr, .inl ⟨v, rfl, hx⟩, h, .refl _ _ _, fun _ _ hk => hk, fun _ _ => rfl⟩

theorem val1_rep {r : Value} {ok : Bool} {x : AV} (h : val1 r = some (ok, .val x)) : ok = true ∧ RepA β w I x r := by
  unfold val1 at h
  split at h
  · rename_i d hd; simp at h; obtain ⟨rfl, rfl⟩ := h; exact ⟨rfl, absD_rep hd⟩
  · simp at h

theorem val1_val {r : Value} {ok : Bool} {a : Do} (h : val1 r = some (ok, a)) : ∃ x, a = .val x := by
  unfold val1 at h
  split at h
  · simp at h; exact ⟨_, h.2.symm⟩
  · simp at h

variable {ρ : Operand → AV} {ρv : Operand → Value} {dst : Option Tmp} {ty : TypeId} {pos : String} {after : Array Edge} {guard : Option (Nat × Bool)} {a : Do} {x : AV} {H' : Hp} {h0 : Nat}

theorem plain_eq {y : AV} {v c : Value} (e : y = .c (.d (.v c))) (h : RepA β w I y v) : v = c := by
  subst e; exact RepD.v_eq h

theorem pick_ok {c p q : Operand} (hρ : ∀ x, RepA β w I (ρ x) (ρv x)) (h : RelH β H I w) (hs : res P ⟨dst, .pick c p q, ty, pos, after, guard⟩ ρ = some (true, a)) (hp : PerfR P h0 a H x H') :
    OpOk h0 β I w x H' ((execOp ρv ⟨dst, .pick c p q, ty, pos, after, guard⟩).run P w) := by
  simp only [res] at hs
  split at hs
  · rename_i t ht
    simp at hs; subst hs; obtain ⟨rfl, rfl⟩ := hp
    have e := plain_eq ht (hρ c)
    refine ok_val (v := if t then ρv p else ρv q) (by simp [execOp, e, asBool]) ?_ h
    cases t <;> exact hρ _
  · simp at hs

theorem zeroT_run {e : TypeId} {cs : List C} (h : zeroT P e = some cs) : ∃ z, (zeroValue e).run P w = .ok z w ∧ RepCs β w I cs z.cells.toList := by
  unfold zeroT at h
  split at h
  · rename_i z hz
    refine ⟨z, ?_, absDs_rep h⟩
    cases hi : P.info? e with
    | none => simp [hi] at hz
    | some i => simp [hi] at hz; simp [zeroValue, typeInfo, hi, hz]
  · simp at h

theorem alloc_ok {e : TypeId} (hn : β h0 = none) (h : RelH β H I w) (hs : res P ⟨dst, .alloc e, ty, pos, after, guard⟩ ρ = some (true, a)) (hp : PerfR P h0 a H x H') :
    OpOk h0 β I w x H' ((execOp ρv ⟨dst, .alloc e, ty, pos, after, guard⟩).run P w) := by
  simp only [res] at hs
  split at hs
  · rename_i cs hcs
    simp at hs; subst hs; obtain ⟨rfl, rfl⟩ := hp
    obtain ⟨z, hz, hr⟩ := zeroT_run (β := β) (I := I) (w := w) hcs
    obtain ⟨h1, h2, h3⟩ := h.alloc hr e hn
    refine ⟨_, _, _, ?_, .inl ⟨_, rfl, h3⟩, h1, h2, upd_keep hn, fun k hk => by simp [upd, hk]⟩
    simp [execOp, Instr.alloc, hz, newVar, newRow]
  · simp at hs

theorem box_ok {e : TypeId} {y : Operand} (hn : β h0 = none) (hρ : ∀ x, RepA β w I (ρ x) (ρv x)) (h : RelH β H I w) (hs : res P ⟨dst, .box e y, ty, pos, after, guard⟩ ρ = some (true, a)) (hp : PerfR P h0 a H x H') :
    OpOk h0 β I w x H' ((execOp ρv ⟨dst, .box e y, ty, pos, after, guard⟩).run P w) := by
  simp only [res] at hs
  split at hs
  · rename_i cs hcs
    simp at hs; subst hs; obtain ⟨rfl, rfl⟩ := hp
    obtain ⟨h1, h2, h3⟩ := h.alloc (cellsOf_rep hcs (hρ y)) e hn
    refine ⟨_, _, _, ?_, .inl ⟨_, rfl, h3⟩, h1, h2, upd_keep hn, fun k hk => by simp [upd, hk]⟩
    simp [execOp, Instr.box, newVar, newRow]
  · simp at hs

theorem load_ok {t : TypeId} {y : Operand} (hρ : ∀ x, RepA β w I (ρ x) (ρv x)) (h : RelH β H I w) (hs : res P ⟨dst, .load t y, ty, pos, after, guard⟩ ρ = some (true, a)) (hp : PerfR P h0 a H x H') :
    OpOk h0 β I w x H' ((execOp ρv ⟨dst, .load t y, ty, pos, after, guard⟩).run P w) := by
  simp only [res] at hs
  split at hs
  · rename_i ag n hag hsz
    split at hs
    · rename_i k off hy
      simp at hs; subst hs; obtain ⟨hl, rfl⟩ := hp
      have hv := hρ y
      rw [hy] at hv
      obtain ⟨b, hb, hv⟩ := hv
      unfold loadH at hl
      split at hl
      · rename_i cs t' hk
        obtain ⟨b', vs, hb', hheap, hrep⟩ := h.blk k cs t' hk
        have : b' = b := by rw [hb] at hb'; simpa using hb'.symm
        subst this
        obtain ⟨v, hrun, hx⟩ := run_loadVar_in (P := P) (off := 0) hag hsz (fun j v hj => by rw [Nat.zero_add]; exact cellAt hheap j v hj) hrep hl
        rw [Nat.zero_add] at hrun
        exact ok_val (v := v) (by simp [execOp, Instr.loadAt, Instr.sureAddr, hv, hrun]) hx h
      · simp at hl
    · rename_i l hy
      split at hs
      · rename_i y' hl
        simp at hs; subst hs; obtain ⟨rfl, rfl⟩ := hp
        have hv := hρ y
        rw [hy] at hv
        obtain ⟨b, off, hv, hj⟩ := hv
        have hrep : RepCs β w I (l.map .d) ((List.range l.length).map fun j => (w.cell? ⟨b, off + j, none⟩).getD undef) := by
          refine ⟨by simp, fun i c v h1 h2 => ?_⟩
          simp at h1 h2
          obtain ⟨d, hd, rfl⟩ := h1
          obtain ⟨i', hi', rfl⟩ := h2
          obtain ⟨hlt, rfl⟩ := List.getElem?_eq_some_iff.1 hi'
          simp at hlt ⊢
          obtain ⟨z, h1, _, h3⟩ := hj i d hd
          rw [h1]; exact h3
        obtain ⟨v, hrun, hx⟩ := run_loadVar_in (P := P) (off := off) hag hsz (fun j v hjv => by
          simp at hjv
          obtain ⟨i', hi', hv'⟩ := hjv
          obtain ⟨hlt, rfl⟩ := List.getElem?_eq_some_iff.1 hi'
          simp at hlt hv'
          obtain ⟨z, h1, _, _⟩ := hj j l[j] (by simp [hlt])
          rw [h1] at hv' ⊢
          simpa using hv') hrep hl
        rw [Nat.add_zero] at hrun
        exact ok_val (v := v) (by simp [execOp, Instr.loadAt, Instr.sureAddr, hv, hrun]) hx h
      · simp at hs
    · simp at hs
  · simp at hs

theorem store_ok {t : TypeId} {y z : Operand} (hρ : ∀ x, RepA β w I (ρ x) (ρv x)) (h : RelH β H I w) (hs : res P ⟨dst, .store t y z, ty, pos, after, guard⟩ ρ = some (true, a)) (hp : PerfR P h0 a H x H') :
    OpOk h0 β I w x H' ((execOp ρv ⟨dst, .store t y z, ty, pos, after, guard⟩).run P w) := by
  simp only [res] at hs
  split at hs
  · rename_i n k off cs hsz hy hz
    split at hs
    · rename_i hn
      simp at hs; subst hs; obtain ⟨rfl, hst⟩ := hp
      have hv := hρ y
      rw [hy] at hv
      obtain ⟨b, hb, hv⟩ := hv
      have hrep := cellsOf_rep hz (hρ z)
      obtain ⟨w', hrun, h1, h2⟩ := storeH_ok (P := P) h hb hrep hst
      refine ⟨.skip, w', β, ?_, .inr ⟨rfl, rfl⟩, h1, h2, fun _ _ hk => hk, fun _ _ => rfl⟩
      have hc : (ρv z).cells.size = n := by have := hrep.1; simp at this; omega
      simp [execOp, Instr.storeAt, Instr.sureAddr, hv, storeVar, run_sizeT hsz, hc, hrun]
    · simp at hs
  · simp at hs

theorem nilCheck_ok {y : Operand} (hρ : ∀ x, RepA β w I (ρ x) (ρv x)) (h : RelH β H I w) (hs : res P ⟨dst, .nilCheck y, ty, pos, after, guard⟩ ρ = some (true, a)) (hp : PerfR P h0 a H x H') :
    OpOk h0 β I w x H' ((execOp ρv ⟨dst, .nilCheck y, ty, pos, after, guard⟩).run P w) := by
  simp only [res] at hs
  split at hs
  · rename_i k off hy
    simp at hs; subst hs; obtain ⟨rfl, rfl⟩ := hp
    have hv := hρ y
    rw [hy] at hv
    obtain ⟨b, hb, hv'⟩ := hv
    exact ok_val (v := ρv y) (by simp [execOp, hv']) ⟨b, hb, hv'⟩ h
  · rename_i l hy
    simp at hs; subst hs; obtain ⟨rfl, rfl⟩ := hp
    have hv := hρ y
    rw [hy] at hv
    obtain ⟨b, off, hv', hj⟩ := hv
    exact ok_val (v := ρv y) (by simp [execOp, hv']) ⟨b, off, hv', hj⟩ h
  · simp at hs

theorem unOp_ok {op : UnOp} {t : TypeId} {y : Operand} (hρ : ∀ x, RepA β w I (ρ x) (ρv x)) (h : RelH β H I w) (hs : res P ⟨dst, .unOp op t y, ty, pos, after, guard⟩ ρ = some (true, a)) (hp : PerfR P h0 a H x H') :
    OpOk h0 β I w x H' ((execOp ρv ⟨dst, .unOp op t y, ty, pos, after, guard⟩).run P w) := by
  simp only [res] at hs
  split at hs
  · rename_i c hy
    split at hs
    · rename_i r hr
      obtain ⟨x', rfl⟩ := val1_val hs
      obtain ⟨rfl, rfl⟩ := hp
      have e := plain_eq hy (hρ y)
      exact ok_val (v := r) (by simp [execOp, e, pr_run P _ r hr w]) (val1_rep hs).2 h
    · simp at hs
  · simp at hs

theorem convert_ok {s t : TypeId} {y : Operand} (hρ : ∀ x, RepA β w I (ρ x) (ρv x)) (h : RelH β H I w) (hs : res P ⟨dst, .convert s t y, ty, pos, after, guard⟩ ρ = some (true, a)) (hp : PerfR P h0 a H x H') :
    OpOk h0 β I w x H' ((execOp ρv ⟨dst, .convert s t y, ty, pos, after, guard⟩).run P w) := by
  simp only [res] at hs
  split at hs
  · rename_i c hy
    split at hs
    · rename_i r hr
      obtain ⟨x', rfl⟩ := val1_val hs
      obtain ⟨rfl, rfl⟩ := hp
      have e := plain_eq hy (hρ y)
      exact ok_val (v := r) (by simp [execOp, e, pr_run P _ r hr w]) (val1_rep hs).2 h
    · simp at hs
  · simp at hs

theorem fieldAddr_ok {s : TypeId} {y : Operand} {f : Nat} (hρ : ∀ x, RepA β w I (ρ x) (ρv x)) (h : RelH β H I w) (hs : res P ⟨dst, .fieldAddr s y f, ty, pos, after, guard⟩ ρ = some (true, a)) (hp : PerfR P h0 a H x H') :
    OpOk h0 β I w x H' ((execOp ρv ⟨dst, .fieldAddr s y f, ty, pos, after, guard⟩).run P w) := by
  simp only [res] at hs
  split at hs
  · rename_i fields hu
    split at hs
    · rename_i fd hfd
      split at hs
      · rename_i m hm
        split at hs
        · rename_i k off hy
          simp at hs; subst hs; obtain ⟨rfl, rfl⟩ := hp
          have hv := hρ y
          rw [hy] at hv
          obtain ⟨b, hb, hv'⟩ := hv
          exact ok_val (v := .pointer (some ⟨b, off + fd.offset, none⟩)) (by simp [execOp, hv', Instr.fieldAt, run_underlying hu, hfd, Instr.sureAddr, fieldPlace, run_sizeT hm, add_none]) ⟨b, hb, rfl⟩ h
        · rename_i l hy
          simp at hs; subst hs; obtain ⟨rfl, rfl⟩ := hp
          have hv := hρ y
          rw [hy] at hv
          obtain ⟨b, off, hv', hj⟩ := hv
          refine ok_val (v := .pointer (some ⟨b, off + fd.offset, none⟩)) (by simp [execOp, hv', Instr.fieldAt, run_underlying hu, hfd, Instr.sureAddr, fieldPlace, run_sizeT hm, add_none]) ⟨b, _, rfl, fun j d hd => ?_⟩ h
          rw [List.getElem?_drop] at hd
          rw [Nat.add_assoc]
          exact hj _ d hd
        · simp at hs
      · simp at hs
    · simp at hs
  · simp at hs

theorem part_run {t : TypeId} {ag : Bool} {n off : Nat} {cs : List C} {vs : Array Value} {y : AV} (hag : aggT P t = some ag) (hsz : sizeT P t = some n) (h : RepCs β w I cs vs.toList) (hl : loadL cs off (bif ag then n else 1) ag = some y) :
    ∃ v, (part t vs off).run P w = .ok v w ∧ RepA β w I y v := by
  obtain ⟨hle, hx⟩ := loadL_rep h hl
  unfold part
  cases ag with
  | true =>
    simp only [if_true, cond_true] at hx
    refine ⟨_, ?_, hx⟩
    simp only [Sem.run_bind, run_aggT hag, Result.andThen_ok, if_true, run_sizeT hsz, Sem.run_pure]
    congr 2
    apply Array.ext'
    simp [List.take_drop]
  | false =>
    simp only [Bool.false_eq_true, if_false] at hx
    obtain ⟨v, hv, hr⟩ := hx
    refine ⟨v, ?_, hr⟩
    have : vs[off]? = some v := by simpa using hv
    simp [run_aggT hag, this]

theorem field_ok {t : TypeId} {y : Operand} {f : Nat} (hρ : ∀ x, RepA β w I (ρ x) (ρv x)) (h : RelH β H I w) (hs : res P ⟨dst, .field t y f, ty, pos, after, guard⟩ ρ = some (true, a)) (hp : PerfR P h0 a H x H') :
    OpOk h0 β I w x H' ((execOp ρv ⟨dst, .field t y f, ty, pos, after, guard⟩).run P w) := by
  simp only [res] at hs
  split at hs
  · rename_i fields hu
    split at hs
    · rename_i fd hfd
      split at hs
      · rename_i ag n cs hag hsz hy
        split at hs
        · rename_i y' hl
          simp at hs; subst hs; obtain ⟨rfl, rfl⟩ := hp
          have hv := hρ y
          rw [hy] at hv
          obtain ⟨vs, hv', hr⟩ := hv
          obtain ⟨v, hrun, hx⟩ := part_run (P := P) hag hsz hr hl
          exact ok_val (v := v) (by simp [execOp, hv', Instr.field, run_underlying hu, hfd, asAgg, hrun]) hx h
        · simp at hs
      · simp at hs
    · simp at hs
  · simp at hs

theorem extract_ok {y : Operand} {i : Nat} (hρ : ∀ x, RepA β w I (ρ x) (ρv x)) (h : RelH β H I w) (hs : res P ⟨dst, .extract y i, ty, pos, after, guard⟩ ρ = some (true, a)) (hp : PerfR P h0 a H x H') :
    OpOk h0 β I w x H' ((execOp ρv ⟨dst, .extract y i, ty, pos, after, guard⟩).run P w) := by
  simp only [res] at hs
  split at hs
  · rename_i ps hy
    have hv := hρ y
    rw [hy] at hv
    obtain ⟨vs, hv', hlen, hr⟩ := hv
    have get : ∀ p, ps[i]? = some p → ∃ v, vs[i]? = some v := fun p hp => by
      have := (List.getElem?_eq_some_iff.1 hp).1
      exact ⟨vs[i]'(by omega), by simp [show i < vs.size by omega]⟩
    split at hs
    · rename_i cs hp'
      simp at hs; subst hs; obtain ⟨rfl, rfl⟩ := hp
      obtain ⟨v, hvi⟩ := get _ hp'
      exact ok_val (v := v) (by simp [execOp, hv', Instr.extract, hvi]) (hr i _ v hp' hvi) h
    · rename_i c hp'
      simp at hs; subst hs; obtain ⟨rfl, rfl⟩ := hp
      obtain ⟨v, hvi⟩ := get _ hp'
      obtain ⟨c', hc', hrc⟩ := hr i _ v hp' hvi
      have : c' = c := by simpa using hc'.symm
      subst this
      exact ok_val (v := v) (by simp [execOp, hv', Instr.extract, hvi]) hrc h
    · simp at hs
  · simp at hs
end
end Go.Ev
namespace Go.Ev
open Go.RowKit

section
variable {β : Nat → Option Nat} {I : Nat → Nat → Prop} {w : World} {P : Program} {H : Hp}
variable {ρ : Operand → AV} {ρv : Operand → Value} {dst : Option Tmp} {ty : TypeId} {pos : String} {after : Array Edge} {guard : Option (Nat × Bool)} {a : Do} {x : AV} {H' : Hp} {q0 : Nat}

theorem foldl_set (us : List Value) : ∀ (cur : Array Value) (off k : Nat), off + k + us.length ≤ cur.size →
    (us.zipIdx k).foldl (fun cs (p : Value × Nat) => cs.setIfInBounds (off + p.2) p.1) cur = (cur.toList.take (off + k) ++ us ++ cur.toList.drop (off + k + us.length)).toArray := by
  induction us with
  | nil => intro cur off k _; simp
  | cons v rest ih =>
    intro cur off k hle
    simp only [List.zipIdx_cons, List.foldl_cons]
    rw [ih _ off (k + 1) (by simp at hle ⊢; omega)]
    congr 1
    have e := list_seg_step cur.toList (off + k) v rest (by simp at hle ⊢; omega)
    simpa [Array.toList_setIfInBounds, Nat.add_assoc] using e

theorem fillA_ok {place : Nat → Option (Nat × Nat)} : ∀ {parts : List (Nat × Operand)} {cells : List C} {vs : Array Value} {cs : List C}, (∀ x, RepA β w I (ρ x) (ρv x)) → RepCs β w I cells vs.toList →
    fillA place cells (parts.map fun p => (p.1, ρ p.2)) = some cs → ∃ us, Instr.fill place vs (parts.map fun p => (p.1, ρv p.2)) = some us ∧ RepCs β w I cs us.toList
  | [], cells, vs, cs, _, hr, h => by simp [fillA] at h; subst h; exact ⟨vs, rfl, hr⟩
  | (i, o) :: rest, cells, vs, cs, hρ, hr, h => by
    simp only [List.map_cons, fillA] at h
    split at h
    · rename_i off size new hpl hnew
      split at h
      · rename_i hc
        have hrep := cellsOf_rep hnew (hρ o)
        have hl : new.length = (ρv o).cells.size := by have := hrep.1; simpa using this
        have hlc : cells.length = vs.size := by have := hr.1; simpa using this
        have e : (ρv o).cells.zipIdx.foldl (fun cs (p : Value × Nat) => cs.setIfInBounds (off + p.2) p.1) vs = (vs.toList.take off ++ (ρv o).cells.toList ++ vs.toList.drop (off + (ρv o).cells.toList.length)).toArray := by
          rw [← Array.foldl_toList, Array.toList_zipIdx]
          have := foldl_set (ρv o).cells.toList vs off 0 (by simp; omega)
          simpa using this
        obtain ⟨us, hus, hru⟩ := fillA_ok (vs := (vs.toList.take off ++ (ρv o).cells.toList ++ vs.toList.drop (off + (ρv o).cells.toList.length)).toArray) hρ (by simpa using hr.splice hrep off) h
        refine ⟨us, ?_, hru⟩
        simp only [List.map_cons, Instr.fill, hpl]
        rw [if_neg (by simp; omega)]
        rw [← hus]
        congr 1
      · simp at h
    · simp at h

theorem placesT_run : ∀ {fs : List Field} {ps : List (Nat × Nat)}, placesT P fs = some ps → (fs.mapM fun f => do pure (f.offset, ← sizeOf f.type) : Sem (List (Nat × Nat))).run P w = .ok ps w
  | [], ps, h => by simp [placesT] at h; subst h; rfl
  | f :: r, ps, h => by
    simp only [placesT] at h
    split at h
    · rename_i s l hs hl
      simp at h; subst h
      have ih := placesT_run hl
      simp only [List.mapM_cons, Sem.run_bind, run_sizeT hs, Result.andThen_ok, Sem.run_pure, ih]
    · simp at h

theorem build_ok {t : TypeId} {parts : Array (Nat × Operand)} (hρ : ∀ x, RepA β w I (ρ x) (ρv x)) (h : RelH β H I w) (hs : res P ⟨dst, .build t parts, ty, pos, after, guard⟩ ρ = some (true, a)) (hp : PerfR P q0 a H x H') :
    OpOk q0 β I w x H' ((execOp ρv ⟨dst, .build t parts, ty, pos, after, guard⟩).run P w) := by
  simp only [res] at hs
  split at hs
  · rename_i fields z hu hz
    split at hs
    · rename_i ps hps
      split at hs
      · rename_i cs hcs
        simp at hs; subst hs; obtain ⟨rfl, rfl⟩ := hp
        obtain ⟨zv, hzv, hzr⟩ := zeroT_run (β := β) (I := I) (w := w) hz
        obtain ⟨us, hus, hru⟩ := fillA_ok hρ hzr hcs
        refine ok_val (v := .agg us) ?_ ⟨us, rfl, hru⟩ h
        have hm : (fields.mapM fun f => do pure (f.offset, ← sizeOf f.type) : Sem (Array (Nat × Nat))).run P w = .ok ps.toArray w := by
          rw [Array.mapM_eq_mapM_toList, Sem.run_map, placesT_run hps]
          rfl
        simp only [execOp, Instr.build, Sem.run_bind, hzv, Result.andThen_ok, run_underlying hu, hm]
        have e : (parts.map fun (p : Nat × Operand) => (p.1, ρv p.2)).toList = parts.toList.map fun p => (p.1, ρv p.2) := by simp
        have e2 : (fun i : Nat => ps.toArray[i]?) = (fun i : Nat => ps[i]?) := by funext i; simp
        rw [e, e2, hus]
        rfl
      · simp at hs
    · simp at hs
  · rename_i n e z hu hz
    split at hs
    · rename_i s hsz
      split at hs
      · rename_i cs hcs
        simp at hs; subst hs; obtain ⟨rfl, rfl⟩ := hp
        obtain ⟨zv, hzv, hzr⟩ := zeroT_run (β := β) (I := I) (w := w) hz
        obtain ⟨us, hus, hru⟩ := fillA_ok hρ hzr hcs
        refine ok_val (v := .agg us) ?_ ⟨us, rfl, hru⟩ h
        simp only [execOp, Instr.build, Sem.run_bind, hzv, Result.andThen_ok, run_underlying hu, run_sizeT hsz]
        have e : (parts.map fun (p : Nat × Operand) => (p.1, ρv p.2)).toList = parts.toList.map fun p => (p.1, ρv p.2) := by simp
        rw [e, hus]
        rfl
      · simp at hs
    · simp at hs
  · simp at hs

theorem indexAddr_ok {t : TypeId} {y i : Operand} (hρ : ∀ x, RepA β w I (ρ x) (ρv x)) (h : RelH β H I w) (hs : res P ⟨dst, .indexAddr t y i, ty, pos, after, guard⟩ ρ = some (true, a)) (hp : PerfR P q0 a H x H') :
    OpOk q0 β I w x H' ((execOp ρv ⟨dst, .indexAddr t y i, ty, pos, after, guard⟩).run P w) := by
  simp only [res] at hs
  split at hs
  · rename_i k n hi
    have ei := plain_eq hi (hρ i)
    split at hs
    · rename_i len e k' off hu hy
      split at hs
      · rename_i s hsz
        simp at hs
        obtain ⟨⟨h0, h1⟩, rfl⟩ := hs
        obtain ⟨rfl, rfl⟩ := hp
        have hv := hρ y
        rw [hy] at hv
        obtain ⟨b, hb, hv'⟩ := hv
        exact ok_val (v := .pointer (some ⟨b, off + n.toNat * s, none⟩)) (by simp [execOp, ei, hv', Instr.indexAt, asIntOf, run_underlying hu, Instr.sureAddr, h0, h1, run_sizeT hsz, add_none]) ⟨b, hb, rfl⟩ h
      · simp at hs
    · rename_i e len f hu hy
      split at hs
      · rename_i s hsz
        simp at hs
        obtain ⟨⟨⟨h0, h1⟩, h2⟩, rfl⟩ := hs
        obtain ⟨rfl, rfl⟩ := hp
        have hv := hρ y
        rw [hy] at hv
        have hlt : n.toNat < len := by omega
        have key : ∀ v, RepD w I (.sl len f) v → v = ρv y → OpOk q0 β I w (.c (.ip (f n.toNat))) H' ((execOp ρv ⟨dst, .indexAddr t y i, ty, pos, after, guard⟩).run P w) := by
          intro v hr hev
          cases hr with
          | nil f => omega
          | emp f a cap => omega
          | sl _ _ sz b off cap g hcap hsz' hc hI hr =>
            have e1 : sz = s := by have := hsz' n.toNat hlt; omega
            subst e1
            refine ok_val (v := .pointer (some ⟨b, off + n.toNat * sz, none⟩)) (by simp [execOp, ei, ← hev, Instr.indexAt, asIntOf, run_underlying hu, h0, h1, run_sizeT hsz, add_none]) ⟨b, _, rfl, fun j d hd => ?_⟩ h
            exact ⟨g n.toNat j, hc _ _ _ hlt hd, hI _ _ _ hlt hd, hr _ _ _ hlt hd⟩
        exact key _ hv rfl
      · simp at hs
    · simp at hs
  · simp at hs

theorem index_ok {t : TypeId} {y i : Operand} (hρ : ∀ x, RepA β w I (ρ x) (ρv x)) (h : RelH β H I w) (hs : res P ⟨dst, .index t y i, ty, pos, after, guard⟩ ρ = some (true, a)) (hp : PerfR P q0 a H x H') :
    OpOk q0 β I w x H' ((execOp ρv ⟨dst, .index t y i, ty, pos, after, guard⟩).run P w) := by
  simp only [res] at hs
  split at hs
  · rename_i k n hi
    have ei := plain_eq hi (hρ i)
    split at hs
    · rename_i s hu hy
      simp only [Bool.and_eq_true, decide_eq_true_eq, Option.some.injEq, Prod.mk.injEq] at hs
      obtain ⟨⟨h0, h1⟩, rfl⟩ := hs
      obtain ⟨rfl, rfl⟩ := hp
      have ey := plain_eq hy (hρ y)
      have hlt : n.toNat < s.size := by omega
      refine ok_val (v := .int .u8 (s.data.toList.getD n.toNat 0).toNat) ?_ (.v _ rfl) h
      have e : s[n.toNat]? = some (s.data.toList.getD n.toNat 0) := by
        have hlt' : n.toNat < s.data.size := hlt
        rw [getElem?_pos s n.toNat hlt]
        have e1 : s.data.toList.getD n.toNat 0 = s.data[n.toNat] := by
          simp only [List.getD, Array.getElem?_toList, Array.getElem?_eq_getElem hlt', Option.getD_some]
        rw [e1]
        rfl
      simp [execOp, ei, ey, Instr.index, asIntOf, run_underlying hu, h0, e]
    · rename_i len e cs hu hy
      split at hs
      · rename_i ag sz hag hsz
        split at hs
        · rename_i y' hl
          simp at hs
          obtain ⟨⟨h0, h1⟩, rfl⟩ := hs
          obtain ⟨rfl, rfl⟩ := hp
          have hv := hρ y
          rw [hy] at hv
          obtain ⟨vs, hv', hr⟩ := hv
          obtain ⟨v, hrun, hx⟩ := part_run (P := P) hag hsz hr hl
          exact ok_val (v := v) (by simp [execOp, ei, hv', Instr.index, asIntOf, run_underlying hu, h0, h1, run_sizeT hsz, hrun]) hx h
        · simp at hs
      · simp at hs
    · simp at hs
  · simp at hs
end
end Go.Ev
namespace Go.Ev
open Go.RowKit

section
variable {β : Nat → Option Nat} {I : Nat → Nat → Prop} {w : World} {P : Program} {H : Hp}
variable {ρ : Operand → AV} {ρv : Operand → Value} {dst : Option Tmp} {ty : TypeId} {pos : String} {after : Array Edge} {guard : Option (Nat × Bool)} {a : Do} {x : AV} {H' : Hp} {q0 : Nat}

/-- the value of a type with these cells -/
def mkV (P : Program) (t : TypeId) (vs : List Value) : Value := if aggT P t = some true then .agg vs.toArray else vs.headD undef

theorem part_mk {t : TypeId} {s : Nat} {vs : List Value} {off : Nat} (hs : sizeT P t = some s) (hag : (aggT P t).isSome = true) (h1 : aggT P t = some false → off < vs.length ∧ 1 ≤ s) :
    (part t vs.toArray off).run P w = .ok (mkV P t ((vs.drop off).take s)) w := by
  obtain ⟨ag, hag⟩ := Option.isSome_iff_exists.1 hag
  unfold part mkV
  cases ag with
  | true =>
    simp only [Sem.run_bind, run_aggT hag, Result.andThen_ok, if_true, run_sizeT hs, Sem.run_pure, hag]
    congr 2
    apply Array.ext'
    simp [List.take_drop]
  | false =>
    obtain ⟨hlt, h0⟩ := h1 hag
    have e : ((vs.drop off).take s).headD undef = vs[off] := by
      have : (vs.drop off) = vs[off] :: vs.drop (off + 1) := List.drop_eq_getElem_cons hlt
      rw [this]
      cases s with
      | zero => omega
      | succ s => rfl
    rw [if_neg (by simp [hag]), e]
    simp [run_aggT hag, hlt]

theorem eqT_one {d : Nat} {t : TypeId} {xs ys : List C} {r : Bool} (h : eqT P d t xs ys = some r) (ht : aggT P t = some false) : xs.length = 1 ∧ ys.length = 1 := by
  cases d with
  | zero => simp [eqT] at h
  | succ d =>
    simp only [eqT] at h
    unfold aggT at ht
    split at h <;> first
      | (rename_i hu; simp [hu] at ht; done)
      | (split at h <;> first | exact ⟨rfl, rfl⟩ | (split at h <;> first | exact ⟨rfl, rfl⟩ | simp at h) | simp at h)
      | simp at h

theorem eqT_run (d : Nat) : ∀ (t : TypeId) (cx cy : List C) (us vs : List Value) (r : Bool) (d' : Nat), d ≤ d' → eqT P d t cx cy = some r → RepCs β w I cx us → RepCs β w I cy vs →
    (Op.equalIn d' t (mkV P t us) (mkV P t vs)).run P w = .ok r w := by
  induction d with
  | zero => intro t cx cy us vs r d' _ h; simp [eqT] at h
  | succ d ih =>
    intro t cx cy us vs r d' hd h hx hy
    obtain ⟨d', rfl⟩ : ∃ k, d' = k + 1 := ⟨d' - 1, by omega⟩
    simp only [eqT] at h
    have single : ∀ {c : C} {us : List Value}, RepCs β w I [c] us → ∃ u, us = [u] ∧ RepC β w I c u := by
      intro c us hr
      have hl := hr.1
      match us, hl with
      | [u], _ => exact ⟨u, rfl, hr.2 0 c u rfl rfl⟩
    have need : ∀ {e : TypeId} {s off : Nat} {c c' : List C} {q : List Value} {b : Bool}, eqT P d e (c.take s) (c'.take s) = some b → (RepCs β w I c (q.drop off) ∨ RepCs β w I c' (q.drop off)) → aggT P e = some false → off < q.length ∧ 1 ≤ s := by
      intro e s off c c' q b he hr hag
      obtain ⟨h1, h2⟩ := eqT_one he hag
      rw [List.length_take] at h1 h2
      rcases hr with hr | hr
      · have := hr.1; simp at this; omega
      · have := hr.1; simp at this; omega
    split at h
    · rename_i hu
      split at h
      · obtain ⟨u, rfl, hu1⟩ := single hx
        obtain ⟨v, rfl, hv1⟩ := single hy
        have e1 := RepD.v_eq hu1; have e2 := RepD.v_eq hv1
        subst e1 e2
        simp at h; subst h
        simp only [mkV, aggT, hu]
        exact run_equalIn_bool' w d' t _ _ hu
      · simp at h
    · rename_i k0 hu
      split at h
      · split at h
        · rename_i hk
          subst hk
          obtain ⟨u, rfl, hu1⟩ := single hx
          obtain ⟨v, rfl, hv1⟩ := single hy
          have e1 := RepD.v_eq hu1; have e2 := RepD.v_eq hv1
          subst e1 e2
          simp at h; subst h
          simp only [mkV, aggT, hu]
          exact run_equalIn_int w d' t _ k0 _ _ hu
        · simp at h
      · simp at h
    · rename_i hu
      split at h
      · obtain ⟨u, rfl, hu1⟩ := single hx
        obtain ⟨v, rfl, hv1⟩ := single hy
        have e1 := RepD.v_eq hu1; have e2 := RepD.v_eq hv1
        subst e1 e2
        simp at h; subst h
        simp only [mkV, aggT, hu]
        exact run_equalIn_string w d' t _ _ hu
      · simp at h
    · rename_i n e hu
      split at h
      · rename_i s hs hag
        have hsi := hs
        unfold sizeT at hsi
        cases hi : P.info? e with
        | none => simp [hi] at hsi
        | some info =>
          have hcell : P.cellsOf e = s := by simp [hi] at hsi; simp [Program.cellsOf, hi, hsi]
          have e0 : mkV P t us = .agg us.toArray := by simp [mkV, aggT, hu]
          have e1 : mkV P t vs = .agg vs.toArray := by simp [mkV, aggT, hu]
          rw [e0, e1, run_equalIn_array w d' us.toArray vs.toArray hu hi, hcell, List.range_eq_range']
          have key : ∀ (n j : Nat) (cx cy : List C) (r : Bool), eqN (eqT P d e) s n cx cy = some r → RepCs β w I cx (us.drop (j * s)) → RepCs β w I cy (vs.drop (j * s)) →
              (Op.eqItems d' e s us.toArray vs.toArray (List.range' j n)).run P w = .ok r w := by
            intro n
            induction n with
            | zero =>
              intro j cx cy r hh hcx hcy
              match cx, cy, hh with
              | [], [], hh => simp [eqN] at hh; subst hh; rfl
            | succ n ihn =>
              intro j cx cy r hh hcx hcy
              simp only [eqN] at hh
              split at hh
              · rename_i p q hp hq
                simp at hh
                have h1 := part_mk (w := w) (off := j * s) (vs := us) hs hag (need hp (.inl hcx))
                have h2 := part_mk (w := w) (off := j * s) (vs := vs) hs hag (need hp (.inr hcy))
                have h3 := ih e _ _ _ _ p d' (by omega) hp (hcx.take s) (hcy.take s)
                have h4 := ihn (j + 1) _ _ q hq (by have := hcx.drop s; rwa [List.drop_drop, show j * s + s = (j + 1) * s by rw [Nat.succ_mul]] at this) (by have := hcy.drop s; rwa [List.drop_drop, show j * s + s = (j + 1) * s by rw [Nat.succ_mul]] at this)
                simp only [List.range'_succ, Op.eqItems, Sem.run_bind, h1, h2, h3, Result.andThen_ok]
                cases p
                · simp at hh; subst hh; simp
                · simp at hh; subst hh; simpa using h4
              · simp at hh
          exact key n 0 cx cy r h (by simpa using hx) (by simpa using hy)
      · simp at h
    · rename_i fs hu
      split at h
      · simp at h
      · rename_i hst
        have e0 : mkV P t us = .agg us.toArray := by simp [mkV, aggT, hu]
        have e1 : mkV P t vs = .agg vs.toArray := by simp [mkV, aggT, hu]
        have hf : P.fieldsOf t = fs := by simp [Program.fieldsOf, hu]
        rw [e0, e1, run_equalIn_struct w d' t us.toArray vs.toArray (by rw [hf]; exact hu) (by simpa using hst), hf]
        have key : ∀ (fs : List Field) (off : Nat) (cx cy : List C) (r : Bool), eqFs (eqT P d) P fs off cx cy = some r → RepCs β w I cx (us.drop off) → RepCs β w I cy (vs.drop off) →
            (Op.eqFields d' us.toArray vs.toArray fs).run P w = .ok r w := by
          intro fs
          induction fs with
          | nil =>
            intro off cx cy r hh hcx hcy
            match cx, cy, hh with
            | [], [], hh => simp [eqFs] at hh; subst hh; rfl
          | cons f fs ihf =>
            intro off cx cy r hh hcx hcy
            simp only [eqFs] at hh
            split at hh
            · rename_i s hs hag
              split at hh
              · rename_i hc
                obtain ⟨rfl, hname⟩ := hc
                split at hh
                · rename_i p q hp hq
                  simp at hh
                  have h1 := part_mk (w := w) (off := f.offset) (vs := us) hs hag (need hp (.inl hcx))
                  have h2 := part_mk (w := w) (off := f.offset) (vs := vs) hs hag (need hp (.inr hcy))
                  have h3 := ih f.type _ _ _ _ p d' (by omega) hp (hcx.take s) (hcy.take s)
                  have h4 := ihf (f.offset + s) _ _ q hq (by have := hcx.drop s; rwa [List.drop_drop] at this) (by have := hcy.drop s; rwa [List.drop_drop] at this)
                  simp only [Op.eqFields, Sem.run_ite, hname, ne_eq, not_false_eq_true, if_true, Sem.run_bind, h1, h2, h3, Result.andThen_ok]
                  cases p
                  · simp at hh; subst hh; simp
                  · simp at hh; subst hh; simpa using h4
                · simp at hh
              · simp at hh
            · simp at hh
        exact key fs.toList 0 cx cy r h (by simpa using hx) (by simpa using hy)
    · simp at h

theorem binOp_ok {op : BinOp} {t t' : TypeId} {y z : Operand} (hρ : ∀ x, RepA β w I (ρ x) (ρv x)) (h : RelH β H I w) (hs : res P ⟨dst, .binOp op t y z t', ty, pos, after, guard⟩ ρ = some (true, a)) (hp : PerfR P q0 a H x H') :
    OpOk q0 β I w x H' ((execOp ρv ⟨dst, .binOp op t y z t', ty, pos, after, guard⟩).run P w) := by
  simp only [res] at hs
  split at hs
  · rename_i p q hy hz
    split at hs
    · rename_i r hr
      obtain ⟨x', rfl⟩ := val1_val hs
      obtain ⟨rfl, rfl⟩ := hp
      have e1 := plain_eq hy (hρ y)
      have e2 := plain_eq hz (hρ z)
      have hrun := pr_run P _ r hr w
      refine ok_val (v := r) ?_ (val1_rep hs).2 h
      simp only [execOp, e1, e2]
      rw [Sem.run_bind, hrun]
      rfl
    · simp at hs
  · rename_i xs ys hy hz
    have hvy := hρ y
    rw [hy] at hvy
    obtain ⟨us, hus, hru⟩ := hvy
    have hvz := hρ z
    rw [hz] at hvz
    obtain ⟨vs, hvs, hrv⟩ := hvz
    have go : ∀ r, eqT P 50 t xs ys = some r → aggT P t = some true → (Op.equalIn 10000 t (.agg us) (.agg vs)).run P w = .ok r w := by
      intro r hr hag
      have := eqT_run 50 t xs ys us.toList vs.toList r 10000 (by omega) hr hru hrv
      simpa [mkV, hag] using this
    split at hs
    · split at hs
      · rename_i r hr
        split at hs
        · rename_i hg
          obtain ⟨x', rfl⟩ := val1_val hs
          obtain ⟨rfl, rfl⟩ := hp
          refine ok_val (v := .bool r) ?_ (val1_rep hs).2 h
          have hrun := go r hr hg.2
          simp only [execOp, hus, hvs, Sem.run_bind, run_eqGuard_agg w _ t y z us vs hg.1, Result.andThen_ok, run_eql_struct, hrun]
          rfl
        · simp at hs
      · simp at hs
    · split at hs
      · rename_i r hr
        split at hs
        · rename_i hg
          obtain ⟨x', rfl⟩ := val1_val hs
          obtain ⟨rfl, rfl⟩ := hp
          refine ok_val (v := .bool !r) ?_ (val1_rep hs).2 h
          have hrun := go r hr hg.2
          simp only [execOp, hus, hvs, Sem.run_bind, run_eqGuard_agg w _ t y z us vs hg.1, Result.andThen_ok, run_neq_struct, hrun]
          rfl
        · simp at hs
      · simp at hs
    · simp at hs
  · simp at hs

theorem repF_map {l : List Operand} (hρ : ∀ x, RepA β w I (ρ x) (ρv x)) : RepF β w I (l.map ρ) (l.map ρv).toArray := by
  refine ⟨by simp, fun i x v h1 h2 => ?_⟩
  simp at h1 h2
  obtain ⟨o, ho, rfl⟩ := h1
  obtain ⟨o', ho', rfl⟩ := h2
  rw [ho] at ho'
  simp at ho'
  subst ho'
  exact hρ o

theorem call_ok {c : Call} {f : FuncId} {args : List AV} (hρ : ∀ x, RepA β w I (ρ x) (ρv x)) (hs : res P ⟨dst, .call c, ty, pos, after, guard⟩ ρ = some (true, .call f args)) :
    ∃ vs : Array Value, (execOp ρv ⟨dst, .call c, ty, pos, after, guard⟩).run P w = .ok (.enter f vs) w ∧ RepF β w I args vs := by
  simp only [res] at hs
  split at hs
  · rename_i g hc
    split at hs
    · rename_i f' hg
      split at hs
      · rename_i fn hfn
        split at hs
        · rename_i hb
          simp at hs
          obtain ⟨rfl, rfl⟩ := hs
          have e := plain_eq hg (hρ g)
          refine ⟨(c.args.toList.map ρv).toArray, ?_, repF_map hρ⟩
          have hn := hb.2
          have hbody : fn.body ≠ none := by intro hx; simp [hx] at hb
          have ea : (c.args.toList.map ρv).toArray = c.args.map ρv := by apply Array.ext'; simp
          simp [execOp, resolve, hc, e, Deferred.ofValue, invoke, callFunc, hfn, hn, hbody, ea]
        · simp at hs
      · simp at hs
    · simp at hs
  · split at hs
    · split at hs <;> simp at hs
    · simp at hs
  · split at hs <;> simp at hs
  · split at hs <;> simp at hs
  · simp at hs

theorem builtin_ok {c : Call} (hρ : ∀ x, RepA β w I (ρ x) (ρv x)) (h : RelH β H I w) (hs : res P ⟨dst, .call c, ty, pos, after, guard⟩ ρ = some (true, a)) (hp : PerfR P q0 a H x H') (hno : ∀ f args, a ≠ .call f args) :
    OpOk q0 β I w x H' ((execOp ρv ⟨dst, .call c, ty, pos, after, guard⟩).run P w) := by
  simp only [res] at hs
  split at hs
  · rename_i g hc
    split at hs
    · split at hs
      · split at hs
        · simp at hs; exact absurd hs.symm (hno _ _)
        · simp at hs
      · simp at hs
    · simp at hs
  · rename_i hc
    split at hs
    · rename_i t y ht hy
      have ht0 : c.argTypes[0]? = some t := ht
      have hy0 : c.args[0]? = some y := hy
      have hy1 : (c.args.map ρv)[0]? = some (ρv y) := by simp [hy0]
      split at hs
      · rename_i s hu hy'
        simp at hs; subst hs; obtain ⟨rfl, rfl⟩ := hp
        have e := plain_eq hy' (hρ y)
        refine ok_val (v := .int .i64 s.size) ?_ (.v _ rfl) h
        simp only [execOp, resolve, hc, Sem.run_bind, Sem.run_pure, Result.andThen_ok, invoke, builtin, Builtin.len_, ht0, hy1, run_underlying hu, e]
        rfl
      · rename_i e' n f hu hy'
        simp at hs; subst hs; obtain ⟨rfl, rfl⟩ := hp
        have hv := hρ y
        rw [hy'] at hv
        have hsl : ∃ b cap, ρv y = .slice b n cap := by
          have key : ∀ v, RepD w I (.sl n f) v → ∃ b cap, v = .slice b n cap := by
            intro v hr
            cases hr with
            | nil f => exact ⟨_, _, rfl⟩
            | emp f a cap => exact ⟨_, _, rfl⟩
            | sl => exact ⟨_, _, rfl⟩
          exact key _ hv
        obtain ⟨b, cap, e⟩ := hsl
        refine ok_val (v := .int .i64 n) ?_ (.v _ rfl) h
        simp only [execOp, resolve, hc, Sem.run_bind, Sem.run_pure, Result.andThen_ok, invoke, builtin, Builtin.len_, ht0, hy1, run_underlying hu, e]
        rfl
      · rename_i av n e' hu
        simp at hs; subst hs; obtain ⟨rfl, rfl⟩ := hp
        refine ok_val (v := .int .i64 n) ?_ (.v _ rfl) h
        simp only [execOp, resolve, hc, Sem.run_bind, Sem.run_pure, Result.andThen_ok, invoke, builtin, Builtin.len_, ht0, hy1, run_underlying hu]
        rfl
      · simp at hs
    · simp at hs
  · rename_i hc
    split at hs
    · rename_i k p k' q hargs
      simp at hs; subst hs; obtain ⟨rfl, rfl⟩ := hp
      have hlen : c.args.toList.length = 2 := by have := congrArg List.length hargs; simpa using this
      have : ∃ y z, c.args.toList = [y, z] := by
        match hl : c.args.toList, hlen with
        | [y, z], _ => exact ⟨y, z, rfl⟩
      obtain ⟨y, z, hl⟩ := this
      rw [hl] at hargs
      simp at hargs
      have e1 := plain_eq hargs.1 (hρ y)
      have e2 := plain_eq hargs.2 (hρ z)
      have ea : (c.args.map ρv).toList = [.int k p, .int k' q] := by simp [hl, e1, e2]
      refine ok_val (v := .int k (if q < p then q else p)) ?_ (.v _ rfl) h
      simp only [execOp, resolve, hc, Sem.run_bind, Sem.run_pure, Result.andThen_ok, invoke, builtin, Builtin.min_, ea]
      rfl
    · simp at hs
  · rename_i hc
    split at hs
    · rename_i k p k' q hargs
      simp at hs; subst hs; obtain ⟨rfl, rfl⟩ := hp
      have hlen : c.args.toList.length = 2 := by have := congrArg List.length hargs; simpa using this
      have : ∃ y z, c.args.toList = [y, z] := by
        match hl : c.args.toList, hlen with
        | [y, z], _ => exact ⟨y, z, rfl⟩
      obtain ⟨y, z, hl⟩ := this
      rw [hl] at hargs
      simp at hargs
      have e1 := plain_eq hargs.1 (hρ y)
      have e2 := plain_eq hargs.2 (hρ z)
      have ea : (c.args.map ρv).toList = [.int k p, .int k' q] := by simp [hl, e1, e2]
      refine ok_val (v := .int k (if q > p then q else p)) ?_ (.v _ rfl) h
      simp only [execOp, resolve, hc, Sem.run_bind, Sem.run_pure, Result.andThen_ok, invoke, builtin, Builtin.max_, ea]
      rfl
    · simp at hs
  · simp at hs
end
end Go.Ev
namespace Go.Ev
open Go.RowKit

section
variable {P : Program}

theorem op_ok {h0 : Nat} {β : Nat → Option Nat} {I : Nat → Nat → Prop} {w : World} {H H' : Hp} {ρ : Operand → AV} {ρv : Operand → Value} {o : Oper} {a : Do} {x : AV} (hn : β h0 = none) (hρ : ∀ x, RepA β w I (ρ x) (ρv x)) (h : RelH β H I w) (hs : res P o ρ = some (true, a)) (hp : PerfR P h0 a H x H') (hno : ∀ f args, a ≠ .call f args) :
    OpOk h0 β I w x H' ((execOp ρv o).run P w) := by
  obtain ⟨dst, op, ty, pos, after, guard⟩ := o
  cases op with
  | move y => simp [res] at hs; subst hs; obtain ⟨rfl, rfl⟩ := hp; exact ok_val (v := ρv y) (by simp [execOp]) (hρ y) h
  | assign y => simp [res] at hs; subst hs; obtain ⟨rfl, rfl⟩ := hp; exact ok_val (v := ρv y) (by simp [execOp]) (hρ y) h
  | pick c p q => exact pick_ok hρ h hs hp
  | alloc e => exact alloc_ok hn h hs hp
  | box e y => exact box_ok hn hρ h hs hp
  | build t parts => exact build_ok hρ h hs hp
  | load t y => exact load_ok hρ h hs hp
  | store t y z => exact store_ok hρ h hs hp
  | nilCheck y => exact nilCheck_ok hρ h hs hp
  | binOp op t y z t' => exact binOp_ok hρ h hs hp
  | unOp op t y => exact unOp_ok hρ h hs hp
  | convert s t y => exact convert_ok hρ h hs hp
  | fieldAddr s y f => exact fieldAddr_ok hρ h hs hp
  | field t y f => exact field_ok hρ h hs hp
  | indexAddr t y i => exact indexAddr_ok hρ h hs hp
  | index t y i => exact index_ok hρ h hs hp
  | extract y i => exact extract_ok hρ h hs hp
  | call c => exact builtin_ok hρ h hs hp hno
  | _ => simp [res] at hs

/-- one operation of a region, as a relation between abstract states -/
def StepR (P : Program) (ops : Array Oper) (i : Nat) (s : St) (act : Option Do) (s' : St) : Prop :=
  ∃ o, ops[i]? = some o ∧
    ((wantedA ops s.F o = some false ∧ act = none ∧ s' = ⟨put s.F o.dst (.tup []), s.H, s.nm⟩) ∨
     (wantedA ops s.F o = some true ∧ ∃ a x H', act = some a ∧ res P o (opA s.F) = some (true, a) ∧ PerfR P (s.nm + i) a s.H x H' ∧ s' = ⟨put s.F o.dst x, H', s.nm⟩))

structure Sim (β : Nat → Option Nat) (I : Nat → Nat → Prop) (s : St) (a : Act) (w : World) : Prop where
  frame : RepF β w I s.F a.tmps
  mem : RelH β s.H I w
  defers : a.defers = []
  free : ∀ h, s.nm ≤ h → β h = none

/-- inside a region of sz operations of which 'un' are still to come -/
structure SimR (un : List Nat) (sz : Nat) (β : Nat → Option Nat) (I : Nat → Nat → Prop) (s : St) (a : Act) (w : World) : Prop where
  frame : RepF β w I s.F a.tmps
  mem : RelH β s.H I w
  defers : a.defers = []
  free : ∀ j, j ∈ un ∨ sz ≤ j → β (s.nm + j) = none

theorem Sim.inside {β : Nat → Option Nat} {I : Nat → Nat → Prop} {s : St} {a : Act} {w : World} (h : Sim β I s a w) (un : List Nat) (sz : Nat) : SimR un sz β I s a w :=
  ⟨h.frame, h.mem, h.defers, fun j _ => h.free _ (by omega)⟩

theorem SimR.out {sz : Nat} {β : Nat → Option Nat} {I : Nat → Nat → Prop} {s : St} {a : Act} {w : World} (h : SimR [] sz β I s a w) : Sim β I ⟨s.F, s.H, s.nm + sz⟩ a w :=
  ⟨h.frame, h.mem, h.defers, fun k hk => by
    have hk' : s.nm + sz ≤ k := hk
    have := h.free (k - s.nm) (.inr (by omega)); rwa [show s.nm + (k - s.nm) = k by omega] at this⟩

theorem put_rep {β : Nat → Option Nat} {I : Nat → Nat → Prop} {w : World} {F : List AV} {a : Act} {x : AV} {v : Value} (h : RepF β w I F a.tmps) (hx : RepA β w I x v) (dst : Option Nat) : RepF β w I (put F dst x) (a.put dst v).tmps := by
  cases dst with
  | none => exact h
  | some d =>
    refine ⟨by simp [put, Act.put, h.1], fun i y u h1 h2 => ?_⟩
    simp only [put, Act.put] at h1 h2
    rw [List.getElem?_set] at h1
    rw [Array.getElem?_setIfInBounds] at h2
    by_cases hd : d = i
    · subst hd
      simp only [if_true] at h1 h2
      split at h1
      · split at h2
        · simp at h1 h2; subst h1 h2; exact hx
        · simp at h2
      · simp at h1
    · simp only [hd, if_false] at h1 h2
      exact h.2 i y u h1 h2

theorem undef_rep {β : Nat → Option Nat} {I : Nat → Nat → Prop} {w : World} : RepA β w I (.tup []) undef := ⟨#[], rfl, rfl, fun i p x h => by simp at h⟩

theorem RelH.nil {β : Nat → Option Nat} {I : Nat → Nat → Prop} {w : World} {H : Hp} (h : RelH β H I w) : RelH (fun _ => none) [] I w :=
  ⟨fun i j b hi => by simp at hi, fun k cs t hk => by simp [look] at hk, fun k b hk => by simp at hk, fun k b o hk => by simp at hk, h.old⟩

/-- behind a call that knew nothing of the caller's own memory -/
theorem RelH.after {β : Nat → Option Nat} {I I' : Nat → Nat → Prop} {w w' : World} {H : Hp} {β' : Nat → Option Nat} (h : RelH β H I w) (he : Ext (fun _ => none) I β' I' w w') (hold : ∀ b o, I' b o → b < w'.heap.size) :
    RelH β H I' w' ∧ Ext β I β I' w w' := by
  have hk : ∀ (k b : Nat), β k = some b → w'.heap[b]? = w.heap[b]? := fun k b hb => he.block b (h.lt k b hb) (by simp)
  refine ⟨⟨h.inj, ?_, fun k b hb => Nat.lt_of_lt_of_le (h.lt k b hb) he.size, ?_, hold⟩, ⟨he.os, he.tape, he.output, he.size, fun b hb _ => he.block b hb (by simp), he.keepI, he.cell, ?_, fun k _ hb => .inl ⟨k, hb⟩⟩⟩
  · intro k cs t hk'
    obtain ⟨b, vs, hb, hheap, hr⟩ := h.blk k cs t hk'
    exact ⟨b, vs, hb, by rw [hk k b hb]; exact hheap, hr.keep he.keepI he.cell (fun _ _ hx => hx)⟩
  · intro k b o hb hi
    rcases he.newI b o hi with h1 | h1 | ⟨x, h1⟩
    · exact h.off k b o hb h1
    · have := h.lt k b hb; omega
    · simp at h1
  · intro b o hi
    rcases he.newI b o hi with h1 | h1 | ⟨x, h1⟩
    · exact .inl h1
    · exact .inr (.inl h1)
    · simp at h1

theorem step_wp {ops : Array Oper} {i : Nat} {s s' : St} {act : Option Do} {un un' : List Nat} {sz : Nat} {β : Nat → Option Nat} {I : Nat → Nat → Prop} {a : Act} {w : World} {Q : Exit → Act → World → Prop} {K : Act → World → Prop}
    (hst : StepR P ops i s act s') (hsim : SimR un sz β I s a w) (hi : i ∈ un) (hisz : i < sz) (hun : ∀ j ∈ un', j ∈ un ∧ j ≠ i) (hK : ∀ β' I' a' w', SimR un' sz β' I' s' a' w' → Ext β I β' I' w w' → K a' w') : wpOp P ops Q i K a w := by
  obtain ⟨o, ho, hcase⟩ := hst
  unfold wpOp
  simp only [ho]
  have hfree : ∀ j, j ∈ un' ∨ sz ≤ j → β (s.nm + j) = none := fun j hj => hsim.free j (hj.imp (fun h => (hun j h).1) id)
  rcases hcase with ⟨hw, rfl, rfl⟩ | ⟨hw, d, x, H', rfl, hres, hperf, rfl⟩
  · rw [wantedA_rep hsim.frame hw]
    simp only [Bool.false_eq_true, if_false]
    exact hK β I _ w ⟨put_rep hsim.frame undef_rep _, hsim.mem, by cases o.dst <;> exact hsim.defers, hfree⟩ (.refl _ _ _)
  · rw [wantedA_rep hsim.frame hw]
    simp only [if_true]
    left
    unfold Oper.wp
    by_cases hcall : ∃ f args, d = .call f args
    · obtain ⟨f, args, rfl⟩ := hcall
      obtain ⟨rfl, hcl, hclx, Hc, hcr⟩ := hperf
      have hop : ∃ c, o.op = .call c := by
        obtain ⟨dst, op, ty, pos, after, guard⟩ := o
        cases op <;> simp only [res] at hres <;> first
          | exact ⟨_, rfl⟩
          | (exfalso; revert hres; (repeat' split) <;> simp [val1]; done)
          | (exfalso; revert hres; (repeat' split) <;> simp [val1] <;> (repeat' split) <;> simp)
      obtain ⟨dst, op, ty, pos, after, guard⟩ := o
      obtain ⟨c, hc⟩ := hop
      simp only at hc
      subst hc
      obtain ⟨vs, hrun, hvs⟩ := call_ok (P := P) (w := w) (ρv := a.eval) (fun x => opA_rep hsim.frame x) hres
      rw [hrun]
      simp only [Oper.upon]
      have hvs' : RepF (fun _ => none) w I args vs := ⟨hvs.1, fun j y v h1 h2 => (hvs.2 j y v h1 h2).any (List.all_eq_true.1 hcl y (List.mem_of_getElem? h1))⟩
      refine (hcr (fun _ => none) I w vs (fun _ _ => rfl) hsim.mem.nil hvs').mono ?_
      rintro e w' ⟨v, β', I', rfl, hrel, hrep, hext⟩
      obtain ⟨h1, h2⟩ := hsim.mem.after hext hrel.old
      refine hK β I' _ w' ⟨put_rep (h2.repF (fun _ _ h => h) hsim.frame) (hrep.any hclx) _, h1, ?_, hfree⟩ h2
      cases dst <;> exact hsim.defers
    · obtain ⟨nx, w', β', hrun, hnx, hrel, hext, hkB, hoth⟩ := op_ok (P := P) (ρv := a.eval) (hsim.free i (.inl hi)) (fun x => opA_rep hsim.frame x) hsim.mem hres hperf (fun f args e => hcall ⟨f, args, e⟩)
      have hfree' : ∀ j, j ∈ un' ∨ sz ≤ j → β' (s.nm + j) = none := fun j hj => by
        rw [hoth (s.nm + j) (by rcases hj with h1 | h1; · have := (hun j h1).2; omega
                                · omega)]
        exact hfree j hj
      rw [hrun]
      rcases hnx with ⟨v, rfl, hx⟩ | ⟨rfl, rfl⟩
      · simp only [Oper.upon]
        exact hK β' I _ w' ⟨put_rep (hext.repF hkB hsim.frame) hx _, hrel, by cases o.dst <;> exact hsim.defers, hfree'⟩ hext
      · simp only [Oper.upon]
        exact hK β' I _ w' ⟨put_rep (hext.repF hkB hsim.frame) undef_rep _, hrel, by cases o.dst <;> exact hsim.defers, hfree'⟩ hext

/-- operations one behind the other -/
def RunR (P : Program) (ops : Array Oper) : List Nat → St → List (Nat × Option Do) → St → Prop
  | [], s, tr, s' => tr = [] ∧ s' = s
  | i :: rest, s, tr, s' => ∃ act s1 tr', StepR P ops i s act s1 ∧ RunR P ops rest s1 tr' s' ∧ tr = (i, act) :: tr'

theorem StepR.nm {ops : Array Oper} {i : Nat} {s s' : St} {act : Option Do} (h : StepR P ops i s act s') : s'.nm = s.nm := by
  obtain ⟨o, _, ⟨_, _, rfl⟩ | ⟨_, _, _, _, _, _, _, rfl⟩⟩ := h <;> rfl

theorem RunR.nm {ops : Array Oper} : ∀ {l : List Nat} {s s' : St} {tr : List (Nat × Option Do)}, RunR P ops l s tr s' → s'.nm = s.nm
  | [], s, s', tr, h => by obtain ⟨_, rfl⟩ := h; rfl
  | i :: rest, s, s', tr, h => by obtain ⟨act, s1, tr', hst, hr, _⟩ := h; rw [hr.nm, hst.nm]

theorem run_wp {ops : Array Oper} {sz : Nat} {Q : Exit → Act → World → Prop} : ∀ (l : List Nat) {s s' : St} {tr : List (Nat × Option Do)} {β : Nat → Option Nat} {I : Nat → Nat → Prop} {a : Act} {w : World}, l.Nodup → (∀ j ∈ l, j < sz) →
    RunR P ops l s tr s' → SimR l sz β I s a w → (∀ β' I' a' w', SimR [] sz β' I' s' a' w' → Ext β I β' I' w w' → Q .normal a' w') → wpOps P ops Q l a w
  | [], s, s', tr, β, I, a, w, _, _, h, hsim, hQ => by
    obtain ⟨_, rfl⟩ := h
    exact hQ β I a w hsim (.refl _ _ _)
  | i :: rest, s, s', tr, β, I, a, w, hnd, hsz, h, hsim, hQ => by
    obtain ⟨act, s1, tr', hst, hrest, _⟩ := h
    rw [wpOps_cons]
    have hni := (List.nodup_cons.1 hnd).1
    exact step_wp hst hsim (by simp) (hsz i (by simp)) (un' := rest) (fun j hj => ⟨by simp [hj], fun e => hni (e ▸ hj)⟩) fun β1 I1 a1 w1 hs1 he1 =>
      run_wp rest (List.nodup_cons.1 hnd).2 (fun j hj => hsz j (by simp [hj])) hrest hs1 fun β2 I2 a2 w2 hs2 he2 => hQ β2 I2 a2 w2 hs2 (he1.trans he2)
end
end Go.Ev
namespace Go.Ev
open Go.RowKit

section
variable {P : Program} {ops : Array Oper}

theorem opA_put {F : List AV} {dst : Option Nat} {v : AV} {x : Operand} (h : ∀ d, dst = some d → x ≠ .tmp d) : opA (put F dst v) x = opA F x := by
  cases dst with
  | none => rfl
  | some d =>
    cases x with
    | tmp t =>
      have hne : d ≠ t := fun e => h d rfl (e ▸ rfl)
      simp [opA, put, List.getD, List.getElem?_set_ne hne]
    | _ => rfl

theorem res_congr {ρ ρ' : Operand → AV} (o : Oper) (h : ∀ x ∈ o.op.operands, ρ x = ρ' x) : res P o ρ = res P o ρ' := by
  obtain ⟨dst, op, type, pos, after, guard⟩ := o
  cases op <;> simp only [Op.operands] at h <;> simp only [res]
  case build t ps =>
    have e : (ps.toList.map fun p => (p.1, ρ p.2)) = (ps.toList.map fun p => (p.1, ρ' p.2)) := List.map_congr_left fun p hp => by
      rw [h p.2 (by simp; exact ⟨p.1, by simpa using hp⟩)]
    rw [e]
  case call c =>
    have ha : c.args.toList.map ρ = c.args.toList.map ρ' := List.map_congr_left fun x hx => h x (by simp [Call.operands]; right; simpa using hx)
    have h0 : ∀ x, c.args[0]? = some x → ρ x = ρ' x := fun x hx => h x (by simp [Call.operands]; right; exact Array.mem_of_getElem? hx)
    cases hc : c.callee with
    | value f => have hf : ρ f = ρ' f := h f (by simp [Call.operands, hc]); simp only [hf, ha]
    | invoke r m => rfl
    | builtin b =>
      cases b <;> first
        | rfl
        | (simp only [ha]; done)
        | (cases hx : c.args[0]? with
           | none => cases c.argTypes[0]? <;> rfl
           | some x => cases c.argTypes[0]? with
             | none => rfl
             | some t => simp only [h0 x hx])
  all_goals first
    | rfl
    | (simp only [h _ (by simp)]; done)
    | (simp_all; done)

theorem wantedA_put {F : List AV} {dst : Option Nat} {v : AV} {o : Oper} (h : ∀ d, dst = some d → d ∉ o.looksAt ops) : wantedA ops (put F dst v) o = wantedA ops F o := by
  cases dst with
  | none => rfl
  | some d =>
    unfold wantedA
    cases hg : o.guard with
    | none => rfl
    | some gw =>
      obtain ⟨g, want⟩ := gw
      simp only
      cases ht : (ops[g]?).bind (·.dst) with
      | none => rfl
      | some t =>
        have hne : d ≠ t := fun e => h d rfl (by subst e; simp [Oper.looksAt, hg, ht])
        simp [put, List.getD, List.getElem?_set_ne hne]

theorem res_put {F : List AV} {dst : Option Nat} {v : AV} {o : Oper} (h : ∀ d, dst = some d → d ∉ o.looksAt ops) : res P o (opA (put F dst v)) = res P o (opA F) :=
  res_congr o fun x hx => opA_put fun d hd hxd => h d hd (by
    subst hxd
    exact List.mem_append_left _ (List.mem_filterMap.2 ⟨.tmp d, by simpa using hx, rfl⟩))

theorem put_comm (F : List AV) {x y : Option Nat} (v z : AV) (h : ∀ d, x = some d → y ≠ some d) : put (put F x v) y z = put (put F y z) x v := by
  cases x with
  | none => rfl
  | some d =>
    cases y with
    | none => rfl
    | some e =>
      have hne : d ≠ e := fun he => h d rfl (he ▸ rfl)
      simp [put, List.set_comm _ _ hne]

/-- what becomes of memory -/
def HeapR (P : Program) (h : Nat) : Option Do → Hp → AV → Hp → Prop
  | none, H, x, H' => x = .tup [] ∧ H' = H
  | some a, H, x, H' => PerfR P h a H x H'

theorem StepR.heap {i : Nat} {s s' : St} {act : Option Do} (h : StepR P ops i s act s') :
    ∃ o x, ops[i]? = some o ∧ s' = ⟨put s.F o.dst x, s'.H, s.nm⟩ ∧ HeapR P (s.nm + i) act s.H x s'.H ∧
      ((act = none ∧ wantedA ops s.F o = some false) ∨ (∃ a, act = some a ∧ wantedA ops s.F o = some true ∧ res P o (opA s.F) = some (true, a))) := by
  obtain ⟨o, ho, ⟨hw, rfl, rfl⟩ | ⟨hw, a, x, H', rfl, hres, hperf, rfl⟩⟩ := h
  · exact ⟨o, .tup [], ho, rfl, ⟨rfl, rfl⟩, .inl ⟨rfl, hw⟩⟩
  · exact ⟨o, x, ho, rfl, hperf, .inr ⟨a, rfl, hw, hres⟩⟩

theorem StepR.mk {i : Nat} {s : St} {act : Option Do} {o : Oper} {x : AV} {H' : Hp} (ho : ops[i]? = some o) (hh : HeapR P (s.nm + i) act s.H x H')
    (hc : (act = none ∧ wantedA ops s.F o = some false) ∨ (∃ a, act = some a ∧ wantedA ops s.F o = some true ∧ res P o (opA s.F) = some (true, a))) : StepR P ops i s act ⟨put s.F o.dst x, H', s.nm⟩ := by
  refine ⟨o, ho, ?_⟩
  rcases hc with ⟨rfl, hw⟩ | ⟨a, rfl, hw, hres⟩
  · obtain ⟨rfl, rfl⟩ := hh; exact .inl ⟨hw, rfl, rfl⟩
  · exact .inr ⟨hw, a, x, H', rfl, hres, hh, rfl⟩

/-- actions that neither read nor change the evaluation's own memory -/
def isStatic : Option Do → Bool
  | none => true
  | some (.val _) => true
  | some (.call ..) => true
  | _ => false

theorem static_any {h : Nat} {act : Option Do} (hs : isStatic act = true) {H : Hp} {x : AV} {H' : Hp} (hh : HeapR P h act H x H') : H' = H ∧ ∀ K, HeapR P h act K x K := by
  cases act with
  | none => exact ⟨hh.2, fun K => ⟨hh.1, rfl⟩⟩
  | some a =>
    cases a with
    | val y => exact ⟨hh.2, fun K => ⟨hh.1, rfl⟩⟩
    | call f args => exact ⟨hh.1, fun K => ⟨rfl, hh.2⟩⟩
    | _ => simp [isStatic] at hs

theorem storeH_other {H H' : Hp} {h off : Nat} {cs : List C} (hs : storeH H h off cs = some H') : ∃ b, H' = ins h b H := by
  unfold storeH at hs
  split at hs
  · split at hs
    · simp at hs; exact ⟨_, hs.symm⟩
    · simp at hs
  · simp at hs

theorem loadH_ins {H : Hp} {h k off n : Nat} {ag : Bool} {b : Blk} (hne : h ≠ k) : loadH (ins k b H) h off n ag = loadH H h off n ag := by
  unfold loadH; rw [look_ins, if_neg hne]

theorem storeH_ins {H H' : Hp} {h k off : Nat} {cs : List C} {b : Blk} (hne : h ≠ k) (hs : storeH (ins k b H) h off cs = some H') : ∃ H1, storeH H h off cs = some H1 ∧ H' = ins k b H1 := by
  unfold storeH at hs ⊢
  rw [look_ins, if_neg hne] at hs
  split at hs
  · split at hs
    · rename_i hle
      simp at hs
      exact ⟨_, if_pos hle, by rw [← hs, ins_comm hne]⟩
    · simp at hs
  · simp at hs

theorem storeH_after {H H1 : Hp} {h k off : Nat} {cs : List C} {b : Blk} (hne : h ≠ k) (hs : storeH H h off cs = some H1) : storeH (ins k b H) h off cs = some (ins k b H1) := by
  unfold storeH at hs ⊢
  rw [look_ins, if_neg hne]
  split at hs
  · split at hs
    · rename_i hle; simp at hs; subst hs; simp only [if_pos hle, ins_comm hne]
    · simp at hs
  · simp at hs

theorem heap_comm {h1 h2 : Nat} {a1 a2 : Option Do} {H H1 H2 : Hp} {x1 x2 : AV} (p1 : HeapR P h1 a1 H x1 H1) (p2 : HeapR P h2 a2 H1 x2 H2) (hi : indepD h1 h2 a1 a2 = true) :
    ∃ K, HeapR P h2 a2 H x2 K ∧ HeapR P h1 a1 K x1 H2 := by
  by_cases hs1 : isStatic a1 = true
  · obtain ⟨rfl, hk⟩ := static_any hs1 p1
    exact ⟨H2, p2, hk H2⟩
  by_cases hs2 : isStatic a2 = true
  · obtain ⟨rfl, hk⟩ := static_any hs2 p2
    exact ⟨H, hk H, p1⟩
  cases a1 with
  | none => simp [isStatic] at hs1
  | some a1 =>
    cases a2 with
    | none => simp [isStatic] at hs2
    | some a2 =>
      cases a1 with
      | val y => simp [isStatic] at hs1
      | call f args => simp [isStatic] at hs1
      | load h off n ag =>
        obtain ⟨hl, rfl⟩ := p1
        cases a2 with
        | val y => simp [isStatic] at hs2
        | call f args => simp [isStatic] at hs2
        | load h' off' n' ag' => obtain ⟨hl', rfl⟩ := p2; exact ⟨_, ⟨hl', rfl⟩, ⟨hl, rfl⟩⟩
        | store h' off' cs =>
          obtain ⟨rfl, hst⟩ := p2
          have hne : h ≠ h' := by simpa [indepD] using hi
          obtain ⟨b, rfl⟩ := storeH_other hst
          exact ⟨_, ⟨rfl, hst⟩, ⟨by rw [loadH_ins hne]; exact hl, rfl⟩⟩
        | alloc cs t =>
          obtain ⟨rfl, rfl⟩ := p2
          have hne : h ≠ h2 := by simpa [indepD] using hi
          exact ⟨_, ⟨rfl, rfl⟩, ⟨by rw [loadH_ins hne]; exact hl, rfl⟩⟩
      | store h off cs =>
        obtain ⟨rfl, hst⟩ := p1
        cases a2 with
        | val y => simp [isStatic] at hs2
        | call f args => simp [isStatic] at hs2
        | load h' off' n' ag' =>
          obtain ⟨hl', rfl⟩ := p2
          have hne : h ≠ h' := by simpa [indepD] using hi
          obtain ⟨b, rfl⟩ := storeH_other hst
          rw [loadH_ins (Ne.symm hne)] at hl'
          exact ⟨_, ⟨hl', rfl⟩, ⟨rfl, hst⟩⟩
        | store h' off' cs' =>
          obtain ⟨rfl, hst'⟩ := p2
          have hne : h ≠ h' := by simpa [indepD] using hi
          obtain ⟨b, rfl⟩ := storeH_other hst
          obtain ⟨K, hK, rfl⟩ := storeH_ins (Ne.symm hne) hst'
          obtain ⟨b', rfl⟩ := storeH_other hK
          refine ⟨_, ⟨rfl, hK⟩, ⟨rfl, ?_⟩⟩
          rw [storeH_after hne hst, ins_comm hne]
        | alloc cs' t =>
          obtain ⟨rfl, rfl⟩ := p2
          have hne : h ≠ h2 := by simpa [indepD] using hi
          exact ⟨_, ⟨rfl, rfl⟩, ⟨rfl, storeH_after hne hst⟩⟩
      | alloc cs t =>
        obtain ⟨rfl, rfl⟩ := p1
        cases a2 with
        | val y => simp [isStatic] at hs2
        | call f args => simp [isStatic] at hs2
        | load h' off' n' ag' =>
          obtain ⟨hl', rfl⟩ := p2
          have hne : h1 ≠ h' := by simpa [indepD] using hi
          rw [loadH_ins (Ne.symm hne)] at hl'
          exact ⟨_, ⟨hl', rfl⟩, ⟨rfl, rfl⟩⟩
        | store h' off' cs' =>
          obtain ⟨rfl, hst'⟩ := p2
          have hne : h1 ≠ h' := by simpa [indepD] using hi
          obtain ⟨K, hK, rfl⟩ := storeH_ins (Ne.symm hne) hst'
          exact ⟨_, ⟨rfl, hK⟩, ⟨rfl, rfl⟩⟩
        | alloc cs' t' =>
          obtain ⟨rfl, rfl⟩ := p2
          have hne : h1 ≠ h2 := by simpa [indepD] using hi
          exact ⟨_, ⟨rfl, rfl⟩, ⟨rfl, ins_comm (Ne.symm hne) _ _ _⟩⟩

theorem step_comm {i j : Nat} {a1 a2 : Option Do} {s s1 s2 : St} (h1 : StepR P ops i s a1 s1) (h2 : StepR P ops j s1 a2 s2) (hi : indep ops s.nm (i, a1) (j, a2) = true) :
    ∃ t, StepR P ops j s a2 t ∧ StepR P ops i t a1 s2 := by
  obtain ⟨o, x, ho, hF1, hH1, hc1⟩ := h1.heap
  obtain ⟨p, y, hp, hF2, hH2, hc2⟩ := h2.heap
  simp only [indep, ho, hp, Bool.and_eq_true] at hi
  obtain ⟨hap, hD⟩ := hi
  obtain ⟨k1, k2, k3⟩ := Oper.apart_spec hap
  have enm : s1.nm = s.nm := h1.nm
  rw [enm] at hH2
  obtain ⟨K, hK1, hK2⟩ := heap_comm hH1 hH2 hD
  have eF : s1.F = put s.F o.dst x := by rw [hF1]
  rw [eF, wantedA_put k1, res_put k1] at hc2
  refine ⟨⟨put s.F p.dst y, K, s.nm⟩, .mk hp hK1 hc2, ?_⟩
  have hfin : s2 = ⟨put (put s.F p.dst y) o.dst x, s2.H, s.nm⟩ := by
    rw [hF2, eF, enm, put_comm _ _ _ k2]
  rw [hfin]
  exact .mk (s := ⟨put s.F p.dst y, K, s.nm⟩) ho hK2 (by simpa only [wantedA_put k3, res_put k3] using hc1)

theorem move_front : ∀ (A : List Nat) {i : Nat} {B : List Nat} {s s' : St} {tr : List (Nat × Option Do)}, RunR P ops (A ++ i :: B) s tr s' →
    ∃ trA act trB, tr = trA ++ (i, act) :: trB ∧ trA.map (·.1) = A ∧ ((∀ x ∈ trA, indep ops s.nm x (i, act) = true) → ∃ s1, StepR P ops i s act s1 ∧ RunR P ops (A ++ B) s1 (trA ++ trB) s')
  | [], i, B, s, s', tr, h => by
    obtain ⟨act, s1, tr', hst, hr, rfl⟩ := h
    exact ⟨[], act, tr', rfl, rfl, fun _ => ⟨s1, hst, hr⟩⟩
  | a :: A, i, B, s, s', tr, h => by
    obtain ⟨act0, s0, tr', hst0, hr, rfl⟩ := h
    obtain ⟨trA, act, trB, rfl, hmap, himp⟩ := move_front A hr
    refine ⟨(a, act0) :: trA, act, trB, rfl, by simp [hmap], fun hind => ?_⟩
    obtain ⟨s1, hst1, hr1⟩ := himp fun x hx => by rw [hst0.nm]; exact hind x (by simp [hx])
    obtain ⟨t, ht1, ht2⟩ := step_comm hst0 hst1 (hind (a, act0) (by simp))
    exact ⟨t, ht1, act0, s1, trA ++ trB, ht2, hr1, rfl⟩

theorem commutes_mid {nm : Nat} {ms : List Nat} : ∀ {A : List (Nat × Option Do)} {x : Nat × Option Do} {B : List (Nat × Option Do)}, commutes ops nm ms (A ++ x :: B) = true →
    commutes ops nm ms (A ++ B) = true ∧ ∀ y ∈ A, ((ms.getD x.1 0).testBit y.1 || indep ops nm y x) = true
  | [], x, B, h => by simp only [List.nil_append, commutes, Bool.and_eq_true] at h; exact ⟨h.2, fun y hy => by simp at hy⟩
  | y :: A, x, B, h => by
    simp only [List.cons_append, commutes, Bool.and_eq_true] at h
    obtain ⟨h1, h2⟩ := commutes_mid h.2
    have h3 := List.all_eq_true.1 h.1
    refine ⟨?_, fun z hz => ?_⟩
    · simp only [List.cons_append, commutes, Bool.and_eq_true]
      exact ⟨List.all_eq_true.2 fun z hz => h3 z (by simp at hz ⊢; rcases hz with hz | hz <;> simp [hz]), h1⟩
    · simp at hz
      rcases hz with rfl | hz
      · exact h3 x (by simp)
      · exact h2 z hz

/-- whatever a mask holds has been carried out where every mask's operations have -/
theorem mask_listed {listed : Array Bool} {acc : List Nat} (hacc : ∀ (j i : Nat), (∀ o e, ops[j]? = some o → e ∈ o.after → Region.binds .any e = true → listed.getD e.on false = true) → (acc.getD j 0).testBit i = true → listed.getD i false = true)
    (hcl : ∀ (j : Nat) o e, listed.getD j false = true → ops[j]? = some o → e ∈ o.after → Region.binds .any e = true → listed.getD e.on false = true)
    {o : Oper} (hpre : ∀ e ∈ o.after, Region.binds .any e = true → listed.getD e.on false = true) {i : Nat} (h : (mask acc o).testBit i = true) : listed.getD i false = true := by
  unfold mask at h
  have key : ∀ (l : List Edge) (s : Nat), (∀ e ∈ l, Region.binds .any e = true → listed.getD e.on false = true) → (s.testBit i = true → listed.getD i false = true) →
      (l.foldl (fun s e => bif Region.binds .any e then s ||| (2 ^ e.on ||| acc.getD e.on 0) else s) s).testBit i = true → listed.getD i false = true := by
    intro l
    induction l with
    | nil => intro s _ hs h; exact hs h
    | cons e l ih =>
      intro s hl hs h
      simp only [List.foldl_cons] at h
      refine ih _ (fun e' he' => hl e' (by simp [he'])) ?_ h
      cases hb : Region.binds .any e with
      | false => simpa [hb] using hs
      | true =>
        intro ht
        simp only [cond_true, Nat.testBit_or, Bool.or_eq_true] at ht
        have hon := hl e (by simp) hb
        rcases ht with h1 | h1 | h1
        · exact hs h1
        · rw [Nat.testBit_two_pow] at h1
          have : e.on = i := by simpa using h1
          rw [← this]; exact hon
        · exact hacc e.on i (fun o' e' ho' he' hb' => hcl e.on o' e' hon ho' he' hb') h1
  exact key o.after.toList 0 (fun e he => hpre e (by simpa using he)) (fun h => by simp at h) h

theorem masks_listed {listed : Array Bool} (hcl : ∀ (j : Nat) o e, listed.getD j false = true → ops[j]? = some o → e ∈ o.after → Region.binds .any e = true → listed.getD e.on false = true) :
    ∀ (l : List Oper) (acc : List Nat), (∀ (k : Nat) o, l[k]? = some o → ops[acc.length + k]? = some o) →
      (∀ (j i : Nat), (∀ o e, ops[j]? = some o → e ∈ o.after → Region.binds .any e = true → listed.getD e.on false = true) → (acc.getD j 0).testBit i = true → listed.getD i false = true) →
      ∀ (j i : Nat), (∀ o e, ops[j]? = some o → e ∈ o.after → Region.binds .any e = true → listed.getD e.on false = true) → ((masks l acc).getD j 0).testBit i = true → listed.getD i false = true
  | [], acc, _, hacc => hacc
  | o :: r, acc, hops, hacc => by
    refine masks_listed hcl r (acc ++ [mask acc o]) (fun k o' hk => ?_) ?_
    · have := hops (k + 1) o' (by simpa using hk)
      rw [List.length_append, List.length_singleton, Nat.add_assoc, Nat.add_comm 1 k]
      exact this
    · intro j i hj h
      rw [List.getD] at h
      by_cases hlt : j < acc.length
      · refine hacc j i hj ?_
        rw [List.getElem?_append_left hlt] at h
        rw [List.getD]
        exact h
      · rw [List.getElem?_append_right (by omega)] at h
        rcases Nat.eq_zero_or_pos (j - acc.length) with h0 | h0
        · rw [h0] at h
          have hj0 : j = acc.length := by omega
          have ho : ops[j]? = some o := by rw [hj0]; exact hops 0 o (by simp)
          exact mask_listed hacc hcl (fun e he hb => hj o e ho he hb) (by simpa using h)
        · rw [List.getElem?_eq_none (by simp; omega)] at h
          simp at h

theorem any_wp {Q : Exit → Act → World → Prop} (hdown : edgesDown ops = true) : ∀ (fuel : Nat) (R : List Nat) {listed : Array Bool} {s s' : St} {tr : List (Nat × Option Do)} {β : Nat → Option Nat} {I : Nat → Nat → Prop} {a : Act} {w : World},
    R.length ≤ fuel → R.Pairwise (· < ·) → (∀ j, j ∈ R ↔ listed.getD j true = false) → (∀ j, listed.getD j false = true ∨ listed.getD j true = false ∨ ops.size ≤ j) → (∀ j ∈ R, j < ops.size) →
    (∀ (j : Nat) o e, listed.getD j false = true → ops[j]? = some o → e ∈ o.after → Region.binds .any e = true → listed.getD e.on false = true) →
    RunR P ops R s tr s' → commutes ops s.nm (masks ops.toList []) tr = true → SimR R ops.size β I s a w → (∀ β' I' a' w', SimR [] ops.size β' I' s' a' w' → Ext β I β' I' w w' → Q .normal a' w') → wpAny P .any ops Q fuel listed a w := by
  have hd : ∀ (j : Nat) o e, ops[j]? = some o → e ∈ o.after → Region.binds .any e = true → e.on < j := by
    intro j o e ho he hb
    have h1 := List.all_eq_true.1 hdown (o, j) (by
      rw [List.mem_zipIdx_iff_getElem?]
      simpa using ho)
    have h2 := List.all_eq_true.1 h1 e (by simpa using he)
    simpa [hb] using h2
  have headReady : ∀ (i : Nat) (R : List Nat) (listed : Array Bool) {s s' : St} {tr : List (Nat × Option Do)}, (i :: R).Pairwise (· < ·) → (∀ j, j ∈ i :: R ↔ listed.getD j true = false) → (∀ j, listed.getD j false = true ∨ listed.getD j true = false ∨ ops.size ≤ j) →
      RunR P ops (i :: R) s tr s' → i ∈ Region.ready .any ops listed := by
    intro i R listed s s' tr hs hR hall hr
    obtain ⟨act, s1, tr', ⟨o, ho, _⟩, _, _⟩ := hr
    refine mem_ready.2 ⟨(hR i).1 (by simp), o, ho, fun e he hb => ?_⟩
    have hlt := hd i o e ho he hb
    rcases hall e.on with h1 | h1 | h1
    · exact h1
    · have hm := (hR e.on).2 h1
      simp at hm
      rcases hm with h2 | h2
      · omega
      · have := List.rel_of_pairwise_cons hs h2; omega
    · have := (Array.getElem?_eq_some_iff.1 ho).1; omega
  intro fuel
  induction fuel with
  | zero =>
    intro R listed s s' tr β I a w hlen hs hR hall hsz hcl hr hcm hsim hQ
    have : R = [] := List.eq_nil_of_length_eq_zero (by omega)
    subst this
    obtain ⟨_, rfl⟩ := hr
    refine ⟨?_, hQ β I a w hsim (.refl _ _ _)⟩
    apply List.eq_nil_iff_forall_not_mem.2
    intro i hi
    have := (hR i).2 (mem_ready.1 hi).1
    simp at this
  | succ fuel ih =>
    intro R listed s s' tr β I a w hlen hs hR hall hsz hcl hr hcm hsim hQ
    refine ⟨fun hnil => ?_, fun i hi => ?_⟩
    · cases R with
      | nil => obtain ⟨_, rfl⟩ := hr; exact hQ β I a w hsim (.refl _ _ _)
      | cons i R => have := headReady i R listed hs hR hall hr; rw [hnil] at this; simp at this
    · obtain ⟨hun, o, ho, hpre⟩ := mem_ready.1 hi
      have hmem := (hR i).2 hun
      obtain ⟨A, B, rfl⟩ := List.append_of_mem hmem
      obtain ⟨trA, act, trB, rfl, hmap, himp⟩ := move_front A hr
      obtain ⟨hcm', hpair⟩ := commutes_mid hcm
      have hreach : ∀ x ∈ trA, ((masks ops.toList []).getD i 0).testBit x.1 = false := by
        intro x hx
        cases hre : ((masks ops.toList []).getD i 0).testBit x.1 with
        | false => rfl
        | true =>
          have hl := masks_listed hcl ops.toList [] (fun k o' hk => by simpa using hk) (fun j i' _ h => by simp at h) i x.1 (fun o' e ho' he hb => by rw [ho] at ho'; simp at ho'; subst ho'; exact hpre e he hb) hre
          have hxA : x.1 ∈ A := by rw [← hmap]; exact List.mem_map_of_mem hx
          have hxu := (hR x.1).1 (by simp [hxA])
          rcases Nat.lt_or_ge x.1 listed.size with h' | h'
          · simp [h'] at hl hxu; rw [hl] at hxu; cases hxu
          · simp [Array.getElem?_eq_none h'] at hl
      obtain ⟨s1, hst, hr'⟩ := himp fun x hx => by have := hpair x hx; rw [hreach x hx] at this; simpa using this
      have hisz : i < listed.size := by
        rcases Nat.lt_or_ge i listed.size with h' | h'
        · exact h'
        · simp [Array.getElem?_eq_none h'] at hun
      have hnot : i ∉ A ++ B := by
        intro hm
        simp at hm
        have hp := List.pairwise_append.1 hs
        rcases hm with hm | hm
        · have := hp.2.2 i hm i (by simp); omega
        · have := List.rel_of_pairwise_cons hp.2.1 hm; omega
      refine step_wp hst hsim hmem (hsz i hmem) (un' := A ++ B) (fun j hj => ⟨by simp at hj ⊢; rcases hj with h1 | h1 <;> simp [h1], fun e => hnot (e ▸ hj)⟩) fun β1 I1 a1 w1 hs1 he1 => ih (A ++ B) (listed := listed.setIfInBounds i true) ?_ ?_ ?_ ?_ ?_ ?_ hr' (by rw [hst.nm]; exact hcm') hs1 fun β2 I2 a2 w2 hs2 he2 => hQ β2 I2 a2 w2 hs2 (he1.trans he2)
      · simp at hlen ⊢; omega
      · exact hs.sublist (by simp)
      · intro j
        by_cases hji : j = i
        · subst hji
          simp [hnot, hisz]
        · rw [getD_set_ne true (Ne.symm hji), ← hR j]
          simp [hji]
      · intro j
        by_cases hji : j = i
        · subst hji; left; simp [hisz]
        · rw [getD_set_ne true (Ne.symm hji), getD_set_ne false (Ne.symm hji)]; exact hall j
      · intro j hj
        exact hsz j (by simp at hj ⊢; rcases hj with h1 | h1 <;> simp [h1])
      · intro j o' e hj ho' he hb
        by_cases hji : j = i
        · subst hji
          rw [ho] at ho'; simp at ho'; subst ho'
          exact getD_set_true (hpre e he hb)
        · rw [getD_set_ne false (Ne.symm hji)] at hj
          exact getD_set_true (hcl j o' e hj ho' he hb)
end
end Go.Ev
namespace Go.Ev
open Go.RowKit

/-- an oracle that answers only what is so -/
def OrcOk (P : Program) (orc : Orc) : Prop :=
  ∀ (R : Type) (f : FuncId) (args : List AV) (k : AV → Option R) (r : R), orc R f args k = some r → ∃ x Hc, k x = some r ∧ CR P f args [] x Hc

section
variable {P : Program} {orc : Orc} {R : Type}

theorem guardK_ok {ops : Array Oper} {F : List AV} {o : Oper} {yes no : List AV → Option R} {r : R} (h : guardK ops F o yes no = some r) :
    (wantedA ops F o = some true ∧ yes F = some r) ∨ (wantedA ops F o = some false ∧ no F = some r) := by
  unfold guardK at h
  unfold wantedA
  cases hg : o.guard with
  | none => simp only [hg] at h; exact .inl ⟨rfl, h⟩
  | some gw =>
    obtain ⟨j, want⟩ := gw
    simp only [hg] at h
    cases hd : (ops[j]?).bind (·.dst) with
    | none => simp only [hd] at h ⊢; exact .inr ⟨trivial, h⟩
    | some t =>
      simp only [hd] at h ⊢
      have hset : ∀ b, F.getD t .u = .c (.d (.v (.bool b))) → F.set t (.c (.d (.v (.bool b)))) = F := by
        intro b hb
        have hlt : t < F.length := by
          rcases Nat.lt_or_ge t F.length with hl | hl
          · exact hl
          · simp [List.getD, List.getElem?_eq_none hl] at hb
        have e : F[t] = .c (.d (.v (.bool b))) := by simpa [List.getD, hlt] using hb
        rw [← e]
        exact List.set_getElem_self hlt
      generalize hb : F.getD t .u = y at h ⊢
      match y, hb, h with
      | .tup [], hb, h => exact .inr ⟨rfl, h⟩
      | .tup (_ :: _), hb, h => simp at h
      | .agg _, hb, h => simp at h
      | .u, hb, h => simp at h
      | .c (.ptr _ _), hb, h => simp at h
      | .c (.ip _), hb, h => simp at h
      | .c (.d (.sl _ _)), hb, h => simp at h
      | .c (.d (.v x)), hb, h =>
        cases x with
        | bool b =>
          cases b with
          | true =>
            simp only [cond_true] at h
            rw [hset true hb] at h
            cases want
            · exact .inr ⟨rfl, h⟩
            · exact .inl ⟨rfl, h⟩
          | false =>
            simp only [cond_false] at h
            rw [hset false hb] at h
            cases want
            · exact .inl ⟨rfl, h⟩
            · exact .inr ⟨rfl, h⟩
        | _ => simp at h

theorem perfK_ok (ho : OrcOk P orc) {h0 : Nat} {a : Do} {H : Hp} {k : AV → Hp → Option R} {r : R} (h : perfK orc h0 a H k = some r) : ∃ x H', k x H' = some r ∧ PerfR P h0 a H x H' := by
  cases a with
  | val x => exact ⟨x, H, h, rfl, rfl⟩
  | load h' off n ag =>
    simp only [perfK] at h
    split at h
    · rename_i x hx; exact ⟨x, H, h, hx, rfl⟩
    · simp at h
  | store h' off cs =>
    simp only [perfK] at h
    split at h
    · rename_i H' hx; exact ⟨.tup [], H', h, rfl, hx⟩
    · simp at h
  | alloc cs t => exact ⟨_, _, h, rfl, rfl⟩
  | call f args =>
    simp only [perfK] at h
    cases hc : args.all closed with
    | false => simp [hc] at h
    | true =>
      simp only [hc, cond_true] at h
      obtain ⟨x, Hc, hk, hcr⟩ := ho _ _ _ _ _ h
      cases hx : closed x with
      | false => simp [hx] at hk
      | true => simp only [hx, cond_true] at hk; exact ⟨x, H, hk, rfl, hc, hx, Hc, hcr⟩

theorem stepK_ok (ho : OrcOk P orc) {ops : Array Oper} {i : Nat} {s : St} {k : Option Do → St → Option R} {r : R} (h : stepK P orc ops i s k = some r) : ∃ act s', k act s' = some r ∧ StepR P ops i s act s' := by
  unfold stepK at h
  split at h
  · simp at h
  · rename_i o hop
    rcases guardK_ok h with ⟨hw, h⟩ | ⟨hw, h⟩
    · split at h
      · simp at h
      · rename_i ok a hres
        cases ok with
        | false => simp at h
        | true =>
          simp only [cond_true] at h
          obtain ⟨x, H', hk, hp⟩ := perfK_ok ho h
          exact ⟨some a, _, hk, o, hop, .inr ⟨hw, a, x, H', rfl, hres, hp, rfl⟩⟩
    · exact ⟨none, _, h, o, hop, .inl ⟨hw, rfl, rfl⟩⟩

theorem opsK_ok (ho : OrcOk P orc) {ops : Array Oper} : ∀ (l : List Nat) {tr : List (Nat × Option Do)} {s : St} {k : List (Nat × Option Do) → St → Option R} {r : R}, opsK P orc ops l tr s k = some r →
    ∃ tr' s', k (tr ++ tr') s' = some r ∧ RunR P ops l s tr' s'
  | [], tr, s, k, r, h => ⟨[], s, by simpa [opsK] using h, rfl, rfl⟩
  | i :: rest, tr, s, k, r, h => by
    simp only [opsK] at h
    obtain ⟨act, s1, hk, hst⟩ := stepK_ok ho h
    obtain ⟨tr', s', hk', hr⟩ := opsK_ok ho rest hk
    exact ⟨(i, act) :: tr', s', by simpa using hk', act, s1, tr', hst, hr, rfl⟩

def Out.toExit : Out → Exit
  | .norm => .normal
  | .exit id => .exit id
  | .ret => .ret

/-- the code comes from a state to a way out and a state -/
def Rch (P : Program) (c : Code) (s : St) (out : Out) (s' : St) : Prop :=
  ∀ (β : Nat → Option Nat) (I : Nat → Nat → Prop) (a : Act) (w : World) (Q : Exit → Act → World → Prop), Sim β I s a w →
    (∀ β' I' a' w', Sim β' I' s' a' w' → Ext β I β' I' w w' → Q out.toExit a' w') → c.wp P Q a w

theorem Sim.drew {β : Nat → Option Nat} {I : Nat → Nat → Prop} {s : St} {a : Act} {w : World} (h : Sim β I s a w) : Sim β I s a w.drew ∧ Ext β I β I w w.drew := by
  have e : Ext β I β I w w.drew := ⟨rfl, rfl, rfl, Nat.le_refl _, fun _ _ _ => rfl, fun _ _ hi => hi, fun _ _ _ => rfl, fun _ _ hi => .inl hi, fun x _ hb => .inl ⟨x, hb⟩⟩
  refine ⟨⟨e.repF (fun _ _ h => h) h.frame, ⟨h.mem.inj, ?_, h.mem.lt, h.mem.off, h.mem.old⟩, h.defers, h.free⟩, e⟩
  intro k cs t hk
  obtain ⟨b, vs, hb, hheap, hr⟩ := h.mem.blk k cs t hk
  exact ⟨b, vs, hb, hheap, hr.keep e.keepI e.cell (fun _ _ h => h)⟩

theorem regionK_ok (ho : OrcOk P orc) {id : Nat} {ops : Array Oper} {draw : Bool} {s : St} {k : Out → St → Option R} {r : R} (h : regionK P orc ops draw s k = some r) :
    ∃ s', k .norm s' = some r ∧ Rch P (.region id ops draw) s .norm s' := by
  unfold regionK at h
  obtain ⟨tr, s', hk, hr⟩ := opsK_ok ho _ h
  simp only [List.nil_append] at hk
  have hnm := hr.nm
  have hlt : ∀ j ∈ List.range ops.size, j < ops.size := fun j hj => by simpa using hj
  cases draw with
  | false =>
    simp only [Bool.not_false, Bool.true_or, cond_true] at hk
    rw [← hnm] at hk
    exact ⟨_, hk, fun β I a w Q hsim hQ => wp_region (run_wp _ List.nodup_range hlt hr (hsim.inside _ _) fun β' I' a' w' h1 h2 => hQ β' I' a' w' h1.out h2)⟩
  | true =>
    cases hc : (commutes ops s.nm (masks ops.toList []) tr && edgesDown ops && P.follows .mixedOrders) with
    | false => simp [hc] at hk
    | true =>
      simp only [hc, Bool.not_true, Bool.false_or, cond_true] at hk
      simp only [Bool.and_eq_true] at hc
      rw [← hnm] at hk
      refine ⟨_, hk, fun β I a w Q hsim hQ => wp_region_any hc.2 ?_⟩
      obtain ⟨hs1, he1⟩ := hsim.drew
      refine any_wp hc.1.2 ops.size (List.range ops.size) (by simp) List.pairwise_lt_range ?_ ?_ hlt ?_ hr hc.1.1 (hs1.inside _ _) fun β' I' a' w' h1 h2 => hQ β' I' a' w' h1.out (he1.trans h2)
      · intro j
        by_cases hj : j < ops.size <;> simp [hj]
      · intro j
        by_cases hj : j < ops.size
        · simp [hj]
        · right; right; omega
      · intro j o e hj
        exfalso
        by_cases hj' : j < ops.size <;> simp [hj'] at hj

/-- names from a number on are let go -/
def cut (β : Nat → Option Nat) (n : Nat) : Nat → Option Nat := fun k => if k < n then β k else none

theorem cut_eq {β : Nat → Option Nat} {n k b : Nat} (h : cut β n k = some b) : k < n ∧ β k = some b := by
  unfold cut at h
  split at h
  · rename_i hk; exact ⟨hk, h⟩
  · simp at h

theorem RepC.cut {β : Nat → Option Nat} {I : Nat → Nat → Prop} {w : World} {n : Nat} {x : C} {v : Value} (hx : cBelow n x = true) (h : RepC β w I x v) : RepC (Ev.cut β n) w I x v := by
  cases x with
  | d x => exact h
  | ptr k off =>
    obtain ⟨b, hb, hv⟩ := h
    have hk : k < n := by simpa [cBelow, bltD] using hx
    exact ⟨b, by simp [Ev.cut, hk, hb], hv⟩
  | ip cs => exact h

theorem RepCs.cut {β : Nat → Option Nat} {I : Nat → Nat → Prop} {w : World} {n : Nat} {cs : List C} {vs : List Value} (hx : cs.all (cBelow n) = true) (h : RepCs β w I cs vs) : RepCs (Ev.cut β n) w I cs vs :=
  ⟨h.1, fun i c v h1 h2 => (h.2 i c v h1 h2).cut (List.all_eq_true.1 hx c (List.mem_of_getElem? h1))⟩

theorem RepA.cut {β : Nat → Option Nat} {I : Nat → Nat → Prop} {w : World} {n : Nat} {x : AV} {v : Value} (hx : aBelow n x = true) (h : RepA β w I x v) : RepA (Ev.cut β n) w I x v := by
  cases x with
  | c x => exact RepC.cut hx h
  | agg cs => obtain ⟨vs, hv, hr⟩ := h; exact ⟨vs, hv, hr.cut hx⟩
  | tup ps =>
    obtain ⟨vs, hv, hl, hr⟩ := h
    refine ⟨vs, hv, hl, fun i p x h1 h2 => ?_⟩
    have hp := List.all_eq_true.1 hx p (List.mem_of_getElem? h1)
    have hr' := hr i p x h1 h2
    obtain ⟨t, cs⟩ := p
    cases t with
    | true => obtain ⟨us, hu, hc⟩ := hr'; exact ⟨us, hu, hc.cut hp⟩
    | false =>
      obtain ⟨c, hcs, hc⟩ := hr'
      have hcs' : cs = [c] := hcs
      subst hcs'
      exact ⟨c, rfl, hc.cut (by simpa using hp)⟩
  | u => trivial

theorem keepF_get (l : List Nat) : ∀ (F : List AV) (j i : Nat) (x : AV), (keepF l j F)[i]? = some x → F[i]? = some x ∨ x = .u
  | [], j, i, x, h => by simp [keepF] at h
  | y :: F, j, i, x, h => by
    simp only [keepF] at h
    cases i with
    | zero => simp at h; cases hc : l.contains j <;> simp_all
    | succ i => simp at h; simpa using keepF_get l F (j + 1) i x h

theorem keepF_len (l : List Nat) : ∀ (F : List AV) (j : Nat), (keepF l j F).length = F.length
  | [], j => rfl
  | y :: F, j => by simp [keepF, keepF_len l F (j + 1)]

theorem look_filter {n : Nat} : ∀ {H : Hp} {k : Nat} {b : Blk}, look (H.filter fun p => Nat.blt p.1 n) k = some b → k < n ∧ ∃ c ∈ H.filter (fun p => Nat.blt p.1 n), c.1 = k ∧ c.2 = b ∧ look H k = some b
  | [], k, b, h => by simp [look] at h
  | (m, c) :: r, k, b, h => by
    rw [List.filter_cons] at h ⊢
    split at h
    · rename_i hm
      have hm' : m < n := by simpa [bltD] using hm
      simp only [hm, if_true]
      simp only [look, beqD] at h
      by_cases e : k = m
      · subst e
        simp at h
        subst h
        exact ⟨hm', (k, c), by simp, rfl, rfl, by simp [look, beqD]⟩
      · simp [e] at h
        obtain ⟨h1, d, hd, h2, h3, h4⟩ := look_filter h
        exact ⟨h1, d, by simp [hd], h2, h3, by simp [look, beqD, e, h4]⟩
    · rename_i hm
      simp only [hm, if_false, Bool.false_eq_true]
      obtain ⟨h1, d, hd, h2, h3, h4⟩ := look_filter h
      have hm' : ¬ m < n := by simpa [bltD] using hm
      have e : ¬ k = m := by omega
      exact ⟨h1, d, hd, h2, h3, by simp [look, beqD, e, h4]⟩

theorem trim_ok {keep : Option (List Nat)} {nm0 : Nat} {s s' : St} (h : trim keep nm0 s = some s') {β : Nat → Option Nat} {I : Nat → Nat → Prop} {a : Act} {w : World} (hsim : Sim β I s a w) : ∃ β', Sim β' I s' a w ∧ Ext β I β' I w w := by
  unfold trim at h
  split at h
  · simp at h; subst h; exact ⟨β, hsim, .refl _ _ _⟩
  · rename_i l
    simp only at h
    cases hc : ((keepF l 0 s.F).all (aBelow nm0) && (s.H.filter fun p => Nat.blt p.1 nm0).all (fun p => match p.2 with | .cells cs _ => cs.all (cBelow nm0))) with
    | false => simp only [hc, cond_false] at h; exact absurd h (by simp)
    | true =>
      simp only [hc, cond_true, Option.some.injEq] at h
      subst h
      simp only [Bool.and_eq_true] at hc
      refine ⟨cut β nm0, ⟨?_, ⟨?_, ?_, ?_, ?_, hsim.mem.old⟩, hsim.defers, ?_⟩, ⟨rfl, rfl, rfl, Nat.le_refl _, fun _ _ _ => rfl, fun _ _ hi => hi, fun _ _ _ => rfl, fun _ _ hi => .inl hi, fun k b hb => .inl ⟨k, (cut_eq hb).2⟩⟩⟩
      · refine ⟨by rw [← hsim.frame.1]; exact keepF_len l s.F 0, fun i x v h1 h2 => ?_⟩
        have hb := List.all_eq_true.1 hc.1 x (List.mem_of_getElem? h1)
        rcases keepF_get l s.F 0 i x h1 with h3 | rfl
        · exact (hsim.frame.2 i x v h3 h2).cut hb
        · trivial
      · intro i j b hi hj
        exact hsim.mem.inj i j b (cut_eq hi).2 (cut_eq hj).2
      · intro k cs t hk
        obtain ⟨hlt, c, hcm, h2, h3, h4⟩ := look_filter hk
        obtain ⟨b, vs, hb, hheap, hr⟩ := hsim.mem.blk k cs t h4
        have hcl := List.all_eq_true.1 hc.2 c hcm
        have hcs : c.2.1 = cs := by rw [h3]
        rw [hcs] at hcl
        exact ⟨b, vs, by simp [cut, hlt, hb], hheap, hr.cut hcl⟩
      · intro k b hb; exact hsim.mem.lt k b (cut_eq hb).2
      · intro k b o hb; exact hsim.mem.off k b o (cut_eq hb).2
      · intro k hk
        have hk' : nm0 ≤ k := hk
        have : ¬ k < nm0 := by omega
        simp [cut, this]

theorem iterK_ok {c : Code} {keep : Option (List Nat)} {nm0 : Nat} {body : St → (Out → St → Option R) → Option R} (hbody : ∀ s k r, body s k = some r → ∃ out s', k out s' = some r ∧ Rch P c s out s') :
    ∀ (n : Nat) {s : St} {k : Out → St → Option R} {r : R}, iterK keep nm0 body n s k = some r → ∃ out s', k out s' = some r ∧
      ∀ (β : Nat → Option Nat) (I : Nat → Nat → Prop) (a : Act) (w : World) (Q : Exit → Act → World → Prop), Sim β I s a w → (∀ β' I' a' w', Sim β' I' s' a' w' → Ext β I β' I' w w' → Q out.toExit a' w') → Code.rounds P c Q n a w
  | 0, s, k, r, h => by simp [iterK] at h
  | n + 1, s, k, r, h => by
    simp only [iterK] at h
    obtain ⟨out, s1, hk, hr⟩ := hbody _ _ _ h
    cases out with
    | norm =>
      simp only at hk
      split at hk
      · simp at hk
      · rename_i s0 hs0
        obtain ⟨out', s', hk', hr'⟩ := iterK_ok hbody n hk
        refine ⟨out', s', hk', fun β I a w Q hsim hQ => ?_⟩
        rw [rounds_succ]
        refine hr β I a w _ hsim fun β1 I1 a1 w1 h1 e1 => ?_
        obtain ⟨β0, hsim0, e0⟩ := trim_ok hs0 h1
        exact hr' β0 I1 a1 w1 Q hsim0 fun β2 I2 a2 w2 h2 e2 => hQ β2 I2 a2 w2 h2 (e1.trans (e0.trans e2))
    | exit id => exact ⟨.exit id, s1, hk, fun β I a w Q hsim hQ => by rw [rounds_succ]; exact hr β I a w _ hsim hQ⟩
    | ret => exact ⟨.ret, s1, hk, fun β I a w Q hsim hQ => by rw [rounds_succ]; exact hr β I a w _ hsim hQ⟩

theorem evK_ok (ho : OrcOk P orc) (ann : Ann) (n : Nat) (c : Code) : ∀ (s : St) (k : Out → St → Option R) (r : R), evK P orc ann n c s k = some r → ∃ out s', k out s' = some r ∧ Rch P c s out s' := by
  induction c with
  | skip => intro s k r h; exact ⟨.norm, s, h, fun β I a w Q hsim hQ => wp_skip (hQ β I a w hsim (.refl _ _ _))⟩
  | region id ops draw => intro s k r h; obtain ⟨s', hk, hr⟩ := regionK_ok (id := id) ho h; exact ⟨.norm, s', hk, hr⟩
  | seq x y ihx ihy =>
    intro s k r h
    simp only [evK] at h
    obtain ⟨out, s1, hk, hr⟩ := ihx _ _ _ h
    cases out with
    | norm =>
      obtain ⟨out', s', hk', hr'⟩ := ihy _ _ _ hk
      exact ⟨out', s', hk', fun β I a w Q hsim hQ => wp_seq (hr β I a w _ hsim fun β1 I1 a1 w1 h1 e1 => hr' β1 I1 a1 w1 Q h1 fun β2 I2 a2 w2 h2 e2 => hQ β2 I2 a2 w2 h2 (e1.trans e2))⟩
    | exit id => exact ⟨.exit id, s1, hk, fun β I a w Q hsim hQ => wp_seq (hr β I a w _ hsim hQ)⟩
    | ret => exact ⟨.ret, s1, hk, fun β I a w Q hsim hQ => wp_seq (hr β I a w _ hsim hQ)⟩
  | cond c x y ihx ihy =>
    intro s k r h
    simp only [evK] at h
    split at h
    · rename_i b hb
      have ev : ∀ {β : Nat → Option Nat} {I : Nat → Nat → Prop} {a : Act} {w : World}, Sim β I s a w → a.eval c = .bool b := fun hsim => plain_eq hb (opA_rep hsim.frame c)
      cases b with
      | true =>
        simp only [cond_true] at h
        obtain ⟨out, s', hk, hr⟩ := ihx _ _ _ h
        exact ⟨out, s', hk, fun β I a w Q hsim hQ => wp_cond_true (ev hsim) (hr β I a w Q hsim hQ)⟩
      | false =>
        simp only [cond_false] at h
        obtain ⟨out, s', hk, hr⟩ := ihy _ _ _ h
        exact ⟨out, s', hk, fun β I a w Q hsim hQ => wp_cond_false (ev hsim) (hr β I a w Q hsim hQ)⟩
    · simp at h
  | block id c ih =>
    intro s k r h
    simp only [evK] at h
    obtain ⟨out, s1, hk, hr⟩ := ih _ _ _ h
    cases out with
    | norm => exact ⟨.norm, s1, hk, fun β I a w Q hsim hQ => wp_block (hr β I a w _ hsim hQ)⟩
    | exit j =>
      by_cases hj : j = id
      · subst hj
        simp only [beq_self_eq_true, cond_true] at hk
        refine ⟨.norm, s1, hk, fun β I a w Q hsim hQ => wp_block (hr β I a w _ hsim fun β1 I1 a1 w1 h1 e1 => ?_)⟩
        simp only [Out.toExit, Exit.inBlock, if_true]
        exact hQ β1 I1 a1 w1 h1 e1
      · have : (j == id) = false := by simpa using hj
        simp only [this, cond_false] at hk
        refine ⟨.exit j, s1, hk, fun β I a w Q hsim hQ => wp_block (hr β I a w _ hsim fun β1 I1 a1 w1 h1 e1 => ?_)⟩
        simp only [Out.toExit, Exit.inBlock, hj, if_false]
        exact hQ β1 I1 a1 w1 h1 e1
    | ret => exact ⟨.ret, s1, hk, fun β I a w Q hsim hQ => wp_block (hr β I a w _ hsim hQ)⟩
  | loop c ih =>
    intro s k r h
    simp only [evK] at h
    split at h
    · simp at h
    · rename_i s0 hs0
      obtain ⟨out, s', hk, hr⟩ := iterK_ok (P := P) (c := c) ih n h
      refine ⟨out, s', hk, fun β I a w Q hsim hQ => wp_loop_rounds n ?_⟩
      obtain ⟨β0, hsim0, e0⟩ := trim_ok hs0 hsim
      exact hr β0 I a w Q hsim0 fun β1 I1 a1 w1 h1 e1 => hQ β1 I1 a1 w1 h1 (e0.trans e1)
  | exit id => intro s k r h; exact ⟨.exit id, s, h, fun β I a w Q hsim hQ => wp_exit (hQ β I a w hsim (.refl _ _ _))⟩
  | ret => intro s k r h; exact ⟨.ret, s, h, fun β I a w Q hsim hQ => wp_ret (hQ β I a w hsim (.refl _ _ _))⟩
  | rangeFunc f params assign body _ _ => intro s k r h; simp [evK] at h
  | scope body _ => intro s k r h; simp [evK] at h
  | label l => intro s k r h; simp [evK] at h
  | goto l => intro s k r h; simp [evK] at h
  | refuse why => intro s k r h; simp [evK] at h

def resultV (tmps : Array Value) : ResultVar → Sem Value
  | .tmp t => pure (tmps.getD t undef)
  | .cell a t => do loadVar t (← asAddr (tmps.getD a undef))

theorem resultsA_run {β : Nat → Option Nat} {I : Nat → Nat → Prop} {s : St} {a : Act} {w : World} (hsim : Sim β I s a w) : ∀ (rs : List ResultVar) {l : List (Bool × List C)},
    rs.foldr (fun r acc => match acc with
    | none => none
    | some l => match r with
      | .tmp t => (match s.F.getD t .u with
        | .c x => some ((false, [x]) :: l)
        | .agg cs => some ((true, cs) :: l)
        | _ => none)
      | .cell a t => (match s.F.getD a .u, aggT P t, sizeT P t with
        | .c (.ptr h off), some ag, some n => (match loadH s.H h off (bif ag then n else 1) ag with
          | some (.c x) => some ((false, [x]) :: l)
          | some (.agg cs) => some ((true, cs) :: l)
          | _ => none)
        | _, _, _ => none)) (some []) = some l →
    ∃ vs : List Value, (rs.mapM (resultV a.tmps)).run P w = .ok vs w ∧ l.length = vs.length ∧ ∀ (i : Nat) p v, l[i]? = some p → vs[i]? = some v → RepP β w I p v := by
  intro rs
  induction rs with
  | nil => intro l h; simp at h; subst h; exact ⟨[], rfl, rfl, fun i p v h => by simp at h⟩
  | cons r rs ih =>
    intro l h
    rw [List.foldr_cons] at h
    split at h
    · simp at h
    · rename_i l0 hl0
      obtain ⟨vs, hrun, hlen, hrep⟩ := ih hl0
      have fin : ∀ (p : Bool × List C) (v : Value), (resultV a.tmps r).run P w = .ok v w → RepP β w I p v → l = p :: l0 →
          ∃ vs : List Value, ((r :: rs).mapM (resultV a.tmps)).run P w = .ok vs w ∧ l.length = vs.length ∧ ∀ (i : Nat) p v, l[i]? = some p → vs[i]? = some v → RepP β w I p v := by
        intro p v hv hp hl
        subst hl
        refine ⟨v :: vs, by simp [List.mapM_cons, hv, hrun], by simp [hlen], fun i q y h1 h2 => ?_⟩
        cases i with
        | zero => simp at h1 h2; subst h1 h2; exact hp
        | succ i => simp at h1 h2; exact hrep i q y h1 h2
      cases r with
      | tmp t =>
        simp only at h
        have hx := opA_rep hsim.frame (.tmp t)
        simp only [opA] at hx
        split at h
        · rename_i x hx'; rw [hx'] at hx; simp at h
          exact fin (false, [x]) (a.eval (.tmp t)) rfl ⟨x, rfl, hx⟩ h.symm
        · rename_i cs hx'; rw [hx'] at hx; simp at h
          exact fin (true, cs) (a.eval (.tmp t)) rfl hx h.symm
        · simp at h
      | cell ad t =>
        simp only at h
        have hx := opA_rep hsim.frame (.tmp ad)
        simp only [opA] at hx
        split at h
        · rename_i k off ag n hx' hag hsz
          rw [hx'] at hx
          obtain ⟨b, hb, hv⟩ := hx
          have hload : ∀ y, loadH s.H k off (bif ag then n else 1) ag = some y → ∃ v, (resultV a.tmps (.cell ad t)).run P w = .ok v w ∧ RepA β w I y v := by
            intro y hy
            unfold loadH at hy
            split at hy
            · rename_i cs t' hk
              obtain ⟨b', us, hb', hheap, hrep'⟩ := hsim.mem.blk k cs t' hk
              have : b' = b := by rw [hb] at hb'; simpa using hb'.symm
              subst this
              obtain ⟨v, hrun', hx''⟩ := run_loadVar_in (P := P) (off := 0) hag hsz (fun j v hj => by rw [Nat.zero_add]; exact cellAt hheap j v hj) hrep' hy
              rw [Nat.zero_add] at hrun'
              have hv' : a.tmps.getD ad undef = .pointer (some ⟨b', off, none⟩) := hv
              refine ⟨v, ?_, hx''⟩
              simp only [resultV, hv', asAddr, Sem.run_bind, Sem.run_pure, Result.andThen_ok, hrun']
            · simp at hy
          split at h
          · rename_i x hy
            obtain ⟨v, h1, h2⟩ := hload _ hy
            simp at h
            exact fin (false, [x]) v h1 ⟨x, rfl, h2⟩ h.symm
          · rename_i cs hy
            obtain ⟨v, h1, h2⟩ := hload _ hy
            simp at h
            exact fin (true, cs) v h1 h2 h.symm
          · simp at h
        · simp at h

theorem callA_ok (ho : OrcOk P orc) {ann : Ann} {n : Nat} {f : FuncId} {fn : Func} {c : Code} {args : List AV} {x : AV} (hf : P.funcs[f]? = some fn) (hb : fn.body = some c) (h : callA P orc ann n fn c args = some x) :
    ∃ Hc, CR P f args [] x Hc := by
  unfold callA at h
  obtain ⟨out, s', hk, hr⟩ := evK_ok ho ann n c _ _ _ h
  refine ⟨s'.H, fun β I w vs hdom hmem hargs => calls_of_wp hf hb (hr β I _ w _ ⟨?_, hmem, rfl, fun k _ => hdom k rfl⟩ ?_)⟩
  · refine ⟨by simp [hargs.1], fun i y v h1 h2 => ?_⟩
    simp only at h1 h2
    rw [List.getElem?_append] at h1
    rw [Array.getElem?_append] at h2
    by_cases hi : i < args.length
    · rw [if_pos hi] at h1
      rw [if_pos (hargs.1 ▸ hi)] at h2
      exact hargs.2 i y v h1 h2
    · rw [if_neg hi] at h1
      rw [if_neg (hargs.1 ▸ hi)] at h2
      rw [List.getElem?_replicate] at h1
      rw [Array.getElem?_replicate] at h2
      split at h1
      · split at h2
        · simp at h1 h2; subst h1 h2; exact undef_rep
        · simp at h2
      · simp at h1
  · intro β' I' a' w' hsim hext
    have hres : ∃ l, resultsA P fn s' = some l ∧ ofResults l = some x ∧ (out = .norm ∨ out = .ret) := by
      cases out with
      | exit id => simp at hk
      | norm =>
        simp only at hk
        split at hk
        · rename_i l hl; exact ⟨l, hl, hk, .inl rfl⟩
        · simp at hk
      | ret =>
        simp only at hk
        split at hk
        · rename_i l hl; exact ⟨l, hl, hk, .inr rfl⟩
        · simp at hk
    obtain ⟨l, hl, hof, hout⟩ := hres
    obtain ⟨us, hrun, hlen, hrep⟩ := resultsA_run (P := P) hsim fn.results.toList hl
    have hm : (fn.results.mapM (resultV a'.tmps)).run P w' = .ok us.toArray w' := by
      rw [Array.mapM_eq_mapM_toList, Sem.run_map, hrun]; rfl
    have key : ∃ v, (results fn a'.tmps).run P w' = .ok v w' ∧ RepA β' w' I' x v := by
      have e : results fn a'.tmps = (fn.results.mapM (resultV a'.tmps)) >>= fun vs => pure (if h : vs.size = 1 then vs[0] else .tuple vs) := by
        unfold results
        congr 2
      rw [e]
      simp only [Sem.run_bind, hm, Result.andThen_ok, Sem.run_pure]
      refine ⟨_, rfl, ?_⟩
      unfold ofResults at hof
      split at hof
      · rename_i cs
        simp at hof; subst hof
        obtain ⟨v, rfl⟩ : ∃ v, us = [v] := by
          match us, hlen with
          | [v], _ => exact ⟨v, rfl⟩
        exact hrep 0 _ v rfl rfl
      · rename_i c'
        simp at hof; subst hof
        obtain ⟨v, rfl⟩ : ∃ v, us = [v] := by
          match us, hlen with
          | [v], _ => exact ⟨v, rfl⟩
        obtain ⟨c'', h1, h2⟩ := hrep 0 _ v rfl rfl
        have : c'' = c' := by simpa using h1.symm
        subst this
        exact h2
      · simp at hof
      · rename_i hn1 hn2 hn3
        simp at hof; subst hof
        have hne : us.toArray.size ≠ 1 := by
          intro h1
          have : l.length = 1 := by rw [hlen]; simpa using h1
          obtain ⟨p, hp⟩ : ∃ p, l = [p] := by
            match l, this with
            | [p], _ => exact ⟨p, rfl⟩
          exact hn3 p hp
        rw [dif_neg hne]
        exact ⟨us.toArray, rfl, by simpa using hlen, fun i p v h1 h2 => hrep i p v h1 (by simpa using h2)⟩
    obtain ⟨v, hv, hx⟩ := key
    have fin : a'.defers = [] ∧ ∃ v, (results fn a'.tmps).run P w' = .ok v w' ∧ ∃ v' β'' I'', Ending.returned v = .returned v' ∧ RelH β'' s'.2 I'' w' ∧ RepA β'' w' I'' x v' ∧ Ext β I β'' I'' w w' :=
      ⟨hsim.defers, v, hv, v, β', I', rfl, hsim.mem, hx, hext⟩
    rcases hout with rfl | rfl
    · exact fin
    · exact fin
end
end Go.Ev
namespace Go.Ev
open Go.RowKit

/-- lists of cells of a type's shape: booleans, integers, strings, slices, structs, arrays -/
inductive Shp (P : Program) : TypeId → List D → Prop
  | bool {t : TypeId} (hu : P.underlying t = some .bool) (b : Bool) : Shp P t [.v (.bool b)]
  | int {t : TypeId} {k : IntKind} (hu : P.underlying t = some (.int k)) (n : Int) (hw : (Lit.int k n).wf = true) : Shp P t [.v (.int k n)]
  | str {t : TypeId} (hu : P.underlying t = some .string) (s : ByteArray) (hs : s.size ≤ maxLen) : Shp P t [.v (.string s)]
  | sl {t e : TypeId} (hu : P.underlying t = some (.slice e)) (n : Nat) (f : Nat → List D) (hn : n ≤ maxLen) (hf : ∀ i, i < n → Shp P e (f i)) : Shp P t [.sl n f]
  | struct {t : TypeId} {fs : Array Field} (hu : P.underlying t = some (.struct fs)) (ps : List (List D)) (hl : ps.length = fs.toList.length) (hp : ∀ (i : Nat) f p, fs.toList[i]? = some f → ps[i]? = some p → Shp P f.type p) : Shp P t ps.flatten
  | array {t e : TypeId} {n : Nat} (hu : P.underlying t = some (.array n e)) (ps : List (List D)) (hl : ps.length = n) (hp : ∀ p ∈ ps, Shp P e p) : Shp P t ps.flatten

/-- fields that lie one behind the other -/
def fieldsIn (P : Program) (S : List TypeId) : List Field → Nat → Option Nat
  | [], off => some off
  | f :: r, off => if f.offset = off ∧ S.contains f.type = true then fieldsIn P S r (off + P.cellsOf f.type) else none

def okT (P : Program) (S : List TypeId) (t : TypeId) : Bool :=
  match P.underlying t with
  | some .bool => true
  | some (.int _) => true
  | some .string => true
  | some (.slice e) => S.contains e && decide (0 < P.cellsOf e)
  | some (.struct fs) => fieldsIn P S fs.toList 0 == some (P.cellsOf t)
  | some (.array n e) => S.contains e && (n * P.cellsOf e == P.cellsOf t)
  | _ => false

section
variable {H : Type} {enc : TypeId × Value → H} {P : Program} {w : World} {spare : Nat → Bool} {held : Bool} {β : Nat → Option Nat}

/-- every cell that is there -/
def allI (w : World) : Nat → Nat → Prop := fun b _ => b < w.heap.size

theorem map_d_append (a b : List D) : (a ++ b).map C.d = a.map C.d ++ b.map C.d := by simp

theorem repCs_nil {I : Nat → Nat → Prop} : RepCs β w I [] [] := ⟨rfl, fun i c v h => by simp at h⟩

theorem mapM_get {α γ : Type} {g : α → Option γ} : ∀ {l : List α} {r : List γ}, l.mapM g = some r → r.length = l.length ∧ ∀ (i : Nat) x, l[i]? = some x → ∃ y, r[i]? = some y ∧ g x = some y
  | [], r, h => by simp at h; subst h; exact ⟨rfl, fun i x h => by simp at h⟩
  | a :: l, r, h => by
    rw [List.mapM_cons] at h
    simp only [bind, Option.bind_eq_some_iff, pure, Option.some.injEq] at h
    obtain ⟨y, hy, r', hr', rfl⟩ := h
    obtain ⟨h1, h2⟩ := mapM_get hr'
    refine ⟨by simp [h1], fun i x hx => ?_⟩
    cases i with
    | zero => simp at hx; subst hx; exact ⟨y, rfl, hy⟩
    | succ i => simp at hx; obtain ⟨z, hz, hg⟩ := h2 i x hx; exact ⟨z, by simpa using hz, hg⟩

theorem cells_all {a : Addr} {n : Nat} {cs : List Value} (h : w.cells? 0 a n = some cs) : cs.length = n ∧ ∀ (j : Nat) v, cs[j]? = some v → w.cell? (a.add j) = some v := by
  unfold World.cells? at h
  rw [if_pos (Nat.zero_le _)] at h
  obtain ⟨h1, h2⟩ := mapM_get h
  refine ⟨by simpa using h1, fun j v hv => ?_⟩
  have hj : j < n := by have := (List.getElem?_eq_some_iff.1 hv).1; simp at h1; omega
  obtain ⟨y, hy, hg⟩ := h2 j j (by simp [hj])
  rw [hv] at hy
  simp at hy
  subst hy
  exact hg

theorem spot_none {a : Addr} {j : Nat} {v : Value} (h : w.cell? (a.add j) = some v) : (a.add j).spot = none := World.cell?_spot h

theorem rep_flatten : ∀ (xs : List (TypeId × List Value)), (∀ x ∈ xs, ∃ ds : List D, RepCs β w (allI w) (ds.map .d) x.2 ∧ Shp P x.1 ds) →
    ∃ ps : List (List D), ps.length = xs.length ∧ RepCs β w (allI w) (ps.flatten.map .d) (xs.map (·.2)).flatten ∧ ∀ (i : Nat) x p, xs[i]? = some x → ps[i]? = some p → Shp P x.1 p
  | [], _ => ⟨[], rfl, repCs_nil, fun i x p h => by simp at h⟩
  | x :: xs, h => by
    obtain ⟨ds, h1, h2⟩ := h x (by simp)
    obtain ⟨ps, hl, hr, hs⟩ := rep_flatten xs (fun y hy => h y (by simp [hy]))
    refine ⟨ds :: ps, by simp [hl], by simpa using h1.append hr, fun i y p hy hp => ?_⟩
    cases i with
    | zero => simp at hy hp; subst hy hp; exact h2
    | succ i => simp at hy hp; exact hs i y p hy hp

/-- cells cut into fields that lie one behind the other -/
theorem fields_flatten {S : List TypeId} {cs : List Value} : ∀ (fs : List Field) (off : Nat) {m : Nat}, fieldsIn P S fs off = some m → m ≤ cs.length →
    (fs.map fun f => (cs.drop f.offset).take (P.cellsOf f.type)).flatten = (cs.drop off).take (m - off) ∧ off ≤ m
  | [], off, m, h, hm => by simp [fieldsIn] at h; subst h; simp
  | f :: fs, off, m, h, hm => by
    simp only [fieldsIn] at h
    split at h
    · rename_i hc
      obtain ⟨rfl, _⟩ := hc
      obtain ⟨h1, h2⟩ := fields_flatten fs _ h hm
      refine ⟨?_, by omega⟩
      rw [List.map_cons, List.flatten_cons, h1]
      have e : m - f.offset = P.cellsOf f.type + (m - (f.offset + P.cellsOf f.type)) := by omega
      rw [e, List.take_add, List.drop_drop]
    · simp at h

theorem fieldsIn_mem {S : List TypeId} : ∀ {fs : List Field} {off m : Nat}, fieldsIn P S fs off = some m → ∀ f ∈ fs, S.contains f.type = true
  | [], off, m, h, f, hf => by simp at hf
  | g :: fs, off, m, h, f, hf => by
    simp only [fieldsIn] at h
    split at h
    · rename_i hc
      simp at hf
      rcases hf with rfl | hf
      · exact hc.2
      · exact fieldsIn_mem h f hf
    · simp at h

theorem chunks_flatten {cs : List Value} (c : Nat) : ∀ (n j : Nat), (j + n) * c ≤ cs.length → ((List.range' j n).map fun i => (cs.drop (i * c)).take c).flatten = (cs.drop (j * c)).take (n * c)
  | 0, j, _ => by simp
  | n + 1, j, h => by
    rw [List.range'_succ, List.map_cons, List.flatten_cons, chunks_flatten c n (j + 1) (by rw [show j + 1 + n = j + (n + 1) by omega]; exact h)]
    have e : (n + 1) * c = c + n * c := by rw [Nat.succ_mul]; omega
    rw [e, List.take_add, List.drop_drop, show j * c + c = (j + 1) * c by rw [Nat.succ_mul]]

theorem open_trod (S : List TypeId) (hS : S.all (okT P S) = true) : ∀ (fuel : Nat) (t : TypeId) (cs : List Value) (d : DataW H) (ps : List MemPlace), S.contains t = true → DataW.trod enc P w 0 spare held fuel t cs = some (d, ps) →
    ∃ ds : List D, RepCs β w (allI w) (ds.map .d) cs ∧ Shp P t ds := by
  intro fuel
  induction fuel with
  | zero => intro t cs d ps _ h; simp [DataW.trod] at h
  | succ fuel ih =>
    intro t cs d ps ht h
    have hok : okT P S t = true := List.all_eq_true.1 hS t (by simpa using ht)
    have single : ∀ {x : D} {v : Value}, RepD w (allI w) x v → RepCs β w (allI w) ([x].map .d) [v] := fun hr =>
      ⟨rfl, fun i c v h1 h2 => by
        cases i with
        | zero => simp at h1 h2; subst h1 h2; exact hr
        | succ i => simp at h1⟩
    unfold okT at hok
    split at hok
    · rename_i hu
      obtain ⟨b, rfl, _⟩ := DataW.trod_bool hu h
      exact ⟨_, single (.v _ rfl), .bool hu b⟩
    · rename_i k hu
      obtain ⟨n, rfl, _, hw⟩ := DataW.trod_int hu h
      exact ⟨_, single (.v _ rfl), .int hu n hw⟩
    · rename_i hu
      obtain ⟨s, rfl, _, hs⟩ := DataW.trod_string hu h
      exact ⟨_, single (.v _ rfl), .str hu s hs⟩
    · rename_i e hu
      simp only [Bool.and_eq_true, decide_eq_true_eq] at hok
      simp only [DataW.trod, hu] at h
      split at h
      all_goals first
        | (rename_i h1 h2; simp at h1; done)
        | (rename_i h1; simp at h1; done)
        | skip
      · rename_i h1
        exact ⟨[.sl 0 fun _ => []], single (.nil _), .sl hu 0 _ (by simp) (fun i hi => by omega)⟩
      · rename_i e' a len cap h1
        obtain rfl : e' = e := by simpa using h1.symm
        split at h
        · rename_i hc
          simp only [Option.bind_eq_some_iff] at h
          obtain ⟨elems, hel, _⟩ := h
          obtain ⟨hlen, hget⟩ := mapM_get hel
          have hex : ∀ i, ∃ ds : List D, ∃ vs : List Value, i < len → vs.length = P.cellsOf e' ∧ (∀ (j : Nat) v, vs[j]? = some v → w.cell? ((a.add (i * P.cellsOf e')).add j) = some v) ∧ RepCs β w (allI w) (ds.map .d) vs ∧ Shp P e' ds := by
            intro i
            by_cases hi : i < len
            · obtain ⟨y, _, hy⟩ := hget i i (by simp [hi])
              simp only [Option.bind_eq_some_iff] at hy
              obtain ⟨vs, hvs, hd⟩ := hy
              obtain ⟨hl, hcell⟩ := cells_all hvs
              obtain ⟨ds, hr, hs⟩ := ih e' vs _ _ hok.1 hd
              exact ⟨ds, vs, fun _ => ⟨hl, hcell, hr, hs⟩⟩
            · exact ⟨[], [], fun h => absurd h hi⟩
          obtain ⟨f, hf⟩ := Classical.axiomOfChoice hex
          obtain ⟨g, hg⟩ := Classical.axiomOfChoice hf
          rcases Nat.eq_zero_or_pos len with h0 | h0
          · subst h0
            exact ⟨[.sl 0 fun _ => []], single (.emp _ a cap), .sl hu 0 _ (by simp) (fun i hi => by omega)⟩
          · have hspot : a.spot = none := by
              obtain ⟨hl, hcell, _, _⟩ := hg 0 h0
              have hv := hcell 0 ((g 0)[0]'(by omega)) (by simp)
              have hsp := spot_none hv
              simpa [Addr.add] using hsp
            obtain ⟨b, off, sp⟩ := a
            simp only at hspot
            subst hspot
            refine ⟨[.sl len f], single ?_, .sl hu len f (by omega) (fun i hi => (hg i hi).2.2.2)⟩
            have hflen : ∀ i, i < len → (f i).length = P.cellsOf e' := fun i hi => by
              obtain ⟨hl, _, hr, _⟩ := hg i hi
              have := hr.1
              simp at this
              omega
            have hcellg : ∀ i j x, i < len → (f i)[j]? = some x → w.cell? ⟨b, off + i * P.cellsOf e' + j, none⟩ = some ((g i).getD j undef) := fun i j x hi hj => by
              obtain ⟨hl, hcell, hr, _⟩ := hg i hi
              have hjl : j < (g i).length := by
                have h2 := (List.getElem?_eq_some_iff.1 hj).1
                rw [hflen i hi] at h2
                omega
              have h3 := hcell j (g i)[j] (by simp [hjl])
              rw [add_none, add_none] at h3
              rw [h3]
              simp [List.getD, hjl]
            refine .sl len f (P.cellsOf e') b off cap (fun i j => (g i).getD j undef) hc.2.1 hflen hcellg (fun i j x hi hj => World.block_lt_of_cell? _ _ (hcellg i j x hi hj)) (fun i j x hi hj => ?_)
            obtain ⟨hl, hcell, hr, _⟩ := hg i hi
            have hjl : j < (g i).length := by
              have h2 := (List.getElem?_eq_some_iff.1 hj).1
              rw [hflen i hi] at h2
              omega
            have := hr.2 j (.d x) (g i)[j] (by simp [hj]) (by simp [hjl])
            have e2 : (g i).getD j undef = (g i)[j] := by simp [List.getD, hjl]
            show RepD w (allI w) x ((g i).getD j undef)
            rw [e2]
            exact this
        · simp at h
      all_goals simp at h
    · rename_i fs hu
      simp only [beq_iff_eq] at hok
      obtain ⟨xs, n, hfuel, _, hlen, hsz, hget⟩ := DataW.trod_struct hu h
      obtain rfl : n = fuel := by omega
      obtain ⟨ps, hpl, hpr, hps⟩ := rep_flatten (P := P) (w := w) (β := β) (fs.toList.map fun f => (f.type, (cs.drop f.offset).take (P.cellsOf f.type))) (by
        intro x hx
        obtain ⟨f, hf, rfl⟩ := List.mem_map.1 hx
        obtain ⟨i, hi, rfl⟩ := List.getElem_of_mem hf
        have hi' : i < fs.size := by simpa using hi
        have hy := hget i fs[i] (by simp [hi'])
        have hx2 : xs[i]? = some xs[i] := by simp [show i < xs.length by omega]
        rw [hx2] at hy
        simpa using ih _ _ _ _ (fieldsIn_mem hok _ hf) hy)
      have hfl := (fields_flatten (cs := cs) fs.toList 0 hok (by omega)).1
      simp only [List.map_map, Function.comp_def] at hpr
      rw [hfl] at hpr
      exact ⟨ps.flatten, by simpa [← hlen] using hpr, .struct hu ps (by simpa using hpl) (fun i f p hf hp => hps i (f.type, (cs.drop f.offset).take (P.cellsOf f.type)) p (by simp at hf; simp [hf]) hp)⟩
    · rename_i n e hu
      simp only [Bool.and_eq_true, beq_iff_eq] at hok
      obtain ⟨xs, m, hfuel, _, hlen, hsz, hget⟩ := DataW.trod_array hu h
      obtain rfl : m = fuel := by omega
      obtain ⟨ps, hpl, hpr, hps⟩ := rep_flatten (P := P) (w := w) (β := β) ((List.range n).map fun i => (e, (cs.drop (i * P.cellsOf e)).take (P.cellsOf e))) (by
        intro x hx
        obtain ⟨i, hi, rfl⟩ := List.mem_map.1 hx
        simp at hi
        have hy := hget i hi
        have hx2 : xs[i]? = some xs[i] := by simp [show i < xs.length by omega]
        rw [hx2] at hy
        exact ih _ _ _ _ hok.1 hy)
      have hfl := chunks_flatten (cs := cs) (P.cellsOf e) n 0 (by simp; omega)
      simp only [List.map_map, Function.comp_def, List.range_eq_range'] at hpr
      rw [hfl] at hpr
      refine ⟨ps.flatten, by simpa [hok.2, ← hlen] using hpr, .array hu ps (by simpa using hpl) (fun p hp => ?_)⟩
      obtain ⟨i, hi, rfl⟩ := List.getElem_of_mem hp
      have hi' : i < n := by simp at hpl; omega
      exact hps i (e, (cs.drop (i * P.cellsOf e)).take (P.cellsOf e)) ps[i] (by simp [hi']) (by simp [hi])
    · simp at hok

theorem okWide_one {r : Reach} {base : Nat} {t : TypeId} {v : Value} {S : List TypeId} (hok : okT P S t = true) (ha : aggT P t = some false) (h : Value.okWide P w r base t v) : v.cells = #[v] := by
  unfold okT at hok
  unfold aggT at ha
  unfold Value.okWide at h
  split at hok
  all_goals (rename_i hu; simp only [hu] at ha h)
  all_goals first
    | (simp at ha; done)
    | (simp only [Cell.okWide, hu] at h; cases v <;> first | rfl | (simp [Cell.ok, hu] at h))
    | (simp at hok; done)

theorem arg_open {S : List TypeId} (hS : S.all (okT P S) = true) {r : Reach} {base : Nat} {t : TypeId} {v : Value} {d : DataW H} {ps : List MemPlace} (ht : S.contains t = true) (hv : Value.okWide P w r base t v)
    (h : DataW.Trod enc P w 0 spare held t v d ps) :
    ∃ ds av, RepA β w (allI w) av v ∧ Shp P t ds ∧ ((aggT P t = some true ∧ av = .agg (ds.map .d)) ∨ (aggT P t = some false ∧ ∃ x, ds = [x] ∧ av = .c (.d x))) := by
  obtain ⟨fuel, hf⟩ := h
  have hok : okT P S t = true := List.all_eq_true.1 hS t (by simpa using ht)
  obtain ⟨ds, hr, hs⟩ := open_trod (β := β) S hS fuel t _ d ps ht hf
  cases ha : aggT P t with
  | none => unfold aggT at ha; unfold okT at hok; split at ha <;> simp_all
  | some b =>
    cases b with
    | true =>
      have : ∃ cs, v = .agg cs := by
        unfold aggT at ha
        unfold Value.okWide at hv
        split at ha
        · rename_i hu; simp only [hu] at hv; obtain ⟨cs, rfl, _⟩ := hv; exact ⟨cs, rfl⟩
        · rename_i hu; simp only [hu] at hv; obtain ⟨cs, rfl, _⟩ := hv; exact ⟨cs, rfl⟩
        · simp at ha
        · simp at ha
      obtain ⟨cs, rfl⟩ := this
      exact ⟨ds, .agg (ds.map .d), ⟨cs, rfl, hr⟩, hs, .inl ⟨rfl, rfl⟩⟩
    | false =>
      have e := okWide_one hok ha hv
      rw [e] at hr
      have hl := hr.1
      simp at hl
      obtain ⟨x, rfl⟩ : ∃ x, ds = [x] := by
        match ds, hl with
        | [x], _ => exact ⟨x, rfl⟩
      exact ⟨[x], .c (.d x), hr.2 0 (.d x) v rfl rfl, hs, .inr ⟨rfl, x, rfl, rfl⟩⟩

theorem RepD.congr {I : Nat → Nat → Prop} {n : Nat} {f g : Nat → List D} {v : Value} (h : RepD w I (.sl n f) v) (hfg : ∀ i, i < n → f i = g i) : RepD w I (.sl n g) v := by
  cases h with
  | nil f => exact .nil _
  | emp f a cap => exact .emp _ _ _
  | sl _ _ sz b off cap gv hcap hsz hc hi hr =>
    exact .sl n g sz b off cap gv hcap (fun i hin => by rw [← hfg i hin]; exact hsz i hin) (fun i j d hin hj => hc i j d hin (by rw [hfg i hin]; exact hj)) (fun i j d hin hj => hi i j d hin (by rw [hfg i hin]; exact hj)) (fun i j d hin hj => hr i j d hin (by rw [hfg i hin]; exact hj))

theorem Shp.bool_inv {t : TypeId} {ds : List D} (h : Shp P t ds) (hu : P.underlying t = some .bool) : ∃ b, ds = [.v (.bool b)] := by
  cases h with
  | bool _ b => exact ⟨b, rfl⟩
  | int h' => rw [hu] at h'; simp at h'
  | str h' => rw [hu] at h'; simp at h'
  | sl h' => rw [hu] at h'; simp at h'
  | struct h' => rw [hu] at h'; simp at h'
  | array h' => rw [hu] at h'; simp at h'
theorem Shp.int_inv {t : TypeId} {ds : List D} {k : IntKind} (h : Shp P t ds) (hu : P.underlying t = some (.int k)) : ∃ n, ds = [.v (.int k n)] ∧ (Lit.int k n).wf = true := by
  cases h with
  | bool h' => rw [hu] at h'; simp at h'
  | int h' n hw => rw [hu] at h'; simp at h'; subst h'; exact ⟨n, rfl, hw⟩
  | str h' => rw [hu] at h'; simp at h'
  | sl h' => rw [hu] at h'; simp at h'
  | struct h' => rw [hu] at h'; simp at h'
  | array h' => rw [hu] at h'; simp at h'
theorem Shp.str_inv {t : TypeId} {ds : List D} (h : Shp P t ds) (hu : P.underlying t = some .string) : ∃ s : ByteArray, ds = [.v (.string s)] ∧ s.size ≤ maxLen := by
  cases h with
  | bool h' => rw [hu] at h'; simp at h'
  | int h' => rw [hu] at h'; simp at h'
  | str _ s hs => exact ⟨s, rfl, hs⟩
  | sl h' => rw [hu] at h'; simp at h'
  | struct h' => rw [hu] at h'; simp at h'
  | array h' => rw [hu] at h'; simp at h'
theorem Shp.sl_inv {t e : TypeId} {ds : List D} (h : Shp P t ds) (hu : P.underlying t = some (.slice e)) : ∃ n f, ds = [.sl n f] ∧ n ≤ maxLen ∧ ∀ i, i < n → Shp P e (f i) := by
  cases h with
  | bool h' => rw [hu] at h'; simp at h'
  | int h' => rw [hu] at h'; simp at h'
  | str h' => rw [hu] at h'; simp at h'
  | sl h' n f hn hf => rw [hu] at h'; simp at h'; subst h'; exact ⟨n, f, rfl, hn, hf⟩
  | struct h' => rw [hu] at h'; simp at h'
  | array h' => rw [hu] at h'; simp at h'
theorem Shp.struct_inv {t : TypeId} {fs : Array Field} {ds : List D} (h : Shp P t ds) (hu : P.underlying t = some (.struct fs)) : ∃ ps : List (List D), ds = ps.flatten ∧ ps.length = (fs.toList.map (·.type)).length ∧ ∀ (i : Nat) u p, (fs.toList.map (·.type))[i]? = some u → ps[i]? = some p → Shp P u p := by
  cases h with
  | bool h' => rw [hu] at h'; simp at h'
  | int h' => rw [hu] at h'; simp at h'
  | str h' => rw [hu] at h'; simp at h'
  | sl h' => rw [hu] at h'; simp at h'
  | struct h' ps hl hp =>
    rw [hu] at h'; simp at h'; subst h'
    refine ⟨ps, rfl, by simpa using hl, fun i u p h1 h2 => ?_⟩
    simp at h1
    obtain ⟨f, hf, rfl⟩ := h1
    exact hp i f p (by simpa using hf) h2
  | array h' => rw [hu] at h'; simp at h'
theorem Shp.array_inv {t e : TypeId} {n : Nat} {ds : List D} (h : Shp P t ds) (hu : P.underlying t = some (.array n e)) : ∃ ps : List (List D), ds = ps.flatten ∧ ps.length = n ∧ ∀ p ∈ ps, Shp P e p := by
  cases h with
  | bool h' => rw [hu] at h'; simp at h'
  | int h' => rw [hu] at h'; simp at h'
  | str h' => rw [hu] at h'; simp at h'
  | sl h' => rw [hu] at h'; simp at h'
  | struct h' => rw [hu] at h'; simp at h'
  | array h' ps hl hp => rw [hu] at h'; simp at h'; obtain ⟨rfl, rfl⟩ := h'; exact ⟨ps, rfl, hl, hp⟩

/-- arguments read as they did, behind a call that wrote nothing that was there -/
theorem trodAll_stays (hl : laidOutB P = true) {W W' : World} (hb : Below W.heap.size W W') : ∀ {ts : List TypeId} {vs : List Value} {ds : List (DataW H)} {ps : List MemPlace}, (∀ t ∈ ts, P.readableRec t = true ∧ t < P.types.size) →
    DataW.TrodAll enc P W 0 (fun _ => true) true ts vs ds ps → DataW.TrodAll enc P W' 0 (fun b => decide (b < W.heap.size)) true ts vs ds ps
  | [], [], [], ps, _, h => h
  | t :: ts, v :: vs, d :: ds, ps, hr, h => by
    obtain ⟨p, q, h1, h2, rfl⟩ := h
    have h1' := h1
    obtain ⟨m, hm⟩ := h1'
    have hlt : ∀ x ∈ p, x.block < W.heap.size := DataW.trod_lt m _ _ _ hm
    exact ⟨p, q, Below.trod hl (hr t (by simp)).1 (hr t (by simp)).2 h1 hb hlt, trodAll_stays hl hb (fun t ht => hr t (by simp [ht])) h2, rfl⟩

/-- a law by its contract: the call comes back with true and has written nothing that was there -/
theorem calls_of_cr {f : FuncId} {args : List AV} {x : AV} {Hc : Hp} {vs : Array Value} {b : Bool} (hx : x = .c (.d (.v (.bool b)))) (h : CR P f args [] x Hc) (hr : RepF (fun _ => none) w (allI w) args vs) :
    Calls P f vs w fun e w' => e = .returned (.bool b) ∧ Below w.heap.size w w' := by
  subst hx
  refine (h (fun _ => none) (allI w) w vs (fun _ _ => rfl) ⟨fun i j b hi => by simp at hi, fun k cs t hk => by simp [look] at hk, fun k b hk => by simp at hk, fun k b o hk => by simp at hk, fun b o hi => hi⟩ hr).mono ?_
  rintro e w' ⟨v, β', I', rfl, _, hrep, hext⟩
  exact ⟨by rw [RepD.v_eq hrep], hext.os, hext.tape, hext.output, hext.size, fun k hk => hext.block k hk (by simp)⟩
end
end Go.Ev
namespace Go.Ev
open Go.RowKit

/-- the oracle that evaluates the callee -/
def deep (P : Program) (fuel : Nat) : Nat → Orc
  | 0 => fun _ _ _ _ => none
  | n + 1 => fun _ f args k => match P.funcs[f]? with
    | some fn => (match fn.body with
      | some c => (match callA P (deep P fuel n) (fun _ => none) fuel fn c args with
        | some x => k x
        | none => none)
      | none => none)
    | none => none

theorem deep_ok (P : Program) (fuel : Nat) : ∀ n, OrcOk P (deep P fuel n)
  | 0 => fun R f args k r h => by simp [deep] at h
  | n + 1 => fun R f args k r h => by
    simp only [deep] at h
    split at h
    · rename_i fn hf
      split at h
      · rename_i c hb
        split at h
        · rename_i x hx
          obtain ⟨Hc, hc⟩ := callA_ok (deep_ok P fuel n) hf hb hx
          exact ⟨x, Hc, h, hc⟩
        · simp at h
      · simp at h
    · simp at h

/-- a contract ahead of an oracle -/
def Orc.cons (f0 : FuncId) (g : (R : Type) → List AV → (AV → Option R) → Option R) (rest : Orc) : Orc := fun R f args k => bif Nat.beq f f0 then g R args k else rest R f args k

theorem Orc.cons_ok {P : Program} {f0 : FuncId} {g : (R : Type) → List AV → (AV → Option R) → Option R} {rest : Orc} (hr : OrcOk P rest)
    (hg : ∀ (R : Type) args (k : AV → Option R) r, g R args k = some r → ∃ x Hc, k x = some r ∧ CR P f0 args [] x Hc) : OrcOk P (Orc.cons f0 g rest) := fun R f args k r h => by
  unfold Orc.cons at h
  cases hf : Nat.beq f f0 with
  | false => rw [hf] at h; exact hr R f args k r h
  | true => rw [hf] at h; have e := Nat.eq_of_beq_eq_true hf; subst e; exact hg R args k r h

def Orc.nil : Orc := fun _ _ _ _ => none
theorem Orc.nil_ok (P : Program) : OrcOk P Orc.nil := fun R f args k r h => by simp [Orc.nil] at h

/-- an answer that is a plain function of decoded arguments -/
def ans {α : Type} (dec : List AV → Option α) (f : α → AV) : (R : Type) → List AV → (AV → Option R) → Option R := fun _ args k => match dec args with | some a => k (f a) | none => none

theorem ans_ok {P : Program} {f0 : FuncId} {α : Type} {dec : List AV → Option α} {f : α → AV} {enc : α → List AV} (hd : ∀ args a, dec args = some a → args = enc a) (hc : ∀ a, ∃ Hc, CR P f0 (enc a) [] (f a) Hc) :
    ∀ (R : Type) args (k : AV → Option R) r, ans dec f R args k = some r → ∃ x Hc, k x = some r ∧ CR P f0 args [] x Hc := fun R args k r h => by
  unfold ans at h
  split at h
  · rename_i a ha
    obtain ⟨Hc, hcr⟩ := hc a
    rw [hd args a ha]
    exact ⟨_, Hc, h, hcr⟩
  · simp at h

/-- no loop lets anything go -/
abbrev na : Ann := fun _ => none

/-- the first loop's body -/
def loopIn : Code → Option Code
  | .loop c => some c
  | .seq a b => match loopIn a with | some c => some c | none => loopIn b
  | .block _ c => loopIn c
  | .cond _ x y => match loopIn x with | some c => some c | none => loopIn y
  | _ => none
def loopOf (f : Func) : Code := match f.body with | some c => (match loopIn c with | some b => b | none => .skip) | none => .skip

/-- a loop's rounds -/
def loopK {R : Type} (P : Program) (orc : Orc) (ann : Ann) (fuel : Nat) (lb : Code) (keep : Option (List Nat)) (nm0 n : Nat) (s : St) (k : Out → St → Option R) : Option R :=
  iterK keep nm0 (fun s' k' => evK P orc ann fuel lb s' k') n s k

/-- what follows, as the evaluator has it -/
def kBlock {R : Type} (id : Nat) (k : Out → St → Option R) : Out → St → Option R := fun o s' => match o with
  | .norm => k .norm s'
  | .exit j => bif j == id then k .norm s' else k (.exit j) s'
  | .ret => k .ret s'
def kSeq {R : Type} (P : Program) (orc : Orc) (ann : Ann) (n : Nat) (b : Code) (k : Out → St → Option R) : Out → St → Option R := fun o s' => match o with
  | .norm => evK P orc ann n b s' k
  | .exit id => k (.exit id) s'
  | .ret => k .ret s'
def kFin (P : Program) (fn : Func) : Out → St → Option AV := fun o s => match o with
  | .exit _ => none
  | _ => match resultsA P fn s with
    | some l => ofResults l
    | none => none

/-- a part of code: false: the first, true: the second -/
def sub : List Bool → Code → Code
  | [], c => c
  | false :: p, .seq a _ => sub p a
  | true :: p, .seq _ b => sub p b
  | false :: p, .cond _ a _ => sub p a
  | true :: p, .cond _ _ b => sub p b
  | _ :: p, .block _ c => sub p c
  | _ :: p, .loop c => sub p c
  | _ :: _, c => c

/-- a frame: these slots, all others unknown -/
def frmAt (i : Nat) : List (Nat × AV) → AV
  | [] => .u
  | (j, x) :: r => bif Nat.beq i j then x else frmAt i r
def frm (l : List (Nat × AV)) : Nat → Nat → List AV
  | _, 0 => []
  | i, n + 1 => frmAt i l :: frm l (i + 1) n

def bodyOf (f : Func) : Code := match f.body with | some c => c | none => .skip
end Go.Ev
