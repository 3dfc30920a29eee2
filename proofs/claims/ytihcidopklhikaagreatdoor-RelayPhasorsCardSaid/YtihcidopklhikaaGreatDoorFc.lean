/-
  An evaluator of Go code on abstract values, proved sound: what it computes is what every run of the model returns (closed calls, third part). No condition.
-/
import Derived.Test.YtihcidopklhikaaGreatDoorFb
import Derived.Defers
namespace Go.Ez
open Go.RowKit
open Go.Eb (masks edgesDown)

/-! values, compared -/
def beqV : Value → Value → Bool
  | .int k n, .int k' n' => decide (k = k') && decide (n = n')
  | .float k n, .float k' n' => decide (k = k') && Nat.beq n n'
  | .pointer none, .pointer none => true
  | .slice none l c, .slice none l' c' => Nat.beq l l' && Nat.beq c c'
  | .map none, .map none => true
  | .nilFunc, .nilFunc => true
  | .nilIface, .nilIface => true
  | _, _ => false
theorem beqV_eq {x y : Value} (h : beqV x y = true) : x = y := by
  unfold beqV at h
  split at h
  · simp only [Bool.and_eq_true, decide_eq_true_eq] at h; rw [h.1, h.2]
  · simp only [Bool.and_eq_true, decide_eq_true_eq] at h; rw [h.1, Nat.eq_of_beq_eq_true h.2]
  · rfl
  · simp only [Bool.and_eq_true] at h; rw [Nat.eq_of_beq_eq_true h.1, Nat.eq_of_beq_eq_true h.2]
  · rfl
  · rfl
  · rfl
  · cases h
noncomputable def beqP : Cp → Cp → Bool
  | .v x, .v y => beqV x y
  | .p h o, .p h' o' => Pa.beq h h' && Nat.beq o o'
  | _, _ => false
theorem beqP_eq {x y : Cp} (h : beqP x y = true) : x = y := by
  unfold beqP at h
  split at h
  · rw [beqV_eq h]
  · simp only [Bool.and_eq_true] at h
    rw [(Pa.beq_iff _ _).1 h.1, Nat.eq_of_beq_eq_true h.2]
  · cases h
/-- lists, compared by a test of their elements -/
noncomputable def beqL {α : Type} (f : α → α → Bool) (l : List α) : List α → Bool :=
  List.rec (motive := fun _ => List α → Bool) (fun m => List.rec (motive := fun _ => Bool) true (fun _ _ _ => false) m)
    (fun x _ ih m => List.rec (motive := fun _ => Bool) false (fun y r _ => bif f x y then ih r else false) m) l
theorem beqL_eq {α : Type} {f : α → α → Bool} (hf : ∀ x y, f x y = true → x = y) : ∀ {l m : List α}, beqL f l m = true → l = m
  | [], [], _ => rfl
  | [], _ :: _, h => by cases h
  | _ :: _, [], h => by cases h
  | x :: l, y :: m, h => by
    have h : (bif f x y then beqL f l m else false) = true := h
    cases hb : f x y with
    | false => rw [hb] at h; cases h
    | true => rw [hb] at h; rw [hf _ _ hb, beqL_eq hf h]
noncomputable def beq0 : C0 → C0 → Bool
  | .v x, .v y => beqV x y
  | .f g a b, .f g' a' b' => Nat.beq g g' && beqL beqP a a' && beqL beqP b b'
  | .t l n, .t l' n' => Nat.beq l l' && Nat.beq n n'
  | .m h, .m h' => Pa.beq h h'
  | .w k n, .w k' n' => decide (k = k') && Nat.beq n n'
  | _, _ => false
def beqO : Option Nat → Option Nat → Bool
  | none, none => true
  | some a, some b => Nat.beq a b
  | _, _ => false
noncomputable def beqC : CV → CV → Bool
  | .i n, .i m => Nat.beq n m
  | .b x, .b y => bif x then y else !y
  | .p h o, .p h' o' => Pa.beq h h' && Nat.beq o o'
  | .s h o z l c, .s h' o' z' l' c' => Pa.beq h h' && Nat.beq o o' && Nat.beq z z' && Nat.beq l l' && beqO c c'
  | .o x, .o y => beq0 x y
  | _, _ => false
noncomputable def beqCs (l : List CV) : List CV → Bool :=
  List.rec (motive := fun _ => List CV → Bool) (fun m => List.rec (motive := fun _ => Bool) true (fun _ _ _ => false) m)
    (fun x _ ih m => List.rec (motive := fun _ => Bool) false (fun y r _ => bif beqC x y then ih r else false) m) l
noncomputable def beqT : TV → TV → Bool
  | .c x, .c y => beqC x y
  | .a l, .a m => beqCs l m
  | .u, .u => true
  | _, _ => false
noncomputable def beqA : AV → AV → Bool
  | .c x, .c y => beqC x y
  | .a l, .a m => beqCs l m
  | .tup l, .tup m => beqL beqT l m
  | .u, .u => true
  | _, _ => false
theorem beqC_eq {x y : CV} (h : beqC x y = true) : x = y := by
  unfold beqC at h
  split at h
  · rw [Nat.eq_of_beq_eq_true h]
  · rename_i a b; cases a <;> cases b <;> simp_all
  · simp only [Bool.and_eq_true] at h
    rw [(Pa.beq_iff _ _).1 h.1, Nat.eq_of_beq_eq_true h.2]
  · rename_i h1 o z l c h' o' z' l' c'
    simp only [Bool.and_eq_true] at h
    obtain ⟨⟨⟨⟨a1, a2⟩, a3⟩, a4⟩, a5⟩ := h
    have e5 : c = c' := by
      unfold beqO at a5
      split at a5
      · rfl
      · rw [Nat.eq_of_beq_eq_true a5]
      · cases a5
    rw [(Pa.beq_iff _ _).1 a1, Nat.eq_of_beq_eq_true a2, Nat.eq_of_beq_eq_true a3, Nat.eq_of_beq_eq_true a4, e5]
  · unfold beq0 at h
    split at h
    · rw [beqV_eq h]
    · simp only [Bool.and_eq_true] at h
      rw [Nat.eq_of_beq_eq_true h.1.1, beqL_eq (fun _ _ => beqP_eq) h.1.2, beqL_eq (fun _ _ => beqP_eq) h.2]
    · simp only [Bool.and_eq_true] at h
      rw [Nat.eq_of_beq_eq_true h.1, Nat.eq_of_beq_eq_true h.2]
    · rw [(Pa.beq_iff _ _).1 h]
    · simp only [Bool.and_eq_true, decide_eq_true_eq] at h
      rw [h.1, Nat.eq_of_beq_eq_true h.2]
    · cases h
  · cases h
theorem beqCs_eq : ∀ {l m : List CV}, beqCs l m = true → l = m
  | [], [], _ => rfl
  | [], _ :: _, h => by cases h
  | _ :: _, [], h => by cases h
  | x :: l, y :: m, h => by
    have h : (bif beqC x y then beqCs l m else false) = true := h
    cases hb : beqC x y with
    | false => rw [hb] at h; cases h
    | true => rw [hb] at h; rw [beqC_eq hb, beqCs_eq h]
theorem beqT_eq {x y : TV} (h : beqT x y = true) : x = y := by
  unfold beqT at h
  split at h
  · rw [beqC_eq h]
  · rw [beqCs_eq h]
  · rfl
  · cases h
theorem beqA_eq {x y : AV} (h : beqA x y = true) : x = y := by
  unfold beqA at h
  split at h
  · rw [beqC_eq h]
  · rw [beqCs_eq h]
  · rw [beqL_eq (fun _ _ => beqT_eq) h]
  · rfl
  · cases h

/-! names -/
noncomputable def numR (p : Pa) : Nat := Pa.rec (motive := fun _ => Nat) 0 (fun _ n => 4 * n) (fun _ n => 4 * n + 1) (fun _ n => 4 * n + 2) (fun _ n => 4 * n + 3) p
theorem numR_eq (p : Pa) : numR p = p.num := by
  induction p with
  | e => rfl
  | d0 r ih => show 4 * numR r = _; rw [ih]; rfl
  | d1 r ih => show 4 * numR r + 1 = _; rw [ih]; rfl
  | d2 r ih => show 4 * numR r + 2 = _; rw [ih]; rfl
  | d3 r ih => show 4 * numR r + 3 = _; rw [ih]; rfl
noncomputable def incsK {R : Type} (n : Nat) (p : Pa) : (Pa → Option R) → Option R := Nat.rec (motive := fun _ => (Pa → Option R) → Option R) (fun k => k p) (fun _ ih k => ih fun q => incK q k) n
theorem incsK_eq {R : Type} (n : Nat) (p : Pa) : ∀ k : Pa → Option R, incsK n p k = k (Pa.incs n p) := by
  induction n with
  | zero => intro k; rfl
  | succ n ih =>
    intro k
    show incsK n p (fun q => incK q k) = _
    rw [ih, incK_eq]; rfl
/-- blocks taken away -/
noncomputable def awayK {R : Type} (b : Pa) (ks : List Nat) : Hz → (Hz → Option R) → Option R := List.rec (motive := fun _ => Hz → (Hz → Option R) → Option R) (fun H k => k H) (fun i _ ih H k => incsK i b fun q => Tr.setK none q H fun H' => ih H' k) ks
/-- and put back -/
noncomputable def backK {R : Type} (b : Pa) (H : Hz) (ks : List Nat) : Hz → (Hz → Option R) → Option R := List.rec (motive := fun _ => Hz → (Hz → Option R) → Option R) (fun H1 k => k H1) (fun i _ ih H1 k => incsK i b fun q => Tr.setK (H.get q) q H1 fun H' => ih H' k) ks
theorem awayK_some {R : Type} {b : Pa} : ∀ {ks : List Nat} {H : Hz} {k : Hz → Option R} {r : R}, awayK b ks H k = some r → ∃ H1, k H1 = some r ∧ ∀ p, H1.get p = if p ∈ ks.map (Pa.incs · b) then none else H.get p
  | [], H, k, r, h => ⟨H, h, fun p => by simp⟩
  | i :: ks, H, k, r, h => by
    have h : incsK i b (fun q => Tr.setK none q H fun H' => awayK b ks H' k) = some r := h
    rw [incsK_eq, Tr.setK_eq] at h
    obtain ⟨H1, hk, hp⟩ := awayK_some h
    refine ⟨H1, hk, fun p => ?_⟩
    rw [hp, Tr.get_set]
    by_cases e : p = Pa.incs i b
    · simp [e]
    · simp [e]
theorem backK_some {R : Type} {b : Pa} {H : Hz} : ∀ {ks : List Nat} {H1 : Hz} {k : Hz → Option R} {r : R}, backK b H ks H1 k = some r → ∃ H2, k H2 = some r ∧ ∀ p, H2.get p = if p ∈ ks.map (Pa.incs · b) then H.get p else H1.get p
  | [], H1, k, r, h => ⟨H1, h, fun p => by simp⟩
  | i :: ks, H1, k, r, h => by
    have h : incsK i b (fun q => Tr.setK (H.get q) q H1 fun H' => backK b H ks H' k) = some r := h
    rw [incsK_eq, Tr.setK_eq] at h
    obtain ⟨H2, hk, hp⟩ := backK_some h
    refine ⟨H2, hk, fun p => ?_⟩
    rw [hp, Tr.get_set]
    by_cases e : p = Pa.incs i b
    · simp [e]
    · simp [e]

/-! what is kept of an operation that is carried out -/
inductive Tq where
  | no
  | ld (p : Pa) (chk : Option Bk → Option Rz → Option Rz)
  | al (n : Pa)
  | st (q : Pa)
  | mu (q : Pa) (rk : Nat)
  | bg (H : Hz)
/-- how an operation is carried out -/
inductive Kd where
  | pu
  | ld (a : Operand)
  | al
  | st (a : Operand)
  | mu
  | bg
def Kd.isPu : Kd → Bool
  | .pu => true
  | _ => false
def Kd.isAl : Kd → Bool
  | .al => true
  | _ => false
def kdOf : Op → Kd
  | .load _ a => .ld a
  | .store _ a _ => .st a
  | .alloc _ => .al
  | .box _ _ => .al
  | .makeSlice _ _ _ => .al
  | .buildSlice _ _ _ => .al
  | .makeMap _ _ => .al
  | .lookup .. => .bg
  | .mapUpdate .. => .mu
  | .insert .. => .mu
  | .call { callee := .builtin .len, .. } => .pu
  | .call { callee := .builtin .min, .. } => .pu
  | .call { callee := .builtin .max, .. } => .pu
  | .call _ => .bg
  | _ => .pu
/-- no edge orders the two -/
def unO (ms : List Nat) (i j : Nat) : Bool := bif Nat.blt i j then !Nat.testBit (ms.getD j 0) i else bif Nat.blt j i then !Nat.testBit (ms.getD i 0) j else false
/-- what no edge orders does not meet in slots; every edge goes back -/
def statZ (ops : Array Oper) (ms : List Nat) : Bool := edgesDown ops && (List.range ops.size).all fun j => (List.range j).all fun i => Nat.testBit (ms.getD j 0) i || match ops[i]?, ops[j]? with | some o, some q => o.apart ops q | _, _ => false
/-- how each is carried out -/
def kinds (ms : List Nat) (l : List Kd) : List Kd :=
  l.zipIdx.map fun (k, j) => bif l.zipIdx.any (fun (_, i) => unO ms i j) then (bif k.isPu then .pu else bif l.zipIdx.any (fun (k', i) => unO ms i j && !k'.isPu) then k else .bg) else .bg
/-- earlier ones that are to be looked at, the last first -/
def unL (ms : List Nat) (kds : List Kd) (j : Nat) : List Bool := (List.range j).reverse.map fun i => unO ms i j && !(kds.getD i .bg).isPu && !(kds.getD j .bg).isPu
/-- blocks that are not there for it -/
def alL (ms : List Nat) (kds : List Kd) (j : Nat) : List Nat := (List.range kds.length).filter fun i => unO ms i j && (kds.getD i .bg).isAl

noncomputable def chkP (f : Tq → Option Rz → Option Rz) (un : List Bool) : List Tq → Option Rz → Option Rz :=
  List.rec (motive := fun _ => List Tq → Option Rz → Option Rz) (fun _ k => k) (fun b _ ih tr k => List.rec (motive := fun _ => Option Rz) none (fun t r _ => bif b then f t (ih r k) else ih r k) tr) un
theorem chkP_some {f : Tq → Option Rz → Option Rz} {r : Rz} : ∀ {un : List Bool} {tr : List Tq} {k : Option Rz}, (∀ t ∈ tr, ∀ k, f t k = some r → k = some r) → chkP f un tr k = some r → k = some r ∧ ∀ (i : Nat) t, un[i]? = some true → tr[i]? = some t → ∃ k, f t k = some r
  | [], tr, k, hf, h => ⟨h, fun i t h => by simp at h⟩
  | b :: un, [], k, hf, h => by cases h
  | b :: un, t :: tr, k, hf, h => by
    have h : (bif b then f t (chkP f un tr k) else chkP f un tr k) = some r := h
    cases b with
    | false =>
      obtain ⟨h1, h2⟩ := chkP_some (un := un) (tr := tr) (fun t ht => hf t (List.mem_cons_of_mem _ ht)) h
      refine ⟨h1, fun i t' hu ht => ?_⟩
      cases i with
      | zero => simp at hu
      | succ i => exact h2 i t' (by simpa using hu) (by simpa using ht)
    | true =>
      have h0 := h
      have h := hf t (by simp) _ h
      obtain ⟨h1, h2⟩ := chkP_some (un := un) (tr := tr) (fun t ht => hf t (List.mem_cons_of_mem _ ht)) h
      refine ⟨h1, fun i t' hu ht => ?_⟩
      cases i with
      | zero => simp at ht; subst ht; exact ⟨_, h0⟩
      | succ i => exact h2 i t' (by simpa using hu) (by simpa using ht)

noncomputable def neK (p q : Pa) (k : Option Rz) : Option Rz := ifK (Pa.beq p q) none k
theorem neK_some {p q : Pa} {k : Option Rz} {r : Rz} (h : neK p q k = some r) : p ≠ q ∧ k = some r := by
  rcases ifK_some h with ⟨_, h⟩ | ⟨hb, h⟩
  · cases h
  · refine ⟨fun e => ?_, h⟩
    rw [(Pa.beq_iff p q).2 e] at hb
    cases hb

noncomputable def tqK (t : Tq) (k : Option Rz) (ld : Pa → (Option Bk → Option Rz → Option Rz) → Option Rz) (al st : Pa → Option Rz) (mu : Pa → Nat → Option Rz) (bg : Hz → Option Rz) : Option Rz := Tq.rec (motive := fun _ => Option Rz) k ld al st mu bg t
noncomputable def fLd (p : Pa) (chk : Option Bk → Option Rz → Option Rz) (t : Tq) (k : Option Rz) : Option Rz := tqK t k (fun _ _ => k) (fun n => neK p n k) (fun q => neK p q k) (fun q _ => neK p q k) (fun H => chk (H.get p) k)
noncomputable def fAl (n : Pa) (t : Tq) (k : Option Rz) : Option Rz := tqK t k (fun p _ => neK p n k) (fun _ => k) (fun q => neK q n k) (fun q _ => neK q n k) (fun _ => k)
noncomputable def fSt (q : Pa) (t : Tq) (k : Option Rz) : Option Rz := tqK t k (fun p _ => neK p q k) (fun n => neK n q k) (fun q' => neK q' q k) (fun q' _ => neK q' q k) (fun _ => none)
noncomputable def fMu (q : Pa) (rk : Nat) (t : Tq) (k : Option Rz) : Option Rz := tqK t k (fun p _ => neK p q k) (fun n => neK n q k) (fun q' => neK q' q k) (fun q' rk' => ifK (Pa.beq q' q && Nat.beq rk' rk) none k) (fun _ => none)
noncomputable def fBg (H2 : Hz) (t : Tq) (k : Option Rz) : Option Rz := tqK t k (fun p chk => chk (H2.get p) k) (fun _ => k) (fun _ => none) (fun _ _ => none) (fun _ => none)

/-! one operation: e: slots, H: memory, c: the next name for calls, n: its own name, tr: what was done -/
abbrev Kq := En → Hz → Pa → Pa → List Tq → Option Rz
inductive Dq where
  | mk (f : Pa → En → Hz → Pa → Pa → List Tq → Kq → Option Rz)
noncomputable def runS (f : Cl En Rz) (e : En) (S : Hz) (n : Pa) (k : AV → Hz → Pa → Option Rz) : Option Rz := optK (f e S n fun x S' n' => some (.mk x S' n')) fun z => Rz.rec (motive := fun _ => Option Rz) k z
noncomputable def chkX (f : Cl En Rz) (e : En) (p n : Pa) (x : AV) (ob : Option Bk) (k : Option Rz) : Option Rz := optK ob fun B => Tr.setK (some B) p .e fun S => runS f e S n fun y _ _ => ifK (beqA x y) k none

section
variable (f : Cl En Rz) (g : AV → En → (En → Option Rz) → Option Rz) (ga : En → (AV → Option Rz) → Option Rz) (un : List Bool) (ks : List Nat)
noncomputable def nextK (x : AV) (e : En) (H : Hz) (c n : Pa) (t : Tq) (tr : List Tq) (k : Kq) : Option Rz := g x e fun e' => incK n fun n' => k e' H c n' (t :: tr)
noncomputable def dPu : Pa → En → Hz → Pa → Pa → List Tq → Kq → Option Rz := fun _ e H c n tr k => runS f e .e n fun x _ _ => nextK g x e H c n .no tr k
noncomputable def dLd : Pa → En → Hz → Pa → Pa → List Tq → Kq → Option Rz := fun _ e H c n tr k => ga e fun a => asP a (fun p _ => optK (H.get p) fun B => Tr.setK (some B) p .e fun S => runS f e S n fun x _ _ => chkP (fLd p (chkX f e p n x)) un tr (nextK g x e H c n (.ld p (chkX f e p n x)) tr k)) none
noncomputable def dAl : Pa → En → Hz → Pa → Pa → List Tq → Kq → Option Rz := fun _ e H c n tr k => runS f e .e n fun x S _ => optK (S.get n) fun B => chkP (fAl n) un tr (Tr.setK (some B) n H fun H' => nextK g x e H' c n (.al n) tr k)
noncomputable def dSt : Pa → En → Hz → Pa → Pa → List Tq → Kq → Option Rz := fun _ e H c n tr k => ga e fun a => asP a (fun q _ => optK (H.get q) fun B => Tr.setK (some B) q .e fun S => runS f e S n fun x S' _ => optK (S'.get q) fun B' => chkP (fSt q) un tr (Tr.setK (some B') q H fun H' => nextK g x e H' c n (.st q) tr k)) none
noncomputable def dMu (gk : En → (AV → Option Rz) → Option Rz) : Pa → En → Hz → Pa → Pa → List Tq → Kq → Option Rz := fun _ e H c n tr k => ga e fun a => asM a fun q => gk e fun kv => optK (concA kv) fun key => natK (rankV key) fun rk => optK (H.get q) fun B => Tr.setK (some B) q .e fun S => runS f e S n fun x S' _ => optK (S'.get q) fun B' => chkP (fMu q rk) un tr (Tr.setK (some B') q H fun H' => nextK g x e H' c n (.mu q rk) tr k)
noncomputable def dBg : Pa → En → Hz → Pa → Pa → List Tq → Kq → Option Rz := fun b e H c n tr k => awayK b ks H fun H1 => runS f e H1 c fun x H' c' => ifK (Nat.ble (numR c) (numR c')) (backK b H ks H' fun H2 => chkP (fBg H2) un tr (nextK g x e H2 c' n (.bg H) tr k)) none
end

section
variable (P : Program) (G nt lm : Nat) (orc : Oz)
noncomputable def opD (ms : List Nat) (kds : List Kd) (loc : List Nat) (j : Nat) (o : Oper) (g : AV → En → (En → Option Rz) → Option Rz) : Dq :=
  listK (unL ms kds j) fun un => match kds.getD j .bg with
    | .pu => Ci.rec (motive := fun _ => Dq) (fun f => .mk (dPu f g)) (opC Rz P G nt lm loc o.op)
    | .ld a => Ci.rec (motive := fun _ => Dq) (fun f => withO Rz G nt lm loc a fun ga => match o.op with | .load .. => .mk (dLd f g ga un) | _ => .mk fun _ _ _ _ _ _ _ => none) (opC Rz P G nt lm loc o.op)
    | .al => Ci.rec (motive := fun _ => Dq) (fun f => .mk (dAl f g un)) (opC Rz P G nt lm loc o.op)
    | .st a => Ci.rec (motive := fun _ => Dq) (fun f => withO Rz G nt lm loc a fun ga => .mk (dSt f g ga un)) (opC Rz P G nt lm loc o.op)
    | .mu => (match o.op with
      | .mapUpdate _ m kk _ => Ci.rec (motive := fun _ => Dq) (fun f => withO Rz G nt lm loc m fun ga => withO Rz G nt lm loc kk fun gk => .mk (dMu f g ga un gk)) (opC Rz P G nt lm loc o.op)
      | .insert _ m kk _ => Ci.rec (motive := fun _ => Dq) (fun f => withO Rz G nt lm loc m fun ga => withO Rz G nt lm loc kk fun gk => .mk (dMu f g ga un gk)) (opC Rz P G nt lm loc o.op)
      | _ => .mk fun _ _ _ _ _ _ _ => none)
    | .bg => listK (alL ms kds j) fun ks => Ci.rec (motive := fun _ => Dq) (fun f => .mk (dBg f g un ks)) (opCC Rz P G nt lm orc loc o)
noncomputable def stD (ms : List Nat) (kds : List Kd) (loc : List Nat) (ops : Array Oper) (j : Nat) (o : Oper) : Dq :=
  Pe.rec (motive := fun _ => Dq) (fun g => Dq.rec (motive := fun _ => Dq) (fun f => match o.guard with
    | none => .mk f
    | some (i, want) => match (ops[i]?).bind (·.dst) with
      | none => .mk fun _ _ _ _ _ _ _ => none
      | some d => withO Rz G nt lm loc (.tmp d) fun gd => .mk fun b e H c n tr k => gd e fun v => grdK Rz want v (f b e H c n tr k) (nextK g (.tup []) e H c n .no tr k)) (opD P G nt lm orc ms kds loc j o g)) (putE Rz nt lm o.dst)
noncomputable def opsD (ms : List Nat) (kds : List Kd) (ops : Array Oper) : List Nat → Nat → List Oper → Dq
  | _, _, [] => .mk fun _ e H c n tr k => k e H c n tr
  | loc, j, o :: r => Dq.rec (motive := fun _ => Dq) (fun f => Dq.rec (motive := fun _ => Dq) (fun g => .mk fun b e H c n tr k => f b e H c n tr fun e' H' c' n' tr' => g b e' H' c' n' tr' k) (opsD ms kds ops (locD lm o.dst loc) (j + 1) r)) (stD P G nt lm orc ms kds loc ops j o)
/-- a drawn region -/
noncomputable def drawC (ops : Array Oper) : Cs Rz :=
  listK (masks ops.toList []) fun ms => bif statZ ops ms && P.follows .mixedOrders && Nat.ble nt 512 then
    listK (kinds ms (ops.toList.map fun o => kdOf o.op)) fun kds => Dq.rec (motive := fun _ => Cs Rz) (fun f => .mk fun e H nx k => incsK ops.size nx fun c => f nx e H c nx [] fun e' H' c' _ _ => k e' H' c') (opsD P G nt lm orc ms kds ops [] 0 ops.toList)
  else .mk fun _ _ _ _ => none
end
end Go.Ez
namespace Go.Ez
open Go.RowKit
open Go.Eb (masks edgesDown)

theorem RunR.snoc {P : Program} {G nt : Nat} {ops : Array Oper} {i : Nat} {a : Ak} : ∀ {l : List Nat} {s s1 s2 : Tz} {tr : List (Nat × Ak)}, RunR P G nt ops l s tr s1 → StepR P G nt ops i s1 a s2 → RunR P G nt ops (l ++ [i]) s (tr ++ [(i, a)]) s2
  | [], s, s1, s2, tr, h, k => by
    obtain ⟨rfl, rfl⟩ := h
    exact ⟨a, s2, [], k, ⟨rfl, rfl⟩, rfl⟩
  | j :: l, s, s1, s2, tr, h, k => by
    obtain ⟨b, s', tr', h1, h2, rfl⟩ := h
    exact ⟨b, s', _, h1, h2.snoc k, rfl⟩
theorem CommR.snoc {ops : Array Oper} {ms : List Nat} {x : Nat × Ak} : ∀ {tr : List (Nat × Ak)}, CommR ops ms tr → (∀ y ∈ tr, (ms.getD x.1 0).testBit y.1 = true ∨ IndR ops y x) → CommR ops ms (tr ++ [x])
  | [], _, _ => ⟨fun y hy => by simp at hy, trivial⟩
  | y :: tr, h, k => ⟨fun z hz => by
      simp at hz
      rcases hz with hz | rfl
      · exact h.1 z hz
      · exact k y (by simp), h.2.snoc fun z hz => k z (by simp [hz])⟩

theorem runS_some {f : Cl En Rz} {e : En} {S : Hz} {n : Pa} {k : AV → Hz → Pa → Option Rz} {r : Rz} (h : runS f e S n k = some r) : ∃ x S' n', k x S' n' = some r ∧ f e S n (fun x S' n' => some (.mk x S' n')) = some (.mk x S' n') := by
  unfold runS at h
  obtain ⟨z, hz, h⟩ := optK_some h
  obtain ⟨x, S', n'⟩ := z
  exact ⟨x, S', n', h, hz⟩

section
variable {P : Program} {G nt lm : Nat}
theorem run_step {loc : List Nat} {o : Oper} {f : Cl En Rz} (hf : opC Rz P G nt lm loc o.op = .mk f) {e : En} {S S' : Hz} {n n' : Pa} {x : AV} (h : f e S n (fun x S' n' => some (.mk x S' n')) = some (.mk x S' n')) : StepOk P o (cut o.op (opA G nt lm loc e)) S n x S' n' := by
  obtain ⟨dst, op, ty, pos, after, guard⟩ := o
  obtain ⟨x1, S1, n1, he, hst⟩ := opC_sound (dst := dst) (ty := ty) (pos := pos) (after := after) (guard := guard) (ρ := fun e => cut op (opA G nt lm loc e)) (fun y hy e => cut_mem hy) hf e S n _ _ h
  cases he
  exact hst
theorem load_same {R : Type} {loc : List Nat} {t : TypeId} {a : Operand} {f : Cl En R} (hf : opC R P G nt lm loc (.load t a) = .mk f) {e : En} {H : Hz} {n : Pa} {k : Kz R} {r : R} (h : f e H n k = some r) : ∃ x, k x H n = some r := by
  unfold opC at hf
  simp only at hf
  obtain ⟨g, hg, eg⟩ := withO_eq (ρ := opA G nt lm loc) R (x := a) (fun _ => rfl)
  have core : ∀ {n' : Nat} {ag : Bool}, loadC n' ag g e H n k = some r → ∃ x, k x H n = some r := fun h => by
    unfold loadC at h
    rw [hg] at h
    rcases asP_some h with ⟨p, off, _, h⟩ | h
    · obtain ⟨x, hx, _⟩ := loadK_some h
      exact ⟨x, hx⟩
    · cases h
  split at hf
  · rename_i ag m hag hs
    rw [natK_eq, eg] at hf
    cases ag <;> (cases hf; exact core h)
  · cases hf; cases h

/-- what is kept is so -/
def TqOk (ms : List Nat) (kds : List Kd) (b : Pa) (N i : Nat) (t : Tq) (y : Ak) : Prop := ((kds.getD i .bg).isPu = true → t = .no) ∧ match t with
  | .no => y = .skip ∨ ∃ x, y = .sm x (Pa.incs i b) none none
  | .ld p chk => ∃ x L, y = .sm x (Pa.incs i b) (some (p, L)) none ∧ ∀ ob k r, chk ob k = some r → L ob ∧ k = some r
  | .al n => (kds.getD i .bg).isAl = true ∧ n = Pa.incs i b ∧ ∃ x B, y = .sm x (Pa.incs i b) none (some (n, B))
  | .st q => ∃ x L B, y = .sm x (Pa.incs i b) (some (q, L)) (some (q, B))
  | .mu q rk => ∃ kd key val, y = .mu (Pa.incs i b) q kd key val ∧ rk = rankV key
  | .bg H => ∃ x X H1 H' c c', y = .bg x X (Tr.get · H1) (Tr.get · H') c c' ∧ b.num + N ≤ c.num ∧ (∀ p, p ∉ X → H1.get p = H.get p) ∧ ∀ k, k < kds.length → (kds.getD k .bg).isAl = true → unO ms k i = true → Pa.incs k b ∈ X

variable {ms : List Nat} {kds : List Kd} {b : Pa} {N i j : Nat} {t : Tq} {y : Ak}
theorem incs_ne {i j : Nat} (b : Pa) (h : i ≠ j) : Pa.incs i b ≠ Pa.incs j b := fun e => by
  have := congrArg Pa.num e
  rw [Pa.num_incs, Pa.num_incs] at this
  omega

theorem ind_pu (h : TqOk ms kds b N i t y) (hij : i < j) (hj : j < N) {x : AV} : Ind y (.sm x (Pa.incs j b) none none) := by
  have hne := incs_ne b (Nat.ne_of_lt hij)
  obtain ⟨_, h⟩ := h
  cases t with
  | no =>
    rcases h with rfl | ⟨x', rfl⟩
    · exact ind_skip_l _
    · exact ind_sm hne (fun _ _ _ _ h => by cases h) (fun _ _ _ _ h => by cases h) (fun _ _ _ _ h => by cases h)
  | ld p chk =>
    obtain ⟨x', L, rfl, _⟩ := h
    exact ind_sm hne (fun _ _ _ _ _ h => by cases h) (fun _ _ _ _ h => by cases h) (fun _ _ _ _ _ h => by cases h)
  | al n =>
    obtain ⟨_, _, x', B, rfl⟩ := h
    exact ind_sm hne (fun _ _ _ _ _ h => by cases h) (fun _ _ _ _ h => by cases h) (fun _ _ _ _ _ h => by cases h)
  | st q =>
    obtain ⟨x', L, B, rfl⟩ := h
    exact ind_sm hne (fun _ _ _ _ _ h => by cases h) (fun _ _ _ _ h => by cases h) (fun _ _ _ _ _ h => by cases h)
  | mu q rk =>
    obtain ⟨kd, key, val, rfl, _⟩ := h
    exact ind_mu_sm hne (fun _ _ h => by cases h) (fun _ _ h => by cases h)
  | bg H =>
    obtain ⟨x', X, H1, H', c, c', rfl, hc, _, _⟩ := h
    exact ind_bg_sm (by rw [Pa.num_incs]; omega) (fun _ _ h => by cases h) (fun _ _ h => by cases h)

theorem ind_skip (h : TqOk ms kds b N i t y) : Ind y .skip := ind_skip_r y

theorem ind_ld (h : TqOk ms kds b N i t y) (hij : i < j) (hj : j < N) {x : AV} {p : Pa} {L : Option Bk → Prop} {chk : Option Bk → Option Rz → Option Rz} (hchk : ∀ ob k r, chk ob k = some r → L ob ∧ k = some r) {k : Option Rz} {r : Rz} (hg : fLd p chk t k = some r) : Ind y (.sm x (Pa.incs j b) (some (p, L)) none) := by
  have hne := incs_ne b (Nat.ne_of_lt hij)
  obtain ⟨_, h⟩ := h
  cases t with
  | no =>
    rcases h with rfl | ⟨x', rfl⟩
    · exact ind_skip_l _
    · exact ind_sm hne (fun _ _ _ _ h => by cases h) (fun _ _ _ _ _ h => by cases h) (fun _ _ _ _ h => by cases h)
  | ld p' chk' =>
    obtain ⟨x', L', rfl, _⟩ := h
    exact ind_sm hne (fun _ _ _ _ _ h => by cases h) (fun _ _ _ _ _ h => by cases h) (fun _ _ _ _ h => by cases h)
  | al n =>
    obtain ⟨_, _, x', B, rfl⟩ := h
    have := neK_some (show neK p n k = some r from hg)
    exact ind_sm hne (fun _ _ _ _ h => by cases h) (fun p1 L1 q1 B1 h1 h2 => by cases h1; cases h2; exact this.1) (fun _ _ _ _ _ h => by cases h)
  | st q =>
    obtain ⟨x', L', B, rfl⟩ := h
    have := neK_some (show neK p q k = some r from hg)
    exact ind_sm hne (fun _ _ _ _ _ h => by cases h) (fun p1 L1 q1 B1 h1 h2 => by cases h1; cases h2; exact this.1) (fun _ _ _ _ _ h => by cases h)
  | mu q rk =>
    obtain ⟨kd, key, val, rfl, _⟩ := h
    have := neK_some (show neK p q k = some r from hg)
    exact ind_mu_sm hne (fun p1 L1 h1 => by cases h1; exact this.1) (fun _ _ h => by cases h)
  | bg H =>
    obtain ⟨x', X, H1, H', c, c', rfl, hc, hX, _⟩ := h
    have := hchk _ _ _ (show chk (H.get p) k = some r from hg)
    refine ind_bg_sm (by rw [Pa.num_incs]; omega) (fun p1 L1 h1 => ?_) (fun _ _ h => by cases h)
    cases h1
    by_cases hm : p ∈ X
    · exact .inl hm
    · right
      show L (H1.get p)
      rw [hX p hm]; exact this.1

theorem ind_al (h : TqOk ms kds b N i t y) (hij : i < j) (hj : j < N) (hjk : j < kds.length) {x : AV} {B : Bk} (hal : (kds.getD j .bg).isAl = true) (hu : unO ms j i = true) {k : Option Rz} {r : Rz} (hg : fAl (Pa.incs j b) t k = some r) : Ind y (.sm x (Pa.incs j b) none (some (Pa.incs j b, B))) := by
  have hne := incs_ne b (Nat.ne_of_lt hij)
  obtain ⟨_, h⟩ := h
  cases t with
  | no =>
    rcases h with rfl | ⟨x', rfl⟩
    · exact ind_skip_l _
    · exact ind_sm hne (fun _ _ _ _ h => by cases h) (fun _ _ _ _ h => by cases h) (fun _ _ _ _ h => by cases h)
  | ld p chk =>
    obtain ⟨x', L', rfl, _⟩ := h
    have := neK_some (show neK p (Pa.incs j b) k = some r from hg)
    exact ind_sm hne (fun p1 L1 q1 B1 h1 h2 => by cases h1; cases h2; exact this.1) (fun _ _ _ _ h => by cases h) (fun _ _ _ _ h => by cases h)
  | al n =>
    obtain ⟨_, e, x', B', rfl⟩ := h
    subst e
    exact ind_sm hne (fun _ _ _ _ h => by cases h) (fun _ _ _ _ h => by cases h) (fun p1 B1 q1 B2 h1 h2 => by cases h1; cases h2; exact hne)
  | st q =>
    obtain ⟨x', L', B', rfl⟩ := h
    have := neK_some (show neK q (Pa.incs j b) k = some r from hg)
    exact ind_sm hne (fun p1 L1 q1 B1 h1 h2 => by cases h1; cases h2; exact this.1) (fun _ _ _ _ h => by cases h) (fun p1 B1 q1 B2 h1 h2 => by cases h1; cases h2; exact this.1)
  | mu q rk =>
    obtain ⟨kd, key, val, rfl, _⟩ := h
    have := neK_some (show neK q (Pa.incs j b) k = some r from hg)
    exact ind_mu_sm hne (fun _ _ h => by cases h) (fun q1 B1 h1 => by cases h1; exact this.1)
  | bg H =>
    obtain ⟨x', X, H1, H', c, c', rfl, hc, hX, hal'⟩ := h
    exact ind_bg_sm (by rw [Pa.num_incs]; omega) (fun _ _ h => by cases h) (fun q B h => by cases h; exact hal' j hjk hal hu)

theorem ind_st (h : TqOk ms kds b N i t y) (hij : i < j) (hj : j < N) {x : AV} {q : Pa} {L : Option Bk → Prop} {B : Bk} {k : Option Rz} {r : Rz} (hg : fSt q t k = some r) : Ind y (.sm x (Pa.incs j b) (some (q, L)) (some (q, B))) := by
  have hne := incs_ne b (Nat.ne_of_lt hij)
  obtain ⟨_, h⟩ := h
  cases t with
  | no =>
    rcases h with rfl | ⟨x', rfl⟩
    · exact ind_skip_l _
    · exact ind_sm hne (fun _ _ _ _ h => by cases h) (fun _ _ _ _ _ h => by cases h) (fun _ _ _ _ h => by cases h)
  | ld p chk =>
    obtain ⟨x', L', rfl, _⟩ := h
    have := neK_some (show neK p q k = some r from hg)
    exact ind_sm hne (fun p1 L1 q1 B1 h1 h2 => by cases h1; cases h2; exact this.1) (fun _ _ _ _ _ h => by cases h) (fun _ _ _ _ h => by cases h)
  | al n =>
    obtain ⟨_, _, x', B', rfl⟩ := h
    have := neK_some (show neK n q k = some r from hg)
    exact ind_sm hne (fun _ _ _ _ h => by cases h) (fun p1 L1 q1 B1 h1 h2 => by cases h1; cases h2; exact this.1.symm) (fun p1 B1 q1 B2 h1 h2 => by cases h1; cases h2; exact this.1)
  | st q' =>
    obtain ⟨x', L', B', rfl⟩ := h
    have := neK_some (show neK q' q k = some r from hg)
    exact ind_sm hne (fun p1 L1 q1 B1 h1 h2 => by cases h1; cases h2; exact this.1) (fun p1 L1 q1 B1 h1 h2 => by cases h1; cases h2; exact this.1.symm) (fun p1 B1 q1 B2 h1 h2 => by cases h1; cases h2; exact this.1)
  | mu q' rk =>
    obtain ⟨kd, key, val, rfl, _⟩ := h
    have := neK_some (show neK q' q k = some r from hg)
    exact ind_mu_sm hne (fun p1 L1 h1 => by cases h1; exact this.1.symm) (fun q1 B1 h1 => by cases h1; exact this.1)
  | bg H => cases hg

theorem ind_mu (h : TqOk ms kds b N i t y) (hij : i < j) {q : Pa} {kd : Nat} {key val : Value} {k : Option Rz} {r : Rz} (hg : fMu q (rankV key) t k = some r) : Ind y (.mu (Pa.incs j b) q kd key val) := by
  have hne := incs_ne b (Nat.ne_of_lt hij)
  obtain ⟨_, h⟩ := h
  cases t with
  | no =>
    rcases h with rfl | ⟨x', rfl⟩
    · exact ind_skip_l _
    · exact ind_sm_mu hne (fun _ _ h => by cases h) (fun _ _ h => by cases h)
  | ld p chk =>
    obtain ⟨x', L', rfl, _⟩ := h
    have := neK_some (show neK p q k = some r from hg)
    exact ind_sm_mu hne (fun p1 L1 h1 => by cases h1; exact this.1) (fun _ _ h => by cases h)
  | al n =>
    obtain ⟨_, _, x', B', rfl⟩ := h
    have := neK_some (show neK n q k = some r from hg)
    exact ind_sm_mu hne (fun _ _ h => by cases h) (fun q1 B1 h1 => by cases h1; exact this.1.symm)
  | st q' =>
    obtain ⟨x', L', B', rfl⟩ := h
    have := neK_some (show neK q' q k = some r from hg)
    exact ind_sm_mu hne (fun p1 L1 h1 => by cases h1; exact this.1) (fun q1 B1 h1 => by cases h1; exact this.1.symm)
  | mu q' rk' =>
    obtain ⟨kd', key', val', rfl, rfl⟩ := h
    rcases ifK_some (show ifK (Pa.beq q' q && Nat.beq (rankV key') (rankV key)) none k = some r from hg) with ⟨_, h⟩ | ⟨hb, _⟩
    · cases h
    · refine ind_mu_mu hne ?_
      by_cases e : q' = q
      · right
        intro e2
        rw [(Pa.beq_iff q' q).2 e, e2, Nat.beq_refl] at hb
        cases hb
      · exact .inl e
  | bg H => cases hg

theorem ind_bg (h : TqOk ms kds b N i t y) (hij : i < j) (hik : i < kds.length) {x : AV} {X : List Pa} {Hp : Hf} {H' H2 : Hz} {c c' : Pa} (hiN : i < N) (hc : b.num + N ≤ c.num) (hX : ∀ k, k < kds.length → (kds.getD k .bg).isAl = true → unO ms k j = true → Pa.incs k b ∈ X) (hu : unO ms i j = true) (h2 : ∀ p, p ∉ X → H2.get p = H'.get p) {k : Option Rz} {r : Rz} (hg : fBg H2 t k = some r) : Ind y (.bg x X Hp (Tr.get · H') c c') := by
  have hn : (Pa.incs i b).num < c.num := by rw [Pa.num_incs]; omega
  obtain ⟨_, h⟩ := h
  cases t with
  | no =>
    rcases h with rfl | ⟨x', rfl⟩
    · exact ind_skip_l _
    · exact ind_sm_bg hn (fun _ _ h => by cases h) (fun _ _ h => by cases h)
  | ld p chk =>
    obtain ⟨x', L', rfl, hchk⟩ := h
    have := hchk _ _ _ (show chk (H2.get p) k = some r from hg)
    refine ind_sm_bg hn (fun p1 L1 h1 => ?_) (fun _ _ h => by cases h)
    cases h1
    by_cases hm : p ∈ X
    · exact .inl hm
    · right
      show L' (H'.get p)
      rw [← h2 p hm]; exact this.1
  | al n =>
    obtain ⟨hal, rfl, x', B', rfl⟩ := h
    exact ind_sm_bg hn (fun _ _ h => by cases h) (fun q B h => by cases h; exact hX i hik hal hu)
  | st q => cases hg
  | mu q rk => cases hg
  | bg H => cases hg
end
end Go.Ez
namespace Go.Ez
open Go.RowKit
open Go.Eb (masks edgesDown)

theorem unO_comm (ms : List Nat) (i j : Nat) : unO ms i j = unO ms j i := by
  unfold unO
  rcases Nat.lt_trichotomy i j with h | h | h
  · have h1 : Nat.blt i j = true := by rw [Go.Eb.bltD]; simpa using h
    have h2 : Nat.blt j i = false := by rw [Go.Eb.bltD]; simp; omega
    rw [h1, h2]; rfl
  · subst h; rfl
  · have h1 : Nat.blt j i = true := by rw [Go.Eb.bltD]; simpa using h
    have h2 : Nat.blt i j = false := by rw [Go.Eb.bltD]; simp; omega
    rw [h1, h2]; rfl
theorem unO_lt {ms : List Nat} {i j : Nat} (h : i < j) : unO ms i j = !Nat.testBit (ms.getD j 0) i := by
  unfold unO
  have h1 : Nat.blt i j = true := by rw [Go.Eb.bltD]; simpa using h
  rw [h1]; rfl

section
variable {P : Program} {G nt lm : Nat} {orc : Oz} {ops : Array Oper} {ms : List Nat} {kds : List Kd} {b : Pa}

/-- inside a drawn region: j operations are done, the last first in tr and rt -/
structure InvD (P : Program) (G nt lm : Nat) (ops : Array Oper) (ms : List Nat) (kds : List Kd) (b : Pa) (s0 : Tz) (loc : List Nat) (j : Nat) (e : En) (H : Hz) (c n : Pa) (tr : List Tq) (s : Tz) (rt : List (Nat × Ak)) : Prop where
  sig : s.σ = viewT nt lm loc e
  mem : s.h = (Tr.get · H)
  loc : ∀ d ∈ loc, d < nt ∧ Nat.testBit lm d = true
  own : n = Pa.incs j b
  cnt : b.num + ops.size ≤ c.num
  free : ∀ p : Pa, s0.F p → (p.num < b.num ∨ (b.num + j ≤ p.num ∧ p.num < b.num + ops.size) ∨ c.num ≤ p.num) → s.F p
  base : ∀ p : Pa, b.num ≤ p.num → s0.F p
  len : tr.length = j ∧ rt.length = j
  tq : ∀ (i : Nat) t y, tr[i]? = some t → rt[i]? = some y → y.1 + i + 1 = j ∧ TqOk ms kds b ops.size y.1 t y.2
  run : RunR P G nt ops (List.range j) s0 rt.reverse s
  comm : CommR ops ms rt.reverse

/-- an operation is done: what is left -/
structure DoneD (P : Program) (G : Nat) (ms : List Nat) (kds : List Kd) (b : Pa) (N j : Nat) (o : Oper) (c n : Pa) (H : Hz) (s : Tz) (tr : List Tq) (rt : List (Nat × Ak)) (c' : Pa) (H' : Hz) (t : Tq) (a : Ak) : Prop where
  ok : a.ok s.h s.F
  eff : a.eff s.h = (Tr.get · H')
  cnt : c.num ≤ c'.num
  free : ∀ p : Pa, s.F p → p ≠ n → (p.num < c.num ∨ c'.num ≤ p.num) → a.fr s.F p
  tq : TqOk ms kds b N j t a
  ind : ∀ (i : Nat) t' y, tr[i]? = some t' → rt[i]? = some y → unO ms y.1 j = true → Ind y.2 a

theorem getT {α : Type} {l m : List α} {β : Type} {l' : List β} {i : Nat} {x : α} (h : l.length = l'.length) (hx : l[i]? = some x) : ∃ y, l'[i]? = some y := by
  have := (List.getElem?_eq_some_iff.1 hx).1
  exact ⟨l'[i]'(by omega), by simp⟩

theorem unL_get {j i : Nat} (hij : i < j) (hu : unO ms (j - 1 - i) j = true) : (unL ms kds j)[i]? = some (!(kds.getD (j - 1 - i) .bg).isPu && !(kds.getD j .bg).isPu) := by
  unfold unL
  rw [List.getElem?_map, List.getElem?_reverse (by simpa using hij)]
  simp only [List.length_range]
  rw [List.getElem?_range (by omega)]
  simp [hu]

/-- an entry into a map: so it is for whatever the map holds -/
theorem mup_any {loc : List Nat} {t : TypeId} {m kk v : Operand} {op : Op} (hop : op = .mapUpdate t m kk v ∨ op = .insert t m kk v) {f : Cl En Rz} (hf : opC Rz P G nt lm loc op = .mk f) {e : En} {q n n' : Pa} {B : Bk} {x : AV} {S' : Hz}
    (h : f e (ins1 q B) n (fun x S' n' => some (.mk x S' n')) = some (.mk x S' n')) : ∃ kd key val l0, B = .mp kd l0 ∧ concA (opA G nt lm loc e kk) = some key ∧ x = .u ∧ S'.get q = some (.mp kd (insM key val l0)) ∧
      ∀ l, ∃ S'', f e (ins1 q (.mp kd l)) n (fun x S' n' => some (.mk x S' n')) = some (.mk .u S'' n) ∧ S''.get q = some (.mp kd (insM key val l)) := by
  obtain ⟨g, hg, eg⟩ := withO_eq (ρ := opA G nt lm loc) Rz (x := m) (fun _ => rfl)
  obtain ⟨gk, hgk, egk⟩ := withO_eq (ρ := opA G nt lm loc) Rz (x := kk) (fun _ => rfl)
  obtain ⟨gv, hgv, egv⟩ := withO_eq (ρ := opA G nt lm loc) Rz (x := v) (fun _ => rfl)
  have hf' : (match Go.Eb.kindM P t with | some kd => natK kd fun kd => withO Rz G nt lm loc m fun g => withO Rz G nt lm loc kk fun gk => withO Rz G nt lm loc v fun gv => Ci.mk (mupC kd g gk gv) | none => .mk (noC Rz)) = Ci.mk f := by
    rcases hop with rfl | rfl <;> exact hf
  split at hf'
  · rename_i kd hk
    rw [natK_eq, eg, egk, egv] at hf'
    cases hf'
    unfold mupC at h
    rw [hg, hgk, hgv] at h
    obtain ⟨p, e1, h⟩ := asM_some h
    obtain ⟨B1, hB1, h⟩ := optK_some h
    rw [ins1_get] at hB1
    by_cases ep : p = q
    · subst ep
      rw [if_pos rfl] at hB1
      cases hB1
      obtain ⟨kd', l0, rfl, h⟩ := mapOfK_some h
      obtain ⟨hkd, h⟩ := ifK_none h
      have := Nat.eq_of_beq_eq_true hkd
      subst this
      obtain ⟨key, hkey, h⟩ := optK_some h
      obtain ⟨hkz, h⟩ := ifK_none h
      obtain ⟨val, hval, h⟩ := optK_some h
      obtain ⟨hvz, h⟩ := ifK_none h
      rw [Tr.setK_eq] at h
      cases h
      refine ⟨kd, key, val, l0, rfl, hkey, rfl, by rw [Tr.get_set, if_pos rfl], fun l => ⟨(ins1 p (.mp kd l)).set (some (.mp kd (insM key val l))) p, ?_, by rw [Tr.get_set, if_pos rfl]⟩⟩
      unfold mupC
      rw [hg, hgk, hgv, e1]
      show optK ((ins1 p (.mp kd l)).get p) _ = _
      rw [ins1_get, if_pos rfl]
      show ifK (Nat.beq kd kd) (optK (concA (opA G nt lm loc e kk)) _) none = _
      rw [Nat.beq_refl, hkey]
      show ifK (keyZ kd key) (optK (concA (opA G nt lm loc e v)) _) none = _
      rw [hkz, hval]
      show ifK (valZ kd val) _ none = _
      rw [hvz]
      show Tr.setK _ _ _ _ = _
      rw [Tr.setK_eq]
    · rw [if_neg ep] at hB1; cases hB1
  · cases hf'; cases h

theorem opD_some {s0 s : Tz} {loc : List Nat} {j : Nat} {o : Oper} {g : AV → En → (En → Option Rz) → Option Rz} {e : En} {H : Hz} {c n : Pa} {tr : List Tq} {rt : List (Nat × Ak)} (horc : OzOk P G orc) (hk : kds.length = ops.size) (hj : j < ops.size) (hI : InvD P G nt lm ops ms kds b s0 loc j e H c n tr s rt)
    {f : Pa → En → Hz → Pa → Pa → List Tq → Kq → Option Rz} (hf : opD P G nt lm orc ms kds loc j o g = .mk f) {k : Kq} {r : Rz} (h : f b e H c n tr k = some r) :
    ∃ x H' c' t a, nextK g x e H' c' n t tr k = some r ∧ a.x = x ∧ DoneD P G ms kds b ops.size j o c n H s tr rt c' H' t a ∧ Ctr P G o (opS G s.σ) a := by
  have hρ : opS G s.σ = opA G nt lm loc e := by
    rw [hI.sig]; funext y; cases y <;> rfl
  have hF : s.F n := by
    refine hI.free n (hI.base n ?_) (.inr (.inl ⟨?_, ?_⟩)) <;> rw [hI.own, Pa.num_incs] <;> omega
  have hFc : ∀ p : Pa, c.num ≤ p.num → s.F p := fun p hp => hI.free p (hI.base p (by have := hI.cnt; omega)) (.inr (.inr hp))
  have hown := hI.own
  -- which pairs are looked at
  have pairs : ∀ {Z : Tq → Option Rz → Option Rz} {a : Ak} {kk : Option Rz}, chkP Z (unL ms kds j) tr kk = some r → (∀ t ∈ tr, ∀ k, Z t k = some r → k = some r) → (kds.getD j .bg).isPu = false →
      (∀ (i : Nat) t y k, i < j → TqOk ms kds b ops.size i t y → unO ms i j = true → Z t k = some r → Ind y a) → (∀ (i : Nat) y, i < j → TqOk ms kds b ops.size i .no y → Ind y a) →
      kk = some r ∧ ∀ (i : Nat) t' y, tr[i]? = some t' → rt[i]? = some y → unO ms y.1 j = true → Ind y.2 a := by
    intro Z a kk hc hZ hpu hZ2 hno
    obtain ⟨h1, h2⟩ := chkP_some hZ hc
    refine ⟨h1, fun i t' y ht hy hu => ?_⟩
    obtain ⟨he, hok⟩ := hI.tq i t' y ht hy
    have hy1 : y.1 = j - 1 - i := by omega
    have hij : i < j := by omega
    rw [hy1] at hu hok
    have hg := unL_get (kds := kds) hij hu
    cases hp : (kds.getD (j - 1 - i) .bg).isPu with
    | true =>
      have := hok.1 hp
      subst this
      exact hno _ _ (by omega) hok
    | false =>
      rw [hp, hpu] at hg
      obtain ⟨k', hk'⟩ := h2 i t' hg ht
      exact hZ2 _ _ _ k' (by omega) hok hu hk'
  have chks : ∀ t ∈ tr, ∀ p chk, t = Tq.ld p chk → ∀ ob k r, chk ob k = some r → k = some r := by
    intro t ht p chk e
    subst e
    obtain ⟨i, hi⟩ := List.getElem?_of_mem ht
    obtain ⟨y, hy⟩ := getT (m := []) (l' := rt) (by rw [hI.len.1, hI.len.2]) hi
    obtain ⟨_, _, x, L, _, hc⟩ := hI.tq i _ y hi hy
    exact fun ob k r h => (hc ob k r h).2
  unfold opD at hf
  rw [listK_eq] at hf
  have smfr : ∀ (x : AV) (rd : Option (Pa × (Option Bk → Prop))) (out : Option (Pa × Bk)) (p : Pa), s.F p → p ≠ n → (p.num < c.num ∨ c.num ≤ p.num) → (Ak.sm x n rd out).fr s.F p := fun x rd out p h1 h2 _ => ⟨h1, h2⟩
  split at hf
  · -- pure
    rename_i hkd
    cases hop : opC Rz P G nt lm loc o.op with
    | mk fo =>
      rw [hop] at hf
      cases hf
      obtain ⟨x, S', n', h, hrun⟩ := runS_some h
      have hst := run_step hop hrun
      refine ⟨x, H, c, .no, .sm x n none none, h, rfl, ⟨⟨hF, fun _ _ h => by cases h⟩, hI.mem, Nat.le_refl _, smfr x _ _, ⟨fun _ => rfl, .inr ⟨x, by rw [hown]⟩⟩, fun i t' y ht hy hu => ?_⟩, by rw [hρ]; exact ctr_pure hst⟩
      obtain ⟨he, hok⟩ := hI.tq i t' y ht hy
      rw [hown]
      exact ind_pu hok (by omega) hj
  · -- load
    rename_i a hkd
    have hpu : (kds.getD j .bg).isPu = false := by rw [hkd]; rfl
    cases hop : opC Rz P G nt lm loc o.op with
    | mk fo =>
      rw [hop] at hf
      obtain ⟨ga, hga, ea⟩ := withO_eq (ρ := opA G nt lm loc) Rz (x := a) (fun _ => rfl)
      simp only at hf
      rw [ea] at hf
      split at hf
      · rename_i t' a' hopl
        cases hf
        unfold dLd at h
        rw [hga] at h
        rcases asP_some h with ⟨p, off, _, h⟩ | h
        · obtain ⟨B, hB, h⟩ := optK_some h
          rw [Tr.setK_eq] at h
          obtain ⟨x, S', n', h, hrun⟩ := runS_some h
          have same : ∀ {B : Bk} {y : AV} {S' : Hz} {n' : Pa}, fo e (ins1 p B) n (fun x S' n' => some (.mk x S' n')) = some (.mk y S' n') → StepOk P o (cut o.op (opA G nt lm loc e)) (ins1 p B) n y (ins1 p B) n' := fun {B y S' n'} hrun => by
            have hst := run_step hop hrun
            have hop2 := hop
            rw [hopl] at hop2
            obtain ⟨y1, hy⟩ := load_same hop2 hrun
            cases hy
            exact hst
          have hst := same hrun
          have hchk : ∀ ob k r, chkX fo e p n x ob k = some r → Looks P o (opA G nt lm loc e) n p x ob ∧ k = some r := fun ob k r hc => by
            unfold chkX at hc
            obtain ⟨B2, hB2, hc⟩ := optK_some hc
            rw [Tr.setK_eq] at hc
            obtain ⟨y, S2, n2, hc, hrun2⟩ := runS_some hc
            rcases ifK_some hc with ⟨hb, hc2⟩ | ⟨_, hc2⟩
            · have := beqA_eq hb
              subst this
              exact ⟨⟨B2, n2, hB2, same hrun2⟩, hc2⟩
            · cases hc2
          obtain ⟨h, hind⟩ := pairs (a := .sm x n (some (p, Looks P o (opA G nt lm loc e) n p x)) none) h (fun t ht k hz => by
            cases t with
            | no => exact hz
            | ld _ _ => exact hz
            | al m => exact (neK_some hz).2
            | st q => exact (neK_some hz).2
            | mu q rk => exact (neK_some hz).2
            | bg H => exact (hchk _ _ _ hz).2) hpu (fun i t y k hij hok _ hz => by rw [hown] at hchk ⊢; rw [hown] at hz; exact ind_ld hok hij hj hchk hz) (fun i y hij hok => by rw [hown]; exact ind_ld (k := some r) (r := r) (chk := fun _ _ => none) hok hij hj (fun _ _ _ h => by cases h) rfl)
          refine ⟨x, H, c, .ld p (chkX fo e p n x), .sm x n (some (p, Looks P o (opA G nt lm loc e) n p x)) none, h, rfl, ⟨⟨hF, fun p' L' he => ?_⟩, hI.mem, Nat.le_refl _, smfr x _ _, ⟨(fun hp => by rw [hpu] at hp; cases hp), x, _, by rw [hown], hchk⟩, hind⟩, by rw [hρ]; exact ctr_ld⟩
          cases he
          exact ⟨B, _, by rw [hI.mem]; exact hB, hst⟩
        · cases h
      · cases hf; cases h
  · -- a new block
    rename_i hkd
    have hpu : (kds.getD j .bg).isPu = false := by rw [hkd]; rfl
    have hal : (kds.getD j .bg).isAl = true := by rw [hkd]; rfl
    cases hop : opC Rz P G nt lm loc o.op with
    | mk fo =>
      rw [hop] at hf
      cases hf
      unfold dAl at h
      obtain ⟨x, S', n', h, hrun⟩ := runS_some h
      obtain ⟨B, hB, h⟩ := optK_some h
      have hst := run_step hop hrun
      obtain ⟨h, hind⟩ := pairs (a := .sm x n none (some (n, B))) h (fun t ht k hz => by
        cases t with
        | no => exact hz
        | ld _ _ => exact (neK_some hz).2
        | al m => exact hz
        | st q => exact (neK_some hz).2
        | mu q rk => exact (neK_some hz).2
        | bg H => exact hz) hpu (fun i t y k hij hok hu hz => by rw [hown]; rw [hown] at hz; exact ind_al hok hij hj (by omega) hal (by rw [unO_comm]; exact hu) hz) (fun i y hij hok => by
          rw [hown]
          obtain ⟨_, hok⟩ := hok
          rcases hok with rfl | ⟨x', rfl⟩
          · exact ind_skip_l _
          · exact ind_sm (incs_ne b (Nat.ne_of_lt hij)) (fun _ _ _ _ h => by cases h) (fun _ _ _ _ h => by cases h) (fun _ _ _ _ h => by cases h))
      rw [Tr.setK_eq] at h
      refine ⟨x, H.set (some B) n, c, .al n, .sm x n none (some (n, B)), h, rfl, ⟨⟨hF, fun _ _ h => by cases h⟩, ?_, Nat.le_refl _, smfr x _ _, ⟨(fun hp => by rw [hpu] at hp; cases hp), hal, hown, x, B, by rw [hown]⟩, hind⟩, by rw [hρ]; exact ctr_al hst hB⟩
      funext p
      simp only [Ak.sm]
      rw [Tr.get_set, hI.mem]
  · -- a store
    rename_i a hkd
    have hpu : (kds.getD j .bg).isPu = false := by rw [hkd]; rfl
    cases hop : opC Rz P G nt lm loc o.op with
    | mk fo =>
      rw [hop] at hf
      obtain ⟨ga, hga, ea⟩ := withO_eq (ρ := opA G nt lm loc) Rz (x := a) (fun _ => rfl)
      simp only at hf
      rw [ea] at hf
      cases hf
      unfold dSt at h
      rw [hga] at h
      rcases asP_some h with ⟨q, off, _, h⟩ | h
      · obtain ⟨B, hB, h⟩ := optK_some h
        rw [Tr.setK_eq] at h
        obtain ⟨x, S', n', h, hrun⟩ := runS_some h
        obtain ⟨B', hB', h⟩ := optK_some h
        have hst : StepOk P o (cut o.op (opA G nt lm loc e)) (ins1 q B) n x S' n' := run_step hop hrun
        obtain ⟨h, hind⟩ := pairs (a := .sm x n (some (q, fun b => b = some B)) (some (q, B'))) h (fun t ht k hz => by
          cases t with
          | no => exact hz
          | ld _ _ => exact (neK_some hz).2
          | al m => exact (neK_some hz).2
          | st q => exact (neK_some hz).2
          | mu q rk => exact (neK_some hz).2
          | bg H => cases hz) hpu (fun i t y k hij hok hu hz => by rw [hown]; exact ind_st hok hij hj hz) (fun i y hij hok => by rw [hown]; exact ind_st (k := some r) (r := r) hok hij hj rfl)
        rw [Tr.setK_eq] at h
        refine ⟨x, H.set (some B') q, c, .st q, .sm x n (some (q, fun b => b = some B)) (some (q, B')), h, rfl, ⟨⟨hF, fun p' L' he => ?_⟩, ?_, Nat.le_refl _, smfr x _ _, ⟨(fun hp => by rw [hpu] at hp; cases hp), x, _, B', by rw [hown]⟩, hind⟩, by rw [hρ]; exact ctr_st hst hB'⟩
        · cases he
          rw [hI.mem]; exact hB
        · funext p
          simp only [Ak.sm]
          rw [Tr.get_set, hI.mem]
      · cases h
  · -- an entry into a map
    rename_i hkd
    have hpu : (kds.getD j .bg).isPu = false := by rw [hkd]; rfl
    have main : ∀ {t : TypeId} {m kk v : Operand}, (o.op = .mapUpdate t m kk v ∨ o.op = .insert t m kk v) → (Ci.rec (motive := fun _ => Dq) (fun f => withO Rz G nt lm loc m fun ga => withO Rz G nt lm loc kk fun gk => .mk (dMu f g ga (unL ms kds j) gk)) (opC Rz P G nt lm loc o.op)) = Dq.mk f → ∃ x H' c' t a, nextK g x e H' c' n t tr k = some r ∧ a.x = x ∧ DoneD P G ms kds b ops.size j o c n H s tr rt c' H' t a ∧ Ctr P G o (opS G s.σ) a := by
      intro t m kk v hop0 hf
      cases hop : opC Rz P G nt lm loc o.op with
      | mk fo =>
        rw [hop] at hf
        obtain ⟨ga, hga, ea⟩ := withO_eq (ρ := opA G nt lm loc) Rz (x := m) (fun _ => rfl)
        obtain ⟨gk, hgk, ek⟩ := withO_eq (ρ := opA G nt lm loc) Rz (x := kk) (fun _ => rfl)
        simp only at hf
        rw [ea, ek] at hf
        cases hf
        unfold dMu at h
        rw [hga] at h
        obtain ⟨q, _, h⟩ := asM_some h
        rw [hgk] at h
        obtain ⟨key, hkey, h⟩ := optK_some h
        rw [natK_eq] at h
        obtain ⟨B, hB, h⟩ := optK_some h
        rw [Tr.setK_eq] at h
        obtain ⟨x, S', n', h, hrun⟩ := runS_some h
        obtain ⟨B', hB', h⟩ := optK_some h
        obtain ⟨kd, key', val, l0, hBe, hkey', hx, hS, hall⟩ := mup_any hop0 hop (show fo e (ins1 q B) n _ = _ from hrun)
        rw [hkey] at hkey'
        cases hkey'
        subst hx
        rw [hS] at hB'
        cases hB'
        obtain ⟨h, hind⟩ := pairs (a := .mu n q kd key val) h (fun t ht k hz => by
          cases t with
          | no => exact hz
          | ld _ _ => exact (neK_some hz).2
          | al m => exact (neK_some hz).2
          | st q => exact (neK_some hz).2
          | mu q' rk =>
            rcases ifK_some (show ifK (Pa.beq q' q && Nat.beq rk (rankV key)) none k = some r from hz) with ⟨_, h⟩ | ⟨_, h⟩
            · cases h
            · exact h
          | bg H => cases hz) hpu (fun i t y k hij hok hu hz => by rw [hown]; exact ind_mu hok hij hz) (fun i y hij hok => by rw [hown]; exact ind_mu (k := some r) (r := r) hok hij rfl)
        rw [Tr.setK_eq] at h
        have hq : s.h q = some (.mp kd l0) := by rw [hI.mem, ← hBe]; exact hB
        refine ⟨.u, H.set (some (.mp kd (insM key val l0))) q, c, .mu q (rankV key), .mu n q kd key val, h, rfl, ⟨⟨hF, l0, hq⟩, ?_, Nat.le_refl _, fun p h1 h2 _ => ⟨h1, h2⟩, ⟨(fun hp => by rw [hpu] at hp; cases hp), kd, key, val, by rw [hown], rfl⟩, hind⟩, by
          rw [hρ]
          exact ctr_mu fun l => by
            obtain ⟨S2, h1, h2⟩ := hall l
            exact ⟨S2, n, run_step hop h1, h2⟩⟩
        funext p
        show (if p = q then _ else s.h p) = (H.set _ q).get p
        rw [Tr.get_set, hq, hI.mem]
    split at hf
    · rename_i t m kk v hopm
      exact main (.inl hopm) hf
    · rename_i t m kk v hopm
      exact main (.inr hopm) hf
    · cases hf; cases h
  · -- all else
    rename_i hkd
    have hpu : (kds.getD j .bg).isPu = false := by rw [hkd]; rfl
    rw [listK_eq] at hf
    cases hop : opCC Rz P G nt lm orc loc o with
    | mk fo =>
      rw [hop] at hf
      cases hf
      unfold dBg at h
      obtain ⟨H1, h, hH1⟩ := awayK_some h
      obtain ⟨x, H', c', h, hrun⟩ := runS_some h
      rcases ifK_some h with ⟨hle, h⟩ | ⟨_, h⟩
      · rw [numR_eq, numR_eq] at hle
        have hle : c.num ≤ c'.num := Nat.le_of_ble_eq_true hle
        obtain ⟨H2, h, hH2⟩ := backK_some h
        have hX0 : ∀ p, p ∈ (alL ms kds j).map (Pa.incs · b) → H1.get p = none := fun p hp => by rw [hH1, if_pos hp]
        have hX1 : ∀ p, p ∉ (alL ms kds j).map (Pa.incs · b) → H1.get p = H.get p := fun p hp => by rw [hH1, if_neg hp]
        have hX2 : ∀ p, p ∉ (alL ms kds j).map (Pa.incs · b) → H2.get p = H'.get p := fun p hp => by rw [hH2, if_neg hp]
        have hX3 : ∀ k, k < kds.length → (kds.getD k .bg).isAl = true → unO ms k j = true → Pa.incs k b ∈ (alL ms kds j).map (Pa.incs · b) := fun k h1 h2 h3 => List.mem_map.2 ⟨k, by
          unfold alL
          rw [List.mem_filter]
          exact ⟨by simpa using h1, by simp only [h2, h3]; rfl⟩, rfl⟩
        have hd : StepOk P o (cut o.op (opA G nt lm loc e)) H1 c x H' c' ∨ ∃ g l, orc g l H1 c = some (.mk x H' c') ∧ CallTo P o (cut o.op (opA G nt lm loc e)) g l := by
          rcases opCC_some (ρ := fun e => cut o.op (opA G nt lm loc e)) (fun y hy e => cut_mem hy) hop hrun with ⟨x1, H'1, c1, he, hst⟩ | ⟨g, l, x1, H'1, c1, hor, he, hct⟩
          · cases he; exact .inl hst
          · cases he; exact .inr ⟨g, l, hor, hct⟩
        obtain ⟨h, hind⟩ := pairs (a := .bg x ((alL ms kds j).map (Pa.incs · b)) (Tr.get · H1) (Tr.get · H') c c') h (fun t ht k hz => by
          cases t with
          | no => exact hz
          | ld p chk => exact chks _ ht p chk rfl _ _ _ hz
          | al m => exact hz
          | st q => cases hz
          | mu q rk => cases hz
          | bg H => cases hz) hpu (fun i t y k hij hok hu hz => ind_bg hok hij (by omega) (by omega) hI.cnt hX3 hu hX2 hz) (fun i y hij hok => by
            obtain ⟨_, hok⟩ := hok
            rcases hok with rfl | ⟨x', rfl⟩
            · exact ind_skip_l _
            · exact ind_sm_bg (by rw [Pa.num_incs]; have := hI.cnt; omega) (fun _ _ h => by cases h) (fun _ _ h => by cases h))
        refine ⟨x, H2, c', .bg H, .bg x ((alL ms kds j).map (Pa.incs · b)) (Tr.get · H1) (Tr.get · H') c c', h, rfl, ⟨⟨fun p hp => ?_, hFc⟩, ?_, hle, fun p h1 h2 h3 => ⟨h1, h3⟩, ⟨(fun hp => by rw [hpu] at hp; cases hp), x, _, H1, H', c, c', rfl, hI.cnt, hX1, hX3⟩, hind⟩, by rw [hρ]; exact ctr_bg horc hX0 hd⟩
        · rw [hI.mem]; exact (hX1 p hp).symm
        · funext p
          show (if p ∈ _ then s.h p else H'.get p) = H2.get p
          rw [hH2, hI.mem]
      · cases h
end
end Go.Ez
namespace Go.Ez
open Go.RowKit
open Go.Eb (masks edgesDown)

theorem view_ge {nt lm : Nat} {loc : List Nat} {e : En} {t : Nat} (hl : ∀ d ∈ loc, d < nt ∧ Nat.testBit lm d = true) (ht : nt ≤ t) : viewT nt lm loc e t = .u := by
  cases e with
  | mk fr l =>
    simp only [viewT]
    cases hi : idx t loc with
    | some i => have := (hl t (idx_mem hi)).1; omega
    | none =>
      simp only
      cases Nat.testBit lm t with
      | true => rfl
      | false =>
        have h2 : Nat.blt t nt = false := by rw [Go.Eb.bltD]; simp; omega
        rw [h2]; rfl
theorem view_put {nt lm : Nat} {loc : List Nat} {e e' : En} {dst : Option Nat} {x : AV} (hn : nt ≤ 512) (hl : ∀ d ∈ loc, d < nt ∧ Nat.testBit lm d = true) (h : putV nt lm dst x e = some e') :
    viewT nt lm (locD lm dst loc) e' = putS (viewT nt lm loc e) dst x ∧ (∀ d, dst = some d → d < nt) ∧ ∀ d ∈ locD lm dst loc, d < nt ∧ Nat.testBit lm d = true := by
  cases dst with
  | none =>
    simp only [putV, Option.some.injEq] at h
    subst h
    exact ⟨rfl, (fun d h => by cases h), hl⟩
  | some d =>
    simp only [putV] at h
    cases hb : Nat.blt d nt with
    | false => rw [hb] at h; cases h
    | true =>
      rw [hb] at h
      rw [Go.Eb.bltD, decide_eq_true_eq] at hb
      cases e with
      | mk fr l =>
        simp only [cond_true] at h
        cases ht : Nat.testBit lm d with
        | true =>
          rw [ht] at h
          simp only [cond_true, Option.some.injEq] at h
          subst h
          refine ⟨?_, (fun d' h => by cases h; exact hb), fun q hq => ?_⟩
          · funext t
            simp only [locD, ht, cond_true, viewT, idx, putS]
            by_cases htd : t = d
            · subst htd
              have e1 : Nat.beq t t = true := Nat.beq_refl t
              rw [e1, if_pos rfl]
              rfl
            · have e1 : Nat.beq t d = false := by rw [Go.Eb.beqD, decide_eq_false htd]
              rw [e1, if_neg htd]
              simp only [cond_false]
              cases hi : idx t loc with
              | some i => simp
              | none => rfl
          · simp only [locD, ht, cond_true] at hq
            rcases List.mem_cons.1 hq with rfl | hq
            · exact ⟨hb, ht⟩
            · exact hl q hq
        | false =>
          rw [ht] at h
          have h5 : Nat.blt d 512 = true := by rw [Go.Eb.bltD, decide_eq_true_eq]; omega
          simp only [cond_false, h5, cond_true, Option.some.injEq] at h
          subst h
          refine ⟨?_, (fun d' h => by cases h; exact hb), fun q hq => ?_⟩
          · funext t
            by_cases htn : t < nt
            · simp only [locD, ht, cond_false, viewT, putS]
              by_cases htd : t = d
              · subst htd
                rw [if_pos rfl]
                cases hi : idx t loc with
                | some i =>
                  have := (hl t (idx_mem hi)).2
                  rw [ht] at this; cases this
                | none =>
                  simp only [ht, cond_false]
                  rw [Go.Eb.bltD, decide_eq_true htn]
                  simp only [cond_true]
                  rw [slot_set (by omega) (by omega), if_pos rfl]
              · rw [if_neg htd]
                cases hi : idx t loc with
                | some i => rfl
                | none =>
                  simp only
                  cases Nat.testBit lm t with
                  | true => rfl
                  | false =>
                    simp only [cond_false]
                    rw [Go.Eb.bltD, decide_eq_true htn]
                    simp only [cond_true]
                    rw [slot_set (by omega) (by omega), if_neg htd]
            · have hll : ∀ q ∈ locD lm (some d) loc, q < nt ∧ Nat.testBit lm q = true := by
                simp only [locD, ht, cond_false]; exact hl
              rw [view_ge hll (by omega)]
              simp only [putS]
              rw [if_neg (by omega), view_ge hl (by omega)]
          · simp only [locD, ht, cond_false] at hq
            exact hl q hq

section
variable {D : List Deferred} {P : Program} {G nt lm : Nat} {orc : Oz} {ops : Array Oper} {ms : List Nat} {kds : List Kd} {b : Pa}

theorem stD_some {s0 s : Tz} {loc : List Nat} {j : Nat} {o : Oper} {e : En} {H : Hz} {c n : Pa} {tr : List Tq} {rt : List (Nat × Ak)} (hn : nt ≤ 512) (hz : statZ ops ms = true) (horc : OzOk P G orc) (hk : kds.length = ops.size) (ho : ops[j]? = some o) (hI : InvD P G nt lm ops ms kds b s0 loc j e H c n tr s rt)
    {f : Pa → En → Hz → Pa → Pa → List Tq → Kq → Option Rz} (hf : stD P G nt lm orc ms kds loc ops j o = .mk f) {k : Kq} {r : Rz} (h : f b e H c n tr k = some r) :
    ∃ e' H' c' n' tr' s' rt', k e' H' c' n' tr' = some r ∧ InvD P G nt lm ops ms kds b s0 (locD lm o.dst loc) (j + 1) e' H' c' n' tr' s' rt' := by
  have hj : j < ops.size := (Array.getElem?_eq_some_iff.1 ho).1
  unfold stD at hf
  obtain ⟨g, eg, hg⟩ := putE_ok (R := Rz) hn (lm := lm) o.dst
  rw [eg] at hf
  simp only at hf
  have fin : ∀ {x : AV} {H' : Hz} {c' : Pa} {t : Tq} {a : Ak}, nextK g x e H' c' n t tr k = some r → a.x = x → DoneD P G ms kds b ops.size j o c n H s tr rt c' H' t a → ((wantS ops s.σ o = some false ∧ a = Ak.skip) ∨ (wantS ops s.σ o = some true ∧ Ctr P G o (opS G s.σ) a)) →
      ∃ e' H' c' n' tr' s' rt', k e' H' c' n' tr' = some r ∧ InvD P G nt lm ops ms kds b s0 (locD lm o.dst loc) (j + 1) e' H' c' n' tr' s' rt' := by
    intro x H' c' t a hnx hx hd hw
    unfold nextK at hnx
    obtain ⟨e', hp, hk2⟩ := hg _ _ _ _ hnx
    rw [incK_eq] at hk2
    obtain ⟨v1, v2, v3⟩ := view_put hn hI.loc hp
    have hcn := hI.cnt
    have hle := hd.cnt
    have hnn : n.num = b.num + j := by rw [hI.own, Pa.num_incs]
    have hst : StepR P G nt ops j s a ⟨putS s.σ o.dst a.x, a.eff s.h, a.fr s.F⟩ := ⟨o, ho, v2, rfl, hd.ok, hw⟩
    refine ⟨e', H', c', n.inc, t :: tr, ⟨putS s.σ o.dst a.x, a.eff s.h, a.fr s.F⟩, (j, a) :: rt, hk2, ⟨?_, hd.eff, v3, ?_, by omega, fun p h1 h2 => ?_, hI.base, by simp [hI.len], fun i t' y ht hy => ?_, ?_, ?_⟩⟩
    · simp only
      rw [v1, hI.sig, hx]
    · rw [hI.own]; rfl
    · refine hd.free p (hI.free p h1 ?_) (fun ep => ?_) ?_
      · omega
      · subst ep; omega
      · omega
    · cases i with
      | zero =>
        simp at ht hy
        subst ht hy
        exact ⟨rfl, hd.tq⟩
      | succ i =>
        obtain ⟨h1, h2⟩ := hI.tq i t' y (by simpa using ht) (by simpa using hy)
        exact ⟨by omega, h2⟩
    · rw [List.range_succ, List.reverse_cons]
      exact hI.run.snoc hst
    · rw [List.reverse_cons]
      refine hI.comm.snoc fun y hy => ?_
      have hy := List.mem_reverse.1 hy
      obtain ⟨i, hi⟩ := List.getElem?_of_mem hy
      obtain ⟨t', ht'⟩ := getT (m := []) (l' := tr) (by rw [hI.len.1, hI.len.2]) hi
      obtain ⟨h1, h2⟩ := hI.tq i t' y ht' hi
      have hlt : y.1 < j := by omega
      cases hb : (ms.getD j 0).testBit y.1 with
      | true => exact .inl rfl
      | false =>
        right
        have hu : unO ms y.1 j = true := by rw [unO_lt hlt, hb]; rfl
        have hind := hd.ind i t' y ht' hi hu
        unfold statZ at hz
        simp only [Bool.and_eq_true] at hz
        have q1 := List.all_eq_true.1 hz.2 j (by simpa using hj)
        have q2 := List.all_eq_true.1 q1 y.1 (by simpa using hlt)
        rw [hb, Bool.false_or] at q2
        split at q2
        · rename_i o1 o2 e1 e2
          exact ⟨o1, o2, e1, e2, q2, hind⟩
        · cases q2
  have skip : wantS ops s.σ o = some false → nextK g (.tup []) e H c n .no tr k = some r → ∃ e' H' c' n' tr' s' rt', k e' H' c' n' tr' = some r ∧ InvD P G nt lm ops ms kds b s0 (locD lm o.dst loc) (j + 1) e' H' c' n' tr' s' rt' := fun hw hk =>
    fin (a := Ak.skip) hk rfl ⟨trivial, hI.mem, Nat.le_refl _, fun p h1 _ _ => h1, ⟨fun _ => rfl, .inl rfl⟩, fun i t' y _ _ _ => ind_skip_r _⟩ (.inl ⟨hw, rfl⟩)
  cases hop : opD P G nt lm orc ms kds loc j o g with
  | mk fd =>
    rw [hop] at hf
    simp only at hf
    have doit : wantS ops s.σ o = some true → fd b e H c n tr k = some r → ∃ e' H' c' n' tr' s' rt', k e' H' c' n' tr' = some r ∧ InvD P G nt lm ops ms kds b s0 (locD lm o.dst loc) (j + 1) e' H' c' n' tr' s' rt' := fun hw hh => by
      obtain ⟨x, H', c', t, a, hnx, hx, hd, hc⟩ := opD_some horc hk hj hI hop hh
      exact fin hnx hx hd (.inr ⟨hw, hc⟩)
    split at hf
    · rename_i hgd
      cases hf
      exact doit (by simp [wantS, hgd]) h
    · rename_i i want hgd
      split at hf
      · cases hf; cases h
      · rename_i d hd
        obtain ⟨gd, hgd2, ed⟩ := withO_eq (ρ := opA G nt lm loc) Rz (x := .tmp d) (fun _ => rfl)
        rw [ed] at hf
        cases hf
        simp only at h
        rw [hgd2] at h
        have hσ : ∀ v, opA G nt lm loc e (.tmp d) = v → s.σ d = v := fun v hv => by rw [hI.sig]; exact hv
        rcases grdK_some h with ⟨v, hc, ⟨hb, h⟩ | ⟨hb, h⟩⟩ | ⟨hc, h⟩
        · exact doit (by simp [wantS, hgd, hd, hσ _ hc, hb]) h
        · exact skip (by simp [wantS, hgd, hd, hσ _ hc, hb]) h
        · exact skip (by simp [wantS, hgd, hd, hσ _ hc]) h

theorem opsD_some {s0 : Tz} (hn : nt ≤ 512) (hz : statZ ops ms = true) (horc : OzOk P G orc) (hk : kds.length = ops.size) : ∀ (l : List Oper) (j : Nat) (loc : List Nat) {s : Tz} {e : En} {H : Hz} {c n : Pa} {tr : List Tq} {rt : List (Nat × Ak)} {f : Pa → En → Hz → Pa → Pa → List Tq → Kq → Option Rz} {k : Kq} {r : Rz}, (∀ (i : Nat) o, l[i]? = some o → ops[j + i]? = some o) →
    opsD P G nt lm orc ms kds ops loc j l = .mk f → InvD P G nt lm ops ms kds b s0 loc j e H c n tr s rt → f b e H c n tr k = some r →
    ∃ e' H' c' n' tr' s' rt' loc', k e' H' c' n' tr' = some r ∧ InvD P G nt lm ops ms kds b s0 loc' (j + l.length) e' H' c' n' tr' s' rt'
  | [], j, loc, s, e, H, c, n, tr, rt, f, k, r, hl, hf, hI, h => by
    simp only [opsD] at hf
    cases hf
    exact ⟨e, H, c, n, tr, s, rt, loc, h, hI⟩
  | o :: rest, j, loc, s, e, H, c, n, tr, rt, f, k, r, hl, hf, hI, h => by
    simp only [opsD] at hf
    have ho : ops[j]? = some o := by simpa using hl 0 o rfl
    cases h1 : stD P G nt lm orc ms kds loc ops j o with
    | mk f1 =>
      cases h2 : opsD P G nt lm orc ms kds ops (locD lm o.dst loc) (j + 1) rest with
      | mk f2 =>
        rw [h1, h2] at hf
        cases hf
        obtain ⟨e1, H1, c1, n1, tr1, s1, rt1, h, hI1⟩ := stD_some hn hz horc hk ho hI h1 h
        obtain ⟨e2, H2, c2, n2, tr2, s2, rt2, loc2, h, hI2⟩ := opsD_some hn hz horc hk rest (j + 1) _ (fun i o' hi => by
          have := hl (i + 1) o' (by simpa using hi)
          rw [show j + 1 + i = j + (i + 1) by omega]; exact this) h2 hI1 h
        exact ⟨e2, H2, c2, n2, tr2, s2, rt2, loc2, h, by rw [show j + (o :: rest).length = j + 1 + rest.length by simp; omega]; exact hI2⟩

theorem drawC_wp {id : Nat} (horc : OzOk P G orc) {Q : Exit → Act → World → Prop} {f : En → Hz → Pa → (En → Hz → Pa → Option Rz) → Option Rz} (hf : drawC P G nt lm orc ops = .mk f)
    {β : Bz} {e : En} {H : Hz} {F : Pa → Prop} {nx : Pa} {a : Act} {w : World} {k : En → Hz → Pa → Option Rz} {r : Rz} (h : f e H nx k = some r) (hs : SimZ D G nt lm [] β e H F nx a w)
    (hQ : ∀ e' H' nx' β' F' a' w' loc', k e' H' nx' = some r → SimZ D G nt lm loc' β' e' H' F' nx' a' w' → Ext β H w β' H' w' → Kp F nx F' nx' → Q .normal a' w') : (Code.region id ops true).wp P Q a w := by
  unfold drawC at hf
  rw [listK_eq] at hf
  cases hcnd : (statZ ops (masks ops.toList []) && P.follows .mixedOrders && Nat.ble nt 512) with
  | false => rw [hcnd] at hf; cases hf; cases h
  | true =>
    rw [hcnd] at hf
    simp only [cond_true] at hf
    rw [listK_eq] at hf
    simp only [Bool.and_eq_true] at hcnd
    obtain ⟨⟨hz, hm⟩, hn⟩ := hcnd
    have hn : nt ≤ 512 := Nat.le_of_ble_eq_true hn
    generalize hms : masks ops.toList [] = ms at hf hz
    generalize hkds : kinds ms (ops.toList.map fun o => kdOf o.op) = kds at hf
    have hk : kds.length = ops.size := by rw [← hkds]; simp [kinds]
    cases hops : opsD P G nt lm orc ms kds ops [] 0 ops.toList with
    | mk g =>
      rw [hops] at hf
      cases hf
      simp only at h
      rw [incsK_eq] at h
      have hI : InvD P G nt lm ops ms kds nx ⟨viewT nt lm [] e, (Tr.get · H), F⟩ [] 0 e H (Pa.incs ops.size nx) nx [] ⟨viewT nt lm [] e, (Tr.get · H), F⟩ [] :=
        ⟨rfl, rfl, (fun d hd => by cases hd), rfl, (by rw [Pa.num_incs]; exact Nat.le_refl _), fun p hp _ => hp, hs.free, ⟨rfl, rfl⟩, (fun i t y ht => by simp at ht), ⟨rfl, rfl⟩, trivial⟩
      obtain ⟨e', H', c', n', tr', s', rt', loc', hk2, hI'⟩ := opsD_some hn hz horc hk ops.toList 0 [] (fun i o hi => by simpa using hi) hops hI h
      simp only [Nat.zero_add, Array.length_toList] at hI'
      have hcn := hI'.cnt
      obtain ⟨hs1, he1⟩ := hs.drew
      have hz' := hz
      unfold statZ at hz'
      simp only [Bool.and_eq_true] at hz'
      refine draw_wp (nt := nt) (G := G) hm hz'.1 hI'.run (by rw [hms]; exact hI'.comm) (β := β) ⟨⟨hs.frame.1, fun t v => ⟨hs.frame.2.2.2 t v, fun ht => view_ge (loc := []) (fun d hd => by simp at hd) ht⟩⟩, hs1.mem.toF, hs.glob, hs.defers⟩ fun β' a' w' h1 h2 => ?_
      have hmem := h1.mem
      rw [hI'.mem] at hmem h2
      have h3 : Ext β H w.drew β' H' w' := ExtF.to h2
      refine hQ e' H' c' β' s'.F a' w' loc' hk2 ⟨⟨h1.frame.1, hn, hI'.loc, fun t v hv => ?_⟩, hmem.to, fun p hp => hI'.free p (hI'.base p (by omega)) (.inr (.inr hp)), h1.glob, h1.defers⟩ (he1.trans h3) ⟨by omega, fun p hp hc => hI'.free p hp (by omega)⟩
      have := (h1.frame.2 t v).1 hv
      rw [hI'.sig] at this
      exact this
end
end Go.Ez
namespace Go.Ez
open Go.RowKit
open Go.Eb (aggT sizeT bytesT placesT kindM zM)

inductive Out where
  | norm
  | exit (id : Nat)
  | goto (l : Nat)
  | ret
def Out.toExit : Out → Exit
  | .norm => .normal
  | .exit id => .exit id
  | .goto l => .goto l
  | .ret => .ret
abbrev Kc := Out → Fz → Hz → Pa → Option Rz
inductive Cc where
  | mk (f : Fz → Hz → Pa → Kc → Option Rz)
section
variable (P : Program) (G nt lm : Nat) (orc : Oz) (fuel : Nat)
noncomputable def loopC (f : Fz → Hz → Pa → Kc → Option Rz) (n : Nat) : Fz → Hz → Pa → Kc → Option Rz :=
  Nat.rec (motive := fun _ => Fz → Hz → Pa → Kc → Option Rz) (fun _ _ _ _ => none) (fun _ ih fr H nx k => f fr H nx fun o fr' H' nx' => Out.rec (motive := fun _ => Option Rz) (ih fr' H' nx' k) (fun i => k (.exit i) fr' H' nx') (fun i => k (.goto i) fr' H' nx') (k .ret fr' H' nx') o) n
noncomputable def seqC (f g : Fz → Hz → Pa → Kc → Option Rz) : Fz → Hz → Pa → Kc → Option Rz := fun fr H nx k => f fr H nx fun o fr' H' nx' => Out.rec (motive := fun _ => Option Rz) (g fr' H' nx' k) (fun i => k (.exit i) fr' H' nx') (fun i => k (.goto i) fr' H' nx') (k .ret fr' H' nx') o
noncomputable def blkC (id : Nat) (f : Fz → Hz → Pa → Kc → Option Rz) : Fz → Hz → Pa → Kc → Option Rz := fun fr H nx k => f fr H nx fun o fr' H' nx' => Out.rec (motive := fun _ => Option Rz) (k .norm fr' H' nx') (fun i => ifK (Nat.beq i id) (k .norm fr' H' nx') (k (.exit i) fr' H' nx')) (fun i => k (.goto i) fr' H' nx') (k .ret fr' H' nx') o
noncomputable def scpC (f : Fz → Hz → Pa → Kc → Option Rz) : Fz → Hz → Pa → Kc → Option Rz := fun fr H nx k => f fr H nx fun o fr' H' nx' => Out.rec (motive := fun _ => Option Rz) (k .norm fr' H' nx') (fun i => k (.exit i) fr' H' nx') (fun _ => none) (k .ret fr' H' nx') o
noncomputable def rgnC (f : En → Hz → Pa → (En → Hz → Pa → Option Rz) → Option Rz) : Fz → Hz → Pa → Kc → Option Rz := fun fr H nx k => f (.mk fr []) H nx fun e H' nx' => En.rec (motive := fun _ => Option Rz) (fun fr' _ => k .norm fr' H' nx') e
noncomputable def regC (ops : Array Oper) (draw : Bool) : Cs Rz := Bool.rec (motive := fun _ => Cs Rz) (opsC Rz P G nt lm orc ops [] ops.toList) (drawC P G nt lm orc ops) draw
noncomputable def codeC (c : Code) : Cc :=
  Code.rec (motive := fun _ => Cc)
    (.mk fun fr H nx k => k .norm fr H nx)
    (fun _ ops draw => Cs.rec (motive := fun _ => Cc) (fun f => .mk (rgnC f)) (regC P G nt lm orc ops draw))
    (fun _ _ fa fb => Cc.rec (motive := fun _ => Cc) (fun f => Cc.rec (motive := fun _ => Cc) (fun g => .mk (seqC f g)) fb) fa)
    (fun c _ _ fa fb => withO Rz G nt lm [] c fun gc => .mk fun fr H nx k => gc (.mk fr []) fun v => asB v (fun b => ifK b (Cc.rec (motive := fun _ => Option Rz) (fun f => f fr H nx k) fa) (Cc.rec (motive := fun _ => Option Rz) (fun f => f fr H nx k) fb)) none)
    (fun id _ fa => Cc.rec (motive := fun _ => Cc) (fun f => .mk (blkC id f)) fa)
    (fun _ fa => Cc.rec (motive := fun _ => Cc) (fun f => .mk (loopC f fuel)) fa)
    (fun _ _ _ _ _ _ => .mk fun _ _ _ _ => none)
    (fun id => .mk fun fr H nx k => k (.exit id) fr H nx)
    (fun _ fa => Cc.rec (motive := fun _ => Cc) (fun f => .mk (scpC f)) fa)
    (fun _ => .mk fun fr H nx k => k .norm fr H nx)
    (fun l => .mk fun fr H nx k => k (.goto l) fr H nx)
    (.mk fun fr H nx k => k .ret fr H nx)
    (fun _ => .mk fun _ _ _ _ => none) c
end

section
variable {D : List Deferred} {P : Program} {G nt lm : Nat} {orc : Oz} {fuel : Nat}

theorem RepE.forget {loc : List Nat} {β : Bz} {fr : Fz} {l : List AV} {vs : Array Value} (h : RepE nt lm loc β (.mk fr l) vs) : RepE nt lm [] β (.mk fr []) vs := by
  refine ⟨h.1, h.2.1, fun d hd => by simp at hd, fun t v hv => ?_⟩
  have := h.2.2.2 t v hv
  simp only [viewT] at this ⊢
  simp only [idx]
  cases ht : Nat.testBit lm t with
  | true => trivial
  | false =>
    cases hi : idx t loc with
    | some i => have := (h.2.2.1 t (idx_mem hi)).2; rw [ht] at this; cases this
    | none => rw [hi, ht] at this; exact this
theorem SimZ.forget {loc : List Nat} {β : Bz} {fr : Fz} {l : List AV} {H : Hz} {F : Pa → Prop} {nx : Pa} {a : Act} {w : World} (h : SimZ D G nt lm loc β (.mk fr l) H F nx a w) : SimZ D G nt lm [] β (.mk fr []) H F nx a w := ⟨h.frame.forget, h.mem, h.free, h.glob, h.defers⟩

def Good (D : List Deferred) (G nt lm : Nat) (β : Bz) (H : Hz) (F : Pa → Prop) (nx : Pa) (w : World) (k : Kc) (r : Rz) (Q : Exit → Act → World → Prop) : Prop :=
  ∀ out fr' H' nx', k out fr' H' nx' = some r → ∀ β' F' a' w', SimZ D G nt lm [] β' (.mk fr' []) H' F' nx' a' w' → Ext β H w β' H' w' → Kp F nx F' nx' → Q out.toExit a' w'
theorem Good.move {β β1 : Bz} {H H1 : Hz} {F F1 : Pa → Prop} {nx nx1 : Pa} {w w1 : World} {k : Kc} {r : Rz} {Q : Exit → Act → World → Prop} (h : Good D G nt lm β H F nx w k r Q) (he : Ext β H w β1 H1 w1) (hk : Kp F nx F1 nx1) : Good D G nt lm β1 H1 F1 nx1 w1 k r Q :=
  fun out fr' H' nx' hr β' F' a' w' h1 h2 h3 => h out fr' H' nx' hr β' F' a' w' h1 (he.trans h2) (hk.trans h3)

/-- what an evaluation says of code -/
def CodeOk (D : List Deferred) (P : Program) (G nt lm : Nat) (f : Fz → Hz → Pa → Kc → Option Rz) (c : Code) : Prop :=
  ∀ fr H nx k r, f fr H nx k = some r → ∀ β F a w Q, SimZ D G nt lm [] β (.mk fr []) H F nx a w → Good D G nt lm β H F nx w k r Q → c.wp P Q a w

theorem loopC_ok {c : Code} {f : Fz → Hz → Pa → Kc → Option Rz} (hb : CodeOk D P G nt lm f c) : ∀ (n : Nat) {fr : Fz} {H : Hz} {nx : Pa} {k : Kc} {r : Rz}, loopC f n fr H nx k = some r → ∀ β F a w Q, SimZ D G nt lm [] β (.mk fr []) H F nx a w → Good D G nt lm β H F nx w k r Q → Code.rounds P c Q n a w
  | 0, fr, H, nx, k, r, h => by cases h
  | n + 1, fr, H, nx, k, r, h => by
    intro β F a w Q hs hG
    have h : f fr H nx (fun o fr' H' nx' => Out.rec (motive := fun _ => Option Rz) (loopC f n fr' H' nx' k) (fun i => k (.exit i) fr' H' nx') (fun i => k (.goto i) fr' H' nx') (k .ret fr' H' nx') o) = some r := h
    rw [rounds_succ]
    refine hb _ _ _ _ _ h β F a w _ hs fun out fr' H' nx' hk β' F' a' w' h1 h2 h3 => ?_
    cases out with
    | norm => exact loopC_ok hb n hk β' F' a' w' Q h1 (hG.move h2 h3)
    | exit id => exact hG (.exit id) _ _ _ hk β' F' a' w' h1 h2 h3
    | goto l => exact hG (.goto l) _ _ _ hk β' F' a' w' h1 h2 h3
    | ret => exact hG .ret _ _ _ hk β' F' a' w' h1 h2 h3

theorem codeC_ok (hn : nt ≤ 512) (horc : OzOk P G orc) (c : Code) : ∃ f, codeC P G nt lm orc fuel c = .mk f ∧ CodeOk D P G nt lm f c := by
  induction c with
  | skip => exact ⟨_, rfl, fun fr H nx k r h β F a w Q hs hG => wp_skip (hG .norm _ _ _ h β F a w hs (.refl _ _ _) (.refl _ _))⟩
  | region id ops draw =>
    cases hr : regC P G nt lm orc ops draw with
    | mk g =>
      refine ⟨rgnC g, ?_, ?_⟩
      · show Cs.rec (motive := fun _ => Cc) (fun f => .mk (rgnC f)) (regC P G nt lm orc ops draw) = _
        rw [hr]
      · intro fr H nx k r h β F a w Q hs hG
        have fin : ∀ (e' : En) H' nx' β' F' a' w' loc', (En.rec (motive := fun _ => Option Rz) (fun fr' _ => k .norm fr' H' nx') e') = some r → SimZ D G nt lm loc' β' e' H' F' nx' a' w' → Ext β H w β' H' w' → Kp F nx F' nx' → Q .normal a' w' := fun e' H' nx' β' F' a' w' loc' hk h1 h2 h3 => by
          cases e' with
          | mk fr' l => exact hG .norm fr' H' nx' hk β' F' a' w' h1.forget h2 h3
        cases draw with
        | false =>
          refine wp_region ?_
          have := ops_wp (Q := Q) hn horc ops.toList 0 [] (fun j o hj => by simpa using hj) hr h hs fin
          rw [List.range_eq_range']
          simpa using this
        | true => exact drawC_wp horc hr h hs fin
  | seq x y ihx ihy =>
    obtain ⟨f, ef, hf⟩ := ihx
    obtain ⟨g, eg, hg⟩ := ihy
    refine ⟨seqC f g, ?_, ?_⟩
    · show Cc.rec (motive := fun _ => Cc) (fun f => Cc.rec (motive := fun _ => Cc) (fun g => .mk (seqC f g)) (codeC P G nt lm orc fuel y)) (codeC P G nt lm orc fuel x) = _
      rw [ef, eg]
    · intro fr H nx k r h β F a w Q hs hG
      refine wp_seq (hf _ _ _ _ _ h β F a w _ hs fun out fr' H' nx' hk β' F' a' w' h1 h2 h3 => ?_)
      cases out with
      | norm => exact hg _ _ _ _ _ hk β' F' a' w' Q h1 (hG.move h2 h3)
      | exit id => exact hG (.exit id) _ _ _ hk β' F' a' w' h1 h2 h3
      | goto l => exact hG (.goto l) _ _ _ hk β' F' a' w' h1 h2 h3
      | ret => exact hG .ret _ _ _ hk β' F' a' w' h1 h2 h3
  | cond c x y ihx ihy =>
    obtain ⟨f, ef, hf⟩ := ihx
    obtain ⟨g, eg, hg⟩ := ihy
    obtain ⟨gc, hgc, ec⟩ := withO_eq (ρ := opA G nt lm []) Rz (x := c) (fun _ => rfl)
    refine ⟨fun fr H nx k => gc (.mk fr []) fun v => asB v (fun b => ifK b (f fr H nx k) (g fr H nx k)) none, ?_, ?_⟩
    · show withO Rz G nt lm [] c (fun gc => Cc.mk fun fr H nx k => gc (.mk fr []) fun v => asB v (fun b => ifK b (Cc.rec (motive := fun _ => Option Rz) (fun f => f fr H nx k) (codeC P G nt lm orc fuel x)) (Cc.rec (motive := fun _ => Option Rz) (fun f => f fr H nx k) (codeC P G nt lm orc fuel y))) none) = _
      rw [ec, ef, eg]
    · intro fr H nx k r h β F a w Q hs hG
      simp only at h
      rw [hgc] at h
      rcases asB_some h with ⟨b, hb, h⟩ | h
      · have ev : a.eval c = .bool b := by
          have := opA_rep hs.glob hs.frame c
          rw [hb] at this
          exact this
        rcases ifK_some h with ⟨rfl, h⟩ | ⟨rfl, h⟩
        · exact wp_cond_true ev (hf _ _ _ _ _ h β F a w Q hs hG)
        · exact wp_cond_false ev (hg _ _ _ _ _ h β F a w Q hs hG)
      · cases h
  | block id c ih =>
    obtain ⟨f, ef, hf⟩ := ih
    refine ⟨blkC id f, ?_, ?_⟩
    · show Cc.rec (motive := fun _ => Cc) (fun f => .mk (blkC id f)) (codeC P G nt lm orc fuel c) = _
      rw [ef]
    · intro fr H nx k r h β F a w Q hs hG
      refine wp_block (hf _ _ _ _ _ h β F a w _ hs fun out fr' H' nx' hk β' F' a' w' h1 h2 h3 => ?_)
      cases out with
      | norm => exact hG .norm _ _ _ hk β' F' a' w' h1 h2 h3
      | exit j =>
        rcases ifK_some hk with ⟨hb, hk2⟩ | ⟨hb, hk2⟩
        · have := Nat.eq_of_beq_eq_true hb
          subst this
          simp only [Out.toExit, Exit.inBlock, if_true]
          exact hG .norm _ _ _ hk2 β' F' a' w' h1 h2 h3
        · have hj : j ≠ id := fun e => by rw [e, Nat.beq_refl] at hb; cases hb
          simp only [Out.toExit, Exit.inBlock, hj, if_false]
          exact hG (.exit j) _ _ _ hk2 β' F' a' w' h1 h2 h3
      | goto l => exact hG (.goto l) _ _ _ hk β' F' a' w' h1 h2 h3
      | ret => exact hG .ret _ _ _ hk β' F' a' w' h1 h2 h3
  | loop c ih =>
    obtain ⟨f, ef, hf⟩ := ih
    refine ⟨loopC f fuel, ?_, fun fr H nx k r h β F a w Q hs hG => wp_loop_rounds fuel (loopC_ok hf fuel h β F a w Q hs hG)⟩
    show Cc.rec (motive := fun _ => Cc) (fun f => .mk (loopC f fuel)) (codeC P G nt lm orc fuel c) = _
    rw [ef]
  | rangeFunc f params assign body _ _ => exact ⟨_, rfl, fun fr H nx k r h => by cases h⟩
  | exit id => exact ⟨_, rfl, fun fr H nx k r h β F a w Q hs hG => wp_exit (hG (.exit id) _ _ _ h β F a w hs (.refl _ _ _) (.refl _ _))⟩
  | scope c ih =>
    obtain ⟨f, ef, hf⟩ := ih
    refine ⟨scpC f, ?_, ?_⟩
    · show Cc.rec (motive := fun _ => Cc) (fun f => .mk (scpC f)) (codeC P G nt lm orc fuel c) = _
      rw [ef]
    · intro fr H nx k r h β F a w Q hs hG
      refine Go.Eb.wp_scope_sweeps (hf _ _ _ _ _ h β F a w _ hs fun out fr' H' nx' hk β' F' a' w' h1 h2 h3 => ?_)
      cases out with
      | norm => exact hG .norm _ _ _ hk β' F' a' w' h1 h2 h3
      | exit id => exact hG (.exit id) _ _ _ hk β' F' a' w' h1 h2 h3
      | goto l => cases hk
      | ret => exact hG .ret _ _ _ hk β' F' a' w' h1 h2 h3
  | label m => exact ⟨_, rfl, fun fr H nx k r h β F a w Q hs hG => wp_label (hG .norm _ _ _ h β F a w hs (.refl _ _ _) (.refl _ _))⟩
  | goto l => exact ⟨_, rfl, fun fr H nx k r h β F a w Q hs hG => wp_goto (hG (.goto l) _ _ _ h β F a w hs (.refl _ _ _) (.refl _ _))⟩
  | ret => exact ⟨_, rfl, fun fr H nx k r h β F a w Q hs hG => wp_ret (hG .ret _ _ _ h β F a w hs (.refl _ _ _) (.refl _ _))⟩
  | refuse why => exact ⟨_, rfl, fun fr H nx k r h => by cases h⟩
end
end Go.Ez
namespace Go.Ez
open Go.RowKit
open Go.Eb (aggT sizeT)

section
variable (P : Program) (G nt lm : Nat)
noncomputable def tvK (x : AV) (k : TV → Option Rz) : Option Rz := AV.rec (motive := fun _ => Option Rz) (fun c => k (.c c)) (fun l => k (.a l)) (fun _ => none) none x
noncomputable def resC : List ResultVar → En → Hz → (List TV → Option Rz) → Option Rz
  | [], _, _, k => k []
  | .tmp t :: r, e, H, k => tvK (viewT nt lm [] e t) fun x => resC r e H fun l => k (x :: l)
  | .cell a t :: r, e, H, k => asP (viewT nt lm [] e a) (fun h off => match aggT P t, sizeT P t with
    | some ag, some n => loadK H h off n ag fun y => tvK y fun x => resC r e H fun l => k (x :: l)
    | _, _ => none) none
noncomputable def putsK : List AV → Nat → Fz → (Fz → Option Rz) → Option Rz
  | [], _, fr, k => k fr
  | x :: r, i, fr, k => match setC (Option Rz) i with | .mk g => g x fr fun fr' => natK (i + 1) fun j => putsK r j fr' k
def ofRes : List TV → Option AV
  | [.c c] => some (.c c)
  | [.a c] => some (.a c)
  | [.u] => none
  | l => some (.tup l)
noncomputable def endK (fn : Func) (fr : Fz) (H : Hz) (nx : Pa) : Option Rz := resC P nt lm fn.results.toList (.mk fr []) H fun l => optK (ofRes l) fun x => some (.mk x H nx)
noncomputable def finC (fn : Func) : Kc := fun o fr H nx => Out.rec (motive := fun _ => Option Rz) (endK P nt lm fn fr H nx) (fun _ => none) (fun _ => none) (endK P nt lm fn fr H nx) o
end
section
variable (P : Program) (G : Nat)
noncomputable def callF (orc : Oz) (fuel : Nat) (fn : Func) (lm : Nat) (c : Code) (args : List AV) (H : Hz) (nx : Pa) : Option Rz :=
  bif Nat.ble fn.ntmps 512 && Nat.ble (lenR args) fn.ntmps then
    putsK args 0 .e fun fr => Cc.rec (motive := fun _ => Option Rz) (fun f => f fr H nx (finC P fn.ntmps lm fn)) (codeC P G fn.ntmps lm orc fuel c)
  else none
/-- a function by its number -/
inductive Fe where
  | mk (fn : Func) (lm : Nat)
abbrev Tab := Tr Fe
noncomputable def deepC (tab : Tab) (fuel : Nat) (n : Nat) : Oz :=
  Nat.rec (motive := fun _ => Oz) (fun _ _ _ _ => none) (fun _ ih f args H nx => optK (tab.get (Pa.of f)) fun fe => Fe.rec (motive := fun _ => Option Rz) (fun fn lm => match fn.body with | some c => callF P G ih fuel fn lm c args H nx | none => none) fe) n
end

section
variable {D : List Deferred} {P : Program} {G nt lm : Nat} {orc : Oz} {fuel : Nat}

theorem putsK_some : ∀ {l : List AV} {i : Nat} {fr : Fz} {k : Fz → Option Rz} {r : Rz}, i + l.length ≤ 512 → putsK l i fr k = some r → ∃ fr', k fr' = some r ∧ ∀ t, t < 512 → slot t fr' = if i ≤ t ∧ t < i + l.length then l.getD (t - i) .u else slot t fr
  | [], i, fr, k, r, hl, h => ⟨fr, h, fun t _ => by
      rw [if_neg]
      simp only [List.length_nil]; omega⟩
  | x :: l, i, fr, k, r, hl, h => by
    simp only [List.length_cons] at hl
    obtain ⟨g, eg, hg⟩ := setC_ok (Option Rz) (t := i) (by omega)
    simp only [putsK, eg] at h
    rw [hg, natK_eq] at h
    obtain ⟨fr', hk, hs⟩ := putsK_some (by omega) h
    refine ⟨fr', hk, fun t ht => ?_⟩
    rw [hs t ht, slot_set ht (by omega)]
    simp only [List.length_cons]
    by_cases h1 : t = i
    · subst h1
      rw [if_neg (by omega), if_pos rfl, if_pos (by omega)]
      simp
    · rw [if_neg h1]
      by_cases h2 : i + 1 ≤ t ∧ t < i + 1 + l.length
      · rw [if_pos h2, if_pos (by omega)]
        have : t - i = (t - (i + 1)) + 1 := by omega
        rw [this]; simp
      · rw [if_neg h2, if_neg (by omega)]

theorem tvK_some {x : AV} {k : TV → Option Rz} {r : Rz} (h : tvK x k = some r) : ∃ y, k y = some r ∧ y ≠ .u ∧ ∀ β v, RepA β x v → RepV β y v := by
  cases x with
  | c c => exact ⟨.c c, h, by simp, fun β v h => h⟩
  | a l => exact ⟨.a l, h, by simp, fun β v h => h⟩
  | tup l => cases h
  | u => cases h

theorem resC_some {e : En} {H : Hz} : ∀ {rs : List ResultVar} {k : List TV → Option Rz} {r : Rz}, resC P nt lm rs e H k = some r → ∃ l, k l = some r ∧ ∀ {D β F nx a w}, SimZ D G nt lm [] β e H F nx a w →
    ∃ vs : List Value, (rs.mapM (Go.Eb.resultV a.tmps)).run P w = .ok vs w ∧ l.length = vs.length ∧ ∀ (i : Nat) p v, l[i]? = some p → vs[i]? = some v → RepV β p v
  | [], k, r, h => ⟨[], h, fun _ => ⟨[], rfl, rfl, fun i p v h => by simp at h⟩⟩
  | .tmp t :: rs, k, r, h => by
    simp only [resC] at h
    obtain ⟨y, h, _, hy⟩ := tvK_some h
    obtain ⟨l, h, hl⟩ := resC_some h
    refine ⟨y :: l, h, fun {D β F nx a w} hs => ?_⟩
    obtain ⟨vs, hrun, hlen, hrep⟩ := hl hs
    have hv : (Go.Eb.resultV a.tmps (.tmp t)).run P w = .ok (a.eval (.tmp t)) w := rfl
    refine ⟨a.eval (.tmp t) :: vs, by simp [List.mapM_cons, hv, hrun], by simp [hlen], fun i q v h1 h2 => ?_⟩
    cases i with
    | zero =>
      simp at h1 h2; subst h1 h2
      exact hy β _ (opA_rep hs.glob hs.frame (.tmp t))
    | succ i => simp at h1 h2; exact hrep i q v h1 h2
  | .cell ad t :: rs, k, r, h => by
    simp only [resC] at h
    rcases asP_some h with ⟨p, off, hp, h⟩ | h
    · split at h
      · rename_i ag n hag hsz
        obtain ⟨y0, h0, hall⟩ := loadK_some h
        obtain ⟨y, h1, _, hy⟩ := tvK_some h0
        obtain ⟨l, h1, hl⟩ := resC_some h1
        refine ⟨y :: l, h1, fun {D β F nx a w} hs => ?_⟩
        obtain ⟨vs, hrun, hlen, hrep⟩ := hl hs
        have hx := opA_rep hs.glob hs.frame (.tmp ad)
        simp only [opA] at hx
        rw [hp] at hx
        obtain ⟨x1, hx1, b, N, v, hb, hld, hrv⟩ := loadK_ok (P := P) (k := fun y => some (Rz.mk y H nx)) hag hsz hs.mem (hall _)
        cases hx1
        obtain ⟨b', N', hb', hv⟩ := hx
        rw [hb] at hb'; cases hb'
        have hv' : a.tmps.getD ad undef = .pointer (some ⟨b, off, none⟩) := hv
        have hv2 : (Go.Eb.resultV a.tmps (.cell ad t)).run P w = .ok v w := by
          simp only [Go.Eb.resultV, hv', asAddr, Sem.run_bind, Sem.run_pure, Result.andThen_ok, hld]
        refine ⟨v :: vs, by simp [List.mapM_cons, hv2, hrun], by simp [hlen], fun i q u h1 h2 => ?_⟩
        cases i with
        | zero => simp at h1 h2; subst h1 h2; exact hy β _ hrv
        | succ i => simp at h1 h2; exact hrep i q u h1 h2
      · cases h
    · cases h

theorem results_run {β : Bz} {a : Act} {w : World} {fn : Func} {l : List TV} {x : AV}
    (h : ∃ vs : List Value, (fn.results.toList.mapM (Go.Eb.resultV a.tmps)).run P w = .ok vs w ∧ l.length = vs.length ∧ ∀ (i : Nat) p v, l[i]? = some p → vs[i]? = some v → RepV β p v) (hof : ofRes l = some x) :
    ∃ v, (results fn a.tmps).run P w = .ok v w ∧ RepA β x v := by
  obtain ⟨us, hrun, hlen, hrep⟩ := h
  have hm : (fn.results.mapM (Go.Eb.resultV a.tmps)).run P w = .ok us.toArray w := by
    rw [Array.mapM_eq_mapM_toList, Sem.run_map, hrun]; rfl
  have e : results fn a.tmps = (fn.results.mapM (Go.Eb.resultV a.tmps)) >>= fun vs => pure (if h : vs.size = 1 then vs[0] else .tuple vs) := by
    unfold results
    congr 2
  rw [e]
  simp only [Sem.run_bind, hm, Result.andThen_ok, Sem.run_pure]
  refine ⟨_, rfl, ?_⟩
  have one : ∀ p, l = [p] → ∃ v, us = [v] ∧ RepV β p v := fun p hp => by
    subst hp
    match us, hlen with
    | [v], _ => exact ⟨v, rfl, hrep 0 p v rfl rfl⟩
  unfold ofRes at hof
  split at hof
  · rename_i c
    cases hof
    obtain ⟨v, rfl, hv⟩ := one _ rfl
    exact hv
  · rename_i c
    cases hof
    obtain ⟨v, rfl, hv⟩ := one _ rfl
    exact hv
  · cases hof
  · rename_i hn1 hn2 hn3
    cases hof
    have hne : us.toArray.size ≠ 1 := by
      intro h1
      have : l.length = 1 := by rw [hlen]; simpa using h1
      obtain ⟨p, hp⟩ : ∃ p, l = [p] := by
        match l, this with
        | [p], _ => exact ⟨p, rfl⟩
      cases p with
      | c c => exact hn1 c hp
      | a c => exact hn2 c hp
      | u => exact hn3 hp
    rw [dif_neg hne]
    exact ⟨us.toArray, rfl, by simpa using hlen, fun i p v h1 h2 => hrep i p v h1 (by simpa using h2)⟩

theorem callF_ok (horc : OzOk P G orc) {f : FuncId} {fn : Func} {lm : Nat} {c : Code} {args : List AV} {H : Hz} {nx : Pa} {z : Rz} (hf : P.funcs[f]? = some fn) (hname : fn.name ≠ "runtime.NumGoroutine") (hb : fn.body = some c)
    (h : callF P G orc fuel fn lm c args H nx = some z) : CZ P G f args H nx z := by
  unfold callF at h
  cases hcnd : (Nat.ble fn.ntmps 512 && Nat.ble (lenR args) fn.ntmps) with
  | false => rw [hcnd] at h; cases h
  | true =>
    rw [hcnd] at h
    simp only [cond_true] at h
    simp only [Bool.and_eq_true, Go.Eb.bleD, decide_eq_true_eq, lenR_eq] at hcnd
    obtain ⟨hn, hl⟩ := hcnd
    obtain ⟨fr, h, hslot⟩ := putsK_some (by omega) h
    obtain ⟨g, eg, hg⟩ := codeC_ok (D := []) (fuel := fuel) (lm := lm) hn horc c
    rw [eg] at h
    obtain ⟨x, H', nx'⟩ := z
    intro β w F vs hrel hfree hglob hargs
    refine ⟨fn, hf, hname, by rw [hb]; simp, calls_of_wp hf hb (hg fr H nx _ _ h β F _ w _ ⟨⟨?_, hn, fun d hd => by simp at hd, fun t v hv => ?_⟩, hrel, hfree, hglob, rfl⟩ ?_)⟩
    · have := hargs.1
      simp; omega
    · simp only [viewT, idx]
      cases Nat.testBit lm t with
      | true => trivial
      | false =>
        simp only [cond_false]
        cases hb' : Nat.blt t fn.ntmps with
        | false => trivial
        | true =>
          rw [Go.Eb.bltD, decide_eq_true_eq] at hb'
          simp only [cond_true]
          rw [hslot t (by omega)]
          simp only [Nat.zero_le, true_and, Nat.zero_add, Nat.sub_zero]
          rw [Array.getElem?_append] at hv
          by_cases ht : t < args.length
          · rw [if_pos ht]
            rw [if_pos (hargs.1 ▸ ht)] at hv
            exact hargs.2 t _ v (by simp [ht]) hv
          · rw [if_neg ht]
            have : slot t .e = .u := rfl
            rw [this]; trivial
    · intro out fr' H2 nx2 hk β' F' a' w' hs hext hkp
      have fin : endK P fn.ntmps lm fn fr' H2 nx2 = some (.mk x H' nx') → a'.defers = [] ∧ ∃ v, (results fn a'.tmps).run P w' = .ok v w' ∧ ∃ v' β' F', Ending.returned v = .returned v' ∧ RepA β' x v' ∧ Rel β' H' F' w' ∧ Ext β H w β' H' w' ∧ Kp F nx F' nx' := fun hk => by
        unfold endK at hk
        obtain ⟨l, hk, hl⟩ := resC_some (G := G) hk
        obtain ⟨y, hy, hk⟩ := optK_some hk
        cases hk
        obtain ⟨v, hv, hx⟩ := results_run (P := P) (hl hs) hy
        exact ⟨hs.defers, v, hv, v, β', F', rfl, hx, hs.mem, hext, hkp⟩
      cases out with
      | exit id => cases hk
      | goto l => cases hk
      | norm => exact fin hk
      | ret => exact fin hk

/-- the table holds the program's functions -/
def TabOk (P : Program) (tab : Tab) : Prop := ∀ f fn lm, tab.get (Pa.of f) = some (.mk fn lm) → P.funcs[f]? = some fn ∧ fn.name ≠ "runtime.NumGoroutine"
theorem deepC_ok {tab : Tab} (ht : TabOk P tab) (fuel : Nat) : ∀ n, OzOk P G (deepC P G tab fuel n)
  | 0 => fun f args H nx z h => by cases h
  | n + 1 => fun f args H nx z h => by
    have h : optK (tab.get (Pa.of f)) (fun fe => Fe.rec (motive := fun _ => Option Rz) (fun fn lm => match fn.body with | some c => callF P G (deepC P G tab fuel n) fuel fn lm c args H nx | none => none) fe) = some z := h
    obtain ⟨fe, hfe, h⟩ := optK_some h
    obtain ⟨fn, lm⟩ := fe
    simp only at h
    split at h
    · rename_i c hb
      obtain ⟨h1, h2⟩ := ht f fn lm hfe
      exact callF_ok (deepC_ok ht fuel n) h1 h2 hb h
    · cases h
end
end Go.Ez
namespace Go.Ez
open Go.RowKit

noncomputable def beqRs (l : List (List CV)) : List (List CV) → Bool :=
  List.rec (motive := fun _ => List (List CV) → Bool) (fun m => List.rec (motive := fun _ => Bool) true (fun _ _ _ => false) m)
    (fun x _ ih m => List.rec (motive := fun _ => Bool) false (fun y r _ => bif beqCs x y then ih r else false) m) l
theorem beqRs_eq : ∀ {l m : List (List CV)}, beqRs l m = true → l = m
  | [], [], _ => rfl
  | [], _ :: _, h => by cases h
  | _ :: _, [], h => by cases h
  | x :: l, y :: m, h => by
    have h : (bif beqCs x y then beqRs l m else false) = true := h
    cases hb : beqCs x y with
    | false => rw [hb] at h; cases h
    | true => rw [hb] at h; rw [beqCs_eq hb, beqRs_eq h]
noncomputable def beqB : Bk → Bk → Bool
  | .cells ro t sz rows, .cells ro' t' sz' rows' => (bif ro then ro' else !ro') && Nat.beq t t' && Nat.beq sz sz' && beqRs rows rows'
  | .it l n p, .it l' n' p' => Nat.beq l l' && Nat.beq n n' && Nat.beq p p'
  | _, _ => false
theorem beqB_eq {x y : Bk} (h : beqB x y = true) : x = y := by
  unfold beqB at h
  split at h
  · rename_i ro t sz rows ro' t' sz' rows'
    simp only [Bool.and_eq_true] at h
    obtain ⟨⟨⟨h1, h2⟩, h3⟩, h4⟩ := h
    have e : ro = ro' := by cases ro <;> cases ro' <;> simp_all
    rw [e, Nat.eq_of_beq_eq_true h2, Nat.eq_of_beq_eq_true h3, beqRs_eq h4]
  · simp only [Bool.and_eq_true] at h
    rw [Nat.eq_of_beq_eq_true h.1.1, Nat.eq_of_beq_eq_true h.1.2, Nat.eq_of_beq_eq_true h.2]
  · cases h
noncomputable def beqAs (l : List AV) : List AV → Bool :=
  List.rec (motive := fun _ => List AV → Bool) (fun m => List.rec (motive := fun _ => Bool) true (fun _ _ _ => false) m)
    (fun x _ ih m => List.rec (motive := fun _ => Bool) false (fun y r _ => bif beqA x y then ih r else false) m) l
theorem beqAs_eq : ∀ {l m : List AV}, beqAs l m = true → l = m
  | [], [], _ => rfl
  | [], _ :: _, h => by cases h
  | _ :: _, [], h => by cases h
  | x :: l, y :: m, h => by
    have h : (bif beqA x y then beqAs l m else false) = true := h
    cases hb : beqA x y with
    | false => rw [hb] at h; cases h
    | true => rw [hb] at h; rw [beqA_eq hb, beqAs_eq h]

/-- blocks, as a tree -/
def treeOf : List (Pa × Bk) → Hz
  | [] => .e
  | (p, B) :: r => (treeOf r).set (some B) p
/-- blocks are so -/
noncomputable def hasB (H : Hz) (l : List (Pa × Bk)) : Bool := List.rec (motive := fun _ => Bool) true (fun x _ ih => Option.rec (motive := fun _ => Bool) false (fun B => bif beqB B x.2 then ih else false) (H.get x.1)) l
theorem hasB_get {H : Hz} : ∀ {l : List (Pa × Bk)}, hasB H l = true → ∀ x ∈ l, H.get x.1 = some x.2
  | [], _, x, hx => by simp at hx
  | y :: l, h, x, hx => by
    have h : Option.rec (motive := fun _ => Bool) false (fun B => bif beqB B y.2 then hasB H l else false) (H.get y.1) = true := h
    cases hg : H.get y.1 with
    | none => rw [hg] at h; cases h
    | some B =>
      rw [hg] at h
      have h : (bif beqB B y.2 then hasB H l else false) = true := h
      cases hb : beqB B y.2 with
      | false => rw [hb] at h; cases h
      | true =>
        rw [hb] at h
        rcases List.mem_cons.1 hx with rfl | hx
        · rw [hg, beqB_eq hb]
        · exact hasB_get h x hx
theorem treeOf_get : ∀ {l : List (Pa × Bk)} {p : Pa} {B : Bk}, (treeOf l).get p = some B → (p, B) ∈ l
  | [], p, B, h => by rw [treeOf, Tr.get_e] at h; cases h
  | (q, C) :: l, p, B, h => by
    rw [treeOf, Tr.get_set] at h
    by_cases e : p = q
    · rw [if_pos e] at h; cases h; rw [e]; simp
    · rw [if_neg e] at h; exact List.mem_cons_of_mem _ (treeOf_get h)
theorem treeOf_none : ∀ {l : List (Pa × Bk)} {p : Pa}, (treeOf l).get p = none → ∀ B, (p, B) ∉ l
  | [], p, h, B, hm => by simp at hm
  | (q, C) :: l, p, h, B, hm => by
    rw [treeOf, Tr.get_set] at h
    by_cases e : p = q
    · rw [if_pos e] at h; cases h
    · rw [if_neg e] at h
      rcases List.mem_cons.1 hm with h1 | h1
      · cases h1; exact e rfl
      · exact treeOf_none h B h1

/-- a call and what it comes to: pre: the blocks that it needs; post: those that are left of them or are new -/
structure Me where
  f : FuncId
  args : List AV
  nx : Pa
  pre : List (Pa × Bk)
  x : AV
  nx' : Pa
  post : List (Pa × Bk)
def MeOk (P : Program) (G : Nat) (m : Me) : Prop := ∃ H', CZ P G m.f m.args (treeOf m.pre) m.nx (.mk m.x H' m.nx') ∧ (∀ y ∈ m.post, H'.get y.1 = some y.2) ∧
  (∀ y ∈ m.post, (∃ B, (y.1, B) ∈ m.pre) ∨ m.nx.num ≤ y.1.num) ∧ ∀ y ∈ m.pre, y.2.ro = false ∨ ∃ B, (y.1, B) ∈ m.post

noncomputable def clearK {R : Type} (l : List (Pa × Bk)) : Hz → (Hz → Option R) → Option R := List.rec (motive := fun _ => Hz → (Hz → Option R) → Option R) (fun H k => k H) (fun x _ ih H k => Tr.setK none x.1 H fun H' => ih H' k) l
noncomputable def layK {R : Type} (l : List (Pa × Bk)) : Hz → (Hz → Option R) → Option R := List.rec (motive := fun _ => Hz → (Hz → Option R) → Option R) (fun H k => k H) (fun x _ ih H k => ih H fun H' => Tr.setK (some x.2) x.1 H' k) l
theorem clearK_some {R : Type} : ∀ {l : List (Pa × Bk)} {H : Hz} {k : Hz → Option R} {r : R}, clearK l H k = some r → ∃ H1, k H1 = some r ∧ ∀ p, H1.get p = H.get p ∧ (∀ B, (p, B) ∉ l) ∨ H1.get p = none ∧ ∃ B, (p, B) ∈ l
  | [], H, k, r, h => ⟨H, h, fun p => .inl ⟨rfl, fun B hm => by simp at hm⟩⟩
  | (q, C) :: l, H, k, r, h => by
    have h : Tr.setK none q H (fun H' => clearK l H' k) = some r := h
    rw [Tr.setK_eq] at h
    obtain ⟨H1, hk, hp⟩ := clearK_some h
    refine ⟨H1, hk, fun p => ?_⟩
    rcases hp p with ⟨h1, h2⟩ | ⟨h1, B, h2⟩
    · rw [Tr.get_set] at h1
      by_cases e : p = q
      · rw [if_pos e] at h1
        exact .inr ⟨h1, C, by rw [e]; simp⟩
      · rw [if_neg e] at h1
        refine .inl ⟨h1, fun B hm => ?_⟩
        rcases List.mem_cons.1 hm with h3 | h3
        · cases h3; exact e rfl
        · exact h2 B h3
    · exact .inr ⟨h1, B, List.mem_cons_of_mem _ h2⟩
theorem layK_some {R : Type} : ∀ {l : List (Pa × Bk)} {H : Hz} {k : Hz → Option R} {r : R}, layK l H k = some r → ∃ H1, k H1 = some r ∧ ∀ p, H1.get p = H.get p ∧ (∀ B, (p, B) ∉ l) ∨ ∃ B, H1.get p = some B ∧ (p, B) ∈ l
  | [], H, k, r, h => ⟨H, h, fun p => .inl ⟨rfl, fun B hm => by simp at hm⟩⟩
  | (q, C) :: l, H, k, r, h => by
    have h : layK l H (fun H' => Tr.setK (some C) q H' k) = some r := h
    obtain ⟨H1, hk, hp⟩ := layK_some h
    rw [Tr.setK_eq] at hk
    refine ⟨_, hk, fun p => ?_⟩
    rw [Tr.get_set]
    by_cases e : p = q
    · rw [if_pos e]; exact .inr ⟨C, rfl, by rw [e]; simp⟩
    · rw [if_neg e]
      rcases hp p with ⟨h1, h2⟩ | ⟨B, h1, h2⟩
      · refine .inl ⟨h1, fun B hm => ?_⟩
        rcases List.mem_cons.1 hm with h3 | h3
        · cases h3; exact e rfl
        · exact h2 B h3
      · exact .inr ⟨B, h1, List.mem_cons_of_mem _ h2⟩

noncomputable def memoC (es : List Me) (orc : Oz) : Oz := List.rec (motive := fun _ => Oz) orc (fun m _ ih f args H nx =>
  bif Nat.beq f m.f then bif Pa.beq nx m.nx && beqAs args m.args && hasB H m.pre then clearK m.pre H fun H1 => layK m.post H1 fun H2 => some (.mk m.x H2 m.nx') else ih f args H nx else ih f args H nx) es

theorem MeOk.use {P : Program} {G : Nat} {m : Me} (hm : MeOk P G m) {H H1 H2 : Hz} (hp : ∀ y ∈ m.pre, H.get y.1 = some y.2) (h1 : ∀ p, H1.get p = H.get p ∧ (∀ B, (p, B) ∉ m.pre) ∨ H1.get p = none ∧ ∃ B, (p, B) ∈ m.pre)
    (h2 : ∀ p, H2.get p = H1.get p ∧ (∀ B, (p, B) ∉ m.post) ∨ ∃ B, H2.get p = some B ∧ (p, B) ∈ m.post) : CZ P G m.f m.args H m.nx (.mk m.x H2 m.nx') := by
  obtain ⟨H', hcz, hpost, hnew, hro⟩ := hm
  intro β w F vs hrel hfree hg hargs
  have hs : ∀ p, (treeOf m.pre).get p ≠ none → (treeOf m.pre).get p = H.get p := fun p hpn => by
    cases hB : (treeOf m.pre).get p with
    | none => exact absurd hB hpn
    | some B => exact (hp _ (treeOf_get hB)).symm
  obtain ⟨fn, hfn, hname, hb, hcalls⟩ := hcz β w F vs (hrel.toF.sub hs).to hfree hg hargs
  refine ⟨fn, hfn, hname, hb, hcalls.mono ?_⟩
  rintro ee w' ⟨v, β', F', rfl, k1, k2, k3, k4⟩
  -- what the call leaves, as far as it is kept
  let s' : Hf := fun p => open Classical in if ∃ B, (p, B) ∈ m.post then H'.get p else none
  have s'sub : ∀ p, s' p ≠ none → s' p = H'.get p := fun p hpn => by
    simp only [s'] at hpn ⊢
    split
    · rfl
    · rename_i hn; rw [if_neg hn] at hpn; exact absurd rfl hpn
  have e3 := k3.toF
  have he : ExtF β (treeOf m.pre).get w β' s' w' := ⟨e3.os, e3.tape, e3.output, e3.size, e3.le, e3.old,
    fun p b N ⟨B, hB, hr⟩ hb => e3.new p b N ⟨B, (s'sub p (by rw [hB]; simp)).symm.trans hB, hr⟩ hb,
    fun p b N hpn hb => e3.live p b N (fun e => hpn ((s'sub p hpn).trans e)) hb,
    fun p hpn => e3.dom p (fun e => hpn ((s'sub p hpn).trans e)),
    fun p B hB hr => by
      have hmem := treeOf_get hB
      rcases hro _ hmem with h | ⟨B', hB'⟩
      · rw [hr] at h; cases h
      · simp only [s']
        rw [if_pos ⟨B', hB'⟩]
        exact e3.kept p B hB hr⟩
  obtain ⟨f1, f2⟩ := frame (h' := (Tr.get · H2)) hrel.toF hs (k2.toF.sub s'sub) he fun p => by
    rcases h2 p with ⟨a1, a2⟩ | ⟨B, a1, a2⟩
    · have hs0 : s' p = none := if_neg fun ⟨B, hB⟩ => a2 B hB
      rcases h1 p with ⟨b1, b2⟩ | ⟨b1, B, b2⟩
      · right
        refine ⟨a1.trans b1, ?_⟩
        cases hB : (treeOf m.pre).get p with
        | none => rfl
        | some B => exact absurd (treeOf_get hB) (b2 B)
      · left
        refine ⟨by rw [a1, b1, hs0], fun hn => absurd b2 (treeOf_none hn B)⟩
    · left
      refine ⟨?_, fun hn => ?_⟩
      · rw [a1]
        simp only [s']
        rw [if_pos ⟨B, a2⟩]
        exact (hpost _ a2).symm
      · rcases hnew _ a2 with ⟨B', hB'⟩ | hle
        · exact absurd hB' (treeOf_none hn B')
        · cases hh : H.get p with
          | none => rfl
          | some B' =>
            obtain ⟨b, N, hb⟩ := hrel.live (p := p) (by rw [hh]; simp)
            rw [hrel.fresh p (hfree p hle)] at hb; cases hb
  exact ⟨v, β', F', rfl, k1, f1.to, f2.to, k4⟩

theorem memoC_ok {P : Program} {G : Nat} {orc : Oz} (ho : OzOk P G orc) : ∀ {es : List Me}, (∀ m ∈ es, MeOk P G m) → OzOk P G (memoC es orc)
  | [], _ => ho
  | m :: es, he => fun f args H nx z h => by
    have ih := memoC_ok ho (fun m' hm' => he m' (List.mem_cons_of_mem _ hm'))
    have h : (bif Nat.beq f m.f then bif Pa.beq nx m.nx && beqAs args m.args && hasB H m.pre then clearK m.pre H fun H1 => layK m.post H1 fun H2 => some (.mk m.x H2 m.nx') else memoC es orc f args H nx else memoC es orc f args H nx) = some z := h
    cases hf : Nat.beq f m.f with
    | false => rw [hf] at h; exact ih f args H nx z h
    | true =>
      rw [hf] at h
      simp only [cond_true] at h
      cases hc : (Pa.beq nx m.nx && beqAs args m.args && hasB H m.pre) with
      | false => rw [hc] at h; exact ih f args H nx z h
      | true =>
        rw [hc] at h
        simp only [cond_true] at h
        simp only [Bool.and_eq_true] at hc
        obtain ⟨⟨c1, c2⟩, c3⟩ := hc
        obtain ⟨H1, h, h1⟩ := clearK_some h
        obtain ⟨H2, h, h2⟩ := layK_some h
        cases h
        rw [Nat.eq_of_beq_eq_true hf, (Pa.beq_iff _ _).1 c1, beqAs_eq c2]
        exact (he m (by simp)).use (hasB_get c3) h1 h2

/-- with calls that are known -/
noncomputable def deepM (P : Program) (G : Nat) (tab : Tab) (es : List Me) (fuel : Nat) (n : Nat) : Oz :=
  Nat.rec (motive := fun _ => Oz) (fun _ _ _ _ => none) (fun _ ih => memoC es fun f args H nx => optK (tab.get (Pa.of f)) fun fe => Fe.rec (motive := fun _ => Option Rz) (fun fn lm => match fn.body with | some c => callF P G ih fuel fn lm c args H nx | none => none) fe) n
theorem deepM_ok {P : Program} {G : Nat} {tab : Tab} {es : List Me} (ht : TabOk P tab) (he : ∀ m ∈ es, MeOk P G m) (fuel : Nat) : ∀ n, OzOk P G (deepM P G tab es fuel n)
  | 0 => fun f args H nx z h => by cases h
  | n + 1 => memoC_ok (fun f args H nx z h => by
    obtain ⟨fe, hfe, h⟩ := optK_some h
    obtain ⟨fn, lm⟩ := fe
    simp only at h
    split at h
    · rename_i c hb
      obtain ⟨h1, h2⟩ := ht f fn lm hfe
      exact callF_ok (deepM_ok ht he fuel n) h1 h2 hb h
    · cases h) he

/-- an entry, checked -/
noncomputable def sideB (m : Me) : Bool := (m.post.all fun y => (m.pre.any fun z => Pa.beq y.1 z.1) || Nat.ble (numR m.nx) (numR y.1)) && (m.pre.all fun y => !y.2.ro || m.post.any fun z => Pa.beq y.1 z.1)
noncomputable def chkM (orc : Oz) (m : Me) : Bool := Option.rec (motive := fun _ => Bool) false (fun z => Rz.rec (motive := fun _ => Bool) (fun x H' nx' => bif beqA x m.x then bif Pa.beq nx' m.nx' then hasB H' m.post else false else false) z) (orc m.f m.args (treeOf m.pre) m.nx)
theorem MeOk.of {P : Program} {G : Nat} {orc : Oz} {m : Me} (ho : OzOk P G orc) (hs : sideB m = true) (h : chkM orc m = true) : MeOk P G m := by
  unfold chkM at h
  cases hz : orc m.f m.args (treeOf m.pre) m.nx with
  | none => rw [hz] at h; cases h
  | some z =>
    obtain ⟨x, H', nx'⟩ := z
    rw [hz] at h
    have h : (bif beqA x m.x then bif Pa.beq nx' m.nx' then hasB H' m.post else false else false) = true := h
    cases h1 : beqA x m.x with
    | false => rw [h1] at h; cases h
    | true =>
      cases h2 : Pa.beq nx' m.nx' with
      | false => rw [h1, h2] at h; cases h
      | true =>
        rw [h1, h2] at h
        have hcz := ho _ _ _ _ _ hz
        rw [beqA_eq h1, (Pa.beq_iff _ _).1 h2] at hcz
        unfold sideB at hs
        simp only [Bool.and_eq_true] at hs
        refine ⟨H', hcz, hasB_get h, fun y hy => ?_, fun y hy => ?_⟩
        · have := List.all_eq_true.1 hs.1 y hy
          simp only [Bool.or_eq_true] at this
          rcases this with h3 | h3
          · obtain ⟨z, hz, e⟩ := List.any_eq_true.1 h3
            left
            refine ⟨z.2, ?_⟩
            rw [(Pa.beq_iff _ _).1 e]; exact hz
          · right
            rw [numR_eq, numR_eq] at h3
            exact Nat.le_of_ble_eq_true h3
        · have := List.all_eq_true.1 hs.2 y hy
          simp only [Bool.or_eq_true] at this
          rcases this with h3 | h3
          · left; simpa using h3
          · obtain ⟨z, hz, e⟩ := List.any_eq_true.1 h3
            right
            refine ⟨z.2, ?_⟩
            rw [(Pa.beq_iff _ _).1 e]; exact hz
end Go.Ez
namespace Go.Ez
open Go.RowKit
noncomputable def tabOf : List (Nat × Fe) → Tab
  | [] => .e
  | (i, f) :: r => (tabOf r).set (some f) (Pa.of i)
def FeOk (P : Program) : Nat × Fe → Prop
  | (f, .mk fn _) => P.funcs[f]? = some fn ∧ (fn.name != "runtime.NumGoroutine") = true
theorem tabOf_get : ∀ {l : List (Nat × Fe)} {f : Nat} {fe : Fe}, (tabOf l).get (Pa.of f) = some fe → (f, fe) ∈ l
  | [], f, fe, h => by rw [tabOf, Tr.get_e] at h; cases h
  | (i, g) :: r, f, fe, h => by
    rw [tabOf, Tr.get_set] at h
    by_cases e : Pa.of f = Pa.of i
    · rw [if_pos e] at h
      cases h
      rw [Pa.of_inj e]; simp
    · rw [if_neg e] at h
      exact List.mem_cons_of_mem _ (tabOf_get h)
theorem tabOf_ok {P : Program} {l : List (Nat × Fe)} (h : ∀ x ∈ l, FeOk P x) : TabOk P (tabOf l) := fun f fn lm hg => by
  obtain ⟨h1, h2⟩ := h _ (tabOf_get hg)
  exact ⟨h1, by simpa using h2⟩
end Go.Ez
namespace Go.Ez
open Go.RowKit

/-- a function of n arguments that does nothing where it is deferred and nobody panics -/
def NopD (P : Program) (f n : Nat) : Prop := ∀ (args : Array Value) (w : World), args.size = n → CallsD P f args .returning w fun e u w' => (∃ v, e = .returned v) ∧ u = .returning ∧ w' = w

/-- the last one, apart -/
def lastR {α : Type} : List α → Option (List α × α)
  | [] => none
  | [x] => some ([], x)
  | x :: r => match lastR r with | some (l, y) => some (x :: l, y) | none => none
theorem lastR_eq {α : Type} : ∀ {l m : List α} {y : α}, lastR l = some (m, y) → l = m ++ [y]
  | [], m, y, h => by cases h
  | [x], m, y, h => by cases h; rfl
  | x :: z :: r, m, y, h => by
    simp only [lastR] at h
    split at h
    · rename_i l y' hl
      cases h
      have := lastR_eq (l := z :: r) (m := l) (y := y) (by simpa [lastR] using hl)
      rw [this]; rfl
    · cases h

def locsL (lm : Nat) : List Oper → List Nat → List Nat
  | [], loc => loc
  | o :: r, loc => locsL lm r (locD lm o.dst loc)
section
variable (P : Program) (G : Nat)
/-- what follows the deferring: the closure is the named one -/
noncomputable def deferK (nf nn : Nat) (gf : En → (AV → Option Rz) → Option Rz) (e : En) (k : Option Rz) : Option Rz :=
  gf e fun v => fnK Rz v fun f a b => bif Nat.beq f nf && Nat.beq (lenR a + lenR b) nn then k else none
noncomputable def callD (nf nn : Nat) (orc : Oz) (fuel : Nat) (fn : Func) (lm : Nat) (args : List AV) (H : Hz) (nx : Pa) : Option Rz :=
  match fn.body with
  | some (.seq x (.seq (.region _ ops false) rest)) => (match lastR ops.toList with
    | some (init, ⟨dst, .defer ⟨.value v, as, _⟩, _, _, _, none⟩) =>
      bif Nat.ble fn.ntmps 512 && Nat.ble (lenR args) fn.ntmps && as.toList.isEmpty && dst.isNone then
        putsK args 0 .e fun fr => Cc.rec (motive := fun _ => Option Rz) (fun f0 => f0 fr H nx fun o fr H nx => Out.rec (motive := fun _ => Option Rz) (match opsC Rz P G fn.ntmps lm orc ops [] init with
          | .mk f => f (.mk fr []) H nx fun e H' nx' => withO Rz G fn.ntmps lm (locsL lm init []) v fun gf => deferK nf nn gf e
            (En.rec (motive := fun _ => Option Rz) (fun fr' _ => Cc.rec (motive := fun _ => Option Rz) (fun f => f fr' H' nx' (finC P fn.ntmps lm fn)) (codeC P G fn.ntmps lm orc fuel rest)) e)) (fun _ => none) (fun _ => none) none o) (codeC P G fn.ntmps lm orc fuel x)
      else none
    | _ => none)
  | _ => none
end
section
variable {D : List Deferred} {P : Program} {G nt lm : Nat} {R : Type} {orc : Oz} {fuel : Nat}
theorem ops_then {ops : Array Oper} (hn : nt ≤ 512) (horc : OzOk P G orc) {Q : Exit → Act → World → Prop} {rest : List Nat} : ∀ (l : List Oper) (i : Nat) (loc : List Nat) {f : En → Hz → Pa → (En → Hz → Pa → Option R) → Option R} {β : Bz} {e : En} {H : Hz} {F : Pa → Prop} {nx : Pa} {a : Act} {w : World} {k : En → Hz → Pa → Option R} {r : R}, (∀ (j : Nat) o, l[j]? = some o → ops[i + j]? = some o) →
    opsC R P G nt lm orc ops loc l = .mk f → f e H nx k = some r → SimZ D G nt lm loc β e H F nx a w →
    (∀ e' H' nx' β' F' a' w', k e' H' nx' = some r → SimZ D G nt lm (locsL lm l loc) β' e' H' F' nx' a' w' → Ext β H w β' H' w' → Kp F nx F' nx' → wpOps P ops Q rest a' w') → wpOps P ops Q (List.range' i l.length ++ rest) a w
  | [], i, loc, f, β, e, H, F, nx, a, w, k, r, hl, hf, h, hs, hQ => by
    simp only [opsC] at hf
    cases hf
    exact hQ e H nx β F a w h hs (.refl _ _ _) (.refl _ _)
  | [o], i, loc, f, β, e, H, F, nx, a, w, k, r, hl, hf, h, hs, hQ => by
    simp only [opsC] at hf
    have ho : ops[i]? = some o := by simpa using hl 0 o rfl
    show wpOps P ops Q (i :: rest) a w
    rw [wpOps_cons]
    exact st_wp ho hn horc hf h hs fun e' H' nx' β' F' a' w' hk h1 h2 h3 => hQ e' H' nx' β' F' a' w' hk h1 h2 h3
  | o :: o2 :: more, i, loc, f, β, e, H, F, nx, a, w, k, r, hl, hf, h, hs, hQ => by
    simp only [opsC] at hf
    have ho : ops[i]? = some o := by simpa using hl 0 o rfl
    cases h1 : stC R P G nt lm orc loc ops o with
    | mk f1 =>
      cases h2 : opsC R P G nt lm orc ops (locD lm o.dst loc) (o2 :: more) with
      | mk f2 =>
        rw [h1, h2] at hf
        cases hf
        show wpOps P ops Q (i :: (List.range' (i + 1) (o2 :: more).length ++ rest)) a w
        rw [wpOps_cons]
        refine st_wp ho hn horc h1 h hs fun e' H' nx' β' F' a' w' hk k1 k2 k3 => ?_
        exact ops_then hn horc (o2 :: more) (i + 1) (locD lm o.dst loc) (fun j o' hj => by
          have := hl (j + 1) o' (by simpa using hj)
          rw [show i + 1 + j = i + (j + 1) by omega]; exact this) h2 hk k1 (Q := Q) fun e2 H2 nx2 β2 F2 a2 w2 hk2 q1 q2 q3 => hQ e2 H2 nx2 β2 F2 a2 w2 hk2 q1 (k2.trans q2) (k3.trans q3)

theorem frame0 {fn : Func} {lm : Nat} {β : Bz} {args : List AV} {vs : Array Value} {fr : Fz} (hn : fn.ntmps ≤ 512) (hl : args.length ≤ fn.ntmps) (hslot : ∀ t, t < 512 → slot t fr = if 0 ≤ t ∧ t < 0 + args.length then args.getD (t - 0) .u else slot t .e) (hargs : RepAs β args vs) :
    RepE fn.ntmps lm [] β (.mk fr []) (vs ++ Array.replicate (fn.ntmps - vs.size) undef) := by
  refine ⟨?_, hn, fun d hd => by simp at hd, fun t v hv => ?_⟩
  · have := hargs.1
    simp; omega
  · simp only [viewT, idx]
    cases Nat.testBit lm t with
    | true => trivial
    | false =>
      simp only [cond_false]
      cases hb' : Nat.blt t fn.ntmps with
      | false => trivial
      | true =>
        rw [Go.Eb.bltD, decide_eq_true_eq] at hb'
        simp only [cond_true]
        rw [hslot t (by omega)]
        simp only [Nat.zero_le, true_and, Nat.zero_add, Nat.sub_zero]
        rw [Array.getElem?_append] at hv
        by_cases ht : t < args.length
        · rw [if_pos ht]
          rw [if_pos (hargs.1 ▸ ht)] at hv
          exact hargs.2 t _ v (by simp [ht]) hv
        · rw [if_neg ht]
          have : slot t .e = .u := rfl
          rw [this]; trivial

theorem callD_ok (horc : OzOk P G orc) {f : FuncId} {fn : Func} {lm : Nat} {nf nn : Nat} (hnop : NopD P nf nn) {args : List AV} {H : Hz} {nx : Pa} {z : Rz} (hf : P.funcs[f]? = some fn) (hname : fn.name ≠ "runtime.NumGoroutine") (hfn : ∃ g, P.funcs[nf]? = some g ∧ g.name ≠ "runtime.NumGoroutine" ∧ g.body ≠ none)
    (h : callD P G nf nn orc fuel fn lm args H nx = some z) : CZ P G f args H nx z := by
  unfold callD at h
  split at h
  · rename_i x id ops rest hb
    split at h
    · rename_i init dst v as ats ty pos after hlast
      have hsplit := lastR_eq hlast
      cases hcnd : (Nat.ble fn.ntmps 512 && Nat.ble (lenR args) fn.ntmps && as.toList.isEmpty && dst.isNone) with
      | false => rw [hcnd] at h; cases h
      | true =>
        rw [hcnd] at h
        simp only [cond_true] at h
        simp only [Bool.and_eq_true, Go.Eb.bleD, decide_eq_true_eq, lenR_eq] at hcnd
        obtain ⟨⟨⟨hn, hl⟩, has⟩, hdst⟩ := hcnd
        obtain ⟨fr, h, hslot⟩ := putsK_some (by omega) h
        obtain ⟨f0, e0, hf0⟩ := codeC_ok (D := []) (fuel := fuel) (lm := lm) hn horc x
        rw [e0] at h
        simp only at h
        obtain ⟨xr, H', nx'⟩ := z
        intro β w F vs hrel hfree hglob hargs
        refine ⟨fn, hf, hname, by rw [hb]; simp, calls_of_wp_defers hf hb (wp_seq (hf0 _ _ _ _ _ h β F _ w _ ⟨frame0 hn hl hslot hargs, hrel, hfree, hglob, rfl⟩ fun out fr0 H0 nx0 hk0 β0 F0 a0 w0 hs0 he0 hkp0 => ?_))⟩
        cases out with
        | exit id => cases hk0
        | goto l => cases hk0
        | ret => cases hk0
        | norm =>
        simp only at hk0
        cases hops : opsC Rz P G fn.ntmps lm orc ops [] init with
        | mk g =>
          rw [hops] at hk0
          simp only at hk0
          have hsz : ops.size = init.length + 1 := by
            have := congrArg List.length hsplit
            simpa using this
          have hget : ∀ (j : Nat) o, init[j]? = some o → ops[0 + j]? = some o := fun j o hj => by
            have hlt := (List.getElem?_eq_some_iff.1 hj).1
            rw [← Array.getElem?_toList, hsplit, List.getElem?_append, if_pos (by omega)]
            simpa using hj
          have hlast' : ops[init.length]? = some ⟨dst, .defer ⟨.value v, as, ats⟩, ty, pos, after, none⟩ := by
            rw [← Array.getElem?_toList, hsplit, List.getElem?_append, if_neg (by omega)]
            simp
          refine wp_seq (wp_region ?_)
          have hr : List.range ops.size = List.range' 0 init.length ++ [init.length] := by
            rw [hsz, List.range_succ, List.range_eq_range']
          rw [hr]
          refine ops_then (D := []) hn horc init 0 [] hget hops hk0 hs0 fun e1 H1 nx1 β1 F1 a1 w1 hk hs he hkp => ?_
          rw [wpOps_cons]
          obtain ⟨gd, hgd, ed⟩ := withO_eq (ρ := opA G fn.ntmps lm (locsL lm init [])) Rz (x := v) (fun _ => rfl)
          rw [ed] at hk
          unfold deferK at hk
          rw [hgd] at hk
          obtain ⟨f', ca, cb, ev, hk3⟩ := fnK_some hk
          cases hc2 : (Nat.beq f' nf && Nat.beq (lenR ca + lenR cb) nn) with
          | false => rw [hc2] at hk3; cases hk3
          | true =>
            rw [hc2] at hk3
            simp only [cond_true] at hk3
            simp only [Bool.and_eq_true, lenR_eq] at hc2
            have ef := Nat.eq_of_beq_eq_true hc2.1
            have en := Nat.eq_of_beq_eq_true hc2.2
            subst ef
            have hrv := opA_rep hs.glob hs.frame v
            rw [ev] at hrv
            obtain ⟨fs, cs, e2, r1, r2⟩ := hrv
            have as0 : as = #[] := by
              have : as.toList = [] := by simpa using has
              exact Array.toList_eq_nil_iff.1 this
            subst as0
            have d0 : dst = none := by simpa using hdst
            subst d0
            unfold wpOp
            simp only [hlast', wanted_none, if_true]
            left
            unfold Oper.wp
            have hrun : (execOp a1.eval ⟨none, .defer ⟨.value v, #[], ats⟩, ty, pos, after, none⟩).run P w1 = .ok (.defer ⟨.fn (.func f') cs, fs⟩) w1 := by
              simp [execOp, resolve, e2, Deferred.ofValue]
            rw [hrun]
            simp only [Oper.upon]
            cases e1 with
            | mk fr1 l1 =>
              obtain ⟨gr, eg, hg⟩ := codeC_ok (D := [⟨.fn (.func f') cs, fs⟩]) (fuel := fuel) (lm := lm) hn horc rest
              rw [eg] at hk3
              refine hg fr1 H1 nx1 _ _ hk3 β1 F1 _ w1 _ ⟨hs.frame.forget, hs.mem, hs.free, hs.glob, by simp [Act.put, hs.defers]⟩ ?_
              intro out fr2 H2 nx2 hk2 β2 F2 a2 w2 hs2 he2 hkp2
              have fin : endK P fn.ntmps lm fn fr2 H2 nx2 = some (.mk xr H' nx') → Leaves P fn a2.tmps (fun e w' => ∃ v β' F', e = .returned v ∧ RepA β' xr v ∧ Rel β' H' F' w' ∧ Ext β H w β' H' w' ∧ Kp F nx F' nx') a2.defers .returning w2 := fun hk => by
                unfold endK at hk
                obtain ⟨l, hk, hl⟩ := resC_some (G := G) hk
                obtain ⟨y, hy, hk⟩ := optK_some hk
                cases hk
                obtain ⟨v, hv, hx⟩ := results_run (P := P) (hl hs2) hy
                rw [hs2.defers]
                obtain ⟨g0, hg0, hg1, hg2⟩ := hfn
                refine leaves_cons (f := f') (args := fs ++ cs) (by simp) (by simp [invoke, callFunc, hg0, hg1, hg2]) ((hnop _ w2 (by simp; have := r1.1; have := r2.1; simp at *; omega)).mono ?_)
                rintro e u' w'' ⟨⟨v', rfl⟩, rfl, rfl⟩
                exact ⟨v, hv, v, β2, F2, rfl, hx, hs2.mem, he0.trans (he.trans he2), hkp0.trans (hkp.trans hkp2)⟩
              cases out with
              | exit id => cases hk2
              | goto l => cases hk2
              | norm => exact fin hk2
              | ret => exact fin hk2
    · cases h
  · cases h
end
end Go.Ez
