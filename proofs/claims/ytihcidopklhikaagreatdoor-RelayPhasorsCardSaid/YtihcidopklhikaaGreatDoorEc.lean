/-
  An evaluator of Go code on abstract values, proved sound: what it computes is what every run of the model returns (third part). No condition.
-/
import Derived.Test.YtihcidopklhikaaGreatDoorEb
namespace Go.Eb
open Go.RowKit

/-- a computation that comes to one place, whatever follows -/
def Det {α β : Type} (F : (R : Type) → (α → β → Option (T R)) → Option (T R)) : Prop :=
  (∀ (R : Type) (k : α → β → Option (T R)), F R k = none) ∨ ∃ a b, ∀ (R : Type) (k : α → β → Option (T R)), F R k = k a b

def OrcDet (orc : Orc) : Prop := ∀ f args H, Det fun R k => orc R f args H k

theorem Det.no {α β : Type} {F : (R : Type) → (α → β → Option (T R)) → Option (T R)} (h : ∀ (R : Type) k, F R k = none) : Det F := .inl h
theorem Det.one {α β : Type} {F : (R : Type) → (α → β → Option (T R)) → Option (T R)} (a : α) (b : β) (h : ∀ (R : Type) k, F R k = k a b) : Det F := .inr ⟨a, b, h⟩
theorem Det.bif {α β : Type} {F G : (R : Type) → (α → β → Option (T R)) → Option (T R)} (c : Bool) (h : Det F) (k : Det G) : Det fun R q => bif c then F R q else G R q := by
  cases c with
  | true => exact h
  | false => exact k

theorem Det.congr {α β : Type} {F G : (R : Type) → (α → β → Option (T R)) → Option (T R)} (h : Det F) (e : ∀ (R : Type) k, G R k = F R k) : Det G := by
  rcases h with h | ⟨a, b, h⟩
  · exact .inl fun R k => (e R k).trans (h R k)
  · exact .inr ⟨a, b, fun R k => (e R k).trans (h R k)⟩
/-- one computation behind another -/
theorem Det.bind {α β γ δ : Type} {F : (R : Type) → (α → β → Option (T R)) → Option (T R)} (h : Det F) {G : α → β → (R : Type) → (γ → δ → Option (T R)) → Option (T R)} (hG : ∀ a b, Det (G a b)) :
    Det fun R k => F R fun a b => G a b R k := by
  rcases h with h | ⟨a, b, h⟩
  · exact .inl fun R k => h R _
  · rcases hG a b with g | ⟨c, d, g⟩
    · exact .inl fun R k => (h R _).trans (g R k)
    · exact .inr ⟨c, d, fun R k => (h R _).trans (g R k)⟩

section
variable {P : Program} {orc : Orc}

theorem perfK_det (ho : OrcDet orc) (h0 : Nat) (a : Do) (H : Hp) : (∀ (R : Type) k, perfK (R := R) orc h0 a H k = none) ∨ ∃ x ft u, ∀ (R : Type) k, perfK (R := R) orc h0 a H k = k x ft u := by
  cases a with
  | call f args =>
    simp only [perfK]
    cases hL : callL H args with
    | none => exact .inl fun R k => rfl
    | some L =>
      rcases ho f (callArgs L args) (callH H L) with h | ⟨x, Hr, h⟩
      · exact .inl fun R k => h R _
      · exact .inr ⟨_, _, _, fun R k => h R _⟩
  | next h =>
    simp only [perfK]
    cases look H h with
    | none => exact .inl fun R k => rfl
    | some b =>
      cases b with
      | iter s pos =>
        cases hb : Nat.blt pos s.size with
        | true => exact .inr ⟨_, _, _, fun R k => by simp only [hb, cond_true]; rfl⟩
        | false => exact .inr ⟨_, _, _, fun R k => by simp only [hb, cond_false]; rfl⟩
      | _ => exact .inl fun R k => rfl
  | ustr h n e =>
    simp only [perfK]
    cases look H h with
    | none => exact .inl fun R k => rfl
    | some b =>
      cases b with
      | row m f sz t =>
        cases hb : (Nat.ble n m && Nat.beq sz 1 && Nat.beq t e && bytesOk n f) with
        | true => exact .inr ⟨_, _, _, fun R k => by simp only [hb, cond_true]; rfl⟩
        | false => exact .inl fun R k => by simp only [hb, cond_false]
      | _ => exact .inl fun R k => rfl
  | cstr h n =>
    simp only [perfK]
    cases hb : cstrOk n (look H h) with
    | true => exact .inr ⟨_, _, _, fun R k => by simp only [cond_true]; rfl⟩
    | false => exact .inl fun R k => by simp only [cond_false]
  | _ =>
    all_goals
      simp only [perfK]
      split
      · exact .inr ⟨_, _, _, fun R k => rfl⟩
      · exact .inl fun R k => rfl

theorem guardK_det (ops : Array Oper) (F : List AV) (o : Oper) : (∀ (R : Type) yes no, guardK (R := R) ops F o yes no = none) ∨ (∃ F', ∀ (R : Type) yes no, guardK (R := R) ops F o yes no = yes F') ∨ ∃ F', ∀ (R : Type) yes no, guardK (R := R) ops F o yes no = no F' := by
  unfold guardK
  split
  · exact .inr (.inl ⟨_, fun R yes no => rfl⟩)
  · rename_i j want _
    split
    · exact .inr (.inr ⟨_, fun R yes no => rfl⟩)
    · split
      · rename_i b _
        cases b <;> cases want
        · exact .inr (.inl ⟨_, fun R yes no => rfl⟩)
        · exact .inr (.inr ⟨_, fun R yes no => rfl⟩)
        · exact .inr (.inr ⟨_, fun R yes no => rfl⟩)
        · exact .inr (.inl ⟨_, fun R yes no => rfl⟩)
      · exact .inr (.inr ⟨_, fun R yes no => rfl⟩)
      · exact .inl fun R yes no => rfl

theorem stepK_det (ho : OrcDet orc) (ops : Array Oper) (i : Nat) (s : St) : Det fun R k => stepK (R := R) P orc ops i s k := by
  unfold stepK
  simp only [guardF_eq, resF_eq, opF_eq, putF_eq]
  split
  · exact .no fun R k => rfl
  · rename_i o _
    rcases guardK_det ops s.F o with h | ⟨F', h⟩ | ⟨F', h⟩
    · exact .no fun R k => h R _ _
    · cases hr : res P o (opA F') with
      | none => exact .no fun R k => by rw [h]; simp only [hr]
      | some p =>
        obtain ⟨ok, a⟩ := p
        cases ok with
        | false => exact .no fun R k => by rw [h]; simp only [hr, cond_false]
        | true =>
          rcases perfK_det ho (s.nm + 16 * i) a s.H with g | ⟨x, ft, u, g⟩
          · exact .no fun R k => by rw [h]; simp only [hr, cond_true]; exact g R _
          · exact .one _ _ fun R k => by rw [h]; simp only [hr, cond_true]; exact g R _
    · exact .one _ _ fun R k => h R _ _

theorem opsK_det (ho : OrcDet orc) (ops : Array Oper) : ∀ (l : List Nat) (tr : List (Nat × Foot)) (s : St), Det fun R k => opsK (R := R) P orc ops l tr s k
  | [], tr, s => .one tr s fun R k => rfl
  | i :: rest, tr, s => (stepK_det ho ops i s).bind fun a s' => opsK_det ho ops rest (tr ++ [(i, a)]) s'

def noDiam : Code → Bool
  | .region _ ops draw => !(draw && diamond ops)
  | .seq a b => noDiam a && noDiam b
  | .cond _ a b => noDiam a && noDiam b
  | .block _ c => noDiam c
  | .loop c => noDiam c
  | .scope c => noDiam c
  | _ => true

theorem regionK_det (ho : OrcDet orc) (ops : Array Oper) (draw : Bool) (s : St) (hd : (draw && diamond ops) = false) : Det fun R k => regionK (R := R) P orc ops draw s k := by
  unfold regionK
  simp only [hd, cond_false]
  refine (opsK_det ho ops _ _ s).bind fun tr s' => ?_
  cases (!draw || (commutes ops (masks ops.toList []) tr && edgesDown ops && P.follows .mixedOrders)) with
  | true => exact .one _ _ fun R k => rfl
  | false => exact .no fun R k => rfl

theorem iterK_det {k0 : Nat} {note : Option Note} {body : (R : Type) → St → (Out → St → Option (T R)) → Option (T R)} (hb : ∀ s, Det fun R k => body R s k) : ∀ (n : Nat) (s : St), Det fun R k => iterK (R := R) k0 note (body R) n s k
  | 0, s => .no fun R k => rfl
  | n + 1, s => (hb s).bind (G := fun (o : Out) (s' : St) (R : Type) (k : Out → St → Option (T R)) => match o with
    | .norm => (match trim k0 note s' with
      | none => none
      | some s0 => iterK k0 note (body R) n s0 k)
    | .exit id => k (.exit id) s'
    | .goto l => k (.goto l) s'
    | .ret => k .ret s') fun o s' => by
      cases o with
      | norm =>
        simp only []
        cases trim k0 note s' with
        | none => exact .no fun R k => rfl
        | some s0 => exact iterK_det hb n s0
      | exit id => exact .one _ _ fun R k => rfl
      | goto l => exact .one _ _ fun R k => rfl
      | ret => exact .one _ _ fun R k => rfl

theorem evK_det (ho : OrcDet orc) (ann : Ann) (k0 n : Nat) : ∀ (c : Code), noDiam c = true → ∀ (lab : Option Nat) (s : St), Det fun R k => evK (R := R) P orc ann k0 n c lab s k := by
  intro c
  induction c with
  | skip => intro _ lab s; cases lab with
    | none => exact .one _ _ fun R k => by simp only [evK]; rfl
    | some l => exact .no fun R k => by simp only [evK]
  | region id ops draw =>
    intro hn lab s
    cases lab with
    | none =>
      have hd : (draw && diamond ops) = false := by simp only [noDiam, Bool.not_eq_true'] at hn; exact hn
      simp only [evK]
      split
      · exact regionK_det ho ops draw s hd
      · split
        · exact .no fun R k => rfl
        · rename_i s0 hs0
          cases n with
          | zero => exact .no fun R k => by simp only [iterK]
          | succ m =>
            have h := (regionK_det (P := P) ho ops draw s0 hd).bind (G := fun (o : Out) (s' : St) (R : Type) (k : Out → St → Option (T R)) => gateN (fun s'' => k .norm s'') o s') fun o s' => by
              cases o with
              | norm => exact .one _ _ fun R k => rfl
              | _ => exact .no fun R k => rfl
            refine h.congr fun R k => ?_
            simp only [iterK]
            exact congrArg _ (funext fun o => funext fun s'' => by cases o <;> rfl)
    | some l => exact .no fun R k => by simp only [evK]
  | seq a b iha ihb =>
    intro hn lab s
    simp only [noDiam, Bool.and_eq_true] at hn
    have go : ∀ lab', Det fun (R : Type) (k : Out → St → Option (T R)) => evK P orc ann k0 n a lab' s fun o s' => match o with
        | .norm => evK P orc ann k0 n b none s' k
        | .exit id => k (.exit id) s'
        | .goto l => k (.goto l) s'
        | .ret => k .ret s' := fun lab' => (iha hn.1 lab' s).bind (G := fun (o : Out) (s' : St) (R : Type) (k : Out → St → Option (T R)) => match o with
        | .norm => evK P orc ann k0 n b none s' k
        | .exit id => k (.exit id) s'
        | .goto l => k (.goto l) s'
        | .ret => k .ret s') fun o s' => by
          cases o with
          | norm => exact ihb hn.2 none s'
          | exit id => exact .one _ _ fun R k => rfl
          | goto l => exact .one _ _ fun R k => rfl
          | ret => exact .one _ _ fun R k => rfl
    cases lab with
    | none => simp only [evK]; exact go none
    | some l =>
      simp only [evK]
      cases hasLabel l a with
      | true => exact go (some l)
      | false => exact ihb hn.2 (some l) s
  | cond c x y ihx ihy =>
    intro hn lab s
    simp only [noDiam, Bool.and_eq_true] at hn
    cases lab with
    | some l => exact .no fun R k => by simp only [evK]
    | none =>
      simp only [evK]
      split
      · rename_i b _
        cases b with
        | true => exact ihx hn.1 none s
        | false => exact ihy hn.2 none s
      · exact .no fun R k => rfl
  | block id c ih =>
    intro hn lab s
    simp only [noDiam] at hn
    cases lab with
    | some l => exact .no fun R k => by simp only [evK]
    | none =>
      simp only [evK]
      exact (ih hn none s).bind (G := fun (o : Out) (s' : St) (R : Type) (k : Out → St → Option (T R)) => match o with
        | .norm => k .norm s'
        | .exit j => bif j == id then k .norm s' else k (.exit j) s'
        | .goto l => k (.goto l) s'
        | .ret => k .ret s') fun o s' => by
          cases o with
          | norm => exact .one _ _ fun R k => rfl
          | exit j => cases hj : (j == id) with
            | true => exact .one _ _ fun R k => by simp only [hj, cond_true]; rfl
            | false => exact .one _ _ fun R k => by simp only [hj, cond_false]; rfl
          | goto l => exact .one _ _ fun R k => rfl
          | ret => exact .one _ _ fun R k => rfl
  | loop c ih =>
    intro hn lab s
    simp only [noDiam] at hn
    cases lab with
    | some l => exact .no fun R k => by simp only [evK]
    | none =>
      simp only [evK]
      split
      · exact .no fun R k => rfl
      · rename_i s0 _
        exact iterK_det (body := fun (R : Type) (s' : St) (k' : Out → St → Option (T R)) => evK P orc ann k0 n c none s' k') (fun s' => ih hn none s') n s0
  | scope c ih =>
    intro hn lab s
    simp only [noDiam] at hn
    cases lab with
    | some l => exact .no fun R k => by simp only [evK]
    | none =>
      simp only [evK]
      refine (ih hn none s).bind (G := fun (o : Out) (s' : St) (R : Type) (k : Out → St → Option (T R)) => match o with
        | .goto l => (match findLabel c l with
          | some rest => (match trim k0 ((firstR rest).bind ann) s' with
            | none => none
            | some s0 => iterK k0 ((firstR rest).bind ann) (fun s' k' => evK P orc ann k0 n c (some l) s' fun o s'' => match o with
                | .goto m => bif m == l then k' .norm s'' else none
                | .norm => k' (.goto l) s''
                | .exit id => k' (.exit id) s''
                | .ret => k' .ret s'') n s0 fun o s'' => match o with
                  | .goto _ => k .norm s''
                  | .norm => none
                  | .exit id => k (.exit id) s''
                  | .ret => k .ret s'')
          | none => none)
        | .norm => k .norm s'
        | .exit id => k (.exit id) s'
        | .ret => k .ret s') fun o s' => ?_
      cases o with
      | norm => exact .one _ _ fun R k => rfl
      | exit id => exact .one _ _ fun R k => rfl
      | ret => exact .one _ _ fun R k => rfl
      | goto l =>
        simp only []
        split
        · split
          · exact .no fun R k => rfl
          · rename_i rest _ _ s0 _
            refine (iterK_det (body := fun (R : Type) (s' : St) (k' : Out → St → Option (T R)) => evK P orc ann k0 n c (some l) s' fun o s'' => match o with
                | .goto m => bif m == l then k' .norm s'' else none
                | .norm => k' (.goto l) s''
                | .exit id => k' (.exit id) s''
                | .ret => k' .ret s'') (fun s1 => ?_) n s0).bind (G := fun (o : Out) (s'' : St) (R : Type) (k : Out → St → Option (T R)) => match o with
                  | .goto _ => k .norm s''
                  | .norm => none
                  | .exit id => k (.exit id) s''
                  | .ret => k .ret s'') fun o s'' => ?_
            · refine (ih hn (some l) s1).bind (G := fun (o : Out) (s'' : St) (R : Type) (k' : Out → St → Option (T R)) => match o with
                | .goto m => bif m == l then k' .norm s'' else none
                | .norm => k' (.goto l) s''
                | .exit id => k' (.exit id) s''
                | .ret => k' .ret s'') fun o s'' => ?_
              cases o with
              | goto m => cases hj : (m == l) with
                | true => exact .one _ _ fun R k => by simp only [hj, cond_true]; rfl
                | false => exact .no fun R k => by simp only [hj, cond_false]
              | norm => exact .one _ _ fun R k => rfl
              | exit id => exact .one _ _ fun R k => rfl
              | ret => exact .one _ _ fun R k => rfl
            · cases o with
              | goto m => exact .one _ _ fun R k => rfl
              | norm => exact .no fun R k => rfl
              | exit id => exact .one _ _ fun R k => rfl
              | ret => exact .one _ _ fun R k => rfl
        · exact .no fun R k => rfl
  | label m =>
    intro hn lab s
    cases lab with
    | none => exact .one _ _ fun R k => by simp only [evK]; rfl
    | some l =>
      cases hj : (m == l) with
      | true => exact .one _ _ fun R k => by simp only [evK, hj, cond_true]; rfl
      | false => exact .no fun R k => by simp only [evK, hj, cond_false]
  | goto l => intro _ lab s; cases lab with
    | none => exact .one _ _ fun R k => by simp only [evK]; rfl
    | some l => exact .no fun R k => by simp only [evK]
  | exit l => intro _ lab s; cases lab with
    | none => exact .one _ _ fun R k => by simp only [evK]; rfl
    | some l => exact .no fun R k => by simp only [evK]
  | ret => intro _ lab s; cases lab with
    | none => exact .one _ _ fun R k => by simp only [evK]; rfl
    | some l => exact .no fun R k => by simp only [evK]
  | _ => intro _ lab s; exact .no fun R k => by cases lab <;> simp only [evK]

theorem endK_det (fn : Func) (k0 : Nat) (o : Out) (s : St) : Det fun R k => endK (R := R) P fn k0 k o s := by
  unfold endK
  cases o with
  | exit _ => exact .no fun R k => rfl
  | goto _ => exact .no fun R k => rfl
  | _ =>
    all_goals
      simp only []
      cases resultsA P fn s with
      | none => exact .no fun R k => rfl
      | some l =>
        simp only []
        cases ofResults l with
        | none => exact .no fun R k => rfl
        | some x => exact .one _ _ fun R k => rfl

theorem callK_det (ho : OrcDet orc) (ann : Ann) (n : Nat) (fn : Func) (c : Code) (hc : noDiam c = true) (args : List AV) (H : Hp) : Det fun R k => callK (R := R) P orc ann n fn c args H k := by
  unfold callK
  exact (evK_det ho ann H.length n c hc none _).bind (G := fun o s R k => endK P fn H.length k o s) fun o s => endK_det fn H.length o s
end

/-- a callee, evaluated through -/
noncomputable def inl (P : Program) (orc : Orc) (ann : Ann) (n : Nat) (fn : Func) : (R : Type) → List AV → Hp → (AV → Hp → Option (T R)) → Option (T R) := fun _ args H k =>
  bif noDiam (bodyOf fn) && seqN 0 H then callK P orc ann n fn (bodyOf fn) args H k else none

def AnsDet (g : (R : Type) → List AV → Hp → (AV → Hp → Option (T R)) → Option (T R)) : Prop := ∀ args H, Det fun R k => g R args H k

theorem inl_det {P : Program} {orc : Orc} (ho : OrcDet orc) {ann : Ann} {n : Nat} {fn : Func} : AnsDet (inl P orc ann n fn) := fun args H => by
  unfold inl
  cases hc : (noDiam (bodyOf fn) && seqN 0 H) with
  | false => exact .no fun R k => rfl
  | true =>
    simp only [Bool.and_eq_true] at hc
    exact callK_det ho ann n fn _ hc.1 args H

theorem inl_ok {P : Program} {orc : Orc} (ho : OrcOk P orc) (hd : OrcDet orc) {ann : Ann} {n : Nat} {f : FuncId} {fn : Func} (hf : P.funcs[f]? = some fn) (hb : fn.body = some (bodyOf fn)) :
    ∀ (R : Type) args H (k : AV → Hp → Option (T R)) t, inl P orc ann n fn R args H k = some t → ∃ x H', k x H' = some t ∧ CX P f args H x H' := fun R args H k t h => by
  unfold inl at h
  cases hc : (noDiam (bodyOf fn) && seqN 0 H) with
  | false => rw [hc] at h; cases h
  | true =>
    rw [hc] at h
    simp only [cond_true] at h
    simp only [Bool.and_eq_true] at hc
    rcases callK_det (P := P) hd ann n fn _ hc.1 args H with g | ⟨x, H', g⟩
    · exact absurd ((g R k).symm.trans h) (by simp)
    · exact ⟨x, H', (g R k).symm.trans h, cxA_of ho (ann := ann) (n := n) hf hb hc.2 (by unfold callA; exact g _ _)⟩

theorem Orc.nil_det : OrcDet Orc.nil := fun f args H => .no fun R k => rfl
theorem Orc.cons_det {f0 : FuncId} {g : (R : Type) → List AV → Hp → (AV → Hp → Option (T R)) → Option (T R)} {rest : Orc} (hg : AnsDet g) (hr : OrcDet rest) : OrcDet (Orc.cons f0 g rest) := fun f args H => by
  unfold Orc.cons
  exact .bif _ (hg args H) (hr f args H)
theorem ansP_det {α : Type} {dec : List AV → Option α} {g : α → AV} : AnsDet (ansP dec g) := fun args H => by
  unfold ansP
  cases H with
  | nil =>
    simp only []
    cases dec args with
    | none => exact .no fun R k => rfl
    | some a => exact .one _ _ fun R k => rfl
  | cons _ _ => exact .no fun R k => rfl
theorem ansC_det {α : Type} {dec : List AV → Option α} {c : α → Bool} {g : α → AV} : AnsDet (ansC dec c g) := fun args H => by
  unfold ansC
  cases H with
  | nil =>
    simp only []
    cases dec args with
    | none => exact .no fun R k => rfl
    | some a =>
      simp only []
      cases hca : c a with
      | true => exact .one _ _ fun R k => by simp only [hca, cond_true]; rfl
      | false => exact .no fun R k => by simp only [hca, cond_false]
  | cons _ _ => exact .no fun R k => rfl

theorem deepJ_det (P : Program) (ann : FuncId → Ann) {top : Orc} (ht : OrcDet top) (fuel : Nat) : ∀ n, OrcDet (deepJ P ann top fuel n)
  | 0 => ht
  | n + 1 => fun f args H => by
    simp only [deepJ]
    split
    · split
      · cases hs : seqN 0 H with
        | false => exact .no fun R k => by simp only [hs, cond_false]
        | true =>
          simp only [cond_true]
          split
          · split
            · exact .one _ _ fun R k => rfl
            · exact .no fun R k => rfl
          · exact .no fun R k => rfl
      · exact ht f args H
    · exact .no fun R k => rfl

/-- an oracle that is sound and answers one way -/
structure OrcS (P : Program) (orc : Orc) : Prop where
  ok : OrcOk P orc
  det : OrcDet orc
structure AnsS (P : Program) (f : FuncId) (g : (R : Type) → List AV → Hp → (AV → Hp → Option (T R)) → Option (T R)) : Prop where
  ok : ∀ (R : Type) args H (k : AV → Hp → Option (T R)) t, g R args H k = some t → ∃ x H', k x H' = some t ∧ CX P f args H x H'
  det : AnsDet g
theorem OrcS.nil {P : Program} : OrcS P Orc.nil := ⟨Orc.nil_ok P, Orc.nil_det⟩
theorem OrcS.cons {P : Program} {f0 : FuncId} {g : (R : Type) → List AV → Hp → (AV → Hp → Option (T R)) → Option (T R)} {rest : Orc} (h : AnsS P f0 g) (r : OrcS P rest) : OrcS P (Orc.cons f0 g rest) := ⟨Orc.cons_ok r.ok h.ok, Orc.cons_det h.det r.det⟩
theorem AnsS.inl {P : Program} {orc : Orc} (h : OrcS P orc) {ann : Ann} {n : Nat} {f : FuncId} {fn : Func} (hf : P.funcs[f]? = some fn) (hb : fn.body = some (bodyOf fn)) : AnsS P f (inl P orc ann n fn) := ⟨inl_ok h.ok h.det hf hb, inl_det h.det⟩
theorem AnsS.p {P : Program} {f0 : FuncId} {α : Type} {dec : List AV → Option α} {g : α → AV} {enc : α → List AV} (hd : ∀ args a, dec args = some a → args = enc a) (hc : ∀ a, CX P f0 (enc a) [] (g a) []) : AnsS P f0 (ansP dec g) := ⟨ansP_ok hd hc, ansP_det⟩
theorem AnsS.c {P : Program} {f0 : FuncId} {α : Type} {dec : List AV → Option α} {c : α → Bool} {g : α → AV} {enc : α → List AV} (hd : ∀ args a, dec args = some a → args = enc a) (hc : ∀ a, c a = true → CX P f0 (enc a) [] (g a) []) : AnsS P f0 (ansC dec c g) := ⟨ansC_ok hd hc, ansC_det⟩

/-- a form: what is read off it, and how it is spelt -/
structure Dec (X A : Type) where
  dec : X → Option A
  enc : A → X
  ok : ∀ x a, dec x = some a → x = enc a

namespace Dec
def nil {X : Type} : Dec (List X) Unit := ⟨fun x => match x with | [] => some () | _ :: _ => none, fun _ => [], fun x a h => by cases x <;> simp_all⟩
def cons {X A B : Type} (d : Dec X A) (e : Dec (List X) B) : Dec (List X) (A × B) :=
  ⟨fun x => match x with
    | [] => none
    | y :: r => match d.dec y with
      | none => none
      | some a => match e.dec r with
        | none => none
        | some b => some (a, b),
   fun p => d.enc p.1 :: e.enc p.2, fun x p h => by
    cases x with
    | nil => simp at h
    | cons y r =>
      simp only [] at h
      cases hd : d.dec y with
      | none => rw [hd] at h; simp at h
      | some a =>
        rw [hd] at h
        simp only [] at h
        cases he : e.dec r with
        | none => rw [he] at h; simp at h
        | some b =>
          rw [he] at h
          simp only [Option.some.injEq] at h
          subst h
          rw [d.ok y a hd, e.ok r b he]⟩
def pair {X Y A B : Type} (d : Dec X A) (e : Dec Y B) : Dec (X × Y) (A × B) :=
  ⟨fun x => match d.dec x.1 with
      | none => none
      | some a => match e.dec x.2 with
        | none => none
        | some b => some (a, b),
   fun p => (d.enc p.1, e.enc p.2), fun x p h => by
    obtain ⟨y, r⟩ := x
    simp only [] at h
    cases hd : d.dec y with
    | none => rw [hd] at h; simp at h
    | some a =>
      rw [hd] at h
      simp only [] at h
      cases he : e.dec r with
      | none => rw [he] at h; simp at h
      | some b =>
        rw [he] at h
        simp only [Option.some.injEq] at h
        subst h
        rw [d.ok y a hd, e.ok r b he]⟩
def nat (n : Nat) : Dec Nat Unit := ⟨fun x => bif Nat.beq x n then some () else none, fun _ => n, fun x a h => by
  cases hb : Nat.beq x n with
  | true => exact Nat.eq_of_beq_eq_true hb
  | false => rw [hb] at h; cases h⟩
def anyN : Dec Nat Nat := ⟨some, id, fun x a h => by cases h; rfl⟩
/-- a block under its name -/
def blk {A : Type} (n : Nat) (d : Dec Blk A) : Dec (Nat × Blk) A := 
  ⟨fun x => bif Nat.beq x.1 n then d.dec x.2 else none, fun a => (n, d.enc a), fun x a h => by
    obtain ⟨m, b⟩ := x
    cases hb : Nat.beq m n with
    | true => simp only [hb, cond_true] at h; rw [Nat.eq_of_beq_eq_true hb, d.ok b a h]
    | false => simp only [hb, cond_false] at h; cases h⟩
def cells {A : Type} (t : TypeId) (d : Dec (List C) A) : Dec Blk A :=
  ⟨fun x => match x with | .cells cs u => bif Nat.beq u t then d.dec cs else none | _ => none, fun a => .cells (d.enc a) t, fun x a h => by
    cases x with
    | cells cs u =>
      simp only [] at h
      cases hb : Nat.beq u t with
      | true => rw [hb] at h; simp only [cond_true] at h; rw [Nat.eq_of_beq_eq_true hb, d.ok cs a h]
      | false => rw [hb] at h; cases h
    | _ => cases h⟩
def rowB (sz : Nat) (t : TypeId) : Dec Blk (Nat × (Nat → List D)) :=
  ⟨fun x => match x with | .row n f z u => bif Nat.beq z sz && Nat.beq u t then some (n, f) else none | _ => none, fun a => .row a.1 a.2 sz t, fun x a h => by
    cases x with
    | row n f z u =>
      simp only [] at h
      cases hb : (Nat.beq z sz && Nat.beq u t) with
      | true =>
        rw [hb] at h
        simp only [cond_true, Option.some.injEq] at h
        subst h
        simp only [Bool.and_eq_true] at hb
        rw [Nat.eq_of_beq_eq_true hb.1, Nat.eq_of_beq_eq_true hb.2]
      | false => rw [hb] at h; cases h
    | _ => cases h⟩
def deadB : Dec Blk Unit := ⟨fun x => match x with | .dead => some () | _ => none, fun _ => .dead, fun x a h => by cases x <;> simp_all⟩
def i64 : Dec C Int := ⟨fun x => match x with | .d (.v (.int .i64 n)) => some n | _ => none, fun n => .d (.v (.int .i64 n)), fun x a h => by
  split at h
  · cases h; rfl
  · cases h⟩
def bool : Dec C Bool := ⟨fun x => match x with | .d (.v (.bool n)) => some n | _ => none, fun n => .d (.v (.bool n)), fun x a h => by
  split at h
  · cases h; rfl
  · cases h⟩
def str : Dec C ByteArray := ⟨fun x => match x with | .d (.v (.string n)) => some n | _ => none, fun n => .d (.v (.string n)), fun x a h => by
  split at h
  · cases h; rfl
  · cases h⟩
def nilS : Dec C Unit := ⟨fun x => match x with | .d (.v (.slice none 0 0)) => some () | _ => none, fun _ => .d (.v (.slice none 0 0)), fun x a h => by
  split at h
  · rfl
  · cases h⟩
def data : Dec C D := ⟨fun x => match x with | .d y => some y | _ => none, fun n => .d n, fun x a h => by
  split at h
  · cases h; rfl
  · cases h⟩
def row (h sz : Nat) : Dec C Nat := ⟨fun x => match x with | .row k z n => bif Nat.beq k h && Nat.beq z sz then some n else none | _ => none, fun n => .row h sz n, fun x a e => by
  split at e
  · rename_i k z n
    cases hb : (Nat.beq k h && Nat.beq z sz) with
    | true =>
      rw [hb] at e
      simp only [cond_true, Option.some.injEq] at e
      subst e
      simp only [Bool.and_eq_true] at hb
      rw [Nat.eq_of_beq_eq_true hb.1, Nat.eq_of_beq_eq_true hb.2]
    | false => rw [hb] at e; cases e
  · cases e⟩
/-- of a given length -/
def rowN (h sz len : Nat) : Dec C Unit := ⟨fun x => match x with | .row k z n => bif Nat.beq k h && Nat.beq z sz && Nat.beq n len then some () else none | _ => none, fun _ => .row h sz len, fun x a e => by
  split at e
  · rename_i k z n
    cases hb : (Nat.beq k h && Nat.beq z sz && Nat.beq n len) with
    | true =>
      simp only [Bool.and_eq_true] at hb
      rw [Nat.eq_of_beq_eq_true hb.1.1, Nat.eq_of_beq_eq_true hb.1.2, Nat.eq_of_beq_eq_true hb.2]
    | false => rw [hb] at e; cases e
  · cases e⟩
def ptr (h o : Nat) : Dec C Unit := ⟨fun x => match x with | .ptr k p => bif Nat.beq k h && Nat.beq p o then some () else none | _ => none, fun _ => .ptr h o, fun x a e => by
  split at e
  · rename_i k p
    cases hb : (Nat.beq k h && Nat.beq p o) with
    | true =>
      simp only [Bool.and_eq_true] at hb
      rw [Nat.eq_of_beq_eq_true hb.1, Nat.eq_of_beq_eq_true hb.2]
    | false => rw [hb] at e; cases e
  · cases e⟩
def c {A : Type} (d : Dec C A) : Dec AV A := ⟨fun x => match x with | .c y => d.dec y | _ => none, fun a => .c (d.enc a), fun x a h => by
  cases x with
  | c y => rw [d.ok y a h]
  | _ => cases h⟩
def agg {A : Type} (d : Dec (List C) A) : Dec AV A := ⟨fun x => match x with | .agg y => d.dec y | _ => none, fun a => .agg (d.enc a), fun x a h => by
  cases x with
  | agg y => rw [d.ok y a h]
  | _ => cases h⟩
end Dec

/-- an answer by form -/
def ansD {A : Type} (d : Dec (List AV × Hp) A) (c : A → Bool) (r : A → AV) (H' : A → Hp) : (R : Type) → List AV → Hp → (AV → Hp → Option (T R)) → Option (T R) := fun _ args H k =>
  match d.dec (args, H) with
  | some a => bif c a then k (r a) (H' a) else none
  | none => none
theorem AnsS.d {P : Program} {f : FuncId} {A : Type} {d : Dec (List AV × Hp) A} {c : A → Bool} {r : A → AV} {H' : A → Hp} (hc : ∀ a, c a = true → CX P f (d.enc a).1 (d.enc a).2 (r a) (H' a)) : AnsS P f (ansD d c r H') := by
  refine ⟨fun R args H k t h => ?_, fun args H => ?_⟩
  · unfold ansD at h
    cases hd : d.dec (args, H) with
    | none => rw [hd] at h; cases h
    | some a =>
      rw [hd] at h
      simp only [] at h
      cases hca : c a with
      | false => rw [hca] at h; cases h
      | true =>
        rw [hca] at h
        have e := d.ok _ _ hd
        have := hc a hca
        rw [← e] at this
        exact ⟨_, _, h, this⟩
  · unfold ansD
    cases d.dec (args, H) with
    | none => exact .no fun R k => rfl
    | some a => exact .bif _ (.one _ _ fun R k => rfl) (.no fun R k => rfl)
/-- the first answer where the test says so, else the second -/
def ansIte (c : Hp → Bool) (g g' : (R : Type) → List AV → Hp → (AV → Hp → Option (T R)) → Option (T R)) : (R : Type) → List AV → Hp → (AV → Hp → Option (T R)) → Option (T R) := fun R args H k => bif c H then g R args H k else g' R args H k
theorem AnsS.ite {P : Program} {f : FuncId} {g g' : (R : Type) → List AV → Hp → (AV → Hp → Option (T R)) → Option (T R)} {c : Hp → Bool} (h : AnsS P f g) (h' : AnsS P f g') : AnsS P f (ansIte c g g') := by
  refine ⟨fun R args H k t e => ?_, fun args H => .bif _ (h.det args H) (h'.det args H)⟩
  unfold ansIte at e
  cases hc : c H with
  | true => simp only [hc, cond_true] at e; exact h.ok R args H k t e
  | false => simp only [hc, cond_false] at e; exact h'.ok R args H k t e
/-- the first answer if its form fits, else the second -/
def ansOr {A : Type} (d : Dec (List AV × Hp) A) (c : A → Bool) (r : A → AV) (H' : A → Hp) (g : (R : Type) → List AV → Hp → (AV → Hp → Option (T R)) → Option (T R)) : (R : Type) → List AV → Hp → (AV → Hp → Option (T R)) → Option (T R) := fun R args H k =>
  match d.dec (args, H) with
  | some a => bif c a then k (r a) (H' a) else none
  | none => g R args H k
theorem AnsS.or {P : Program} {f : FuncId} {A : Type} {d : Dec (List AV × Hp) A} {c : A → Bool} {r : A → AV} {H' : A → Hp} {g : (R : Type) → List AV → Hp → (AV → Hp → Option (T R)) → Option (T R)} (hc : ∀ a, c a = true → CX P f (d.enc a).1 (d.enc a).2 (r a) (H' a)) (hg : AnsS P f g) : AnsS P f (ansOr d c r H' g) := by
  refine ⟨fun R args H k t h => ?_, fun args H => ?_⟩
  · unfold ansOr at h
    cases hd : d.dec (args, H) with
    | none => rw [hd] at h; exact hg.ok R args H k t h
    | some a =>
      rw [hd] at h
      simp only [] at h
      cases hca : c a with
      | false => rw [hca] at h; cases h
      | true =>
        rw [hca] at h
        have e := d.ok _ _ hd
        have := hc a hca
        rw [← e] at this
        exact ⟨_, _, h, this⟩
  · unfold ansOr
    cases d.dec (args, H) with
    | none => exact hg.det args H
    | some a => exact .bif _ (.one _ _ fun R k => rfl) (.no fun R k => rfl)
end Go.Eb
namespace Go.Eb
open Go.RowKit

/-- a frame: slots by their numbers -/
inductive Fr where
  | nil
  | leaf (j : Nat) (x : AV)
  | node (k : Nat) (l r : Fr)

namespace Fr
noncomputable def get (i : Nat) (t : Fr) : AV :=
  Fr.rec (motive := fun _ => AV) .u (fun j x => Bool.rec (motive := fun _ => AV) .u x (Nat.beq i j)) (fun k _ _ a b => Bool.rec (motive := fun _ => AV) a b (Nat.ble k i)) t
noncomputable def setK {R : Type} (i : Nat) (x : AV) (t : Fr) : (Fr → R) → R :=
  Fr.rec (motive := fun _ => (Fr → R) → R) (fun k => k .nil) (fun j y k => Bool.rec (motive := fun _ => R) (k (.leaf j y)) (k (.leaf j x)) (Nat.beq i j))
    (fun m l r a b k => Bool.rec (motive := fun _ => R) (a fun l' => k (.node m l' r)) (b fun r' => k (.node m l r')) (Nat.ble m i)) t
def toL : Fr → List AV
  | nil => []
  | leaf _ x => [x]
  | node _ l r => toL l ++ toL r
def Ok : Nat → Nat → Fr → Prop
  | lo, hi, nil => lo = hi
  | lo, hi, leaf j _ => j = lo ∧ hi = lo + 1
  | lo, hi, node k l r => Ok lo k l ∧ Ok k hi r
theorem Ok.len : ∀ {t : Fr} {lo hi : Nat}, Ok lo hi t → lo + (toL t).length = hi
  | nil, lo, hi, h => by simpa [Ok, toL] using h
  | leaf j x, lo, hi, h => by simp only [Ok] at h; simp [toL, h.2]
  | node k l r, lo, hi, h => by
    simp only [Ok] at h
    have h1 := Ok.len h.1
    have h2 := Ok.len h.2
    simp only [toL, List.length_append]
    omega
theorem get_eq : ∀ {t : Fr} {lo hi i : Nat}, Ok lo hi t → lo ≤ i → get i t = (toL t).getD (i - lo) .u
  | nil, lo, hi, i, h, hi' => by simp [get, toL]
  | leaf j x, lo, hi, i, h, hi' => by
    simp only [Ok] at h
    obtain ⟨rfl, _⟩ := h
    show Bool.rec (motive := fun _ => AV) .u x (Nat.beq i j) = _
    rw [beqD]
    by_cases e : i = j
    · subst e; simp [toL]
    · rw [decide_eq_false e]
      have : i - j = (i - j - 1) + 1 := by omega
      rw [this]; simp [toL]
  | node k l r, lo, hi, i, h, hi' => by
    simp only [Ok] at h
    have h1 := Ok.len h.1
    show Bool.rec (motive := fun _ => AV) (get i l) (get i r) (Nat.ble k i) = _
    rw [bleD]
    by_cases e : k ≤ i
    · rw [decide_eq_true e]
      have := get_eq (t := r) h.2 e
      simp only [toL]
      rw [List.getD_eq_getElem?_getD, List.getElem?_append_right (by omega), this, List.getD_eq_getElem?_getD]
      congr 2; omega
    · rw [decide_eq_false e]
      have := get_eq (t := l) h.1 hi'
      simp only [toL]
      rw [List.getD_eq_getElem?_getD, List.getElem?_append_left (by omega), this, List.getD_eq_getElem?_getD]
theorem setK_eq (x : AV) : ∀ {t : Fr} {lo hi i : Nat}, Ok lo hi t → lo ≤ i → ∃ t', Ok lo hi t' ∧ toL t' = (toL t).set (i - lo) x ∧ ∀ (R : Type) (k : Fr → R), setK i x t k = k t'
  | nil, lo, hi, i, h, hi' => ⟨nil, h, by simp [toL], fun R k => rfl⟩
  | leaf j y, lo, hi, i, h, hi' => by
    simp only [Ok] at h
    obtain ⟨rfl, rfl⟩ := h
    by_cases e : i = j
    · subst e
      refine ⟨leaf i x, ⟨rfl, rfl⟩, by simp [toL], fun R k => ?_⟩
      show Bool.rec (motive := fun _ => R) (k (.leaf i y)) (k (.leaf i x)) (Nat.beq i i) = _
      rw [beqD]; simp
    · refine ⟨leaf j y, ⟨rfl, rfl⟩, ?_, fun R k => ?_⟩
      · have : i - j = (i - j - 1) + 1 := by omega
        rw [this]; simp [toL]
      · show Bool.rec (motive := fun _ => R) (k (.leaf j y)) (k (.leaf j x)) (Nat.beq i j) = _
        rw [beqD, decide_eq_false e]
  | node m l r, lo, hi, i, h, hi' => by
    simp only [Ok] at h
    have h1 := Ok.len h.1
    by_cases e : m ≤ i
    · obtain ⟨r', o, e1, e2⟩ := setK_eq x (t := r) h.2 e
      refine ⟨node m l r', ⟨h.1, o⟩, ?_, fun R k => ?_⟩
      · simp only [toL]
        rw [e1, List.set_append_right _ _ (by omega : (toL l).length ≤ i - lo)]
        congr 2; omega
      · show Bool.rec (motive := fun _ => R) (setK i x l fun l' => k (.node m l' r)) (setK i x r fun r' => k (.node m l r')) (Nat.ble m i) = _
        rw [bleD, decide_eq_true e]
        exact e2 R _
    · obtain ⟨l', o, e1, e2⟩ := setK_eq x (t := l) h.1 hi'
      refine ⟨node m l' r, ⟨o, h.2⟩, ?_, fun R k => ?_⟩
      · simp only [toL]
        rw [e1, List.set_append_left _ _ (by omega : i - lo < (toL l).length)]
      · show Bool.rec (motive := fun _ => R) (setK i x l fun l' => k (.node m l' r)) (setK i x r fun r' => k (.node m l r')) (Nat.ble m i) = _
        rw [bleD, decide_eq_false e]
        exact e2 R _
/-- n slots from lo on -/
def base : Nat → Nat → Nat → Fr
  | 0, _, _ => nil
  | _ + 1, _, 0 => nil
  | _ + 1, lo, 1 => leaf lo (.tup [])
  | d + 1, lo, n + 2 => node (lo + (n + 2) / 2) (base d lo ((n + 2) / 2)) (base d (lo + (n + 2) / 2) (n + 2 - (n + 2) / 2))
theorem base_ok : ∀ (d lo n : Nat), n ≤ d → Ok lo (lo + n) (base d lo n) ∧ toL (base d lo n) = List.replicate n (.tup [])
  | 0, lo, n, h => by
    obtain rfl : n = 0 := by omega
    simp [base, Ok, toL]
  | d + 1, lo, 0, h => by simp [base, Ok, toL]
  | d + 1, lo, 1, h => by simp [base, Ok, toL]
  | d + 1, lo, n + 2, h => by
    have h1 := base_ok d lo ((n + 2) / 2) (by omega)
    have h2 := base_ok d (lo + (n + 2) / 2) (n + 2 - (n + 2) / 2) (by omega)
    have e : lo + (n + 2) / 2 + (n + 2 - (n + 2) / 2) = lo + (n + 2) := by omega
    rw [e] at h2
    refine ⟨?_, ?_⟩
    · simp only [base, Ok]
      exact ⟨h1.1, h2.1⟩
    · simp only [base, toL, h1.2, h2.2, List.replicate_append_replicate]
      congr 1; omega
/-- values, one after the other -/
noncomputable def putsK {R : Type} (l : List AV) : Nat → Fr → (Fr → R) → R :=
  List.rec (motive := fun _ => Nat → Fr → (Fr → R) → R) (fun _ t k => k t) (fun x _ ih i t k => setK i x t fun t' => ih (i + 1) t' k) l
theorem putsK_eq : ∀ (l : List AV) {t : Fr} {hi i : Nat}, Ok 0 hi t → i + l.length ≤ hi → ∃ t', Ok 0 hi t' ∧ toL t' = (toL t).take i ++ l ++ (toL t).drop (i + l.length) ∧ ∀ (R : Type) (k : Fr → R), putsK l i t k = k t'
  | [], t, hi, i, h, hl => ⟨t, h, by simp, fun R k => rfl⟩
  | x :: r, t, hi, i, h, hl => by
    obtain ⟨t1, o1, e1, k1⟩ := setK_eq x h (Nat.zero_le i)
    have hlen := h.len
    simp only [List.length_cons] at hl
    obtain ⟨t2, o2, e2, k2⟩ := putsK_eq r (t := t1) (i := i + 1) o1 (by omega)
    refine ⟨t2, o2, ?_, fun R k => ?_⟩
    · rw [e2, e1]
      simp only [Nat.sub_zero, List.length_cons]
      have hi2 : i < (toL t).length := by omega
      rw [List.drop_set_of_lt (by omega), List.take_add_one, List.getElem?_set_self (by omega)]
      simp only [Option.toList_some, List.take_set, List.append_assoc, List.cons_append, List.nil_append]
      rw [List.set_eq_of_length_le (by simp; omega)]
      have e9 : i + 1 + r.length = i + (r.length + 1) := by omega
      rw [e9]
    · show setK i x t (fun t' => putsK r (i + 1) t' k) = _
      rw [k1]
      exact k2 R k
/-- a list as a tree -/
noncomputable def ofK {R : Type} (l : List AV) (k : Fr → R) : R := putsK l 0 (base l.length 0 l.length) k
theorem ofK_eq (l : List AV) : ∃ t, Ok 0 l.length t ∧ toL t = l ∧ ∀ (R : Type) (k : Fr → R), ofK l k = k t := by
  have hb := base_ok l.length 0 l.length (Nat.le_refl _)
  rw [Nat.zero_add] at hb
  obtain ⟨t, o, e, h⟩ := putsK_eq l hb.1 (i := 0) (by omega)
  refine ⟨t, o, ?_, h⟩
  rw [e, hb.2]
  simp
end Fr

/-- memory, strictly -/
noncomputable def insK {R : Type} (h : Nat) (b : Blk) (H : Hp) : (Hp → R) → R :=
  List.rec (motive := fun _ => (Hp → R) → R) (fun k => k [(h, b)])
    (fun p r ih k => Bool.rec (motive := fun _ => R) (ih fun r' => k (p :: r')) (Bool.rec (motive := fun _ => R) (k ((h, b) :: p :: r)) (k ((h, b) :: r)) (Nat.beq h p.1)) (Nat.ble h p.1)) H
theorem insK_eq {R : Type} (h : Nat) (b : Blk) : ∀ (H : Hp) (k : Hp → R), insK h b H k = k (ins h b H)
  | [], k => rfl
  | (m, c) :: r, k => by
    show Bool.rec (motive := fun _ => R) (insK h b r fun r' => k ((m, c) :: r')) (Bool.rec (motive := fun _ => R) (k ((h, b) :: (m, c) :: r)) (k ((h, b) :: r)) (Nat.beq h m)) (Nat.ble h m) = _
    simp only [ins]
    cases h1 : Nat.ble h m with
    | false => simp only [cond_false]; exact insK_eq h b r _
    | true =>
      cases h2 : Nat.beq h m with
      | false => simp only [cond_true, cond_false]
      | true => simp only [cond_true]
noncomputable def applyK {R : Type} (u : Ups) : Hp → (Hp → R) → R :=
  List.rec (motive := fun _ => Hp → (Hp → R) → R) (fun H k => k H) (fun p _ ih H k => insK p.1 p.2 H fun H' => ih H' k) u
theorem applyK_eq {R : Type} : ∀ (u : Ups) (H : Hp) (k : Hp → R), applyK u H k = k (applyU u H)
  | [], H, k => rfl
  | (h, b) :: r, H, k => by
    show insK h b H (fun H' => applyK r H' k) = _
    rw [insK_eq, applyK_eq r]
    rfl
/-- a number, strictly -/
noncomputable def natK {R : Type} (n : Nat) (k : Nat → R) : R := Nat.rec (motive := fun _ => R) (k 0) (fun m _ => k (Nat.succ m)) n
theorem natK_eq {R : Type} (n : Nat) (k : Nat → R) : natK n k = k n := by cases n <;> rfl

structure StQ where
  t : Fr
  H : Hp
  nm : Nat
def StQ.to (s : StQ) : St := ⟨s.t.toL, s.H, s.nm⟩
def StQ.Ok (s : StQ) : Prop := ∃ hi, Fr.Ok 0 hi s.t


section
variable {P : Program} {orc : Orc}
noncomputable def opQ (t : Fr) (o : Operand) : AV :=
  Operand.rec (motive := fun _ => Fr → AV) (fun i t => t.get i) (fun v _ => absA v) (fun g _ => gOp g) (fun f _ => .c (.d (.v (.func (.func f) #[] #[])))) o t
theorem opQ_eq {t : Fr} {hi : Nat} (h : Fr.Ok 0 hi t) : opQ t = opA t.toL := by
  funext o
  cases o with
  | tmp i => exact (Fr.get_eq h (Nat.zero_le _)).trans (by simp only [opA, Nat.sub_zero])
  | _ => rfl
noncomputable def putQ {R : Type} (dst : Option Nat) : AV → Fr → (Fr → R) → R := Option.rec (motive := fun _ => AV → Fr → (Fr → R) → R) (fun _ t k => k t) (fun d x t k => Fr.setK d x t k) dst
noncomputable def guard2 {R : Type} (ops : Array Oper) (j : Nat) (want : Bool) (t : Fr) (yes no : Fr → Option (T R)) : Option (T R) :=
  match (ops[j]?).bind (·.dst) with
    | none => no t
    | some d => match t.get d with
      | .c (.d (.v (.bool b))) => bif b then (bif want then Fr.setK d (.c (.d (.v (.bool true)))) t yes else Fr.setK d (.c (.d (.v (.bool true)))) t no)
          else (bif want then Fr.setK d (.c (.d (.v (.bool false)))) t no else Fr.setK d (.c (.d (.v (.bool false)))) t yes)
      | .tup [] => no t
      | _ => none
noncomputable def guardQ {R : Type} (g : Option (Nat × Bool)) : Array Oper → Fr → (Fr → Option (T R)) → (Fr → Option (T R)) → Option (T R) :=
  Option.rec (motive := fun _ => Array Oper → Fr → (Fr → Option (T R)) → (Fr → Option (T R)) → Option (T R)) (fun _ t yes _ => yes t) (fun p ops t yes no => guard2 ops p.1 p.2 t yes no) g

theorem putQ_eq (dst : Option Nat) (x : AV) {t : Fr} {hi : Nat} (h : Fr.Ok 0 hi t) : ∃ t', Fr.Ok 0 hi t' ∧ t'.toL = put t.toL dst x ∧ ∀ (R : Type) (k : Fr → R), putQ dst x t k = k t' := by
  cases dst with
  | none => exact ⟨t, h, rfl, fun R k => rfl⟩
  | some d =>
    obtain ⟨t', o, e, k⟩ := Fr.setK_eq x h (Nat.zero_le d)
    exact ⟨t', o, e, k⟩
theorem guardQ_eq {R : Type} (ops : Array Oper) {t : Fr} {hi : Nat} (h : Fr.Ok 0 hi t) (o : Oper) (yes no : Fr → Option (T R)) (yes' no' : List AV → Option (T R))
    (hy : ∀ t, Fr.Ok 0 hi t → yes t = yes' t.toL) (hn : ∀ t, Fr.Ok 0 hi t → no t = no' t.toL) : guardQ o.guard ops t yes no = guardK ops t.toL o yes' no' := by
  unfold guardK
  cases o.guard with
  | none => exact hy t h
  | some p =>
    obtain ⟨j, want⟩ := p
    show guard2 ops j want t yes no = _
    unfold guard2
    simp only
    cases (ops[j]?).bind (·.dst) with
    | none => exact hn t h
    | some d =>
      have e := Fr.get_eq h (Nat.zero_le d)
      rw [Nat.sub_zero] at e
      simp only
      rw [e]
      obtain ⟨t1, o1, e1, k1⟩ := Fr.setK_eq (.c (.d (.v (.bool true)))) h (Nat.zero_le d)
      obtain ⟨t2, o2, e2, k2⟩ := Fr.setK_eq (.c (.d (.v (.bool false)))) h (Nat.zero_le d)
      rw [Nat.sub_zero] at e1 e2
      simp only [k1, k2, hy _ o1, hn _ o1, hy _ o2, hn _ o2, e1, e2, hn t h]
      rfl

/-! operations, each kind apart, closed -/
def leS (a b : IntKind) : Bool := decide (a = b)

noncomputable def intQ (op : BinOp) : IntKind → Int → Int → Option (Bool × Do) := BinOp.rec (motive := fun _ => IntKind → Int → Int → Option (Bool × Do))
  (fun k a b => some (true, .val (.c (.d (.v (.int k (k.wrap (a + b))))))))
  (fun k a b => some (true, .val (.c (.d (.v (.int k (k.wrap (a - b))))))))
  (fun k a b => some (true, .val (.c (.d (.v (.int k (k.wrap (a * b))))))))
  (fun _ _ _ => none) (fun _ _ _ => none) (fun _ _ _ => none) (fun _ _ _ => none) (fun _ _ _ => none) (fun _ _ _ => none) (fun _ _ _ => none) (fun _ _ _ => none)
  (fun _ a b => some (true, .val (.c (.d (.v (.bool (a == b)))))))
  (fun _ a b => some (true, .val (.c (.d (.v (.bool (a != b)))))))
  (fun _ a b => some (true, .val (.c (.d (.v (.bool (decide (a < b))))))))
  (fun _ a b => some (true, .val (.c (.d (.v (.bool (decide (a ≤ b))))))))
  (fun _ a b => some (true, .val (.c (.d (.v (.bool (decide (a > b))))))))
  (fun _ a b => some (true, .val (.c (.d (.v (.bool (decide (a ≥ b)))))))) op
def isFastOp : BinOp → Bool
  | .add | .sub | .mul | .eql | .neq | .lss | .leq | .gtr | .geq => true
  | _ => false
noncomputable def binInt (p q : AV) (op : BinOp) (slow : Option (Bool × Do)) : Option (Bool × Do) := match p, q with
  | .c (.d (.v (.int k a))), .c (.d (.v (.int k' b))) => bif isFastOp op && leS k k' then intQ op k a b else slow
  | _, _ => slow
noncomputable def qBinOp (P : Program) (ρ : Operand → AV) (op : BinOp) (t : TypeId) (x y : Operand) : Option (Bool × Do) := binInt (ρ x) (ρ y) op (rBinOp P ρ op t x y)

theorem pr_int (op : BinOp) (hf : isFastOp op = true) (t : TypeId) (x y : Operand) (k : IntKind) (a b : Int) : (match pr P (do eqGuard op t x y (.int k a) (.int k b); binOp op t (.int k a) (.int k b)) with | some r => val1 r | none => none) = intQ op k a b := by
  cases op <;> first | (cases hf; done) | (cases k <;> rfl)
theorem div_fast {op : BinOp} (hf : isFastOp op = true) (a b : Value) (s : Option (Bool × Do)) : divOr op a b s = s := by
  cases op <;> first | (cases hf; done) | rfl
theorem qBinOp_eq (ρ : Operand → AV) (op : BinOp) (t : TypeId) (x y : Operand) : qBinOp P ρ op t x y = rBinOp P ρ op t x y := by
  unfold qBinOp binInt
  split
  · rename_i k a k' b hx hy
    cases hc : (isFastOp op && leS k k') with
    | false => rfl
    | true =>
      simp only [Bool.and_eq_true] at hc
      have hk : k = k' := of_decide_eq_true hc.2
      subst hk
      simp only [cond_true]
      unfold rBinOp
      rw [hx, hy]
      exact (pr_int op hc.1 t x y k a b).symm.trans (div_fast hc.1 _ _ _).symm
  · rfl
noncomputable def resQ (o : Op) : Program → (Operand → AV) → Option (Bool × Do) :=
  Op.rec (motive := fun _ => Program → (Operand → AV) → Option (Bool × Do))
    (fun x _ ρ => some (true, .val (ρ x)))
    (fun x _ ρ => some (true, .val (ρ x)))
    (fun c a b P ρ => rPick P ρ c a b)
    (fun e P ρ => rAlloc P ρ e)
    (fun e x P ρ => rBox P ρ e x)
    (fun t parts P ρ => rBuild P ρ t parts)
    (fun t len parts P ρ => rBuildSlice P ρ t len parts)
    (fun t m k v P ρ => rMapUpdate P ρ t m k v)
    (fun t a P ρ => rLoad P ρ t a)
    (fun t a x P ρ => rStore P ρ t a x)
    (fun _ _ _ => none)
    (fun _ _ _ => none)
    (fun x P ρ => rNilCheck P ρ x)
    (fun op t x y _ P ρ => qBinOp P ρ op t x y)
    (fun op _ x P ρ => rUnOp P ρ op x)
    (fun s t x P ρ => rConvert P ρ s t x)
    (fun _ _ _ _ => none)
    (fun _ _ _ _ => none)
    (fun fn first captured P ρ => rMakeFunc P ρ fn first captured)
    (fun t r P ρ => rMakeMap P ρ t r)
    (fun _ _ _ _ => none)
    (fun _ _ _ _ _ => none)
    (fun t x lo hi mx P ρ => rSlice P ρ t x lo hi mx)
    (fun s x f P ρ => rFieldAddr P ρ s x f)
    (fun t x f P ρ => rField P ρ t x f)
    (fun t x i P ρ => rIndexAddr P ρ t x i)
    (fun t x i P ρ => rIndex P ρ t x i)
    (fun t x i ok P ρ => rLookup P ρ t x i ok)
    (fun t m k v P ρ => rMapUpdate P ρ t m k v)
    (fun _ _ _ _ _ => none)
    (fun _ _ _ _ _ _ => none)
    (fun t x P ρ => rRange P ρ t x)
    (fun it str P ρ => rNext P ρ it str)
    (fun _ _ _ => none)
    (fun _ _ _ _ _ _ => none)
    (fun x i P ρ => rExtract P ρ x i)
    (fun c P ρ => rCall P ρ c)
    (fun _ _ _ => none)
    (fun _ _ _ => none)
    (fun _ _ _ => none)
    (fun _ _ _ _ => none)
    (fun _ _ _ _ _ => none)
    (fun _ _ _ _ => none) o

theorem resQ_eq (o : Oper) (ρ : Operand → AV) : resQ o.op P ρ = resF P o ρ := by
  obtain ⟨dst, op, ty, pos, after, guard⟩ := o
  cases op with
  | binOp op t x y u => exact qBinOp_eq ρ op t x y
  | _ => rfl

noncomputable def lookQ (k : Nat) (H : Hp) : Option Blk := List.rec (motive := fun _ => Option Blk) none (fun p _ ih => Bool.rec (motive := fun _ => Option Blk) ih (some p.2) (Nat.beq k p.1)) H
noncomputable def getQ {α : Type} (l : List α) : Nat → Option α := List.rec (motive := fun _ => Nat → Option α) (fun _ => none) (fun x _ ih n => Nat.rec (motive := fun _ => Option α) (some x) (fun m _ => ih m) n) l
theorem lookQ_eq (k : Nat) : ∀ H : Hp, lookQ k H = look H k
  | [] => rfl
  | (h, b) :: r => by
    show Bool.rec (motive := fun _ => Option Blk) (lookQ k r) (some b) (Nat.beq k h) = _
    rw [lookQ_eq k r]
    simp only [look]
    cases Nat.beq k h <;> rfl
theorem getQ_eq {α : Type} : ∀ (l : List α) (n : Nat), getQ l n = l[n]?
  | [], n => by simp [getQ]
  | x :: r, 0 => by simp; rfl
  | x :: r, n + 1 => by
    show getQ r n = _
    rw [getQ_eq r n]; simp
/-- a load -/
noncomputable def cellQ (cs : List C) (off n : Nat) (ag : Bool) : Option AV :=
  Bool.rec (motive := fun _ => Option AV) none (Bool.rec (motive := fun _ => Option AV) (Option.rec (motive := fun _ => Option AV) none (fun c => some (.c c)) (getQ cs off)) (some (.agg ((cs.drop off).take n))) ag) (Nat.ble (off + n) cs.length)
theorem cellQ_eq (cs : List C) (off n : Nat) (ag : Bool) : cellQ cs off n ag = loadL cs off n ag := by
  unfold cellQ loadL
  rw [bleD, getQ_eq]
  by_cases h : off + n ≤ cs.length
  · rw [decide_eq_true h, if_pos h]
    cases ag with
    | true => rfl
    | false =>
      simp only [Bool.false_eq_true, if_false]
      cases cs[off]? <;> rfl
  · rw [decide_eq_false h, if_neg h]
noncomputable def loadQ (b : Option Blk) : Nat → Nat → Nat → Nat → Bool → Option AV :=
  Option.rec (motive := fun _ => Nat → Nat → Nat → Nat → Bool → Option AV) (fun _ _ _ _ _ => none)
    (fun b => Blk.rec (motive := fun _ => Nat → Nat → Nat → Nat → Bool → Option AV) (fun cs _ sz i off n ag => cellQ cs (i * sz + off) n ag)
      (fun _ f sz' _ sz i off n ag => bif Nat.beq sz sz' then loadL ((f i).map .d) off n ag else none) (fun _ _ _ _ _ _ _ => none) (fun _ _ _ _ _ _ _ => none) (fun _ _ _ _ _ => none) b) b
theorem loadQ_eq (H : Hp) (h sz i off n : Nat) (ag : Bool) : loadQ (lookQ h H) sz i off n ag = loadA H h sz i off n ag := by
  rw [lookQ_eq]
  unfold loadA
  cases look H h with
  | none => rfl
  | some b =>
    cases b with
    | cells cs t => exact cellQ_eq cs (i * sz + off) n ag
    | _ => rfl
noncomputable def loadR {R : Type} (x : Option AV) : Nat → (AV → Foot → Ups → Option (T R)) → Option (T R) :=
  Option.rec (motive := fun _ => Nat → (AV → Foot → Ups → Option (T R)) → Option (T R)) (fun _ _ => none) (fun x h k => k x ⟨[h], []⟩ []) x
/-- a store -/
noncomputable def storeR {R : Type} (x : Option (Ups × List Nat)) : (AV → Foot → Ups → Option (T R)) → Option (T R) :=
  Option.rec (motive := fun _ => (AV → Foot → Ups → Option (T R)) → Option (T R)) (fun _ => none) (fun p k => k (.tup []) ⟨p.2, p.1.map (·.1)⟩ p.1) x
noncomputable def splQ {α : Type} (cs : List α) : Nat → List α → List α :=
  List.rec (motive := fun _ => Nat → List α → List α) (fun _ new => new) (fun c r ih off new => Nat.rec (motive := fun _ => List α) (new ++ (c :: r).drop new.length) (fun m _ => c :: ih m new) off) cs
theorem splQ_eq {α : Type} : ∀ (cs : List α) (off : Nat) (new : List α), off ≤ cs.length → splQ cs off new = splice cs off new
  | [], off, new, h => by
    obtain rfl : off = 0 := by simpa using h
    simp [splQ, splice]
  | c :: r, 0, new, h => by
    show new ++ (c :: r).drop new.length = _
    simp [splice]
  | c :: r, off + 1, new, h => by
    show c :: splQ r off new = _
    rw [splQ_eq r off new (by simpa using h)]
    simp [splice, Nat.add_right_comm]
noncomputable def storeQ (b : Option Blk) : Hp → Nat → Nat → Nat → Nat → List C → Option (Ups × List Nat) :=
  Option.rec (motive := fun _ => Hp → Nat → Nat → Nat → Nat → List C → Option (Ups × List Nat)) (fun _ _ _ _ _ _ => none)
    (fun b => Blk.rec (motive := fun _ => Hp → Nat → Nat → Nat → Nat → List C → Option (Ups × List Nat))
      (fun ds t _ h sz i off cs => bif Nat.ble (i * sz + off + cs.length) ds.length then some ([(h, .cells (splQ ds (i * sz + off) cs) t)], [h]) else none)
      (fun _ _ _ _ H h sz i off cs => storeA H h sz i off cs) (fun _ _ H h sz i off cs => storeA H h sz i off cs) (fun _ _ H h sz i off cs => storeA H h sz i off cs) (fun H h sz i off cs => storeA H h sz i off cs) b) b
theorem storeQ_eq (H : Hp) (h sz i off : Nat) (cs : List C) : storeQ (lookQ h H) H h sz i off cs = storeA H h sz i off cs := by
  rw [lookQ_eq]
  cases hl : look H h with
  | none => unfold storeA; rw [hl]; rfl
  | some b =>
    cases b with
    | cells ds t =>
      show (bif Nat.ble (i * sz + off + cs.length) ds.length then some ([(h, Blk.cells (splQ ds (i * sz + off) cs) t)], [h]) else none) = _
      unfold storeA
      rw [hl]
      simp only
      rw [bleD]
      by_cases hb : i * sz + off + cs.length ≤ ds.length
      · rw [decide_eq_true hb, splQ_eq ds _ cs (by omega)]
      · rw [decide_eq_false hb]; rfl
    | _ => rfl
noncomputable def perfQ {R : Type} (a : Do) : Orc → Nat → Hp → (AV → Foot → Ups → Option (T R)) → Option (T R) :=
  Do.rec (motive := fun _ => Orc → Nat → Hp → (AV → Foot → Ups → Option (T R)) → Option (T R))
    (fun x _ _ _ k => k x ⟨[], []⟩ [])
    (fun h sz i off n ag _ _ H k => loadR (loadQ (lookQ h H) sz i off n ag) h k)
    (fun h sz i off cs _ _ H k => storeR (storeQ (lookQ h H) H h sz i off cs) k)
    (fun b mk _ h0 _ k => k (mk h0) ⟨[], [h0]⟩ [(h0, b)])
    (fun d s e sz orc h0 H k => perfK orc h0 (.append d s e sz) H k)
    (fun h orc h0 H k => perfK orc h0 (.next h) H k)
    (fun h kd key ok z orc h0 H k => perfK orc h0 (.look h kd key ok z) H k)
    (fun h kd key v orc h0 H k => perfK orc h0 (.upd h kd key v) H k)
    (fun h x orc h0 H k => perfK orc h0 (.chk h x) H k)
    (fun h off u orc h0 H k => perfK orc h0 (.conv h off u) H k)
    (fun h n e orc h0 H k => perfK orc h0 (.ustr h n e) H k)
    (fun h n orc h0 H k => perfK orc h0 (.cstr h n) H k)
    (fun h n s orc h0 H k => perfK orc h0 (.slarr h n s) H k)
    (fun f args orc h0 H k => perfK orc h0 (.call f args) H k) a
theorem perfQ_eq {R : Type} (a : Do) (h0 : Nat) (H : Hp) (k : AV → Foot → Ups → Option (T R)) : perfQ a orc h0 H k = perfK orc h0 a H k := by
  cases a with
  | load h sz i off n ag =>
    show loadR (loadQ (lookQ h H) sz i off n ag) h k = _
    rw [loadQ_eq]
    simp only [perfK, perfA]
    cases loadA H h sz i off n ag <;> rfl
  | store h sz i off cs =>
    show storeR (storeQ (lookQ h H) H h sz i off cs) k = _
    rw [storeQ_eq]
    simp only [perfK, perfA]
    cases storeA H h sz i off cs <;> rfl
  | _ => rfl

noncomputable def okQ {R : Type} (r : Option (Bool × Do)) : (Do → Option (T R)) → Option (T R) :=
  Option.rec (motive := fun _ => (Do → Option (T R)) → Option (T R)) (fun _ => none) (fun p k => Bool.rec (motive := fun _ => Option (T R)) none (k p.2) p.1) r
noncomputable def opsQ {R : Type} (P : Program) (orc : Orc) (ops : Array Oper) (draw : Bool) (nm : Nat) (l : List Oper) : Nat → List (Nat × Foot) → Fr → Hp → (List (Nat × Foot) → Fr → Hp → Option (T R)) → Option (T R) :=
  List.rec (motive := fun _ => Nat → List (Nat × Foot) → Fr → Hp → (List (Nat × Foot) → Fr → Hp → Option (T R)) → Option (T R)) (fun _ tr t H k => k tr t H)
    (fun o _ ih i tr t H k => guardQ o.guard ops t
      (fun t => okQ (resQ o.op P (opQ t)) fun a => perfQ a orc (nm + 16 * i) H (fun x ft u => putQ o.dst x t fun t' => applyK u H fun H' => ih (i + 1) (Bool.rec (motive := fun _ => List (Nat × Foot)) tr (tr ++ [(i, ft)]) draw) t' H' k))
      (fun t => putQ o.dst (.tup []) t fun t' => ih (i + 1) (Bool.rec (motive := fun _ => List (Nat × Foot)) tr (tr ++ [(i, ⟨[], []⟩)]) draw) t' H k)) l


theorem perfK_congr {R : Type} {orc : Orc} (h0 : Nat) (a : Do) (H : Hp) (k k' : AV → Foot → Ups → Option (T R)) (h : ∀ x ft u, k x ft u = k' x ft u) : perfK orc h0 a H k = perfK orc h0 a H k' := by
  have : k = k' := by funext x ft u; exact h x ft u
  rw [this]

theorem opsQ_eq {R : Type} (ops : Array Oper) (draw : Bool) (nm : Nat) : ∀ (l : List Oper) (i : Nat), l = ops.toList.drop i → ∀ (tr tr' : List (Nat × Foot)) (t : Fr) (hi : Nat) (H : Hp) (kq : List (Nat × Foot) → Fr → Hp → Option (T R)) (k : List (Nat × Foot) → St → Option (T R)),
    Fr.Ok 0 hi t → tr'.map (·.1) = List.range i → (draw = true → tr = tr') → (∀ tr tr' t H, Fr.Ok 0 hi t → tr'.map (·.1) = List.range (i + l.length) → (draw = true → tr = tr') → kq tr t H = k tr' ⟨t.toL, H, nm⟩) →
    opsQ P orc ops draw nm l i tr t H kq = opsK P orc ops (List.range' i l.length) tr' ⟨t.toL, H, nm⟩ k
  | [], i, hl, tr, tr', t, hi, H, kq, k, ho, hm, htr, hk => by
    show kq tr t H = _
    simp only [List.length_nil, List.range'_zero, opsK]
    exact hk tr tr' t H ho (by simpa using hm) htr
  | o :: r, i, hl, tr, tr', t, hi, H, kq, k, ho, hm, htr, hk => by
    have hget : ops[i]? = some o := by
      have : ops.toList[i]? = some o := by
        have := congrArg (fun x => x[0]?) hl
        simpa using this.symm
      simpa using this
    have hr : r = ops.toList.drop (i + 1) := by
      have := congrArg (List.drop 1) hl
      simpa [List.drop_drop, Nat.add_comm] using this
    have go : ∀ (tr tr' : List (Nat × Foot)) (t : Fr) (H : Hp), Fr.Ok 0 hi t → tr'.map (·.1) = List.range (i + 1) → (draw = true → tr = tr') → opsQ P orc ops draw nm r (i + 1) tr t H kq = opsK P orc ops (List.range' (i + 1) r.length) tr' ⟨t.toL, H, nm⟩ k :=
      fun tr tr' t H ho hm htr => opsQ_eq ops draw nm r (i + 1) hr tr tr' t hi H kq k ho hm htr (fun a b c d e f g => hk a b c d e (by rw [f]; congr 1; simp; omega) g)
    show guardQ o.guard ops t
      (fun t => okQ (resQ o.op P (opQ t)) fun a => perfQ a orc (nm + 16 * i) H (fun x ft u => putQ o.dst x t fun t' => applyK u H fun H' => opsQ P orc ops draw nm r (i + 1) (Bool.rec (motive := fun _ => List (Nat × Foot)) tr (tr ++ [(i, ft)]) draw) t' H' kq))
      (fun t => putQ o.dst (.tup []) t fun t' => opsQ P orc ops draw nm r (i + 1) (Bool.rec (motive := fun _ => List (Nat × Foot)) tr (tr ++ [(i, ⟨[], []⟩)]) draw) t' H kq) = _
    simp only [List.length_cons, List.range'_succ, opsK, stepK, hget, guardF_eq, opF_eq, putF_eq]
    have htr2 : ∀ ft : Foot, draw = true → (Bool.rec (motive := fun _ => List (Nat × Foot)) tr (tr ++ [(i, ft)]) draw) = tr' ++ [(i, ft)] := fun ft hd => by rw [hd, htr hd]
    have hm2 : ∀ ft : Foot, (tr' ++ [(i, ft)]).map (·.1) = List.range (i + 1) := fun ft => by rw [List.map_append, hm, List.range_succ]; rfl
    refine guardQ_eq ops ho o _ _ _ _ (fun t1 o1 => ?_) (fun t1 o1 => ?_)
    · rw [opQ_eq o1, resQ_eq]
      cases resF P o (opA t1.toL) with
      | none => rfl
      | some p =>
        obtain ⟨ok, a⟩ := p
        cases ok with
        | false => rfl
        | true =>
          simp only [cond_true]
          show perfQ a orc (nm + 16 * i) H _ = _
          rw [perfQ_eq]
          refine perfK_congr _ _ _ _ _ fun x ft u => ?_
          obtain ⟨t2, o2, e2, k2⟩ := putQ_eq o.dst x o1
          rw [k2, applyK_eq, go _ (tr' ++ [(i, ft)]) _ _ o2 (hm2 ft) (htr2 ft), e2]
    · obtain ⟨t2, o2, e2, k2⟩ := putQ_eq o.dst (.tup []) o1
      rw [k2, go _ (tr' ++ [(i, ⟨[], []⟩)]) _ _ o2 (hm2 _) (htr2 _), e2]

/-! the order that is left open: pairs that no edge orders, of a region once -/
def unP (ops : Array Oper) : List (Nat × Nat) := (List.range ops.size).flatMap fun j => ((List.range j).filter fun i => !((masks ops.toList []).getD j 0).testBit i).map fun i => (i, j)
def statQ (ops : Array Oper) : Bool := (unP ops).all (fun p => match ops[p.1]?, ops[p.2]? with | some o, some q => o.apart ops q | _, _ => false) && edgesDown ops
noncomputable def footQ (tr : List (Nat × Foot)) (i : Nat) : Foot := Option.rec (motive := fun _ => Foot) ⟨[], []⟩ (fun p => p.2) (getQ tr i)
noncomputable def pairsQ (l : List (Nat × Nat)) : List (Nat × Foot) → Bool :=
  List.rec (motive := fun _ => List (Nat × Foot) → Bool) (fun _ => true) (fun p _ ih tr => Bool.rec (motive := fun _ => Bool) false (ih tr) (indepF (footQ tr p.1) (footQ tr p.2))) l
noncomputable def quickQ (ops : Array Oper) (tr : List (Nat × Foot)) : Bool := statQ ops && pairsQ (unP ops) tr
theorem pairsQ_mem : ∀ (l : List (Nat × Nat)) (tr : List (Nat × Foot)), pairsQ l tr = true → ∀ p ∈ l, indepF (footQ tr p.1) (footQ tr p.2) = true
  | [], _, _, p, hp => by simp at hp
  | q :: r, tr, h, p, hp => by
    have h' : Bool.rec (motive := fun _ => Bool) false (pairsQ r tr) (indepF (footQ tr q.1) (footQ tr q.2)) = true := h
    cases hi : indepF (footQ tr q.1) (footQ tr q.2) with
    | false => rw [hi] at h'; cases h'
    | true =>
      rw [hi] at h'
      rcases List.mem_cons.1 hp with rfl | hp
      · exact hi
      · exact pairsQ_mem r tr h' p hp
theorem footQ_eq {tr : List (Nat × Foot)} {n i : Nat} (hm : tr.map (·.1) = List.range n) {x : Nat × Foot} (hx : tr[i]? = some x) : x.1 = i ∧ footQ tr i = x.2 := by
  constructor
  · have h1 : (tr.map (·.1))[i]? = some x.1 := by rw [List.getElem?_map, hx]; rfl
    rw [hm] at h1
    have := List.getElem?_eq_some_iff.1 h1
    obtain ⟨hlt, e⟩ := this
    simpa using e.symm
  · unfold footQ
    rw [getQ_eq, hx]
theorem commutes_all (ops : Array Oper) (ms : List Nat) : ∀ (tr : List (Nat × Foot)), (∀ (i j : Nat) (x y : Nat × Foot), i < j → tr[i]? = some x → tr[j]? = some y → ((ms.getD y.1 0).testBit x.1 || indep ops x y) = true) → commutes ops ms tr = true
  | [], _ => rfl
  | x :: r, h => by
    simp only [commutes, Bool.and_eq_true]
    refine ⟨?_, commutes_all ops ms r fun i j a b hij ha hb => h (i + 1) (j + 1) a b (by omega) (by simpa using ha) (by simpa using hb)⟩
    rw [List.all_eq_true]
    intro y hy
    obtain ⟨j, hj, e⟩ := List.getElem_of_mem hy
    exact h 0 (j + 1) x y (by omega) (by simp) (by simp [List.getElem?_eq_getElem hj, e])
theorem quickQ_ok (ops : Array Oper) (tr : List (Nat × Foot)) (hm : tr.map (·.1) = List.range ops.size) (h : quickQ ops tr = true) : commutes ops (masks ops.toList []) tr = true ∧ edgesDown ops = true := by
  unfold quickQ statQ at h
  simp only [Bool.and_eq_true] at h
  obtain ⟨⟨h1, h2⟩, h3⟩ := h
  refine ⟨commutes_all ops _ tr fun i j x y hij hx hy => ?_, h2⟩
  obtain ⟨ex, fx⟩ := footQ_eq hm hx
  obtain ⟨ey, fy⟩ := footQ_eq hm hy
  cases ht : ((masks ops.toList []).getD y.1 0).testBit x.1 with
  | true => rfl
  | false =>
    have hjn : j < ops.size := by
      have := congrArg List.length hm
      simp at this
      have := (List.getElem?_eq_some_iff.1 hy).1
      omega
    have hmem : (i, j) ∈ unP ops := by
      unfold unP
      rw [List.mem_flatMap]
      refine ⟨j, by simpa using hjn, ?_⟩
      rw [List.mem_map]
      exact ⟨i, by rw [List.mem_filter]; exact ⟨by simpa using hij, by rw [ex, ey] at ht; rw [ht]; rfl⟩, rfl⟩
    have g1 := List.all_eq_true.1 h1 _ hmem
    have g2 := pairsQ_mem _ _ h3 _ hmem
    simp only [fx, fy] at g2
    simp only [Bool.false_or]
    unfold indep
    rw [ex, ey]
    simp only at g1
    cases ho : ops[i]? with
    | none => rw [ho] at g1; simp at g1
    | some o =>
      cases hp : ops[j]? with
      | none => rw [ho, hp] at g1; simp at g1
      | some q =>
        rw [ho, hp] at g1
        simp only [g1, g2, Bool.and_self]

/-- a state as it was, with its frame as a tree -/
noncomputable def ofStK {R : Type} (s : St) (k : StQ → R) : R := Fr.ofK s.F fun t => k ⟨t, s.H, s.nm⟩
theorem ofStK_eq (s : St) : ∃ q : StQ, q.Ok ∧ q.to = s ∧ ∀ (R : Type) (k : StQ → R), ofStK s k = k q := by
  obtain ⟨t, o, e, h⟩ := Fr.ofK_eq s.F
  exact ⟨⟨t, s.H, s.nm⟩, ⟨_, o⟩, by simp [StQ.to, e], fun R k => h R _⟩

noncomputable def chkQ (P : Program) (ops : Array Oper) (tr : List (Nat × Foot)) : Bool := (quickQ ops tr && P.follows .mixedOrders) || (commutes ops (masks ops.toList []) tr && edgesDown ops && P.follows .mixedOrders)
noncomputable def drawQ {R : Type} (draw : Bool) : Program → Array Oper → List (Nat × Foot) → Option (T R) → Option (T R) :=
  Bool.rec (motive := fun _ => Program → Array Oper → List (Nat × Foot) → Option (T R) → Option (T R)) (fun _ _ _ k => k) (fun P ops tr k => Bool.rec (motive := fun _ => Option (T R)) none k (chkQ P ops tr)) draw
theorem drawQ_eq {R : Type} (draw : Bool) (ops : Array Oper) (tr tr' : List (Nat × Foot)) (hm : tr'.map (·.1) = List.range ops.size) (htr : draw = true → tr = tr') (k : Option (T R)) :
    drawQ draw P ops tr k = bif !draw || (commutes ops (masks ops.toList []) tr' && edgesDown ops && P.follows .mixedOrders) then k else none := by
  cases draw with
  | false => rfl
  | true =>
    obtain rfl := htr rfl
    show Bool.rec (motive := fun _ => Option (T R)) none k (chkQ P ops tr) = _
    have : chkQ P ops tr = (commutes ops (masks ops.toList []) tr && edgesDown ops && P.follows .mixedOrders) := by
      unfold chkQ
      cases hq : quickQ ops tr with
      | false => simp
      | true =>
        obtain ⟨h1, h2⟩ := quickQ_ok ops tr hm hq
        rw [h1, h2]; simp
    rw [this]
    cases (commutes ops (masks ops.toList []) tr && edgesDown ops && P.follows .mixedOrders) <;> rfl
noncomputable def regionQ {R : Type} (P : Program) (orc : Orc) (ops : Array Oper) (draw : Bool) (s : StQ) (k : Out → StQ → Option (T R)) : Option (T R) :=
  bif draw && diamond ops then regionK P orc ops draw s.to fun o s' => ofStK s' fun q => k o q
  else opsQ P orc ops draw s.nm ops.toList 0 [] s.t s.H fun tr t H => drawQ draw P ops tr (natK (s.nm + 16 * ops.size) fun n => k .norm ⟨t, H, n⟩)

/-- two continuations that say the same -/
def KEq {R : Type} (kq : Out → StQ → Option (T R)) (k : Out → St → Option (T R)) : Prop := ∀ o (s : StQ), s.Ok → kq o s = k o s.to

theorem ofSt_keq {R : Type} {kq : Out → StQ → Option (T R)} {k : Out → St → Option (T R)} (h : KEq kq k) (o : Out) (s : St) : (ofStK s fun q => kq o q) = k o s := by
  obtain ⟨q, ho, e, hk⟩ := ofStK_eq s
  rw [hk, h o q ho, e]

theorem regionQ_eq {R : Type} (ops : Array Oper) (draw : Bool) (s : StQ) (hs : s.Ok) {kq : Out → StQ → Option (T R)} {k : Out → St → Option (T R)} (h : KEq kq k) : regionQ P orc ops draw s kq = regionK P orc ops draw s.to k := by
  unfold regionQ
  cases hd : (draw && diamond ops) with
  | true =>
    simp only [cond_true]
    have : (fun o s' => ofStK s' fun q => kq o q) = k := by funext o s'; exact ofSt_keq h o s'
    rw [this]
  | false =>
    simp only [cond_false]
    unfold regionK
    simp only [hd, cond_false]
    obtain ⟨hi, ho⟩ := hs
    have := opsQ_eq (P := P) (orc := orc) (R := R) ops draw s.nm ops.toList 0 (by simp) [] [] s.t hi s.H (fun tr t H => drawQ draw P ops tr (natK (s.nm + 16 * ops.size) fun n => kq .norm ⟨t, H, n⟩))
      (fun tr s' => bif !draw || (commutes ops (masks ops.toList []) tr && edgesDown ops && P.follows .mixedOrders) then k .norm ⟨s'.F, s'.H, s.nm + 16 * ops.size⟩ else none) ho rfl (fun _ => rfl) (fun tr tr' t H ho hm htr => by
        rw [drawQ_eq draw ops tr tr' (by simpa using hm) htr, natK_eq, h .norm ⟨t, H, _⟩ ⟨hi, ho⟩]
        rfl)
    rw [this]
    have e : List.range ops.size = List.range' 0 ops.toList.length := by rw [List.range_eq_range']; rfl
    rw [e]
    rfl

noncomputable def trimQ {R : Type} (k0 : Nat) (note : Option Note) (s : StQ) (k : StQ → Option (T R)) : Option (T R) := match note with
  | none => k s
  | some n => match trim k0 (some n) s.to with
    | none => none
    | some s0 => ofStK s0 k
theorem trimQ_eq {R : Type} (k0 : Nat) (note : Option Note) (s : StQ) (hs : s.Ok) {kq : StQ → Option (T R)} {k : St → Option (T R)} (h : ∀ s : StQ, s.Ok → kq s = k s.to) :
    trimQ k0 note s kq = match trim k0 note s.to with | none => none | some s0 => k s0 := by
  cases note with
  | none => exact h s hs
  | some n =>
    simp only [trimQ]
    cases trim k0 (some n) s.to with
    | none => rfl
    | some s0 =>
      obtain ⟨q, ho, e, hk⟩ := ofStK_eq s0
      simp only
      rw [hk, h q ho, e]

noncomputable def outK {R : Type} (o : Out) : (StQ → Option (T R)) → (Out → StQ → Option (T R)) → StQ → Option (T R) :=
  Out.rec (motive := fun _ => (StQ → Option (T R)) → (Out → StQ → Option (T R)) → StQ → Option (T R)) (fun g _ s => g s) (fun id _ k s => k (.exit id) s) (fun l _ k s => k (.goto l) s) (fun _ k s => k .ret s) o
noncomputable def blockK {R : Type} (o : Out) : Nat → (Out → StQ → Option (T R)) → StQ → Option (T R) :=
  Out.rec (motive := fun _ => Nat → (Out → StQ → Option (T R)) → StQ → Option (T R)) (fun _ k s => k .norm s) (fun j id k s => Bool.rec (motive := fun _ => Option (T R)) (k (.exit j) s) (k .norm s) (Nat.beq j id)) (fun l _ k s => k (.goto l) s) (fun _ k s => k .ret s) o
noncomputable def iterQ {R : Type} (k0 : Nat) (note : Option Note) (body : StQ → (Out → StQ → Option (T R)) → Option (T R)) (n : Nat) : StQ → (Out → StQ → Option (T R)) → Option (T R) :=
  Nat.rec (motive := fun _ => StQ → (Out → StQ → Option (T R)) → Option (T R)) (fun _ _ => none) (fun _ ih s k => body s fun o s' => outK o (fun s' => trimQ k0 note s' fun s0 => ih s0 k) k s') n
theorem iterQ_eq {R : Type} (k0 : Nat) (note : Option Note) {bq : StQ → (Out → StQ → Option (T R)) → Option (T R)} {b : St → (Out → St → Option (T R)) → Option (T R)}
    (hb : ∀ (s : StQ) kq k, s.Ok → KEq kq k → bq s kq = b s.to k) : ∀ (n : Nat) (s : StQ) kq k, s.Ok → KEq kq k → iterQ k0 note bq n s kq = iterK k0 note b n s.to k
  | 0, s, kq, k, _, _ => rfl
  | n + 1, s, kq, k, hs, hk => by
    show (bq s fun o s' => outK o (fun s' => trimQ k0 note s' fun s0 => iterQ k0 note bq n s0 kq) kq s') = _
    simp only [iterK]
    refine hb s _ _ hs fun o s' hs' => ?_
    cases o with
    | norm => exact trimQ_eq k0 note s' hs' (kq := fun s0 => iterQ k0 note bq n s0 kq) (k := fun s0 => iterK k0 note b n s0 k) fun s0 h0 => iterQ_eq k0 note hb n s0 kq k h0 hk
    | exit id => exact hk _ _ hs'
    | goto l => exact hk _ _ hs'
    | ret => exact hk _ _ hs'
noncomputable def scopeK {R : Type} (k0 n : Nat) (ann : Ann) (c : Code) (ev : Option Nat → StQ → (Out → StQ → Option (T R)) → Option (T R)) (l : Nat) (k : Out → StQ → Option (T R)) (s' : StQ) : Option (T R) :=
  match findLabel c l with
      | some rest => trimQ k0 ((firstR rest).bind ann) s' fun s0 => iterQ k0 ((firstR rest).bind ann) (fun s' k' => ev (some l) s' fun o s'' => match o with
            | .goto m => bif m == l then k' .norm s'' else none
            | .norm => k' (.goto l) s''
            | .exit id => k' (.exit id) s''
            | .ret => k' .ret s'') n s0 fun o s'' => match o with
              | .goto _ => k .norm s''
              | .norm => none
              | .exit id => k (.exit id) s''
              | .ret => k .ret s''
      | none => none
noncomputable def condQ {R : Type} (x : AV) (a b : Option (T R)) : Option (T R) := match x with
    | .c (.d (.v (.bool t))) => Bool.rec (motive := fun _ => Option (T R)) b a t
    | _ => none
noncomputable def noLab {R : Type} (lab : Option Nat) : Option (T R) → Option (T R) := Option.rec (motive := fun _ => Option (T R) → Option (T R)) (fun x => x) (fun _ _ => none) lab
noncomputable def seqQ {R : Type} (lab : Option Nat) : Code → (Option Nat → StQ → (Out → StQ → Option (T R)) → Option (T R)) → (Option Nat → StQ → (Out → StQ → Option (T R)) → Option (T R)) → StQ → (Out → StQ → Option (T R)) → Option (T R) :=
  Option.rec (motive := fun _ => Code → (Option Nat → StQ → (Out → StQ → Option (T R)) → Option (T R)) → (Option Nat → StQ → (Out → StQ → Option (T R)) → Option (T R)) → StQ → (Out → StQ → Option (T R)) → Option (T R))
    (fun _ ea eb s k => ea none s fun o s' => outK o (fun s' => eb none s' k) k s')
    (fun l a ea eb s k => bif hasLabel l a then ea (some l) s (fun o s' => outK o (fun s' => eb none s' k) k s') else eb (some l) s k) lab
noncomputable def gateQ {R : Type} (P : Program) (orc : Orc) (ann : Ann) (k0 n : Nat) (id : Nat) (ops : Array Oper) (draw : Bool) (s : StQ) (k : Out → StQ → Option (T R)) : Option (T R) := match ann (id + 100000) with
  | none => regionQ P orc ops draw s k
  | some nt => trimQ k0 (some nt) s fun s0 => iterQ k0 ((firstR (.region id ops draw)).bind ann) (fun s' k' => regionQ P orc ops draw s' fun o s'' => match o with
      | .norm => k' .ret s''
      | _ => none) n s0 fun o s'' => match o with
        | .ret => k .norm s''
        | _ => none
noncomputable def evQ {R : Type} (P : Program) (orc : Orc) (ann : Ann) (k0 n : Nat) (c : Code) : Option Nat → StQ → (Out → StQ → Option (T R)) → Option (T R) :=
  Code.rec (motive := fun _ => Option Nat → StQ → (Out → StQ → Option (T R)) → Option (T R))
    (fun lab s k => noLab lab (k .norm s))
    (fun id ops draw lab s k => noLab lab (gateQ P orc ann k0 n id ops draw s k))
    (fun a _ ea eb lab s k => seqQ lab a ea eb s k)
    (fun c _ _ ex ey lab s k => noLab lab (condQ (opQ s.t c) (ex none s k) (ey none s k)))
    (fun id _ ec lab s k => noLab lab (ec none s fun o s' => blockK o id k s'))
    (fun c ec lab s k => noLab lab (trimQ k0 ((firstR c).bind ann) s fun s0 => iterQ k0 ((firstR c).bind ann) (fun s' k' => ec none s' k') n s0 k))
    (fun _ _ _ _ _ _ _ _ _ => none)
    (fun id lab s k => noLab lab (k (.exit id) s))
    (fun c ec lab s k => noLab lab (ec none s fun o s' => match o with
      | .goto l => scopeK k0 n ann c ec l k s'
      | .norm => k .norm s'
      | .exit id => k (.exit id) s'
      | .ret => k .ret s'))
    (fun m lab s k => match lab with | none => k .norm s | some l => bif m == l then k .norm s else none)
    (fun l lab s k => noLab lab (k (.goto l) s))
    (fun lab s k => noLab lab (k .ret s))
    (fun _ _ _ _ => none) c

theorem condQ_eq {R : Type} (x : AV) (a b : Option (T R)) : condQ x a b = match x with | .c (.d (.v (.bool t))) => bif t then a else b | _ => none := by
  unfold condQ
  split
  · rename_i t
    cases t <;> rfl
  · rfl
theorem evQ_eq {R : Type} (ann : Ann) (k0 n : Nat) : ∀ (c : Code) (lab : Option Nat) (s : StQ) (kq : Out → StQ → Option (T R)) (k : Out → St → Option (T R)), s.Ok → KEq kq k → evQ P orc ann k0 n c lab s kq = evK P orc ann k0 n c lab s.to k := by
  intro c
  induction c with
  | skip =>
    intro lab s kq k hs hk
    cases lab with
    | none => simp only [evK]; exact hk _ _ hs
    | some l => simp only [evK]; rfl
  | region id ops draw =>
    intro lab s kq k hs hk
    cases lab with
    | none =>
      simp only [evK]
      show gateQ P orc ann k0 n id ops draw s kq = _
      unfold gateQ
      cases ann (id + 100000) with
      | none => exact regionQ_eq ops draw s hs hk
      | some nt =>
        simp only []
        refine trimQ_eq k0 (some nt) s hs fun s0 h0 => ?_
        refine iterQ_eq k0 _ (b := fun s' k' => regionK P orc ops draw s' (gateN fun s'' => k' .ret s'')) (fun s1 kq1 k1 h1 hk1 => regionQ_eq ops draw s1 h1 fun o s2 h2 => ?_) n s0 _ _ h0 fun o s2 h2 => ?_
        · cases o with
          | norm => exact hk1 _ _ h2
          | _ => rfl
        · cases o with
          | ret => exact hk _ _ h2
          | _ => rfl
    | some l => simp only [evK]; rfl
  | seq a b iha ihb =>
    intro lab s kq k hs hk
    have go : ∀ lab', (evQ P orc ann k0 n a lab' s fun o s' => outK o (fun s' => evQ P orc ann k0 n b none s' kq) kq s') = evK P orc ann k0 n a lab' s.to fun o s' => match o with
        | .norm => evK P orc ann k0 n b none s' k
        | .exit id => k (.exit id) s'
        | .goto l => k (.goto l) s'
        | .ret => k .ret s' := fun lab' => iha lab' s _ _ hs fun o s' hs' => by
          cases o with
          | norm => exact ihb none s' kq k hs' hk
          | exit id => exact hk _ _ hs'
          | goto l => exact hk _ _ hs'
          | ret => exact hk _ _ hs'
    cases lab with
    | none => simp only [evK]; exact go none
    | some l =>
      simp only [evK]
      show (bif hasLabel l a then (evQ P orc ann k0 n a (some l) s fun o s' => outK o (fun s' => evQ P orc ann k0 n b none s' kq) kq s') else evQ P orc ann k0 n b (some l) s kq) = _
      cases hasLabel l a with
      | true => simp only [cond_true]; exact go (some l)
      | false => simp only [cond_false]; exact ihb (some l) s kq k hs hk
  | cond c x y ihx ihy =>
    intro lab s kq k hs hk
    cases lab with
    | some l => simp only [evK]; rfl
    | none =>
      simp only [evK]
      show condQ (opQ s.t c) (evQ P orc ann k0 n x none s kq) (evQ P orc ann k0 n y none s kq) = _
      have hs1 := hs
      obtain ⟨hi, ho⟩ := hs
      rw [condQ_eq, opQ_eq ho, ihx none s kq k hs1 hk, ihy none s kq k hs1 hk]
      rfl
  | block id c ih =>
    intro lab s kq k hs hk
    cases lab with
    | some l => simp only [evK]; rfl
    | none =>
      simp only [evK]
      refine ih none s _ _ hs fun o s' hs' => ?_
      cases o with
      | norm => exact hk _ _ hs'
      | exit j =>
        show Bool.rec (motive := fun _ => Option (T R)) (kq (.exit j) s') (kq .norm s') (Nat.beq j id) = bif j == id then _ else _
        have e : (j == id) = Nat.beq j id := by rw [beqD]; exact Bool.beq_eq_decide_eq j id
        rw [e]
        cases Nat.beq j id with
        | true => exact hk _ _ hs'
        | false => exact hk _ _ hs'
      | goto l => exact hk _ _ hs'
      | ret => exact hk _ _ hs'
  | loop c ih =>
    intro lab s kq k hs hk
    cases lab with
    | some l => simp only [evK]; rfl
    | none =>
      simp only [evK]
      exact trimQ_eq k0 _ s hs (kq := fun s0 => iterQ k0 ((firstR c).bind ann) (fun s' k' => evQ P orc ann k0 n c none s' k') n s0 kq) (k := fun s0 => iterK k0 ((firstR c).bind ann) (fun s' k' => evK P orc ann k0 n c none s' k') n s0 k) fun s0 h0 => iterQ_eq k0 _ (fun s1 kq1 k1 h1 hk1 => ih none s1 kq1 k1 h1 hk1) n s0 kq k h0 hk
  | scope c ih =>
    intro lab s kq k hs hk
    cases lab with
    | some l => simp only [evK]; rfl
    | none =>
      simp only [evK]
      refine ih none s _ _ hs fun o s' hs' => ?_
      cases o with
      | norm => exact hk _ _ hs'
      | exit id => exact hk _ _ hs'
      | ret => exact hk _ _ hs'
      | goto l =>
        show scopeK k0 n ann c (evQ P orc ann k0 n c) l kq s' = _
        unfold scopeK
        simp only []
        cases findLabel c l with
        | none => rfl
        | some rest =>
          simp only []
          refine trimQ_eq k0 _ s' hs' fun s0 h0 => ?_
          refine iterQ_eq k0 _ (b := fun s' k' => evK P orc ann k0 n c (some l) s' fun o s'' => match o with
            | .goto m => bif m == l then k' .norm s'' else none
            | .norm => k' (.goto l) s''
            | .exit id => k' (.exit id) s''
            | .ret => k' .ret s'') (fun s1 kq1 k1 h1 hk1 => ih (some l) s1 _ _ h1 fun o s2 h2 => ?_) n s0 _ _ h0 fun o s2 h2 => ?_
          · cases o with
            | goto m => cases hj : (m == l) with
              | true => simp only [hj, cond_true]; exact hk1 _ _ h2
              | false => simp only [hj, cond_false]
            | norm => exact hk1 _ _ h2
            | exit id => exact hk1 _ _ h2
            | ret => exact hk1 _ _ h2
          · cases o with
            | goto m => exact hk _ _ h2
            | norm => rfl
            | exit id => exact hk _ _ h2
            | ret => exact hk _ _ h2
  | label m =>
    intro lab s kq k hs hk
    cases lab with
    | none => simp only [evK]; exact hk _ _ hs
    | some l =>
      simp only [evK]
      show (bif m == l then kq .norm s else none) = _
      cases hj : (m == l) with
      | true => simp only [cond_true]; exact hk _ _ hs
      | false => simp only [cond_false]
  | goto l => intro lab s kq k hs hk; cases lab with
    | none => simp only [evK]; exact hk _ _ hs
    | some l => simp only [evK]; rfl
  | exit l => intro lab s kq k hs hk; cases lab with
    | none => simp only [evK]; exact hk _ _ hs
    | some l => simp only [evK]; rfl
  | ret => intro lab s kq k hs hk; cases lab with
    | none => simp only [evK]; exact hk _ _ hs
    | some l => simp only [evK]; rfl
  | _ => intro lab s kq k hs hk; cases lab <;> (simp only [evK]; rfl)

noncomputable def resultsQ (P : Program) (fn : Func) (t : Fr) (H : Hp) : Option (List (Bool × List C)) :=
  fn.results.toList.foldr (fun r acc => match acc with
    | none => none
    | some l => match r with
      | .tmp i => (match t.get i with
        | .c x => some ((false, [x]) :: l)
        | .agg cs => some ((true, cs) :: l)
        | _ => none)
      | .cell a ty => (match t.get a, aggT P ty, sizeT P ty with
        | .c (.ptr h off), some ag, some n => (match loadA H h 0 0 off (bif ag then n else 1) ag with
          | some (.c x) => some ((false, [x]) :: l)
          | some (.agg cs) => some ((true, cs) :: l)
          | _ => none)
        | _, _, _ => none)) (some [])
theorem resultsQ_eq (fn : Func) (s : StQ) (hs : s.Ok) : resultsQ P fn s.t s.H = resultsA P fn s.to := by
  obtain ⟨hi, ho⟩ := hs
  have e : ∀ i, s.t.get i = s.to.F.getD i .u := fun i => by
    have := Fr.get_eq ho (Nat.zero_le i)
    rwa [Nat.sub_zero] at this
  unfold resultsQ resultsA
  simp only [e]
  rfl
noncomputable def endQ {R : Type} (P : Program) (fn : Func) (k0 : Nat) (k : AV → Hp → Option (T R)) : Out → StQ → Option (T R) := fun o s => match o with
  | .exit _ => none
  | .goto _ => none
  | _ => match resultsQ P fn s.t s.H with
    | some l => (match ofResults l with
      | some x => let L := newL k0 s.H (namesA x); k (renA (newN k0 L) x) (canonH k0 s.H L)
      | none => none)
    | none => none
theorem endQ_eq {R : Type} (fn : Func) (k0 : Nat) (k : AV → Hp → Option (T R)) : KEq (endQ P fn k0 k) (endK P fn k0 k) := fun o s hs => by
  unfold endQ endK
  rw [resultsQ_eq fn s hs]
  rfl
noncomputable def callQ {R : Type} (P : Program) (orc : Orc) (ann : Ann) (n : Nat) (fn : Func) (c : Code) (args : List AV) (H : Hp) (k : AV → Hp → Option (T R)) : Option (T R) :=
  Fr.putsK args 0 (Fr.base (args.length + (fn.ntmps - args.length)) 0 (args.length + (fn.ntmps - args.length))) fun t => evQ P orc ann H.length n c none ⟨t, H, H.length⟩ (endQ P fn H.length k)
theorem callQ_eq {R : Type} (ann : Ann) (n : Nat) (fn : Func) (c : Code) (args : List AV) (H : Hp) (k : AV → Hp → Option (T R)) : callQ P orc ann n fn c args H k = callK P orc ann n fn c args H k := by
  unfold callQ callK
  have hb := Fr.base_ok (args.length + (fn.ntmps - args.length)) 0 (args.length + (fn.ntmps - args.length)) (Nat.le_refl _)
  rw [Nat.zero_add] at hb
  obtain ⟨t, o, e, h⟩ := Fr.putsK_eq args hb.1 (i := 0) (by omega)
  rw [h, evQ_eq (P := P) (orc := orc) ann H.length n c none ⟨t, H, H.length⟩ _ _ ⟨_, o⟩ (endQ_eq fn H.length k)]
  congr 1
  unfold StQ.to
  rw [e, hb.2]
  simp
end

/-- the oracle that evaluates the callee and joins its ways -/
noncomputable def deepQ (P : Program) (ann : FuncId → Ann) (top : Orc) (fuel : Nat) : Nat → Orc
  | 0 => top
  | n + 1 => fun _ f args H k => match P.funcs[f]? with
    | some fn => (match fn.body with
      | some c => bif seqN 0 H then (match callQ P (deepQ P ann top fuel n) (ann f) fuel fn c args H (fun x H' => some (.leaf (x, H'))) with
        | some t => (match join 40 t with
          | some (x, H') => k x H'
          | none => none)
        | none => none) else none
      | none => top _ f args H k)
    | none => none
theorem deepQ_eq (P : Program) (ann : FuncId → Ann) (top : Orc) (fuel : Nat) : ∀ n, deepQ P ann top fuel n = deepJ P ann top fuel n
  | 0 => rfl
  | n + 1 => by
    funext R f args H k
    simp only [deepQ, deepJ, deepQ_eq P ann top fuel n, callQ_eq, callA]
    try rfl
theorem deepQ_ok (P : Program) (ann : FuncId → Ann) {top : Orc} (ht : OrcOk P top) (fuel n : Nat) : OrcOk P (deepQ P ann top fuel n) := by rw [deepQ_eq]; exact deepJ_ok P ann ht fuel n
theorem deepQ_det (P : Program) (ann : FuncId → Ann) {top : Orc} (ht : OrcDet top) (fuel n : Nat) : OrcDet (deepQ P ann top fuel n) := by rw [deepQ_eq]; exact deepJ_det P ann ht fuel n
/-- a call's contract, by one quick evaluation -/
theorem cxQ_of {P : Program} {orc : Orc} (ho : OrcOk P orc) {ann : Ann} {n : Nat} {f : FuncId} {fn : Func} {c : Code} {args : List AV} {H : Hp} {x : AV} {H' : Hp} (hf : P.funcs[f]? = some fn) (hb : fn.body = some c) (hH : seqN 0 H = true)
    (h : callQ P orc ann n fn c args H (fun x H' => some (.leaf (x, H'))) = some (.leaf (x, H'))) : CX P f args H x H' := cxA_of ho hf hb hH (by rw [callQ_eq] at h; exact h)
end Go.Eb
namespace Go.Eb
open Go.RowKit

/-- parts of a result, as data -/
def frzP (H : Hp) : List (Bool × List C) → Option (List (Bool × List D))
  | [] => some []
  | p :: r => match frzL H 400 p.2 with
    | some (ds, _) => match frzP H r with
      | some l => some ((p.1, ds) :: l)
      | none => none
    | none => none
def partD (p : Bool × List D) : Bool × List C := (p.1, p.2.map .d)
def frzA (H : Hp) : AV → Option AV
  | .c x => match frz H 400 x with
    | some (d, _) => some (.c (.d d))
    | none => none
  | .agg cs => match frzL H 400 cs with
    | some (ds, _) => some (.agg (ds.map .d))
    | none => none
  | .tup ps => match frzP H ps with
    | some l => some (.tup (l.map partD))
    | none => none
  | .u => some .u

section
variable {β : Bt} {w : World} {I : Im} {H : Hp}
/-- all blocks that have names -/
def allB (β : Bt) (I : Im) : Im := fun b o => I b o ∨ ∃ k, (β k).blk = some b

theorem repDs_cs {I' : Im} {β' : Bt} {ds : List D} {vs : List Value} (h : RepDs w I' ds vs) : RepCs β' w I' (ds.map .d) vs := by
  refine ⟨by simpa using h.1, fun i c v h1 h2 => ?_⟩
  rw [List.getElem?_map] at h1
  cases hd : ds[i]? with
  | none => rw [hd] at h1; cases h1
  | some d => rw [hd] at h1; cases h1; exact h.2 i d v hd h2

theorem frzP_ok (hr : RelH β H I w) {β' : Bt} : ∀ (ps : List (Bool × List C)) (l : List (Bool × List D)), frzP H ps = some l → l.length = ps.length ∧ ∀ (i : Nat) p q v, ps[i]? = some p → l[i]? = some q → RepP β w I p v → RepP β' w (allB β I) (partD q) v
  | [], l, h => by simp [frzP] at h; subst h; exact ⟨rfl, fun i p q v h => by simp at h⟩
  | p :: r, l, h => by
    simp only [frzP] at h
    split at h
    · rename_i ds ks hf
      split at h
      · rename_i l' hl
        simp only [Option.some.injEq] at h
        subst h
        obtain ⟨h1, h2⟩ := frzP_ok hr r l' hl
        refine ⟨by simp [h1], fun i p' q v e1 e2 hp => ?_⟩
        cases i with
        | succ i => exact h2 i p' q v (by simpa using e1) (by simpa using e2) hp
        | zero =>
          simp at e1 e2
          subst e1 e2
          obtain ⟨b, cs⟩ := p
          have key : ∀ vs, RepCs β w I cs vs → RepDs w (allB β I) ds vs := fun vs hv => (frzL_ok hr 400 cs ds ks vs hf hv).2 _ (fun _ _ hi => .inl hi) (fun k _ b hb o => .inr ⟨k, hb⟩)
          cases b with
          | true => obtain ⟨vs, rfl, hv⟩ := hp; exact ⟨vs, rfl, repDs_cs (key _ hv)⟩
          | false =>
            obtain ⟨c, hcs, hv⟩ := hp
            have hcs : cs = [c] := hcs
            subst hcs
            have := key [v] ⟨rfl, fun i c' v' h1 h2 => by
              cases i with
              | zero => simp at h1 h2; subst h1 h2; exact hv
              | succ i => simp at h1⟩
            match ds, this with
            | [d], this => exact ⟨.d d, rfl, this.2 0 d v rfl rfl⟩
      · simp at h
    · simp at h

theorem frzA_ok (hr : RelH β H I w) {β' : Bt} {x y : AV} {v : Value} (h : frzA H x = some y) (hx : RepA β w I x v) : RepA β' w (allB β I) y v := by
  cases x with
  | c x =>
    simp only [frzA] at h
    split at h
    · rename_i d ks hf
      simp only [Option.some.injEq] at h
      subst h
      exact (frz_ok hr 400 x d ks v hf hx).2 _ (fun _ _ hi => .inl hi) (fun k _ b hb o => .inr ⟨k, hb⟩)
    · simp at h
  | agg cs =>
    simp only [frzA] at h
    split at h
    · rename_i ds ks hf
      simp only [Option.some.injEq] at h
      subst h
      obtain ⟨vs, rfl, hv⟩ := hx
      exact ⟨vs, rfl, repDs_cs ((frzL_ok hr 400 cs ds ks _ hf hv).2 _ (fun _ _ hi => .inl hi) (fun k _ b hb o => .inr ⟨k, hb⟩))⟩
    · simp at h
  | tup ps =>
    simp only [frzA] at h
    split at h
    · rename_i l hf
      simp only [Option.some.injEq] at h
      subst h
      obtain ⟨vs, rfl, hl, hv⟩ := hx
      obtain ⟨h1, h2⟩ := frzP_ok (β' := β') hr ps l hf
      refine ⟨vs, rfl, by simpa [h1] using hl, fun i p x e1 e2 => ?_⟩
      rw [List.getElem?_map] at e1
      cases hq : l[i]? with
      | none => rw [hq] at e1; cases e1
      | some q =>
        rw [hq] at e1
        simp only [Option.map_some, Option.some.injEq] at e1
        subst e1
        have hlt : i < ps.length := by rw [← h1]; exact (List.getElem?_eq_some_iff.1 hq).1
        exact h2 i _ q x (List.getElem?_eq_getElem hlt) hq (hv i _ x (List.getElem?_eq_getElem hlt) e2)
    · simp at h
  | u => simp [frzA] at h; subst h; trivial
end

/-- the result of a call without memory, as data -/
theorem CR.data {P : Program} {f : FuncId} {args : List AV} {x y : AV} {Hr : Hp} (h : CR P f args [] x Hr) (hf : frzA Hr x = some y) : CR P f args [] y [] := by
  intro β I w vs hr ha
  refine (h β I w vs hr ha).mono fun e w' ⟨v, β', I', he, hr', hx, hE, hm⟩ => ?_
  have hfree : ∀ h, β h = .free := fun h => hr.dom h rfl
  refine ⟨v, β, allB β' I', he, ?_, frzA_ok hr' hf hx, ?_, .refl _⟩
  · refine ⟨⟨fun i j b hi => ?_, fun i b hi => ?_, fun i b o hi => ?_, fun b o hi => ?_, hr'.gl.step (fun _ _ hi => .inl hi) (fun _ _ _ => rfl)⟩, fun i _ => hfree i, fun i B hB => by simp [look] at hB⟩
    · rw [hfree i] at hi; cases hi
    · rw [hfree i] at hi; cases hi
    · rw [hfree i] at hi; cases hi
    · rcases hi with hi | ⟨k, hk⟩
      · exact hr'.old b o hi
      · exact hr'.lt k b hk
  · refine ⟨hE.os, hE.tape, hE.output, hE.size, hE.block, fun b o hi => .inl (hE.keepI b o hi), hE.cell, fun b o hi => ?_, fun i b hb => .inl ⟨i, hb⟩, hE.shapes⟩
    rcases hi with hi | ⟨k, hk⟩
    · exact hE.newI b o hi
    · rcases hE.newB k b hk with ⟨j, hj⟩ | hj
      · exact .inr (.inr ⟨j, hj⟩)
      · exact .inr (.inl hj)

/-- arguments, as data -/
def frzAs (H : Hp) : List AV → Option (List AV)
  | [] => some []
  | x :: r => match frzA H x with
    | some y => match frzAs H r with
      | some l => some (y :: l)
      | none => none
    | none => none
theorem frzAs_ok {β β' : Bt} {w : World} {I : Im} {H : Hp} (hr : RelH β H I w) : ∀ (xs ys : List AV), frzAs H xs = some ys → ys.length = xs.length ∧ ∀ (i : Nat) x y v, xs[i]? = some x → ys[i]? = some y → RepA β w I x v → RepA β' w (allB β I) y v
  | [], ys, h => by simp [frzAs] at h; subst h; exact ⟨rfl, fun i x y v h => by simp at h⟩
  | x :: r, ys, h => by
    simp only [frzAs] at h
    split at h
    · rename_i y hy
      split at h
      · rename_i l hl
        simp only [Option.some.injEq] at h
        subst h
        obtain ⟨h1, h2⟩ := frzAs_ok (β' := β') hr r l hl
        refine ⟨by simp [h1], fun i x' y' v e1 e2 hx => ?_⟩
        cases i with
        | zero => simp at e1 e2; subst e1 e2; exact frzA_ok hr hy hx
        | succ i => exact h2 i x' y' v (by simpa using e1) (by simpa using e2) hx
      · simp at h
    · simp at h

/-- a call that only reads data and answers with a plain value may be given own rows: they stay as they are -/
theorem CR.lend {P : Program} {f : FuncId} {args ds : List AV} {H : Hp} {x : Value} (h : CR P f ds [] (.c (.d (.v x))) []) (hf : frzAs H args = some ds) : CR P f args H (.c (.d (.v x))) H := by
  intro β I w vs hr ha
  have hr0 : RelH (fun _ => .free) [] (allB β I) w := by
    refine ⟨⟨(fun i j b hi => by cases hi), (fun i b hi => by cases hi), (fun i b o hi => by cases hi), (fun b o hi => ?_), hr.gl.step (fun _ _ hi => .inl hi) (fun _ _ _ => rfl)⟩, fun i _ => rfl, fun i B hB => by simp [look] at hB⟩
    rcases hi with hi | ⟨k, hk⟩
    · exact hr.old b o hi
    · exact hr.lt k b hk
  obtain ⟨hl, hreps⟩ := frzAs_ok (β' := fun _ => .free) hr args ds hf
  have ha0 : RepF (fun _ => .free) w (allB β I) ds vs := by
    refine ⟨by rw [hl]; exact ha.1, fun i y v h1 h2 => ?_⟩
    have hlt : i < args.length := by rw [← hl]; exact (List.getElem?_eq_some_iff.1 h1).1
    exact hreps i _ y v (List.getElem?_eq_getElem hlt) h1 (ha.2 i _ v (List.getElem?_eq_getElem hlt) h2)
  refine (h _ _ w vs hr0 ha0).mono fun e w' ⟨v, β', I', he, hr', hx, hE, hm⟩ => ?_
  have hblk : ∀ b, b < w.heap.size → w'.heap[b]? = w.heap[b]? := fun b hb => hE.block b hb (fun k hk => by cases hk)
  have hcell : ∀ b o, I b o → w'.cell? ⟨b, o, none⟩ = w.cell? ⟨b, o, none⟩ := fun b o hi => hE.cell b o (.inl hi)
  have hk : Keep β I w β I w' := ⟨.refl _, fun _ _ hi => hi, hcell, hE.shapes⟩
  have hp : Place β I w' := ⟨hr.inj, fun i b hb => Nat.lt_of_lt_of_le (hr.lt i b hb) hE.size, hr.off, fun b o hi => Nat.lt_of_lt_of_le (hr.old b o hi) hE.size, hr.gl.step (fun _ _ hi => hi) hcell⟩
  refine ⟨v, β, I, he, ?_, ?_, ⟨hE.os, hE.tape, hE.output, hE.size, fun b hb _ => hblk b hb, fun _ _ hi => hi, hcell, fun _ _ hi => .inl hi, fun i b hb => .inl ⟨i, hb⟩, hE.shapes⟩, .refl _⟩
  · exact ⟨hp, hr.dom, fun i B hB => (hr.blk i B hB).keep hk rfl (fun b hb => hblk b (hr.lt i b hb))⟩
  · have e : v = x := RepD.v_eq hx
    subst e
    cases hx with
    | v _ h1 => exact RepD.v _ h1

/-! what data stands for, by its spelling -/
section
variable {α : Type} [Inhabited α]
noncomputable def okE (enc : α → D) (x : D) : Bool := @decide (∃ a, DE x (enc a)) (Classical.propDecidable _)
noncomputable def theE (enc : α → D) (x : D) : α := @dite _ (∃ a, DE x (enc a)) (Classical.propDecidable _) (fun h => Classical.choose h) (fun _ => default)
omit [Inhabited α] in
theorem okE_iff {enc : α → D} {x : D} : okE enc x = true ↔ ∃ a, DE x (enc a) := by unfold okE; simp
theorem theE_de {enc : α → D} {x : D} (h : okE enc x = true) : DE x (enc (theE enc x)) := by
  have h' := okE_iff.1 h
  unfold theE
  rw [dif_pos h']
  exact Classical.choose_spec h'
theorem theE_of {enc : α → D} (inj : ∀ a b, DE (enc a) (enc b) → a = b) {x : D} {a : α} (h1 : DE x (enc a)) (h2 : DE (enc a) x) : okE enc x = true ∧ theE enc x = a := by
  have h := okE_iff.2 ⟨a, h1⟩
  exact ⟨h, (inj _ _ (h2.trans (theE_de h))).symm⟩
theorem okE_enc {enc : α → D} (inj : ∀ a b, DE (enc a) (enc b) → a = b) (a : α) : okE enc (enc a) = true := (theE_of inj (.refl _) (.refl _)).1
theorem theE_enc {enc : α → D} (inj : ∀ a b, DE (enc a) (enc b) → a = b) (a : α) : theE enc (enc a) = a := (theE_of inj (.refl _) (.refl _)).2
end

/-- a list as data -/
def listD {β : Type} (sz : Nat) (c : β → List D) (d0 : β) (l : List β) : D := .sl sz l.length fun i => c (l.getD i d0)
theorem list_ext0 {β : Type} {d : β} : ∀ {l l' : List β}, l.length = l'.length → (∀ i, i < l.length → l.getD i d = l'.getD i d) → l = l'
  | [], [], _, _ => rfl
  | x :: r, y :: r', hl, h => by
    have h0 := h 0 (by simp)
    simp at h0
    rw [h0, list_ext0 (l := r) (l' := r') (by simpa using hl) (fun i hi => by have := h (i + 1) (by simpa using hi); simpa using this)]
  | [], _ :: _, hl, _ => by simp at hl
  | _ :: _, [], hl, _ => by simp at hl
theorem listD_inj {β : Type} {sz : Nat} {c : β → List D} {d0 : β} (hc : ∀ a b, DEs (c a) (c b) → a = b) (l l' : List β) (h : DE (listD sz c d0 l) (listD sz c d0 l')) : l = l' := by
  unfold listD at h
  generalize he : l'.length = n' at h
  generalize hg : (fun i => c (l'.getD i d0)) = g at h
  generalize hn : l.length = n at h
  generalize hf : (fun i => c (l.getD i d0)) = f at h
  cases h with
  | sl _ _ _ _ h1 h2 =>
    refine list_ext0 (d := d0) (by omega) fun i hi => ?_
    refine hc _ _ ⟨?_, fun j d e hd he' => ?_⟩
    · have := h1 i (by omega); rw [← hf, ← hg] at this; exact this
    · exact h2 i j d e (by omega) (by rw [← hf]; exact hd) (by rw [← hg]; exact he')
theorem dv_inj {a b : Value} (h : DE (.v a) (.v b)) : a = b := by cases h; rfl
end Go.Eb
