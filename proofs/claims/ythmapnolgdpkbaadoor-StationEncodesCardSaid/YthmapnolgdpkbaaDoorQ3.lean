/-
  An evaluator of Go code on abstract values, proved sound, and what it computes of the functions that the statement reaches (part 3). No condition.
-/
import Derived.Test.YthmapnolgdpkbaaDoorQ2
import Derived.Test.YthmapnolgdpkbaaDoorProg
import Derived.KernelRfl
import Derived.Laws.RangeAny
set_option maxRecDepth 100000
namespace Go.Eb
open Go.RowKit

def Det {α β : Type} (F : (R : Type) → (α → β → Option (T R)) → Option (T R)) : Prop :=
  (∀ (R : Type) (k : α → β → Option (T R)), F R k = none) ∨ ∃ a b, ∀ (R : Type) (k : α → β → Option (T R)), F R k = k a b

def OrcDet (orc : Orc) : Prop := ∀ f args H, Det fun R k => orc R f args H k

theorem Det.no {α β : Type} {F : (R : Type) → (α → β → Option (T R)) → Option (T R)} (h : ∀ (R : Type) k, F R k = none) : Det F := .inl h
theorem Det.one {α β : Type} {F : (R : Type) → (α → β → Option (T R)) → Option (T R)} (a : α) (b : β) (h : ∀ (R : Type) k, F R k = k a b) : Det F := .inr ⟨a, b, h⟩
theorem Det.bif {α β : Type} {F G : (R : Type) → (α → β → Option (T R)) → Option (T R)} (c : Bool) (h : Det F) (k : Det G) : Det fun R q => bif c then F R q else G R q := by
  cases c with
  | true => exact h
  | false => exact k

theorem Det.congr {α β : Type} {F G : (R : Type) → (α → β → Option (T R)) → Option (T R)} (h : Det F) (e : ∀ (R : Type) k, G R k = F R k) : Det G := by
  rcases h with h | ⟨a, b, h⟩
  · exact .inl fun R k => (e R k).trans (h R k)
  · exact .inr ⟨a, b, fun R k => (e R k).trans (h R k)⟩
theorem Det.bind {α β γ δ : Type} {F : (R : Type) → (α → β → Option (T R)) → Option (T R)} (h : Det F) {G : α → β → (R : Type) → (γ → δ → Option (T R)) → Option (T R)} (hG : ∀ a b, Det (G a b)) :
    Det fun R k => F R fun a b => G a b R k := by
  rcases h with h | ⟨a, b, h⟩
  · exact .inl fun R k => h R _
  · rcases hG a b with g | ⟨c, d, g⟩
    · exact .inl fun R k => (h R _).trans (g R k)
    · exact .inr ⟨c, d, fun R k => (h R _).trans (g R k)⟩

section
variable {P : Program} {orc : Orc}

theorem perfK_det (ho : OrcDet orc) (h0 : Nat) (a : Do) (H : Hp) : (∀ (R : Type) k, perfK (R := R) orc h0 a H k = none) ∨ ∃ x ft u, ∀ (R : Type) k, perfK (R := R) orc h0 a H k = k x ft u := by
  cases a with
  | call f args =>
    simp only [perfK]
    cases hL : callL H args with
    | none => exact .inl fun R k => rfl
    | some L =>
      rcases ho f (callArgs L args) (callH H L) with h | ⟨x, Hr, h⟩
      · exact .inl fun R k => h R _
      · exact .inr ⟨_, _, _, fun R k => h R _⟩
  | next h =>
    simp only [perfK]
    cases look H h with
    | none => exact .inl fun R k => rfl
    | some b =>
      cases b with
      | iter s pos =>
        cases hb : Nat.blt pos s.size with
        | true => exact .inr ⟨_, _, _, fun R k => by simp only [hb, cond_true]; rfl⟩
        | false => exact .inr ⟨_, _, _, fun R k => by simp only [hb, cond_false]; rfl⟩
      | _ => exact .inl fun R k => rfl
  | ustr h n e =>
    simp only [perfK]
    cases look H h with
    | none => exact .inl fun R k => rfl
    | some b =>
      cases b with
      | row m f sz t =>
        cases hb : (Nat.ble n m && Nat.beq sz 1 && Nat.beq t e && bytesOk n f) with
        | true => exact .inr ⟨_, _, _, fun R k => by simp only [hb, cond_true]; rfl⟩
        | false => exact .inl fun R k => by simp only [hb, cond_false]
      | _ => exact .inl fun R k => rfl
  | cstr h n =>
    simp only [perfK]
    cases hb : cstrOk n (look H h) with
    | true => exact .inr ⟨_, _, _, fun R k => by simp only [cond_true]; rfl⟩
    | false => exact .inl fun R k => by simp only [cond_false]
  | _ =>
    all_goals
      simp only [perfK]
      split
      · exact .inr ⟨_, _, _, fun R k => rfl⟩
      · exact .inl fun R k => rfl

theorem guardK_det (ops : Array Oper) (F : List AV) (o : Oper) : (∀ (R : Type) yes no, guardK (R := R) ops F o yes no = none) ∨ (∃ F', ∀ (R : Type) yes no, guardK (R := R) ops F o yes no = yes F') ∨ ∃ F', ∀ (R : Type) yes no, guardK (R := R) ops F o yes no = no F' := by
  unfold guardK
  split
  · exact .inr (.inl ⟨_, fun R yes no => rfl⟩)
  · rename_i j want _
    split
    · exact .inr (.inr ⟨_, fun R yes no => rfl⟩)
    · split
      · rename_i b _
        cases b <;> cases want
        · exact .inr (.inl ⟨_, fun R yes no => rfl⟩)
        · exact .inr (.inr ⟨_, fun R yes no => rfl⟩)
        · exact .inr (.inr ⟨_, fun R yes no => rfl⟩)
        · exact .inr (.inl ⟨_, fun R yes no => rfl⟩)
      · exact .inr (.inr ⟨_, fun R yes no => rfl⟩)
      · exact .inl fun R yes no => rfl

theorem stepK_det (ho : OrcDet orc) (ops : Array Oper) (i : Nat) (s : St) : Det fun R k => stepK (R := R) P orc ops i s k := by
  unfold stepK
  simp only [guardF_eq, resF_eq, opF_eq, putF_eq]
  split
  · exact .no fun R k => rfl
  · rename_i o _
    rcases guardK_det ops s.F o with h | ⟨F', h⟩ | ⟨F', h⟩
    · exact .no fun R k => h R _ _
    · cases hr : res P o (opA F') with
      | none => exact .no fun R k => by rw [h]; simp only [hr]
      | some p =>
        obtain ⟨ok, a⟩ := p
        cases ok with
        | false => exact .no fun R k => by rw [h]; simp only [hr, cond_false]
        | true =>
          rcases perfK_det ho (s.nm + 16 * i) a s.H with g | ⟨x, ft, u, g⟩
          · exact .no fun R k => by rw [h]; simp only [hr, cond_true]; exact g R _
          · exact .one _ _ fun R k => by rw [h]; simp only [hr, cond_true]; exact g R _
    · exact .one _ _ fun R k => h R _ _

theorem opsK_det (ho : OrcDet orc) (ops : Array Oper) : ∀ (l : List Nat) (tr : List (Nat × Foot)) (s : St), Det fun R k => opsK (R := R) P orc ops l tr s k
  | [], tr, s => .one tr s fun R k => rfl
  | i :: rest, tr, s => (stepK_det ho ops i s).bind fun a s' => opsK_det ho ops rest (tr ++ [(i, a)]) s'

def noDiam : Code → Bool
  | .region _ ops draw => !(draw && diamond ops)
  | .seq a b => noDiam a && noDiam b
  | .cond _ a b => noDiam a && noDiam b
  | .block _ c => noDiam c
  | .loop c => noDiam c
  | .scope c => noDiam c
  | _ => true

theorem regionK_det (ho : OrcDet orc) (ops : Array Oper) (draw : Bool) (s : St) (hd : (draw && diamond ops) = false) : Det fun R k => regionK (R := R) P orc ops draw s k := by
  unfold regionK
  simp only [hd, cond_false]
  refine (opsK_det ho ops _ _ s).bind fun tr s' => ?_
  cases (!draw || (commutes ops (masks ops.toList []) tr && edgesDown ops && P.follows .mixedOrders)) with
  | true => exact .one _ _ fun R k => rfl
  | false => exact .no fun R k => rfl

theorem iterK_det {k0 : Nat} {note : Option Note} {body : (R : Type) → St → (Out → St → Option (T R)) → Option (T R)} (hb : ∀ s, Det fun R k => body R s k) : ∀ (n : Nat) (s : St), Det fun R k => iterK (R := R) k0 note (body R) n s k
  | 0, s => .no fun R k => rfl
  | n + 1, s => (hb s).bind (G := fun (o : Out) (s' : St) (R : Type) (k : Out → St → Option (T R)) => match o with
    | .norm => (match trim k0 note s' with
      | none => none
      | some s0 => iterK k0 note (body R) n s0 k)
    | .exit id => k (.exit id) s'
    | .goto l => k (.goto l) s'
    | .ret => k .ret s') fun o s' => by
      cases o with
      | norm =>
        simp only []
        cases trim k0 note s' with
        | none => exact .no fun R k => rfl
        | some s0 => exact iterK_det hb n s0
      | exit id => exact .one _ _ fun R k => rfl
      | goto l => exact .one _ _ fun R k => rfl
      | ret => exact .one _ _ fun R k => rfl

theorem evK_det (ho : OrcDet orc) (ann : Ann) (k0 n : Nat) : ∀ (c : Code), noDiam c = true → ∀ (lab : Option Nat) (s : St), Det fun R k => evK (R := R) P orc ann k0 n c lab s k := by
  intro c
  induction c with
  | skip => intro _ lab s; cases lab with
    | none => exact .one _ _ fun R k => by simp only [evK]; rfl
    | some l => exact .no fun R k => by simp only [evK]
  | region id ops draw =>
    intro hn lab s
    cases lab with
    | none =>
      have hd : (draw && diamond ops) = false := by simp only [noDiam, Bool.not_eq_true'] at hn; exact hn
      simp only [evK]
      split
      · exact regionK_det ho ops draw s hd
      · split
        · exact .no fun R k => rfl
        · rename_i s0 hs0
          cases n with
          | zero => exact .no fun R k => by simp only [iterK]
          | succ m =>
            have h := (regionK_det (P := P) ho ops draw s0 hd).bind (G := fun (o : Out) (s' : St) (R : Type) (k : Out → St → Option (T R)) => gateN (fun s'' => k .norm s'') o s') fun o s' => by
              cases o with
              | norm => exact .one _ _ fun R k => rfl
              | _ => exact .no fun R k => rfl
            refine h.congr fun R k => ?_
            simp only [iterK]
            exact congrArg _ (funext fun o => funext fun s'' => by cases o <;> rfl)
    | some l => exact .no fun R k => by simp only [evK]
  | seq a b iha ihb =>
    intro hn lab s
    simp only [noDiam, Bool.and_eq_true] at hn
    have go : ∀ lab', Det fun (R : Type) (k : Out → St → Option (T R)) => evK P orc ann k0 n a lab' s fun o s' => match o with
        | .norm => evK P orc ann k0 n b none s' k
        | .exit id => k (.exit id) s'
        | .goto l => k (.goto l) s'
        | .ret => k .ret s' := fun lab' => (iha hn.1 lab' s).bind (G := fun (o : Out) (s' : St) (R : Type) (k : Out → St → Option (T R)) => match o with
        | .norm => evK P orc ann k0 n b none s' k
        | .exit id => k (.exit id) s'
        | .goto l => k (.goto l) s'
        | .ret => k .ret s') fun o s' => by
          cases o with
          | norm => exact ihb hn.2 none s'
          | exit id => exact .one _ _ fun R k => rfl
          | goto l => exact .one _ _ fun R k => rfl
          | ret => exact .one _ _ fun R k => rfl
    cases lab with
    | none => simp only [evK]; exact go none
    | some l =>
      simp only [evK]
      cases hasLabel l a with
      | true => exact go (some l)
      | false => exact ihb hn.2 (some l) s
  | cond c x y ihx ihy =>
    intro hn lab s
    simp only [noDiam, Bool.and_eq_true] at hn
    cases lab with
    | some l => exact .no fun R k => by simp only [evK]
    | none =>
      simp only [evK]
      split
      · rename_i b _
        cases b with
        | true => exact ihx hn.1 none s
        | false => exact ihy hn.2 none s
      · exact .no fun R k => rfl
  | block id c ih =>
    intro hn lab s
    simp only [noDiam] at hn
    cases lab with
    | some l => exact .no fun R k => by simp only [evK]
    | none =>
      simp only [evK]
      exact (ih hn none s).bind (G := fun (o : Out) (s' : St) (R : Type) (k : Out → St → Option (T R)) => match o with
        | .norm => k .norm s'
        | .exit j => bif j == id then k .norm s' else k (.exit j) s'
        | .goto l => k (.goto l) s'
        | .ret => k .ret s') fun o s' => by
          cases o with
          | norm => exact .one _ _ fun R k => rfl
          | exit j => cases hj : (j == id) with
            | true => exact .one _ _ fun R k => by simp only [hj, cond_true]; rfl
            | false => exact .one _ _ fun R k => by simp only [hj, cond_false]; rfl
          | goto l => exact .one _ _ fun R k => rfl
          | ret => exact .one _ _ fun R k => rfl
  | loop c ih =>
    intro hn lab s
    simp only [noDiam] at hn
    cases lab with
    | some l => exact .no fun R k => by simp only [evK]
    | none =>
      simp only [evK]
      split
      · exact .no fun R k => rfl
      · rename_i s0 _
        exact iterK_det (body := fun (R : Type) (s' : St) (k' : Out → St → Option (T R)) => evK P orc ann k0 n c none s' k') (fun s' => ih hn none s') n s0
  | scope c ih =>
    intro hn lab s
    simp only [noDiam] at hn
    cases lab with
    | some l => exact .no fun R k => by simp only [evK]
    | none =>
      simp only [evK]
      refine (ih hn none s).bind (G := fun (o : Out) (s' : St) (R : Type) (k : Out → St → Option (T R)) => match o with
        | .goto l => (match findLabel c l with
          | some rest => (match trim k0 ((firstR rest).bind ann) s' with
            | none => none
            | some s0 => iterK k0 ((firstR rest).bind ann) (fun s' k' => evK P orc ann k0 n c (some l) s' fun o s'' => match o with
                | .goto m => bif m == l then k' .norm s'' else none
                | .norm => k' (.goto l) s''
                | .exit id => k' (.exit id) s''
                | .ret => k' .ret s'') n s0 fun o s'' => match o with
                  | .goto _ => k .norm s''
                  | .norm => none
                  | .exit id => k (.exit id) s''
                  | .ret => k .ret s'')
          | none => none)
        | .norm => k .norm s'
        | .exit id => k (.exit id) s'
        | .ret => k .ret s') fun o s' => ?_
      cases o with
      | norm => exact .one _ _ fun R k => rfl
      | exit id => exact .one _ _ fun R k => rfl
      | ret => exact .one _ _ fun R k => rfl
      | goto l =>
        simp only []
        split
        · split
          · exact .no fun R k => rfl
          · rename_i rest _ _ s0 _
            refine (iterK_det (body := fun (R : Type) (s' : St) (k' : Out → St → Option (T R)) => evK P orc ann k0 n c (some l) s' fun o s'' => match o with
                | .goto m => bif m == l then k' .norm s'' else none
                | .norm => k' (.goto l) s''
                | .exit id => k' (.exit id) s''
                | .ret => k' .ret s'') (fun s1 => ?_) n s0).bind (G := fun (o : Out) (s'' : St) (R : Type) (k : Out → St → Option (T R)) => match o with
                  | .goto _ => k .norm s''
                  | .norm => none
                  | .exit id => k (.exit id) s''
                  | .ret => k .ret s'') fun o s'' => ?_
            · refine (ih hn (some l) s1).bind (G := fun (o : Out) (s'' : St) (R : Type) (k' : Out → St → Option (T R)) => match o with
                | .goto m => bif m == l then k' .norm s'' else none
                | .norm => k' (.goto l) s''
                | .exit id => k' (.exit id) s''
                | .ret => k' .ret s'') fun o s'' => ?_
              cases o with
              | goto m => cases hj : (m == l) with
                | true => exact .one _ _ fun R k => by simp only [hj, cond_true]; rfl
                | false => exact .no fun R k => by simp only [hj, cond_false]
              | norm => exact .one _ _ fun R k => rfl
              | exit id => exact .one _ _ fun R k => rfl
              | ret => exact .one _ _ fun R k => rfl
            · cases o with
              | goto m => exact .one _ _ fun R k => rfl
              | norm => exact .no fun R k => rfl
              | exit id => exact .one _ _ fun R k => rfl
              | ret => exact .one _ _ fun R k => rfl
        · exact .no fun R k => rfl
  | label m =>
    intro hn lab s
    cases lab with
    | none => exact .one _ _ fun R k => by simp only [evK]; rfl
    | some l =>
      cases hj : (m == l) with
      | true => exact .one _ _ fun R k => by simp only [evK, hj, cond_true]; rfl
      | false => exact .no fun R k => by simp only [evK, hj, cond_false]
  | goto l => intro _ lab s; cases lab with
    | none => exact .one _ _ fun R k => by simp only [evK]; rfl
    | some l => exact .no fun R k => by simp only [evK]
  | exit l => intro _ lab s; cases lab with
    | none => exact .one _ _ fun R k => by simp only [evK]; rfl
    | some l => exact .no fun R k => by simp only [evK]
  | ret => intro _ lab s; cases lab with
    | none => exact .one _ _ fun R k => by simp only [evK]; rfl
    | some l => exact .no fun R k => by simp only [evK]
  | _ => intro _ lab s; exact .no fun R k => by cases lab <;> simp only [evK]

theorem endK_det (fn : Func) (k0 : Nat) (o : Out) (s : St) : Det fun R k => endK (R := R) P fn k0 k o s := by
  unfold endK
  cases o with
  | exit _ => exact .no fun R k => rfl
  | goto _ => exact .no fun R k => rfl
  | _ =>
    all_goals
      simp only []
      cases resultsA P fn s with
      | none => exact .no fun R k => rfl
      | some l =>
        simp only []
        cases ofResults l with
        | none => exact .no fun R k => rfl
        | some x => exact .one _ _ fun R k => rfl

theorem callK_det (ho : OrcDet orc) (ann : Ann) (n : Nat) (fn : Func) (c : Code) (hc : noDiam c = true) (args : List AV) (H : Hp) : Det fun R k => callK (R := R) P orc ann n fn c args H k := by
  unfold callK
  exact (evK_det ho ann H.length n c hc none _).bind (G := fun o s R k => endK P fn H.length k o s) fun o s => endK_det fn H.length o s
end

noncomputable def inl (P : Program) (orc : Orc) (ann : Ann) (n : Nat) (fn : Func) : (R : Type) → List AV → Hp → (AV → Hp → Option (T R)) → Option (T R) := fun _ args H k =>
  bif noDiam (bodyOf fn) && seqN 0 H then callK P orc ann n fn (bodyOf fn) args H k else none

def AnsDet (g : (R : Type) → List AV → Hp → (AV → Hp → Option (T R)) → Option (T R)) : Prop := ∀ args H, Det fun R k => g R args H k

theorem inl_det {P : Program} {orc : Orc} (ho : OrcDet orc) {ann : Ann} {n : Nat} {fn : Func} : AnsDet (inl P orc ann n fn) := fun args H => by
  unfold inl
  cases hc : (noDiam (bodyOf fn) && seqN 0 H) with
  | false => exact .no fun R k => rfl
  | true =>
    simp only [Bool.and_eq_true] at hc
    exact callK_det ho ann n fn _ hc.1 args H

theorem inl_ok {P : Program} {orc : Orc} (ho : OrcOk P orc) (hd : OrcDet orc) {ann : Ann} {n : Nat} {f : FuncId} {fn : Func} (hf : P.funcs[f]? = some fn) (hb : fn.body = some (bodyOf fn)) :
    ∀ (R : Type) args H (k : AV → Hp → Option (T R)) t, inl P orc ann n fn R args H k = some t → ∃ x H', k x H' = some t ∧ CX P f args H x H' := fun R args H k t h => by
  unfold inl at h
  cases hc : (noDiam (bodyOf fn) && seqN 0 H) with
  | false => rw [hc] at h; cases h
  | true =>
    rw [hc] at h
    simp only [cond_true] at h
    simp only [Bool.and_eq_true] at hc
    rcases callK_det (P := P) hd ann n fn _ hc.1 args H with g | ⟨x, H', g⟩
    · exact absurd ((g R k).symm.trans h) (by simp)
    · exact ⟨x, H', (g R k).symm.trans h, cxA_of ho (ann := ann) (n := n) hf hb hc.2 (by unfold callA; exact g _ _)⟩

theorem Orc.nil_det : OrcDet Orc.nil := fun f args H => .no fun R k => rfl
theorem Orc.cons_det {f0 : FuncId} {g : (R : Type) → List AV → Hp → (AV → Hp → Option (T R)) → Option (T R)} {rest : Orc} (hg : AnsDet g) (hr : OrcDet rest) : OrcDet (Orc.cons f0 g rest) := fun f args H => by
  unfold Orc.cons
  exact .bif _ (hg args H) (hr f args H)
theorem ansP_det {α : Type} {dec : List AV → Option α} {g : α → AV} : AnsDet (ansP dec g) := fun args H => by
  unfold ansP
  cases H with
  | nil =>
    simp only []
    cases dec args with
    | none => exact .no fun R k => rfl
    | some a => exact .one _ _ fun R k => rfl
  | cons _ _ => exact .no fun R k => rfl
structure OrcS (P : Program) (orc : Orc) : Prop where
  ok : OrcOk P orc
  det : OrcDet orc
structure AnsS (P : Program) (f : FuncId) (g : (R : Type) → List AV → Hp → (AV → Hp → Option (T R)) → Option (T R)) : Prop where
  ok : ∀ (R : Type) args H (k : AV → Hp → Option (T R)) t, g R args H k = some t → ∃ x H', k x H' = some t ∧ CX P f args H x H'
  det : AnsDet g
theorem OrcS.nil {P : Program} : OrcS P Orc.nil := ⟨Orc.nil_ok P, Orc.nil_det⟩
theorem OrcS.cons {P : Program} {f0 : FuncId} {g : (R : Type) → List AV → Hp → (AV → Hp → Option (T R)) → Option (T R)} {rest : Orc} (h : AnsS P f0 g) (r : OrcS P rest) : OrcS P (Orc.cons f0 g rest) := ⟨Orc.cons_ok r.ok h.ok, Orc.cons_det h.det r.det⟩
theorem AnsS.inl {P : Program} {orc : Orc} (h : OrcS P orc) {ann : Ann} {n : Nat} {f : FuncId} {fn : Func} (hf : P.funcs[f]? = some fn) (hb : fn.body = some (bodyOf fn)) : AnsS P f (inl P orc ann n fn) := ⟨inl_ok h.ok h.det hf hb, inl_det h.det⟩
theorem AnsS.p {P : Program} {f0 : FuncId} {α : Type} {dec : List AV → Option α} {g : α → AV} {enc : α → List AV} (hd : ∀ args a, dec args = some a → args = enc a) (hc : ∀ a, CX P f0 (enc a) [] (g a) []) : AnsS P f0 (ansP dec g) := ⟨ansP_ok hd hc, ansP_det⟩
structure Dec (X A : Type) where
  dec : X → Option A
  enc : A → X
  ok : ∀ x a, dec x = some a → x = enc a

namespace Dec
def nil {X : Type} : Dec (List X) Unit := ⟨fun x => match x with | [] => some () | _ :: _ => none, fun _ => [], fun x a h => by cases x <;> simp_all⟩
def cons {X A B : Type} (d : Dec X A) (e : Dec (List X) B) : Dec (List X) (A × B) :=
  ⟨fun x => match x with
    | [] => none
    | y :: r => match d.dec y with
      | none => none
      | some a => match e.dec r with
        | none => none
        | some b => some (a, b),
   fun p => d.enc p.1 :: e.enc p.2, fun x p h => by
    cases x with
    | nil => simp at h
    | cons y r =>
      simp only [] at h
      cases hd : d.dec y with
      | none => rw [hd] at h; simp at h
      | some a =>
        rw [hd] at h
        simp only [] at h
        cases he : e.dec r with
        | none => rw [he] at h; simp at h
        | some b =>
          rw [he] at h
          simp only [Option.some.injEq] at h
          subst h
          rw [d.ok y a hd, e.ok r b he]⟩
def pair {X Y A B : Type} (d : Dec X A) (e : Dec Y B) : Dec (X × Y) (A × B) :=
  ⟨fun x => match d.dec x.1 with
      | none => none
      | some a => match e.dec x.2 with
        | none => none
        | some b => some (a, b),
   fun p => (d.enc p.1, e.enc p.2), fun x p h => by
    obtain ⟨y, r⟩ := x
    simp only [] at h
    cases hd : d.dec y with
    | none => rw [hd] at h; simp at h
    | some a =>
      rw [hd] at h
      simp only [] at h
      cases he : e.dec r with
      | none => rw [he] at h; simp at h
      | some b =>
        rw [he] at h
        simp only [Option.some.injEq] at h
        subst h
        rw [d.ok y a hd, e.ok r b he]⟩
def blk {A : Type} (n : Nat) (d : Dec Blk A) : Dec (Nat × Blk) A := 
  ⟨fun x => bif Nat.beq x.1 n then d.dec x.2 else none, fun a => (n, d.enc a), fun x a h => by
    obtain ⟨m, b⟩ := x
    cases hb : Nat.beq m n with
    | true => simp only [hb, cond_true] at h; rw [Nat.eq_of_beq_eq_true hb, d.ok b a h]
    | false => simp only [hb, cond_false] at h; cases h⟩
def cells {A : Type} (t : TypeId) (d : Dec (List C) A) : Dec Blk A :=
  ⟨fun x => match x with | .cells cs u => bif Nat.beq u t then d.dec cs else none | _ => none, fun a => .cells (d.enc a) t, fun x a h => by
    cases x with
    | cells cs u =>
      simp only [] at h
      cases hb : Nat.beq u t with
      | true => rw [hb] at h; simp only [cond_true] at h; rw [Nat.eq_of_beq_eq_true hb, d.ok cs a h]
      | false => rw [hb] at h; cases h
    | _ => cases h⟩
def rowB (sz : Nat) (t : TypeId) : Dec Blk (Nat × (Nat → List D)) :=
  ⟨fun x => match x with | .row n f z u => bif Nat.beq z sz && Nat.beq u t then some (n, f) else none | _ => none, fun a => .row a.1 a.2 sz t, fun x a h => by
    cases x with
    | row n f z u =>
      simp only [] at h
      cases hb : (Nat.beq z sz && Nat.beq u t) with
      | true =>
        rw [hb] at h
        simp only [cond_true, Option.some.injEq] at h
        subst h
        simp only [Bool.and_eq_true] at hb
        rw [Nat.eq_of_beq_eq_true hb.1, Nat.eq_of_beq_eq_true hb.2]
      | false => rw [hb] at h; cases h
    | _ => cases h⟩
def i64 : Dec C Int := ⟨fun x => match x with | .d (.v (.int .i64 n)) => some n | _ => none, fun n => .d (.v (.int .i64 n)), fun x a h => by
  split at h
  · cases h; rfl
  · cases h⟩
def bool : Dec C Bool := ⟨fun x => match x with | .d (.v (.bool n)) => some n | _ => none, fun n => .d (.v (.bool n)), fun x a h => by
  split at h
  · cases h; rfl
  · cases h⟩
def str : Dec C ByteArray := ⟨fun x => match x with | .d (.v (.string n)) => some n | _ => none, fun n => .d (.v (.string n)), fun x a h => by
  split at h
  · cases h; rfl
  · cases h⟩
def nilS : Dec C Unit := ⟨fun x => match x with | .d (.v (.slice none 0 0)) => some () | _ => none, fun _ => .d (.v (.slice none 0 0)), fun x a h => by
  split at h
  · rfl
  · cases h⟩
def data : Dec C D := ⟨fun x => match x with | .d y => some y | _ => none, fun n => .d n, fun x a h => by
  split at h
  · cases h; rfl
  · cases h⟩
def row (h sz : Nat) : Dec C Nat := ⟨fun x => match x with | .row k z n => bif Nat.beq k h && Nat.beq z sz then some n else none | _ => none, fun n => .row h sz n, fun x a e => by
  split at e
  · rename_i k z n
    cases hb : (Nat.beq k h && Nat.beq z sz) with
    | true =>
      rw [hb] at e
      simp only [cond_true, Option.some.injEq] at e
      subst e
      simp only [Bool.and_eq_true] at hb
      rw [Nat.eq_of_beq_eq_true hb.1, Nat.eq_of_beq_eq_true hb.2]
    | false => rw [hb] at e; cases e
  · cases e⟩
def ptr (h o : Nat) : Dec C Unit := ⟨fun x => match x with | .ptr k p => bif Nat.beq k h && Nat.beq p o then some () else none | _ => none, fun _ => .ptr h o, fun x a e => by
  split at e
  · rename_i k p
    cases hb : (Nat.beq k h && Nat.beq p o) with
    | true =>
      simp only [Bool.and_eq_true] at hb
      rw [Nat.eq_of_beq_eq_true hb.1, Nat.eq_of_beq_eq_true hb.2]
    | false => rw [hb] at e; cases e
  · cases e⟩
def c {A : Type} (d : Dec C A) : Dec AV A := ⟨fun x => match x with | .c y => d.dec y | _ => none, fun a => .c (d.enc a), fun x a h => by
  cases x with
  | c y => rw [d.ok y a h]
  | _ => cases h⟩
def agg {A : Type} (d : Dec (List C) A) : Dec AV A := ⟨fun x => match x with | .agg y => d.dec y | _ => none, fun a => .agg (d.enc a), fun x a h => by
  cases x with
  | agg y => rw [d.ok y a h]
  | _ => cases h⟩
end Dec

def ansD {A : Type} (d : Dec (List AV × Hp) A) (c : A → Bool) (r : A → AV) (H' : A → Hp) : (R : Type) → List AV → Hp → (AV → Hp → Option (T R)) → Option (T R) := fun _ args H k =>
  match d.dec (args, H) with
  | some a => bif c a then k (r a) (H' a) else none
  | none => none
theorem AnsS.d {P : Program} {f : FuncId} {A : Type} {d : Dec (List AV × Hp) A} {c : A → Bool} {r : A → AV} {H' : A → Hp} (hc : ∀ a, c a = true → CX P f (d.enc a).1 (d.enc a).2 (r a) (H' a)) : AnsS P f (ansD d c r H') := by
  refine ⟨fun R args H k t h => ?_, fun args H => ?_⟩
  · unfold ansD at h
    cases hd : d.dec (args, H) with
    | none => rw [hd] at h; cases h
    | some a =>
      rw [hd] at h
      simp only [] at h
      cases hca : c a with
      | false => rw [hca] at h; cases h
      | true =>
        rw [hca] at h
        have e := d.ok _ _ hd
        have := hc a hca
        rw [← e] at this
        exact ⟨_, _, h, this⟩
  · unfold ansD
    cases d.dec (args, H) with
    | none => exact .no fun R k => rfl
    | some a => exact .bif _ (.one _ _ fun R k => rfl) (.no fun R k => rfl)
end Go.Eb
namespace Go.Eb
open Go.RowKit

inductive Fr where
  | nil
  | leaf (j : Nat) (x : AV)
  | node (k : Nat) (l r : Fr)

namespace Fr
noncomputable def get (i : Nat) (t : Fr) : AV :=
  Fr.rec (motive := fun _ => AV) .u (fun j x => Bool.rec (motive := fun _ => AV) .u x (Nat.beq i j)) (fun k _ _ a b => Bool.rec (motive := fun _ => AV) a b (Nat.ble k i)) t
noncomputable def setK {R : Type} (i : Nat) (x : AV) (t : Fr) : (Fr → R) → R :=
  Fr.rec (motive := fun _ => (Fr → R) → R) (fun k => k .nil) (fun j y k => Bool.rec (motive := fun _ => R) (k (.leaf j y)) (k (.leaf j x)) (Nat.beq i j))
    (fun m l r a b k => Bool.rec (motive := fun _ => R) (a fun l' => k (.node m l' r)) (b fun r' => k (.node m l r')) (Nat.ble m i)) t
def toL : Fr → List AV
  | nil => []
  | leaf _ x => [x]
  | node _ l r => toL l ++ toL r
def Ok : Nat → Nat → Fr → Prop
  | lo, hi, nil => lo = hi
  | lo, hi, leaf j _ => j = lo ∧ hi = lo + 1
  | lo, hi, node k l r => Ok lo k l ∧ Ok k hi r
theorem Ok.len : ∀ {t : Fr} {lo hi : Nat}, Ok lo hi t → lo + (toL t).length = hi
  | nil, lo, hi, h => by simpa [Ok, toL] using h
  | leaf j x, lo, hi, h => by simp only [Ok] at h; simp [toL, h.2]
  | node k l r, lo, hi, h => by
    simp only [Ok] at h
    have h1 := Ok.len h.1
    have h2 := Ok.len h.2
    simp only [toL, List.length_append]
    omega
theorem get_eq : ∀ {t : Fr} {lo hi i : Nat}, Ok lo hi t → lo ≤ i → get i t = (toL t).getD (i - lo) .u
  | nil, lo, hi, i, h, hi' => by simp [get, toL]
  | leaf j x, lo, hi, i, h, hi' => by
    simp only [Ok] at h
    obtain ⟨rfl, _⟩ := h
    show Bool.rec (motive := fun _ => AV) .u x (Nat.beq i j) = _
    rw [beqD]
    by_cases e : i = j
    · subst e; simp [toL]
    · rw [decide_eq_false e]
      have : i - j = (i - j - 1) + 1 := by omega
      rw [this]; simp [toL]
  | node k l r, lo, hi, i, h, hi' => by
    simp only [Ok] at h
    have h1 := Ok.len h.1
    show Bool.rec (motive := fun _ => AV) (get i l) (get i r) (Nat.ble k i) = _
    rw [bleD]
    by_cases e : k ≤ i
    · rw [decide_eq_true e]
      have := get_eq (t := r) h.2 e
      simp only [toL]
      rw [List.getD_eq_getElem?_getD, List.getElem?_append_right (by omega), this, List.getD_eq_getElem?_getD]
      congr 2; omega
    · rw [decide_eq_false e]
      have := get_eq (t := l) h.1 hi'
      simp only [toL]
      rw [List.getD_eq_getElem?_getD, List.getElem?_append_left (by omega), this, List.getD_eq_getElem?_getD]
theorem setK_eq (x : AV) : ∀ {t : Fr} {lo hi i : Nat}, Ok lo hi t → lo ≤ i → ∃ t', Ok lo hi t' ∧ toL t' = (toL t).set (i - lo) x ∧ ∀ (R : Type) (k : Fr → R), setK i x t k = k t'
  | nil, lo, hi, i, h, hi' => ⟨nil, h, by simp [toL], fun R k => rfl⟩
  | leaf j y, lo, hi, i, h, hi' => by
    simp only [Ok] at h
    obtain ⟨rfl, rfl⟩ := h
    by_cases e : i = j
    · subst e
      refine ⟨leaf i x, ⟨rfl, rfl⟩, by simp [toL], fun R k => ?_⟩
      show Bool.rec (motive := fun _ => R) (k (.leaf i y)) (k (.leaf i x)) (Nat.beq i i) = _
      rw [beqD]; simp
    · refine ⟨leaf j y, ⟨rfl, rfl⟩, ?_, fun R k => ?_⟩
      · have : i - j = (i - j - 1) + 1 := by omega
        rw [this]; simp [toL]
      · show Bool.rec (motive := fun _ => R) (k (.leaf j y)) (k (.leaf j x)) (Nat.beq i j) = _
        rw [beqD, decide_eq_false e]
  | node m l r, lo, hi, i, h, hi' => by
    simp only [Ok] at h
    have h1 := Ok.len h.1
    by_cases e : m ≤ i
    · obtain ⟨r', o, e1, e2⟩ := setK_eq x (t := r) h.2 e
      refine ⟨node m l r', ⟨h.1, o⟩, ?_, fun R k => ?_⟩
      · simp only [toL]
        rw [e1, List.set_append_right _ _ (by omega : (toL l).length ≤ i - lo)]
        congr 2; omega
      · show Bool.rec (motive := fun _ => R) (setK i x l fun l' => k (.node m l' r)) (setK i x r fun r' => k (.node m l r')) (Nat.ble m i) = _
        rw [bleD, decide_eq_true e]
        exact e2 R _
    · obtain ⟨l', o, e1, e2⟩ := setK_eq x (t := l) h.1 hi'
      refine ⟨node m l' r, ⟨o, h.2⟩, ?_, fun R k => ?_⟩
      · simp only [toL]
        rw [e1, List.set_append_left _ _ (by omega : i - lo < (toL l).length)]
      · show Bool.rec (motive := fun _ => R) (setK i x l fun l' => k (.node m l' r)) (setK i x r fun r' => k (.node m l r')) (Nat.ble m i) = _
        rw [bleD, decide_eq_false e]
        exact e2 R _
def base : Nat → Nat → Nat → Fr
  | 0, _, _ => nil
  | _ + 1, _, 0 => nil
  | _ + 1, lo, 1 => leaf lo (.tup [])
  | d + 1, lo, n + 2 => node (lo + (n + 2) / 2) (base d lo ((n + 2) / 2)) (base d (lo + (n + 2) / 2) (n + 2 - (n + 2) / 2))
theorem base_ok : ∀ (d lo n : Nat), n ≤ d → Ok lo (lo + n) (base d lo n) ∧ toL (base d lo n) = List.replicate n (.tup [])
  | 0, lo, n, h => by
    obtain rfl : n = 0 := by omega
    simp [base, Ok, toL]
  | d + 1, lo, 0, h => by simp [base, Ok, toL]
  | d + 1, lo, 1, h => by simp [base, Ok, toL]
  | d + 1, lo, n + 2, h => by
    have h1 := base_ok d lo ((n + 2) / 2) (by omega)
    have h2 := base_ok d (lo + (n + 2) / 2) (n + 2 - (n + 2) / 2) (by omega)
    have e : lo + (n + 2) / 2 + (n + 2 - (n + 2) / 2) = lo + (n + 2) := by omega
    rw [e] at h2
    refine ⟨?_, ?_⟩
    · simp only [base, Ok]
      exact ⟨h1.1, h2.1⟩
    · simp only [base, toL, h1.2, h2.2, List.replicate_append_replicate]
      congr 1; omega
noncomputable def putsK {R : Type} (l : List AV) : Nat → Fr → (Fr → R) → R :=
  List.rec (motive := fun _ => Nat → Fr → (Fr → R) → R) (fun _ t k => k t) (fun x _ ih i t k => setK i x t fun t' => ih (i + 1) t' k) l
theorem putsK_eq : ∀ (l : List AV) {t : Fr} {hi i : Nat}, Ok 0 hi t → i + l.length ≤ hi → ∃ t', Ok 0 hi t' ∧ toL t' = (toL t).take i ++ l ++ (toL t).drop (i + l.length) ∧ ∀ (R : Type) (k : Fr → R), putsK l i t k = k t'
  | [], t, hi, i, h, hl => ⟨t, h, by simp, fun R k => rfl⟩
  | x :: r, t, hi, i, h, hl => by
    obtain ⟨t1, o1, e1, k1⟩ := setK_eq x h (Nat.zero_le i)
    have hlen := h.len
    simp only [List.length_cons] at hl
    obtain ⟨t2, o2, e2, k2⟩ := putsK_eq r (t := t1) (i := i + 1) o1 (by omega)
    refine ⟨t2, o2, ?_, fun R k => ?_⟩
    · rw [e2, e1]
      simp only [Nat.sub_zero, List.length_cons]
      have hi2 : i < (toL t).length := by omega
      rw [List.drop_set_of_lt (by omega), List.take_add_one, List.getElem?_set_self (by omega)]
      simp only [Option.toList_some, List.take_set, List.append_assoc, List.cons_append, List.nil_append]
      rw [List.set_eq_of_length_le (by simp; omega)]
      have e9 : i + 1 + r.length = i + (r.length + 1) := by omega
      rw [e9]
    · show setK i x t (fun t' => putsK r (i + 1) t' k) = _
      rw [k1]
      exact k2 R k
noncomputable def ofK {R : Type} (l : List AV) (k : Fr → R) : R := putsK l 0 (base l.length 0 l.length) k
theorem ofK_eq (l : List AV) : ∃ t, Ok 0 l.length t ∧ toL t = l ∧ ∀ (R : Type) (k : Fr → R), ofK l k = k t := by
  have hb := base_ok l.length 0 l.length (Nat.le_refl _)
  rw [Nat.zero_add] at hb
  obtain ⟨t, o, e, h⟩ := putsK_eq l hb.1 (i := 0) (by omega)
  refine ⟨t, o, ?_, h⟩
  rw [e, hb.2]
  simp
end Fr

noncomputable def insK {R : Type} (h : Nat) (b : Blk) (H : Hp) : (Hp → R) → R :=
  List.rec (motive := fun _ => (Hp → R) → R) (fun k => k [(h, b)])
    (fun p r ih k => Bool.rec (motive := fun _ => R) (ih fun r' => k (p :: r')) (Bool.rec (motive := fun _ => R) (k ((h, b) :: p :: r)) (k ((h, b) :: r)) (Nat.beq h p.1)) (Nat.ble h p.1)) H
theorem insK_eq {R : Type} (h : Nat) (b : Blk) : ∀ (H : Hp) (k : Hp → R), insK h b H k = k (ins h b H)
  | [], k => rfl
  | (m, c) :: r, k => by
    show Bool.rec (motive := fun _ => R) (insK h b r fun r' => k ((m, c) :: r')) (Bool.rec (motive := fun _ => R) (k ((h, b) :: (m, c) :: r)) (k ((h, b) :: r)) (Nat.beq h m)) (Nat.ble h m) = _
    simp only [ins]
    cases h1 : Nat.ble h m with
    | false => simp only [cond_false]; exact insK_eq h b r _
    | true =>
      cases h2 : Nat.beq h m with
      | false => simp only [cond_true, cond_false]
      | true => simp only [cond_true]
noncomputable def applyK {R : Type} (u : Ups) : Hp → (Hp → R) → R :=
  List.rec (motive := fun _ => Hp → (Hp → R) → R) (fun H k => k H) (fun p _ ih H k => insK p.1 p.2 H fun H' => ih H' k) u
theorem applyK_eq {R : Type} : ∀ (u : Ups) (H : Hp) (k : Hp → R), applyK u H k = k (applyU u H)
  | [], H, k => rfl
  | (h, b) :: r, H, k => by
    show insK h b H (fun H' => applyK r H' k) = _
    rw [insK_eq, applyK_eq r]
    rfl
noncomputable def natK {R : Type} (n : Nat) (k : Nat → R) : R := Nat.rec (motive := fun _ => R) (k 0) (fun m _ => k (Nat.succ m)) n
theorem natK_eq {R : Type} (n : Nat) (k : Nat → R) : natK n k = k n := by cases n <;> rfl

structure StQ where
  t : Fr
  H : Hp
  nm : Nat
def StQ.to (s : StQ) : St := ⟨s.t.toL, s.H, s.nm⟩
def StQ.Ok (s : StQ) : Prop := ∃ hi, Fr.Ok 0 hi s.t


section
variable {P : Program} {orc : Orc}
noncomputable def opQ (t : Fr) (o : Operand) : AV :=
  Operand.rec (motive := fun _ => Fr → AV) (fun i t => t.get i) (fun v _ => absA v) (fun _ _ => .u) (fun f _ => .c (.d (.v (.func (.func f) #[] #[])))) o t
theorem opQ_eq {t : Fr} {hi : Nat} (h : Fr.Ok 0 hi t) : opQ t = opA t.toL := by
  funext o
  cases o with
  | tmp i => exact (Fr.get_eq h (Nat.zero_le _)).trans (by simp only [opA, Nat.sub_zero])
  | _ => rfl
noncomputable def putQ {R : Type} (dst : Option Nat) : AV → Fr → (Fr → R) → R := Option.rec (motive := fun _ => AV → Fr → (Fr → R) → R) (fun _ t k => k t) (fun d x t k => Fr.setK d x t k) dst
noncomputable def guard2 {R : Type} (ops : Array Oper) (j : Nat) (want : Bool) (t : Fr) (yes no : Fr → Option (T R)) : Option (T R) :=
  match (ops[j]?).bind (·.dst) with
    | none => no t
    | some d => match t.get d with
      | .c (.d (.v (.bool b))) => bif b then (bif want then Fr.setK d (.c (.d (.v (.bool true)))) t yes else Fr.setK d (.c (.d (.v (.bool true)))) t no)
          else (bif want then Fr.setK d (.c (.d (.v (.bool false)))) t no else Fr.setK d (.c (.d (.v (.bool false)))) t yes)
      | .tup [] => no t
      | _ => none
noncomputable def guardQ {R : Type} (g : Option (Nat × Bool)) : Array Oper → Fr → (Fr → Option (T R)) → (Fr → Option (T R)) → Option (T R) :=
  Option.rec (motive := fun _ => Array Oper → Fr → (Fr → Option (T R)) → (Fr → Option (T R)) → Option (T R)) (fun _ t yes _ => yes t) (fun p ops t yes no => guard2 ops p.1 p.2 t yes no) g

theorem putQ_eq (dst : Option Nat) (x : AV) {t : Fr} {hi : Nat} (h : Fr.Ok 0 hi t) : ∃ t', Fr.Ok 0 hi t' ∧ t'.toL = put t.toL dst x ∧ ∀ (R : Type) (k : Fr → R), putQ dst x t k = k t' := by
  cases dst with
  | none => exact ⟨t, h, rfl, fun R k => rfl⟩
  | some d =>
    obtain ⟨t', o, e, k⟩ := Fr.setK_eq x h (Nat.zero_le d)
    exact ⟨t', o, e, k⟩
theorem guardQ_eq {R : Type} (ops : Array Oper) {t : Fr} {hi : Nat} (h : Fr.Ok 0 hi t) (o : Oper) (yes no : Fr → Option (T R)) (yes' no' : List AV → Option (T R))
    (hy : ∀ t, Fr.Ok 0 hi t → yes t = yes' t.toL) (hn : ∀ t, Fr.Ok 0 hi t → no t = no' t.toL) : guardQ o.guard ops t yes no = guardK ops t.toL o yes' no' := by
  unfold guardK
  cases o.guard with
  | none => exact hy t h
  | some p =>
    obtain ⟨j, want⟩ := p
    show guard2 ops j want t yes no = _
    unfold guard2
    simp only
    cases (ops[j]?).bind (·.dst) with
    | none => exact hn t h
    | some d =>
      have e := Fr.get_eq h (Nat.zero_le d)
      rw [Nat.sub_zero] at e
      simp only
      rw [e]
      obtain ⟨t1, o1, e1, k1⟩ := Fr.setK_eq (.c (.d (.v (.bool true)))) h (Nat.zero_le d)
      obtain ⟨t2, o2, e2, k2⟩ := Fr.setK_eq (.c (.d (.v (.bool false)))) h (Nat.zero_le d)
      rw [Nat.sub_zero] at e1 e2
      simp only [k1, k2, hy _ o1, hn _ o1, hy _ o2, hn _ o2, e1, e2, hn t h]
      rfl

/-! operations, each kind apart, closed -/
def leS (a b : IntKind) : Bool := decide (a = b)

noncomputable def intQ (op : BinOp) : IntKind → Int → Int → Option (Bool × Do) := BinOp.rec (motive := fun _ => IntKind → Int → Int → Option (Bool × Do))
  (fun k a b => some (true, .val (.c (.d (.v (.int k (k.wrap (a + b))))))))
  (fun k a b => some (true, .val (.c (.d (.v (.int k (k.wrap (a - b))))))))
  (fun k a b => some (true, .val (.c (.d (.v (.int k (k.wrap (a * b))))))))
  (fun _ _ _ => none) (fun _ _ _ => none) (fun _ _ _ => none) (fun _ _ _ => none) (fun _ _ _ => none) (fun _ _ _ => none) (fun _ _ _ => none) (fun _ _ _ => none)
  (fun _ a b => some (true, .val (.c (.d (.v (.bool (a == b)))))))
  (fun _ a b => some (true, .val (.c (.d (.v (.bool (a != b)))))))
  (fun _ a b => some (true, .val (.c (.d (.v (.bool (decide (a < b))))))))
  (fun _ a b => some (true, .val (.c (.d (.v (.bool (decide (a ≤ b))))))))
  (fun _ a b => some (true, .val (.c (.d (.v (.bool (decide (a > b))))))))
  (fun _ a b => some (true, .val (.c (.d (.v (.bool (decide (a ≥ b)))))))) op
def isFastOp : BinOp → Bool
  | .add | .sub | .mul | .eql | .neq | .lss | .leq | .gtr | .geq => true
  | _ => false
noncomputable def binInt (p q : AV) (op : BinOp) (slow : Option (Bool × Do)) : Option (Bool × Do) := match p, q with
  | .c (.d (.v (.int k a))), .c (.d (.v (.int k' b))) => bif isFastOp op && leS k k' then intQ op k a b else slow
  | _, _ => slow
noncomputable def qBinOp (P : Program) (ρ : Operand → AV) (op : BinOp) (t : TypeId) (x y : Operand) : Option (Bool × Do) := binInt (ρ x) (ρ y) op (rBinOp P ρ op t x y)

theorem pr_int (op : BinOp) (hf : isFastOp op = true) (t : TypeId) (x y : Operand) (k : IntKind) (a b : Int) : (match pr P (do eqGuard op t x y (.int k a) (.int k b); binOp op t (.int k a) (.int k b)) with | some r => val1 r | none => none) = intQ op k a b := by
  cases op <;> first | (cases hf; done) | (cases k <;> rfl)
theorem div_fast {op : BinOp} (hf : isFastOp op = true) (a b : Value) (s : Option (Bool × Do)) : divOr op a b s = s := by
  cases op <;> first | (cases hf; done) | rfl
theorem qBinOp_eq (ρ : Operand → AV) (op : BinOp) (t : TypeId) (x y : Operand) : qBinOp P ρ op t x y = rBinOp P ρ op t x y := by
  unfold qBinOp binInt
  split
  · rename_i k a k' b hx hy
    cases hc : (isFastOp op && leS k k') with
    | false => rfl
    | true =>
      simp only [Bool.and_eq_true] at hc
      have hk : k = k' := of_decide_eq_true hc.2
      subst hk
      simp only [cond_true]
      unfold rBinOp
      rw [hx, hy]
      exact (pr_int op hc.1 t x y k a b).symm.trans (div_fast hc.1 _ _ _).symm
  · rfl
noncomputable def resQ (o : Op) : Program → (Operand → AV) → Option (Bool × Do) :=
  Op.rec (motive := fun _ => Program → (Operand → AV) → Option (Bool × Do))
    (fun x _ ρ => some (true, .val (ρ x)))
    (fun x _ ρ => some (true, .val (ρ x)))
    (fun c a b P ρ => rPick P ρ c a b)
    (fun e P ρ => rAlloc P ρ e)
    (fun e x P ρ => rBox P ρ e x)
    (fun t parts P ρ => rBuild P ρ t parts)
    (fun t len parts P ρ => rBuildSlice P ρ t len parts)
    (fun t m k v P ρ => rMapUpdate P ρ t m k v)
    (fun t a P ρ => rLoad P ρ t a)
    (fun t a x P ρ => rStore P ρ t a x)
    (fun _ _ _ => none)
    (fun _ _ _ => none)
    (fun x P ρ => rNilCheck P ρ x)
    (fun op t x y _ P ρ => qBinOp P ρ op t x y)
    (fun op _ x P ρ => rUnOp P ρ op x)
    (fun s t x P ρ => rConvert P ρ s t x)
    (fun _ _ _ _ => none)
    (fun _ _ _ _ => none)
    (fun fn first captured P ρ => rMakeFunc P ρ fn first captured)
    (fun t r P ρ => rMakeMap P ρ t r)
    (fun _ _ _ _ => none)
    (fun _ _ _ _ _ => none)
    (fun t x lo hi mx P ρ => rSlice P ρ t x lo hi mx)
    (fun s x f P ρ => rFieldAddr P ρ s x f)
    (fun t x f P ρ => rField P ρ t x f)
    (fun t x i P ρ => rIndexAddr P ρ t x i)
    (fun t x i P ρ => rIndex P ρ t x i)
    (fun t x i ok P ρ => rLookup P ρ t x i ok)
    (fun t m k v P ρ => rMapUpdate P ρ t m k v)
    (fun _ _ _ _ _ => none)
    (fun _ _ _ _ _ _ => none)
    (fun t x P ρ => rRange P ρ t x)
    (fun it str P ρ => rNext P ρ it str)
    (fun _ _ _ => none)
    (fun _ _ _ _ _ _ => none)
    (fun x i P ρ => rExtract P ρ x i)
    (fun c P ρ => rCall P ρ c)
    (fun _ _ _ => none)
    (fun _ _ _ => none)
    (fun _ _ _ => none)
    (fun _ _ _ _ => none)
    (fun _ _ _ _ _ => none)
    (fun _ _ _ _ => none) o

theorem resQ_eq (o : Oper) (ρ : Operand → AV) : resQ o.op P ρ = resF P o ρ := by
  obtain ⟨dst, op, ty, pos, after, guard⟩ := o
  cases op with
  | binOp op t x y u => exact qBinOp_eq ρ op t x y
  | _ => rfl

noncomputable def lookQ (k : Nat) (H : Hp) : Option Blk := List.rec (motive := fun _ => Option Blk) none (fun p _ ih => Bool.rec (motive := fun _ => Option Blk) ih (some p.2) (Nat.beq k p.1)) H
noncomputable def getQ {α : Type} (l : List α) : Nat → Option α := List.rec (motive := fun _ => Nat → Option α) (fun _ => none) (fun x _ ih n => Nat.rec (motive := fun _ => Option α) (some x) (fun m _ => ih m) n) l
theorem lookQ_eq (k : Nat) : ∀ H : Hp, lookQ k H = look H k
  | [] => rfl
  | (h, b) :: r => by
    show Bool.rec (motive := fun _ => Option Blk) (lookQ k r) (some b) (Nat.beq k h) = _
    rw [lookQ_eq k r]
    simp only [look]
    cases Nat.beq k h <;> rfl
theorem getQ_eq {α : Type} : ∀ (l : List α) (n : Nat), getQ l n = l[n]?
  | [], n => by simp [getQ]
  | x :: r, 0 => by simp; rfl
  | x :: r, n + 1 => by
    show getQ r n = _
    rw [getQ_eq r n]; simp
noncomputable def cellQ (cs : List C) (off n : Nat) (ag : Bool) : Option AV :=
  Bool.rec (motive := fun _ => Option AV) none (Bool.rec (motive := fun _ => Option AV) (Option.rec (motive := fun _ => Option AV) none (fun c => some (.c c)) (getQ cs off)) (some (.agg ((cs.drop off).take n))) ag) (Nat.ble (off + n) cs.length)
theorem cellQ_eq (cs : List C) (off n : Nat) (ag : Bool) : cellQ cs off n ag = loadL cs off n ag := by
  unfold cellQ loadL
  rw [bleD, getQ_eq]
  by_cases h : off + n ≤ cs.length
  · rw [decide_eq_true h, if_pos h]
    cases ag with
    | true => rfl
    | false =>
      simp only [Bool.false_eq_true, if_false]
      cases cs[off]? <;> rfl
  · rw [decide_eq_false h, if_neg h]
noncomputable def loadQ (b : Option Blk) : Nat → Nat → Nat → Nat → Bool → Option AV :=
  Option.rec (motive := fun _ => Nat → Nat → Nat → Nat → Bool → Option AV) (fun _ _ _ _ _ => none)
    (fun b => Blk.rec (motive := fun _ => Nat → Nat → Nat → Nat → Bool → Option AV) (fun cs _ sz i off n ag => cellQ cs (i * sz + off) n ag)
      (fun _ f sz' _ sz i off n ag => bif Nat.beq sz sz' then loadL ((f i).map .d) off n ag else none) (fun _ _ _ _ _ _ _ => none) (fun _ _ _ _ _ _ _ => none) (fun _ _ _ _ _ => none) b) b
theorem loadQ_eq (H : Hp) (h sz i off n : Nat) (ag : Bool) : loadQ (lookQ h H) sz i off n ag = loadA H h sz i off n ag := by
  rw [lookQ_eq]
  unfold loadA
  cases look H h with
  | none => rfl
  | some b =>
    cases b with
    | cells cs t => exact cellQ_eq cs (i * sz + off) n ag
    | _ => rfl
noncomputable def loadR {R : Type} (x : Option AV) : Nat → (AV → Foot → Ups → Option (T R)) → Option (T R) :=
  Option.rec (motive := fun _ => Nat → (AV → Foot → Ups → Option (T R)) → Option (T R)) (fun _ _ => none) (fun x h k => k x ⟨[h], []⟩ []) x
noncomputable def storeR {R : Type} (x : Option (Ups × List Nat)) : (AV → Foot → Ups → Option (T R)) → Option (T R) :=
  Option.rec (motive := fun _ => (AV → Foot → Ups → Option (T R)) → Option (T R)) (fun _ => none) (fun p k => k (.tup []) ⟨p.2, p.1.map (·.1)⟩ p.1) x
noncomputable def splQ {α : Type} (cs : List α) : Nat → List α → List α :=
  List.rec (motive := fun _ => Nat → List α → List α) (fun _ new => new) (fun c r ih off new => Nat.rec (motive := fun _ => List α) (new ++ (c :: r).drop new.length) (fun m _ => c :: ih m new) off) cs
theorem splQ_eq {α : Type} : ∀ (cs : List α) (off : Nat) (new : List α), off ≤ cs.length → splQ cs off new = splice cs off new
  | [], off, new, h => by
    obtain rfl : off = 0 := by simpa using h
    simp [splQ, splice]
  | c :: r, 0, new, h => by
    show new ++ (c :: r).drop new.length = _
    simp [splice]
  | c :: r, off + 1, new, h => by
    show c :: splQ r off new = _
    rw [splQ_eq r off new (by simpa using h)]
    simp [splice, Nat.add_right_comm]
noncomputable def storeQ (b : Option Blk) : Hp → Nat → Nat → Nat → Nat → List C → Option (Ups × List Nat) :=
  Option.rec (motive := fun _ => Hp → Nat → Nat → Nat → Nat → List C → Option (Ups × List Nat)) (fun _ _ _ _ _ _ => none)
    (fun b => Blk.rec (motive := fun _ => Hp → Nat → Nat → Nat → Nat → List C → Option (Ups × List Nat))
      (fun ds t _ h sz i off cs => bif Nat.ble (i * sz + off + cs.length) ds.length then some ([(h, .cells (splQ ds (i * sz + off) cs) t)], [h]) else none)
      (fun _ _ _ _ H h sz i off cs => storeA H h sz i off cs) (fun _ _ H h sz i off cs => storeA H h sz i off cs) (fun _ _ H h sz i off cs => storeA H h sz i off cs) (fun H h sz i off cs => storeA H h sz i off cs) b) b
theorem storeQ_eq (H : Hp) (h sz i off : Nat) (cs : List C) : storeQ (lookQ h H) H h sz i off cs = storeA H h sz i off cs := by
  rw [lookQ_eq]
  cases hl : look H h with
  | none => unfold storeA; rw [hl]; rfl
  | some b =>
    cases b with
    | cells ds t =>
      show (bif Nat.ble (i * sz + off + cs.length) ds.length then some ([(h, Blk.cells (splQ ds (i * sz + off) cs) t)], [h]) else none) = _
      unfold storeA
      rw [hl]
      simp only
      rw [bleD]
      by_cases hb : i * sz + off + cs.length ≤ ds.length
      · rw [decide_eq_true hb, splQ_eq ds _ cs (by omega)]
      · rw [decide_eq_false hb]; rfl
    | _ => rfl
noncomputable def perfQ {R : Type} (a : Do) : Orc → Nat → Hp → (AV → Foot → Ups → Option (T R)) → Option (T R) :=
  Do.rec (motive := fun _ => Orc → Nat → Hp → (AV → Foot → Ups → Option (T R)) → Option (T R))
    (fun x _ _ _ k => k x ⟨[], []⟩ [])
    (fun h sz i off n ag _ _ H k => loadR (loadQ (lookQ h H) sz i off n ag) h k)
    (fun h sz i off cs _ _ H k => storeR (storeQ (lookQ h H) H h sz i off cs) k)
    (fun b mk _ h0 _ k => k (mk h0) ⟨[], [h0]⟩ [(h0, b)])
    (fun d s e sz orc h0 H k => perfK orc h0 (.append d s e sz) H k)
    (fun h orc h0 H k => perfK orc h0 (.next h) H k)
    (fun h kd key ok z orc h0 H k => perfK orc h0 (.look h kd key ok z) H k)
    (fun h kd key v orc h0 H k => perfK orc h0 (.upd h kd key v) H k)
    (fun h x orc h0 H k => perfK orc h0 (.chk h x) H k)
    (fun h off u orc h0 H k => perfK orc h0 (.conv h off u) H k)
    (fun h n e orc h0 H k => perfK orc h0 (.ustr h n e) H k)
    (fun h n orc h0 H k => perfK orc h0 (.cstr h n) H k)
    (fun f args orc h0 H k => perfK orc h0 (.call f args) H k) a
theorem perfQ_eq {R : Type} (a : Do) (h0 : Nat) (H : Hp) (k : AV → Foot → Ups → Option (T R)) : perfQ a orc h0 H k = perfK orc h0 a H k := by
  cases a with
  | load h sz i off n ag =>
    show loadR (loadQ (lookQ h H) sz i off n ag) h k = _
    rw [loadQ_eq]
    simp only [perfK, perfA]
    cases loadA H h sz i off n ag <;> rfl
  | store h sz i off cs =>
    show storeR (storeQ (lookQ h H) H h sz i off cs) k = _
    rw [storeQ_eq]
    simp only [perfK, perfA]
    cases storeA H h sz i off cs <;> rfl
  | _ => rfl

noncomputable def okQ {R : Type} (r : Option (Bool × Do)) : (Do → Option (T R)) → Option (T R) :=
  Option.rec (motive := fun _ => (Do → Option (T R)) → Option (T R)) (fun _ => none) (fun p k => Bool.rec (motive := fun _ => Option (T R)) none (k p.2) p.1) r
noncomputable def opsQ {R : Type} (P : Program) (orc : Orc) (ops : Array Oper) (draw : Bool) (nm : Nat) (l : List Oper) : Nat → List (Nat × Foot) → Fr → Hp → (List (Nat × Foot) → Fr → Hp → Option (T R)) → Option (T R) :=
  List.rec (motive := fun _ => Nat → List (Nat × Foot) → Fr → Hp → (List (Nat × Foot) → Fr → Hp → Option (T R)) → Option (T R)) (fun _ tr t H k => k tr t H)
    (fun o _ ih i tr t H k => guardQ o.guard ops t
      (fun t => okQ (resQ o.op P (opQ t)) fun a => perfQ a orc (nm + 16 * i) H (fun x ft u => putQ o.dst x t fun t' => applyK u H fun H' => ih (i + 1) (Bool.rec (motive := fun _ => List (Nat × Foot)) tr (tr ++ [(i, ft)]) draw) t' H' k))
      (fun t => putQ o.dst (.tup []) t fun t' => ih (i + 1) (Bool.rec (motive := fun _ => List (Nat × Foot)) tr (tr ++ [(i, ⟨[], []⟩)]) draw) t' H k)) l


theorem perfK_congr {R : Type} {orc : Orc} (h0 : Nat) (a : Do) (H : Hp) (k k' : AV → Foot → Ups → Option (T R)) (h : ∀ x ft u, k x ft u = k' x ft u) : perfK orc h0 a H k = perfK orc h0 a H k' := by
  have : k = k' := by funext x ft u; exact h x ft u
  rw [this]

theorem opsQ_eq {R : Type} (ops : Array Oper) (draw : Bool) (nm : Nat) : ∀ (l : List Oper) (i : Nat), l = ops.toList.drop i → ∀ (tr tr' : List (Nat × Foot)) (t : Fr) (hi : Nat) (H : Hp) (kq : List (Nat × Foot) → Fr → Hp → Option (T R)) (k : List (Nat × Foot) → St → Option (T R)),
    Fr.Ok 0 hi t → tr'.map (·.1) = List.range i → (draw = true → tr = tr') → (∀ tr tr' t H, Fr.Ok 0 hi t → tr'.map (·.1) = List.range (i + l.length) → (draw = true → tr = tr') → kq tr t H = k tr' ⟨t.toL, H, nm⟩) →
    opsQ P orc ops draw nm l i tr t H kq = opsK P orc ops (List.range' i l.length) tr' ⟨t.toL, H, nm⟩ k
  | [], i, hl, tr, tr', t, hi, H, kq, k, ho, hm, htr, hk => by
    show kq tr t H = _
    simp only [List.length_nil, List.range'_zero, opsK]
    exact hk tr tr' t H ho (by simpa using hm) htr
  | o :: r, i, hl, tr, tr', t, hi, H, kq, k, ho, hm, htr, hk => by
    have hget : ops[i]? = some o := by
      have : ops.toList[i]? = some o := by
        have := congrArg (fun x => x[0]?) hl
        simpa using this.symm
      simpa using this
    have hr : r = ops.toList.drop (i + 1) := by
      have := congrArg (List.drop 1) hl
      simpa [List.drop_drop, Nat.add_comm] using this
    have go : ∀ (tr tr' : List (Nat × Foot)) (t : Fr) (H : Hp), Fr.Ok 0 hi t → tr'.map (·.1) = List.range (i + 1) → (draw = true → tr = tr') → opsQ P orc ops draw nm r (i + 1) tr t H kq = opsK P orc ops (List.range' (i + 1) r.length) tr' ⟨t.toL, H, nm⟩ k :=
      fun tr tr' t H ho hm htr => opsQ_eq ops draw nm r (i + 1) hr tr tr' t hi H kq k ho hm htr (fun a b c d e f g => hk a b c d e (by rw [f]; congr 1; simp; omega) g)
    show guardQ o.guard ops t
      (fun t => okQ (resQ o.op P (opQ t)) fun a => perfQ a orc (nm + 16 * i) H (fun x ft u => putQ o.dst x t fun t' => applyK u H fun H' => opsQ P orc ops draw nm r (i + 1) (Bool.rec (motive := fun _ => List (Nat × Foot)) tr (tr ++ [(i, ft)]) draw) t' H' kq))
      (fun t => putQ o.dst (.tup []) t fun t' => opsQ P orc ops draw nm r (i + 1) (Bool.rec (motive := fun _ => List (Nat × Foot)) tr (tr ++ [(i, ⟨[], []⟩)]) draw) t' H kq) = _
    simp only [List.length_cons, List.range'_succ, opsK, stepK, hget, guardF_eq, opF_eq, putF_eq]
    have htr2 : ∀ ft : Foot, draw = true → (Bool.rec (motive := fun _ => List (Nat × Foot)) tr (tr ++ [(i, ft)]) draw) = tr' ++ [(i, ft)] := fun ft hd => by rw [hd, htr hd]
    have hm2 : ∀ ft : Foot, (tr' ++ [(i, ft)]).map (·.1) = List.range (i + 1) := fun ft => by rw [List.map_append, hm, List.range_succ]; rfl
    refine guardQ_eq ops ho o _ _ _ _ (fun t1 o1 => ?_) (fun t1 o1 => ?_)
    · rw [opQ_eq o1, resQ_eq]
      cases resF P o (opA t1.toL) with
      | none => rfl
      | some p =>
        obtain ⟨ok, a⟩ := p
        cases ok with
        | false => rfl
        | true =>
          simp only [cond_true]
          show perfQ a orc (nm + 16 * i) H _ = _
          rw [perfQ_eq]
          refine perfK_congr _ _ _ _ _ fun x ft u => ?_
          obtain ⟨t2, o2, e2, k2⟩ := putQ_eq o.dst x o1
          rw [k2, applyK_eq, go _ (tr' ++ [(i, ft)]) _ _ o2 (hm2 ft) (htr2 ft), e2]
    · obtain ⟨t2, o2, e2, k2⟩ := putQ_eq o.dst (.tup []) o1
      rw [k2, go _ (tr' ++ [(i, ⟨[], []⟩)]) _ _ o2 (hm2 _) (htr2 _), e2]

/-! the order that is left open: pairs that no edge orders, of a region once -/
def unP (ops : Array Oper) : List (Nat × Nat) := (List.range ops.size).flatMap fun j => ((List.range j).filter fun i => !((masks ops.toList []).getD j 0).testBit i).map fun i => (i, j)
def statQ (ops : Array Oper) : Bool := (unP ops).all (fun p => match ops[p.1]?, ops[p.2]? with | some o, some q => o.apart ops q | _, _ => false) && edgesDown ops
noncomputable def footQ (tr : List (Nat × Foot)) (i : Nat) : Foot := Option.rec (motive := fun _ => Foot) ⟨[], []⟩ (fun p => p.2) (getQ tr i)
noncomputable def pairsQ (l : List (Nat × Nat)) : List (Nat × Foot) → Bool :=
  List.rec (motive := fun _ => List (Nat × Foot) → Bool) (fun _ => true) (fun p _ ih tr => Bool.rec (motive := fun _ => Bool) false (ih tr) (indepF (footQ tr p.1) (footQ tr p.2))) l
noncomputable def quickQ (ops : Array Oper) (tr : List (Nat × Foot)) : Bool := statQ ops && pairsQ (unP ops) tr
theorem pairsQ_mem : ∀ (l : List (Nat × Nat)) (tr : List (Nat × Foot)), pairsQ l tr = true → ∀ p ∈ l, indepF (footQ tr p.1) (footQ tr p.2) = true
  | [], _, _, p, hp => by simp at hp
  | q :: r, tr, h, p, hp => by
    have h' : Bool.rec (motive := fun _ => Bool) false (pairsQ r tr) (indepF (footQ tr q.1) (footQ tr q.2)) = true := h
    cases hi : indepF (footQ tr q.1) (footQ tr q.2) with
    | false => rw [hi] at h'; cases h'
    | true =>
      rw [hi] at h'
      rcases List.mem_cons.1 hp with rfl | hp
      · exact hi
      · exact pairsQ_mem r tr h' p hp
theorem footQ_eq {tr : List (Nat × Foot)} {n i : Nat} (hm : tr.map (·.1) = List.range n) {x : Nat × Foot} (hx : tr[i]? = some x) : x.1 = i ∧ footQ tr i = x.2 := by
  constructor
  · have h1 : (tr.map (·.1))[i]? = some x.1 := by rw [List.getElem?_map, hx]; rfl
    rw [hm] at h1
    have := List.getElem?_eq_some_iff.1 h1
    obtain ⟨hlt, e⟩ := this
    simpa using e.symm
  · unfold footQ
    rw [getQ_eq, hx]
theorem commutes_all (ops : Array Oper) (ms : List Nat) : ∀ (tr : List (Nat × Foot)), (∀ (i j : Nat) (x y : Nat × Foot), i < j → tr[i]? = some x → tr[j]? = some y → ((ms.getD y.1 0).testBit x.1 || indep ops x y) = true) → commutes ops ms tr = true
  | [], _ => rfl
  | x :: r, h => by
    simp only [commutes, Bool.and_eq_true]
    refine ⟨?_, commutes_all ops ms r fun i j a b hij ha hb => h (i + 1) (j + 1) a b (by omega) (by simpa using ha) (by simpa using hb)⟩
    rw [List.all_eq_true]
    intro y hy
    obtain ⟨j, hj, e⟩ := List.getElem_of_mem hy
    exact h 0 (j + 1) x y (by omega) (by simp) (by simp [List.getElem?_eq_getElem hj, e])
theorem quickQ_ok (ops : Array Oper) (tr : List (Nat × Foot)) (hm : tr.map (·.1) = List.range ops.size) (h : quickQ ops tr = true) : commutes ops (masks ops.toList []) tr = true ∧ edgesDown ops = true := by
  unfold quickQ statQ at h
  simp only [Bool.and_eq_true] at h
  obtain ⟨⟨h1, h2⟩, h3⟩ := h
  refine ⟨commutes_all ops _ tr fun i j x y hij hx hy => ?_, h2⟩
  obtain ⟨ex, fx⟩ := footQ_eq hm hx
  obtain ⟨ey, fy⟩ := footQ_eq hm hy
  cases ht : ((masks ops.toList []).getD y.1 0).testBit x.1 with
  | true => rfl
  | false =>
    have hjn : j < ops.size := by
      have := congrArg List.length hm
      simp at this
      have := (List.getElem?_eq_some_iff.1 hy).1
      omega
    have hmem : (i, j) ∈ unP ops := by
      unfold unP
      rw [List.mem_flatMap]
      refine ⟨j, by simpa using hjn, ?_⟩
      rw [List.mem_map]
      exact ⟨i, by rw [List.mem_filter]; exact ⟨by simpa using hij, by rw [ex, ey] at ht; rw [ht]; rfl⟩, rfl⟩
    have g1 := List.all_eq_true.1 h1 _ hmem
    have g2 := pairsQ_mem _ _ h3 _ hmem
    simp only [fx, fy] at g2
    simp only [Bool.false_or]
    unfold indep
    rw [ex, ey]
    simp only at g1
    cases ho : ops[i]? with
    | none => rw [ho] at g1; simp at g1
    | some o =>
      cases hp : ops[j]? with
      | none => rw [ho, hp] at g1; simp at g1
      | some q =>
        rw [ho, hp] at g1
        simp only [g1, g2, Bool.and_self]

noncomputable def ofStK {R : Type} (s : St) (k : StQ → R) : R := Fr.ofK s.F fun t => k ⟨t, s.H, s.nm⟩
theorem ofStK_eq (s : St) : ∃ q : StQ, q.Ok ∧ q.to = s ∧ ∀ (R : Type) (k : StQ → R), ofStK s k = k q := by
  obtain ⟨t, o, e, h⟩ := Fr.ofK_eq s.F
  exact ⟨⟨t, s.H, s.nm⟩, ⟨_, o⟩, by simp [StQ.to, e], fun R k => h R _⟩

noncomputable def chkQ (P : Program) (ops : Array Oper) (tr : List (Nat × Foot)) : Bool := (quickQ ops tr && P.follows .mixedOrders) || (commutes ops (masks ops.toList []) tr && edgesDown ops && P.follows .mixedOrders)
noncomputable def drawQ {R : Type} (draw : Bool) : Program → Array Oper → List (Nat × Foot) → Option (T R) → Option (T R) :=
  Bool.rec (motive := fun _ => Program → Array Oper → List (Nat × Foot) → Option (T R) → Option (T R)) (fun _ _ _ k => k) (fun P ops tr k => Bool.rec (motive := fun _ => Option (T R)) none k (chkQ P ops tr)) draw
theorem drawQ_eq {R : Type} (draw : Bool) (ops : Array Oper) (tr tr' : List (Nat × Foot)) (hm : tr'.map (·.1) = List.range ops.size) (htr : draw = true → tr = tr') (k : Option (T R)) :
    drawQ draw P ops tr k = bif !draw || (commutes ops (masks ops.toList []) tr' && edgesDown ops && P.follows .mixedOrders) then k else none := by
  cases draw with
  | false => rfl
  | true =>
    obtain rfl := htr rfl
    show Bool.rec (motive := fun _ => Option (T R)) none k (chkQ P ops tr) = _
    have : chkQ P ops tr = (commutes ops (masks ops.toList []) tr && edgesDown ops && P.follows .mixedOrders) := by
      unfold chkQ
      cases hq : quickQ ops tr with
      | false => simp
      | true =>
        obtain ⟨h1, h2⟩ := quickQ_ok ops tr hm hq
        rw [h1, h2]; simp
    rw [this]
    cases (commutes ops (masks ops.toList []) tr && edgesDown ops && P.follows .mixedOrders) <;> rfl
noncomputable def regionQ {R : Type} (P : Program) (orc : Orc) (ops : Array Oper) (draw : Bool) (s : StQ) (k : Out → StQ → Option (T R)) : Option (T R) :=
  bif draw && diamond ops then regionK P orc ops draw s.to fun o s' => ofStK s' fun q => k o q
  else opsQ P orc ops draw s.nm ops.toList 0 [] s.t s.H fun tr t H => drawQ draw P ops tr (natK (s.nm + 16 * ops.size) fun n => k .norm ⟨t, H, n⟩)

def KEq {R : Type} (kq : Out → StQ → Option (T R)) (k : Out → St → Option (T R)) : Prop := ∀ o (s : StQ), s.Ok → kq o s = k o s.to

theorem ofSt_keq {R : Type} {kq : Out → StQ → Option (T R)} {k : Out → St → Option (T R)} (h : KEq kq k) (o : Out) (s : St) : (ofStK s fun q => kq o q) = k o s := by
  obtain ⟨q, ho, e, hk⟩ := ofStK_eq s
  rw [hk, h o q ho, e]

theorem regionQ_eq {R : Type} (ops : Array Oper) (draw : Bool) (s : StQ) (hs : s.Ok) {kq : Out → StQ → Option (T R)} {k : Out → St → Option (T R)} (h : KEq kq k) : regionQ P orc ops draw s kq = regionK P orc ops draw s.to k := by
  unfold regionQ
  cases hd : (draw && diamond ops) with
  | true =>
    simp only [cond_true]
    have : (fun o s' => ofStK s' fun q => kq o q) = k := by funext o s'; exact ofSt_keq h o s'
    rw [this]
  | false =>
    simp only [cond_false]
    unfold regionK
    simp only [hd, cond_false]
    obtain ⟨hi, ho⟩ := hs
    have := opsQ_eq (P := P) (orc := orc) (R := R) ops draw s.nm ops.toList 0 (by simp) [] [] s.t hi s.H (fun tr t H => drawQ draw P ops tr (natK (s.nm + 16 * ops.size) fun n => kq .norm ⟨t, H, n⟩))
      (fun tr s' => bif !draw || (commutes ops (masks ops.toList []) tr && edgesDown ops && P.follows .mixedOrders) then k .norm ⟨s'.F, s'.H, s.nm + 16 * ops.size⟩ else none) ho rfl (fun _ => rfl) (fun tr tr' t H ho hm htr => by
        rw [drawQ_eq draw ops tr tr' (by simpa using hm) htr, natK_eq, h .norm ⟨t, H, _⟩ ⟨hi, ho⟩]
        rfl)
    rw [this]
    have e : List.range ops.size = List.range' 0 ops.toList.length := by rw [List.range_eq_range']; rfl
    rw [e]
    rfl

noncomputable def trimQ {R : Type} (k0 : Nat) (note : Option Note) (s : StQ) (k : StQ → Option (T R)) : Option (T R) := match note with
  | none => k s
  | some n => match trim k0 (some n) s.to with
    | none => none
    | some s0 => ofStK s0 k
theorem trimQ_eq {R : Type} (k0 : Nat) (note : Option Note) (s : StQ) (hs : s.Ok) {kq : StQ → Option (T R)} {k : St → Option (T R)} (h : ∀ s : StQ, s.Ok → kq s = k s.to) :
    trimQ k0 note s kq = match trim k0 note s.to with | none => none | some s0 => k s0 := by
  cases note with
  | none => exact h s hs
  | some n =>
    simp only [trimQ]
    cases trim k0 (some n) s.to with
    | none => rfl
    | some s0 =>
      obtain ⟨q, ho, e, hk⟩ := ofStK_eq s0
      simp only
      rw [hk, h q ho, e]

noncomputable def outK {R : Type} (o : Out) : (StQ → Option (T R)) → (Out → StQ → Option (T R)) → StQ → Option (T R) :=
  Out.rec (motive := fun _ => (StQ → Option (T R)) → (Out → StQ → Option (T R)) → StQ → Option (T R)) (fun g _ s => g s) (fun id _ k s => k (.exit id) s) (fun l _ k s => k (.goto l) s) (fun _ k s => k .ret s) o
noncomputable def blockK {R : Type} (o : Out) : Nat → (Out → StQ → Option (T R)) → StQ → Option (T R) :=
  Out.rec (motive := fun _ => Nat → (Out → StQ → Option (T R)) → StQ → Option (T R)) (fun _ k s => k .norm s) (fun j id k s => Bool.rec (motive := fun _ => Option (T R)) (k (.exit j) s) (k .norm s) (Nat.beq j id)) (fun l _ k s => k (.goto l) s) (fun _ k s => k .ret s) o
noncomputable def iterQ {R : Type} (k0 : Nat) (note : Option Note) (body : StQ → (Out → StQ → Option (T R)) → Option (T R)) (n : Nat) : StQ → (Out → StQ → Option (T R)) → Option (T R) :=
  Nat.rec (motive := fun _ => StQ → (Out → StQ → Option (T R)) → Option (T R)) (fun _ _ => none) (fun _ ih s k => body s fun o s' => outK o (fun s' => trimQ k0 note s' fun s0 => ih s0 k) k s') n
theorem iterQ_eq {R : Type} (k0 : Nat) (note : Option Note) {bq : StQ → (Out → StQ → Option (T R)) → Option (T R)} {b : St → (Out → St → Option (T R)) → Option (T R)}
    (hb : ∀ (s : StQ) kq k, s.Ok → KEq kq k → bq s kq = b s.to k) : ∀ (n : Nat) (s : StQ) kq k, s.Ok → KEq kq k → iterQ k0 note bq n s kq = iterK k0 note b n s.to k
  | 0, s, kq, k, _, _ => rfl
  | n + 1, s, kq, k, hs, hk => by
    show (bq s fun o s' => outK o (fun s' => trimQ k0 note s' fun s0 => iterQ k0 note bq n s0 kq) kq s') = _
    simp only [iterK]
    refine hb s _ _ hs fun o s' hs' => ?_
    cases o with
    | norm => exact trimQ_eq k0 note s' hs' (kq := fun s0 => iterQ k0 note bq n s0 kq) (k := fun s0 => iterK k0 note b n s0 k) fun s0 h0 => iterQ_eq k0 note hb n s0 kq k h0 hk
    | exit id => exact hk _ _ hs'
    | goto l => exact hk _ _ hs'
    | ret => exact hk _ _ hs'
noncomputable def scopeK {R : Type} (k0 n : Nat) (ann : Ann) (c : Code) (ev : Option Nat → StQ → (Out → StQ → Option (T R)) → Option (T R)) (l : Nat) (k : Out → StQ → Option (T R)) (s' : StQ) : Option (T R) :=
  match findLabel c l with
      | some rest => trimQ k0 ((firstR rest).bind ann) s' fun s0 => iterQ k0 ((firstR rest).bind ann) (fun s' k' => ev (some l) s' fun o s'' => match o with
            | .goto m => bif m == l then k' .norm s'' else none
            | .norm => k' (.goto l) s''
            | .exit id => k' (.exit id) s''
            | .ret => k' .ret s'') n s0 fun o s'' => match o with
              | .goto _ => k .norm s''
              | .norm => none
              | .exit id => k (.exit id) s''
              | .ret => k .ret s''
      | none => none
noncomputable def condQ {R : Type} (x : AV) (a b : Option (T R)) : Option (T R) := match x with
    | .c (.d (.v (.bool t))) => Bool.rec (motive := fun _ => Option (T R)) b a t
    | _ => none
noncomputable def noLab {R : Type} (lab : Option Nat) : Option (T R) → Option (T R) := Option.rec (motive := fun _ => Option (T R) → Option (T R)) (fun x => x) (fun _ _ => none) lab
noncomputable def seqQ {R : Type} (lab : Option Nat) : Code → (Option Nat → StQ → (Out → StQ → Option (T R)) → Option (T R)) → (Option Nat → StQ → (Out → StQ → Option (T R)) → Option (T R)) → StQ → (Out → StQ → Option (T R)) → Option (T R) :=
  Option.rec (motive := fun _ => Code → (Option Nat → StQ → (Out → StQ → Option (T R)) → Option (T R)) → (Option Nat → StQ → (Out → StQ → Option (T R)) → Option (T R)) → StQ → (Out → StQ → Option (T R)) → Option (T R))
    (fun _ ea eb s k => ea none s fun o s' => outK o (fun s' => eb none s' k) k s')
    (fun l a ea eb s k => bif hasLabel l a then ea (some l) s (fun o s' => outK o (fun s' => eb none s' k) k s') else eb (some l) s k) lab
noncomputable def gateQ {R : Type} (P : Program) (orc : Orc) (ann : Ann) (k0 n : Nat) (id : Nat) (ops : Array Oper) (draw : Bool) (s : StQ) (k : Out → StQ → Option (T R)) : Option (T R) := match ann (id + 100000) with
  | none => regionQ P orc ops draw s k
  | some nt => trimQ k0 (some nt) s fun s0 => iterQ k0 ((firstR (.region id ops draw)).bind ann) (fun s' k' => regionQ P orc ops draw s' fun o s'' => match o with
      | .norm => k' .ret s''
      | _ => none) n s0 fun o s'' => match o with
        | .ret => k .norm s''
        | _ => none
noncomputable def evQ {R : Type} (P : Program) (orc : Orc) (ann : Ann) (k0 n : Nat) (c : Code) : Option Nat → StQ → (Out → StQ → Option (T R)) → Option (T R) :=
  Code.rec (motive := fun _ => Option Nat → StQ → (Out → StQ → Option (T R)) → Option (T R))
    (fun lab s k => noLab lab (k .norm s))
    (fun id ops draw lab s k => noLab lab (gateQ P orc ann k0 n id ops draw s k))
    (fun a _ ea eb lab s k => seqQ lab a ea eb s k)
    (fun c _ _ ex ey lab s k => noLab lab (condQ (opQ s.t c) (ex none s k) (ey none s k)))
    (fun id _ ec lab s k => noLab lab (ec none s fun o s' => blockK o id k s'))
    (fun c ec lab s k => noLab lab (trimQ k0 ((firstR c).bind ann) s fun s0 => iterQ k0 ((firstR c).bind ann) (fun s' k' => ec none s' k') n s0 k))
    (fun _ _ _ _ _ _ _ _ _ => none)
    (fun id lab s k => noLab lab (k (.exit id) s))
    (fun c ec lab s k => noLab lab (ec none s fun o s' => match o with
      | .goto l => scopeK k0 n ann c ec l k s'
      | .norm => k .norm s'
      | .exit id => k (.exit id) s'
      | .ret => k .ret s'))
    (fun m lab s k => match lab with | none => k .norm s | some l => bif m == l then k .norm s else none)
    (fun l lab s k => noLab lab (k (.goto l) s))
    (fun lab s k => noLab lab (k .ret s))
    (fun _ _ _ _ => none) c

theorem condQ_eq {R : Type} (x : AV) (a b : Option (T R)) : condQ x a b = match x with | .c (.d (.v (.bool t))) => bif t then a else b | _ => none := by
  unfold condQ
  split
  · rename_i t
    cases t <;> rfl
  · rfl
theorem evQ_eq {R : Type} (ann : Ann) (k0 n : Nat) : ∀ (c : Code) (lab : Option Nat) (s : StQ) (kq : Out → StQ → Option (T R)) (k : Out → St → Option (T R)), s.Ok → KEq kq k → evQ P orc ann k0 n c lab s kq = evK P orc ann k0 n c lab s.to k := by
  intro c
  induction c with
  | skip =>
    intro lab s kq k hs hk
    cases lab with
    | none => simp only [evK]; exact hk _ _ hs
    | some l => simp only [evK]; rfl
  | region id ops draw =>
    intro lab s kq k hs hk
    cases lab with
    | none =>
      simp only [evK]
      show gateQ P orc ann k0 n id ops draw s kq = _
      unfold gateQ
      cases ann (id + 100000) with
      | none => exact regionQ_eq ops draw s hs hk
      | some nt =>
        simp only []
        refine trimQ_eq k0 (some nt) s hs fun s0 h0 => ?_
        refine iterQ_eq k0 _ (b := fun s' k' => regionK P orc ops draw s' (gateN fun s'' => k' .ret s'')) (fun s1 kq1 k1 h1 hk1 => regionQ_eq ops draw s1 h1 fun o s2 h2 => ?_) n s0 _ _ h0 fun o s2 h2 => ?_
        · cases o with
          | norm => exact hk1 _ _ h2
          | _ => rfl
        · cases o with
          | ret => exact hk _ _ h2
          | _ => rfl
    | some l => simp only [evK]; rfl
  | seq a b iha ihb =>
    intro lab s kq k hs hk
    have go : ∀ lab', (evQ P orc ann k0 n a lab' s fun o s' => outK o (fun s' => evQ P orc ann k0 n b none s' kq) kq s') = evK P orc ann k0 n a lab' s.to fun o s' => match o with
        | .norm => evK P orc ann k0 n b none s' k
        | .exit id => k (.exit id) s'
        | .goto l => k (.goto l) s'
        | .ret => k .ret s' := fun lab' => iha lab' s _ _ hs fun o s' hs' => by
          cases o with
          | norm => exact ihb none s' kq k hs' hk
          | exit id => exact hk _ _ hs'
          | goto l => exact hk _ _ hs'
          | ret => exact hk _ _ hs'
    cases lab with
    | none => simp only [evK]; exact go none
    | some l =>
      simp only [evK]
      show (bif hasLabel l a then (evQ P orc ann k0 n a (some l) s fun o s' => outK o (fun s' => evQ P orc ann k0 n b none s' kq) kq s') else evQ P orc ann k0 n b (some l) s kq) = _
      cases hasLabel l a with
      | true => simp only [cond_true]; exact go (some l)
      | false => simp only [cond_false]; exact ihb (some l) s kq k hs hk
  | cond c x y ihx ihy =>
    intro lab s kq k hs hk
    cases lab with
    | some l => simp only [evK]; rfl
    | none =>
      simp only [evK]
      show condQ (opQ s.t c) (evQ P orc ann k0 n x none s kq) (evQ P orc ann k0 n y none s kq) = _
      have hs1 := hs
      obtain ⟨hi, ho⟩ := hs
      rw [condQ_eq, opQ_eq ho, ihx none s kq k hs1 hk, ihy none s kq k hs1 hk]
      rfl
  | block id c ih =>
    intro lab s kq k hs hk
    cases lab with
    | some l => simp only [evK]; rfl
    | none =>
      simp only [evK]
      refine ih none s _ _ hs fun o s' hs' => ?_
      cases o with
      | norm => exact hk _ _ hs'
      | exit j =>
        show Bool.rec (motive := fun _ => Option (T R)) (kq (.exit j) s') (kq .norm s') (Nat.beq j id) = bif j == id then _ else _
        have e : (j == id) = Nat.beq j id := by rw [beqD]; exact Bool.beq_eq_decide_eq j id
        rw [e]
        cases Nat.beq j id with
        | true => exact hk _ _ hs'
        | false => exact hk _ _ hs'
      | goto l => exact hk _ _ hs'
      | ret => exact hk _ _ hs'
  | loop c ih =>
    intro lab s kq k hs hk
    cases lab with
    | some l => simp only [evK]; rfl
    | none =>
      simp only [evK]
      exact trimQ_eq k0 _ s hs (kq := fun s0 => iterQ k0 ((firstR c).bind ann) (fun s' k' => evQ P orc ann k0 n c none s' k') n s0 kq) (k := fun s0 => iterK k0 ((firstR c).bind ann) (fun s' k' => evK P orc ann k0 n c none s' k') n s0 k) fun s0 h0 => iterQ_eq k0 _ (fun s1 kq1 k1 h1 hk1 => ih none s1 kq1 k1 h1 hk1) n s0 kq k h0 hk
  | scope c ih =>
    intro lab s kq k hs hk
    cases lab with
    | some l => simp only [evK]; rfl
    | none =>
      simp only [evK]
      refine ih none s _ _ hs fun o s' hs' => ?_
      cases o with
      | norm => exact hk _ _ hs'
      | exit id => exact hk _ _ hs'
      | ret => exact hk _ _ hs'
      | goto l =>
        show scopeK k0 n ann c (evQ P orc ann k0 n c) l kq s' = _
        unfold scopeK
        simp only []
        cases findLabel c l with
        | none => rfl
        | some rest =>
          simp only []
          refine trimQ_eq k0 _ s' hs' fun s0 h0 => ?_
          refine iterQ_eq k0 _ (b := fun s' k' => evK P orc ann k0 n c (some l) s' fun o s'' => match o with
            | .goto m => bif m == l then k' .norm s'' else none
            | .norm => k' (.goto l) s''
            | .exit id => k' (.exit id) s''
            | .ret => k' .ret s'') (fun s1 kq1 k1 h1 hk1 => ih (some l) s1 _ _ h1 fun o s2 h2 => ?_) n s0 _ _ h0 fun o s2 h2 => ?_
          · cases o with
            | goto m => cases hj : (m == l) with
              | true => simp only [hj, cond_true]; exact hk1 _ _ h2
              | false => simp only [hj, cond_false]
            | norm => exact hk1 _ _ h2
            | exit id => exact hk1 _ _ h2
            | ret => exact hk1 _ _ h2
          · cases o with
            | goto m => exact hk _ _ h2
            | norm => rfl
            | exit id => exact hk _ _ h2
            | ret => exact hk _ _ h2
  | label m =>
    intro lab s kq k hs hk
    cases lab with
    | none => simp only [evK]; exact hk _ _ hs
    | some l =>
      simp only [evK]
      show (bif m == l then kq .norm s else none) = _
      cases hj : (m == l) with
      | true => simp only [cond_true]; exact hk _ _ hs
      | false => simp only [cond_false]
  | goto l => intro lab s kq k hs hk; cases lab with
    | none => simp only [evK]; exact hk _ _ hs
    | some l => simp only [evK]; rfl
  | exit l => intro lab s kq k hs hk; cases lab with
    | none => simp only [evK]; exact hk _ _ hs
    | some l => simp only [evK]; rfl
  | ret => intro lab s kq k hs hk; cases lab with
    | none => simp only [evK]; exact hk _ _ hs
    | some l => simp only [evK]; rfl
  | _ => intro lab s kq k hs hk; cases lab <;> (simp only [evK]; rfl)

noncomputable def resultsQ (P : Program) (fn : Func) (t : Fr) (H : Hp) : Option (List (Bool × List C)) :=
  fn.results.toList.foldr (fun r acc => match acc with
    | none => none
    | some l => match r with
      | .tmp i => (match t.get i with
        | .c x => some ((false, [x]) :: l)
        | .agg cs => some ((true, cs) :: l)
        | _ => none)
      | .cell a ty => (match t.get a, aggT P ty, sizeT P ty with
        | .c (.ptr h off), some ag, some n => (match loadA H h 0 0 off (bif ag then n else 1) ag with
          | some (.c x) => some ((false, [x]) :: l)
          | some (.agg cs) => some ((true, cs) :: l)
          | _ => none)
        | _, _, _ => none)) (some [])
theorem resultsQ_eq (fn : Func) (s : StQ) (hs : s.Ok) : resultsQ P fn s.t s.H = resultsA P fn s.to := by
  obtain ⟨hi, ho⟩ := hs
  have e : ∀ i, s.t.get i = s.to.F.getD i .u := fun i => by
    have := Fr.get_eq ho (Nat.zero_le i)
    rwa [Nat.sub_zero] at this
  unfold resultsQ resultsA
  simp only [e]
  rfl
noncomputable def endQ {R : Type} (P : Program) (fn : Func) (k0 : Nat) (k : AV → Hp → Option (T R)) : Out → StQ → Option (T R) := fun o s => match o with
  | .exit _ => none
  | .goto _ => none
  | _ => match resultsQ P fn s.t s.H with
    | some l => (match ofResults l with
      | some x => let L := newL k0 s.H (namesA x); k (renA (newN k0 L) x) (canonH k0 s.H L)
      | none => none)
    | none => none
theorem endQ_eq {R : Type} (fn : Func) (k0 : Nat) (k : AV → Hp → Option (T R)) : KEq (endQ P fn k0 k) (endK P fn k0 k) := fun o s hs => by
  unfold endQ endK
  rw [resultsQ_eq fn s hs]
  rfl
noncomputable def callQ {R : Type} (P : Program) (orc : Orc) (ann : Ann) (n : Nat) (fn : Func) (c : Code) (args : List AV) (H : Hp) (k : AV → Hp → Option (T R)) : Option (T R) :=
  Fr.putsK args 0 (Fr.base (args.length + (fn.ntmps - args.length)) 0 (args.length + (fn.ntmps - args.length))) fun t => evQ P orc ann H.length n c none ⟨t, H, H.length⟩ (endQ P fn H.length k)
theorem callQ_eq {R : Type} (ann : Ann) (n : Nat) (fn : Func) (c : Code) (args : List AV) (H : Hp) (k : AV → Hp → Option (T R)) : callQ P orc ann n fn c args H k = callK P orc ann n fn c args H k := by
  unfold callQ callK
  have hb := Fr.base_ok (args.length + (fn.ntmps - args.length)) 0 (args.length + (fn.ntmps - args.length)) (Nat.le_refl _)
  rw [Nat.zero_add] at hb
  obtain ⟨t, o, e, h⟩ := Fr.putsK_eq args hb.1 (i := 0) (by omega)
  rw [h, evQ_eq (P := P) (orc := orc) ann H.length n c none ⟨t, H, H.length⟩ _ _ ⟨_, o⟩ (endQ_eq fn H.length k)]
  congr 1
  unfold StQ.to
  rw [e, hb.2]
  simp
end

noncomputable def deepQ (P : Program) (ann : FuncId → Ann) (top : Orc) (fuel : Nat) : Nat → Orc
  | 0 => top
  | n + 1 => fun _ f args H k => match P.funcs[f]? with
    | some fn => (match fn.body with
      | some c => bif seqN 0 H then (match callQ P (deepQ P ann top fuel n) (ann f) fuel fn c args H (fun x H' => some (.leaf (x, H'))) with
        | some t => (match join 40 t with
          | some (x, H') => k x H'
          | none => none)
        | none => none) else none
      | none => top _ f args H k)
    | none => none
theorem deepQ_eq (P : Program) (ann : FuncId → Ann) (top : Orc) (fuel : Nat) : ∀ n, deepQ P ann top fuel n = deepJ P ann top fuel n
  | 0 => rfl
  | n + 1 => by
    funext R f args H k
    simp only [deepQ, deepJ, deepQ_eq P ann top fuel n, callQ_eq, callA]
    try rfl
theorem deepQ_ok (P : Program) (ann : FuncId → Ann) {top : Orc} (ht : OrcOk P top) (fuel n : Nat) : OrcOk P (deepQ P ann top fuel n) := by rw [deepQ_eq]; exact deepJ_ok P ann ht fuel n
theorem cxQ_of {P : Program} {orc : Orc} (ho : OrcOk P orc) {ann : Ann} {n : Nat} {f : FuncId} {fn : Func} {c : Code} {args : List AV} {H : Hp} {x : AV} {H' : Hp} (hf : P.funcs[f]? = some fn) (hb : fn.body = some c) (hH : seqN 0 H = true)
    (h : callQ P orc ann n fn c args H (fun x H' => some (.leaf (x, H'))) = some (.leaf (x, H'))) : CX P f args H x H' := cxA_of ho hf hb hH (by rw [callQ_eq] at h; exact h)
end Go.Eb
namespace Go.Eb
open Go.RowKit

def frzP (H : Hp) : List (Bool × List C) → Option (List (Bool × List D))
  | [] => some []
  | p :: r => match frzL H 400 p.2 with
    | some (ds, _) => match frzP H r with
      | some l => some ((p.1, ds) :: l)
      | none => none
    | none => none
def partD (p : Bool × List D) : Bool × List C := (p.1, p.2.map .d)
def frzA (H : Hp) : AV → Option AV
  | .c x => match frz H 400 x with
    | some (d, _) => some (.c (.d d))
    | none => none
  | .agg cs => match frzL H 400 cs with
    | some (ds, _) => some (.agg (ds.map .d))
    | none => none
  | .tup ps => match frzP H ps with
    | some l => some (.tup (l.map partD))
    | none => none
  | .u => some .u

section
variable {β : Bt} {w : World} {I : Im} {H : Hp}
def allB (β : Bt) (I : Im) : Im := fun b o => I b o ∨ ∃ k, (β k).blk = some b

theorem repDs_cs {I' : Im} {β' : Bt} {ds : List D} {vs : List Value} (h : RepDs w I' ds vs) : RepCs β' w I' (ds.map .d) vs := by
  refine ⟨by simpa using h.1, fun i c v h1 h2 => ?_⟩
  rw [List.getElem?_map] at h1
  cases hd : ds[i]? with
  | none => rw [hd] at h1; cases h1
  | some d => rw [hd] at h1; cases h1; exact h.2 i d v hd h2

theorem frzP_ok (hr : RelH β H I w) {β' : Bt} : ∀ (ps : List (Bool × List C)) (l : List (Bool × List D)), frzP H ps = some l → l.length = ps.length ∧ ∀ (i : Nat) p q v, ps[i]? = some p → l[i]? = some q → RepP β w I p v → RepP β' w (allB β I) (partD q) v
  | [], l, h => by simp [frzP] at h; subst h; exact ⟨rfl, fun i p q v h => by simp at h⟩
  | p :: r, l, h => by
    simp only [frzP] at h
    split at h
    · rename_i ds ks hf
      split at h
      · rename_i l' hl
        simp only [Option.some.injEq] at h
        subst h
        obtain ⟨h1, h2⟩ := frzP_ok hr r l' hl
        refine ⟨by simp [h1], fun i p' q v e1 e2 hp => ?_⟩
        cases i with
        | succ i => exact h2 i p' q v (by simpa using e1) (by simpa using e2) hp
        | zero =>
          simp at e1 e2
          subst e1 e2
          obtain ⟨b, cs⟩ := p
          have key : ∀ vs, RepCs β w I cs vs → RepDs w (allB β I) ds vs := fun vs hv => (frzL_ok hr 400 cs ds ks vs hf hv).2 _ (fun _ _ hi => .inl hi) (fun k _ b hb o => .inr ⟨k, hb⟩)
          cases b with
          | true => obtain ⟨vs, rfl, hv⟩ := hp; exact ⟨vs, rfl, repDs_cs (key _ hv)⟩
          | false =>
            obtain ⟨c, hcs, hv⟩ := hp
            have hcs : cs = [c] := hcs
            subst hcs
            have := key [v] ⟨rfl, fun i c' v' h1 h2 => by
              cases i with
              | zero => simp at h1 h2; subst h1 h2; exact hv
              | succ i => simp at h1⟩
            match ds, this with
            | [d], this => exact ⟨.d d, rfl, this.2 0 d v rfl rfl⟩
      · simp at h
    · simp at h

theorem frzA_ok (hr : RelH β H I w) {β' : Bt} {x y : AV} {v : Value} (h : frzA H x = some y) (hx : RepA β w I x v) : RepA β' w (allB β I) y v := by
  cases x with
  | c x =>
    simp only [frzA] at h
    split at h
    · rename_i d ks hf
      simp only [Option.some.injEq] at h
      subst h
      exact (frz_ok hr 400 x d ks v hf hx).2 _ (fun _ _ hi => .inl hi) (fun k _ b hb o => .inr ⟨k, hb⟩)
    · simp at h
  | agg cs =>
    simp only [frzA] at h
    split at h
    · rename_i ds ks hf
      simp only [Option.some.injEq] at h
      subst h
      obtain ⟨vs, rfl, hv⟩ := hx
      exact ⟨vs, rfl, repDs_cs ((frzL_ok hr 400 cs ds ks _ hf hv).2 _ (fun _ _ hi => .inl hi) (fun k _ b hb o => .inr ⟨k, hb⟩))⟩
    · simp at h
  | tup ps =>
    simp only [frzA] at h
    split at h
    · rename_i l hf
      simp only [Option.some.injEq] at h
      subst h
      obtain ⟨vs, rfl, hl, hv⟩ := hx
      obtain ⟨h1, h2⟩ := frzP_ok (β' := β') hr ps l hf
      refine ⟨vs, rfl, by simpa [h1] using hl, fun i p x e1 e2 => ?_⟩
      rw [List.getElem?_map] at e1
      cases hq : l[i]? with
      | none => rw [hq] at e1; cases e1
      | some q =>
        rw [hq] at e1
        simp only [Option.map_some, Option.some.injEq] at e1
        subst e1
        have hlt : i < ps.length := by rw [← h1]; exact (List.getElem?_eq_some_iff.1 hq).1
        exact h2 i _ q x (List.getElem?_eq_getElem hlt) hq (hv i _ x (List.getElem?_eq_getElem hlt) e2)
    · simp at h
  | u => simp [frzA] at h; subst h; trivial
end

theorem CR.data {P : Program} {f : FuncId} {args : List AV} {x y : AV} {Hr : Hp} (h : CR P f args [] x Hr) (hf : frzA Hr x = some y) : CR P f args [] y [] := by
  intro β I w vs hr ha
  refine (h β I w vs hr ha).mono fun e w' ⟨v, β', I', he, hr', hx, hE, hm⟩ => ?_
  have hfree : ∀ h, β h = .free := fun h => hr.dom h rfl
  refine ⟨v, β, allB β' I', he, ?_, frzA_ok hr' hf hx, ?_, .refl _⟩
  · refine ⟨⟨fun i j b hi => ?_, fun i b hi => ?_, fun i b o hi => ?_, fun b o hi => ?_, hr'.gl.step (fun _ _ hi => .inl hi) (fun _ _ _ => rfl)⟩, fun i _ => hfree i, fun i B hB => by simp [look] at hB⟩
    · rw [hfree i] at hi; cases hi
    · rw [hfree i] at hi; cases hi
    · rw [hfree i] at hi; cases hi
    · rcases hi with hi | ⟨k, hk⟩
      · exact hr'.old b o hi
      · exact hr'.lt k b hk
  · refine ⟨hE.os, hE.tape, hE.output, hE.size, hE.block, fun b o hi => .inl (hE.keepI b o hi), hE.cell, fun b o hi => ?_, fun i b hb => .inl ⟨i, hb⟩, hE.shapes⟩
    rcases hi with hi | ⟨k, hk⟩
    · exact hE.newI b o hi
    · rcases hE.newB k b hk with ⟨j, hj⟩ | hj
      · exact .inr (.inr ⟨j, hj⟩)
      · exact .inr (.inl hj)

/-! what data stands for, by its spelling -/
section
variable {α : Type} [Inhabited α]
noncomputable def okE (enc : α → D) (x : D) : Bool := @decide (∃ a, DE x (enc a)) (Classical.propDecidable _)
noncomputable def theE (enc : α → D) (x : D) : α := @dite _ (∃ a, DE x (enc a)) (Classical.propDecidable _) (fun h => Classical.choose h) (fun _ => default)
omit [Inhabited α] in
theorem okE_iff {enc : α → D} {x : D} : okE enc x = true ↔ ∃ a, DE x (enc a) := by unfold okE; simp
theorem theE_de {enc : α → D} {x : D} (h : okE enc x = true) : DE x (enc (theE enc x)) := by
  have h' := okE_iff.1 h
  unfold theE
  rw [dif_pos h']
  exact Classical.choose_spec h'
theorem theE_of {enc : α → D} (inj : ∀ a b, DE (enc a) (enc b) → a = b) {x : D} {a : α} (h1 : DE x (enc a)) (h2 : DE (enc a) x) : okE enc x = true ∧ theE enc x = a := by
  have h := okE_iff.2 ⟨a, h1⟩
  exact ⟨h, (inj _ _ (h2.trans (theE_de h))).symm⟩
end

def listD {β : Type} (sz : Nat) (c : β → List D) (d0 : β) (l : List β) : D := .sl sz l.length fun i => c (l.getD i d0)
theorem list_ext0 {β : Type} {d : β} : ∀ {l l' : List β}, l.length = l'.length → (∀ i, i < l.length → l.getD i d = l'.getD i d) → l = l'
  | [], [], _, _ => rfl
  | x :: r, y :: r', hl, h => by
    have h0 := h 0 (by simp)
    simp at h0
    rw [h0, list_ext0 (l := r) (l' := r') (by simpa using hl) (fun i hi => by have := h (i + 1) (by simpa using hi); simpa using this)]
  | [], _ :: _, hl, _ => by simp at hl
  | _ :: _, [], hl, _ => by simp at hl
theorem listD_inj {β : Type} {sz : Nat} {c : β → List D} {d0 : β} (hc : ∀ a b, DEs (c a) (c b) → a = b) (l l' : List β) (h : DE (listD sz c d0 l) (listD sz c d0 l')) : l = l' := by
  unfold listD at h
  generalize he : l'.length = n' at h
  generalize hg : (fun i => c (l'.getD i d0)) = g at h
  generalize hn : l.length = n at h
  generalize hf : (fun i => c (l.getD i d0)) = f at h
  cases h with
  | sl _ _ _ _ h1 h2 =>
    refine list_ext0 (d := d0) (by omega) fun i hi => ?_
    refine hc _ _ ⟨?_, fun j d e hd he' => ?_⟩
    · have := h1 i (by omega); rw [← hf, ← hg] at this; exact this
    · exact h2 i j d e (by omega) (by rw [← hf]; exact hd) (by rw [← hg]; exact he')
theorem dv_inj {a b : Value} (h : DE (.v a) (.v b)) : a = b := by cases h; rfl
end Go.Eb
namespace Go.Eb
open Go.RowKit

structure Wd where
  text : ByteArray
  q : Bool

inductive It where
  | mk (line : Int) (words : List Wd) (block : Bool) (kids : List It)

namespace It
def line : It → Int | mk l _ _ _ => l
def words : It → List Wd | mk _ w _ _ => w
def block : It → Bool | mk _ _ b _ => b
def kids : It → List It | mk _ _ _ k => k
end It

def w0 : Wd := ⟨ByteArray.mk #[], false⟩
def i0 : It := .mk 0 [] false []

def wcells (w : Wd) : List D := [.v (.string w.text), .v (.bool w.q)]
def wordsD (l : List Wd) : D := .sl 2 l.length fun i => wcells (l.getD i w0)

def kidF : List It → Nat → List D
  | [], _ => []
  | .mk l w b k :: _, 0 => [.v (.int .i64 l), wordsD w, .v (.bool b), .sl 4 k.length (kidF k)]
  | _ :: r, i + 1 => kidF r i
def kidsD (x : It) : D := .sl 4 x.kids.length (kidF x.kids)

def icells (x : It) : List D := [.v (.int .i64 x.line), wordsD x.words, .v (.bool x.block), kidsD x]
def itemsD (l : List It) : D := .sl 4 l.length fun i => icells (l.getD i i0)

theorem kidF_eq : ∀ (l : List It) (i : Nat), i < l.length → kidF l i = icells (l.getD i i0)
  | [], i, h => by simp at h
  | .mk a b c k :: r, 0, _ => by simp only [kidF, List.getD_cons_zero, icells, kidsD, It.line, It.words, It.block, It.kids]
  | x :: r, i + 1, h => by simp only [kidF, List.getD_cons_succ]; exact kidF_eq r i (by simpa using h)

theorem kidsD_de (x : It) : DE (kidsD x) (itemsD x.kids) := by
  exact .sl_eq fun i hi => kidF_eq x.kids i hi
theorem itemsD_de (x : It) : DE (itemsD x.kids) (kidsD x) := by
  exact .sl_eq fun i hi => (kidF_eq x.kids i hi).symm

theorem de_v {a b : Value} (h : DE (.v a) (.v b)) : a = b := by cases h; rfl
theorem de_sl {sz n sz' m : Nat} {f g : Nat → List D} (h : DE (.sl sz n f) (.sl sz' m g)) : sz = sz' ∧ n = m ∧ ∀ i, i < n → DEs (f i) (g i) := by
  cases h with
  | sl _ _ _ _ h1 h2 => exact ⟨rfl, rfl, fun i hi => ⟨h1 i hi, fun j d e hd he => h2 i j d e hi hd he⟩⟩

theorem wcells_inj {a b : Wd} (h : DEs (wcells a) (wcells b)) : a = b := by
  have h1 := de_v (h.2 0 _ _ rfl rfl)
  have h2 := de_v (h.2 1 _ _ rfl rfl)
  cases a; cases b
  simp at h1 h2
  rw [h1, h2]

theorem list_ext {α : Type} {d : α} : ∀ {l l' : List α}, l.length = l'.length → (∀ i, i < l.length → l.getD i d = l'.getD i d) → l = l'
  | [], [], _, _ => rfl
  | x :: r, y :: r', hl, h => by
    have h0 := h 0 (by simp)
    simp at h0
    rw [h0, list_ext (l := r) (l' := r') (by simpa using hl) (fun i hi => by have := h (i + 1) (by simpa using hi); simpa using this)]
  | [], _ :: _, hl, _ => by simp at hl
  | _ :: _, [], hl, _ => by simp at hl

theorem wordsD_inj {l l' : List Wd} (h : DE (wordsD l) (wordsD l')) : l = l' := by
  obtain ⟨_, hl, hf⟩ := de_sl h
  exact list_ext hl fun i hi => wcells_inj (hf i hi)

theorem kidF_inj : ∀ (l l' : List It), l.length = l'.length → (∀ i, i < l.length → DEs (kidF l i) (kidF l' i)) → l = l'
  | [], [], _, _ => rfl
  | .mk a b c k :: r, .mk a' b' c' k' :: r', hl, h => by
    have h0 := h 0 (by simp)
    simp only [kidF] at h0
    have e1 := de_v (h0.2 0 _ _ rfl rfl)
    have e2 := wordsD_inj (h0.2 1 _ _ rfl rfl)
    have e3 := de_v (h0.2 2 _ _ rfl rfl)
    obtain ⟨_, hl4, hf4⟩ := de_sl (h0.2 3 _ _ rfl rfl)
    have e4 := kidF_inj k k' hl4 hf4
    have er := kidF_inj r r' (by simpa using hl) (fun i hi => by have := h (i + 1) (by simpa using hi); simpa [kidF] using this)
    simp at e1 e3
    rw [e1, e2, e3, e4, er]
  | [], _ :: _, hl, _ => by simp at hl
  | _ :: _, [], hl, _ => by simp at hl
theorem kidsD_inj (x y : It) (h : DE (kidsD x) (kidsD y)) : x.kids = y.kids := by
  obtain ⟨_, hl, hf⟩ := de_sl h
  exact kidF_inj x.kids y.kids hl hf

theorem itemsD_inj {l l' : List It} (h : DE (itemsD l) (itemsD l')) : l = l' := by
  have h1 : DE (kidsD (.mk 0 [] false l)) (kidsD (.mk 0 [] false l')) := (kidsD_de (.mk 0 [] false l)).trans (h.trans (itemsD_de (.mk 0 [] false l')))
  exact kidsD_inj _ _ h1

noncomputable def okI (x : D) : Bool := @decide (∃ l, DE x (itemsD l)) (Classical.propDecidable _)
noncomputable def theI (x : D) : List It := @dite _ (∃ l, DE x (itemsD l)) (Classical.propDecidable _) (fun h => Classical.choose h) (fun _ => [])
theorem okI_iff {x : D} : okI x = true ↔ ∃ l, DE x (itemsD l) := by unfold okI; simp
theorem theI_de {x : D} (h : okI x = true) : DE x (itemsD (theI x)) := by
  have h' := okI_iff.1 h
  unfold theI
  rw [dif_pos h']
  exact Classical.choose_spec h'
theorem theI_of {x : D} {l : List It} (h1 : DE x (itemsD l)) (h2 : DE (itemsD l) x) : okI x = true ∧ theI x = l := by
  have h := okI_iff.2 ⟨l, h1⟩
  exact ⟨h, (itemsD_inj (h2.trans (theI_de h))).symm⟩
theorem okI_kids (x : It) : okI (kidsD x) = true := (theI_of (kidsD_de x) (itemsD_de x)).1
theorem theI_kids (x : It) : theI (kidsD x) = x.kids := (theI_of (kidsD_de x) (itemsD_de x)).2
def dep : List It → Nat
  | [] => 0
  | .mk _ _ _ k :: r => max (dep k + 1) (dep r)

theorem dep_get : ∀ (l : List It) (i : Nat), i < l.length → dep (l.getD i i0).kids < dep l
  | [], i, h => by simp at h
  | .mk a b c k :: r, 0, _ => by simp [dep, It.kids]; omega
  | .mk a b c k :: r, i + 1, h => by
    have := dep_get r i (by simpa using h)
    simp only [List.getD_cons_succ, dep]
    omega

def fits : List It → Bool
  | [] => true
  | .mk _ w _ k :: r => decide (k.length ≤ 9223372036854775807) && decide (w.length ≤ 9223372036854775807) && w.all (fun x => decide (x.text.size ≤ 9223372036854775807)) && fits k && fits r
def okL (l : List It) : Bool := decide (l.length ≤ 9223372036854775807) && fits l
def okWs (w : List Wd) : Bool := decide (w.length ≤ 9223372036854775807) && w.all fun x => decide (x.text.size ≤ 9223372036854775807)

theorem fits_get : ∀ (l : List It) (i : Nat), i < l.length → fits l = true → okL (l.getD i i0).kids = true ∧ okWs (l.getD i i0).words = true
  | [], i, h, _ => by simp at h
  | .mk a b c k :: r, 0, _, hf => by
    simp only [fits, Bool.and_eq_true] at hf
    obtain ⟨⟨⟨⟨h1, h2⟩, h3⟩, h4⟩, h5⟩ := hf
    simp only [List.getD_cons_zero, It.kids, It.words, okL, okWs, h1, h2, h3, h4, Bool.and_self, and_self]
  | .mk a b c k :: r, i + 1, h, hf => by
    simp only [fits, Bool.and_eq_true] at hf
    simp only [List.getD_cons_succ]
    exact fits_get r i (by simpa using h) hf.2
theorem okL_len {l : List It} (h : okL l = true) : l.length ≤ 9223372036854775807 := by unfold okL at h; simp at h; exact h.1
theorem okL_fits {l : List It} (h : okL l = true) : fits l = true := by unfold okL at h; simp at h; exact h.2
theorem okL_get {l : List It} (h : okL l = true) {i : Nat} (hi : i < l.length) : okL (l.getD i i0).kids = true ∧ okWs (l.getD i i0).words = true := fits_get l i hi (okL_fits h)
theorem okWs_len {l : List Wd} (h : okWs l = true) : l.length ≤ 9223372036854775807 := by unfold okWs at h; simp at h; exact h.1

def ans2 (c : D → D → Bool) (g : D → D → AV) : (R : Type) → List AV → Hp → (AV → Hp → Option (T R)) → Option (T R) := fun _ args H k => match H, args with
  | [], [.c (.d x), .c (.d y)] => bif c x y then k (g x y) [] else none
  | _, _ => none
theorem ans2_ok {P : Program} {f0 : FuncId} {c : D → D → Bool} {g : D → D → AV} (hc : ∀ x y, c x y = true → CX P f0 [.c (.d x), .c (.d y)] [] (g x y) []) :
    ∀ (R : Type) args H (k : AV → Hp → Option (T R)) t, ans2 c g R args H k = some t → ∃ x H', k x H' = some t ∧ CX P f0 args H x H' := fun R args H k t h => by
  unfold ans2 at h
  split at h
  · rename_i x y
    cases hx : c x y with
    | true => rw [hx] at h; exact ⟨_, _, h, hc x y hx⟩
    | false => rw [hx] at h; cases h
  · simp at h
theorem ale_d {x y : D} (h : DE x y) : Ale (.c (.d x)) (.c (.d y)) := h
theorem asle2 {x y x' y' : D} (h : DE x y) (h' : DE x' y') : Asle [.c (.d x), .c (.d x')] [.c (.d y), .c (.d y')] := .cons (ale_d h) (.cons (ale_d h') .nil)
abbrev aI (l : List It) : AV := .c (.d (itemsD l))
end Go.Eb
namespace Go.Eb
open Go.RowKit

theorem wrap_id {n : Int} (h0 : -9223372036854775808 ≤ n) (h1 : n ≤ 9223372036854775807) : IntKind.wrap IntKind.i64 n = n := by
  have e : IntKind.wrap IntKind.i64 n = (n + 9223372036854775808) % 18446744073709551616 - 9223372036854775808 := by
    unfold IntKind.wrap; simp [IntKind.signed, IntKind.bits]; omega
  rw [e]; omega
theorem lt1 {k n : Nat} (h : k < n) : decide ((k : Int) < (n : Int)) = true := by simp; omega
theorem lt0 {k n : Nat} (h : ¬ k < n) : decide ((k : Int) < (n : Int)) = false := by simp; omega
theorem ge0 (k : Nat) : decide ((0 : Int) ≤ (k : Int)) = true := by simp
theorem tn (k : Nat) : Int.toNat (k : Int) = k := by simp
theorem nx {k n : Nat} (h : k < n) (hn : n ≤ 9223372036854775807) : IntKind.wrap IntKind.i64 ((k : Int) + 1) = ((k + 1 : Nat) : Int) := by rw [wrap_id (by omega) (by omega)]; omega
theorem drop_at' {α : Type} {T : List α} {d : α} {a : Nat} (h : a < T.length) : T.drop a = T.getD a d :: T.drop (a + 1) := by
  rw [List.drop_eq_getElem_cons h]; simp [List.getD, h]

end Go.Eb
namespace Go.Eb
open Go.RowKit

section
variable {β : Type} {c : β → List D} {d0 : β}

structure RL (c : β → List D) (d0 : β) (n : Nat) (f : Nat → List D) (l : List β) : Prop where
  len : n = l.length
  le : ∀ i, i < n → DEs (f i) (c (l.getD i d0))
  ge : ∀ i, i < n → DEs (c (l.getD i d0)) (f i)

theorem RL.de {n sz : Nat} {f : Nat → List D} {l : List β} (h : RL c d0 n f l) : DE (.sl sz n f) (listD sz c d0 l) := by
  obtain ⟨rfl, h1, _⟩ := h
  exact .sls h1
theorem RL.ed {n sz : Nat} {f : Nat → List D} {l : List β} (h : RL c d0 n f l) : DE (listD sz c d0 l) (.sl sz n f) := by
  obtain ⟨rfl, _, h2⟩ := h
  exact .sls h2
theorem RL.nil (f : Nat → List D) : RL c d0 0 f [] := ⟨rfl, fun i h => by omega, fun i h => by omega⟩
theorem RL.data (l : List β) : RL c d0 l.length (fun i => c (l.getD i d0)) l := ⟨rfl, fun i _ => .refl _, fun i _ => .refl _⟩
theorem RL.eq {n : Nat} {f : Nat → List D} {l : List β} (hn : n = l.length) (h : ∀ i, i < n → f i = c (l.getD i d0)) : RL c d0 n f l := ⟨hn, fun i hi => by rw [h i hi]; exact .refl _, fun i hi => by rw [h i hi]; exact .refl _⟩
theorem getD_app_lt {l l' : List β} {i : Nat} (h : i < l.length) : (l ++ l').getD i d0 = l.getD i d0 := by
  rw [List.getD_eq_getElem?_getD, List.getElem?_append_left h, ← List.getD_eq_getElem?_getD]
theorem getD_app_ge {l l' : List β} {i : Nat} (h : l.length ≤ i) : (l ++ l').getD i d0 = l'.getD (i - l.length) d0 := by
  rw [List.getD_eq_getElem?_getD, List.getElem?_append_right h, ← List.getD_eq_getElem?_getD]
theorem RL.cat {n m : Nat} {f g : Nat → List D} {l l' : List β} (h : RL c d0 n f l) (k : RL c d0 m g l') : RL c d0 (n + m) (appF n f g) (l ++ l') := by
  have hf : ∀ i, i < n + m → (i < n ∧ appF n f g i = f i ∧ (l ++ l').getD i d0 = l.getD i d0) ∨ (n ≤ i ∧ appF n f g i = g (i - n) ∧ (l ++ l').getD i d0 = l'.getD (i - n) d0) := fun i hi => by
    unfold appF
    rw [bltD]
    by_cases e : i < n
    · left; rw [decide_eq_true e]; exact ⟨e, rfl, getD_app_lt (by rw [← h.len]; exact e)⟩
    · right; rw [decide_eq_false e]; exact ⟨by omega, rfl, by rw [getD_app_ge (by rw [← h.len]; omega), ← h.len]⟩
  refine ⟨by rw [h.len, k.len, List.length_append], fun i hi => ?_, fun i hi => ?_⟩
  · rcases hf i hi with ⟨h1, h2, h3⟩ | ⟨h1, h2, h3⟩
    · rw [h2, h3]; exact h.le i h1
    · rw [h2, h3]; exact k.le (i - n) (by omega)
  · rcases hf i hi with ⟨h1, h2, h3⟩ | ⟨h1, h2, h3⟩
    · rw [h2, h3]; exact h.ge i h1
    · rw [h2, h3]; exact k.ge (i - n) (by omega)
theorem RL.one {sz : Nat} {ds : List D} {x : β} (hs : ds.length = sz) (h1 : DEs ds (c x)) (h2 : DEs (c x) ds) : RL c d0 1 (chunk ds sz) [x] := by
  have e : ∀ i, i < 1 → chunk ds sz i = ds ∧ [x].getD i d0 = x := fun i hi => by
    obtain rfl : i = 0 := by omega
    refine ⟨?_, rfl⟩
    unfold chunk
    simp [← hs]
  exact ⟨rfl, fun i hi => by rw [(e i hi).1, (e i hi).2]; exact h1, fun i hi => by rw [(e i hi).1, (e i hi).2]; exact h2⟩
theorem RL.app {n sz : Nat} {f : Nat → List D} {l : List β} {ds : List D} {x : β} (h : RL c d0 n f l) (hs : ds.length = sz) (h1 : DEs ds (c x)) (h2 : DEs (c x) ds) : RL c d0 (n + 1) (appF n f (chunk ds sz)) (l ++ [x]) := h.cat (.one hs h1 h2)
theorem RL.app' {n sz : Nat} {f : Nat → List D} {l : List β} {x : β} (h : RL c d0 n f l) (hs : (c x).length = sz) : RL c d0 (n + 1) (appF n f (chunk (c x) sz)) (l ++ [x]) := h.app hs (.refl _) (.refl _)

theorem RL.ble {n sz : Nat} {t : TypeId} {f : Nat → List D} {l : List β} (h : RL c d0 n f l) : Ble (.row n f sz t) (.row l.length (fun i => c (l.getD i d0)) sz t) := ⟨h.len, rfl, rfl, h.le⟩
end

section
variable {β : Type} {c : β → List D} {d0 : β} {sz : Nat}
theorem RL.the (hc : ∀ a b, DEs (c a) (c b) → a = b) {n : Nat} {f : Nat → List D} {l : List β} (h : RL c d0 n f l) : okE (listD sz c d0) (.sl sz n f) = true ∧ theE (listD sz c d0) (.sl sz n f) = l :=
  theE_of (listD_inj hc) h.de h.ed
theorem the_list (hc : ∀ a b, DEs (c a) (c b) → a = b) (l : List β) : okE (listD sz c d0) (listD sz c d0 l) = true ∧ theE (listD sz c d0) (listD sz c d0 l) = l := theE_of (listD_inj hc) (.refl _) (.refl _)
theorem RL.of_ok {n : Nat} {f : Nat → List D} (h : okE (listD sz c d0) (.sl sz n f) = true) : n = (theE (listD sz c d0) (.sl sz n f)).length ∧ ∀ i, i < n → DEs (f i) (c ((theE (listD sz c d0) (.sl sz n f)).getD i d0)) := by
  have := theE_de h
  generalize theE (listD sz c d0) (.sl sz n f) = l at this
  unfold listD at this
  generalize hy : D.sl sz l.length (fun i => c (l.getD i d0)) = y at this
  cases this with
  | sl _ _ _ g h1 h2 =>
    injection hy with _ e1 e2
    subst e2
    exact ⟨e1.symm, fun i hi => ⟨h1 i hi, fun j d e hd he => h2 i j d e hi hd he⟩⟩
theorem ble_of_ok {n : Nat} {t : TypeId} {f : Nat → List D} (h : okE (listD sz c d0) (.sl sz n f) = true) : Ble (.row n f sz t) (.row (theE (listD sz c d0) (.sl sz n f)).length (fun i => c ((theE (listD sz c d0) (.sl sz n f)).getD i d0)) sz t) :=
  ⟨(RL.of_ok h).1, rfl, rfl, (RL.of_ok h).2⟩
end

def ansB {A : Type} (d : Dec (List AV × Hp) A) (c b : A → Bool) (r : A → AV) (H' : A → Hp) (r2 : A → AV) (H2 : A → Hp) : (R : Type) → List AV → Hp → (AV → Hp → Option (T R)) → Option (T R) := fun _ args H k =>
  match d.dec (args, H) with
  | some a => bif c a then (bif b a then k (r a) (H' a) else k (r2 a) (H2 a)) else none
  | none => none
theorem AnsS.b {P : Program} {f : FuncId} {A : Type} {d : Dec (List AV × Hp) A} {c b : A → Bool} {r : A → AV} {H' : A → Hp} {r2 : A → AV} {H2 : A → Hp} (hc : ∀ a, c a = true → b a = true → CX P f (d.enc a).1 (d.enc a).2 (r a) (H' a))
    (hc2 : ∀ a, c a = true → b a = false → CX P f (d.enc a).1 (d.enc a).2 (r2 a) (H2 a)) : AnsS P f (ansB d c b r H' r2 H2) := by
  refine ⟨fun R args H k t h => ?_, fun args H => ?_⟩
  · unfold ansB at h
    cases hd : d.dec (args, H) with
    | none => rw [hd] at h; cases h
    | some a =>
      rw [hd] at h
      simp only [] at h
      cases hca : c a with
      | false => rw [hca] at h; cases h
      | true =>
        rw [hca] at h
        simp only [cond_true] at h
        have e := d.ok _ _ hd
        cases hb : b a with
        | true =>
          rw [hb] at h
          have := hc a hca hb
          rw [← e] at this
          exact ⟨_, _, h, this⟩
        | false =>
          rw [hb] at h
          have := hc2 a hca hb
          rw [← e] at this
          exact ⟨_, _, h, this⟩
  · unfold ansB
    cases d.dec (args, H) with
    | none => exact .no fun R k => rfl
    | some a => exact .bif _ (.bif _ (.one _ _ fun R k => rfl) (.one _ _ fun R k => rfl)) (.no fun R k => rfl)

namespace Dec
def mp (h : Nat) : Dec C Unit := ⟨fun x => match x with | .mp k => bif Nat.beq k h then some () else none | _ => none, fun _ => .mp h, fun x a e => by
  split at e
  · rename_i k
    cases hb : Nat.beq k h with
    | true => rw [Nat.eq_of_beq_eq_true hb]
    | false => rw [hb] at e; cases e
  · cases e⟩
def mapB (kd : Nat) : Dec Blk (List (Value × Value)) := ⟨fun x => match x with | .map k l => bif Nat.beq k kd then some l else none | _ => none, fun l => .map kd l, fun x a e => by
  split at e
  · rename_i k l
    cases hb : Nat.beq k kd with
    | true => rw [hb] at e; simp only [cond_true, Option.some.injEq] at e; rw [Nat.eq_of_beq_eq_true hb, e]
    | false => rw [hb] at e; cases e
  · cases e⟩
def meth (f : FuncId) : Dec C Unit := ⟨fun x => match x with | .fn g [.ptr 0 0] [] => bif Nat.beq g f then some () else none | _ => none, fun _ => .fn f [.ptr 0 0] [], fun x a e => by
  split at e
  · rename_i g
    cases hb : Nat.beq g f with
    | true => rw [Nat.eq_of_beq_eq_true hb]
    | false => rw [hb] at e; cases e
  · cases e⟩
end Dec

/-! equality, as a test -/
noncomputable def same {α : Type} (a b : α) : Bool := @decide (a = b) (Classical.propDecidable _)
theorem same_iff {α : Type} {a b : α} : same a b = true ↔ a = b := by unfold same; simp
theorem strEq (a b : ByteArray) : (a.toList == b.toList) = same a b := by
  rw [Bool.eq_iff_iff, same_iff, beq_iff_eq]
  refine ⟨fun h => ?_, fun h => by rw [h]⟩
  rw [ByteArray.toList_eq, ByteArray.toList_eq] at h
  cases a; cases b
  simp only [ByteArray.mk.injEq]
  exact Array.toList_inj.1 h
/-! trees of tests -/
abbrev lB (b : Bool) : Option (T (AV × Hp)) := some (.leaf (vB b, []))
theorem bAnd (a b : Bool) : (bif a then lB b else lB false) = lB (a && b) := by cases a <;> rfl
theorem fNot {α : Type} (b : Bool) (X Y : α) : (bif !b then X else Y) = bif b then Y else X := by cases b <;> rfl
theorem fAnd {α : Type} (a b : Bool) (X Y : α) : (bif a then (bif b then Y else X) else X) = bif (a && b) then Y else X := by cases a <;> rfl
theorem fOr {α : Type} (a b : Bool) (X Y : α) : (bif a then X else (bif b then X else Y)) = bif (a || b) then X else Y := by cases a <;> rfl
theorem neN (a b : Int) : (a != b) = !(a == b) := rfl

end Go.Eb
namespace Go.Eb
open Go.RowKit

structure SLine where
  name : ByteArray
  r1 : Int
  x1 : Int
  r0 : Int
  x0 : Int
structure SSrc where
  name : ByteArray
  emf : Int
  r1 : Int
  x1 : Int
  r0 : Int
  x0 : Int
structure SLink where
  bus : Int
  pos : Int
structure SBay where
  name : ByteArray
  kind : Int
  off : Int
  fin : Int
  zr : Int
  zx : Int
  links : List SLink
  closed : Bool
  ct : Int
  vt : Int
  sat : Int
  travel : Int
structure SSta where
  name : ByteArray
  buses : List ByteArray
  lines : List SLine
  srcs : List SSrc
  bays : List SBay

abbrev dS (s : ByteArray) : D := .v (.string s)
abbrev dI (n : Int) : D := .v (.int .i64 n)
abbrev dB (b : Bool) : D := .v (.bool b)
def e0 : ByteArray := ⟨#[]⟩
def line0 : SLine := ⟨e0, 0, 0, 0, 0⟩
def src0 : SSrc := ⟨e0, 0, 0, 0, 0, 0⟩
def link0 : SLink := ⟨0, 0⟩
def bay0 : SBay := ⟨e0, 0, 0, 0, 0, 0, [], false, 0, 0, 0, 0⟩
def lineC (l : SLine) : List D := [dS l.name, dI l.r1, dI l.x1, dI l.r0, dI l.x0]
def srcC' (l : SSrc) : List D := [dS l.name, dI l.emf, dI l.r1, dI l.x1, dI l.r0, dI l.x0]
def linkC (l : SLink) : List D := [dI l.bus, dI l.pos]
abbrev linksD (l : List SLink) : D := listD 2 linkC link0 l
def bayC (b : SBay) : List D := [dS b.name, dI b.kind, dI b.off, dI b.fin, dI b.zr, dI b.zx, linksD b.links, dB b.closed, dI b.ct, dI b.vt, dI b.sat, dI b.travel]
def busC (s : ByteArray) : List D := [dS s]
abbrev busesD (l : List ByteArray) : D := listD 1 busC e0 l
abbrev linesD (l : List SLine) : D := listD 5 lineC line0 l
abbrev srcsD (l : List SSrc) : D := listD 6 srcC' src0 l
abbrev baysD (l : List SBay) : D := listD 12 bayC bay0 l
def staC (s : SSta) : List D := [dS s.name, busesD s.buses, linesD s.lines, srcsD s.srcs, baysD s.bays]
instance : Inhabited SLine := ⟨line0⟩
instance : Inhabited SSrc := ⟨src0⟩
instance : Inhabited SBay := ⟨bay0⟩

theorem dS_inj {a b : ByteArray} (h : DE (dS a) (dS b)) : a = b := by have := dv_inj h; simpa using this
theorem dI_inj {a b : Int} (h : DE (dI a) (dI b)) : a = b := by have := dv_inj h; simpa using this
theorem dB_inj {a b : Bool} (h : DE (dB a) (dB b)) : a = b := by have := dv_inj h; simpa using this
theorem busC_inj (a b : ByteArray) (h : DEs (busC a) (busC b)) : a = b := dS_inj (h.2 0 _ _ rfl rfl)
theorem lineC_inj (a b : SLine) (h : DEs (lineC a) (lineC b)) : a = b := by
  cases a; cases b
  have h0 := dS_inj (h.2 0 _ _ rfl rfl)
  have h1 := dI_inj (h.2 1 _ _ rfl rfl)
  have h2 := dI_inj (h.2 2 _ _ rfl rfl)
  have h3 := dI_inj (h.2 3 _ _ rfl rfl)
  have h4 := dI_inj (h.2 4 _ _ rfl rfl)
  simp only at h0 h1 h2 h3 h4
  rw [h0, h1, h2, h3, h4]
theorem srcC_inj (a b : SSrc) (h : DEs (srcC' a) (srcC' b)) : a = b := by
  cases a; cases b
  have h0 := dS_inj (h.2 0 _ _ rfl rfl)
  have h1 := dI_inj (h.2 1 _ _ rfl rfl)
  have h2 := dI_inj (h.2 2 _ _ rfl rfl)
  have h3 := dI_inj (h.2 3 _ _ rfl rfl)
  have h4 := dI_inj (h.2 4 _ _ rfl rfl)
  have h5 := dI_inj (h.2 5 _ _ rfl rfl)
  simp only at h0 h1 h2 h3 h4 h5
  rw [h0, h1, h2, h3, h4, h5]
theorem linkC_inj (a b : SLink) (h : DEs (linkC a) (linkC b)) : a = b := by
  cases a; cases b
  have h0 := dI_inj (h.2 0 _ _ rfl rfl)
  have h1 := dI_inj (h.2 1 _ _ rfl rfl)
  simp only at h0 h1
  rw [h0, h1]
theorem bayC_inj (a b : SBay) (h : DEs (bayC a) (bayC b)) : a = b := by
  cases a; cases b
  have h0 := dS_inj (h.2 0 _ _ rfl rfl)
  have h1 := dI_inj (h.2 1 _ _ rfl rfl)
  have h2 := dI_inj (h.2 2 _ _ rfl rfl)
  have h3 := dI_inj (h.2 3 _ _ rfl rfl)
  have h4 := dI_inj (h.2 4 _ _ rfl rfl)
  have h5 := dI_inj (h.2 5 _ _ rfl rfl)
  have h6 := listD_inj linkC_inj _ _ (h.2 6 _ _ rfl rfl)
  have h7 := dB_inj (h.2 7 _ _ rfl rfl)
  have h8 := dI_inj (h.2 8 _ _ rfl rfl)
  have h9 := dI_inj (h.2 9 _ _ rfl rfl)
  have h10 := dI_inj (h.2 10 _ _ rfl rfl)
  have h11 := dI_inj (h.2 11 _ _ rfl rfl)
  simp only at h0 h1 h2 h3 h4 h5 h6 h7 h8 h9 h10 h11
  rw [h0, h1, h2, h3, h4, h5, h6, h7, h8, h9, h10, h11]
theorem staC_inj (a b : SSta) (h : DEs (staC a) (staC b)) : a = b := by
  cases a; cases b
  have h0 := dS_inj (h.2 0 _ _ rfl rfl)
  have h1 := listD_inj busC_inj _ _ (h.2 1 _ _ rfl rfl)
  have h2 := listD_inj lineC_inj _ _ (h.2 2 _ _ rfl rfl)
  have h3 := listD_inj srcC_inj _ _ (h.2 3 _ _ rfl rfl)
  have h4 := listD_inj bayC_inj _ _ (h.2 4 _ _ rfl rfl)
  simp only at h0 h1 h2 h3 h4
  rw [h0, h1, h2, h3, h4]
instance : Inhabited SSta := ⟨⟨e0, [], [], [], []⟩⟩
abbrev aSta (s : SSta) : AV := .agg ((staC s).map .d)
abbrev aBay (b : SBay) : AV := .agg ((bayC b).map .d)
/-! forms -/
abbrev RBay := ByteArray × Int × Int × Int × Int × Int × D × Bool × Int × Int × Int × Int × Unit
def bayD : Dec (List C) RBay := .cons .str (.cons .i64 (.cons .i64 (.cons .i64 (.cons .i64 (.cons .i64 (.cons .data (.cons .bool (.cons .i64 (.cons .i64 (.cons .i64 (.cons .i64 .nil)))))))))))
abbrev RSta := ByteArray × D × D × D × D × Unit
def staD : Dec (List C) RSta := .cons .str (.cons .data (.cons .data (.cons .data (.cons .data .nil))))
instance : Inhabited SLink := ⟨link0⟩
noncomputable def okLk (x : D) : Bool := okE linksD x && decide ((theE linksD x).length ≤ 9223372036854775807)
noncomputable def rbay (x : RBay) : SBay := ⟨x.1, x.2.1, x.2.2.1, x.2.2.2.1, x.2.2.2.2.1, x.2.2.2.2.2.1, theE linksD x.2.2.2.2.2.2.1, x.2.2.2.2.2.2.2.1, x.2.2.2.2.2.2.2.2.1, x.2.2.2.2.2.2.2.2.2.1, x.2.2.2.2.2.2.2.2.2.2.1, x.2.2.2.2.2.2.2.2.2.2.2.1⟩
def bayR (b : SBay) : RBay := (b.name, b.kind, b.off, b.fin, b.zr, b.zx, linksD b.links, b.closed, b.ct, b.vt, b.sat, b.travel, ())
noncomputable def okRB (x : RBay) : Bool := okLk x.2.2.2.2.2.2.1
theorem okLk_links {l : List SLink} (h : l.length ≤ 9223372036854775807) : okLk (linksD l) = true := by
  unfold okLk
  rw [(the_list linkC_inj l).1, (the_list linkC_inj l).2]
  simp only [Bool.true_and]
  exact decide_eq_true h
theorem rbay_bayR (b : SBay) : rbay (bayR b) = b := by
  unfold rbay bayR
  simp only [(the_list linkC_inj b.links).2]
theorem bay_le (x : RBay) (h : okRB x = true) : Ale (.agg (bayD.enc x)) (aBay (rbay x)) := by
  unfold okRB okLk at h
  simp only [Bool.and_eq_true] at h
  exact .cons (.refl _) (.cons (.refl _) (.cons (.refl _) (.cons (.refl _) (.cons (.refl _) (.cons (.refl _) (.cons (theE_de h.1) (.cons (.refl _) (.cons (.refl _) (.cons (.refl _) (.cons (.refl _) (.cons (.refl _) .nil)))))))))))

/-! Check -/
def letterB (c : UInt8) : Bool := (decide (65 ≤ (c.toNat : Int)) && decide ((c.toNat : Int) ≤ 90)) || (decide (97 ≤ (c.toNat : Int)) && decide ((c.toNat : Int) ≤ 122))
def otherB (c : UInt8) : Bool := (decide (48 ≤ (c.toNat : Int)) && decide ((c.toNat : Int) ≤ 57)) || (c.toNat : Int) == 95
def nmT : Nat → List UInt8 → Bool
  | _, [] => true
  | i, c :: r => (letterB c || (i != 0 && otherB c)) && nmT (i + 1) r
def nameOk (s : ByteArray) : Bool := !((s.size : Int) == 0) && (!decide ((s.size : Int) > 12) && nmT 0 s.data.toList)
def inB (l : List ByteArray) (s : ByteArray) : Bool := l.any fun t => s.data.toList == t.data.toList
def namErr (l : List ByteArray) (s : ByteArray) : Int := bif !nameOk s then 7 else bif inB l s then 8 else 0
def within (n lo hi : Int) : Bool := decide (n ≥ lo) && decide (n ≤ hi)
def impOk (r x : Int) : Bool := within r 0 1000 && within x 1 1000
def lineErr (l : List ByteArray) (x : SLine) : Int := bif namErr l x.name != 0 then namErr l x.name else bif impOk x.r1 x.x1 && impOk x.r0 x.x0 then 0 else 2
def srcErr (l : List ByteArray) (x : SSrc) : Int := bif namErr l x.name != 0 then namErr l x.name else bif within x.emf 1 1000000 && (impOk x.r1 x.x1 && impOk x.r0 x.x0) then 0 else 2
def cntOf (nl ns : Nat) (k : Int) : Option Int := bif k == 1 then some nl else bif k == 2 then some ns else bif k == 3 then some 1 else none
def rngOk (b : SBay) : Bool :=
  (bif b.kind == 3 then impOk b.zr b.zx && b.vt == 0 else (b.zr == 0 && b.zx == 0) && within b.vt 1 10000) &&
    (within b.fin 0 (bif b.kind == 1 then 1 else 0) && (within b.ct 1 100 && (within b.sat 0 16383 && within b.travel 1 6)))
def clash (x y : SBay) : Bool := x.kind != 3 && (x.kind == y.kind && (x.off == y.off && x.fin == y.fin))
def linkErr (nb : Nat) (k : Int) : Option Int → List SLink → Int
  | _, [] => 0
  | p, l :: r => bif !within l.bus 0 ((nb : Int) - 1) then 9 else bif l.pos != 1 && (l.pos != 0 || k == 3) then 16 else bif p == some l.bus then 12 else linkErr nb k (some l.bus) r
def linksErr (nb : Nat) (b : SBay) : Int := bif decide (b.links.length < 1) || (decide (2 < b.links.length) || (b.kind == 3 && b.links.length != 2)) then 3 else linkErr nb b.kind none b.links
def bayErrD (nb nl ns : Nat) (dup : Bool) (before : List SBay) (b : SBay) : Int :=
  bif !nameOk b.name then 7 else bif dup then 8 else match cntOf nl ns b.kind with
    | none => 10
    | some c => bif !within b.off 0 (c - 1) then 9 else bif !rngOk b then 2 else bif before.any (clash b) then 12 else linksErr nb b
def bayErr (nb nl ns : Nat) (l : List ByteArray) (before : List SBay) (b : SBay) : Int := bayErrD nb nl ns (inB l b.name) before b
def takeN {α : Type} (nm : α → ByteArray) (f : List ByteArray → List α → α → Int) (N : List ByteArray) : List α → List α → Int × List α
  | before, [] => (0, before)
  | before, x :: r => bif f (N ++ before.map nm) before x != 0 then (f (N ++ before.map nm) before x, before) else takeN nm f N (before ++ [x]) r
theorem takeN_ok {α : Type} {nm : α → ByteArray} {f : List ByteArray → List α → α → Int} {N : List ByteArray} : ∀ (before l : List α), (takeN nm f N before l).1 = 0 → (takeN nm f N before l).2 = before ++ l
  | before, [], _ => by simp [takeN]
  | before, x :: r, h => by
    simp only [takeN] at h ⊢
    cases e : (f (N ++ before.map nm) before x != 0) with
    | true => rw [e] at h; simp only [cond_true] at h; rw [h] at e; simp at e
    | false => rw [e] at h; simp only [cond_false] at h ⊢; rw [takeN_ok _ r h]; simp
def tBus (l : List ByteArray) := takeN id (fun N _ x => namErr N x) [] [] l
def tLine (N : List ByteArray) (l : List SLine) := takeN SLine.name (fun N _ x => lineErr N x) N [] l
def tSrc (N : List ByteArray) (l : List SSrc) := takeN SSrc.name (fun N _ x => srcErr N x) N [] l
def tBay (nb nl ns : Nat) (N : List ByteArray) (l : List SBay) := takeN SBay.name (fun N before x => bayErr nb nl ns N before x) N [] l
def cntBad (s : SSta) : Bool := s.buses.length == 0 || (decide (4 < s.buses.length) || (decide (6 < s.lines.length) || (decide (4 < s.srcs.length) || decide (16 < s.bays.length))))
def chkSta (s : SSta) : Int :=
  bif !nameOk s.name then 7 else
  bif cntBad s then 3 else
  bif (tBus s.buses).1 != 0 then (tBus s.buses).1 else
  bif (tLine s.buses s.lines).1 != 0 then (tLine s.buses s.lines).1 else
  bif (tSrc (s.buses ++ s.lines.map SLine.name) s.srcs).1 != 0 then (tSrc (s.buses ++ s.lines.map SLine.name) s.srcs).1 else
  (tBay s.buses.length s.lines.length s.srcs.length (s.buses ++ s.lines.map SLine.name ++ s.srcs.map SSrc.name) s.bays).1

/-! names in a map -/
def mapOf (l : List ByteArray) : List (Value × Value) := l.reverse.map fun s => (.string s, .bool true)
theorem mapOf_app (l : List ByteArray) (s : ByteArray) : mapOf (l ++ [s]) = (.string s, .bool true) :: mapOf l := by simp [mapOf]
theorem assoc_map (s : ByteArray) : ∀ l : List ByteArray, boolOf (assoc (l.map fun s => (Value.string s, Value.bool true)) (.string s)) = l.any fun t => s.data.toList == t.data.toList
  | [] => rfl
  | t :: r => by
    simp only [List.map_cons, assoc, sameK, List.any_cons]
    cases (s.data.toList == t.data.toList) with
    | true => rfl
    | false => simp only [cond_false, Bool.false_or]; exact assoc_map s r
theorem assoc_mapOf (l : List ByteArray) (s : ByteArray) : boolOf (assoc (mapOf l) (.string s)) = inB l s := by
  unfold mapOf inB
  rw [assoc_map, List.any_reverse]

theorem first_loop {α : Type} {nm : α → ByteArray} {F : List ByteArray → List α → α → Int} {N : List ByteArray} {c : α → List D} {d0 : α} {l : List α} {L : Nat → List (Value × Value) → Nat → (Nat → List D) → Int → Option (T (AV × Hp))}
    {HX : List (Value × Value) → Nat → (Nat → List D) → Hp}
    (hst : ∀ (m k : Nat) (before : List α) (f : Nat → List D), k < l.length → before.length = k → RL c d0 k f before → ∃ f1 f2, RL c d0 (k + 1) f1 (before ++ [l.getD k d0]) ∧ RL c d0 k f2 before ∧ L (m + 1) (mapOf (N ++ before.map nm)) k f k =
      bif F (N ++ before.map nm) before (l.getD k d0) != 0 then some (.leaf (vI (F (N ++ before.map nm) before (l.getD k d0)), HX (mapOf (N ++ before.map nm)) k f2))
      else L m ((.string (nm (l.getD k d0)), .bool true) :: mapOf (N ++ before.map nm)) (k + 1) f1 ((k + 1 : Nat) : Int))
    (hend : ∀ m mp n f, L (m + 1) mp n f l.length = some (.leaf (vI 0, HX mp n f))) :
    ∀ (m k : Nat) (before : List α) (f : Nat → List D), k ≤ l.length → l.length - k < m → before.length = k → RL c d0 k f before →
      ∃ f', RL c d0 (takeN nm F N before (l.drop k)).2.length f' (takeN nm F N before (l.drop k)).2 ∧
        L m (mapOf (N ++ before.map nm)) k f k = some (.leaf (vI (takeN nm F N before (l.drop k)).1, HX (mapOf (N ++ (takeN nm F N before (l.drop k)).2.map nm)) (takeN nm F N before (l.drop k)).2.length f'))
  | 0, k, before, f, _, h, _, _ => by omega
  | m + 1, k, before, f, hk, h, hb, hr => by
    by_cases e : k = l.length
    · subst e
      rw [List.drop_of_length_le (Nat.le_refl _)]
      simp only [takeN]
      rw [hend, hb]
      exact ⟨f, hr, rfl⟩
    · have hlt : k < l.length := by omega
      obtain ⟨f1, f2, hr1, hr2, hst1⟩ := hst m k before f hlt hb hr
      rw [hst1, drop_at' (d := d0) hlt]
      simp only [takeN]
      cases hF : (F (N ++ before.map nm) before (l.getD k d0) != 0) with
      | true =>
        simp only [cond_true]
        rw [hb]
        exact ⟨f2, hr2, rfl⟩
      | false =>
        simp only [cond_false]
        have ih := first_loop hst hend m (k + 1) (before ++ [l.getD k d0]) f1 (by omega) (by omega) (by simp [hb]) hr1
        have e1 : N ++ (before ++ [l.getD k d0]).map nm = (N ++ before.map nm) ++ [nm (l.getD k d0)] := by simp
        rw [e1, mapOf_app] at ih
        exact ih

theorem mapOf_inj {a b : List ByteArray} (h : mapOf a = mapOf b) : a = b := by
  unfold mapOf at h
  have h2 := (List.map_inj_right (f := fun s : ByteArray => (Value.string s, Value.bool true)) (fun x y e => by simpa using e)).1 h
  exact List.reverse_inj.1 h2
noncomputable def okM (mp : List (Value × Value)) : Bool := @decide (∃ N, mp = mapOf N) (Classical.propDecidable _)
noncomputable def theM (mp : List (Value × Value)) : List ByteArray := @dite _ (∃ N, mp = mapOf N) (Classical.propDecidable _) (fun h => Classical.choose h) (fun _ => [])
theorem theM_spec {mp : List (Value × Value)} (h : okM mp = true) : mp = mapOf (theM mp) := by
  have h' : ∃ N, mp = mapOf N := by unfold okM at h; simpa using h
  unfold theM
  rw [dif_pos h']
  exact Classical.choose_spec h'
theorem okM_mapOf (N : List ByteArray) : okM (mapOf N) = true := by unfold okM; simp; exact ⟨N, rfl⟩
theorem theM_mapOf (N : List ByteArray) : theM (mapOf N) = N := (mapOf_inj (theM_spec (okM_mapOf N))).symm
end Go.Eb
namespace Go.Eb
open Go.RowKit

def decB (n : Nat) : ByteArray := if h : n < 10 then ⟨#[UInt8.ofNat (48 + n)]⟩ else decB (n / 10) ++ decB (n % 10)
termination_by n
decreasing_by all_goals omega
theorem decB_lt {n : Nat} (h : n < 10) : decB n = ⟨#[UInt8.ofNat (48 + n)]⟩ := by rw [decB, dif_pos h]
theorem decB_ge {n : Nat} (h : ¬ n < 10) : decB n = decB (n / 10) ++ decB (n % 10) := by rw [decB, dif_neg h]
theorem decB_size (n : Nat) : (decB n).size ≤ n + 1 := by
  induction n using Nat.strongRecOn with
  | ind n ih =>
    by_cases h : n < 10
    · rw [decB_lt h]; show 1 ≤ _; omega
    · rw [decB_ge h, ByteArray.size_append]
      have h1 := ih (n / 10) (by omega)
      have h2 := ih (n % 10) (by omega)
      omega

def say (l : List ByteArray) : It := .mk 0 (l.map fun t => ⟨t, false⟩) false []
def tStation : ByteArray := ⟨#[115, 116, 97, 116, 105, 111, 110]⟩
def tBus' : ByteArray := ⟨#[98, 117, 115]⟩
def tLine' : ByteArray := ⟨#[108, 105, 110, 101]⟩
def tSource : ByteArray := ⟨#[115, 111, 117, 114, 99, 101]⟩
def tBay' : ByteArray := ⟨#[98, 97, 121]⟩
def tCoupler : ByteArray := ⟨#[99, 111, 117, 112, 108, 101, 114]⟩
def tCt : ByteArray := ⟨#[99, 116]⟩
def tVt : ByteArray := ⟨#[118, 116]⟩
def tSat : ByteArray := ⟨#[115, 97, 116]⟩
def tTravel : ByteArray := ⟨#[116, 114, 97, 118, 101, 108]⟩
def tSelect : ByteArray := ⟨#[115, 101, 108, 101, 99, 116]⟩
def tOpen : ByteArray := ⟨#[111, 112, 101, 110]⟩
def tClosed : ByteArray := ⟨#[99, 108, 111, 115, 101, 100]⟩
def tBreaker : ByteArray := ⟨#[98, 114, 101, 97, 107, 101, 114]⟩
def dec (n : Int) : ByteArray := decB n.toNat
def encBus (n : ByteArray) : It := say [tBus', n]
def encLine (l : SLine) : It := say [tLine', l.name, dec l.r1, dec l.x1, dec l.r0, dec l.x0]
def encSrc (l : SSrc) : It := say [tSource, l.name, dec l.emf, dec l.r1, dec l.x1, dec l.r0, dec l.x0]
def encSel (bs : List ByteArray) (l : SLink) : It := say [tSelect, bs.getD l.bus.toNat e0, bif l.pos == 1 then tClosed else tOpen]
def bayW (s : SSta) (b : SBay) : List Wd := (bif b.kind == 1 then [tBay', b.name, tLine', (s.lines.getD b.off.toNat line0).name, dec b.fin] else bif b.kind == 2 then [tBay', b.name, tSource, (s.srcs.getD b.off.toNat src0).name] else [tBay', b.name, tCoupler, dec b.zr, dec b.zx]).map fun t => ⟨t, false⟩
def bayK (s : SSta) (b : SBay) : List It := [say [tCt, dec b.ct]] ++ (bif b.kind != 3 then [say [tVt, dec b.vt]] else []) ++ (bif b.sat != 0 then [say [tSat, dec b.sat]] else []) ++ [say [tTravel, dec b.travel]] ++ b.links.map (encSel s.buses) ++ (bif !b.closed then [say [tBreaker, tOpen]] else [])
def encBay (s : SSta) (b : SBay) : It := .mk 0 (bayW s b) true (bayK s b)
def encSta (s : SSta) : List It := [say [tStation, s.name]] ++ s.buses.map encBus ++ s.lines.map encLine ++ s.srcs.map encSrc ++ s.bays.map (encBay s)

/-! rows that stand for lists, one way -/
structure RLe {β : Type} (c : β → List D) (d0 : β) (n : Nat) (f : Nat → List D) (l : List β) : Prop where
  len : n = l.length
  le : ∀ i, i < n → DEs (f i) (c (l.getD i d0))
section
variable {β : Type} {c : β → List D} {d0 : β}
theorem RLe.de {n sz : Nat} {f : Nat → List D} {l : List β} (h : RLe c d0 n f l) : DE (.sl sz n f) (.sl sz l.length fun i => c (l.getD i d0)) := by
  obtain ⟨rfl, h1⟩ := h
  exact .sls h1
theorem RLe.nil (f : Nat → List D) : RLe c d0 0 f [] := ⟨rfl, fun i h => by omega⟩
theorem chunk_one (ds : List D) : chunk ds ds.length 0 = ds := by unfold chunk; simp
theorem RLe.one {sz : Nat} {ds : List D} {x : β} (hs : ds.length = sz) (h1 : DEs ds (c x)) : RLe c d0 1 (chunk ds sz) [x] := ⟨rfl, fun i hi => by
  obtain rfl : i = 0 := by omega
  rw [← hs, chunk_one]
  exact h1⟩
theorem RLe.app {n sz : Nat} {f : Nat → List D} {l : List β} {ds : List D} {x : β} (h : RLe c d0 n f l) (hs : ds.length = sz) (h1 : DEs ds (c x)) : RLe c d0 (n + 1) (appF n f (chunk ds sz)) (l ++ [x]) := by
  refine ⟨by rw [h.len]; simp, fun i hi => ?_⟩
  unfold appF
  rw [bltD]
  by_cases e : i < n
  · rw [decide_eq_true e, getD_app_lt (by rw [← h.len]; exact e)]; exact h.le i e
  · obtain rfl : i = n := by omega
    rw [decide_eq_false e, getD_app_ge (by rw [← h.len]; omega), ← h.len, Nat.sub_self]
    exact (RLe.one (d0 := d0) hs h1).le 0 (by omega)

theorem app_loop {α ρ : Type} {L : Nat → Nat → (Nat → List D) → Int → ρ} {K : Nat → (Nat → List D) → ρ} {l : List α} {d : α} {ch : α → List D} {e : α → β} {sz : Nat}
    (hst : ∀ (m k n : Nat) (f : Nat → List D), k < l.length → n ≤ 5000 → L (m + 1) n f k = L m (n + 1) (appF n f (chunk (ch (l.getD k d)) sz)) ((k + 1 : Nat) : Int))
    (hend : ∀ (m n : Nat) (f : Nat → List D), L (m + 1) n f (l.length : Int) = K n f) (hs : ∀ x, (ch x).length = sz) (hch : ∀ k, k < l.length → DEs (ch (l.getD k d)) (c (e (l.getD k d)))) :
    ∀ (m k n : Nat) (f : Nat → List D) (bef : List β), k ≤ l.length → l.length - k < m → n + (l.length - k) ≤ 5000 → RLe c d0 n f bef →
      ∃ f', RLe c d0 (n + (l.length - k)) f' (bef ++ (l.drop k).map e) ∧ L m n f k = K (n + (l.length - k)) f' := by
  intro m
  induction m with
  | zero => intro k n f bef _ h; omega
  | succ m ih =>
    intro k n f bef hk hm hn hr
    by_cases hlt : k < l.length
    · rw [hst m k n f hlt (by omega)]
      obtain ⟨f', h1, h2⟩ := ih (k + 1) (n + 1) _ (bef ++ [e (l.getD k d)]) (by omega) (by omega) (by omega) (hr.app (hs _) (hch k hlt))
      have e1 : n + 1 + (l.length - (k + 1)) = n + (l.length - k) := by omega
      rw [e1] at h1 h2
      refine ⟨f', ?_, h2⟩
      rw [drop_at' (d := d) hlt]
      simpa using h1
    · obtain rfl : k = l.length := by omega
      rw [hend]
      refine ⟨f, ?_, by rw [Nat.sub_self, Nat.add_zero]⟩
      simpa using hr
end

theorem chunk_flat {α : Type} {g : α → List D} {sz : Nat} {d : α} (hg : ∀ x, (g x).length = sz) : ∀ (l : List α) (i : Nat), i < l.length → chunk (l.flatMap g) sz i = g (l.getD i d)
  | [], i, h => by simp at h
  | x :: r, 0, _ => by
    unfold chunk
    simp only [Nat.zero_mul, List.drop_zero, List.flatMap_cons, List.getD_cons_zero]
    rw [List.take_append_of_le_length (by rw [hg]; exact Nat.le_refl _), List.take_of_length_le (by rw [hg]; exact Nat.le_refl _)]
  | x :: r, i + 1, h => by
    have ih := chunk_flat (d := d) hg r i (by simpa using h)
    unfold chunk at ih ⊢
    rw [List.flatMap_cons, List.getD_cons_succ, ← ih, List.drop_append, hg, List.drop_of_length_le (by rw [hg, Nat.add_mul]; omega), List.nil_append]
    congr 2
    rw [Nat.add_mul]; omega
def plainW (l : List ByteArray) : List Wd := l.map fun t => ⟨t, false⟩
def wordsC (l : List ByteArray) : D := .sl 2 l.length (chunk (l.flatMap fun t => [dS t, dB false]) 2)
theorem wordsC_de (l : List ByteArray) : DE (wordsC l) (wordsD (plainW l)) := by
  unfold wordsC wordsD plainW
  rw [List.length_map]
  refine .sls fun i hi => ?_
  rw [chunk_flat (g := fun t => [dS t, dB false]) (sz := 2) (d := e0) (fun _ => rfl) l i hi]
  have e : (l.map fun t => (⟨t, false⟩ : Wd)).getD i w0 = ⟨l.getD i e0, false⟩ := by
    simp [List.getD_eq_getElem?_getD, hi]
  rw [e]
  exact .refl _
def sayC (l : List ByteArray) : List D := [dI 0, wordsC l, dB false, .v (.slice none 0 0)]
theorem sayC_de (l : List ByteArray) : DEs (sayC l) (icells (say l)) :=
  .cons (.refl _) (.cons (wordsC_de l) (.cons (.refl _) (.cons (.nil _ _) .nil)))
theorem bayC_de {x : It} {ws kd : D} (h0 : x.line = 0) (hb : x.block = true) (hw : DE ws (wordsD x.words)) (hk : DE kd (kidsD x)) : DEs [dI 0, ws, dB true, kd] (icells x) := by
  unfold icells
  rw [h0, hb]
  exact .cons (.refl _) (.cons hw (.cons (.refl _) (.cons hk .nil)))
end Go.Eb
namespace Go.Eb
open Go.RowKit

theorem tt : (true && true) = true := rfl

def ansG (ok : List AV → Bool) (r : List AV → AV) : (R : Type) → List AV → Hp → (AV → Hp → Option (T R)) → Option (T R) := fun _ args H k => match H with
  | [] => bif ok args then k (r args) [] else none
  | _ :: _ => none

section
variable {α : Type} [Inhabited α]
noncomputable def okX (enc : α → List AV) (x : List AV) : Bool := @decide (∃ a, Asle x (enc a)) (Classical.propDecidable _)
noncomputable def theT (enc : α → List AV) (x : List AV) : α := @dite _ (∃ a, Asle x (enc a)) (Classical.propDecidable _) (fun h => Classical.choose h) (fun _ => default)
omit [Inhabited α] in
theorem okX_iff {enc : α → List AV} {x : List AV} : okX enc x = true ↔ ∃ a, Asle x (enc a) := by unfold okX; simp
theorem theT_le {enc : α → List AV} {x : List AV} (h : okX enc x = true) : Asle x (enc (theT enc x)) := by
  have h' := okX_iff.1 h
  unfold theT
  rw [dif_pos h']
  exact Classical.choose_spec h'
def InjT (enc : α → List AV) : Prop := ∀ a b, Asle (enc a) (enc b) → a = b
omit [Inhabited α] in
theorem okX_enc {enc : α → List AV} (a : α) : okX enc (enc a) = true := okX_iff.2 ⟨a, .refl _⟩
theorem theT_enc {enc : α → List AV} (inj : InjT enc) (a : α) : theT enc (enc a) = a := (inj _ _ (theT_le (okX_enc a))).symm

noncomputable def okG (enc : α → List AV) (c : α → Bool) (x : List AV) : Bool := okX enc x && c (theT enc x)
theorem okG_enc {enc : α → List AV} (inj : InjT enc) {c : α → Bool} (a : α) (h : c a = true) : okG enc c (enc a) = true := by
  unfold okG; rw [okX_enc, theT_enc inj, h]; rfl

theorem AnsS.g {P : Program} {f : FuncId} {ok : List AV → Bool} {r : List AV → AV} (hc : ∀ x, ok x = true → CX P f x [] (r x) []) : AnsS P f (ansG ok r) := by
  refine ⟨fun R args H k t h => ?_, fun args H => ?_⟩
  · unfold ansG at h
    cases H with
    | cons b H => cases h
    | nil =>
      simp only [] at h
      cases hb : ok args with
      | false => rw [hb] at h; cases h
      | true => rw [hb] at h; exact ⟨_, _, h, hc args hb⟩
  · unfold ansG
    cases H with
    | cons b H => exact .no fun R k => rfl
    | nil => exact .bif _ (.one _ _ fun R k => rfl) (.no fun R k => rfl)
theorem AnsS.t' {P : Program} {f : FuncId} {enc : α → List AV} {c : α → Bool} {r : α → AV} (hc : ∀ a, c a = true → CX P f (enc a) [] (r a) []) : AnsS P f (ansG (okG enc c) fun x => r (theT enc x)) := .g fun x h => by
  unfold okG at h
  simp only [Bool.and_eq_true] at h
  exact (hc _ h.2).ge (theT_le h.1) (.refl _)
end

/-! spellings of one argument, and of several -/
def InjA {α : Type} (e : α → AV) : Prop := ∀ a b, Ale (e a) (e b) → a = b
theorem asle_cons {x y : AV} {a b : List AV} (h : Asle (x :: a) (y :: b)) : Ale x y ∧ Asle a b := by
  refine ⟨h.2 0 x y rfl rfl, by simpa using h.1, fun i p q h1 h2 => h.2 (i + 1) p q (by simpa using h1) (by simpa using h2)⟩
section
variable {α β γ δ : Type} {e : α → AV} {f : β → AV} {g : γ → AV} {k : δ → AV}
def en1 (e : α → AV) : α → List AV := fun a => [e a]
def en2 (e : α → AV) (f : β → AV) : α × β → List AV := fun a => [e a.1, f a.2]
theorem en1_inj (h : InjA e) : InjT (en1 e) := fun a b x => h _ _ (asle_cons x).1
theorem en2_inj (h : InjA e) (h2 : InjA f) : InjT (en2 e f) := fun a b x => by
  obtain ⟨x1, x⟩ := asle_cons x
  obtain ⟨x2, x⟩ := asle_cons x
  exact Prod.ext (h _ _ x1) (h2 _ _ x2)
end
def aG {α : Type} (e : α → List D) : α → AV := fun a => .agg ((e a).map .d)
theorem ale_c {x y : D} (h : Ale (.c (.d x)) (.c (.d y))) : DE x y := h
theorem ale_agg {x y : List D} (h : Ale (.agg (x.map .d)) (.agg (y.map .d))) : DEs x y := by
  have h : Csle (x.map .d) (y.map .d) := h
  refine ⟨by simpa using h.1, fun j d e hd he => ?_⟩
  exact h.2 j (.d d) (.d e) (by rw [List.getElem?_map, hd]; rfl) (by rw [List.getElem?_map, he]; rfl)
theorem aG_inj {α : Type} {e : α → List D} (h : ∀ a b, DEs (e a) (e b) → a = b) : InjA (aG e) := fun a b x => h a b (ale_agg x)
theorem vI_inj : InjA vI := fun a b x => by have := dv_inj (ale_c x); simpa using this
instance : Inhabited ByteArray := ⟨⟨#[]⟩⟩

/-! arguments, opened -/
theorem list_of {α : Type} (d : α) (R : Nat → α → Prop) : ∀ (n : Nat), (∀ i, i < n → ∃ x, R i x) → ∃ l : List α, l.length = n ∧ ∀ i, i < n → R i (l.getD i d)
  | 0, _ => ⟨[], rfl, fun i h => by omega⟩
  | n + 1, h => by
    obtain ⟨l, hl, hr⟩ := list_of d R n (fun i hi => h i (by omega))
    obtain ⟨x, hx⟩ := h n (by omega)
    refine ⟨l ++ [x], by simp [hl], fun i hi => ?_⟩
    by_cases e : i < n
    · have := hr i e
      rwa [List.getD_eq_getElem?_getD, List.getElem?_append_left (by omega), ← List.getD_eq_getElem?_getD]
    · have : i = n := by omega
      subst this
      rw [List.getD_eq_getElem?_getD, List.getElem?_append_right (by omega), hl]
      simpa using hx
def lenOk {α : Type} (l : List α) : Bool := decide (l.length ≤ 9223372036854775807)
theorem maxLen_le : maxLen ≤ 9223372036854775807 := by unfold maxLen; omega
theorem shp_list {P : Program} {t e : TypeId} {ds : List D} {β : Type} {c : β → List D} {d0 : β} {sz : Nat} {ok : β → Bool} (hu : P.underlying t = some (.slice e)) (hc : P.cellsOf e = sz)
    (ho : ∀ ds, Shp P e ds → ∃ x, DEs ds (c x) ∧ ok x = true) (h : Shp P t ds) : ∃ (d : D) (l : List β), ds = [d] ∧ DE d (listD sz c d0 l) ∧ lenOk l = true ∧ l.all ok = true := by
  obtain ⟨n, f, rfl, hn, hf⟩ := h.sl_inv hu
  obtain ⟨l, hl, hr⟩ := list_of d0 (fun i x => DEs (f i) (c x) ∧ ok x = true) n (fun i hi => ho _ (hf i hi))
  subst hl
  have hM := maxLen_le
  refine ⟨_, l, rfl, ?_, ?_, ?_⟩
  · rw [hc]; exact .sls fun i hi => (hr i hi).1
  · unfold lenOk; rw [decide_eq_true (by omega)]
  · rw [List.all_eq_true]
    intro x hx
    obtain ⟨i, hi, he⟩ := List.getElem_of_mem hx
    have := (hr i hi).2
    rwa [List.getD_eq_getElem?_getD, List.getElem?_eq_getElem hi, he] at this
theorem ale_of_des {a b : List D} (h : DEs a b) : Ale (.agg (a.map .d)) (.agg (b.map .d)) := by
  show Csle _ _
  refine ⟨by simpa using h.1, fun j d e hd he => ?_⟩
  rw [List.getElem?_map] at hd he
  cases h1 : a[j]? with
  | none => rw [h1] at hd; cases hd
  | some x =>
    cases h2 : b[j]? with
    | none => rw [h2] at he; cases he
    | some y => rw [h1] at hd; rw [h2] at he; cases hd; cases he; exact h.2 j x y h1 h2
end Go.Eb
namespace Go.Eb
open Go.RowKit

def lksOk (l : List SBay) : Bool := l.all fun b => decide (b.links.length ≤ 9223372036854775807)
theorem lksOk_get {l : List SBay} (h : lksOk l = true) (i : Nat) (hi : i < l.length) : (l.getD i bay0).links.length ≤ 9223372036854775807 := by
  unfold lksOk at h
  rw [List.all_eq_true] at h
  have := h (l.getD i bay0) (by rw [List.getD_eq_getElem?_getD, List.getElem?_eq_getElem hi]; simp)
  simpa using this

def okSta (s : SSta) : Bool := lenOk s.buses && (lenOk s.lines && (lenOk s.srcs && (lenOk s.bays && s.bays.all fun b => lenOk b.links)))
theorem okSta_len {s : SSta} (h : okSta s = true) : s.buses.length ≤ 9223372036854775807 ∧ s.lines.length ≤ 9223372036854775807 ∧ s.srcs.length ≤ 9223372036854775807 ∧ s.bays.length ≤ 9223372036854775807 ∧ lksOk s.bays = true := by
  unfold okSta lenOk at h
  simp only [Bool.and_eq_true, decide_eq_true_eq] at h
  exact ⟨h.1, h.2.1, h.2.2.1, h.2.2.2.1, h.2.2.2.2⟩
theorem aSta_inj : InjA aSta := aG_inj staC_inj
end Go.Eb
namespace Go.Eb
open Go.RowKit

end Go.Eb
namespace Go.Eb
open Go.RowKit

end Go.Eb
namespace Go.Eb
open Go.RowKit

section
variable {α : Type} [Inhabited α] {enc : α → List AV}
end

section
variable {β β' : Bt} {w w' : World} {I I' : Im}
end

/-! loops over places -/
/-! a search in a list of names -/
end Go.Eb
namespace Go.Proofs.YthmapnolgdpkbaaDoor.wd
open Go.RowKit Go.Eb

def letter (r : Int) : Bool := (decide (65 ≤ r) && decide (r ≤ 90)) || (decide (97 ≤ r) && decide (r ≤ 122))
def digit (r : Int) : Bool := decide (48 ≤ r) && decide (r ≤ 57)
def plainR (r : Int) : Bool := letter r || digit r || r == 95 || r == 45 || r == 43 || r == 46 || r == 47 || r == 58

end Go.Proofs.YthmapnolgdpkbaaDoor.wd
namespace Go.Proofs.YthmapnolgdpkbaaDoor.wd
open Go.RowKit Go.Eb

abbrev bs (s : ByteArray) : List UInt8 := s.data.toList
def plainS (s : ByteArray) : Bool := (bs s).all (fun c => plainR c.toNat) && !(s.toList == (ByteArray.mk #[]).toList)

end Go.Proofs.YthmapnolgdpkbaaDoor.wd
namespace Go.Proofs.YthmapnolgdpkbaaDoor.wd
open Go.RowKit Go.Eb

def val : List UInt8 → Int → Int
  | [], n => n
  | c :: r, n => val r (10 * n + (c.toNat - 48))
def digs (l : List UInt8) : Bool := l.all fun c => digit c.toNat
end Go.Proofs.YthmapnolgdpkbaaDoor.wd
namespace Go.Proofs.YthmapnolgdpkbaaDoor.st
open Go.RowKit Go.Eb

noncomputable def ann15 := annOf [(4, ⟨[0, 16, 17], []⟩)]
noncomputable def L15 (s : ByteArray) (g m : Nat) (i : Int) := LK Tryd.prog Orc.nil ann15 0 g Tryd.f39 4 m ⟨frm [(0, vS s), (16, vI s.size), (17, vI i)] 0 Tryd.f39.ntmps, [], 0⟩
theorem ev15 (s : ByteArray) (g : Nat) : callC Tryd.prog Orc.nil ann15 g Tryd.f39 (bodyOf Tryd.f39) [vS s] [] =
 (bif (↑(ByteArray.size s) : Int) == (0 : Int) then some (T.leaf (AV.c (.d (.v (.bool false))), [])) else (bif decide ((↑(ByteArray.size s) : Int) > (12 : Int)) then some
 (T.leaf (AV.c (.d (.v (.bool false))), [])) else L15 s g g ((0 : Int)))) := by kernel_rfl
theorem st15 (s : ByteArray) (g m : Nat) (i : Int) : L15 s g (m + 1) i =
 (bif decide (i < (↑(ByteArray.size s) : Int)) then (bif decide ((0 : Int) ≤ i) && decide (i < (↑(ByteArray.size s) : Int)) then (bif decide ((↑(UInt8.toNat (List.getD (Array.toList
 (ByteArray.data s)) (Int.toNat i) 0)) : Int) ≥ (65 : Int)) then (bif decide ((↑(UInt8.toNat (List.getD (Array.toList (ByteArray.data s)) (Int.toNat i) 0)) : Int)
 ≤ (90 : Int)) then (bif decide ((↑(UInt8.toNat (List.getD (Array.toList (ByteArray.data s)) (Int.toNat i) 0)) : Int) ≥ (48 : Int)) then (bif decide ((↑(UInt8.toNat
 (List.getD (Array.toList (ByteArray.data s)) (Int.toNat i) 0)) : Int) ≤ (57 : Int)) then L15 s g m (IntKind.wrap IntKind.i64 (i + (1 : Int))) else L15 s g m (IntKind.wrap
 IntKind.i64 (i + (1 : Int)))) else L15 s g m (IntKind.wrap IntKind.i64 (i + (1 : Int)))) else (bif decide ((↑(UInt8.toNat (List.getD (Array.toList (ByteArray.data s)) (Int.toNat i)
 0)) : Int) ≥ (97 : Int)) then (bif decide ((↑(UInt8.toNat (List.getD (Array.toList (ByteArray.data s)) (Int.toNat i) 0)) : Int) ≥ (48 : Int)) then (bif decide
 ((↑(UInt8.toNat (List.getD (Array.toList (ByteArray.data s)) (Int.toNat i) 0)) : Int) ≤ (57 : Int)) then (bif !decide ((↑(UInt8.toNat (List.getD (Array.toList
 (ByteArray.data s)) (Int.toNat i) 0)) : Int) ≤ (122 : Int)) then (bif i == (0 : Int) then some (T.leaf (AV.c (.d (.v (.bool false))), [])) else L15 s g m
 (IntKind.wrap IntKind.i64 (i + (1 : Int)))) else L15 s g m (IntKind.wrap IntKind.i64 (i + (1 : Int)))) else (bif !decide ((↑(UInt8.toNat (List.getD (Array.toList (ByteArray.data s))
 (Int.toNat i) 0)) : Int) ≤ (122 : Int)) then (bif i == (0 : Int) then some (T.leaf (AV.c (.d (.v (.bool false))), [])) else (bif !(↑(UInt8.toNat (List.getD
 (Array.toList (ByteArray.data s)) (Int.toNat i) 0)) : Int) == (95 : Int) then some (T.leaf (AV.c (.d (.v (.bool false))), [])) else L15 s g m (IntKind.wrap
 IntKind.i64 (i + (1 : Int))))) else L15 s g m (IntKind.wrap IntKind.i64 (i + (1 : Int))))) else (bif !decide ((↑(UInt8.toNat (List.getD (Array.toList (ByteArray.data s)) (Int.toNat
 i) 0)) : Int) ≤ (122 : Int)) then (bif i == (0 : Int) then some (T.leaf (AV.c (.d (.v (.bool false))), [])) else (bif !(↑(UInt8.toNat (List.getD (Array.toList
 (ByteArray.data s)) (Int.toNat i) 0)) : Int) == (95 : Int) then some (T.leaf (AV.c (.d (.v (.bool false))), [])) else L15 s g m (IntKind.wrap IntKind.i64 (i + (1 :
 Int))))) else L15 s g m (IntKind.wrap IntKind.i64 (i + (1 : Int))))) else (bif decide ((↑(UInt8.toNat (List.getD (Array.toList (ByteArray.data s)) (Int.toNat i) 0)) : Int)
 ≥ (48 : Int)) then (bif decide ((↑(UInt8.toNat (List.getD (Array.toList (ByteArray.data s)) (Int.toNat i) 0)) : Int) ≤ (57 : Int)) then (bif i == (0 : Int) then some
 (T.leaf (AV.c (.d (.v (.bool false))), [])) else L15 s g m (IntKind.wrap IntKind.i64 (i + (1 : Int)))) else (bif i == (0 : Int) then some (T.leaf (AV.c (C.d (D.v (Value.bool
 false))), [])) else (bif !(↑(UInt8.toNat (List.getD (Array.toList (ByteArray.data s)) (Int.toNat i) 0)) : Int) == (95 : Int) then some (T.leaf (AV.c (C.d (D.v (Value.bool
 false))), [])) else L15 s g m (IntKind.wrap IntKind.i64 (i + (1 : Int)))))) else (bif i == (0 : Int) then some (T.leaf (AV.c (.d (.v (.bool false))), [])) else (bif
 !(↑(UInt8.toNat (List.getD (Array.toList (ByteArray.data s)) (Int.toNat i) 0)) : Int) == (95 : Int) then some (T.leaf (AV.c (.d (.v (.bool false))), [])) else L15 s
 g m (IntKind.wrap IntKind.i64 (i + (1 : Int)))))))) else (bif decide ((↑(UInt8.toNat (List.getD (Array.toList (ByteArray.data s)) (Int.toNat i) 0)) : Int) ≥ (97 : Int))
 then (bif decide ((↑(UInt8.toNat (List.getD (Array.toList (ByteArray.data s)) (Int.toNat i) 0)) : Int) ≥ (48 : Int)) then (bif decide ((↑(UInt8.toNat (List.getD
 (Array.toList (ByteArray.data s)) (Int.toNat i) 0)) : Int) ≤ (57 : Int)) then (bif !decide ((↑(UInt8.toNat (List.getD (Array.toList (ByteArray.data s)) (Int.toNat i) (0 :
 UInt8))) : Int) ≤ (122 : Int)) then (bif i == (0 : Int) then some (T.leaf (AV.c (.d (.v (.bool false))), [])) else L15 s g m (IntKind.wrap IntKind.i64 (i + (1 : Int)))) else
 L15 s g m (IntKind.wrap IntKind.i64 (i + (1 : Int)))) else (bif !decide ((↑(UInt8.toNat (List.getD (Array.toList (ByteArray.data s)) (Int.toNat i) 0)) : Int) ≤ (122 :
 Int)) then (bif i == (0 : Int) then some (T.leaf (AV.c (.d (.v (.bool false))), [])) else (bif !(↑(UInt8.toNat (List.getD (Array.toList (ByteArray.data s)) (Int.toNat i) (0 :
 UInt8))) : Int) == (95 : Int) then some (T.leaf (AV.c (.d (.v (.bool false))), [])) else L15 s g m (IntKind.wrap IntKind.i64 (i + (1 : Int))))) else L15 s g m (IntKind.wrap
 IntKind.i64 (i + (1 : Int))))) else (bif !decide ((↑(UInt8.toNat (List.getD (Array.toList (ByteArray.data s)) (Int.toNat i) 0)) : Int) ≤ (122 : Int)) then (bif i == (0 :
 Int) then some (T.leaf (AV.c (.d (.v (.bool false))), [])) else (bif !(↑(UInt8.toNat (List.getD (Array.toList (ByteArray.data s)) (Int.toNat i) 0)) : Int) == (95 :
 Int) then some (T.leaf (AV.c (.d (.v (.bool false))), [])) else L15 s g m (IntKind.wrap IntKind.i64 (i + (1 : Int))))) else L15 s g m (IntKind.wrap IntKind.i64 (i + (1 :
 Int))))) else (bif decide ((↑(UInt8.toNat (List.getD (Array.toList (ByteArray.data s)) (Int.toNat i) 0)) : Int) ≥ (48 : Int)) then (bif decide ((↑(UInt8.toNat (List.getD
 (Array.toList (ByteArray.data s)) (Int.toNat i) 0)) : Int) ≤ (57 : Int)) then (bif i == (0 : Int) then some (T.leaf (AV.c (.d (.v (.bool false))), [])) else L15 s g
 m (IntKind.wrap IntKind.i64 (i + (1 : Int)))) else (bif i == (0 : Int) then some (T.leaf (AV.c (.d (.v (.bool false))), [])) else (bif !(↑(UInt8.toNat (List.getD
 (Array.toList (ByteArray.data s)) (Int.toNat i) 0)) : Int) == (95 : Int) then some (T.leaf (AV.c (.d (.v (.bool false))), [])) else L15 s g m (IntKind.wrap
 IntKind.i64 (i + (1 : Int)))))) else (bif i == (0 : Int) then some (T.leaf (AV.c (.d (.v (.bool false))), [])) else (bif !(↑(UInt8.toNat (List.getD (Array.toList
 (ByteArray.data s)) (Int.toNat i) 0)) : Int) == (95 : Int) then some (T.leaf (AV.c (.d (.v (.bool false))), [])) else L15 s g m (IntKind.wrap IntKind.i64 (i + (1 :
 Int)))))))) else none) else some (T.leaf (AV.c (.d (.v (.bool true))), []))) := by kernel_rfl
noncomputable def ann16 := annOf [(4, ⟨[0, 3], []⟩)]
noncomputable def L16 (s : ByteArray) (g m : Nat) (i : Int) := LK Tryd.prog Orc.nil ann16 0 g Tryd.f22 4 m ⟨frm [(0, vS s), (3, vI i)] 0 Tryd.f22.ntmps, [], 0⟩
theorem ev16 (s : ByteArray) (g : Nat) : callC Tryd.prog Orc.nil ann16 g Tryd.f22 (bodyOf Tryd.f22) [vS s] [] =
 (bif decide ((↑(ByteArray.size s) : Int) < (1 : Int)) then some (T.leaf (AV.c (.d (.v (.bool false))), [])) else (bif decide ((↑(ByteArray.size s) : Int) > (12 : Int)) then
 some (T.leaf (AV.c (.d (.v (.bool false))), [])) else L16 s g g ((0 : Int)))) := by kernel_rfl
theorem st16 (s : ByteArray) (g m : Nat) (i : Int) : L16 s g (m + 1) i =
 (bif decide (i < (↑(ByteArray.size s) : Int)) then (bif decide ((0 : Int) ≤ i) && decide (i < (↑(ByteArray.size s) : Int)) then (bif decide ((↑(UInt8.toNat (List.getD (Array.toList
 (ByteArray.data s)) (Int.toNat i) 0)) : Int) ≥ (97 : Int)) then (bif decide ((↑(UInt8.toNat (List.getD (Array.toList (ByteArray.data s)) (Int.toNat i) 0)) : Int)
 ≤ (122 : Int)) then L16 s g m (IntKind.wrap IntKind.i64 (i + (1 : Int))) else (bif decide ((↑(UInt8.toNat (List.getD (Array.toList (ByteArray.data s)) (Int.toNat i) 0)) :
 Int) ≥ (65 : Int)) then (bif !decide ((↑(UInt8.toNat (List.getD (Array.toList (ByteArray.data s)) (Int.toNat i) 0)) : Int) ≤ (90 : Int)) then (bif i == (0 : Int) then some
 (T.leaf (AV.c (.d (.v (.bool false))), [])) else (bif decide ((↑(UInt8.toNat (List.getD (Array.toList (ByteArray.data s)) (Int.toNat i) 0)) : Int) < (48 : Int))
 then (bif (↑(UInt8.toNat (List.getD (Array.toList (ByteArray.data s)) (Int.toNat i) 0)) : Int) != (95 : Int) then some (T.leaf (AV.c (.d (.v (.bool false))), []))
 else L16 s g m (IntKind.wrap IntKind.i64 (i + (1 : Int)))) else (bif decide ((↑(UInt8.toNat (List.getD (Array.toList (ByteArray.data s)) (Int.toNat i) 0)) : Int) > (57 :
 Int)) then (bif (↑(UInt8.toNat (List.getD (Array.toList (ByteArray.data s)) (Int.toNat i) 0)) : Int) != (95 : Int) then some (T.leaf (AV.c (.d (.v (.bool false))),
 [])) else L16 s g m (IntKind.wrap IntKind.i64 (i + (1 : Int)))) else L16 s g m (IntKind.wrap IntKind.i64 (i + (1 : Int)))))) else L16 s g m (IntKind.wrap IntKind.i64 (i + (1 :
 Int)))) else (bif i == (0 : Int) then some (T.leaf (AV.c (.d (.v (.bool false))), [])) else (bif decide ((↑(UInt8.toNat (List.getD (Array.toList (ByteArray.data s))
 (Int.toNat i) 0)) : Int) < (48 : Int)) then (bif (↑(UInt8.toNat (List.getD (Array.toList (ByteArray.data s)) (Int.toNat i) 0)) : Int) != (95 : Int) then some
 (T.leaf (AV.c (.d (.v (.bool false))), [])) else L16 s g m (IntKind.wrap IntKind.i64 (i + (1 : Int)))) else (bif decide ((↑(UInt8.toNat (List.getD (Array.toList
 (ByteArray.data s)) (Int.toNat i) 0)) : Int) > (57 : Int)) then (bif (↑(UInt8.toNat (List.getD (Array.toList (ByteArray.data s)) (Int.toNat i) 0)) : Int) != (95
 : Int) then some (T.leaf (AV.c (.d (.v (.bool false))), [])) else L16 s g m (IntKind.wrap IntKind.i64 (i + (1 : Int)))) else L16 s g m (IntKind.wrap IntKind.i64 (i + (1 :
 Int)))))))) else (bif decide ((↑(UInt8.toNat (List.getD (Array.toList (ByteArray.data s)) (Int.toNat i) 0)) : Int) ≥ (65 : Int)) then (bif !decide ((↑(UInt8.toNat
 (List.getD (Array.toList (ByteArray.data s)) (Int.toNat i) 0)) : Int) ≤ (90 : Int)) then (bif i == (0 : Int) then some (T.leaf (AV.c (.d (.v (.bool false))), []))
 else (bif decide ((↑(UInt8.toNat (List.getD (Array.toList (ByteArray.data s)) (Int.toNat i) 0)) : Int) < (48 : Int)) then (bif (↑(UInt8.toNat (List.getD (Array.toList
 (ByteArray.data s)) (Int.toNat i) 0)) : Int) != (95 : Int) then some (T.leaf (AV.c (.d (.v (.bool false))), [])) else L16 s g m (IntKind.wrap IntKind.i64 (i + (1 :
 Int)))) else (bif decide ((↑(UInt8.toNat (List.getD (Array.toList (ByteArray.data s)) (Int.toNat i) 0)) : Int) > (57 : Int)) then (bif (↑(UInt8.toNat (List.getD
 (Array.toList (ByteArray.data s)) (Int.toNat i) 0)) : Int) != (95 : Int) then some (T.leaf (AV.c (.d (.v (.bool false))), [])) else L16 s g m (IntKind.wrap
 IntKind.i64 (i + (1 : Int)))) else L16 s g m (IntKind.wrap IntKind.i64 (i + (1 : Int)))))) else L16 s g m (IntKind.wrap IntKind.i64 (i + (1 : Int)))) else (bif i == (0 : Int) then
 some (T.leaf (AV.c (.d (.v (.bool false))), [])) else (bif decide ((↑(UInt8.toNat (List.getD (Array.toList (ByteArray.data s)) (Int.toNat i) 0)) : Int) < (48 :
 Int)) then (bif (↑(UInt8.toNat (List.getD (Array.toList (ByteArray.data s)) (Int.toNat i) 0)) : Int) != (95 : Int) then some (T.leaf (AV.c (.d (.v (.bool false))),
 [])) else L16 s g m (IntKind.wrap IntKind.i64 (i + (1 : Int)))) else (bif decide ((↑(UInt8.toNat (List.getD (Array.toList (ByteArray.data s)) (Int.toNat i) 0)) : Int) >
 (57 : Int)) then (bif (↑(UInt8.toNat (List.getD (Array.toList (ByteArray.data s)) (Int.toNat i) 0)) : Int) != (95 : Int) then some (T.leaf (AV.c (C.d (D.v (Value.bool
 false))), [])) else L16 s g m (IntKind.wrap IntKind.i64 (i + (1 : Int)))) else L16 s g m (IntKind.wrap IntKind.i64 (i + (1 : Int)))))))) else none) else some (T.leaf (AV.c (C.d (D.v
 (Value.bool true))), []))) := by kernel_rfl
noncomputable def ann46 := annOf [(2, ⟨[0, 1, 5], []⟩)]
noncomputable def L46 (l : List ByteArray) (s : ByteArray) (g m : Nat) (i : Int) := LK Tryd.prog Orc.nil ann46 0 g Tryd.f51 2 m ⟨frm [(0, .c (.d (busesD l))), (1, vS s), (5, vI i)] 0 Tryd.f51.ntmps, [], 0⟩
theorem ev46 (l : List ByteArray) (s : ByteArray) (g : Nat) : callC Tryd.prog Orc.nil ann46 g Tryd.f51 (bodyOf Tryd.f51) [.c (.d (busesD l)), vS s] [] =
 L46 l s g g ((0 : Int)) := by kernel_rfl
theorem st46 (l : List ByteArray) (s : ByteArray) (g m : Nat) (i : Int) : L46 l s g (m + 1) i =
 (bif decide (i < (↑(List.length l) : Int)) then (bif decide ((0 : Int) ≤ i) && decide (i < (↑(List.length l) : Int)) then (bif ByteArray.toList (List.getD l (Int.toNat i) e0) ==
 ByteArray.toList s then some (T.leaf (AV.c (.d (.v (.int .i64 i))), [])) else L46 l s g m (IntKind.wrap IntKind.i64 (i + (1 : Int)))) else none) else some (T.leaf
 (AV.c (.d (.v (.int .i64 (-1 : Int)))), []))) := by kernel_rfl
noncomputable def ann7 := annOf [(4, ⟨[1, 3], []⟩)]
noncomputable def L7 (s : SSta) (g m : Nat) (i : Int) := LK Tryd.prog Orc.nil ann7 0 g Tryd.f6 4 m ⟨frm [(1, .c (.ptr 0 0)), (3, vI i)] 0 Tryd.f6.ntmps, [(0, .cells ((staC s).map .d) 27)], 1⟩
theorem ev7 (s : SSta) (g : Nat) : callC Tryd.prog Orc.nil ann7 g Tryd.f6 (bodyOf Tryd.f6) [aSta s] [] =
 (bif decide ((↑(List.length (SSta.buses s)) : Int) > (8 : Int)) then some (T.leaf (AV.c (.d (.v (.bool true))), [])) else (bif decide ((↑(List.length (SSta.lines s)) : Int) >
 (10 : Int)) then some (T.leaf (AV.c (.d (.v (.bool true))), [])) else (bif decide ((↑(List.length (SSta.srcs s)) : Int) > (8 : Int)) then some (T.leaf (AV.c (C.d (D.v
 (Value.bool true))), [])) else (bif decide ((↑(List.length (SSta.bays s)) : Int) > (20 : Int)) then some (T.leaf (AV.c (.d (.v (.bool true))), [])) else L7 s g g ((0 :
 Int)))))) := by kernel_rfl
theorem st7 (s : SSta) (g m : Nat) (i : Int) : L7 s g (m + 1) i =
 (bif decide (i < (↑(List.length (SSta.bays s)) : Int)) then (bif decide ((0 : Int) ≤ i) && decide (i < (↑(List.length (SSta.bays s)) : Int)) then (bif decide ((↑(List.length
 (SBay.links (List.getD (SSta.bays s) (Int.toNat i) bay0))) : Int) > (6 : Int)) then some (T.leaf (AV.c (.d (.v (.bool true))), [])) else L7 s g m (IntKind.wrap IntKind.i64 (i
 + (1 : Int)))) else none) else some (T.leaf (AV.c (.d (.v (.bool false))), []))) := by kernel_rfl
end Go.Proofs.YthmapnolgdpkbaaDoor.st
namespace Go.Proofs.YthmapnolgdpkbaaDoor.st
open Go.RowKit Go.Eb

theorem b15 : Tryd.f39.body = some (bodyOf Tryd.f39) := by kernel_rfl
theorem b16 : Tryd.f22.body = some (bodyOf Tryd.f22) := by kernel_rfl

theorem z0 (k : Nat) : ((k : Int) == 0) = (k == 0) := by cases k <;> rfl
theorem lp15 (s : ByteArray) (g : Nat) (hs : s.size ≤ 12) : ∀ (m k : Nat), k ≤ s.size → s.size - k < m → L15 s g m k = some (.leaf (vB (nmT k (s.data.toList.drop k)), []))
  | 0, k, _, h => by omega
  | m + 1, k, hk, h => by
    rw [st15]
    by_cases hlt : k < s.size
    · have hl : k < s.data.toList.length := by simpa using hlt
      have ih := lp15 s g hs m (k + 1) (by omega) (by omega)
      rw [drop_at' (d := 0) hl]
      simp only [lt1 hlt, ge0, tn, Bool.and_self, cond_true, nx hlt (by omega), ih, nmT, letterB, otherB, ge_iff_le, z0, bne]
      generalize s.data.toList.getD k 0 = c
      generalize nmT (k + 1) (s.data.toList.drop (k + 1)) = t
      generalize decide (65 ≤ (c.toNat : Int)) = a1
      generalize decide ((c.toNat : Int) ≤ 90) = a2
      generalize decide (97 ≤ (c.toNat : Int)) = b1
      generalize decide ((c.toNat : Int) ≤ 122) = b2
      generalize decide (48 ≤ (c.toNat : Int)) = d1
      generalize decide ((c.toNat : Int) ≤ 57) = d2
      generalize ((c.toNat : Int) == 95) = e1
      generalize (k == 0) = z
      cases a1 <;> cases a2 <;> cases b1 <;> cases b2 <;> cases d1 <;> cases d2 <;> cases e1 <;> cases z <;> rfl
    · rw [lt0 hlt, List.drop_of_length_le (by simp; omega)]
      rfl
theorem c15 (s : ByteArray) : CX Tryd.prog 39 [vS s] [] (vB (nameOk s)) [] := by
  refine cx_of (Orc.nil_ok _) Tryd.func39 b15 rfl ((ev15 s (s.size + 1)).trans ?_)
  generalize hg : s.size + 1 = g
  unfold nameOk
  cases h0 : ((s.size : Int) == 0) with
  | true => rfl
  | false =>
    cases h1 : decide ((s.size : Int) > 12) with
    | true => rfl
    | false =>
      have hs : s.size ≤ 12 := by simp at h1; omega
      have := lp15 s g hs g 0 (by omega) (by omega)
      simp only [cond_false, Bool.not_false, Bool.true_and]
      exact this

theorem ltn (x y : Int) : decide (x < y) = !decide (y ≤ x) := by
  by_cases h : x < y
  · rw [decide_eq_true h, decide_eq_false (by omega)]; rfl
  · rw [decide_eq_false h, decide_eq_true (by omega)]; rfl
theorem gtn (x y : Int) : decide (x > y) = !decide (x ≤ y) := by
  by_cases h : x > y
  · rw [decide_eq_true h, decide_eq_false (by omega)]; rfl
  · rw [decide_eq_false h, decide_eq_true (by omega)]; rfl
theorem lt1z (n : Nat) : decide ((n : Int) < 1) = ((n : Int) == 0) := by
  by_cases h : n = 0
  · subst h; rfl
  · have h2 : ((n : Int) == 0) = false := beq_eq_false_iff_ne.2 (by omega)
    rw [decide_eq_false (by omega), h2]
theorem lp16 (s : ByteArray) (g : Nat) (hs : s.size ≤ 12) : ∀ (m k : Nat), k ≤ s.size → s.size - k < m → L16 s g m k = some (.leaf (vB (nmT k (s.data.toList.drop k)), []))
  | 0, k, _, h => by omega
  | m + 1, k, hk, h => by
    rw [st16]
    by_cases hlt : k < s.size
    · have hl : k < s.data.toList.length := by simpa using hlt
      have ih := lp16 s g hs m (k + 1) (by omega) (by omega)
      rw [drop_at' (d := 0) hl]
      generalize hc : s.data.toList.getD k 0 = c
      have e48 : decide ((c.toNat : Int) < 48) = !decide (48 ≤ (c.toNat : Int)) := ltn _ _
      have e57 : decide ((c.toNat : Int) > 57) = !decide ((c.toNat : Int) ≤ 57) := gtn _ _
      simp only [lt1 hlt, ge0, tn, hc, Bool.and_self, cond_true, nx hlt (by omega), ih, nmT, letterB, otherB, e48, e57, z0, bne, ge_iff_le]
      generalize nmT (k + 1) (s.data.toList.drop (k + 1)) = t
      generalize decide (65 ≤ (c.toNat : Int)) = a1
      generalize decide ((c.toNat : Int) ≤ 90) = a2
      generalize decide (97 ≤ (c.toNat : Int)) = b1
      generalize decide ((c.toNat : Int) ≤ 122) = b2
      generalize decide (48 ≤ (c.toNat : Int)) = d1
      generalize decide ((c.toNat : Int) ≤ 57) = d2
      generalize ((c.toNat : Int) == 95) = e1
      generalize (k == 0) = z
      cases a1 <;> cases a2 <;> cases b1 <;> cases b2 <;> cases d1 <;> cases d2 <;> cases e1 <;> cases z <;> rfl
    · rw [lt0 hlt, List.drop_of_length_le (by simp; omega)]
      rfl
theorem r16 (s : ByteArray) (g : Nat) (hg : s.size < g) : callC Tryd.prog Orc.nil ann16 g Tryd.f22 (bodyOf Tryd.f22) [vS s] [] = some (.leaf (vB (nameOk s), [])) := by
  rw [ev16, lt1z]
  unfold nameOk
  cases h0 : ((s.size : Int) == 0) with
  | true => rfl
  | false =>
    cases h1 : decide ((s.size : Int) > 12) with
    | true => rfl
    | false =>
      have hs : s.size ≤ 12 := by simp at h1; omega
      have := lp16 s g hs g 0 (by omega) (by omega)
      simp only [cond_false, Bool.not_false, Bool.true_and]
      exact this
theorem c16 (s : ByteArray) : CX Tryd.prog 22 [vS s] [] (vB (nameOk s)) [] := cx_of (Orc.nil_ok _) Tryd.func22 b16 rfl (r16 s (s.size + 1) (by omega))

end Go.Proofs.YthmapnolgdpkbaaDoor.st
namespace Go.Proofs.YthmapnolgdpkbaaDoor.de
open Go.RowKit Go.Eb Go.Proofs.YthmapnolgdpkbaaDoor.st
set_option maxRecDepth 100000

end Go.Proofs.YthmapnolgdpkbaaDoor.de
namespace Go.Proofs.YthmapnolgdpkbaaDoor.de
open Go.RowKit Go.Eb Go.Proofs.YthmapnolgdpkbaaDoor.st
set_option maxRecDepth 100000

end Go.Proofs.YthmapnolgdpkbaaDoor.de
namespace Go.Proofs.YthmapnolgdpkbaaDoor.de
open Go.RowKit Go.Eb Go.Proofs.YthmapnolgdpkbaaDoor.st
set_option maxRecDepth 100000

end Go.Proofs.YthmapnolgdpkbaaDoor.de
namespace Go.Proofs.YthmapnolgdpkbaaDoor.de
open Go.RowKit Go.Eb Go.Proofs.YthmapnolgdpkbaaDoor.st
set_option maxRecDepth 100000

end Go.Proofs.YthmapnolgdpkbaaDoor.de
namespace Go.Proofs.YthmapnolgdpkbaaDoor.de
open Go.RowKit Go.Eb Go.Proofs.YthmapnolgdpkbaaDoor.st
set_option maxRecDepth 100000

end Go.Proofs.YthmapnolgdpkbaaDoor.de
namespace Go.Proofs.YthmapnolgdpkbaaDoor.de
open Go.RowKit Go.Eb Go.Proofs.YthmapnolgdpkbaaDoor.st
set_option maxRecDepth 100000

noncomputable def oDc (okd : List AV → Bool) (dcd : List AV → ByteArray) : Orc := Orc.cons 50 (ansG okd fun x => vS (dcd x)) Orc.nil
noncomputable def anndec : Ann := annOf []
theorem bdec : Tryd.f50.body = some (bodyOf Tryd.f50) := by kernel_rfl
theorem evdec (okd : List AV → Bool) (dcd : List AV → ByteArray) (n : Int) (g : Nat) : callC Tryd.prog (oDc okd dcd) anndec g Tryd.f50 (bodyOf Tryd.f50) [vI n] [] =
 (bif decide (n < (0 : Int)) then (bif okd [AV.c (.d (.v (.int .i64 (IntKind.wrap IntKind.i64 ((0 : Int) - n)))))] then (bif decide (ByteArray.size (ByteArray.mk #[(45
 : UInt8)]) + ByteArray.size (dcd [AV.c (.d (.v (.int .i64 (IntKind.wrap IntKind.i64 ((0 : Int) - n)))))]) ≤ 9223372036854775807) then some (T.leaf (AV.c (C.d
 (D.v (.string (ByteArray.mk #[45] ++ dcd [AV.c (.d (.v (.int .i64 (IntKind.wrap IntKind.i64 ((0 : Int) - n)))))])))), [])) else none) else none) else
 (bif decide (n ≥ (10 : Int)) then (bif okd [AV.c (.d (.v (.int .i64 (IntKind.wrap IntKind.i64 (Int.tdiv n (10 : Int))))))] then (bif okd [AV.c (C.d (D.v (Value.int
 IntKind.i64 (Int.tmod n (10 : Int)))))] then (bif decide (ByteArray.size (dcd [AV.c (.d (.v (.int .i64 (IntKind.wrap IntKind.i64 (Int.tdiv n (10 : Int))))))]) +
 ByteArray.size (dcd [AV.c (.d (.v (.int .i64 (Int.tmod n (10 : Int)))))]) ≤ 9223372036854775807) then some (T.leaf (AV.c (.d (.v (.string (dcd [AV.c
 (C.d (.v (.int .i64 (IntKind.wrap IntKind.i64 (Int.tdiv n (10 : Int))))))] ++ dcd [AV.c (.d (.v (.int .i64 (Int.tmod n (10 : Int)))))])))), [])) else
 none) else none) else none) else (bif cstrOk 1 (some (Blk.cells [C.d (D.v (Value.int IntKind.u8 (IntKind.wrap IntKind.u8 (IntKind.wrap IntKind.i64 ((48 : Int) + n)))))] ((5
 : Nat)))) then some (T.leaf (AV.c (.d (.v (.string (cstrS 1 (some (Blk.cells [C.d (D.v (Value.int IntKind.u8 (IntKind.wrap IntKind.u8 (IntKind.wrap IntKind.i64 ((48 :
 Int) + n)))))] (5))))))), [])) else none))) := by kernel_rfl
noncomputable def oSay (okd : List AV → Bool) (dcd : List AV → ByteArray) : Orc := Orc.cons 20 (inl Tryd.prog (oDc okd dcd) na 12 Tryd.f20) Orc.nil
noncomputable def oEn (okd : List AV → Bool) (dcd : List AV → ByteArray) (okc : List AV → Bool) (ck : List AV → Int) (okb : List AV → Bool) (bw bk : List AV → D) : Orc := Orc.cons 10 (ansG okc fun x => vI (ck x)) (Orc.cons 21 (ansG okb fun x => .agg [.d (dI 0), .d (bw x), .d (dB true), .d (bk x)]) (oSay okd dcd))
noncomputable def annenc : Ann := annOf [(5, ⟨[1, 4, 3], [(3, 0, 4, 47)]⟩), (9, ⟨[1, 5, 3], [(3, 0, 4, 47)]⟩), (14, ⟨[1, 7, 3], [(3, 0, 4, 47)]⟩), (19, ⟨[1, 9, 3], [(3, 0, 4, 47)]⟩)]
noncomputable def Lenc_5 (okd : List AV → Bool) (dcd : List AV → ByteArray) (okc : List AV → Bool) (ck : List AV → Int) (okb : List AV → Bool) (bw bk : List AV → D) (s : SSta) (g m : Nat) (n1 : Nat) (f1 : Nat → List D) (i4 : Int) := LK Tryd.prog (oEn okd dcd okc ck okb bw bk) annenc (List.length (α := Nat × Blk) []) g Tryd.f9 5 m ⟨frm [(1, AV.c (C.ptr 0 0)), (3, AV.c (C.row 1 4 n1)), (4, AV.c (C.d (D.v (Value.int IntKind.i64 i4))))] 0 Tryd.f9.ntmps, [(0, Blk.cells (List.map C.d (staC s)) 27), (1, Blk.row n1 f1 4 47)], 2⟩
noncomputable def Lenc_9 (okd : List AV → Bool) (dcd : List AV → ByteArray) (okc : List AV → Bool) (ck : List AV → Int) (okb : List AV → Bool) (bw bk : List AV → D) (s : SSta) (g m : Nat) (n1 : Nat) (f1 : Nat → List D) (i5 : Int) := LK Tryd.prog (oEn okd dcd okc ck okb bw bk) annenc (List.length (α := Nat × Blk) []) g Tryd.f9 9 m ⟨frm [(1, AV.c (C.ptr 0 0)), (3, AV.c (C.row 1 4 n1)), (5, AV.c (C.d (D.v (Value.int IntKind.i64 i5))))] 0 Tryd.f9.ntmps, [(0, Blk.cells (List.map C.d (staC s)) 27), (1, Blk.row n1 f1 4 47)], 2⟩
noncomputable def Lenc_14 (okd : List AV → Bool) (dcd : List AV → ByteArray) (okc : List AV → Bool) (ck : List AV → Int) (okb : List AV → Bool) (bw bk : List AV → D) (s : SSta) (g m : Nat) (n1 : Nat) (f1 : Nat → List D) (i7 : Int) := LK Tryd.prog (oEn okd dcd okc ck okb bw bk) annenc (List.length (α := Nat × Blk) []) g Tryd.f9 14 m ⟨frm [(1, AV.c (C.ptr 0 0)), (3, AV.c (C.row 1 4 n1)), (7, AV.c (C.d (D.v (Value.int IntKind.i64 i7))))] 0 Tryd.f9.ntmps, [(0, Blk.cells (List.map C.d (staC s)) 27), (1, Blk.row n1 f1 4 47)], 2⟩
noncomputable def Lenc_19 (okd : List AV → Bool) (dcd : List AV → ByteArray) (okc : List AV → Bool) (ck : List AV → Int) (okb : List AV → Bool) (bw bk : List AV → D) (s : SSta) (g m : Nat) (n1 : Nat) (f1 : Nat → List D) (i9 : Int) := LK Tryd.prog (oEn okd dcd okc ck okb bw bk) annenc (List.length (α := Nat × Blk) []) g Tryd.f9 19 m ⟨frm [(1, AV.c (C.ptr 0 0)), (3, AV.c (C.row 1 4 n1)), (9, AV.c (C.d (D.v (Value.int IntKind.i64 i9))))] 0 Tryd.f9.ntmps, [(0, Blk.cells (List.map C.d (staC s)) 27), (1, Blk.row n1 f1 4 47)], 2⟩
theorem benc : Tryd.f9.body = some (bodyOf Tryd.f9) := by kernel_rfl
theorem evenc (okd : List AV → Bool) (dcd : List AV → ByteArray) (okc : List AV → Bool) (ck : List AV → Int) (okb : List AV → Bool) (bw bk : List AV → D) (s : SSta) (g : Nat) : callC Tryd.prog (oEn okd dcd okc ck okb bw bk) annenc g Tryd.f9 (bodyOf Tryd.f9) [aSta s] [] =
 (bif okc [AV.agg (List.map C.d (staC s))] then (bif ck [AV.agg (List.map C.d (staC s))] != (0 : Int) then some (T.leaf (AV.c (.d (.v (.slice none 0 0))), []))
 else Lenc_5 okd dcd okc ck okb bw bk s g g 1 (chunk [D.v (.int .i64 (0 : Int)), D.sl (1 + 1) (0 + 1 + 1) (chunk [D.v
 (Value.string (ByteArray.mk #[115, 116, 97, 116, 105, 111, 110])), D.v (.bool false), dS (SSta.name s),
 D.v (.bool false)] (1 + 1)), D.v (.bool false), D.v (.slice none 0 0)] 4) ((0 : Int))) else none) := by kernel_rfl
theorem stenc_5 (okd : List AV → Bool) (dcd : List AV → ByteArray) (okc : List AV → Bool) (ck : List AV → Int) (okb : List AV → Bool) (bw bk : List AV → D) (s : SSta) (g m : Nat) (n1 : Nat) (f1 : Nat → List D) (i4 : Int) : Lenc_5 okd dcd okc ck okb bw bk s g (m + 1) n1 f1 i4 =
 (bif decide (i4 < (↑(List.length (SSta.buses s)) : Int)) then (bif decide ((0 : Int) ≤ i4) && decide (i4 < (↑(List.length (SSta.buses s)) : Int)) then (bif decide ((n1 + 1)
 * 64 ≤ 140737488355328) && decide (n1 + 1 ≤ 9223372036854775807) then Lenc_5 okd dcd okc ck okb bw bk s g m (n1 + 1) (appF n1 f1 (chunk [D.v
 (Value.int IntKind.i64 (0 : Int)), D.sl (1 + 1) (0 + 1 + 1) (chunk [D.v (.string (ByteArray.mk #[98, 117, (115 :
 UInt8)])), D.v (.bool false), dS (List.getD (SSta.buses s) (Int.toNat i4) e0), D.v (.bool false)] (1 + 1)), D.v (.bool false), D.v (Value.slice none
 0 0)] (3 + 1))) (IntKind.wrap IntKind.i64 (i4 + (1 : Int))) else none) else none) else Lenc_9 okd dcd okc ck okb bw bk s g g n1 f1 ((0 : Int))) := by kernel_rfl
theorem stenc_9 (okd : List AV → Bool) (dcd : List AV → ByteArray) (okc : List AV → Bool) (ck : List AV → Int) (okb : List AV → Bool) (bw bk : List AV → D) (s : SSta) (g m : Nat) (n1 : Nat) (f1 : Nat → List D) (i5 : Int) : Lenc_9 okd dcd okc ck okb bw bk s g (m + 1) n1 f1 i5 =
 (bif decide (i5 < (↑(List.length (SSta.lines s)) : Int)) then (bif decide ((0 : Int) ≤ i5) && decide (i5 < (↑(List.length (SSta.lines s)) : Int)) then (bif okd [AV.c (C.d (D.v
 (Value.int IntKind.i64 (SLine.r1 (List.getD (SSta.lines s) (Int.toNat i5) line0)))))] then (bif okd [AV.c (.d (.v (.int .i64 (SLine.x1 (List.getD (SSta.lines s)
 (Int.toNat i5) line0)))))] then (bif okd [AV.c (.d (.v (.int .i64 (SLine.r0 (List.getD (SSta.lines s) (Int.toNat i5) line0)))))] then (bif okd [AV.c (C.d (D.v
 (Value.int IntKind.i64 (SLine.x0 (List.getD (SSta.lines s) (Int.toNat i5) line0)))))] then (bif decide ((n1 + 1) * 64 ≤ 140737488355328) && decide (n1 + (1 :
 Nat) ≤ 9223372036854775807) then Lenc_9 okd dcd okc ck okb bw bk s g m (n1 + 1) (appF n1 f1 (chunk [D.v (.int .i64 (0 : Int)), D.sl (1 + (1 :
 Nat)) (0 + 1 + 1 + 1 + 1 + 1 + 1) (chunk [D.v (.string (ByteArray.mk #[108, 105, 110, (101
 : UInt8)])), D.v (.bool false), dS (SLine.name (List.getD (SSta.lines s) (Int.toNat i5) line0)), D.v (.bool false), D.v (.string (dcd [AV.c (C.d (D.v (Value.int
 IntKind.i64 (SLine.r1 (List.getD (SSta.lines s) (Int.toNat i5) line0)))))])), D.v (.bool false), D.v (.string (dcd [AV.c (.d (.v (.int .i64 (SLine.x1
 (List.getD (SSta.lines s) (Int.toNat i5) line0)))))])), D.v (.bool false), D.v (.string (dcd [AV.c (.d (.v (.int .i64 (SLine.r0 (List.getD (SSta.lines s)
 (Int.toNat i5) line0)))))])), D.v (.bool false), D.v (.string (dcd [AV.c (.d (.v (.int .i64 (SLine.x0 (List.getD (SSta.lines s) (Int.toNat i5) line0)))))])),
 D.v (.bool false)] (1 + 1)), D.v (.bool false), D.v (.slice none 0 0)] (3 + 1))) (IntKind.wrap IntKind.i64 (i5 + (1 :
 Int))) else none) else none) else none) else none) else none) else none) else Lenc_14 okd dcd okc ck okb bw bk s g g n1 f1 ((0 : Int))) := by kernel_rfl
theorem stenc_14 (okd : List AV → Bool) (dcd : List AV → ByteArray) (okc : List AV → Bool) (ck : List AV → Int) (okb : List AV → Bool) (bw bk : List AV → D) (s : SSta) (g m : Nat) (n1 : Nat) (f1 : Nat → List D) (i7 : Int) : Lenc_14 okd dcd okc ck okb bw bk s g (m + 1) n1 f1 i7 =
 (bif decide (i7 < (↑(List.length (SSta.srcs s)) : Int)) then (bif decide ((0 : Int) ≤ i7) && decide (i7 < (↑(List.length (SSta.srcs s)) : Int)) then (bif okd [AV.c (C.d (D.v
 (Value.int IntKind.i64 (SSrc.emf (List.getD (SSta.srcs s) (Int.toNat i7) src0)))))] then (bif okd [AV.c (.d (.v (.int .i64 (SSrc.r1 (List.getD (SSta.srcs s) (Int.toNat
 i7) src0)))))] then (bif okd [AV.c (.d (.v (.int .i64 (SSrc.x1 (List.getD (SSta.srcs s) (Int.toNat i7) src0)))))] then (bif okd [AV.c (C.d (D.v (Value.int IntKind.i64
 (SSrc.r0 (List.getD (SSta.srcs s) (Int.toNat i7) src0)))))] then (bif okd [AV.c (.d (.v (.int .i64 (SSrc.x0 (List.getD (SSta.srcs s) (Int.toNat i7) src0)))))] then
 (bif decide ((n1 + 1) * 64 ≤ 140737488355328) && decide (n1 + 1 ≤ 9223372036854775807) then Lenc_14 okd dcd okc ck okb bw bk s g m (n1 + (1 :
 Nat)) (appF n1 f1 (chunk [D.v (.int .i64 (0 : Int)), D.sl (1 + 1) (0 + 1 + 1 + 1 + 1 + 1 + 1 + (1
 : Nat)) (chunk [D.v (.string (ByteArray.mk #[115, 111, 117, 114, 99, 101])), D.v (.bool false), dS (SSrc.name
 (List.getD (SSta.srcs s) (Int.toNat i7) src0)), D.v (.bool false), D.v (.string (dcd [AV.c (.d (.v (.int .i64 (SSrc.emf (List.getD (SSta.srcs s) (Int.toNat
 i7) src0)))))])), D.v (.bool false), D.v (.string (dcd [AV.c (.d (.v (.int .i64 (SSrc.r1 (List.getD (SSta.srcs s) (Int.toNat i7) src0)))))])), D.v
 (Value.bool false), D.v (.string (dcd [AV.c (.d (.v (.int .i64 (SSrc.x1 (List.getD (SSta.srcs s) (Int.toNat i7) src0)))))])), D.v (.bool false), D.v
 (Value.string (dcd [AV.c (.d (.v (.int .i64 (SSrc.r0 (List.getD (SSta.srcs s) (Int.toNat i7) src0)))))])), D.v (.bool false), D.v (.string (dcd [AV.c (C.d
 (D.v (.int .i64 (SSrc.x0 (List.getD (SSta.srcs s) (Int.toNat i7) src0)))))])), D.v (.bool false)] (1 + 1)), D.v (.bool false), D.v (Value.slice
 none 0 0)] (3 + 1))) (IntKind.wrap IntKind.i64 (i7 + (1 : Int))) else none) else none) else none) else none) else none) else none) else none) else
 Lenc_19 okd dcd okc ck okb bw bk s g g n1 f1 ((0 : Int))) := by kernel_rfl
theorem stenc_19 (okd : List AV → Bool) (dcd : List AV → ByteArray) (okc : List AV → Bool) (ck : List AV → Int) (okb : List AV → Bool) (bw bk : List AV → D) (s : SSta) (g m : Nat) (n1 : Nat) (f1 : Nat → List D) (i9 : Int) : Lenc_19 okd dcd okc ck okb bw bk s g (m + 1) n1 f1 i9 =
 (bif decide (i9 < (↑(List.length (SSta.bays s)) : Int)) then (bif decide ((0 : Int) ≤ i9) && decide (i9 < (↑(List.length (SSta.bays s)) : Int)) then (bif okb [AV.agg (List.map C.d
 (staC s)), AV.agg (List.map C.d (bayC (List.getD (SSta.bays s) (Int.toNat i9) bay0)))] then (bif decide ((n1 + 1) * 64 ≤ 140737488355328) && decide (n1 + (1
 : Nat) ≤ 9223372036854775807) then Lenc_19 okd dcd okc ck okb bw bk s g m (n1 + 1) (appF n1 f1 (chunk [dI (0 : Int), bw [AV.agg (List.map C.d (staC s)), AV.agg
 (List.map C.d (bayC (List.getD (SSta.bays s) (Int.toNat i9) bay0)))], dB true, bk [AV.agg (List.map C.d (staC s)), AV.agg (List.map C.d (bayC (List.getD (SSta.bays s) (Int.toNat i9)
 bay0)))]] (3 + 1))) (IntKind.wrap IntKind.i64 (i9 + (1 : Int))) else none) else none) else none) else some (T.leaf (AV.c (C.row (0) (4) n1), [((0 :
 Nat), Blk.row n1 f1 (4) (47))]))) := by kernel_rfl
end Go.Proofs.YthmapnolgdpkbaaDoor.de
namespace Go.Proofs.YthmapnolgdpkbaaDoor.de
open Go.RowKit Go.Eb Go.Proofs.YthmapnolgdpkbaaDoor.st
set_option maxRecDepth 100000

noncomputable def annbyi : Ann := annOf [(100008, ⟨[5, 3, 2, 4], [(5, 1, 1000, 0), (5, 3, 4, 47)]⟩), (100010, ⟨[5, 3, 2, 4], [(5, 1, 1000, 0), (5, 3, 4, 47)]⟩), (100012, ⟨[5, 3, 2, 4], [(5, 1, 1000, 0), (5, 3, 4, 47)]⟩), (100014, ⟨[5, 3, 2, 4], [(5, 1, 1000, 0), (5, 3, 4, 47)]⟩), (16, ⟨[5, 3, 2, 4, 6], [(5, 1, 1000, 0), (5, 3, 4, 47)]⟩)]
noncomputable def Lbyi_8 (okd : List AV → Bool) (dcd : List AV → ByteArray) (s : SSta) (b : SBay) (g m : Nat) (n4 : Nat) (f4 : Nat → List D) (x2 : Int) (x2_2 : Bool) (x3 : Int) (x3_2 : D) (x3_3 : Bool) := GK Tryd.prog (oSay okd dcd) annbyi (List.length (α := Nat × Blk) []) g Tryd.f21 8 m ⟨frm [(2, AV.c (C.ptr 0 0)), (3, AV.c (C.ptr 1 0)), (4, AV.c (C.ptr 2 0)), (5, AV.c (C.ptr 3 0))] 0 Tryd.f21.ntmps, [(0, Blk.cells (List.map C.d (staC s)) 27), (1, Blk.cells (List.map C.d (bayC b)) 44), (2, Blk.cells [C.d (D.v (Value.int IntKind.i64 x2)), C.d (D.v (Value.slice none (0 : Nat) (0 : Nat))), C.d (D.v (Value.bool x2_2)), C.d (D.v (Value.slice none (0 : Nat) (0 : Nat)))] 47), (3, Blk.cells [C.d (D.v (Value.int IntKind.i64 x3)), C.d (x3_2), C.d (D.v (Value.bool x3_3)), C.row 4 4 n4] 47), (4, Blk.row n4 f4 4 47)], 5⟩
noncomputable def Lbyi_10 (okd : List AV → Bool) (dcd : List AV → ByteArray) (s : SSta) (b : SBay) (g m : Nat) (n4 : Nat) (f4 : Nat → List D) (x2 : Int) (x2_2 : Bool) (x3 : Int) (x3_2 : D) (x3_3 : Bool) := GK Tryd.prog (oSay okd dcd) annbyi (List.length (α := Nat × Blk) []) g Tryd.f21 10 m ⟨frm [(2, AV.c (C.ptr 0 0)), (3, AV.c (C.ptr 1 0)), (4, AV.c (C.ptr 2 0)), (5, AV.c (C.ptr 3 0))] 0 Tryd.f21.ntmps, [(0, Blk.cells (List.map C.d (staC s)) 27), (1, Blk.cells (List.map C.d (bayC b)) 44), (2, Blk.cells [C.d (D.v (Value.int IntKind.i64 x2)), C.d (D.v (Value.slice none (0 : Nat) (0 : Nat))), C.d (D.v (Value.bool x2_2)), C.d (D.v (Value.slice none (0 : Nat) (0 : Nat)))] 47), (3, Blk.cells [C.d (D.v (Value.int IntKind.i64 x3)), C.d x3_2, C.d (D.v (Value.bool x3_3)), C.row 4 4 n4] 47), (4, Blk.row n4 f4 4 47)], 5⟩
noncomputable def Lbyi_12 (okd : List AV → Bool) (dcd : List AV → ByteArray) (s : SSta) (b : SBay) (g m : Nat) (n4 : Nat) (f4 : Nat → List D) (x2 : Int) (x2_2 : Bool) (x3 : Int) (x3_2 : D) (x3_3 : Bool) := GK Tryd.prog (oSay okd dcd) annbyi (List.length (α := Nat × Blk) []) g Tryd.f21 12 m ⟨frm [(2, AV.c (C.ptr 0 0)), (3, AV.c (C.ptr 1 0)), (4, AV.c (C.ptr 2 0)), (5, AV.c (C.ptr 3 0))] 0 Tryd.f21.ntmps, [(0, Blk.cells (List.map C.d (staC s)) 27), (1, Blk.cells (List.map C.d (bayC b)) 44), (2, Blk.cells [C.d (D.v (Value.int IntKind.i64 x2)), C.d (D.v (Value.slice none (0 : Nat) (0 : Nat))), C.d (D.v (Value.bool x2_2)), C.d (D.v (Value.slice none (0 : Nat) (0 : Nat)))] 47), (3, Blk.cells [C.d (D.v (Value.int IntKind.i64 x3)), C.d x3_2, C.d (D.v (Value.bool x3_3)), C.row 4 4 n4] 47), (4, Blk.row n4 f4 4 47)], 5⟩
noncomputable def Lbyi_14 (okd : List AV → Bool) (dcd : List AV → ByteArray) (s : SSta) (b : SBay) (g m : Nat) (n4 : Nat) (f4 : Nat → List D) (x2 : Int) (x2_2 : Bool) (x3 : Int) (x3_2 : D) (x3_3 : Bool) := GK Tryd.prog (oSay okd dcd) annbyi (List.length (α := Nat × Blk) []) g Tryd.f21 14 m ⟨frm [(2, AV.c (C.ptr 0 0)), (3, AV.c (C.ptr 1 0)), (4, AV.c (C.ptr 2 0)), (5, AV.c (C.ptr 3 0))] 0 Tryd.f21.ntmps, [(0, Blk.cells (List.map C.d (staC s)) 27), (1, Blk.cells (List.map C.d (bayC b)) 44), (2, Blk.cells [C.d (D.v (Value.int IntKind.i64 x2)), C.d (D.v (Value.slice none (0 : Nat) (0 : Nat))), C.d (D.v (Value.bool x2_2)), C.d (D.v (Value.slice none (0 : Nat) (0 : Nat)))] 47), (3, Blk.cells [C.d (D.v (Value.int IntKind.i64 x3)), C.d x3_2, C.d (D.v (Value.bool x3_3)), C.row 4 4 n4] 47), (4, Blk.row n4 f4 4 47)], 5⟩
noncomputable def Lbyi_16 (okd : List AV → Bool) (dcd : List AV → ByteArray) (s : SSta) (b : SBay) (g m : Nat) (n4 : Nat) (f4 : Nat → List D) (i6 : Int) (x2 : Int) (x2_2 : Bool) (x3 : Int) (x3_2 : D) (x3_3 : Bool) := LK Tryd.prog (oSay okd dcd) annbyi (List.length (α := Nat × Blk) []) g Tryd.f21 16 m ⟨frm [(2, AV.c (C.ptr 0 0)), (3, AV.c (C.ptr 1 0)), (4, AV.c (C.ptr 2 0)), (5, AV.c (C.ptr 3 0)), (6, AV.c (C.d (D.v (Value.int IntKind.i64 i6))))] 0 Tryd.f21.ntmps, [(0, Blk.cells (List.map C.d (staC s)) 27), (1, Blk.cells (List.map C.d (bayC b)) 44), (2, Blk.cells [C.d (D.v (Value.int IntKind.i64 x2)), C.d (D.v (Value.slice none (0 : Nat) (0 : Nat))), C.d (D.v (Value.bool x2_2)), C.d (D.v (Value.slice none (0 : Nat) (0 : Nat)))] 47), (3, Blk.cells [C.d (D.v (Value.int IntKind.i64 x3)), C.d x3_2, C.d (D.v (Value.bool x3_3)), C.row 4 4 n4] 47), (4, Blk.row n4 f4 4 47)], 5⟩
theorem bbyi : Tryd.f21.body = some (bodyOf Tryd.f21) := by kernel_rfl
theorem evbyi (okd : List AV → Bool) (dcd : List AV → ByteArray) (s : SSta) (b : SBay) (g : Nat) : callC Tryd.prog (oSay okd dcd) annbyi g Tryd.f21 (bodyOf Tryd.f21) [aSta s, aBay b] [] =
 (bif SBay.kind b == (1 : Int) then (bif decide ((0 : Int) ≤ SBay.off b) && decide (SBay.off b < (↑(List.length (SSta.lines s)) : Int)) then (bif okd [AV.c (C.d (D.v (Value.int
 IntKind.i64 (SBay.fin b))))] then Lbyi_8 okd dcd s b g g 0 (fun x => []) ((0 : Int)) false ((0 : Int)) (D.sl (2) (5) (chunk [D.v (.string (ByteArray.mk
 #[98, 97, 121])), D.v (.bool false), dS (SBay.name b), D.v (.bool false), D.v (.string (ByteArray.mk #[108, 105,
 110, 101])), D.v (.bool false), dS (SLine.name (List.getD (SSta.lines s) (Int.toNat (SBay.off b)) line0)), D.v (.bool false), D.v (.string (dcd
 [AV.c (.d (.v (.int .i64 (SBay.fin b))))])), D.v (.bool false)] (1 + 1))) false else none) else none) else (bif SBay.kind b == (2 : Int) then (bif
 decide ((0 : Int) ≤ SBay.off b) && decide (SBay.off b < (↑(List.length (SSta.srcs s)) : Int)) then Lbyi_8 okd dcd s b g g 0 (fun x => []) ((0 : Int)) false ((0 : Int)) (D.sl
 (2) (4) (chunk [D.v (.string (ByteArray.mk #[98, 97, 121])), D.v (.bool false), dS (SBay.name b), D.v (.bool false), D.v
 (Value.string (ByteArray.mk #[115, 111, 117, 114, 99, 101])), D.v (.bool false), dS (SSrc.name (List.getD (SSta.srcs
 s) (Int.toNat (SBay.off b)) src0)), D.v (.bool false)] (1 + 1))) false else none) else (bif okd [AV.c (.d (.v (.int .i64 (SBay.zr b))))] then (bif
 okd [AV.c (.d (.v (.int .i64 (SBay.zx b))))] then Lbyi_8 okd dcd s b g g 0 (fun x => []) ((0 : Int)) false ((0 : Int)) (D.sl (2) (5) (chunk
 [D.v (.string (ByteArray.mk #[98, 97, 121])), D.v (.bool false), dS (SBay.name b), D.v (.bool false), D.v (.string (ByteArray.mk
 #[99, 111, 117, 112, 108, 101, 114])), D.v (.bool false), D.v (.string (dcd [AV.c (C.d (D.v
 (Value.int IntKind.i64 (SBay.zr b))))])), D.v (.bool false), D.v (.string (dcd [AV.c (.d (.v (.int .i64 (SBay.zx b))))])), D.v (.bool false)] (1
 + 1))) false else none) else none))) := by kernel_rfl
theorem stbyi_8 (okd : List AV → Bool) (dcd : List AV → ByteArray) (s : SSta) (b : SBay) (g m : Nat) (n4 : Nat) (f4 : Nat → List D) (x2 : Int) (x2_2 : Bool) (x3 : Int) (x3_2 : D) (x3_3 : Bool) : Lbyi_8 okd dcd s b g (m + 1) n4 f4 x2 x2_2 x3 x3_2 x3_3 =
 (bif okd [AV.c (.d (.v (.int .i64 (SBay.ct b))))] then (bif decide ((n4 + 1) * 64 ≤ 140737488355328) && decide (n4 + 1 ≤
 9223372036854775807) then Lbyi_10 okd dcd s b g g (n4 + 1) (appF n4 f4 (chunk [D.v (.int .i64 (0 : Int)), D.sl (1 + 1) (0 + (1 :
 Nat) + 1) (chunk [D.v (.string (ByteArray.mk #[99, 116])), D.v (.bool false), D.v (.string (dcd [AV.c (C.d (D.v (Value.int IntKind.i64
 (SBay.ct b))))])), D.v (.bool false)] (1 + 1)), D.v (.bool false), D.v (.slice none 0 0)] (3 + 1))) x2 x2_2 x3 x3_2
 true else none) else none) := by kernel_rfl
theorem stbyi_10 (okd : List AV → Bool) (dcd : List AV → ByteArray) (s : SSta) (b : SBay) (g m : Nat) (n4 : Nat) (f4 : Nat → List D) (x2 : Int) (x2_2 : Bool) (x3 : Int) (x3_2 : D) (x3_3 : Bool) : Lbyi_10 okd dcd s b g (m + 1) n4 f4 x2 x2_2 x3 x3_2 x3_3 =
 (bif SBay.kind b != (3 : Int) then (bif okd [AV.c (.d (.v (.int .i64 (SBay.vt b))))] then (bif decide ((n4 + 1) * 64 ≤ 140737488355328) &&
 decide (n4 + 1 ≤ 9223372036854775807) then Lbyi_12 okd dcd s b g g (n4 + 1) (appF n4 f4 (chunk [D.v (.int .i64 (0 : Int)), D.sl (1 + (1 :
 Nat)) (0 + 1 + 1) (chunk [D.v (.string (ByteArray.mk #[118, 116])), D.v (.bool false), D.v (.string (dcd [AV.c (C.d (D.v
 (Value.int IntKind.i64 (SBay.vt b))))])), D.v (.bool false)] (1 + 1)), D.v (.bool false), D.v (.slice none 0 0)] (3 + (1 :
 Nat)))) x2 x2_2 x3 x3_2 x3_3 else none) else none) else Lbyi_12 okd dcd s b g g n4 f4 x2 x2_2 x3 x3_2 x3_3) := by kernel_rfl
theorem stbyi_12 (okd : List AV → Bool) (dcd : List AV → ByteArray) (s : SSta) (b : SBay) (g m : Nat) (n4 : Nat) (f4 : Nat → List D) (x2 : Int) (x2_2 : Bool) (x3 : Int) (x3_2 : D) (x3_3 : Bool) : Lbyi_12 okd dcd s b g (m + 1) n4 f4 x2 x2_2 x3 x3_2 x3_3 =
 (bif SBay.sat b != (0 : Int) then (bif okd [AV.c (.d (.v (.int .i64 (SBay.sat b))))] then (bif decide ((n4 + 1) * 64 ≤ 140737488355328) &&
 decide (n4 + 1 ≤ 9223372036854775807) then Lbyi_14 okd dcd s b g g (n4 + 1) (appF n4 f4 (chunk [D.v (.int .i64 (0 : Int)), D.sl (1 + (1 :
 Nat)) (0 + 1 + 1) (chunk [D.v (.string (ByteArray.mk #[115, 97, 116])), D.v (.bool false), D.v (.string (dcd
 [AV.c (.d (.v (.int .i64 (SBay.sat b))))])), D.v (.bool false)] (1 + 1)), D.v (.bool false), D.v (.slice none 0 0)] ((3
 : Nat) + 1))) x2 x2_2 x3 x3_2 x3_3 else none) else none) else Lbyi_14 okd dcd s b g g n4 f4 x2 x2_2 x3 x3_2 x3_3) := by kernel_rfl
theorem stbyi_14 (okd : List AV → Bool) (dcd : List AV → ByteArray) (s : SSta) (b : SBay) (g m : Nat) (n4 : Nat) (f4 : Nat → List D) (x2 : Int) (x2_2 : Bool) (x3 : Int) (x3_2 : D) (x3_3 : Bool) : Lbyi_14 okd dcd s b g (m + 1) n4 f4 x2 x2_2 x3 x3_2 x3_3 =
 (bif okd [AV.c (.d (.v (.int .i64 (SBay.travel b))))] then (bif decide ((n4 + 1) * 64 ≤ 140737488355328) && decide (n4 + 1 ≤
 9223372036854775807) then Lbyi_16 okd dcd s b g g (n4 + 1) (appF n4 f4 (chunk [D.v (.int .i64 (0 : Int)), D.sl (1 + 1) (0 + (1 :
 Nat) + 1) (chunk [D.v (.string (ByteArray.mk #[116, 114, 97, 118, 101, 108])), D.v (.bool false), D.v
 (Value.string (dcd [AV.c (.d (.v (.int .i64 (SBay.travel b))))])), D.v (.bool false)] (1 + 1)), D.v (.bool false), D.v (Value.slice none (0 :
 Nat) 0)] (3 + 1))) ((0 : Int)) x2 x2_2 x3 x3_2 x3_3 else none) else none) := by kernel_rfl
theorem stbyi_16 (okd : List AV → Bool) (dcd : List AV → ByteArray) (s : SSta) (b : SBay) (g m : Nat) (n4 : Nat) (f4 : Nat → List D) (i6 : Int) (x2 : Int) (x2_2 : Bool) (x3 : Int) (x3_2 : D) (x3_3 : Bool) : Lbyi_16 okd dcd s b g (m + 1) n4 f4 i6 x2 x2_2 x3 x3_2 x3_3 =
 (bif decide (i6 < (↑(List.length (SBay.links b)) : Int)) then (bif decide ((0 : Int) ≤ i6) && decide (i6 < (↑(List.length (SBay.links b)) : Int)) then (bif SLink.pos (List.getD
 (SBay.links b) (Int.toNat i6) link0) == (1 : Int) then (bif decide ((0 : Int) ≤ i6) && decide (i6 < (↑(List.length (SBay.links b)) : Int)) then (bif decide ((0 : Int) ≤ SLink.bus
 (List.getD (SBay.links b) (Int.toNat i6) link0)) && decide (SLink.bus (List.getD (SBay.links b) (Int.toNat i6) link0) < (↑(List.length (SSta.buses s)) : Int)) then (bif decide ((n4
 + 1) * 64 ≤ 140737488355328) && decide (n4 + 1 ≤ 9223372036854775807) then Lbyi_16 okd dcd s b g m (n4 + 1) (appF n4 f4 (chunk [D.v
 (Value.int IntKind.i64 (0 : Int)), D.sl (1 + 1) (0 + 1 + 1 + 1) (chunk [D.v (.string (ByteArray.mk #[115, (101 :
 UInt8), 108, 101, 99, 116])), D.v (.bool false), dS (List.getD (SSta.buses s) (Int.toNat (SLink.bus (List.getD (SBay.links b) (Int.toNat
 i6) link0))) e0), D.v (.bool false), D.v (.string (ByteArray.mk #[99, 108, 111, 115, 101, 100])), D.v
 (Value.bool false)] (1 + 1)), D.v (.bool false), D.v (.slice none 0 0)] (3 + 1))) (IntKind.wrap IntKind.i64 (i6 + (1 :
 Int))) x2 x2_2 x3 x3_2 x3_3 else none) else none) else none) else (bif decide ((0 : Int) ≤ i6) && decide (i6 < (↑(List.length (SBay.links b)) : Int)) then (bif decide ((0 : Int) ≤
 SLink.bus (List.getD (SBay.links b) (Int.toNat i6) link0)) && decide (SLink.bus (List.getD (SBay.links b) (Int.toNat i6) link0) < (↑(List.length (SSta.buses s)) : Int)) then (bif
 decide ((n4 + 1) * 64 ≤ 140737488355328) && decide (n4 + 1 ≤ 9223372036854775807) then Lbyi_16 okd dcd s b g m (n4 + 1) (appF n4 f4
 (chunk [D.v (.int .i64 (0 : Int)), D.sl (1 + 1) (0 + 1 + 1 + 1) (chunk [D.v (.string (ByteArray.mk #[115,
 101, 108, 101, 99, 116])), D.v (.bool false), dS (List.getD (SSta.buses s) (Int.toNat (SLink.bus (List.getD (SBay.links b)
 (Int.toNat i6) link0))) e0), D.v (.bool false), D.v (.string (ByteArray.mk #[111, 112, 101, 110])), D.v (.bool false)] ((1 :
 Nat) + 1)), D.v (.bool false), D.v (.slice none 0 0)] (3 + 1))) (IntKind.wrap IntKind.i64 (i6 + (1 : Int))) x2 x2_2 x3 x3_2 x3_3
 else none) else none) else none)) else none) else (bif !SBay.closed b then (bif decide ((n4 + 1) * 64 ≤ 140737488355328) && decide (n4 + 1 ≤
 9223372036854775807) then some (T.leaf (AV.agg [C.d (.v (.int .i64 x3)), C.d x3_2, C.d (.v (.bool x3_3)), C.row (0) (4) (n4 + 1)],
 [(0, Blk.row (n4 + 1) (appF n4 f4 (chunk [D.v (.int .i64 (0 : Int)), D.sl (1 + 1) (0 + 1 + 1) (chunk [D.v
 (Value.string (ByteArray.mk #[98, 114, 101, 97, 107, 101, 114])), D.v (.bool false), D.v (Value.string
 (ByteArray.mk #[111, 112, 101, 110])), D.v (.bool false)] (1 + 1)), D.v (.bool false), D.v (Value.slice none (0 :
 Nat) 0)] (3 + 1))) (4) (47))])) else none) else some (T.leaf (AV.agg [C.d (.v (.int .i64 x3)), C.d x3_2, C.d (D.v (Value.bool
 x3_3)), C.row (0) (4) n4], [(0, Blk.row n4 f4 (4) (47))])))) := by kernel_rfl
end Go.Proofs.YthmapnolgdpkbaaDoor.de
namespace Go.Proofs.YthmapnolgdpkbaaDoor.de
open Go.RowKit Go.Eb Go.Proofs.YthmapnolgdpkbaaDoor.st
set_option maxRecDepth 100000

/-! decimal -/
noncomputable def okD (n : Int) (x : List AV) : Bool := okG (en1 vI) (fun k => decide (0 ≤ k) && decide (k < n)) x
noncomputable def dcD (x : List AV) : ByteArray := dec (theT (en1 vI) x)
theorem okD_of {n k : Int} (h0 : 0 ≤ k) (h1 : k < n) : okD n [vI k] = true := okG_enc (en1_inj vI_inj) k (by simp [h0, h1])
theorem dcD_of (k : Int) : dcD [vI k] = dec k := by
  unfold dcD
  rw [show [vI k] = en1 vI k from rfl, theT_enc (en1_inj vI_inj)]
theorem digit_ok : ∀ n : Nat, n < 10 → cstrOk 1 (some (Blk.cells [C.d (D.v (Value.int IntKind.u8 (IntKind.wrap IntKind.u8 (IntKind.wrap IntKind.i64 ((48 : Int) + n)))))] 5)) = true ∧
    cstrS 1 (some (Blk.cells [C.d (D.v (Value.int IntKind.u8 (IntKind.wrap IntKind.u8 (IntKind.wrap IntKind.i64 ((48 : Int) + n)))))] 5)) = decB n := by
  intro n h
  rw [decB_lt h]
  match n, h with
  | 0, _ | 1, _ | 2, _ | 3, _ | 4, _ | 5, _ | 6, _ | 7, _ | 8, _ | 9, _ => exact ⟨by rfl, by rfl⟩
theorem tdiv10 (n : Nat) : Int.tdiv (n : Int) 10 = ((n / 10 : Nat) : Int) := by rw [Int.tdiv_eq_ediv_of_nonneg (by omega)]; omega
theorem tmod10 (n : Nat) : Int.tmod (n : Int) 10 = ((n % 10 : Nat) : Int) := by rw [Int.tmod_eq_emod_of_nonneg (by omega)]; omega
theorem dec_nat (n : Nat) : dec (n : Int) = decB n := rfl
theorem cdecN (n : Nat) (hb : n ≤ 4611686018427387904) : CX Tryd.prog 50 [vI n] [] (vS (dec n)) [] := by
  induction n using Nat.strongRecOn with
  | ind n ih =>
    have so : OrcS Tryd.prog (oDc (okD n) dcD) := by
      refine .cons (.t' (enc := en1 vI) (c := fun k => decide (0 ≤ k) && decide (k < (n : Int))) (r := fun k => vS (dec k)) fun k hk => ?_) .nil
      simp only [Bool.and_eq_true, decide_eq_true_eq] at hk
      obtain ⟨m, rfl⟩ := Int.eq_ofNat_of_zero_le hk.1
      exact ih m (by omega) (by omega)
    refine cx_of so.ok Tryd.func50 bdec rfl ((evdec (okD n) dcD n 1).trans ?_)
    rw [decide_eq_false (by omega : ¬ ((n : Int) < 0)), cond_false]
    by_cases h : n < 10
    · rw [decide_eq_false (by omega : ¬ ((n : Int) ≥ 10)), cond_false, (digit_ok n h).1, cond_true, (digit_ok n h).2, dec_nat]
    · rw [decide_eq_true (by omega : ((n : Int) ≥ 10)), cond_true, tdiv10, tmod10, wrap_id (by omega) (by omega)]
      have e1 : okD n [AV.c (C.d (D.v (Value.int IntKind.i64 ((n / 10 : Nat) : Int))))] = true := okD_of (by omega) (by omega)
      have e2 : okD n [AV.c (C.d (D.v (Value.int IntKind.i64 ((n % 10 : Nat) : Int))))] = true := okD_of (by omega) (by omega)
      have d1 : dcD [AV.c (C.d (D.v (Value.int IntKind.i64 ((n / 10 : Nat) : Int))))] = dec ((n / 10 : Nat) : Int) := dcD_of _
      have d2 : dcD [AV.c (C.d (D.v (Value.int IntKind.i64 ((n % 10 : Nat) : Int))))] = dec ((n % 10 : Nat) : Int) := dcD_of _
      have s1 := decB_size (n / 10)
      have s2 := decB_size (n % 10)
      rw [e1, e2, d1, d2, cond_true, cond_true, dec_nat, dec_nat, decide_eq_true (by omega), cond_true, dec_nat, decB_ge h]
theorem cdec (n : Int) (h0 : 0 ≤ n) (h1 : n ≤ 4611686018427387904) : CX Tryd.prog 50 [vI n] [] (vS (dec n)) [] := by
  obtain ⟨m, rfl⟩ := Int.eq_ofNat_of_zero_le h0
  exact cdecN m (by omega)
abbrev M12 : Int := 1000000000000
theorem sDc : OrcS Tryd.prog (oDc (okD M12) dcD) := .cons (.t' (enc := en1 vI) (c := fun k => decide (0 ≤ k) && decide (k < M12)) (r := fun k => vS (dec k)) fun k hk => by
  simp only [Bool.and_eq_true, decide_eq_true_eq] at hk
  exact cdec k hk.1 (by unfold M12 at hk; omega)) .nil
theorem sSay : OrcS Tryd.prog (oSay (okD M12) dcD) := .cons (.inl sDc Tryd.func20 (by kernel_rfl)) .nil
end Go.Proofs.YthmapnolgdpkbaaDoor.de
namespace Go.Proofs.YthmapnolgdpkbaaDoor.de
open Go.RowKit Go.Eb Go.Proofs.YthmapnolgdpkbaaDoor.st
set_option maxRecDepth 100000

def numOk (n : Int) : Prop := 0 ≤ n ∧ n < M12
theorem okN {n : Int} (h : numOk n) : okD M12 [AV.c (C.d (D.v (Value.int IntKind.i64 n)))] = true := okD_of h.1 h.2
theorem dcN (n : Int) : dcD [AV.c (C.d (D.v (Value.int IntKind.i64 n)))] = dec n := dcD_of n
structure BFit (s : SSta) (b : SBay) : Prop where
  off1 : b.kind = 1 → 0 ≤ b.off ∧ b.off < s.lines.length
  off2 : b.kind = 2 → 0 ≤ b.off ∧ b.off < s.srcs.length
  fin : numOk b.fin
  zr : numOk b.zr
  zx : numOk b.zx
  ct : numOk b.ct
  vt : numOk b.vt
  sat : numOk b.sat
  travel : numOk b.travel
  bus : ∀ k, k < b.links.length → 0 ≤ (b.links.getD k link0).bus ∧ (b.links.getD k link0).bus < s.buses.length
  len : b.links.length ≤ 100
theorem appOk5 {n : Nat} (h : n ≤ 5000) : (decide ((n + 1) * 64 ≤ 140737488355328) && decide (n + 1 ≤ 9223372036854775807)) = true := by
  rw [decide_eq_true (by omega), decide_eq_true (by omega)]; rfl
def leafB (w : D) (n : Nat) (f : Nat → List D) : Option (T (AV × Hp)) := some (T.leaf (AV.agg [.d (dI 0), .d w, .d (dB true), .row 0 4 n], [(0, Blk.row n f 4 47)]))
section
variable {s : SSta} {b : SBay} (h : BFit s b) (g : Nat) (hg : 200 < g) (x2 : Int) (x2' : Bool) (w : D)
include h
theorem t16 (m n : Nat) (f : Nat → List D) (bef : List It) (hn : n ≤ 100) (hm : b.links.length < m) (hr : RLe icells i0 n f bef) :
    ∃ n' f', RLe icells i0 n' f' (bef ++ b.links.map (encSel s.buses) ++ (bif !b.closed then [say [tBreaker, tOpen]] else [])) ∧ Lbyi_16 (okD M12) dcD s b g m n f 0 x2 x2' 0 w true = leafB w n' f' := by
  have hl := h.len
  obtain ⟨f', h1, h2⟩ := app_loop (L := fun m n f i => Lbyi_16 (okD M12) dcD s b g m n f i x2 x2' 0 w true)
    (K := fun n f => bif !b.closed then (bif decide ((n + (1 : Nat)) * (64 : Nat) ≤ (140737488355328 : Nat)) && decide (n + (1 : Nat) ≤ (9223372036854775807 : Nat)) then leafB w (n + 1) (appF n f (chunk (sayC [tBreaker, tOpen]) 4)) else none) else leafB w n f)
    (l := b.links) (d := link0) (c := icells) (d0 := i0) (ch := fun l => sayC [tSelect, s.buses.getD l.bus.toNat e0, bif l.pos == 1 then tClosed else tOpen]) (e := encSel s.buses) (sz := 4)
    (fun m k n f hk hn => by
      show Lbyi_16 (okD M12) dcD s b g (m + 1) n f k x2 x2' 0 w true = Lbyi_16 (okD M12) dcD s b g m (n + 1) _ _ x2 x2' 0 w true
      rw [stbyi_16]
      obtain ⟨b1, b2⟩ := h.bus k hk
      simp -implicitDefEqProofs only [lt1 hk, ge0, tn, tt, cond_true, nx hk (by omega), appOk5 hn, decide_eq_true b1, decide_eq_true b2]
      generalize Lbyi_16 (okD M12) dcD s b g m = LL
      cases ((b.links.getD k link0).pos == 1) <;> rfl)
    (fun m n f => by
      show Lbyi_16 (okD M12) dcD s b g (m + 1) n f (b.links.length : Int) x2 x2' 0 w true = _
      rw [stbyi_16, lt0 (Nat.lt_irrefl _)]
      rfl)
    (fun _ => rfl) (fun k _ => sayC_de _) m 0 n f bef (by omega) (by omega) (by omega) hr
  simp only [Nat.sub_zero, List.drop_zero] at h1 h2
  have h2 : Lbyi_16 (okD M12) dcD s b g m n f 0 x2 x2' 0 w true = _ := h2
  rw [h2]
  cases b.closed with
  | true => exact ⟨_, f', by simpa using h1, rfl⟩
  | false =>
    refine ⟨_, _, h1.app rfl (sayC_de [tBreaker, tOpen]), ?_⟩
    simp only [Bool.not_false, cond_true]
    rw [appOk5 (by omega)]; rfl
include hg
theorem t14 (n : Nat) (f : Nat → List D) (bef : List It) (hn : n ≤ 90) (hr : RLe icells i0 n f bef) :
    ∃ n' f', RLe icells i0 n' f' (bef ++ [say [tTravel, dec b.travel]] ++ b.links.map (encSel s.buses) ++ (bif !b.closed then [say [tBreaker, tOpen]] else [])) ∧ Lbyi_14 (okD M12) dcD s b g g n f x2 x2' 0 w true = leafB w n' f' := by
  have hl := h.len
  obtain ⟨m, rfl⟩ : ∃ m, g = m + 1 := ⟨g - 1, by omega⟩
  obtain ⟨n', f', h1, h2⟩ := t16 h (m + 1) x2 x2' w (m + 1) (n + 1) _ (bef ++ [say [tTravel, dec b.travel]]) (by omega) (by omega) (hr.app rfl (sayC_de _))
  refine ⟨n', f', h1, ?_⟩
  rw [stbyi_14, okN h.travel, dcN, cond_true, appOk5 (by omega), cond_true]
  exact h2
theorem t12 (n : Nat) (f : Nat → List D) (bef : List It) (hn : n ≤ 80) (hr : RLe icells i0 n f bef) :
    ∃ n' f', RLe icells i0 n' f' (bef ++ (bif b.sat != 0 then [say [tSat, dec b.sat]] else []) ++ [say [tTravel, dec b.travel]] ++ b.links.map (encSel s.buses) ++ (bif !b.closed then [say [tBreaker, tOpen]] else [])) ∧ Lbyi_12 (okD M12) dcD s b g g n f x2 x2' 0 w true = leafB w n' f' := by
  obtain ⟨m, rfl⟩ : ∃ m, g = m + 1 := ⟨g - 1, by omega⟩
  rw [stbyi_12, okN h.sat, dcN]
  cases (b.sat != 0) with
  | false =>
    obtain ⟨n', f', h1, h2⟩ := t14 h (m + 1) hg x2 x2' w n f bef (by omega) hr
    refine ⟨n', f', by simpa using h1, ?_⟩
    rw [cond_false]
    exact h2
  | true =>
    obtain ⟨n', f', h1, h2⟩ := t14 h (m + 1) hg x2 x2' w (n + 1) _ (bef ++ [say [tSat, dec b.sat]]) (by omega) (hr.app rfl (sayC_de _))
    refine ⟨n', f', h1, ?_⟩
    rw [cond_true, cond_true, appOk5 (by omega), cond_true]
    exact h2
theorem t10 (n : Nat) (f : Nat → List D) (bef : List It) (hn : n ≤ 70) (hr : RLe icells i0 n f bef) :
    ∃ n' f', RLe icells i0 n' f' (bef ++ (bif b.kind != 3 then [say [tVt, dec b.vt]] else []) ++ (bif b.sat != 0 then [say [tSat, dec b.sat]] else []) ++ [say [tTravel, dec b.travel]] ++ b.links.map (encSel s.buses) ++ (bif !b.closed then [say [tBreaker, tOpen]] else [])) ∧ Lbyi_10 (okD M12) dcD s b g g n f x2 x2' 0 w true = leafB w n' f' := by
  obtain ⟨m, rfl⟩ : ∃ m, g = m + 1 := ⟨g - 1, by omega⟩
  rw [stbyi_10, okN h.vt, dcN]
  cases (b.kind != 3) with
  | false =>
    obtain ⟨n', f', h1, h2⟩ := t12 h (m + 1) hg x2 x2' w n f bef (by omega) hr
    refine ⟨n', f', by simpa using h1, ?_⟩
    rw [cond_false]
    exact h2
  | true =>
    obtain ⟨n', f', h1, h2⟩ := t12 h (m + 1) hg x2 x2' w (n + 1) _ (bef ++ [say [tVt, dec b.vt]]) (by omega) (hr.app rfl (sayC_de _))
    refine ⟨n', f', h1, ?_⟩
    rw [cond_true, cond_true, appOk5 (by omega), cond_true]
    exact h2
theorem t8 : ∃ n' f', RLe icells i0 n' f' (bayK s b) ∧ Lbyi_8 (okD M12) dcD s b g g 0 (fun _ => []) x2 x2' 0 w false = leafB w n' f' := by
  obtain ⟨m, rfl⟩ : ∃ m, g = m + 1 := ⟨g - 1, by omega⟩
  obtain ⟨n', f', h1, h2⟩ := t10 h (m + 1) hg x2 x2' w (0 + 1) _ ([] ++ [say [tCt, dec b.ct]]) (by omega) ((RLe.nil (c := icells) (d0 := i0) fun _ => []).app rfl (sayC_de _))
  refine ⟨n', f', h1, ?_⟩
  rw [stbyi_8, okN h.ct, dcN, cond_true, appOk5 (by omega), cond_true]
  exact h2
end

theorem bayW_fix (s : SSta) (b : SBay) (l : List ByteArray) (hl : bayW s b = plainW l) : DE (wordsC l) (wordsD (bayW s b)) := hl ▸ wordsC_de l
theorem cbyi (s : SSta) (b : SBay) (h : BFit s b) : CX Tryd.prog 21 [aSta s, aBay b] [] (.agg [.d (dI 0), .d (wordsD (bayW s b)), .d (dB true), .d (kidsD (encBay s b))]) [] := by
  obtain ⟨g, hg⟩ : ∃ g, 200 < g := ⟨201, by omega⟩
  have fin : ∀ (l : List ByteArray), bayW s b = plainW l → callC Tryd.prog (oSay (okD M12) dcD) annbyi g Tryd.f21 (bodyOf Tryd.f21) [aSta s, aBay b] [] = Lbyi_8 (okD M12) dcD s b g g 0 (fun _ => []) 0 false 0 (wordsC l) false →
      CX Tryd.prog 21 [aSta s, aBay b] [] (.agg [.d (dI 0), .d (wordsD (bayW s b)), .d (dB true), .d (kidsD (encBay s b))]) [] := fun l hl he => by
    obtain ⟨n', f', h1, h2⟩ := t8 h g hg 0 false (wordsC l)
    have hc := (cr_of sSay.ok Tryd.func21 bbyi rfl (he.trans h2)).data (y := .agg [.d (dI 0), .d (wordsC l), .d (dB true), .d (.sl 4 n' f')]) rfl
    refine (CX.of_cr Tryd.func21 bbyi hc).le ?_ (.refl _)
    refine ale_of_des (a := [dI 0, wordsC l, dB true, .sl 4 n' f']) (b := [dI 0, wordsD (bayW s b), dB true, kidsD (encBay s b)]) (.cons (.refl _) (.cons (bayW_fix s b l hl) (.cons (.refl _) (.cons ?_ .nil))))
    exact (h1.de (sz := 4)).trans (itemsD_de (encBay s b))
  have ev := evbyi (okD M12) dcD s b g
  cases h1 : (b.kind == 1) with
  | true =>
    obtain ⟨o1, o2⟩ := h.off1 (by simpa using h1)
    refine fin [tBay', b.name, tLine', (s.lines.getD b.off.toNat line0).name, dec b.fin] (by unfold bayW; rw [h1]; rfl) (ev.trans ?_)
    rw [h1, cond_true, decide_eq_true o1, decide_eq_true o2, tt, cond_true, okN h.fin, cond_true, dcN]
    rfl
  | false =>
    cases h2 : (b.kind == 2) with
    | true =>
      obtain ⟨o1, o2⟩ := h.off2 (by simpa using h2)
      refine fin [tBay', b.name, tSource, (s.srcs.getD b.off.toNat src0).name] (by unfold bayW; rw [h1, h2]; rfl) (ev.trans ?_)
      rw [h1, cond_false, h2, cond_true, decide_eq_true o1, decide_eq_true o2, tt, cond_true]
      rfl
    | false =>
      refine fin [tBay', b.name, tCoupler, dec b.zr, dec b.zx] (by unfold bayW; rw [h1, h2]; rfl) (ev.trans ?_)
      rw [h1, cond_false, h2, cond_false, okN h.zr, cond_true, okN h.zx, cond_true, dcN, dcN]
      rfl
end Go.Proofs.YthmapnolgdpkbaaDoor.de
namespace Go.Proofs.YthmapnolgdpkbaaDoor.de
open Go.RowKit Go.Eb Go.Proofs.YthmapnolgdpkbaaDoor.st
set_option maxRecDepth 100000

structure LFit (l : SLine) : Prop where
  r1 : numOk l.r1
  x1 : numOk l.x1
  r0 : numOk l.r0
  x0 : numOk l.x0
structure GFit (l : SSrc) : Prop where
  emf : numOk l.emf
  r1 : numOk l.r1
  x1 : numOk l.x1
  r0 : numOk l.r0
  x0 : numOk l.x0
structure SFit (s : SSta) : Prop where
  lines : ∀ k, k < s.lines.length → LFit (s.lines.getD k line0)
  srcs : ∀ k, k < s.srcs.length → GFit (s.srcs.getD k src0)
  bays : ∀ k, k < s.bays.length → BFit s (s.bays.getD k bay0)
  nb : s.buses.length ≤ 900
  nl : s.lines.length ≤ 900
  ns : s.srcs.length ≤ 900
  nq : s.bays.length ≤ 900
noncomputable def bFit (a : SSta × SBay) : Bool := @decide (BFit a.1 a.2) (Classical.propDecidable _)
theorem bFit_iff {a : SSta × SBay} : bFit a = true ↔ BFit a.1 a.2 := by unfold bFit; simp
theorem aBay_inj : InjA aBay := aG_inj bayC_inj
abbrev eSB := en2 aSta aBay
theorem eSB_inj : InjT eSB := en2_inj aSta_inj aBay_inj
noncomputable abbrev OEn : Orc := oEn (okD M12) dcD (okG (en1 aSta) okSta) (fun x => chkSta (theT (en1 aSta) x)) (okG eSB bFit) (fun x => wordsD (bayW (theT eSB x).1 (theT eSB x).2)) (fun x => kidsD (encBay (theT eSB x).1 (theT eSB x).2))
theorem sEn (hck : ∀ s, okSta s = true → CX Tryd.prog 10 [aSta s] [] (vI (chkSta s)) []) : OrcS Tryd.prog OEn :=
  .cons (.t' (r := fun a => vI (chkSta a)) fun a h => hck a h) (.cons (.t' (enc := eSB) (c := bFit) (r := fun a => .agg [.d (dI 0), .d (wordsD (bayW a.1 a.2)), .d (dB true), .d (kidsD (encBay a.1 a.2))]) fun a h => cbyi a.1 a.2 (bFit_iff.1 h)) sSay)
section
variable {s : SSta} (hs : SFit s) (g : Nat) (hg : 6000 < g)
include hs hg
noncomputable abbrev L5 (s : SSta) (g m n : Nat) (f : Nat → List D) (i : Int) := Lenc_5 (okD M12) dcD (okG (en1 aSta) okSta) (fun x => chkSta (theT (en1 aSta) x)) (okG eSB bFit) (fun x => wordsD (bayW (theT eSB x).1 (theT eSB x).2)) (fun x => kidsD (encBay (theT eSB x).1 (theT eSB x).2)) s g m n f i
noncomputable abbrev L9 (s : SSta) (g m n : Nat) (f : Nat → List D) (i : Int) := Lenc_9 (okD M12) dcD (okG (en1 aSta) okSta) (fun x => chkSta (theT (en1 aSta) x)) (okG eSB bFit) (fun x => wordsD (bayW (theT eSB x).1 (theT eSB x).2)) (fun x => kidsD (encBay (theT eSB x).1 (theT eSB x).2)) s g m n f i
noncomputable abbrev L14 (s : SSta) (g m n : Nat) (f : Nat → List D) (i : Int) := Lenc_14 (okD M12) dcD (okG (en1 aSta) okSta) (fun x => chkSta (theT (en1 aSta) x)) (okG eSB bFit) (fun x => wordsD (bayW (theT eSB x).1 (theT eSB x).2)) (fun x => kidsD (encBay (theT eSB x).1 (theT eSB x).2)) s g m n f i
noncomputable abbrev L19 (s : SSta) (g m n : Nat) (f : Nat → List D) (i : Int) := Lenc_19 (okD M12) dcD (okG (en1 aSta) okSta) (fun x => chkSta (theT (en1 aSta) x)) (okG eSB bFit) (fun x => wordsD (bayW (theT eSB x).1 (theT eSB x).2)) (fun x => kidsD (encBay (theT eSB x).1 (theT eSB x).2)) s g m n f i
def leafE (n : Nat) (f : Nat → List D) : Option (T (AV × Hp)) := some (T.leaf (AV.c (C.row 0 4 n), [(0, Blk.row n f 4 47)]))
theorem l19 (n : Nat) (f : Nat → List D) (bef : List It) (hn : n ≤ 4000) (hr : RLe icells i0 n f bef) : ∃ n' f', RLe icells i0 n' f' (bef ++ s.bays.map (encBay s)) ∧ L19 s g g n f 0 = leafE n' f' := by
  have hq := hs.nq
  obtain ⟨f', h1, h2⟩ := app_loop (L := fun m n f i => L19 s g m n f i) (K := leafE) (l := s.bays) (d := bay0) (c := icells) (d0 := i0) (ch := fun b => [dI 0, wordsD (bayW s b), dB true, kidsD (encBay s b)]) (e := encBay s) (sz := 4)
    (fun m k n f hk hn => by
      show L19 s g (m + 1) n f k = L19 s g m (n + 1) _ _
      unfold L19
      rw [stenc_19]
      have e1 : okG eSB bFit [AV.agg (List.map C.d (staC s)), AV.agg (List.map C.d (bayC (List.getD s.bays (Int.toNat (k : Int)) bay0)))] = true := by
        rw [tn]
        exact okG_enc eSB_inj (s, s.bays.getD k bay0) (bFit_iff.2 (hs.bays k hk))
      have e2 : theT eSB [AV.agg (List.map C.d (staC s)), AV.agg (List.map C.d (bayC (List.getD s.bays (Int.toNat (k : Int)) bay0)))] = (s, s.bays.getD k bay0) := by
        rw [tn]
        exact theT_enc eSB_inj (s, s.bays.getD k bay0)
      rw [e1, e2]
      simp -implicitDefEqProofs only [lt1 hk, ge0, tt, cond_true, nx hk (by omega), appOk5 hn])
    (fun m n f => by
      show L19 s g (m + 1) n f (s.bays.length : Int) = _
      unfold L19
      rw [stenc_19, lt0 (Nat.lt_irrefl _), cond_false]
      rfl)
    (fun _ => rfl) (fun k hk => bayC_de (x := encBay s (s.bays.getD k bay0)) rfl rfl (.refl _) (.refl _)) g 0 n f bef (by omega) (by omega) (by omega) hr
  simp only [Nat.sub_zero, List.drop_zero] at h1 h2
  exact ⟨_, f', h1, h2⟩
theorem l14 (n : Nat) (f : Nat → List D) (bef : List It) (hn : n ≤ 3000) (hr : RLe icells i0 n f bef) : ∃ n' f', RLe icells i0 n' f' (bef ++ s.srcs.map encSrc ++ s.bays.map (encBay s)) ∧ L14 s g g n f 0 = leafE n' f' := by
  have hq := hs.ns
  obtain ⟨f', h1, h2⟩ := app_loop (L := fun m n f i => L14 s g m n f i) (K := fun n f => L19 s g g n f 0) (l := s.srcs) (d := src0) (c := icells) (d0 := i0) (ch := fun l => sayC [tSource, l.name, dec l.emf, dec l.r1, dec l.x1, dec l.r0, dec l.x0]) (e := encSrc) (sz := 4)
    (fun m k n f hk hn => by
      show L14 s g (m + 1) n f k = L14 s g m (n + 1) _ _
      unfold L14
      have hf := hs.srcs k hk
      rw [stenc_14]
      simp -implicitDefEqProofs only [lt1 hk, ge0, tn, tt, cond_true, nx hk (by omega), appOk5 hn, okN hf.emf, okN hf.r1, okN hf.x1, okN hf.r0, okN hf.x0, dcN]
      generalize Lenc_14 (okD M12) dcD (okG (en1 aSta) okSta) (fun x => chkSta (theT (en1 aSta) x)) (okG eSB bFit) (fun x => wordsD (bayW (theT eSB x).1 (theT eSB x).2)) (fun x => kidsD (encBay (theT eSB x).1 (theT eSB x).2)) s g m = LL
      rfl)
    (fun m n f => by
      show L14 s g (m + 1) n f (s.srcs.length : Int) = _
      unfold L14
      rw [stenc_14, lt0 (Nat.lt_irrefl _), cond_false])
    (fun _ => rfl) (fun k _ => sayC_de _) g 0 n f bef (by omega) (by omega) (by omega) hr
  simp only [Nat.sub_zero, List.drop_zero] at h1 h2
  obtain ⟨n2, f2, k1, k2⟩ := l19 hs g hg _ f' _ (by omega) h1
  exact ⟨n2, f2, k1, h2.trans k2⟩
theorem l9 (n : Nat) (f : Nat → List D) (bef : List It) (hn : n ≤ 2000) (hr : RLe icells i0 n f bef) : ∃ n' f', RLe icells i0 n' f' (bef ++ s.lines.map encLine ++ s.srcs.map encSrc ++ s.bays.map (encBay s)) ∧ L9 s g g n f 0 = leafE n' f' := by
  have hq := hs.nl
  obtain ⟨f', h1, h2⟩ := app_loop (L := fun m n f i => L9 s g m n f i) (K := fun n f => L14 s g g n f 0) (l := s.lines) (d := line0) (c := icells) (d0 := i0) (ch := fun l => sayC [tLine', l.name, dec l.r1, dec l.x1, dec l.r0, dec l.x0]) (e := encLine) (sz := 4)
    (fun m k n f hk hn => by
      show L9 s g (m + 1) n f k = L9 s g m (n + 1) _ _
      unfold L9
      have hf := hs.lines k hk
      rw [stenc_9]
      simp -implicitDefEqProofs only [lt1 hk, ge0, tn, tt, cond_true, nx hk (by omega), appOk5 hn, okN hf.r1, okN hf.x1, okN hf.r0, okN hf.x0, dcN]
      generalize Lenc_9 (okD M12) dcD (okG (en1 aSta) okSta) (fun x => chkSta (theT (en1 aSta) x)) (okG eSB bFit) (fun x => wordsD (bayW (theT eSB x).1 (theT eSB x).2)) (fun x => kidsD (encBay (theT eSB x).1 (theT eSB x).2)) s g m = LL
      rfl)
    (fun m n f => by
      show L9 s g (m + 1) n f (s.lines.length : Int) = _
      unfold L9
      rw [stenc_9, lt0 (Nat.lt_irrefl _), cond_false])
    (fun _ => rfl) (fun k _ => sayC_de _) g 0 n f bef (by omega) (by omega) (by omega) hr
  simp only [Nat.sub_zero, List.drop_zero] at h1 h2
  obtain ⟨n2, f2, k1, k2⟩ := l14 hs g hg _ f' _ (by omega) h1
  exact ⟨n2, f2, k1, h2.trans k2⟩
theorem l5 (n : Nat) (f : Nat → List D) (bef : List It) (hn : n ≤ 1000) (hr : RLe icells i0 n f bef) : ∃ n' f', RLe icells i0 n' f' (bef ++ s.buses.map encBus ++ s.lines.map encLine ++ s.srcs.map encSrc ++ s.bays.map (encBay s)) ∧ L5 s g g n f 0 = leafE n' f' := by
  have hq := hs.nb
  obtain ⟨f', h1, h2⟩ := app_loop (L := fun m n f i => L5 s g m n f i) (K := fun n f => L9 s g g n f 0) (l := s.buses) (d := e0) (c := icells) (d0 := i0) (ch := fun x => sayC [tBus', x]) (e := encBus) (sz := 4)
    (fun m k n f hk hn => by
      show L5 s g (m + 1) n f k = L5 s g m (n + 1) _ _
      unfold L5
      rw [stenc_5]
      simp -implicitDefEqProofs only [lt1 hk, ge0, tn, tt, cond_true, nx hk (by omega), appOk5 hn]
      generalize Lenc_5 (okD M12) dcD (okG (en1 aSta) okSta) (fun x => chkSta (theT (en1 aSta) x)) (okG eSB bFit) (fun x => wordsD (bayW (theT eSB x).1 (theT eSB x).2)) (fun x => kidsD (encBay (theT eSB x).1 (theT eSB x).2)) s g m = LL
      rfl)
    (fun m n f => by
      show L5 s g (m + 1) n f (s.buses.length : Int) = _
      unfold L5
      rw [stenc_5, lt0 (Nat.lt_irrefl _), cond_false])
    (fun _ => rfl) (fun k _ => sayC_de _) g 0 n f bef (by omega) (by omega) (by omega) hr
  simp only [Nat.sub_zero, List.drop_zero] at h1 h2
  obtain ⟨n2, f2, k1, k2⟩ := l9 hs g hg _ f' _ (by omega) h1
  exact ⟨n2, f2, k1, h2.trans k2⟩
end

theorem cenc (hck : ∀ s, okSta s = true → CX Tryd.prog 10 [aSta s] [] (vI (chkSta s)) []) (s : SSta) (ho : okSta s = true) (h0 : chkSta s = 0) (hs : SFit s) : CX Tryd.prog 9 [aSta s] [] (.c (.d (itemsD (encSta s)))) [] := by
  obtain ⟨g, hg⟩ : ∃ g, 6000 < g := ⟨6001, by omega⟩
  have ev := evenc (okD M12) dcD (okG (en1 aSta) okSta) (fun x => chkSta (theT (en1 aSta) x)) (okG eSB bFit) (fun x => wordsD (bayW (theT eSB x).1 (theT eSB x).2)) (fun x => kidsD (encBay (theT eSB x).1 (theT eSB x).2)) s g
  have e1 : okG (en1 aSta) okSta [AV.agg (List.map C.d (staC s))] = true := okG_enc (en1_inj aSta_inj) s ho
  have e2 : theT (en1 aSta) [AV.agg (List.map C.d (staC s))] = s := theT_enc (en1_inj aSta_inj) s
  rw [e1, e2, h0] at ev
  simp only [cond_true, bne_self_eq_false, cond_false] at ev
  obtain ⟨n', f', h1, h2⟩ := l5 hs g hg 1 _ [say [tStation, s.name]] (by omega) (.one (sz := 4) rfl (sayC_de [tStation, s.name]))
  have hc := (cr_of (sEn hck).ok Tryd.func9 benc rfl (ev.trans h2)).data (y := .c (.d (.sl 4 n' f'))) rfl
  refine (CX.of_cr Tryd.func9 benc hc).le ?_ (.refl _)
  exact h1.de (sz := 4)
end Go.Proofs.YthmapnolgdpkbaaDoor.de
namespace Go.Proofs.YthmapnolgdpkbaaDoor.de
open Go.RowKit Go.Eb Go.Proofs.YthmapnolgdpkbaaDoor.st
set_option maxRecDepth 100000

end Go.Proofs.YthmapnolgdpkbaaDoor.de
namespace Go.Proofs.YthmapnolgdpkbaaDoor.de
open Go.RowKit Go.Eb Go.Proofs.YthmapnolgdpkbaaDoor.st
set_option maxRecDepth 100000

end Go.Proofs.YthmapnolgdpkbaaDoor.de
namespace Go.Proofs.YthmapnolgdpkbaaDoor.de
open Go.RowKit Go.Eb Go.Proofs.YthmapnolgdpkbaaDoor.st
set_option maxRecDepth 100000

instance : Inhabited It := ⟨i0⟩
/-! rows that are a list's own row, to the letter -/
section
variable {β : Type} (c : β → List D) (d0 : β) (sz : Nat)
end
section
variable (t : ByteArray) (s0 : ByteArray) (ka : Nat) (ga : Nat → List D) (kb : Nat) (gb : Nat → List D) (kc : Nat) (gc : Nat → List D) (kd : Nat) (gd : Nat → List D) (mpa : List (Value × Value)) (nd : Bool) (b : SBay) (kl : Nat) (gl : Nat → List D) (seen : List (Value × Value))
end
end Go.Proofs.YthmapnolgdpkbaaDoor.de
namespace Go.Proofs.YthmapnolgdpkbaaDoor.de
open Go.RowKit Go.Eb Go.Proofs.YthmapnolgdpkbaaDoor.st
set_option maxRecDepth 100000

end Go.Proofs.YthmapnolgdpkbaaDoor.de
namespace Go.Proofs.YthmapnolgdpkbaaDoor.de
open Go.RowKit Go.Eb Go.Proofs.YthmapnolgdpkbaaDoor.st
set_option maxRecDepth 100000

section
variable (x : SBay) (s0 : ByteArray) (ka : Nat) (ga : Nat → List D) (kb : Nat) (gb : Nat → List D) (kc : Nat) (gc : Nat → List D) (kd : Nat) (gd : Nat → List D) (mpa : List (Value × Value)) (nd : Bool)
end

section
variable (x : SBay) (s0 : ByteArray) (ka : Nat) (ga : Nat → List D) (kb : Nat) (gb : Nat → List D) (kc : Nat) (gc : Nat → List D) (bs : List SBay) (mpa : List (Value × Value)) (nd : Bool)
end
end Go.Proofs.YthmapnolgdpkbaaDoor.de
namespace Go.Proofs.YthmapnolgdpkbaaDoor.de
open Go.RowKit Go.Eb Go.Proofs.YthmapnolgdpkbaaDoor.st
set_option maxRecDepth 100000

theorem sne {a b : ByteArray} (h : a ≠ b) : same a b = false := by
  cases e : same a b with
  | false => rfl
  | true => exact absurd (same_iff.1 e) h
end Go.Proofs.YthmapnolgdpkbaaDoor.de
namespace Go.Proofs.YthmapnolgdpkbaaDoor.de
open Go.RowKit Go.Eb Go.Proofs.YthmapnolgdpkbaaDoor.st
set_option maxRecDepth 100000

end Go.Proofs.YthmapnolgdpkbaaDoor.de
namespace Go.Proofs.YthmapnolgdpkbaaDoor.de
open Go.RowKit Go.Eb Go.Proofs.YthmapnolgdpkbaaDoor.st
set_option maxRecDepth 100000

section
variable (x : It) (s0 : ByteArray) (nl : List ByteArray) (ll : List SLine) (sl : List SSrc) (yl : List SBay) (nd : Bool)
end
end Go.Proofs.YthmapnolgdpkbaaDoor.de
namespace Go.Proofs.YthmapnolgdpkbaaDoor.de
open Go.RowKit Go.Eb Go.Proofs.YthmapnolgdpkbaaDoor.st
set_option maxRecDepth 100000

def nOk (n : Int) : Prop := 0 ≤ n ∧ n ≤ 9999999
section
variable (nl : List ByteArray) (t u : ByteArray) (b : SBay)
variable {nl t u b} {r : List It} {n : Nat}
end
end Go.Proofs.YthmapnolgdpkbaaDoor.de
namespace Go.Proofs.YthmapnolgdpkbaaDoor.de
open Go.RowKit Go.Eb Go.Proofs.YthmapnolgdpkbaaDoor.st Go.Proofs.YthmapnolgdpkbaaDoor.wd
set_option maxRecDepth 100000

theorem bs_app (a b : ByteArray) : bs (a ++ b) = bs a ++ bs b := by simp [bs]
theorem val_app (a b : List UInt8) (n : Int) : val (a ++ b) n = val b (val a n) := by
  induction a generalizing n with
  | nil => rfl
  | cons c r ih => exact ih _
theorem u8 {n : Nat} (h : n < 10) : (UInt8.ofNat (48 + n)).toNat = 48 + n := by
  rw [UInt8.toNat_ofNat']; omega
theorem bs1 {n : Nat} (h : n < 10) : bs (decB n) = [UInt8.ofNat (48 + n)] := by rw [decB_lt h]
theorem decB_facts (n : Nat) : digs (bs (decB n)) = true ∧ val (bs (decB n)) 0 = n ∧ (∃ c r, bs (decB n) = c :: r ∧ 48 ≤ c.toNat ∧ (0 < n → c.toNat ≠ 48)) := by
  induction n using Nat.strongRecOn with
  | ind n ih =>
    by_cases h : n < 10
    · rw [bs1 h]
      refine ⟨?_, ?_, _, [], rfl, by rw [u8 h]; omega, fun h0 => by rw [u8 h]; omega⟩
      · show (digit ((UInt8.ofNat (48 + n)).toNat : Int) && true) = true
        rw [u8 h]
        unfold digit
        simp; omega
      · show (10 * 0 + (((UInt8.ofNat (48 + n)).toNat : Int) - 48)) = _
        rw [u8 h]; omega
    · obtain ⟨h1, h2, c, r, h3, h4, h5⟩ := ih (n / 10) (by omega)
      obtain ⟨k1, k2, _⟩ := ih (n % 10) (by omega)
      have hm : n % 10 < 10 := by omega
      rw [decB_ge h, bs_app]
      refine ⟨?_, ?_, c, r ++ bs (decB (n % 10)), by rw [h3]; rfl, h4, fun _ => h5 (by omega)⟩
      · unfold digs at h1 k1 ⊢
        rw [List.all_append, h1, k1]; rfl
      · rw [val_app, h2, bs1 hm]
        show (10 * ((n / 10 : Nat) : Int) + (((UInt8.ofNat (48 + n % 10)).toNat : Int) - 48)) = _
        rw [u8 hm]; omega
theorem decB_sz (k : Nat) : ∀ n : Nat, n < 10 ^ (k + 1) → (decB n).size ≤ k + 1 := by
  induction k with
  | zero => intro n h; rw [decB_lt (by simpa using h)]; exact Nat.le_refl 1
  | succ k ih =>
    intro n h
    by_cases h10 : n < 10
    · rw [decB_lt h10]; show 1 ≤ _; omega
    · rw [decB_ge h10, ByteArray.size_append, decB_lt (show n % 10 < 10 by omega)]
      have : n / 10 < 10 ^ (k + 1) := by
        rw [Nat.div_lt_iff_lt_mul (by omega), ← Nat.pow_succ]; exact h
      have := ih (n / 10) this
      show (decB (n / 10)).size + 1 ≤ _
      omega
end Go.Proofs.YthmapnolgdpkbaaDoor.de
namespace Go.Proofs.YthmapnolgdpkbaaDoor.de
open Go.RowKit Go.Eb Go.Proofs.YthmapnolgdpkbaaDoor.st
set_option maxRecDepth 100000

section
variable (x : It) (s0 : ByteArray) (nl : List ByteArray) (ll : List SLine) (sl : List SSrc) (yl : List SBay) (nd : Bool) (b : SBay)
end

/-! the head's facts -/
section
variable (x : It) (ll : List SLine) (sl : List SSrc)
end
end Go.Proofs.YthmapnolgdpkbaaDoor.de
namespace Go.Proofs.YthmapnolgdpkbaaDoor.de
open Go.RowKit Go.Eb Go.Proofs.YthmapnolgdpkbaaDoor.st
set_option maxRecDepth 100000

section
variable (s0 : ByteArray) (nl : List ByteArray) (ll : List SLine) (sl : List SSrc) (yl : List SBay) (nd : Bool) (ks : List It) (nm o : ByteArray) (off fi zr zx : Int) (g : Nat)
end
end Go.Proofs.YthmapnolgdpkbaaDoor.de
namespace Go.Proofs.YthmapnolgdpkbaaDoor.de
open Go.RowKit Go.Eb Go.Proofs.YthmapnolgdpkbaaDoor.st
set_option maxRecDepth 100000

theorem bay_facts {nb nl ns : Nat} {dup : Bool} {bef : List SBay} {b : SBay} (h : bayErrD nb nl ns dup bef b = 0) : (b.kind = 1 ∨ b.kind = 2 ∨ b.kind = 3) ∧ rngOk b = true ∧ 0 ≤ b.off ∧ (b.kind = 3 → b.off = 0) ∧ linksErr nb b = 0 := by
  unfold bayErrD at h
  cases hn : nameOk b.name with
  | false => rw [hn] at h; exact absurd h (show ¬ (7 : Int) = 0 by decide)
  | true =>
    rw [hn] at h
    cases dup with
    | true => exact absurd h (show ¬ (8 : Int) = 0 by decide)
    | false =>
      simp only [Bool.not_true, cond_false] at h
      cases hc : cntOf nl ns b.kind with
      | none => rw [hc] at h; exact absurd h (show ¬ (10 : Int) = 0 by decide)
      | some c =>
        rw [hc] at h
        simp only [] at h
        have hk : b.kind = 1 ∨ b.kind = 2 ∨ (b.kind = 3 ∧ c = 1) := by
          unfold cntOf at hc
          cases e1 : (b.kind == 1) with
          | true => exact .inl (eq_of_beq e1)
          | false =>
            cases e2 : (b.kind == 2) with
            | true => exact .inr (.inl (eq_of_beq e2))
            | false =>
              cases e3 : (b.kind == 3) with
              | true => rw [e1, e2, e3] at hc; simp only [cond_true, cond_false, Option.some.injEq] at hc; exact .inr (.inr ⟨eq_of_beq e3, hc.symm⟩)
              | false => rw [e1, e2, e3] at hc; cases hc
        cases hw : within b.off 0 (c - 1) with
        | false => rw [hw] at h; exact absurd h (show ¬ (9 : Int) = 0 by decide)
        | true =>
          rw [hw] at h
          cases hr : rngOk b with
          | false => rw [hr] at h; exact absurd h (show ¬ (2 : Int) = 0 by decide)
          | true =>
            rw [hr] at h
            cases ha : bef.any (clash b) with
            | true => rw [ha] at h; exact absurd h (show ¬ (12 : Int) = 0 by decide)
            | false =>
              rw [ha] at h
              simp only [Bool.not_true, cond_false] at h
              unfold within at hw
              simp only [Bool.and_eq_true, decide_eq_true_eq] at hw
              refine ⟨?_, rfl, hw.1, fun k => ?_, h⟩
              · rcases hk with k | k | k
                · exact .inl k
                · exact .inr (.inl k)
                · exact .inr (.inr k.1)
              · rcases hk with k' | k' | ⟨_, k'⟩ <;> omega
theorem links_len {nb : Nat} {b : SBay} (h : linksErr nb b = 0) : (b.links.length = 1 ∨ b.links.length = 2) ∧ linkErr nb b.kind none b.links = 0 := by
  unfold linksErr at h
  cases e1 : decide (b.links.length < 1) with
  | true => rw [e1] at h; exact absurd h (show ¬ (3 : Int) = 0 by decide)
  | false =>
    cases e2 : decide (2 < b.links.length) with
    | true => rw [e1, e2] at h; exact absurd h (show ¬ (3 : Int) = 0 by decide)
    | false =>
      cases e3 : (b.kind == 3 && b.links.length != 2) with
      | true => rw [e1, e2, e3] at h; exact absurd h (show ¬ (3 : Int) = 0 by decide)
      | false =>
        rw [e1, e2, e3] at h
        have q1 := of_decide_eq_false e1
        have q2 := of_decide_eq_false e2
        exact ⟨by omega, h⟩
theorem rng_facts {b : SBay} (h : rngOk b = true) : nOk b.ct ∧ nOk b.vt ∧ nOk b.sat ∧ nOk b.travel ∧ nOk b.fin ∧ nOk b.zr ∧ nOk b.zx ∧ (b.kind = 3 → b.vt = 0) ∧ (b.kind ≠ 1 → b.fin = 0) ∧ (b.kind ≠ 3 → b.zr = 0 ∧ b.zx = 0) := by
  unfold rngOk at h
  unfold nOk
  by_cases k3 : b.kind = 3
  · have k1 : ¬ b.kind = 1 := by omega
    simp [k3, within, impOk] at h
    refine ⟨by omega, by omega, by omega, by omega, by omega, by omega, by omega, fun _ => by omega, fun _ => by omega, fun q => absurd k3 q⟩
  · by_cases k1 : b.kind = 1
    · simp [k1, within, impOk] at h
      refine ⟨by omega, by omega, by omega, by omega, by omega, by omega, by omega, fun _ => by omega, fun _ => by omega, fun q => by omega⟩
    · have kb : (b.kind == 1) = false := by simpa using k1
      simp [kb, k3, within, impOk] at h
      refine ⟨by omega, by omega, by omega, by omega, by omega, by omega, by omega, fun _ => by omega, fun _ => by omega, fun q => by omega⟩
section
variable (s : SSta) (b : SBay) (s0 : ByteArray) (yl : List SBay) (nd : Bool)
end
end Go.Proofs.YthmapnolgdpkbaaDoor.de
namespace Go.Proofs.YthmapnolgdpkbaaDoor.ck
open Go.RowKit Go.Eb
set_option maxRecDepth 100000
open Go.Proofs.YthmapnolgdpkbaaDoor.wd (letter digit plainR plainS)
end Go.Proofs.YthmapnolgdpkbaaDoor.ck
namespace Go.Proofs.YthmapnolgdpkbaaDoor.ck
open Go.RowKit Go.Eb
set_option maxRecDepth 100000
open Go.Proofs.YthmapnolgdpkbaaDoor.wd

def opn (w : Wd) : Bool := !w.q && (!(w.text.toList == (ByteArray.mk #[]).toList) && letter ((bs w.text).getD 0 0).toNat)

def qch (c : UInt8) : Bool := !(decide ((c.toNat : Int) < 32)) && (!(decide ((c.toNat : Int) > 126)) && !((c.toNat : Int) == 34))
def quot (s : ByteArray) : Bool := (bs s).all qch

def cwd (w : Wd) : Int := bif decide ((w.text.size : Int) > 120) then 4 else bif w.q then (bif quot w.text then 0 else 5) else (bif plainS w.text then 0 else 6)
def cws : List Wd → Int
  | [] => 0
  | w :: r => bif cwd w != 0 then cwd w else cws r
def ckItem (x : It) : Int :=
  bif (x.words.length : Int) == 0 then 6 else bif !opn (x.words.getD 0 w0) then 6 else bif decide ((x.words.length : Int) > 40) then 3 else
    bif cws x.words != 0 then cws x.words else bif !x.block then (bif decide ((x.kids.length : Int) > 0) then 12 else 0) else 0
def chP : List It → Int → Int → Int × Int
  | [], _, n => (0, n)
  | .mk a w b k :: r, d, n =>
    bif decide (IntKind.wrap IntKind.i64 (n + 1) > 600) then (3, IntKind.wrap IntKind.i64 (n + 1)) else bif decide (d > 4) then (17, IntKind.wrap IntKind.i64 (n + 1)) else
      bif ckItem (.mk a w b k) != 0 then (ckItem (.mk a w b k), IntKind.wrap IntKind.i64 (n + 1)) else
        bif (chP k (IntKind.wrap IntKind.i64 (d + 1)) (IntKind.wrap IntKind.i64 (n + 1))).1 != 0 then chP k (IntKind.wrap IntKind.i64 (d + 1)) (IntKind.wrap IntKind.i64 (n + 1)) else
          chP r d (chP k (IntKind.wrap IntKind.i64 (d + 1)) (IntKind.wrap IntKind.i64 (n + 1))).2
theorem chP_cons (x : It) (r : List It) (d n : Int) : chP (x :: r) d n = bif decide (IntKind.wrap IntKind.i64 (n + 1) > 600) then (3, IntKind.wrap IntKind.i64 (n + 1)) else bif decide (d > 4) then (17, IntKind.wrap IntKind.i64 (n + 1)) else
      bif ckItem x != 0 then (ckItem x, IntKind.wrap IntKind.i64 (n + 1)) else
        bif (chP x.kids (IntKind.wrap IntKind.i64 (d + 1)) (IntKind.wrap IntKind.i64 (n + 1))).1 != 0 then chP x.kids (IntKind.wrap IntKind.i64 (d + 1)) (IntKind.wrap IntKind.i64 (n + 1)) else
          chP r d (chP x.kids (IntKind.wrap IntKind.i64 (d + 1)) (IntKind.wrap IntKind.i64 (n + 1))).2 := by cases x; simp only [chP, It.kids]

def chk (l : List It) : Int := (chP l 0 0).1
end Go.Proofs.YthmapnolgdpkbaaDoor.ck
namespace Go.Proofs.YthmapnolgdpkbaaDoor.de
open Go.RowKit Go.Eb Go.Proofs.YthmapnolgdpkbaaDoor.st
set_option maxRecDepth 100000

end Go.Proofs.YthmapnolgdpkbaaDoor.de
namespace Go.Proofs.YthmapnolgdpkbaaDoor.de
open Go.RowKit Go.Eb Go.Proofs.YthmapnolgdpkbaaDoor.st
set_option maxRecDepth 100000

end Go.Proofs.YthmapnolgdpkbaaDoor.de
namespace Go.Proofs.YthmapnolgdpkbaaDoor.de
open Go.RowKit Go.Eb Go.Proofs.YthmapnolgdpkbaaDoor.st
set_option maxRecDepth 100000

section
variable (l : List It) (g m : Nat) (n2 : Nat) (f2 : Nat → List D) (n3 : Nat) (f3 : Nat → List D) (n4 : Nat) (f4 : Nat → List D) (n5 : Nat) (f5 : Nat → List D) (k : Nat) (x0 x1 : ByteArray) (nd : Bool)
end
end Go.Proofs.YthmapnolgdpkbaaDoor.de
namespace Go.Proofs.YthmapnolgdpkbaaDoor.de
open Go.RowKit Go.Eb Go.Proofs.YthmapnolgdpkbaaDoor.st
set_option maxRecDepth 100000

theorem imp_facts {r x : Int} (h : impOk r x = true) : 0 ≤ r ∧ r ≤ 1000 ∧ 1 ≤ x ∧ x ≤ 1000 := by
  unfold impOk within at h
  simp at h
  omega
section
variable (l : List It) (g m : Nat) (n2 : Nat) (f2 : Nat → List D) (n3 : Nat) (f3 : Nat → List D) (n4 : Nat) (f4 : Nat → List D) (n5 : Nat) (f5 : Nat → List D) (k : Nat) (x0 x1 : ByteArray) (nd : Bool)
end
end Go.Proofs.YthmapnolgdpkbaaDoor.de
namespace Go.Proofs.YthmapnolgdpkbaaDoor.de
open Go.RowKit Go.Eb Go.Proofs.YthmapnolgdpkbaaDoor.st
set_option maxRecDepth 100000

inductive Tg where
  | sta
  | bus (n : ByteArray)
  | line (L : SLine)
  | src (L : SSrc)
  | bay (b : SBay)
  | oth (y : It)
def Tg.enc (s : SSta) : Tg → It
  | .sta => say [tStation, s.name]
  | .bus n => encBus n
  | .line L => encLine L
  | .src L => encSrc L
  | .bay b => encBay s b
  | .oth y => y
section
variable (s : SSta) (l : List It) (g : Nat) (x0 : ByteArray)
end
end Go.Proofs.YthmapnolgdpkbaaDoor.de
namespace Go.Proofs.YthmapnolgdpkbaaDoor.de
open Go.RowKit Go.Eb Go.Proofs.YthmapnolgdpkbaaDoor.st
set_option maxRecDepth 100000

section
variable (s : SSta) (l : List It) (g : Nat) (x0 : ByteArray)
end
end Go.Proofs.YthmapnolgdpkbaaDoor.de
namespace Go.Proofs.YthmapnolgdpkbaaDoor.de
open Go.RowKit Go.Eb Go.Proofs.YthmapnolgdpkbaaDoor.st
set_option maxRecDepth 100000

section
variable (s : SSta)
theorem take_at {α : Type} {nm : α → ByteArray} {F : List ByteArray → List α → α → Int} {N : List ByteArray} {x0 : α} : ∀ (l bef : List α) (k : Nat), (takeN nm F N bef l).1 = 0 → k < l.length → F (N ++ (bef ++ l.take k).map nm) (bef ++ l.take k) (l.getD k x0) = 0
  | [], _, k, _, hk => by simp at hk
  | x :: r, bef, k, h, hk => by
    simp only [takeN] at h
    cases e : (F (N ++ bef.map nm) bef x != 0) with
    | true =>
      rw [e] at h
      simp only [cond_true] at h
      rw [h] at e
      cases e
    | false =>
      rw [e] at h
      simp only [cond_false] at h
      cases k with
      | zero =>
        simp only [List.take_zero, List.append_nil, List.getD_cons_zero]
        simpa using e
      | succ k =>
        have := take_at (x0 := x0) r (bef ++ [x]) k h (by simpa using hk)
        simpa using this
end
end Go.Proofs.YthmapnolgdpkbaaDoor.de
namespace Go.Proofs.YthmapnolgdpkbaaDoor.de
open Go.RowKit Go.Eb Go.Proofs.YthmapnolgdpkbaaDoor.st
set_option maxRecDepth 100000

theorem nam_facts {N : List ByteArray} {n : ByteArray} (h : namErr N n = 0) : nameOk n = true ∧ inB N n = false := by
  unfold namErr at h
  cases h1 : nameOk n with
  | false => rw [h1] at h; exact absurd h (show ¬ (7 : Int) = 0 by decide)
  | true =>
    cases h2 : inB N n with
    | true => rw [h1, h2] at h; exact absurd h (show ¬ (8 : Int) = 0 by decide)
    | false => exact ⟨rfl, rfl⟩
theorem line_facts {N : List ByteArray} {x : SLine} (h : lineErr N x = 0) : nameOk x.name = true ∧ inB N x.name = false ∧ impOk x.r1 x.x1 = true ∧ impOk x.r0 x.x0 = true := by
  unfold lineErr at h
  cases h0 : (namErr N x.name != 0) with
  | true =>
    rw [h0] at h
    simp only [cond_true] at h
    rw [h] at h0; cases h0
  | false =>
    obtain ⟨n1, n2⟩ := nam_facts (show namErr N x.name = 0 by simpa using h0)
    rw [h0] at h
    cases h1 : impOk x.r1 x.x1 with
    | false => rw [h1] at h; exact absurd h (show ¬ (2 : Int) = 0 by decide)
    | true =>
      cases h2 : impOk x.r0 x.x0 with
      | false => rw [h1, h2] at h; exact absurd h (show ¬ (2 : Int) = 0 by decide)
      | true => exact ⟨n1, n2, rfl, rfl⟩
theorem src_facts {N : List ByteArray} {x : SSrc} (h : srcErr N x = 0) : nameOk x.name = true ∧ inB N x.name = false ∧ impOk x.r1 x.x1 = true ∧ impOk x.r0 x.x0 = true ∧ within x.emf 1 1000000 = true := by
  unfold srcErr at h
  cases h0 : (namErr N x.name != 0) with
  | true =>
    rw [h0] at h
    simp only [cond_true] at h
    rw [h] at h0; cases h0
  | false =>
    obtain ⟨n1, n2⟩ := nam_facts (show namErr N x.name = 0 by simpa using h0)
    rw [h0] at h
    cases h3 : within x.emf 1 1000000 with
    | false => rw [h3] at h; exact absurd h (show ¬ (2 : Int) = 0 by decide)
    | true =>
      cases h1 : impOk x.r1 x.x1 with
      | false => rw [h3, h1] at h; exact absurd h (show ¬ (2 : Int) = 0 by decide)
      | true =>
        cases h2 : impOk x.r0 x.x0 with
        | false => rw [h3, h1, h2] at h; exact absurd h (show ¬ (2 : Int) = 0 by decide)
        | true => exact ⟨n1, n2, rfl, rfl, rfl⟩
section
variable (s : SSta)
end
end Go.Proofs.YthmapnolgdpkbaaDoor.de
namespace Go.Eb
open Go.RowKit

/-! Check by names and by what else is wrong -/
end Go.Eb
namespace Go.Proofs.YthmapnolgdpkbaaDoor.de
open Go.RowKit Go.Eb Go.Proofs.YthmapnolgdpkbaaDoor.st
set_option maxRecDepth 100000

theorem bay_off {nb nl ns : Nat} {dup : Bool} {bef : List SBay} {b : SBay} (h : bayErrD nb nl ns dup bef b = 0) : (b.kind = 1 → b.off.toNat < nl) ∧ (b.kind = 2 → b.off.toNat < ns) := by
  have ho := (bay_facts h).2.2.1
  unfold bayErrD at h
  cases hn : nameOk b.name with
  | false => rw [hn] at h; exact absurd h (show ¬ (7 : Int) = 0 by decide)
  | true =>
    rw [hn] at h
    cases dup with
    | true => exact absurd h (show ¬ (8 : Int) = 0 by decide)
    | false =>
      simp only [Bool.not_true, cond_false] at h
      refine ⟨fun k => ?_, fun k => ?_⟩
      · rw [show cntOf nl ns b.kind = some (nl : Int) by unfold cntOf; rw [k]; rfl] at h
        simp only [] at h
        cases hw : within b.off 0 ((nl : Int) - 1) with
        | false => rw [hw] at h; exact absurd h (show ¬ (9 : Int) = 0 by decide)
        | true => unfold within at hw; simp only [Bool.and_eq_true, decide_eq_true_eq] at hw; omega
      · rw [show cntOf nl ns b.kind = some (ns : Int) by unfold cntOf; rw [k]; rfl] at h
        simp only [] at h
        cases hw : within b.off 0 ((ns : Int) - 1) with
        | false => rw [hw] at h; exact absurd h (show ¬ (9 : Int) = 0 by decide)
        | true => unfold within at hw; simp only [Bool.and_eq_true, decide_eq_true_eq] at hw; omega
theorem link_all {nb : Nat} {k : Int} : ∀ {p : Option Int} {ls : List SLink}, linkErr nb k p ls = 0 → ∀ l ∈ ls, 0 ≤ l.bus ∧ l.bus.toNat < nb ∧ (l.pos = 0 ∨ l.pos = 1)
  | _, [], _, l, hl => by cases hl
  | p, x :: r, h, l, hl => by
    unfold linkErr at h
    cases hw : within x.bus 0 ((nb : Int) - 1) with
    | false => rw [hw] at h; exact absurd h (show ¬ (9 : Int) = 0 by decide)
    | true =>
      rw [hw] at h
      simp only [Bool.not_true, cond_false] at h
      cases hp : (x.pos != 1 && (x.pos != 0 || k == 3)) with
      | true => rw [hp] at h; exact absurd h (show ¬ (16 : Int) = 0 by decide)
      | false =>
        rw [hp] at h
        simp only [cond_false] at h
        cases hd : (p == some x.bus) with
        | true => rw [hd] at h; exact absurd h (show ¬ (12 : Int) = 0 by decide)
        | false =>
          rw [hd] at h
          simp only [cond_false] at h
          rcases List.mem_cons.1 hl with rfl | hl
          · unfold within at hw
            simp only [Bool.and_eq_true, decide_eq_true_eq] at hw
            refine ⟨hw.1, by omega, ?_⟩
            cases q1 : (l.pos != 1) with
            | false => right; simpa using q1
            | true =>
              cases q2 : (l.pos != 0) with
              | false => left; simpa using q2
              | true => rw [q1, q2] at hp; cases hp
          · exact link_all h l hl
section
variable (s : SSta)
end
end Go.Proofs.YthmapnolgdpkbaaDoor.de
namespace Go.Proofs.YthmapnolgdpkbaaDoor.de
open Go.RowKit Go.Eb Go.Proofs.YthmapnolgdpkbaaDoor.st
set_option maxRecDepth 100000

theorem chk_split {s : SSta} (h : chkSta s = 0) : nameOk s.name = true ∧ cntBad s = false ∧ (tBus s.buses).1 = 0 ∧ (tLine s.buses s.lines).1 = 0 ∧ (tSrc (s.buses ++ s.lines.map SLine.name) s.srcs).1 = 0 ∧ (tBay s.buses.length s.lines.length s.srcs.length (s.buses ++ s.lines.map SLine.name ++ s.srcs.map SSrc.name) s.bays).1 = 0 := by
  unfold chkSta at h
  cases h1 : nameOk s.name with
  | false => rw [h1] at h; exact absurd h (show ¬ (7 : Int) = 0 by decide)
  | true =>
    cases h2 : cntBad s with
    | true => rw [h1, h2] at h; exact absurd h (show ¬ (3 : Int) = 0 by decide)
    | false =>
      rw [h1, h2] at h
      simp only [Bool.not_true, cond_false] at h
      have z : ∀ {x y : Int}, (bif x != 0 then x else y) = 0 → x = 0 ∧ y = 0 := by
        intro x y hx
        cases e : (x != 0) with
        | true => rw [e] at hx; simp only [cond_true] at hx; rw [hx] at e; cases e
        | false => rw [e] at hx; exact ⟨by simpa using e, hx⟩
      obtain ⟨a1, h⟩ := z h
      obtain ⟨a2, h⟩ := z h
      obtain ⟨a3, h⟩ := z h
      exact ⟨rfl, rfl, a1, a2, a3, h⟩
theorem cnt_facts {s : SSta} (h : cntBad s = false) : s.buses ≠ [] ∧ s.buses.length ≤ 4 ∧ s.lines.length ≤ 6 ∧ s.srcs.length ≤ 4 ∧ s.bays.length ≤ 16 := by
  unfold cntBad at h
  simp only [Bool.or_eq_false_iff, decide_eq_false_iff_not] at h
  obtain ⟨h1, h2, h3, h4, h5⟩ := h
  refine ⟨?_, by omega, by omega, by omega, by omega⟩
  intro e
  rw [e] at h1
  cases h1
def mainT (s : SSta) : List Tg := s.buses.map .bus ++ (s.lines.map .line ++ (s.srcs.map .src ++ s.bays.map .bay))
end Go.Proofs.YthmapnolgdpkbaaDoor.de
namespace Go.Proofs.YthmapnolgdpkbaaDoor.de
open Go.RowKit Go.Eb Go.Proofs.YthmapnolgdpkbaaDoor.st
set_option maxRecDepth 100000

theorem main_enc (s : SSta) : (mainT s).map (Tg.enc s) = (encSta s).tail := by
  unfold mainT encSta
  simp [Tg.enc, List.map_append, Function.comp_def, List.append_assoc]
end Go.Proofs.YthmapnolgdpkbaaDoor.de
namespace Go.Proofs.YthmapnolgdpkbaaDoor.de
open Go.RowKit Go.Eb Go.Proofs.YthmapnolgdpkbaaDoor.st
set_option maxRecDepth 100000

theorem numOk_of {n : Int} (h : nOk n) : numOk n := by
  have h1 := h.1
  have h2 := h.2
  refine ⟨h1, ?_⟩
  show n < 1000000000000
  omega
theorem sfit_lines {s : SSta} (h : chkSta s = 0) (k : Nat) (hk : k < s.lines.length) : LFit (s.lines.getD k line0) := by
  obtain ⟨_, _, _, h2, _, _⟩ := chk_split h
  obtain ⟨_, _, i1, i2⟩ := line_facts (take_at (x0 := line0) s.lines [] k h2 hk)
  obtain ⟨p1, p2, p3, p4⟩ := imp_facts i1
  obtain ⟨p5, p6, p7, p8⟩ := imp_facts i2
  exact ⟨numOk_of ⟨by omega, by omega⟩, numOk_of ⟨by omega, by omega⟩, numOk_of ⟨by omega, by omega⟩, numOk_of ⟨by omega, by omega⟩⟩
theorem sfit_srcs {s : SSta} (h : chkSta s = 0) (k : Nat) (hk : k < s.srcs.length) : GFit (s.srcs.getD k src0) := by
  obtain ⟨_, _, _, _, h3, _⟩ := chk_split h
  obtain ⟨_, _, i1, i2, iz⟩ := src_facts (take_at (x0 := src0) s.srcs [] k h3 hk)
  obtain ⟨p1, p2, p3, p4⟩ := imp_facts i1
  obtain ⟨p5, p6, p7, p8⟩ := imp_facts i2
  unfold within at iz
  simp only [Bool.and_eq_true, decide_eq_true_eq] at iz
  exact ⟨numOk_of ⟨by omega, by omega⟩, numOk_of ⟨by omega, by omega⟩, numOk_of ⟨by omega, by omega⟩, numOk_of ⟨by omega, by omega⟩, numOk_of ⟨by omega, by omega⟩⟩
theorem sfit_bays {s : SSta} (h : chkSta s = 0) (k : Nat) (hk : k < s.bays.length) : BFit s (s.bays.getD k bay0) := by
  obtain ⟨_, _, _, _, _, h4⟩ := chk_split h
  have he := take_at (x0 := bay0) s.bays [] k h4 hk
  generalize s.bays.getD k bay0 = b at he
  unfold bayErr at he
  obtain ⟨_, hr, ho, _, hle⟩ := bay_facts he
  obtain ⟨hll, hlk⟩ := links_len hle
  obtain ⟨o1, o2⟩ := bay_off he
  obtain ⟨r1, r2, r3, r4, r5, r6, r7, _⟩ := rng_facts hr
  refine ⟨fun q => ⟨ho, by have := o1 q; omega⟩, fun q => ⟨ho, by have := o2 q; omega⟩, numOk_of r5, numOk_of r6, numOk_of r7, numOk_of r1, numOk_of r2, numOk_of r3, numOk_of r4, fun j hj => ?_, by omega⟩
  have hm : b.links.getD j link0 ∈ b.links := by
    rw [List.getD_eq_getElem?_getD, List.getElem?_eq_getElem hj]
    exact List.getElem_mem hj
  obtain ⟨a1, a2, _⟩ := link_all hlk _ hm
  exact ⟨a1, by omega⟩
theorem sfit {s : SSta} (h : chkSta s = 0) : SFit s := by
  obtain ⟨_, hc, _⟩ := chk_split h
  obtain ⟨_, l1, l2, l3, l4⟩ := cnt_facts hc
  exact ⟨sfit_lines h, sfit_srcs h, sfit_bays h, by omega, by omega, by omega, by omega⟩
end Go.Proofs.YthmapnolgdpkbaaDoor.de
namespace Go.Proofs.YthmapnolgdpkbaaDoor.de
open Go.RowKit Go.Eb Go.Proofs.YthmapnolgdpkbaaDoor.st
set_option maxRecDepth 100000
open Go.Proofs.YthmapnolgdpkbaaDoor.ck (chP chP_cons ckItem)

theorem wr1 {n : Int} (h0 : 0 ≤ n) (h : n ≤ 5000) : IntKind.wrap IntKind.i64 (n + 1) = n + 1 := wrap_id (by omega) (by omega)
theorem chP_flat : ∀ (l : List It) (d n : Int), (∀ x ∈ l, ckItem x = 0 ∧ x.kids = []) → 0 ≤ n → n + l.length ≤ 600 → 0 ≤ d → d ≤ 4 → chP l d n = (0, n + l.length)
  | [], d, n, _, _, _, _, _ => by simp [chP]
  | x :: r, d, n, h, hn, hl, hd, hd4 => by
    obtain ⟨h1, h2⟩ := h x (by simp)
    simp only [List.length_cons] at hl ⊢
    have a1 : decide (n + 1 > 600) = false := decide_eq_false (by omega)
    have a2 : decide (d > 4) = false := decide_eq_false (by omega)
    have ih := chP_flat r d (n + 1) (fun y hy => h y (by simp [hy])) (by omega) (by omega) hd hd4
    have hk : ∀ e m : Int, chP [] e m = (0, m) := fun e m => by unfold chP; rfl
    rw [chP_cons, wr1 hn (by omega), a1, a2, h1, h2, hk]
    simp only [cond_false, bne_self_eq_false]
    rw [ih]
    congr 1
    omega
def cntL : List It → Nat
  | [] => 0
  | x :: r => 1 + x.kids.length + cntL r
theorem chP_two : ∀ (l : List It) (n : Int), (∀ x ∈ l, ckItem x = 0 ∧ ∀ y ∈ x.kids, ckItem y = 0 ∧ y.kids = []) → 0 ≤ n → n + cntL l ≤ 600 → chP l 0 n = (0, n + cntL l)
  | [], n, _, _, _ => by simp [chP, cntL]
  | x :: r, n, h, hn, hl => by
    obtain ⟨h1, h2⟩ := h x (by simp)
    simp only [cntL] at hl ⊢
    have a1 : decide (n + 1 > 600) = false := decide_eq_false (by omega)
    have a2 : decide ((0 : Int) > 4) = false := rfl
    have ih := chP_two r (n + 1 + x.kids.length) (fun y hy => h y (by simp [hy])) (by omega) (by omega)
    have hk := chP_flat x.kids 1 (n + 1) h2 (by omega) (by omega) (by omega) (by omega)
    have w0 : IntKind.wrap IntKind.i64 ((0 : Int) + 1) = 1 := by decide
    rw [chP_cons, wr1 hn (by omega), a1, a2, h1, w0, hk]
    simp only [cond_false, bne_self_eq_false]
    rw [ih]
    congr 1
    omega
theorem chk_two {l : List It} (h : ∀ x ∈ l, ckItem x = 0 ∧ ∀ y ∈ x.kids, ckItem y = 0 ∧ y.kids = []) (hl : cntL l ≤ 600) : ck.chk l = 0 := by
  unfold ck.chk
  rw [chP_two l 0 h (by omega) (by omega)]
end Go.Proofs.YthmapnolgdpkbaaDoor.de
namespace Go.Proofs.YthmapnolgdpkbaaDoor.de
open Go.RowKit Go.Eb Go.Proofs.YthmapnolgdpkbaaDoor.st
set_option maxRecDepth 100000
open Go.Proofs.YthmapnolgdpkbaaDoor.wd

theorem digs_plain {l : List UInt8} (h : digs l = true) : l.all (fun c => plainR c.toNat) = true := by
  unfold digs at h
  rw [List.all_eq_true] at h ⊢
  intro c hc
  have := h c hc
  unfold plainR
  simp [this]
theorem dec_plain (n : Int) : plainS (dec n) = true := by
  obtain ⟨f1, _, c, r, f3, _⟩ := decB_facts n.toNat
  unfold plainS dec
  rw [digs_plain f1, strEq, sne]
  · rfl
  · intro e
    rw [e] at f3
    cases f3
theorem cwd_plain {t : ByteArray} (h : plainS t = true) (hs : t.size ≤ 120) : ck.cwd ⟨t, false⟩ = 0 := by
  unfold ck.cwd
  rw [decide_eq_false (by show ¬ (t.size : Int) > 120; omega), h]
  rfl
theorem cws_all : ∀ (l : List Wd), (∀ w ∈ l, ck.cwd w = 0) → ck.cws l = 0
  | [], _ => rfl
  | w :: r, h => by
    unfold ck.cws
    rw [h w (by simp)]
    exact cws_all r fun x hx => h x (by simp [hx])
theorem item_ok {x : It} (h1 : x.words.length ≤ 40) (h2 : ck.opn (x.words.getD 0 w0) = true) (h0 : x.words ≠ []) (h3 : ∀ w ∈ x.words, ck.cwd w = 0) (h4 : x.block = true ∨ x.kids = []) : ck.ckItem x = 0 := by
  unfold ck.ckItem
  have e0 : ((x.words.length : Int) == 0) = false := by
    cases e : ((x.words.length : Int) == 0) with
    | false => rfl
    | true =>
      have := eq_of_beq e
      exact absurd (List.eq_nil_of_length_eq_zero (by omega)) h0
  rw [e0, h2, decide_eq_false (by omega), cws_all _ h3]
  rcases h4 with h | h
  · rw [h]; rfl
  · rw [h]; cases x.block <;> rfl
theorem nm_plain : ∀ (l : List UInt8) (i : Nat), nmT i l = true → l.all (fun c => plainR c.toNat) = true
  | [], _, _ => rfl
  | c :: r, i, h => by
    unfold nmT at h
    simp only [Bool.and_eq_true] at h
    rw [List.all_cons, nm_plain r (i + 1) h.2, Bool.and_true]
    have h1 := h.1
    unfold letterB otherB at h1
    unfold plainR letter digit
    simp only [Bool.or_eq_true, Bool.and_eq_true] at h1 ⊢
    rcases h1 with h1 | ⟨_, h1 | h1⟩
    · exact .inl (.inl (.inl (.inl (.inl (.inl (.inl h1))))))
    · exact .inl (.inl (.inl (.inl (.inl (.inl (.inr h1))))))
    · exact .inl (.inl (.inl (.inl (.inl (.inr h1)))))
theorem name_plain {s : ByteArray} (h : nameOk s = true) : plainS s = true ∧ s.size ≤ 120 := by
  unfold nameOk at h
  simp only [Bool.and_eq_true, Bool.not_eq_true', decide_eq_false_iff_not] at h
  obtain ⟨h0, h1, h2⟩ := h
  refine ⟨?_, by omega⟩
  unfold plainS
  rw [nm_plain _ 0 h2, strEq, sne]
  · rfl
  · intro e
    rw [e] at h0
    cases h0
end Go.Proofs.YthmapnolgdpkbaaDoor.de
namespace Go.Proofs.YthmapnolgdpkbaaDoor.de
open Go.RowKit Go.Eb Go.Proofs.YthmapnolgdpkbaaDoor.st
set_option maxRecDepth 100000
open Go.Proofs.YthmapnolgdpkbaaDoor.wd

structure Good (x : It) : Prop where
  len : x.words.length ≤ 40
  ne : x.words ≠ []
  op : ck.opn (x.words.getD 0 w0) = true
  ws : ∀ w ∈ x.words, ck.cwd w = 0
theorem Good.item {x : It} (h : Good x) (hk : x.block = true ∨ x.kids = []) : ck.ckItem x = 0 := item_ok h.len h.op h.ne h.ws hk
theorem cwd_sz {w : Wd} (h : ck.cwd w = 0) : w.text.size ≤ 120 := by
  unfold ck.cwd at h
  cases e : decide ((w.text.size : Int) > 120) with
  | true => rw [e] at h; exact absurd h (show ¬ (4 : Int) = 0 by decide)
  | false => have := of_decide_eq_false e; omega
theorem Good.fit {x : It} (h : Good x) : decide (x.words.length ≤ 9223372036854775807) = true ∧ x.words.all (fun w => decide (w.text.size ≤ 9223372036854775807)) = true := by
  have h1 := h.len
  refine ⟨decide_eq_true (by omega), List.all_eq_true.2 fun w hw => decide_eq_true ?_⟩
  have := cwd_sz (h.ws w hw)
  omega
theorem fits_flat : ∀ (l : List It), (∀ x ∈ l, Good x ∧ x.kids = []) → fits l = true
  | [], _ => by rw [fits]
  | .mk a w b k :: r, h => by
    obtain ⟨h1, h2⟩ := h (.mk a w b k) (by simp)
    obtain ⟨f1, f2⟩ := h1.fit
    have hk : k = [] := h2
    subst hk
    have ih := fits_flat r fun x hx => h x (by simp [hx])
    unfold fits
    rw [show decide (w.length ≤ 9223372036854775807) = true from f1, show w.all (fun x => decide (x.text.size ≤ 9223372036854775807)) = true from f2, ih]
    unfold fits
    rfl
theorem fits_two : ∀ (l : List It), (∀ x ∈ l, Good x ∧ x.kids.length ≤ 600 ∧ ∀ y ∈ x.kids, Good y ∧ y.kids = []) → fits l = true
  | [], _ => by rw [fits]
  | .mk a w b k :: r, h => by
    obtain ⟨h1, h2, h3⟩ := h (.mk a w b k) (by simp)
    obtain ⟨f1, f2⟩ := h1.fit
    have h2' : k.length ≤ 600 := h2
    have ih := fits_two r fun x hx => h x (by simp [hx])
    unfold fits
    rw [show decide (w.length ≤ 9223372036854775807) = true from f1, show w.all (fun x => decide (x.text.size ≤ 9223372036854775807)) = true from f2, ih, fits_flat k h3, decide_eq_true (show k.length ≤ 9223372036854775807 by omega)]
    rfl
theorem say_good {t : ByteArray} {r : List ByteArray} (h1 : ck.opn ⟨t, false⟩ = true) (h2 : ck.cwd ⟨t, false⟩ = 0) (h3 : ∀ u ∈ r, ck.cwd ⟨u, false⟩ = 0) (h4 : r.length ≤ 39) : Good (say (t :: r)) ∧ (say (t :: r)).kids = [] := by
  refine ⟨⟨?_, ?_, h1, ?_⟩, rfl⟩
  · show ((t :: r).map fun t => (⟨t, false⟩ : Wd)).length ≤ 40
    simp; omega
  · show ((t :: r).map fun t => (⟨t, false⟩ : Wd)) ≠ []
    simp
  · intro w hw
    have hw' : w ∈ (t :: r).map fun t => (⟨t, false⟩ : Wd) := hw
    simp only [List.map_cons, List.mem_cons, List.mem_map] at hw'
    rcases hw' with rfl | ⟨u, hu, rfl⟩
    · exact h2
    · exact h3 u hu
theorem cwdN {t : ByteArray} (h : nameOk t = true) : ck.cwd ⟨t, false⟩ = 0 := cwd_plain (name_plain h).1 (name_plain h).2
theorem cwdD {n : Int} (h : nOk n) : ck.cwd ⟨dec n, false⟩ = 0 := by
  refine cwd_plain (dec_plain n) ?_
  have := decB_sz 6 n.toNat (by have := h.2; have := h.1; omega)
  unfold dec
  omega
structure Tag (t : ByteArray) : Prop where
  op : ck.opn ⟨t, false⟩ = true
  cw : ck.cwd ⟨t, false⟩ = 0
theorem tag_of {t : ByteArray} (h1 : t ≠ ByteArray.mk #[]) (h2 : letter ((bs t).getD 0 0).toNat = true) (h3 : (bs t).all (fun c => plainR c.toNat) = true) (h4 : t.size ≤ 120) : Tag t := by
  have h5 : (t.toList == (ByteArray.mk #[]).toList) = false := by rw [strEq]; exact sne h1
  refine ⟨?_, cwd_plain ?_ h4⟩
  · unfold ck.opn
    rw [h5, h2]
    rfl
  · unfold plainS
    rw [h3, h5]
    rfl
theorem tgStation : Tag tStation := tag_of (by decide) (by kernel_rfl) (by kernel_rfl) (by decide)
theorem tgBus : Tag tBus' := tag_of (by decide) (by kernel_rfl) (by kernel_rfl) (by decide)
theorem tgLine : Tag tLine' := tag_of (by decide) (by kernel_rfl) (by kernel_rfl) (by decide)
theorem tgSource : Tag tSource := tag_of (by decide) (by kernel_rfl) (by kernel_rfl) (by decide)
theorem tgBay : Tag tBay' := tag_of (by decide) (by kernel_rfl) (by kernel_rfl) (by decide)
theorem tgCoupler : Tag tCoupler := tag_of (by decide) (by kernel_rfl) (by kernel_rfl) (by decide)
theorem tgCt : Tag tCt := tag_of (by decide) (by kernel_rfl) (by kernel_rfl) (by decide)
theorem tgVt : Tag tVt := tag_of (by decide) (by kernel_rfl) (by kernel_rfl) (by decide)
theorem tgSat : Tag tSat := tag_of (by decide) (by kernel_rfl) (by kernel_rfl) (by decide)
theorem tgTravel : Tag tTravel := tag_of (by decide) (by kernel_rfl) (by kernel_rfl) (by decide)
theorem tgSelect : Tag tSelect := tag_of (by decide) (by kernel_rfl) (by kernel_rfl) (by decide)
theorem tgOpen : Tag tOpen := tag_of (by decide) (by kernel_rfl) (by kernel_rfl) (by decide)
theorem tgClosed : Tag tClosed := tag_of (by decide) (by kernel_rfl) (by kernel_rfl) (by decide)
theorem tgBreaker : Tag tBreaker := tag_of (by decide) (by kernel_rfl) (by kernel_rfl) (by decide)
theorem Tag.say {t : ByteArray} (h : Tag t) {r : List ByteArray} (h3 : ∀ u ∈ r, ck.cwd ⟨u, false⟩ = 0) (h4 : r.length ≤ 39) : Good (say (t :: r)) ∧ (Go.Eb.say (t :: r)).kids = [] := say_good h.op h.cw h3 h4
end Go.Proofs.YthmapnolgdpkbaaDoor.de
namespace Go.Proofs.YthmapnolgdpkbaaDoor.de
open Go.RowKit Go.Eb Go.Proofs.YthmapnolgdpkbaaDoor.st
set_option maxRecDepth 100000
open Go.Proofs.YthmapnolgdpkbaaDoor.wd

theorem mem_at {α : Type} {d x : α} : ∀ {l : List α}, x ∈ l → ∃ k, k < l.length ∧ l.getD k d = x
  | [], h => by simp at h
  | y :: r, h => by
    rcases List.mem_cons.1 h with rfl | h
    · exact ⟨0, by simp, rfl⟩
    · obtain ⟨k, h1, h2⟩ := mem_at h
      exact ⟨k + 1, by simpa using h1, h2⟩
theorem wth {n a b : Int} (h : within n a b = true) : a ≤ n ∧ n ≤ b := by
  unfold within at h
  simp only [Bool.and_eq_true, decide_eq_true_eq] at h
  exact ⟨h.1, h.2⟩
theorem imp_n {r x : Int} (h : impOk r x = true) : nOk r ∧ nOk x := by
  unfold impOk at h
  simp only [Bool.and_eq_true] at h
  have a := wth h.1
  have b := wth h.2
  exact ⟨⟨by omega, by omega⟩, ⟨by omega, by omega⟩⟩
section
variable {s : SSta} (h : chkSta s = 0)
include h
theorem bus_nm (k : Nat) (hk : k < s.buses.length) : nameOk (s.buses.getD k e0) = true := by
  obtain ⟨_, _, h1, _, _, _⟩ := chk_split h
  exact (nam_facts (take_at (x0 := e0) s.buses [] k h1 hk)).1
theorem good_bus {n : ByteArray} (hn : n ∈ s.buses) : Good (encBus n) ∧ (encBus n).kids = [] := by
  obtain ⟨k, hk, rfl⟩ := mem_at (d := e0) hn
  exact tgBus.say (by simp only [List.mem_singleton]; rintro u rfl; exact cwdN (bus_nm h k hk)) (by simp)
theorem good_line {x : SLine} (hn : x ∈ s.lines) : Good (encLine x) ∧ (encLine x).kids = [] := by
  obtain ⟨k, hk, rfl⟩ := mem_at (d := line0) hn
  obtain ⟨_, _, _, h2, _, _⟩ := chk_split h
  obtain ⟨n1, _, i1, i2⟩ := line_facts (take_at (x0 := line0) s.lines [] k h2 hk)
  obtain ⟨a1, a2⟩ := imp_n i1
  obtain ⟨a3, a4⟩ := imp_n i2
  refine tgLine.say ?_ (by simp)
  simp only [List.mem_cons, List.not_mem_nil, or_false]
  rintro u (rfl | rfl | rfl | rfl | rfl)
  · exact cwdN n1
  · exact cwdD a1
  · exact cwdD a2
  · exact cwdD a3
  · exact cwdD a4
theorem good_src {x : SSrc} (hn : x ∈ s.srcs) : Good (encSrc x) ∧ (encSrc x).kids = [] := by
  obtain ⟨k, hk, rfl⟩ := mem_at (d := src0) hn
  obtain ⟨_, _, _, _, h3, _⟩ := chk_split h
  obtain ⟨n1, _, i1, i2, i3⟩ := src_facts (take_at (x0 := src0) s.srcs [] k h3 hk)
  obtain ⟨a1, a2⟩ := imp_n i1
  obtain ⟨a3, a4⟩ := imp_n i2
  have a5 : nOk (s.srcs.getD k src0).emf := by have := wth i3; exact ⟨by omega, by omega⟩
  refine tgSource.say ?_ (by simp)
  simp only [List.mem_cons, List.not_mem_nil, or_false]
  rintro u (rfl | rfl | rfl | rfl | rfl | rfl)
  · exact cwdN n1
  · exact cwdD a5
  · exact cwdD a1
  · exact cwdD a2
  · exact cwdD a3
  · exact cwdD a4
end
theorem bay_nm {nb nl ns : Nat} {dup : Bool} {bef : List SBay} {b : SBay} (h : bayErrD nb nl ns dup bef b = 0) : nameOk b.name = true := by
  unfold bayErrD at h
  cases hn : nameOk b.name with
  | false => rw [hn] at h; exact absurd h (show ¬ (7 : Int) = 0 by decide)
  | true => rfl
theorem words_good {x : It} {t : ByteArray} {r : List ByteArray} (ht : Tag t) (hx : x.words = (t :: r).map fun t => (⟨t, false⟩ : Wd)) (h3 : ∀ u ∈ r, ck.cwd ⟨u, false⟩ = 0) (h4 : r.length ≤ 39) : Good x := by
  obtain ⟨g, _⟩ := ht.say h3 h4
  have e : (say (t :: r)).words = x.words := hx.symm
  exact ⟨e ▸ g.len, e ▸ g.ne, e ▸ g.op, e ▸ g.ws⟩
theorem good_bayW {s : SSta} {b : SBay} (hn : nameOk b.name = true) (h1 : b.kind = 1 → nameOk (s.lines.getD b.off.toNat line0).name = true) (h2 : b.kind = 2 → nameOk (s.srcs.getD b.off.toNat src0).name = true) (hf : nOk b.fin) (hr : nOk b.zr) (hx : nOk b.zx) : Good (encBay s b) := by
  cases e1 : (b.kind == 1) with
  | true =>
    refine words_good (x := encBay s b) tgBay (r := [b.name, tLine', (s.lines.getD b.off.toNat line0).name, dec b.fin]) ?_ ?_ (by simp)
    · show bayW s b = _
      unfold bayW
      rw [e1]
      rfl
    · simp only [List.mem_cons, List.not_mem_nil, or_false]
      rintro u (rfl | rfl | rfl | rfl)
      · exact cwdN hn
      · exact tgLine.cw
      · exact cwdN (h1 (eq_of_beq e1))
      · exact cwdD hf
  | false =>
    cases e2 : (b.kind == 2) with
    | true =>
      refine words_good (x := encBay s b) tgBay (r := [b.name, tSource, (s.srcs.getD b.off.toNat src0).name]) ?_ ?_ (by simp)
      · show bayW s b = _
        unfold bayW
        rw [e1, e2]
        rfl
      · simp only [List.mem_cons, List.not_mem_nil, or_false]
        rintro u (rfl | rfl | rfl)
        · exact cwdN hn
        · exact tgSource.cw
        · exact cwdN (h2 (eq_of_beq e2))
    | false =>
      refine words_good (x := encBay s b) tgBay (r := [b.name, tCoupler, dec b.zr, dec b.zx]) ?_ ?_ (by simp)
      · show bayW s b = _
        unfold bayW
        rw [e1, e2]
        rfl
      · simp only [List.mem_cons, List.not_mem_nil, or_false]
        rintro u (rfl | rfl | rfl | rfl)
        · exact cwdN hn
        · exact tgCoupler.cw
        · exact cwdD hr
        · exact cwdD hx
theorem good_bayK {s : SSta} {b : SBay} (h1 : nOk b.ct) (h2 : nOk b.vt) (h3 : nOk b.sat) (h4 : nOk b.travel) (hl : ∀ l ∈ b.links, nameOk (s.buses.getD l.bus.toNat e0) = true) : ∀ y ∈ bayK s b, Good y ∧ y.kids = [] := by
  intro y hy
  unfold bayK at hy
  simp only [List.mem_append, List.mem_singleton, List.mem_map] at hy
  have one : ∀ {t : ByteArray} {n : Int}, Tag t → nOk n → Good (say [t, dec n]) ∧ (say [t, dec n]).kids = [] := fun ht hn => ht.say (by simp only [List.mem_singleton]; rintro u rfl; exact cwdD hn) (by simp)
  rcases hy with ((((rfl | hy) | hy) | rfl) | ⟨l, hl', rfl⟩) | hy
  · exact one tgCt h1
  · cases e : (b.kind != 3) with
    | true =>
      rw [e] at hy
      obtain rfl := List.mem_singleton.1 hy
      exact one tgVt h2
    | false => rw [e] at hy; cases hy
  · cases e : (b.sat != 0) with
    | true =>
      rw [e] at hy
      obtain rfl := List.mem_singleton.1 hy
      exact one tgSat h3
    | false => rw [e] at hy; cases hy
  · exact one tgTravel h4
  · refine tgSelect.say ?_ (by simp)
    simp only [List.mem_cons, List.not_mem_nil, or_false]
    rintro u (rfl | rfl)
    · exact cwdN (hl l hl')
    · cases (l.pos == 1)
      · exact tgOpen.cw
      · exact tgClosed.cw
  · cases e : (!b.closed) with
    | true =>
      rw [e] at hy
      obtain rfl := List.mem_singleton.1 hy
      exact tgBreaker.say (by simp only [List.mem_singleton]; rintro u rfl; exact tgOpen.cw) (by simp)
    | false => rw [e] at hy; cases hy
theorem bayK_len7 (s : SSta) (b : SBay) (h : b.links.length ≤ 2) : (bayK s b).length ≤ 7 := by
  unfold bayK
  cases (b.kind != 3) <;> cases (b.sat != 0) <;> cases (!b.closed) <;> simp <;> omega
theorem good_bay {s : SSta} (h : chkSta s = 0) {b : SBay} (hb : b ∈ s.bays) : Good (encBay s b) ∧ (bayK s b).length ≤ 7 ∧ ∀ y ∈ bayK s b, Good y ∧ y.kids = [] := by
  obtain ⟨k, hk, rfl⟩ := mem_at (d := bay0) hb
  obtain ⟨_, _, _, h2, h3, h4⟩ := chk_split h
  have he := take_at (x0 := bay0) s.bays [] k h4 hk
  generalize s.bays.getD k bay0 = b at he
  unfold bayErr at he
  obtain ⟨_, hr, ho, _, hle⟩ := bay_facts he
  obtain ⟨hll, hlk⟩ := links_len hle
  obtain ⟨o1, o2⟩ := bay_off he
  obtain ⟨r1, r2, r3, r4, r5, r6, r7, _⟩ := rng_facts hr
  refine ⟨good_bayW (bay_nm he) (fun q => (line_facts (take_at (x0 := line0) s.lines [] _ h2 (o1 q))).1) (fun q => (src_facts (take_at (x0 := src0) s.srcs [] _ h3 (o2 q))).1) r5 r6 r7, bayK_len7 s b (by omega), good_bayK r1 r2 r3 r4 fun l hl => ?_⟩
  obtain ⟨_, a2, _⟩ := link_all hlk l hl
  exact bus_nm h _ a2
end Go.Proofs.YthmapnolgdpkbaaDoor.de
namespace Go.Proofs.YthmapnolgdpkbaaDoor.de
open Go.RowKit Go.Eb Go.Proofs.YthmapnolgdpkbaaDoor.st
set_option maxRecDepth 100000

def Good2 (x : It) : Prop := Good x ∧ (x.block = true ∨ x.kids = []) ∧ x.kids.length ≤ 7 ∧ ∀ y ∈ x.kids, Good y ∧ y.kids = []
theorem Good2.flat {x : It} (h : Good x ∧ x.kids = []) : Good2 x := ⟨h.1, .inr h.2, by rw [h.2]; simp, by rw [h.2]; simp⟩
theorem cntL_le (n : Nat) : ∀ (l : List It), (∀ x ∈ l, x.kids.length ≤ n) → cntL l ≤ l.length * (n + 1)
  | [], _ => by simp [cntL]
  | x :: r, h => by
    have h1 := h x (by simp)
    have ih := cntL_le n r fun y hy => h y (by simp [hy])
    simp only [cntL, List.length_cons, Nat.add_mul]
    omega
section
variable {s : SSta} (h : chkSta s = 0)
include h
theorem good_main : ∀ t ∈ mainT s, Good2 (t.enc s) := by
  intro t ht
  unfold mainT at ht
  simp only [List.mem_append, List.mem_map] at ht
  rcases ht with ⟨x, hx, rfl⟩ | ⟨x, hx, rfl⟩ | ⟨x, hx, rfl⟩ | ⟨x, hx, rfl⟩
  · exact .flat (good_bus h hx)
  · exact .flat (good_line h hx)
  · exact .flat (good_src h hx)
  · obtain ⟨g1, g2, g3⟩ := good_bay h hx
    exact ⟨g1, .inl rfl, g2, g3⟩
theorem good_sta : Good2 (Tg.sta.enc s) := by
  obtain ⟨h1, _⟩ := chk_split h
  exact .flat (tgStation.say (by simp only [List.mem_singleton]; rintro u rfl; exact cwdN h1) (by simp))
theorem main_len : (mainT s).length ≤ 30 := by
  obtain ⟨_, hc, _⟩ := chk_split h
  obtain ⟨_, l1, l2, l3, l4⟩ := cnt_facts hc
  unfold mainT
  simp
  omega
end
theorem good_list {l : List It} (h : ∀ x ∈ l, Good2 x) (hl : l.length ≤ 60) : okL l = true ∧ ck.chk l = 0 := by
  refine ⟨?_, ?_⟩
  · unfold okL
    rw [decide_eq_true (by omega), fits_two l fun x hx => ⟨(h x hx).1, by have := (h x hx).2.2.1; omega, (h x hx).2.2.2⟩]
    rfl
  · refine chk_two (fun x hx => ⟨(h x hx).1.item (h x hx).2.1, fun y hy => ⟨((h x hx).2.2.2 y hy).1.item (.inr ((h x hx).2.2.2 y hy).2), ((h x hx).2.2.2 y hy).2⟩⟩) ?_
    have := cntL_le 7 l fun x hx => (h x hx).2.2.1
    omega
end Go.Proofs.YthmapnolgdpkbaaDoor.de
namespace Go.Proofs.YthmapnolgdpkbaaDoor.de
open Go.RowKit Go.Eb Go.Proofs.YthmapnolgdpkbaaDoor.st
set_option maxRecDepth 100000

noncomputable def oPit (okd : List AV → Bool) (dcd : List AV → ByteArray) : Orc := Orc.cons 18 (ansG okd fun x => vS (dcd x)) Orc.nil
noncomputable def oPst (okd : List AV → Bool) (dcd : List AV → ByteArray) : Orc := Orc.cons 16 (inl Tryd.prog Orc.nil na 12 Tryd.f16) (Orc.cons 17 (inl Tryd.prog (oPit okd dcd) na 12 Tryd.f17) (oPit okd dcd))
noncomputable def oPeb (okd : List AV → Bool) (dcd : List AV → ByteArray) : Orc := Orc.cons 49 (inl Tryd.prog (oPst okd dcd) na 12 Tryd.f49) (oPst okd dcd)
noncomputable def anneby : Ann := annOf [(100010, ⟨[2, 6, 4, 5, 3], [(5, 1, 1000, 0), (5, 3, 4, 47)]⟩), (100011, ⟨[2, 6, 4, 5, 3], [(5, 1, 1000, 0), (5, 3, 4, 47)]⟩), (100013, ⟨[2, 6, 4, 5, 3], [(5, 1, 1000, 0), (5, 3, 4, 47)]⟩), (100015, ⟨[2, 6, 4, 5, 3], [(5, 1, 1000, 0), (5, 3, 4, 47)]⟩), (17, ⟨[2, 6, 83, 4, 5, 3, 84, 85], [(5, 1, 1000, 0), (5, 3, 4, 47)]⟩)]
noncomputable def Leby_10 (okd : List AV → Bool) (dcd : List AV → ByteArray) (s : SSta) (b : SBay) (g m : Nat) (n4 : Nat) (f4 : Nat → List D) (x2 : Int) (x2_2 : Bool) (x3 : Int) (x3_2 : D) (x3_3 : Bool) := GK Tryd.prog (oPeb okd dcd) anneby (List.length (α := Nat × Blk) []) g Tryd.f19 10 m ⟨frm [(2, AV.c (C.ptr 0 0)), (3, AV.c (C.ptr 1 0)), (4, AV.c (C.ptr 2 0)), (5, AV.c (C.ptr 3 0)), (6, AV.c (C.fn 49 [] [Rf.ptr 3 0]))] 0 Tryd.f19.ntmps, [(0, Blk.cells (List.map C.d (staC s)) 27), (1, Blk.cells (List.map C.d (bayC b)) 44), (2, Blk.cells [C.d (D.v (Value.int IntKind.i64 x2)), C.d (D.v (Value.slice none (0 : Nat) (0 : Nat))), C.d (D.v (Value.bool x2_2)), C.d (D.v (Value.slice none (0 : Nat) (0 : Nat)))] 47), (3, Blk.cells [C.d (D.v (Value.int IntKind.i64 x3)), C.d (x3_2), C.d (D.v (Value.bool x3_3)), C.row 4 4 n4] 47), (4, Blk.row n4 f4 4 47)], 5⟩
noncomputable def Leby_11 (okd : List AV → Bool) (dcd : List AV → ByteArray) (s : SSta) (b : SBay) (g m : Nat) (n4 : Nat) (f4 : Nat → List D) (x2 : Int) (x2_2 : Bool) (x3 : Int) (x3_2 : D) (x3_3 : Bool) := GK Tryd.prog (oPeb okd dcd) anneby (List.length (α := Nat × Blk) []) g Tryd.f19 11 m ⟨frm [(2, AV.c (C.ptr 0 0)), (3, AV.c (C.ptr 1 0)), (4, AV.c (C.ptr 2 0)), (5, AV.c (C.ptr 3 0)), (6, AV.c (C.fn 49 [] [Rf.ptr 3 0]))] 0 Tryd.f19.ntmps, [(0, Blk.cells (List.map C.d (staC s)) 27), (1, Blk.cells (List.map C.d (bayC b)) 44), (2, Blk.cells [C.d (D.v (Value.int IntKind.i64 x2)), C.d (D.v (Value.slice none (0 : Nat) (0 : Nat))), C.d (D.v (Value.bool x2_2)), C.d (D.v (Value.slice none (0 : Nat) (0 : Nat)))] 47), (3, Blk.cells [C.d (D.v (Value.int IntKind.i64 x3)), C.d x3_2, C.d (D.v (Value.bool x3_3)), C.row 4 4 n4] 47), (4, Blk.row n4 f4 4 47)], 5⟩
noncomputable def Leby_13 (okd : List AV → Bool) (dcd : List AV → ByteArray) (s : SSta) (b : SBay) (g m : Nat) (n4 : Nat) (f4 : Nat → List D) (x2 : Int) (x2_2 : Bool) (x3 : Int) (x3_2 : D) (x3_3 : Bool) := GK Tryd.prog (oPeb okd dcd) anneby (List.length (α := Nat × Blk) []) g Tryd.f19 13 m ⟨frm [(2, AV.c (C.ptr 0 0)), (3, AV.c (C.ptr 1 0)), (4, AV.c (C.ptr 2 0)), (5, AV.c (C.ptr 3 0)), (6, AV.c (C.fn 49 [] [Rf.ptr 3 0]))] 0 Tryd.f19.ntmps, [(0, Blk.cells (List.map C.d (staC s)) 27), (1, Blk.cells (List.map C.d (bayC b)) 44), (2, Blk.cells [C.d (D.v (Value.int IntKind.i64 x2)), C.d (D.v (Value.slice none (0 : Nat) (0 : Nat))), C.d (D.v (Value.bool x2_2)), C.d (D.v (Value.slice none (0 : Nat) (0 : Nat)))] 47), (3, Blk.cells [C.d (D.v (Value.int IntKind.i64 x3)), C.d x3_2, C.d (D.v (Value.bool x3_3)), C.row 4 4 n4] 47), (4, Blk.row n4 f4 4 47)], 5⟩
noncomputable def Leby_15 (okd : List AV → Bool) (dcd : List AV → ByteArray) (s : SSta) (b : SBay) (g m : Nat) (n4 : Nat) (f4 : Nat → List D) (x2 : Int) (x2_2 : Bool) (x3 : Int) (x3_2 : D) (x3_3 : Bool) := GK Tryd.prog (oPeb okd dcd) anneby (List.length (α := Nat × Blk) []) g Tryd.f19 15 m ⟨frm [(2, AV.c (C.ptr 0 0)), (3, AV.c (C.ptr 1 0)), (4, AV.c (C.ptr 2 0)), (5, AV.c (C.ptr 3 0)), (6, AV.c (C.fn 49 [] [Rf.ptr 3 0]))] 0 Tryd.f19.ntmps, [(0, Blk.cells (List.map C.d (staC s)) 27), (1, Blk.cells (List.map C.d (bayC b)) 44), (2, Blk.cells [C.d (D.v (Value.int IntKind.i64 x2)), C.d (D.v (Value.slice none (0 : Nat) (0 : Nat))), C.d (D.v (Value.bool x2_2)), C.d (D.v (Value.slice none (0 : Nat) (0 : Nat)))] 47), (3, Blk.cells [C.d (D.v (Value.int IntKind.i64 x3)), C.d x3_2, C.d (D.v (Value.bool x3_3)), C.row 4 4 n4] 47), (4, Blk.row n4 f4 4 47)], 5⟩
noncomputable def Leby_17 (okd : List AV → Bool) (dcd : List AV → ByteArray) (s : SSta) (b : SBay) (g m : Nat) (n4 : Nat) (f4 : Nat → List D) (i85 : Int) (x2 : Int) (x2_2 : Bool) (x3 : Int) (x3_2 : D) (x3_3 : Bool) := LK Tryd.prog (oPeb okd dcd) anneby (List.length (α := Nat × Blk) []) g Tryd.f19 17 m ⟨frm [(2, AV.c (C.ptr 0 0)), (3, AV.c (C.ptr 1 0)), (4, AV.c (C.ptr 2 0)), (5, AV.c (C.ptr 3 0)), (6, AV.c (C.fn 49 [] [Rf.ptr 3 0])), (83, AV.c (C.d (listD 2 linkC link0 (SBay.links b)))), (84, AV.c (C.d (D.v (Value.int IntKind.i64 (↑(List.length (SBay.links b)) : Int))))), (85, AV.c (C.d (D.v (Value.int IntKind.i64 i85))))] 0 Tryd.f19.ntmps, [(0, Blk.cells (List.map C.d (staC s)) 27), (1, Blk.cells (List.map C.d (bayC b)) 44), (2, Blk.cells [C.d (D.v (Value.int IntKind.i64 x2)), C.d (D.v (Value.slice none (0 : Nat) (0 : Nat))), C.d (D.v (Value.bool x2_2)), C.d (D.v (Value.slice none (0 : Nat) (0 : Nat)))] 47), (3, Blk.cells [C.d (D.v (Value.int IntKind.i64 x3)), C.d x3_2, C.d (D.v (Value.bool x3_3)), C.row 4 4 n4] 47), (4, Blk.row n4 f4 4 47)], 5⟩
theorem beby : Tryd.f19.body = some (bodyOf Tryd.f19) := by kernel_rfl
theorem eveby (okd : List AV → Bool) (dcd : List AV → ByteArray) (s : SSta) (b : SBay) (g : Nat) : callC Tryd.prog (oPeb okd dcd) anneby g Tryd.f19 (bodyOf Tryd.f19) [aSta s, aBay b] [] =
 (bif SBay.kind b == (1 : Int) then (bif decide ((0 : Int) ≤ SBay.off b) && decide (SBay.off b < (↑(List.length (SSta.lines s)) : Int)) then (bif okd [AV.c (C.d (D.v (Value.int
 IntKind.i64 (SBay.fin b))))] then Leby_10 okd dcd s b g g 0 (fun x => []) ((0 : Int)) false ((0 : Int)) (D.sl (2) (5) (chunk [D.v (.string (ByteArray.mk
 #[98, 97, 121])), D.v (.bool false), dS (SBay.name b), D.v (.bool false), D.v (.string (ByteArray.mk #[108, 105,
 110, 101])), D.v (.bool false), dS (SLine.name (List.getD (SSta.lines s) (Int.toNat (SBay.off b)) line0)), D.v (.bool false), D.v (.string (dcd
 [AV.c (.d (.v (.int .i64 (SBay.fin b))))])), D.v (.bool false)] (1 + 1))) true else none) else none) else (bif SBay.kind b == (2 : Int) then (bif
 decide ((0 : Int) ≤ SBay.off b) && decide (SBay.off b < (↑(List.length (SSta.srcs s)) : Int)) then Leby_10 okd dcd s b g g 0 (fun x => []) ((0 : Int)) false ((0 : Int))
 (D.sl (2) (4) (chunk [D.v (.string (ByteArray.mk #[98, 97, 121])), D.v (.bool false), dS (SBay.name b), D.v (Value.bool
 false), D.v (.string (ByteArray.mk #[115, 111, 117, 114, 99, 101])), D.v (.bool false), dS (SSrc.name
 (List.getD (SSta.srcs s) (Int.toNat (SBay.off b)) src0)), D.v (.bool false)] (1 + 1))) true else none) else (bif okd [AV.c (C.d (D.v (Value.int IntKind.i64
 (SBay.zr b))))] then (bif okd [AV.c (.d (.v (.int .i64 (SBay.zx b))))] then Leby_10 okd dcd s b g g 0 (fun x => []) ((0 : Int)) false ((0 : Int)) (D.sl ((2 :
 Nat)) (5) (chunk [D.v (.string (ByteArray.mk #[98, 97, 121])), D.v (.bool false), dS (SBay.name b), D.v (.bool false), D.v
 (Value.string (ByteArray.mk #[99, 111, 117, 112, 108, 101, 114])), D.v (.bool false), D.v (Value.string
 (dcd [AV.c (.d (.v (.int .i64 (SBay.zr b))))])), D.v (.bool false), D.v (.string (dcd [AV.c (.d (.v (.int .i64 (SBay.zx b))))])), D.v
 (Value.bool false)] (1 + 1))) true else none) else none))) := by kernel_rfl
theorem steby_10 (okd : List AV → Bool) (dcd : List AV → ByteArray) (s : SSta) (b : SBay) (g m : Nat) (n4 : Nat) (f4 : Nat → List D) (x2 : Int) (x2_2 : Bool) (x3 : Int) (x3_2 : D) (x3_3 : Bool) : Leby_10 okd dcd s b g (m + 1) n4 f4 x2 x2_2 x3 x3_2 x3_3 =
 (bif okd [AV.c (.d (.v (.int .i64 (SBay.ct b))))] then (bif decide ((n4 + 1) * 64 ≤ 140737488355328) && decide (n4 + 1 ≤
 9223372036854775807) then (bif decide ((0 : Int) ≤ (↑n4 : Int)) && decide ((↑n4 : Int) < (↑(n4 + 1) : Int)) then Leby_11 okd dcd s b g g (n4 + 1) (fun j =>
 bif Nat.beq j (Int.toNat (↑n4 : Int)) then splice (appF n4 f4 (chunk [D.v (.int .i64 (0 : Int)), D.v (.slice none 0 0), D.v (.bool false), D.v
 (Value.slice none 0 0)] (3 + 1)) j) 0 [D.v (.int .i64 (0 : Int)), D.sl (1 + 1) (0 + 1 + (1 :
 Nat)) (chunk [D.v (.string (ByteArray.mk #[99, 116])), D.v (.bool false), D.v (.string (dcd [AV.c (.d (.v (.int .i64 (SBay.ct
 b))))])), D.v (.bool false)] (1 + 1)), D.v (.bool false), D.v (.slice none 0 0)] else appF n4 f4 (chunk [D.v (.int .i64 (0
 : Int)), D.v (.slice none 0 0), D.v (.bool false), D.v (.slice none 0 0)] (3 + 1)) j) x2 x2_2 x3 x3_2 x3_3 else none)
 else none) else none) := by kernel_rfl
theorem steby_11 (okd : List AV → Bool) (dcd : List AV → ByteArray) (s : SSta) (b : SBay) (g m : Nat) (n4 : Nat) (f4 : Nat → List D) (x2 : Int) (x2_2 : Bool) (x3 : Int) (x3_2 : D) (x3_3 : Bool) : Leby_11 okd dcd s b g (m + 1) n4 f4 x2 x2_2 x3 x3_2 x3_3 =
 (bif SBay.kind b != (3 : Int) then (bif okd [AV.c (.d (.v (.int .i64 (SBay.vt b))))] then (bif decide ((n4 + 1) * 64 ≤ 140737488355328) &&
 decide (n4 + 1 ≤ 9223372036854775807) then (bif decide ((0 : Int) ≤ (↑n4 : Int)) && decide ((↑n4 : Int) < (↑(n4 + 1) : Int)) then Leby_13 okd dcd s b g g (n4
 + 1) (fun j => bif Nat.beq j (Int.toNat (↑n4 : Int)) then splice (appF n4 f4 (chunk [D.v (.int .i64 (0 : Int)), D.v (.slice none 0 0), D.v
 (Value.bool false), D.v (.slice none 0 0)] (3 + 1)) j) 0 [D.v (.int .i64 (0 : Int)), D.sl (1 + 1) (0
 + 1 + 1) (chunk [D.v (.string (ByteArray.mk #[118, 116])), D.v (.bool false), D.v (.string (dcd [AV.c (C.d (D.v (Value.int
 IntKind.i64 (SBay.vt b))))])), D.v (.bool false)] (1 + 1)), D.v (.bool false), D.v (.slice none 0 0)] else appF n4 f4 (chunk [D.v
 (Value.int IntKind.i64 (0 : Int)), D.v (.slice none 0 0), D.v (.bool false), D.v (.slice none 0 0)] (3 + 1)) j) x2
 x2_2 x3 x3_2 x3_3 else none) else none) else none) else Leby_13 okd dcd s b g g n4 f4 x2 x2_2 x3 x3_2 x3_3) := by kernel_rfl
theorem steby_13 (okd : List AV → Bool) (dcd : List AV → ByteArray) (s : SSta) (b : SBay) (g m : Nat) (n4 : Nat) (f4 : Nat → List D) (x2 : Int) (x2_2 : Bool) (x3 : Int) (x3_2 : D) (x3_3 : Bool) : Leby_13 okd dcd s b g (m + 1) n4 f4 x2 x2_2 x3 x3_2 x3_3 =
 (bif SBay.sat b != (0 : Int) then (bif okd [AV.c (.d (.v (.int .i64 (SBay.sat b))))] then (bif decide ((n4 + 1) * 64 ≤ 140737488355328) &&
 decide (n4 + 1 ≤ 9223372036854775807) then (bif decide ((0 : Int) ≤ (↑n4 : Int)) && decide ((↑n4 : Int) < (↑(n4 + 1) : Int)) then Leby_15 okd dcd s b g g (n4
 + 1) (fun j => bif Nat.beq j (Int.toNat (↑n4 : Int)) then splice (appF n4 f4 (chunk [D.v (.int .i64 (0 : Int)), D.v (.slice none 0 0), D.v
 (Value.bool false), D.v (.slice none 0 0)] (3 + 1)) j) 0 [D.v (.int .i64 (0 : Int)), D.sl (1 + 1) (0
 + 1 + 1) (chunk [D.v (.string (ByteArray.mk #[115, 97, 116])), D.v (.bool false), D.v (.string (dcd [AV.c (C.d (D.v
 (Value.int IntKind.i64 (SBay.sat b))))])), D.v (.bool false)] (1 + 1)), D.v (.bool false), D.v (.slice none 0 0)] else appF n4 f4
 (chunk [D.v (.int .i64 (0 : Int)), D.v (.slice none 0 0), D.v (.bool false), D.v (.slice none 0 0)] (3 + (1 :
 Nat))) j) x2 x2_2 x3 x3_2 x3_3 else none) else none) else none) else Leby_15 okd dcd s b g g n4 f4 x2 x2_2 x3 x3_2 x3_3) := by kernel_rfl
theorem steby_15 (okd : List AV → Bool) (dcd : List AV → ByteArray) (s : SSta) (b : SBay) (g m : Nat) (n4 : Nat) (f4 : Nat → List D) (x2 : Int) (x2_2 : Bool) (x3 : Int) (x3_2 : D) (x3_3 : Bool) : Leby_15 okd dcd s b g (m + 1) n4 f4 x2 x2_2 x3 x3_2 x3_3 =
 (bif okd [AV.c (.d (.v (.int .i64 (SBay.travel b))))] then (bif decide ((n4 + 1) * 64 ≤ 140737488355328) && decide (n4 + 1 ≤
 9223372036854775807) then (bif decide ((0 : Int) ≤ (↑n4 : Int)) && decide ((↑n4 : Int) < (↑(n4 + 1) : Int)) then Leby_17 okd dcd s b g g (n4 + 1) (fun j =>
 bif Nat.beq j (Int.toNat (↑n4 : Int)) then splice (appF n4 f4 (chunk [D.v (.int .i64 (0 : Int)), D.v (.slice none 0 0), D.v (.bool false), D.v
 (Value.slice none 0 0)] (3 + 1)) j) 0 [D.v (.int .i64 (0 : Int)), D.sl (1 + 1) (0 + 1 + (1 :
 Nat)) (chunk [D.v (.string (ByteArray.mk #[116, 114, 97, 118, 101, 108])), D.v (.bool false), D.v (Value.string
 (dcd [AV.c (.d (.v (.int .i64 (SBay.travel b))))])), D.v (.bool false)] (1 + 1)), D.v (.bool false), D.v (Value.slice none 0 (0 :
 Nat))] else appF n4 f4 (chunk [D.v (.int .i64 (0 : Int)), D.v (.slice none 0 0), D.v (.bool false), D.v (.slice none 0 0)]
 (3 + 1)) j) ((0 : Int)) x2 x2_2 x3 x3_2 x3_3 else none) else none) else none) := by kernel_rfl
theorem steby_17 (okd : List AV → Bool) (dcd : List AV → ByteArray) (s : SSta) (b : SBay) (g m : Nat) (n4 : Nat) (f4 : Nat → List D) (i85 : Int) (x2 : Int) (x2_2 : Bool) (x3 : Int) (x3_2 : D) (x3_3 : Bool) : Leby_17 okd dcd s b g (m + 1) n4 f4 i85 x2 x2_2 x3 x3_2 x3_3 =
 (bif decide (i85 < (↑(List.length (SBay.links b)) : Int)) then (bif decide ((0 : Int) ≤ i85) && decide (i85 < (↑(List.length (SBay.links b)) : Int)) then (bif SLink.pos (List.getD
 (SBay.links b) (Int.toNat i85) link0) == (1 : Int) then (bif decide ((0 : Int) ≤ SLink.bus (List.getD (SBay.links b) (Int.toNat i85) link0)) && decide (SLink.bus (List.getD
 (SBay.links b) (Int.toNat i85) link0) < (↑(List.length (SSta.buses s)) : Int)) then (bif decide ((n4 + 1) * 64 ≤ 140737488355328) && decide (n4 + 1 ≤
 9223372036854775807) then (bif decide ((0 : Int) ≤ (↑n4 : Int)) && decide ((↑n4 : Int) < (↑(n4 + 1) : Int)) then Leby_17 okd dcd s b g m (n4 + 1) (fun j =>
 bif Nat.beq j (Int.toNat (↑n4 : Int)) then splice (appF n4 f4 (chunk [D.v (.int .i64 (0 : Int)), D.v (.slice none 0 0), D.v (.bool false), D.v
 (Value.slice none 0 0)] (3 + 1)) j) 0 [D.v (.int .i64 (0 : Int)), D.sl (1 + 1) (0 + 1 + 1
 + 1) (chunk [D.v (.string (ByteArray.mk #[115, 101, 108, 101, 99, 116])), D.v (.bool false), dS
 (List.getD (SSta.buses s) (Int.toNat (SLink.bus (List.getD (SBay.links b) (Int.toNat i85) link0))) e0), D.v (.bool false), D.v (.string (ByteArray.mk #[99, (108
 : UInt8), 111, 115, 101, 100])), D.v (.bool false)] (1 + 1)), D.v (.bool false), D.v (Value.slice none 0 (0
 : Nat))] else appF n4 f4 (chunk [D.v (.int .i64 (0 : Int)), D.v (.slice none 0 0), D.v (.bool false), D.v (Value.slice none 0 (0 :
 Nat))] (3 + 1)) j) (IntKind.wrap IntKind.i64 (i85 + (1 : Int))) x2 x2_2 x3 x3_2 x3_3 else none) else none) else none) else (bif decide ((0 : Int) ≤ SLink.bus
 (List.getD (SBay.links b) (Int.toNat i85) link0)) && decide (SLink.bus (List.getD (SBay.links b) (Int.toNat i85) link0) < (↑(List.length (SSta.buses s)) : Int)) then (bif decide
 ((n4 + 1) * 64 ≤ 140737488355328) && decide (n4 + 1 ≤ 9223372036854775807) then (bif decide ((0 : Int) ≤ (↑n4 : Int)) && decide ((↑n4 : Int)
 < (↑(n4 + 1) : Int)) then Leby_17 okd dcd s b g m (n4 + 1) (fun j => bif Nat.beq j (Int.toNat (↑n4 : Int)) then splice (appF n4 f4 (chunk [D.v (Value.int IntKind.i64
 (0 : Int)), D.v (.slice none 0 0), D.v (.bool false), D.v (.slice none 0 0)] (3 + 1)) j) 0 [D.v (Value.int
 IntKind.i64 (0 : Int)), D.sl (1 + 1) (0 + 1 + 1 + 1) (chunk [D.v (.string (ByteArray.mk #[115, 101, (108 :
 UInt8), 101, 99, 116])), D.v (.bool false), dS (List.getD (SSta.buses s) (Int.toNat (SLink.bus (List.getD (SBay.links b) (Int.toNat i85) link0)))
 e0), D.v (.bool false), D.v (.string (ByteArray.mk #[111, 112, 101, 110])), D.v (.bool false)] (1 + 1)), D.v
 (Value.bool false), D.v (.slice none 0 0)] else appF n4 f4 (chunk [D.v (.int .i64 (0 : Int)), D.v (.slice none 0 0), D.v
 (Value.bool false), D.v (.slice none 0 0)] (3 + 1)) j) (IntKind.wrap IntKind.i64 (i85 + (1 : Int))) x2 x2_2 x3 x3_2 x3_3 else none) else none)
 else none)) else none) else (bif !SBay.closed b then (bif decide ((n4 + 1) * 64 ≤ 140737488355328) && decide (n4 + 1 ≤ 9223372036854775807)
 then (bif decide ((0 : Int) ≤ (↑n4 : Int)) && decide ((↑n4 : Int) < (↑(n4 + 1) : Int)) then some (T.leaf (AV.agg [C.d (.v (.int .i64 x3)), C.d x3_2, C.d (D.v
 (Value.bool x3_3)), C.row (0) (4) (n4 + 1)], [(0, Blk.row (n4 + 1) (fun j => bif Nat.beq j (Int.toNat (↑n4 : Int)) then splice (appF n4 f4
 (chunk [D.v (.int .i64 (0 : Int)), D.v (.slice none 0 0), D.v (.bool false), D.v (.slice none 0 0)] (3 + (1 :
 Nat))) j) 0 [D.v (.int .i64 (0 : Int)), D.sl (1 + 1) (0 + 1 + 1) (chunk [D.v (.string (ByteArray.mk #[98,
 114, 101, 97, 107, 101, 114])), D.v (.bool false), D.v (.string (ByteArray.mk #[111, 112,
 101, 110])), D.v (.bool false)] (1 + 1)), D.v (.bool false), D.v (.slice none 0 0)] else appF n4 f4 (chunk [D.v
 (Value.int IntKind.i64 (0 : Int)), D.v (.slice none 0 0), D.v (.bool false), D.v (.slice none 0 0)] (3 + 1)) j) ((4 :
 Nat)) (47))])) else none) else none) else some (T.leaf (AV.agg [C.d (.v (.int .i64 x3)), C.d x3_2, C.d (.v (.bool x3_3)), C.row (0) (4)
 n4], [(0, Blk.row n4 f4 (4) (47))])))) := by kernel_rfl
end Go.Proofs.YthmapnolgdpkbaaDoor.de
namespace Go.Proofs.YthmapnolgdpkbaaDoor.de
open Go.RowKit Go.Eb Go.Proofs.YthmapnolgdpkbaaDoor.st
set_option maxRecDepth 100000

noncomputable def oPe (okd : List AV → Bool) (dcd : List AV → ByteArray) (okc : List AV → Bool) (ck : List AV → Int) (okb : List AV → Bool) (bw bk : List AV → D) : Orc := Orc.cons 15 (ansG okc fun x => vI (ck x)) (Orc.cons 19 (ansG okb fun x => .agg [.d (dI 0), .d (bw x), .d (dB true), .d (bk x)]) (oPst okd dcd))
noncomputable def annpen : Ann := annOf [(5, ⟨[23, 1, 24, 25, 3], [(3, 0, 4, 47)]⟩), (10, ⟨[37, 1, 38, 39, 3], [(3, 0, 4, 47)]⟩), (16, ⟨[60, 1, 61, 62, 3], [(3, 0, 4, 47)]⟩), (22, ⟨[1, 86, 87, 88, 3], [(3, 0, 4, 47)]⟩)]
noncomputable def Lpen_5 (okd : List AV → Bool) (dcd : List AV → ByteArray) (okc : List AV → Bool) (ck : List AV → Int) (okb : List AV → Bool) (bw bk : List AV → D) (s : SSta) (g m : Nat) (n1 : Nat) (f1 : Nat → List D) (i25 : Int) := LK Tryd.prog (oPe okd dcd okc ck okb bw bk) annpen (List.length (α := Nat × Blk) []) g Tryd.f7 5 m ⟨frm [(1, AV.c (C.ptr 0 0)), (3, AV.c (C.row 1 4 n1)), (23, AV.c (C.d (listD 1 busC e0 (SSta.buses s)))), (24, AV.c (C.d (D.v (Value.int IntKind.i64 (↑(List.length (SSta.buses s)) : Int))))), (25, AV.c (C.d (D.v (Value.int IntKind.i64 i25))))] 0 Tryd.f7.ntmps, [(0, Blk.cells (List.map C.d (staC s)) 27), (1, Blk.row n1 f1 4 47)], 2⟩
noncomputable def Lpen_10 (okd : List AV → Bool) (dcd : List AV → ByteArray) (okc : List AV → Bool) (ck : List AV → Int) (okb : List AV → Bool) (bw bk : List AV → D) (s : SSta) (g m : Nat) (n1 : Nat) (f1 : Nat → List D) (i39 : Int) := LK Tryd.prog (oPe okd dcd okc ck okb bw bk) annpen (List.length (α := Nat × Blk) []) g Tryd.f7 10 m ⟨frm [(1, AV.c (C.ptr 0 0)), (3, AV.c (C.row 1 4 n1)), (37, AV.c (C.d (listD 5 lineC line0 (SSta.lines s)))), (38, AV.c (C.d (D.v (Value.int IntKind.i64 (↑(List.length (SSta.lines s)) : Int))))), (39, AV.c (C.d (D.v (Value.int IntKind.i64 i39))))] 0 Tryd.f7.ntmps, [(0, Blk.cells (List.map C.d (staC s)) 27), (1, Blk.row n1 f1 4 47)], 2⟩
noncomputable def Lpen_16 (okd : List AV → Bool) (dcd : List AV → ByteArray) (okc : List AV → Bool) (ck : List AV → Int) (okb : List AV → Bool) (bw bk : List AV → D) (s : SSta) (g m : Nat) (n1 : Nat) (f1 : Nat → List D) (i62 : Int) := LK Tryd.prog (oPe okd dcd okc ck okb bw bk) annpen (List.length (α := Nat × Blk) []) g Tryd.f7 16 m ⟨frm [(1, AV.c (C.ptr 0 0)), (3, AV.c (C.row 1 4 n1)), (60, AV.c (C.d (listD 6 srcC' src0 (SSta.srcs s)))), (61, AV.c (C.d (D.v (Value.int IntKind.i64 (↑(List.length (SSta.srcs s)) : Int))))), (62, AV.c (C.d (D.v (Value.int IntKind.i64 i62))))] 0 Tryd.f7.ntmps, [(0, Blk.cells (List.map C.d (staC s)) 27), (1, Blk.row n1 f1 4 47)], 2⟩
noncomputable def Lpen_22 (okd : List AV → Bool) (dcd : List AV → ByteArray) (okc : List AV → Bool) (ck : List AV → Int) (okb : List AV → Bool) (bw bk : List AV → D) (s : SSta) (g m : Nat) (n1 : Nat) (f1 : Nat → List D) (i88 : Int) := LK Tryd.prog (oPe okd dcd okc ck okb bw bk) annpen (List.length (α := Nat × Blk) []) g Tryd.f7 22 m ⟨frm [(1, AV.c (C.ptr 0 0)), (3, AV.c (C.row 1 4 n1)), (86, AV.c (C.d (listD 12 bayC bay0 (SSta.bays s)))), (87, AV.c (C.d (D.v (Value.int IntKind.i64 (↑(List.length (SSta.bays s)) : Int))))), (88, AV.c (C.d (D.v (Value.int IntKind.i64 i88))))] 0 Tryd.f7.ntmps, [(0, Blk.cells (List.map C.d (staC s)) 27), (1, Blk.row n1 f1 4 47)], 2⟩
theorem bpen : Tryd.f7.body = some (bodyOf Tryd.f7) := by kernel_rfl
theorem evpen (okd : List AV → Bool) (dcd : List AV → ByteArray) (okc : List AV → Bool) (ck : List AV → Int) (okb : List AV → Bool) (bw bk : List AV → D) (s : SSta) (g : Nat) : callC Tryd.prog (oPe okd dcd okc ck okb bw bk) annpen g Tryd.f7 (bodyOf Tryd.f7) [aSta s] [] =
 (bif okc [AV.agg (List.map C.d (staC s))] then (bif ck [AV.agg (List.map C.d (staC s))] != (0 : Int) then some (T.leaf (AV.c (.d (.v (.slice none 0 0))), []))
 else Lpen_5 okd dcd okc ck okb bw bk s g g 1 (chunk [D.v (.int .i64 (0 : Int)), D.sl (1 + 1) (0 + 1 + 1) (chunk [D.v
 (Value.string (ByteArray.mk #[115, 116, 97, 116, 105, 111, 110])), D.v (.bool false), dS (SSta.name s),
 D.v (.bool false)] (1 + 1)), D.v (.bool false), D.v (.slice none 0 0)] 4) ((0 : Int))) else none) := by kernel_rfl
theorem stpen_5 (okd : List AV → Bool) (dcd : List AV → ByteArray) (okc : List AV → Bool) (ck : List AV → Int) (okb : List AV → Bool) (bw bk : List AV → D) (s : SSta) (g m : Nat) (n1 : Nat) (f1 : Nat → List D) (i25 : Int) : Lpen_5 okd dcd okc ck okb bw bk s g (m + 1) n1 f1 i25 =
 (bif decide (i25 < (↑(List.length (SSta.buses s)) : Int)) then (bif decide ((0 : Int) ≤ i25) && decide (i25 < (↑(List.length (SSta.buses s)) : Int)) then (bif decide ((n1 + (1 :
 Nat)) * 64 ≤ 140737488355328) && decide (n1 + 1 ≤ 9223372036854775807) then Lpen_5 okd dcd okc ck okb bw bk s g m (n1 + 1) (appF n1 f1 (chunk
 [D.v (.int .i64 (0 : Int)), D.sl (1 + 1) (0 + 1 + 1) (chunk [D.v (.string (ByteArray.mk #[98, 117, (115
 : UInt8)])), D.v (.bool false), dS (List.getD (SSta.buses s) (Int.toNat i25) e0), D.v (.bool false)] (1 + 1)), D.v (.bool false), D.v (Value.slice
 none 0 0)] (3 + 1))) (IntKind.wrap IntKind.i64 (i25 + (1 : Int))) else none) else none) else Lpen_10 okd dcd okc ck okb bw bk s g g n1 f1 ((0 :
 Int))) := by kernel_rfl
theorem stpen_10 (okd : List AV → Bool) (dcd : List AV → ByteArray) (okc : List AV → Bool) (ck : List AV → Int) (okb : List AV → Bool) (bw bk : List AV → D) (s : SSta) (g m : Nat) (n1 : Nat) (f1 : Nat → List D) (i39 : Int) : Lpen_10 okd dcd okc ck okb bw bk s g (m + 1) n1 f1 i39 =
 (bif decide (i39 < (↑(List.length (SSta.lines s)) : Int)) then (bif decide ((0 : Int) ≤ i39) && decide (i39 < (↑(List.length (SSta.lines s)) : Int)) then (bif okd [AV.c (C.d (D.v
 (Value.int IntKind.i64 (SLine.r1 (List.getD (SSta.lines s) (Int.toNat i39) line0)))))] then (bif okd [AV.c (.d (.v (.int .i64 (SLine.x1 (List.getD (SSta.lines s)
 (Int.toNat i39) line0)))))] then (bif okd [AV.c (.d (.v (.int .i64 (SLine.r0 (List.getD (SSta.lines s) (Int.toNat i39) line0)))))] then (bif okd [AV.c (C.d (D.v
 (Value.int IntKind.i64 (SLine.x0 (List.getD (SSta.lines s) (Int.toNat i39) line0)))))] then (bif decide ((n1 + 1) * 64 ≤ 140737488355328) && decide (n1 + (1
 : Nat) ≤ 9223372036854775807) then Lpen_10 okd dcd okc ck okb bw bk s g m (n1 + 1) (appF n1 f1 (chunk [D.v (.int .i64 (0 : Int)), D.sl (1 + (1 :
 Nat)) (0 + 1 + 1 + 1 + 1 + 1 + 1) (chunk [D.v (.string (ByteArray.mk #[108, 105, 110, (101
 : UInt8)])), D.v (.bool false), dS (SLine.name (List.getD (SSta.lines s) (Int.toNat i39) line0)), D.v (.bool false), D.v (.string (dcd [AV.c (C.d (D.v (Value.int
 IntKind.i64 (SLine.r1 (List.getD (SSta.lines s) (Int.toNat i39) line0)))))])), D.v (.bool false), D.v (.string (dcd [AV.c (.d (.v (.int .i64 (SLine.x1
 (List.getD (SSta.lines s) (Int.toNat i39) line0)))))])), D.v (.bool false), D.v (.string (dcd [AV.c (.d (.v (.int .i64 (SLine.r0 (List.getD (SSta.lines s)
 (Int.toNat i39) line0)))))])), D.v (.bool false), D.v (.string (dcd [AV.c (.d (.v (.int .i64 (SLine.x0 (List.getD (SSta.lines s) (Int.toNat i39)
 line0)))))])), D.v (.bool false)] (1 + 1)), D.v (.bool false), D.v (.slice none 0 0)] (3 + 1))) (IntKind.wrap
 IntKind.i64 (i39 + (1 : Int))) else none) else none) else none) else none) else none) else none) else Lpen_16 okd dcd okc ck okb bw bk s g g n1 f1 ((0 : Int))) := by kernel_rfl
theorem stpen_16 (okd : List AV → Bool) (dcd : List AV → ByteArray) (okc : List AV → Bool) (ck : List AV → Int) (okb : List AV → Bool) (bw bk : List AV → D) (s : SSta) (g m : Nat) (n1 : Nat) (f1 : Nat → List D) (i62 : Int) : Lpen_16 okd dcd okc ck okb bw bk s g (m + 1) n1 f1 i62 =
 (bif decide (i62 < (↑(List.length (SSta.srcs s)) : Int)) then (bif decide ((0 : Int) ≤ i62) && decide (i62 < (↑(List.length (SSta.srcs s)) : Int)) then (bif okd [AV.c (C.d (D.v
 (Value.int IntKind.i64 (SSrc.emf (List.getD (SSta.srcs s) (Int.toNat i62) src0)))))] then (bif okd [AV.c (.d (.v (.int .i64 (SSrc.r1 (List.getD (SSta.srcs s)
 (Int.toNat i62) src0)))))] then (bif okd [AV.c (.d (.v (.int .i64 (SSrc.x1 (List.getD (SSta.srcs s) (Int.toNat i62) src0)))))] then (bif okd [AV.c (C.d (D.v (Value.int
 IntKind.i64 (SSrc.r0 (List.getD (SSta.srcs s) (Int.toNat i62) src0)))))] then (bif okd [AV.c (.d (.v (.int .i64 (SSrc.x0 (List.getD (SSta.srcs s) (Int.toNat i62)
 src0)))))] then (bif decide ((n1 + 1) * 64 ≤ 140737488355328) && decide (n1 + 1 ≤ 9223372036854775807) then Lpen_16 okd dcd okc ck okb bw bk
 s g m (n1 + 1) (appF n1 f1 (chunk [D.v (.int .i64 (0 : Int)), D.sl (1 + 1) (0 + 1 + 1 + 1 + 1 + 1
 + 1 + 1) (chunk [D.v (.string (ByteArray.mk #[115, 111, 117, 114, 99, 101])), D.v (Value.bool
 false), dS (SSrc.name (List.getD (SSta.srcs s) (Int.toNat i62) src0)), D.v (.bool false), D.v (.string (dcd [AV.c (.d (.v (.int .i64 (SSrc.emf (List.getD
 (SSta.srcs s) (Int.toNat i62) src0)))))])), D.v (.bool false), D.v (.string (dcd [AV.c (.d (.v (.int .i64 (SSrc.r1 (List.getD (SSta.srcs s) (Int.toNat i62)
 src0)))))])), D.v (.bool false), D.v (.string (dcd [AV.c (.d (.v (.int .i64 (SSrc.x1 (List.getD (SSta.srcs s) (Int.toNat i62) src0)))))])), D.v (Value.bool
 false), D.v (.string (dcd [AV.c (.d (.v (.int .i64 (SSrc.r0 (List.getD (SSta.srcs s) (Int.toNat i62) src0)))))])), D.v (.bool false), D.v (.string (dcd
 [AV.c (.d (.v (.int .i64 (SSrc.x0 (List.getD (SSta.srcs s) (Int.toNat i62) src0)))))])), D.v (.bool false)] (1 + 1)), D.v (.bool false), D.v
 (Value.slice none 0 0)] (3 + 1))) (IntKind.wrap IntKind.i64 (i62 + (1 : Int))) else none) else none) else none) else none) else none) else none) else
 none) else Lpen_22 okd dcd okc ck okb bw bk s g g n1 f1 ((0 : Int))) := by kernel_rfl
theorem stpen_22 (okd : List AV → Bool) (dcd : List AV → ByteArray) (okc : List AV → Bool) (ck : List AV → Int) (okb : List AV → Bool) (bw bk : List AV → D) (s : SSta) (g m : Nat) (n1 : Nat) (f1 : Nat → List D) (i88 : Int) : Lpen_22 okd dcd okc ck okb bw bk s g (m + 1) n1 f1 i88 =
 (bif decide (i88 < (↑(List.length (SSta.bays s)) : Int)) then (bif decide ((0 : Int) ≤ i88) && decide (i88 < (↑(List.length (SSta.bays s)) : Int)) then (bif okb [AV.agg (List.map
 C.d (staC s)), AV.agg (List.map C.d (bayC (List.getD (SSta.bays s) (Int.toNat i88) bay0)))] then (bif decide ((n1 + 1) * 64 ≤ 140737488355328) && decide (n1
 + 1 ≤ 9223372036854775807) then Lpen_22 okd dcd okc ck okb bw bk s g m (n1 + 1) (appF n1 f1 (chunk [dI (0 : Int), bw [AV.agg (List.map C.d (staC s)), AV.agg
 (List.map C.d (bayC (List.getD (SSta.bays s) (Int.toNat i88) bay0)))], dB true, bk [AV.agg (List.map C.d (staC s)), AV.agg (List.map C.d (bayC (List.getD (SSta.bays s) (Int.toNat
 i88) bay0)))]] (3 + 1))) (IntKind.wrap IntKind.i64 (i88 + (1 : Int))) else none) else none) else none) else some (T.leaf (AV.c (C.row (0) (4) n1),
 [(0, Blk.row n1 f1 (4) (47))]))) := by kernel_rfl
end Go.Proofs.YthmapnolgdpkbaaDoor.de
