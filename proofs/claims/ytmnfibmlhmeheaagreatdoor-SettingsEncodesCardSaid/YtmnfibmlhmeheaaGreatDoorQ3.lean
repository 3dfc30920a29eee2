/-
  An evaluator of Go code on abstract values, proved sound, and what it computes of the functions that the statement reaches (part 3). No condition.
-/
import Derived.Test.YtmnfibmlhmeheaaGreatDoorQ2
import Derived.Test.YtmnfibmlhmeheaaGreatDoorProg
import Derived.KernelRfl
import Derived.Shelf.Strconv.Itoa3
import Derived.Ground.NamesProg
set_option maxRecDepth 100000
namespace Go.Eb
open Go.RowKit
def Det {α β : Type} (F : (R : Type) → (α → β → Option (T R)) → Option (T R)) : Prop :=
  (∀ (R : Type) (k : α → β → Option (T R)), F R k = none) ∨ ∃ a b, ∀ (R : Type) (k : α → β → Option (T R)), F R k = k a b
def OrcDet (orc : Orc) : Prop := ∀ f args H, Det fun R k => orc R f args H k
theorem Det.no {α β : Type} {F : (R : Type) → (α → β → Option (T R)) → Option (T R)} (h : ∀ (R : Type) k, F R k = none) : Det F := .inl h
theorem Det.one {α β : Type} {F : (R : Type) → (α → β → Option (T R)) → Option (T R)} (a : α) (b : β) (h : ∀ (R : Type) k, F R k = k a b) : Det F := .inr ⟨a, b, h⟩
theorem Det.bif {α β : Type} {F G : (R : Type) → (α → β → Option (T R)) → Option (T R)} (c : Bool) (h : Det F) (k : Det G) : Det fun R q => bif c then F R q else G R q := by
  cases c with
  | true => exact h
  | false => exact k
theorem Det.congr {α β : Type} {F G : (R : Type) → (α → β → Option (T R)) → Option (T R)} (h : Det F) (e : ∀ (R : Type) k, G R k = F R k) : Det G := by
  rcases h with h | ⟨a, b, h⟩
  · exact .inl fun R k => (e R k).trans (h R k)
  · exact .inr ⟨a, b, fun R k => (e R k).trans (h R k)⟩
theorem Det.bind {α β γ δ : Type} {F : (R : Type) → (α → β → Option (T R)) → Option (T R)} (h : Det F) {G : α → β → (R : Type) → (γ → δ → Option (T R)) → Option (T R)} (hG : ∀ a b, Det (G a b)) :
    Det fun R k => F R fun a b => G a b R k := by
  rcases h with h | ⟨a, b, h⟩
  · exact .inl fun R k => h R _
  · rcases hG a b with g | ⟨c, d, g⟩
    · exact .inl fun R k => (h R _).trans (g R k)
    · exact .inr ⟨c, d, fun R k => (h R _).trans (g R k)⟩
section
variable {P : Program} {orc : Orc}
theorem perfK_det (ho : OrcDet orc) (h0 : Nat) (a : Do) (H : Hp) : (∀ (R : Type) k, perfK (R := R) orc h0 a H k = none) ∨ ∃ x ft u, ∀ (R : Type) k, perfK (R := R) orc h0 a H k = k x ft u := by
  cases a with
  | call f args =>
    simp only [perfK]
    cases hL : callL H args with
    | none => exact .inl fun R k => rfl
    | some L =>
      rcases ho f (callArgs L args) (callH H L) with h | ⟨x, Hr, h⟩
      · exact .inl fun R k => h R _
      · exact .inr ⟨_, _, _, fun R k => h R _⟩
  | next h =>
    simp only [perfK]
    cases look H h with
    | none => exact .inl fun R k => rfl
    | some b =>
      cases b with
      | iter s pos =>
        cases hb : Nat.blt pos s.size with
        | true => exact .inr ⟨_, _, _, fun R k => by simp only [hb, cond_true]; rfl⟩
        | false => exact .inr ⟨_, _, _, fun R k => by simp only [hb, cond_false]; rfl⟩
      | _ => exact .inl fun R k => rfl
  | ustr h n e =>
    simp only [perfK]
    cases look H h with
    | none => exact .inl fun R k => rfl
    | some b =>
      cases b with
      | row m f sz t =>
        cases hb : (Nat.ble n m && Nat.beq sz 1 && Nat.beq t e && bytesOk n f) with
        | true => exact .inr ⟨_, _, _, fun R k => by simp only [hb, cond_true]; rfl⟩
        | false => exact .inl fun R k => by simp only [hb, cond_false]
      | _ => exact .inl fun R k => rfl
  | cstr h n =>
    simp only [perfK]
    cases hb : cstrOk n (look H h) with
    | true => exact .inr ⟨_, _, _, fun R k => by simp only [cond_true]; rfl⟩
    | false => exact .inl fun R k => by simp only [cond_false]
  | _ =>
    all_goals
      simp only [perfK]
      split
      · exact .inr ⟨_, _, _, fun R k => rfl⟩
      · exact .inl fun R k => rfl
theorem guardK_det (ops : Array Oper) (F : List AV) (o : Oper) : (∀ (R : Type) yes no, guardK (R := R) ops F o yes no = none) ∨ (∃ F', ∀ (R : Type) yes no, guardK (R := R) ops F o yes no = yes F') ∨ ∃ F', ∀ (R : Type) yes no, guardK (R := R) ops F o yes no = no F' := by
  unfold guardK
  split
  · exact .inr (.inl ⟨_, fun R yes no => rfl⟩)
  · rename_i j want _
    split
    · exact .inr (.inr ⟨_, fun R yes no => rfl⟩)
    · split
      · rename_i b _
        cases b <;> cases want
        · exact .inr (.inl ⟨_, fun R yes no => rfl⟩)
        · exact .inr (.inr ⟨_, fun R yes no => rfl⟩)
        · exact .inr (.inr ⟨_, fun R yes no => rfl⟩)
        · exact .inr (.inl ⟨_, fun R yes no => rfl⟩)
      · exact .inr (.inr ⟨_, fun R yes no => rfl⟩)
      · exact .inl fun R yes no => rfl
theorem stepK_det (ho : OrcDet orc) (ops : Array Oper) (i : Nat) (s : St) : Det fun R k => stepK (R := R) P orc ops i s k := by
  unfold stepK
  simp only [guardF_eq, resF_eq, opF_eq, putF_eq]
  split
  · exact .no fun R k => rfl
  · rename_i o _
    rcases guardK_det ops s.F o with h | ⟨F', h⟩ | ⟨F', h⟩
    · exact .no fun R k => h R _ _
    · cases hr : res P o (opA F') with
      | none => exact .no fun R k => by rw [h]; simp only [hr]
      | some p =>
        obtain ⟨ok, a⟩ := p
        cases ok with
        | false => exact .no fun R k => by rw [h]; simp only [hr, cond_false]
        | true =>
          rcases perfK_det ho (s.nm + 16 * i) a s.H with g | ⟨x, ft, u, g⟩
          · exact .no fun R k => by rw [h]; simp only [hr, cond_true]; exact g R _
          · exact .one _ _ fun R k => by rw [h]; simp only [hr, cond_true]; exact g R _
    · exact .one _ _ fun R k => h R _ _
theorem opsK_det (ho : OrcDet orc) (ops : Array Oper) : ∀ (l : List Nat) (tr : List (Nat × Foot)) (s : St), Det fun R k => opsK (R := R) P orc ops l tr s k
  | [], tr, s => .one tr s fun R k => rfl
  | i :: rest, tr, s => (stepK_det ho ops i s).bind fun a s' => opsK_det ho ops rest (tr ++ [(i, a)]) s'
def noDiam : Code → Bool
  | .region _ ops draw => !(draw && diamond ops)
  | .seq a b => noDiam a && noDiam b
  | .cond _ a b => noDiam a && noDiam b
  | .block _ c => noDiam c
  | .loop c => noDiam c
  | .scope c => noDiam c
  | _ => true
theorem regionK_det (ho : OrcDet orc) (ops : Array Oper) (draw : Bool) (s : St) (hd : (draw && diamond ops) = false) : Det fun R k => regionK (R := R) P orc ops draw s k := by
  unfold regionK
  simp only [hd, cond_false]
  refine (opsK_det ho ops _ _ s).bind fun tr s' => ?_
  cases (!draw || (commutes ops (masks ops.toList []) tr && edgesDown ops && P.follows .mixedOrders)) with
  | true => exact .one _ _ fun R k => rfl
  | false => exact .no fun R k => rfl
theorem iterK_det {k0 : Nat} {note : Option Note} {body : (R : Type) → St → (Out → St → Option (T R)) → Option (T R)} (hb : ∀ s, Det fun R k => body R s k) : ∀ (n : Nat) (s : St), Det fun R k => iterK (R := R) k0 note (body R) n s k
  | 0, s => .no fun R k => rfl
  | n + 1, s => (hb s).bind (G := fun (o : Out) (s' : St) (R : Type) (k : Out → St → Option (T R)) => match o with
    | .norm => (match trim k0 note s' with
      | none => none
      | some s0 => iterK k0 note (body R) n s0 k)
    | .exit id => k (.exit id) s'
    | .goto l => k (.goto l) s'
    | .ret => k .ret s') fun o s' => by
      cases o with
      | norm =>
        simp only []
        cases trim k0 note s' with
        | none => exact .no fun R k => rfl
        | some s0 => exact iterK_det hb n s0
      | exit id => exact .one _ _ fun R k => rfl
      | goto l => exact .one _ _ fun R k => rfl
      | ret => exact .one _ _ fun R k => rfl
theorem evK_det (ho : OrcDet orc) (ann : Ann) (k0 n : Nat) : ∀ (c : Code), noDiam c = true → ∀ (lab : Option Nat) (s : St), Det fun R k => evK (R := R) P orc ann k0 n c lab s k := by
  intro c
  induction c with
  | skip => intro _ lab s; cases lab with
    | none => exact .one _ _ fun R k => by simp only [evK]; rfl
    | some l => exact .no fun R k => by simp only [evK]
  | region id ops draw =>
    intro hn lab s
    cases lab with
    | none =>
      have hd : (draw && diamond ops) = false := by simp only [noDiam, Bool.not_eq_true'] at hn; exact hn
      simp only [evK]
      split
      · exact regionK_det ho ops draw s hd
      · split
        · exact .no fun R k => rfl
        · rename_i s0 hs0
          cases n with
          | zero => exact .no fun R k => by simp only [iterK]
          | succ m =>
            have h := (regionK_det (P := P) ho ops draw s0 hd).bind (G := fun (o : Out) (s' : St) (R : Type) (k : Out → St → Option (T R)) => gateN (fun s'' => k .norm s'') o s') fun o s' => by
              cases o with
              | norm => exact .one _ _ fun R k => rfl
              | _ => exact .no fun R k => rfl
            refine h.congr fun R k => ?_
            simp only [iterK]
            exact congrArg _ (funext fun o => funext fun s'' => by cases o <;> rfl)
    | some l => exact .no fun R k => by simp only [evK]
  | seq a b iha ihb =>
    intro hn lab s
    simp only [noDiam, Bool.and_eq_true] at hn
    have go : ∀ lab', Det fun (R : Type) (k : Out → St → Option (T R)) => evK P orc ann k0 n a lab' s fun o s' => match o with
        | .norm => evK P orc ann k0 n b none s' k
        | .exit id => k (.exit id) s'
        | .goto l => k (.goto l) s'
        | .ret => k .ret s' := fun lab' => (iha hn.1 lab' s).bind (G := fun (o : Out) (s' : St) (R : Type) (k : Out → St → Option (T R)) => match o with
        | .norm => evK P orc ann k0 n b none s' k
        | .exit id => k (.exit id) s'
        | .goto l => k (.goto l) s'
        | .ret => k .ret s') fun o s' => by
          cases o with
          | norm => exact ihb hn.2 none s'
          | exit id => exact .one _ _ fun R k => rfl
          | goto l => exact .one _ _ fun R k => rfl
          | ret => exact .one _ _ fun R k => rfl
    cases lab with
    | none => simp only [evK]; exact go none
    | some l =>
      simp only [evK]
      cases hasLabel l a with
      | true => exact go (some l)
      | false => exact ihb hn.2 (some l) s
  | cond c x y ihx ihy =>
    intro hn lab s
    simp only [noDiam, Bool.and_eq_true] at hn
    cases lab with
    | some l => exact .no fun R k => by simp only [evK]
    | none =>
      simp only [evK]
      split
      · rename_i b _
        cases b with
        | true => exact ihx hn.1 none s
        | false => exact ihy hn.2 none s
      · exact .no fun R k => rfl
  | block id c ih =>
    intro hn lab s
    simp only [noDiam] at hn
    cases lab with
    | some l => exact .no fun R k => by simp only [evK]
    | none =>
      simp only [evK]
      exact (ih hn none s).bind (G := fun (o : Out) (s' : St) (R : Type) (k : Out → St → Option (T R)) => match o with
        | .norm => k .norm s'
        | .exit j => bif j == id then k .norm s' else k (.exit j) s'
        | .goto l => k (.goto l) s'
        | .ret => k .ret s') fun o s' => by
          cases o with
          | norm => exact .one _ _ fun R k => rfl
          | exit j => cases hj : (j == id) with
            | true => exact .one _ _ fun R k => by simp only [hj, cond_true]; rfl
            | false => exact .one _ _ fun R k => by simp only [hj, cond_false]; rfl
          | goto l => exact .one _ _ fun R k => rfl
          | ret => exact .one _ _ fun R k => rfl
  | loop c ih =>
    intro hn lab s
    simp only [noDiam] at hn
    cases lab with
    | some l => exact .no fun R k => by simp only [evK]
    | none =>
      simp only [evK]
      split
      · exact .no fun R k => rfl
      · rename_i s0 _
        exact iterK_det (body := fun (R : Type) (s' : St) (k' : Out → St → Option (T R)) => evK P orc ann k0 n c none s' k') (fun s' => ih hn none s') n s0
  | scope c ih =>
    intro hn lab s
    simp only [noDiam] at hn
    cases lab with
    | some l => exact .no fun R k => by simp only [evK]
    | none =>
      simp only [evK]
      refine (ih hn none s).bind (G := fun (o : Out) (s' : St) (R : Type) (k : Out → St → Option (T R)) => match o with
        | .goto l => (match findLabel c l with
          | some rest => (match trim k0 ((firstR rest).bind ann) s' with
            | none => none
            | some s0 => iterK k0 ((firstR rest).bind ann) (fun s' k' => evK P orc ann k0 n c (some l) s' fun o s'' => match o with
                | .goto m => bif m == l then k' .norm s'' else none
                | .norm => k' (.goto l) s''
                | .exit id => k' (.exit id) s''
                | .ret => k' .ret s'') n s0 fun o s'' => match o with
                  | .goto _ => k .norm s''
                  | .norm => none
                  | .exit id => k (.exit id) s''
                  | .ret => k .ret s'')
          | none => none)
        | .norm => k .norm s'
        | .exit id => k (.exit id) s'
        | .ret => k .ret s') fun o s' => ?_
      cases o with
      | norm => exact .one _ _ fun R k => rfl
      | exit id => exact .one _ _ fun R k => rfl
      | ret => exact .one _ _ fun R k => rfl
      | goto l =>
        simp only []
        split
        · split
          · exact .no fun R k => rfl
          · rename_i rest _ _ s0 _
            refine (iterK_det (body := fun (R : Type) (s' : St) (k' : Out → St → Option (T R)) => evK P orc ann k0 n c (some l) s' fun o s'' => match o with
                | .goto m => bif m == l then k' .norm s'' else none
                | .norm => k' (.goto l) s''
                | .exit id => k' (.exit id) s''
                | .ret => k' .ret s'') (fun s1 => ?_) n s0).bind (G := fun (o : Out) (s'' : St) (R : Type) (k : Out → St → Option (T R)) => match o with
                  | .goto _ => k .norm s''
                  | .norm => none
                  | .exit id => k (.exit id) s''
                  | .ret => k .ret s'') fun o s'' => ?_
            · refine (ih hn (some l) s1).bind (G := fun (o : Out) (s'' : St) (R : Type) (k' : Out → St → Option (T R)) => match o with
                | .goto m => bif m == l then k' .norm s'' else none
                | .norm => k' (.goto l) s''
                | .exit id => k' (.exit id) s''
                | .ret => k' .ret s'') fun o s'' => ?_
              cases o with
              | goto m => cases hj : (m == l) with
                | true => exact .one _ _ fun R k => by simp only [hj, cond_true]; rfl
                | false => exact .no fun R k => by simp only [hj, cond_false]
              | norm => exact .one _ _ fun R k => rfl
              | exit id => exact .one _ _ fun R k => rfl
              | ret => exact .one _ _ fun R k => rfl
            · cases o with
              | goto m => exact .one _ _ fun R k => rfl
              | norm => exact .no fun R k => rfl
              | exit id => exact .one _ _ fun R k => rfl
              | ret => exact .one _ _ fun R k => rfl
        · exact .no fun R k => rfl
  | label m =>
    intro hn lab s
    cases lab with
    | none => exact .one _ _ fun R k => by simp only [evK]; rfl
    | some l =>
      cases hj : (m == l) with
      | true => exact .one _ _ fun R k => by simp only [evK, hj, cond_true]; rfl
      | false => exact .no fun R k => by simp only [evK, hj, cond_false]
  | goto l => intro _ lab s; cases lab with
    | none => exact .one _ _ fun R k => by simp only [evK]; rfl
    | some l => exact .no fun R k => by simp only [evK]
  | exit l => intro _ lab s; cases lab with
    | none => exact .one _ _ fun R k => by simp only [evK]; rfl
    | some l => exact .no fun R k => by simp only [evK]
  | ret => intro _ lab s; cases lab with
    | none => exact .one _ _ fun R k => by simp only [evK]; rfl
    | some l => exact .no fun R k => by simp only [evK]
  | _ => intro _ lab s; exact .no fun R k => by cases lab <;> simp only [evK]
theorem endK_det (fn : Func) (k0 : Nat) (o : Out) (s : St) : Det fun R k => endK (R := R) P fn k0 k o s := by
  unfold endK
  cases o with
  | exit _ => exact .no fun R k => rfl
  | goto _ => exact .no fun R k => rfl
  | _ =>
    all_goals
      simp only []
      cases resultsA P fn s with
      | none => exact .no fun R k => rfl
      | some l =>
        simp only []
        cases ofResults l with
        | none => exact .no fun R k => rfl
        | some x => exact .one _ _ fun R k => rfl
theorem callK_det (ho : OrcDet orc) (ann : Ann) (n : Nat) (fn : Func) (c : Code) (hc : noDiam c = true) (args : List AV) (H : Hp) : Det fun R k => callK (R := R) P orc ann n fn c args H k := by
  unfold callK
  exact (evK_det ho ann H.length n c hc none _).bind (G := fun o s R k => endK P fn H.length k o s) fun o s => endK_det fn H.length o s
end
noncomputable def inl (P : Program) (orc : Orc) (ann : Ann) (n : Nat) (fn : Func) : (R : Type) → List AV → Hp → (AV → Hp → Option (T R)) → Option (T R) := fun _ args H k =>
  bif noDiam (Aad fn) && seqN 0 H then callK P orc ann n fn (Aad fn) args H k else none
def AnsDet (g : (R : Type) → List AV → Hp → (AV → Hp → Option (T R)) → Option (T R)) : Prop := ∀ args H, Det fun R k => g R args H k
theorem inl_det {P : Program} {orc : Orc} (ho : OrcDet orc) {ann : Ann} {n : Nat} {fn : Func} : AnsDet (inl P orc ann n fn) := fun args H => by
  unfold inl
  cases hc : (noDiam (Aad fn) && seqN 0 H) with
  | false => exact .no fun R k => rfl
  | true =>
    simp only [Bool.and_eq_true] at hc
    exact callK_det ho ann n fn _ hc.1 args H
theorem inl_ok {P : Program} {orc : Orc} (ho : OrcOk P orc) (hd : OrcDet orc) {ann : Ann} {n : Nat} {f : FuncId} {fn : Func} (hf : P.funcs[f]? = some fn) (hb : fn.body = some (Aad fn)) :
    ∀ (R : Type) args H (k : AV → Hp → Option (T R)) t, inl P orc ann n fn R args H k = some t → ∃ x H', k x H' = some t ∧ CX P f args H x H' := fun R args H k t h => by
  unfold inl at h
  cases hc : (noDiam (Aad fn) && seqN 0 H) with
  | false => rw [hc] at h; cases h
  | true =>
    rw [hc] at h
    simp only [cond_true] at h
    simp only [Bool.and_eq_true] at hc
    rcases callK_det (P := P) hd ann n fn _ hc.1 args H with g | ⟨x, H', g⟩
    · exact absurd ((g R k).symm.trans h) (by simp)
    · exact ⟨x, H', (g R k).symm.trans h, cxA_of ho (ann := ann) (n := n) hf hb hc.2 (by unfold callA; exact g _ _)⟩
theorem Orc.nil_det : OrcDet Orc.nil := fun f args H => .no fun R k => rfl
theorem Orc.cons_det {f0 : FuncId} {g : (R : Type) → List AV → Hp → (AV → Hp → Option (T R)) → Option (T R)} {rest : Orc} (hg : AnsDet g) (hr : OrcDet rest) : OrcDet (Orc.cons f0 g rest) := fun f args H => by
  unfold Orc.cons
  exact .bif _ (hg args H) (hr f args H)
theorem ansP_det {α : Type} {dec : List AV → Option α} {g : α → AV} : AnsDet (ansP dec g) := fun args H => by
  unfold ansP
  cases H with
  | nil =>
    simp only []
    cases dec args with
    | none => exact .no fun R k => rfl
    | some a => exact .one _ _ fun R k => rfl
  | cons _ _ => exact .no fun R k => rfl
structure OrcS (P : Program) (orc : Orc) : Prop where
  ok : OrcOk P orc
  det : OrcDet orc
structure AnsS (P : Program) (f : FuncId) (g : (R : Type) → List AV → Hp → (AV → Hp → Option (T R)) → Option (T R)) : Prop where
  ok : ∀ (R : Type) args H (k : AV → Hp → Option (T R)) t, g R args H k = some t → ∃ x H', k x H' = some t ∧ CX P f args H x H'
  det : AnsDet g
theorem OrcS.nil {P : Program} : OrcS P Orc.nil := ⟨Orc.nil_ok P, Orc.nil_det⟩
theorem OrcS.cons {P : Program} {f0 : FuncId} {g : (R : Type) → List AV → Hp → (AV → Hp → Option (T R)) → Option (T R)} {rest : Orc} (h : AnsS P f0 g) (r : OrcS P rest) : OrcS P (Orc.cons f0 g rest) := ⟨Orc.cons_ok r.ok h.ok, Orc.cons_det h.det r.det⟩
theorem AnsS.inl {P : Program} {orc : Orc} (h : OrcS P orc) {ann : Ann} {n : Nat} {f : FuncId} {fn : Func} (hf : P.funcs[f]? = some fn) (hb : fn.body = some (Aad fn)) : AnsS P f (inl P orc ann n fn) := ⟨inl_ok h.ok h.det hf hb, inl_det h.det⟩
theorem AnsS.p {P : Program} {f0 : FuncId} {α : Type} {dec : List AV → Option α} {g : α → AV} {enc : α → List AV} (hd : ∀ args a, dec args = some a → args = enc a) (hc : ∀ a, CX P f0 (enc a) [] (g a) []) : AnsS P f0 (ansP dec g) := ⟨ansP_ok hd hc, ansP_det⟩
structure Dec (X A : Type) where
  dec : X → Option A
  enc : A → X
  ok : ∀ x a, dec x = some a → x = enc a
namespace Dec
def nil {X : Type} : Dec (List X) Unit := ⟨fun x => match x with | [] => some () | _ :: _ => none, fun _ => [], fun x a h => by cases x <;> simp_all⟩
def cons {X A B : Type} (d : Dec X A) (e : Dec (List X) B) : Dec (List X) (A × B) :=
  ⟨fun x => match x with
    | [] => none
    | y :: r => match d.dec y with
      | none => none
      | some a => match e.dec r with
        | none => none
        | some b => some (a, b),
   fun p => d.enc p.1 :: e.enc p.2, fun x p h => by
    cases x with
    | nil => simp at h
    | cons y r =>
      simp only [] at h
      cases hd : d.dec y with
      | none => rw [hd] at h; simp at h
      | some a =>
        rw [hd] at h
        simp only [] at h
        cases he : e.dec r with
        | none => rw [he] at h; simp at h
        | some b =>
          rw [he] at h
          simp only [Option.some.injEq] at h
          subst h
          rw [d.ok y a hd, e.ok r b he]⟩
def pair {X Y A B : Type} (d : Dec X A) (e : Dec Y B) : Dec (X × Y) (A × B) :=
  ⟨fun x => match d.dec x.1 with
      | none => none
      | some a => match e.dec x.2 with
        | none => none
        | some b => some (a, b),
   fun p => (d.enc p.1, e.enc p.2), fun x p h => by
    obtain ⟨y, r⟩ := x
    simp only [] at h
    cases hd : d.dec y with
    | none => rw [hd] at h; simp at h
    | some a =>
      rw [hd] at h
      simp only [] at h
      cases he : e.dec r with
      | none => rw [he] at h; simp at h
      | some b =>
        rw [he] at h
        simp only [Option.some.injEq] at h
        subst h
        rw [d.ok y a hd, e.ok r b he]⟩
def blk {A : Type} (n : Nat) (d : Dec Blk A) : Dec (Nat × Blk) A := 
  ⟨fun x => bif Nat.beq x.1 n then d.dec x.2 else none, fun a => (n, d.enc a), fun x a h => by
    obtain ⟨m, b⟩ := x
    cases hb : Nat.beq m n with
    | true => simp only [hb, cond_true] at h; rw [Nat.eq_of_beq_eq_true hb, d.ok b a h]
    | false => simp only [hb, cond_false] at h; cases h⟩
def cells {A : Type} (t : TypeId) (d : Dec (List C) A) : Dec Blk A :=
  ⟨fun x => match x with | .cells cs u => bif Nat.beq u t then d.dec cs else none | _ => none, fun a => .cells (d.enc a) t, fun x a h => by
    cases x with
    | cells cs u =>
      simp only [] at h
      cases hb : Nat.beq u t with
      | true => rw [hb] at h; simp only [cond_true] at h; rw [Nat.eq_of_beq_eq_true hb, d.ok cs a h]
      | false => rw [hb] at h; cases h
    | _ => cases h⟩
def rowB (sz : Nat) (t : TypeId) : Dec Blk (Nat × (Nat → List D)) :=
  ⟨fun x => match x with | .row n f z u => bif Nat.beq z sz && Nat.beq u t then some (n, f) else none | _ => none, fun a => .row a.1 a.2 sz t, fun x a h => by
    cases x with
    | row n f z u =>
      simp only [] at h
      cases hb : (Nat.beq z sz && Nat.beq u t) with
      | true =>
        rw [hb] at h
        simp only [cond_true, Option.some.injEq] at h
        subst h
        simp only [Bool.and_eq_true] at hb
        rw [Nat.eq_of_beq_eq_true hb.1, Nat.eq_of_beq_eq_true hb.2]
      | false => rw [hb] at h; cases h
    | _ => cases h⟩
def i64 : Dec C Int := ⟨fun x => match x with | .d (.v (.int .i64 n)) => some n | _ => none, fun n => .d (.v (.int .i64 n)), fun x a h => by
  split at h
  · cases h; rfl
  · cases h⟩
def bool : Dec C Bool := ⟨fun x => match x with | .d (.v (.bool n)) => some n | _ => none, fun n => .d (.v (.bool n)), fun x a h => by
  split at h
  · cases h; rfl
  · cases h⟩
def str : Dec C ByteArray := ⟨fun x => match x with | .d (.v (.string n)) => some n | _ => none, fun n => .d (.v (.string n)), fun x a h => by
  split at h
  · cases h; rfl
  · cases h⟩
def nilS : Dec C Unit := ⟨fun x => match x with | .d (.v (.slice none 0 0)) => some () | _ => none, fun _ => .d (.v (.slice none 0 0)), fun x a h => by
  split at h
  · rfl
  · cases h⟩
def data : Dec C D := ⟨fun x => match x with | .d y => some y | _ => none, fun n => .d n, fun x a h => by
  split at h
  · cases h; rfl
  · cases h⟩
def row (h sz : Nat) : Dec C Nat := ⟨fun x => match x with | .row k z n => bif Nat.beq k h && Nat.beq z sz then some n else none | _ => none, fun n => .row h sz n, fun x a e => by
  split at e
  · rename_i k z n
    cases hb : (Nat.beq k h && Nat.beq z sz) with
    | true =>
      rw [hb] at e
      simp only [cond_true, Option.some.injEq] at e
      subst e
      simp only [Bool.and_eq_true] at hb
      rw [Nat.eq_of_beq_eq_true hb.1, Nat.eq_of_beq_eq_true hb.2]
    | false => rw [hb] at e; cases e
  · cases e⟩
def ptr (h o : Nat) : Dec C Unit := ⟨fun x => match x with | .ptr k p => bif Nat.beq k h && Nat.beq p o then some () else none | _ => none, fun _ => .ptr h o, fun x a e => by
  split at e
  · rename_i k p
    cases hb : (Nat.beq k h && Nat.beq p o) with
    | true =>
      simp only [Bool.and_eq_true] at hb
      rw [Nat.eq_of_beq_eq_true hb.1, Nat.eq_of_beq_eq_true hb.2]
    | false => rw [hb] at e; cases e
  · cases e⟩
def c {A : Type} (d : Dec C A) : Dec AV A := ⟨fun x => match x with | .c y => d.dec y | _ => none, fun a => .c (d.enc a), fun x a h => by
  cases x with
  | c y => rw [d.ok y a h]
  | _ => cases h⟩
def agg {A : Type} (d : Dec (List C) A) : Dec AV A := ⟨fun x => match x with | .agg y => d.dec y | _ => none, fun a => .agg (d.enc a), fun x a h => by
  cases x with
  | agg y => rw [d.ok y a h]
  | _ => cases h⟩
end Dec
def ansD {A : Type} (d : Dec (List AV × Hp) A) (c : A → Bool) (r : A → AV) (H' : A → Hp) : (R : Type) → List AV → Hp → (AV → Hp → Option (T R)) → Option (T R) := fun _ args H k =>
  match d.dec (args, H) with
  | some a => bif c a then k (r a) (H' a) else none
  | none => none
theorem AnsS.d {P : Program} {f : FuncId} {A : Type} {d : Dec (List AV × Hp) A} {c : A → Bool} {r : A → AV} {H' : A → Hp} (hc : ∀ a, c a = true → CX P f (d.enc a).1 (d.enc a).2 (r a) (H' a)) : AnsS P f (ansD d c r H') := by
  refine ⟨fun R args H k t h => ?_, fun args H => ?_⟩
  · unfold ansD at h
    cases hd : d.dec (args, H) with
    | none => rw [hd] at h; cases h
    | some a =>
      rw [hd] at h
      simp only [] at h
      cases hca : c a with
      | false => rw [hca] at h; cases h
      | true =>
        rw [hca] at h
        have e := d.ok _ _ hd
        have := hc a hca
        rw [← e] at this
        exact ⟨_, _, h, this⟩
  · unfold ansD
    cases d.dec (args, H) with
    | none => exact .no fun R k => rfl
    | some a => exact .bif _ (.one _ _ fun R k => rfl) (.no fun R k => rfl)
def ansIte (c : Hp → Bool) (g g' : (R : Type) → List AV → Hp → (AV → Hp → Option (T R)) → Option (T R)) : (R : Type) → List AV → Hp → (AV → Hp → Option (T R)) → Option (T R) := fun R args H k => bif c H then g R args H k else g' R args H k
theorem AnsS.ite {P : Program} {f : FuncId} {g g' : (R : Type) → List AV → Hp → (AV → Hp → Option (T R)) → Option (T R)} {c : Hp → Bool} (h : AnsS P f g) (h' : AnsS P f g') : AnsS P f (ansIte c g g') := by
  refine ⟨fun R args H k t e => ?_, fun args H => .bif _ (h.det args H) (h'.det args H)⟩
  unfold ansIte at e
  cases hc : c H with
  | true => simp only [hc, cond_true] at e; exact h.ok R args H k t e
  | false => simp only [hc, cond_false] at e; exact h'.ok R args H k t e
def ansOr {A : Type} (d : Dec (List AV × Hp) A) (c : A → Bool) (r : A → AV) (H' : A → Hp) (g : (R : Type) → List AV → Hp → (AV → Hp → Option (T R)) → Option (T R)) : (R : Type) → List AV → Hp → (AV → Hp → Option (T R)) → Option (T R) := fun R args H k =>
  match d.dec (args, H) with
  | some a => bif c a then k (r a) (H' a) else none
  | none => g R args H k
theorem AnsS.or {P : Program} {f : FuncId} {A : Type} {d : Dec (List AV × Hp) A} {c : A → Bool} {r : A → AV} {H' : A → Hp} {g : (R : Type) → List AV → Hp → (AV → Hp → Option (T R)) → Option (T R)} (hc : ∀ a, c a = true → CX P f (d.enc a).1 (d.enc a).2 (r a) (H' a)) (hg : AnsS P f g) : AnsS P f (ansOr d c r H' g) := by
  refine ⟨fun R args H k t h => ?_, fun args H => ?_⟩
  · unfold ansOr at h
    cases hd : d.dec (args, H) with
    | none => rw [hd] at h; exact hg.ok R args H k t h
    | some a =>
      rw [hd] at h
      simp only [] at h
      cases hca : c a with
      | false => rw [hca] at h; cases h
      | true =>
        rw [hca] at h
        have e := d.ok _ _ hd
        have := hc a hca
        rw [← e] at this
        exact ⟨_, _, h, this⟩
  · unfold ansOr
    cases d.dec (args, H) with
    | none => exact hg.det args H
    | some a => exact .bif _ (.one _ _ fun R k => rfl) (.no fun R k => rfl)
end Go.Eb
namespace Go.Eb
open Go.RowKit
inductive Fr where
  | nil
  | leaf (j : Nat) (x : AV)
  | node (k : Nat) (l r : Fr)
namespace Fr
noncomputable def get (i : Nat) (t : Fr) : AV :=
  Fr.rec (motive := fun _ => AV) .u (fun j x => Bool.rec (motive := fun _ => AV) .u x (Nat.beq i j)) (fun k _ _ a b => Bool.rec (motive := fun _ => AV) a b (Nat.ble k i)) t
noncomputable def setK {R : Type} (i : Nat) (x : AV) (t : Fr) : (Fr → R) → R :=
  Fr.rec (motive := fun _ => (Fr → R) → R) (fun k => k .nil) (fun j y k => Bool.rec (motive := fun _ => R) (k (.leaf j y)) (k (.leaf j x)) (Nat.beq i j))
    (fun m l r a b k => Bool.rec (motive := fun _ => R) (a fun l' => k (.node m l' r)) (b fun r' => k (.node m l r')) (Nat.ble m i)) t
def toL : Fr → List AV
  | nil => []
  | leaf _ x => [x]
  | node _ l r => toL l ++ toL r
def Ok : Nat → Nat → Fr → Prop
  | lo, hi, nil => lo = hi
  | lo, hi, leaf j _ => j = lo ∧ hi = lo + 1
  | lo, hi, node k l r => Ok lo k l ∧ Ok k hi r
theorem Ok.len : ∀ {t : Fr} {lo hi : Nat}, Ok lo hi t → lo + (toL t).length = hi
  | nil, lo, hi, h => by simpa [Ok, toL] using h
  | leaf j x, lo, hi, h => by simp only [Ok] at h; simp [toL, h.2]
  | node k l r, lo, hi, h => by
    simp only [Ok] at h
    have h1 := Ok.len h.1
    have h2 := Ok.len h.2
    simp only [toL, List.length_append]
    omega
theorem get_eq : ∀ {t : Fr} {lo hi i : Nat}, Ok lo hi t → lo ≤ i → get i t = (toL t).getD (i - lo) .u
  | nil, lo, hi, i, h, hi' => by simp [get, toL]
  | leaf j x, lo, hi, i, h, hi' => by
    simp only [Ok] at h
    obtain ⟨rfl, _⟩ := h
    show Bool.rec (motive := fun _ => AV) .u x (Nat.beq i j) = _
    rw [beqD]
    by_cases e : i = j
    · subst e; simp [toL]
    · rw [decide_eq_false e]
      have : i - j = (i - j - 1) + 1 := by omega
      rw [this]; simp [toL]
  | node k l r, lo, hi, i, h, hi' => by
    simp only [Ok] at h
    have h1 := Ok.len h.1
    show Bool.rec (motive := fun _ => AV) (get i l) (get i r) (Nat.ble k i) = _
    rw [bleD]
    by_cases e : k ≤ i
    · rw [decide_eq_true e]
      have := get_eq (t := r) h.2 e
      simp only [toL]
      rw [List.getD_eq_getElem?_getD, List.getElem?_append_right (by omega), this, List.getD_eq_getElem?_getD]
      congr 2; omega
    · rw [decide_eq_false e]
      have := get_eq (t := l) h.1 hi'
      simp only [toL]
      rw [List.getD_eq_getElem?_getD, List.getElem?_append_left (by omega), this, List.getD_eq_getElem?_getD]
theorem setK_eq (x : AV) : ∀ {t : Fr} {lo hi i : Nat}, Ok lo hi t → lo ≤ i → ∃ t', Ok lo hi t' ∧ toL t' = (toL t).set (i - lo) x ∧ ∀ (R : Type) (k : Fr → R), setK i x t k = k t'
  | nil, lo, hi, i, h, hi' => ⟨nil, h, by simp [toL], fun R k => rfl⟩
  | leaf j y, lo, hi, i, h, hi' => by
    simp only [Ok] at h
    obtain ⟨rfl, rfl⟩ := h
    by_cases e : i = j
    · subst e
      refine ⟨leaf i x, ⟨rfl, rfl⟩, by simp [toL], fun R k => ?_⟩
      show Bool.rec (motive := fun _ => R) (k (.leaf i y)) (k (.leaf i x)) (Nat.beq i i) = _
      rw [beqD]; simp
    · refine ⟨leaf j y, ⟨rfl, rfl⟩, ?_, fun R k => ?_⟩
      · have : i - j = (i - j - 1) + 1 := by omega
        rw [this]; simp [toL]
      · show Bool.rec (motive := fun _ => R) (k (.leaf j y)) (k (.leaf j x)) (Nat.beq i j) = _
        rw [beqD, decide_eq_false e]
  | node m l r, lo, hi, i, h, hi' => by
    simp only [Ok] at h
    have h1 := Ok.len h.1
    by_cases e : m ≤ i
    · obtain ⟨r', o, e1, e2⟩ := setK_eq x (t := r) h.2 e
      refine ⟨node m l r', ⟨h.1, o⟩, ?_, fun R k => ?_⟩
      · simp only [toL]
        rw [e1, List.set_append_right _ _ (by omega : (toL l).length ≤ i - lo)]
        congr 2; omega
      · show Bool.rec (motive := fun _ => R) (setK i x l fun l' => k (.node m l' r)) (setK i x r fun r' => k (.node m l r')) (Nat.ble m i) = _
        rw [bleD, decide_eq_true e]
        exact e2 R _
    · obtain ⟨l', o, e1, e2⟩ := setK_eq x (t := l) h.1 hi'
      refine ⟨node m l' r, ⟨o, h.2⟩, ?_, fun R k => ?_⟩
      · simp only [toL]
        rw [e1, List.set_append_left _ _ (by omega : i - lo < (toL l).length)]
      · show Bool.rec (motive := fun _ => R) (setK i x l fun l' => k (.node m l' r)) (setK i x r fun r' => k (.node m l r')) (Nat.ble m i) = _
        rw [bleD, decide_eq_false e]
        exact e2 R _
def base : Nat → Nat → Nat → Fr
  | 0, _, _ => nil
  | _ + 1, _, 0 => nil
  | _ + 1, lo, 1 => leaf lo (.tup [])
  | d + 1, lo, n + 2 => node (lo + (n + 2) / 2) (base d lo ((n + 2) / 2)) (base d (lo + (n + 2) / 2) (n + 2 - (n + 2) / 2))
theorem base_ok : ∀ (d lo n : Nat), n ≤ d → Ok lo (lo + n) (base d lo n) ∧ toL (base d lo n) = List.replicate n (.tup [])
  | 0, lo, n, h => by
    obtain rfl : n = 0 := by omega
    simp [base, Ok, toL]
  | d + 1, lo, 0, h => by simp [base, Ok, toL]
  | d + 1, lo, 1, h => by simp [base, Ok, toL]
  | d + 1, lo, n + 2, h => by
    have h1 := base_ok d lo ((n + 2) / 2) (by omega)
    have h2 := base_ok d (lo + (n + 2) / 2) (n + 2 - (n + 2) / 2) (by omega)
    have e : lo + (n + 2) / 2 + (n + 2 - (n + 2) / 2) = lo + (n + 2) := by omega
    rw [e] at h2
    refine ⟨?_, ?_⟩
    · simp only [base, Ok]
      exact ⟨h1.1, h2.1⟩
    · simp only [base, toL, h1.2, h2.2, List.replicate_append_replicate]
      congr 1; omega
noncomputable def putsK {R : Type} (l : List AV) : Nat → Fr → (Fr → R) → R :=
  List.rec (motive := fun _ => Nat → Fr → (Fr → R) → R) (fun _ t k => k t) (fun x _ ih i t k => setK i x t fun t' => ih (i + 1) t' k) l
theorem putsK_eq : ∀ (l : List AV) {t : Fr} {hi i : Nat}, Ok 0 hi t → i + l.length ≤ hi → ∃ t', Ok 0 hi t' ∧ toL t' = (toL t).take i ++ l ++ (toL t).drop (i + l.length) ∧ ∀ (R : Type) (k : Fr → R), putsK l i t k = k t'
  | [], t, hi, i, h, hl => ⟨t, h, by simp, fun R k => rfl⟩
  | x :: r, t, hi, i, h, hl => by
    obtain ⟨t1, o1, e1, k1⟩ := setK_eq x h (Nat.zero_le i)
    have hlen := h.len
    simp only [List.length_cons] at hl
    obtain ⟨t2, o2, e2, k2⟩ := putsK_eq r (t := t1) (i := i + 1) o1 (by omega)
    refine ⟨t2, o2, ?_, fun R k => ?_⟩
    · rw [e2, e1]
      simp only [Nat.sub_zero, List.length_cons]
      have hi2 : i < (toL t).length := by omega
      rw [List.drop_set_of_lt (by omega), List.take_add_one, List.getElem?_set_self (by omega)]
      simp only [Option.toList_some, List.take_set, List.append_assoc, List.cons_append, List.nil_append]
      rw [List.set_eq_of_length_le (by simp; omega)]
      have e9 : i + 1 + r.length = i + (r.length + 1) := by omega
      rw [e9]
    · show setK i x t (fun t' => putsK r (i + 1) t' k) = _
      rw [k1]
      exact k2 R k
noncomputable def ofK {R : Type} (l : List AV) (k : Fr → R) : R := putsK l 0 (base l.length 0 l.length) k
theorem ofK_eq (l : List AV) : ∃ t, Ok 0 l.length t ∧ toL t = l ∧ ∀ (R : Type) (k : Fr → R), ofK l k = k t := by
  have hb := base_ok l.length 0 l.length (Nat.le_refl _)
  rw [Nat.zero_add] at hb
  obtain ⟨t, o, e, h⟩ := putsK_eq l hb.1 (i := 0) (by omega)
  refine ⟨t, o, ?_, h⟩
  rw [e, hb.2]
  simp
end Fr
noncomputable def insK {R : Type} (h : Nat) (b : Blk) (H : Hp) : (Hp → R) → R :=
  List.rec (motive := fun _ => (Hp → R) → R) (fun k => k [(h, b)])
    (fun p r ih k => Bool.rec (motive := fun _ => R) (ih fun r' => k (p :: r')) (Bool.rec (motive := fun _ => R) (k ((h, b) :: p :: r)) (k ((h, b) :: r)) (Nat.beq h p.1)) (Nat.ble h p.1)) H
theorem insK_eq {R : Type} (h : Nat) (b : Blk) : ∀ (H : Hp) (k : Hp → R), insK h b H k = k (ins h b H)
  | [], k => rfl
  | (m, c) :: r, k => by
    show Bool.rec (motive := fun _ => R) (insK h b r fun r' => k ((m, c) :: r')) (Bool.rec (motive := fun _ => R) (k ((h, b) :: (m, c) :: r)) (k ((h, b) :: r)) (Nat.beq h m)) (Nat.ble h m) = _
    simp only [ins]
    cases h1 : Nat.ble h m with
    | false => simp only [cond_false]; exact insK_eq h b r _
    | true =>
      cases h2 : Nat.beq h m with
      | false => simp only [cond_true, cond_false]
      | true => simp only [cond_true]
noncomputable def applyK {R : Type} (u : Ups) : Hp → (Hp → R) → R :=
  List.rec (motive := fun _ => Hp → (Hp → R) → R) (fun H k => k H) (fun p _ ih H k => insK p.1 p.2 H fun H' => ih H' k) u
theorem applyK_eq {R : Type} : ∀ (u : Ups) (H : Hp) (k : Hp → R), applyK u H k = k (applyU u H)
  | [], H, k => rfl
  | (h, b) :: r, H, k => by
    show insK h b H (fun H' => applyK r H' k) = _
    rw [insK_eq, applyK_eq r]
    rfl
noncomputable def natK {R : Type} (n : Nat) (k : Nat → R) : R := Nat.rec (motive := fun _ => R) (k 0) (fun m _ => k (Nat.succ m)) n
theorem natK_eq {R : Type} (n : Nat) (k : Nat → R) : natK n k = k n := by cases n <;> rfl
structure StQ where
  t : Fr
  H : Hp
  nm : Nat
def StQ.to (s : StQ) : St := ⟨s.t.toL, s.H, s.nm⟩
def StQ.Ok (s : StQ) : Prop := ∃ hi, Fr.Ok 0 hi s.t
section
variable {P : Program} {orc : Orc}
noncomputable def opQ (t : Fr) (o : Operand) : AV :=
  Operand.rec (motive := fun _ => Fr → AV) (fun i t => t.get i) (fun v _ => absA v) (fun _ _ => .u) (fun f _ => .c (.d (.v (.func (.func f) #[] #[])))) o t
theorem opQ_eq {t : Fr} {hi : Nat} (h : Fr.Ok 0 hi t) : opQ t = opA t.toL := by
  funext o
  cases o with
  | tmp i => exact (Fr.get_eq h (Nat.zero_le _)).trans (by simp only [opA, Nat.sub_zero])
  | _ => rfl
noncomputable def putQ {R : Type} (dst : Option Nat) : AV → Fr → (Fr → R) → R := Option.rec (motive := fun _ => AV → Fr → (Fr → R) → R) (fun _ t k => k t) (fun d x t k => Fr.setK d x t k) dst
noncomputable def guard2 {R : Type} (ops : Array Oper) (j : Nat) (want : Bool) (t : Fr) (yes no : Fr → Option (T R)) : Option (T R) :=
  match (ops[j]?).bind (·.dst) with
    | none => no t
    | some d => match t.get d with
      | .c (.d (.v (.bool b))) => bif b then (bif want then Fr.setK d (.c (.d (.v (.bool true)))) t yes else Fr.setK d (.c (.d (.v (.bool true)))) t no)
          else (bif want then Fr.setK d (.c (.d (.v (.bool false)))) t no else Fr.setK d (.c (.d (.v (.bool false)))) t yes)
      | .tup [] => no t
      | _ => none
noncomputable def guardQ {R : Type} (g : Option (Nat × Bool)) : Array Oper → Fr → (Fr → Option (T R)) → (Fr → Option (T R)) → Option (T R) :=
  Option.rec (motive := fun _ => Array Oper → Fr → (Fr → Option (T R)) → (Fr → Option (T R)) → Option (T R)) (fun _ t yes _ => yes t) (fun p ops t yes no => guard2 ops p.1 p.2 t yes no) g
theorem putQ_eq (dst : Option Nat) (x : AV) {t : Fr} {hi : Nat} (h : Fr.Ok 0 hi t) : ∃ t', Fr.Ok 0 hi t' ∧ t'.toL = put t.toL dst x ∧ ∀ (R : Type) (k : Fr → R), putQ dst x t k = k t' := by
  cases dst with
  | none => exact ⟨t, h, rfl, fun R k => rfl⟩
  | some d =>
    obtain ⟨t', o, e, k⟩ := Fr.setK_eq x h (Nat.zero_le d)
    exact ⟨t', o, e, k⟩
theorem guardQ_eq {R : Type} (ops : Array Oper) {t : Fr} {hi : Nat} (h : Fr.Ok 0 hi t) (o : Oper) (yes no : Fr → Option (T R)) (yes' no' : List AV → Option (T R))
    (hy : ∀ t, Fr.Ok 0 hi t → yes t = yes' t.toL) (hn : ∀ t, Fr.Ok 0 hi t → no t = no' t.toL) : guardQ o.guard ops t yes no = guardK ops t.toL o yes' no' := by
  unfold guardK
  cases o.guard with
  | none => exact hy t h
  | some p =>
    obtain ⟨j, want⟩ := p
    show guard2 ops j want t yes no = _
    unfold guard2
    simp only
    cases (ops[j]?).bind (·.dst) with
    | none => exact hn t h
    | some d =>
      have e := Fr.get_eq h (Nat.zero_le d)
      rw [Nat.sub_zero] at e
      simp only
      rw [e]
      obtain ⟨t1, o1, e1, k1⟩ := Fr.setK_eq (.c (.d (.v (.bool true)))) h (Nat.zero_le d)
      obtain ⟨t2, o2, e2, k2⟩ := Fr.setK_eq (.c (.d (.v (.bool false)))) h (Nat.zero_le d)
      rw [Nat.sub_zero] at e1 e2
      simp only [k1, k2, hy _ o1, hn _ o1, hy _ o2, hn _ o2, e1, e2, hn t h]
      rfl
def leS (a b : IntKind) : Bool := decide (a = b)
noncomputable def intQ (op : BinOp) : IntKind → Int → Int → Option (Bool × Do) := BinOp.rec (motive := fun _ => IntKind → Int → Int → Option (Bool × Do))
  (fun k a b => some (true, .val (.c (.d (.v (.int k (k.wrap (a + b))))))))
  (fun k a b => some (true, .val (.c (.d (.v (.int k (k.wrap (a - b))))))))
  (fun k a b => some (true, .val (.c (.d (.v (.int k (k.wrap (a * b))))))))
  (fun _ _ _ => none) (fun _ _ _ => none) (fun _ _ _ => none) (fun _ _ _ => none) (fun _ _ _ => none) (fun _ _ _ => none) (fun _ _ _ => none) (fun _ _ _ => none)
  (fun _ a b => some (true, .val (.c (.d (.v (.bool (a == b)))))))
  (fun _ a b => some (true, .val (.c (.d (.v (.bool (a != b)))))))
  (fun _ a b => some (true, .val (.c (.d (.v (.bool (decide (a < b))))))))
  (fun _ a b => some (true, .val (.c (.d (.v (.bool (decide (a ≤ b))))))))
  (fun _ a b => some (true, .val (.c (.d (.v (.bool (decide (a > b))))))))
  (fun _ a b => some (true, .val (.c (.d (.v (.bool (decide (a ≥ b)))))))) op
def isFastOp : BinOp → Bool
  | .add | .sub | .mul | .eql | .neq | .lss | .leq | .gtr | .geq => true
  | _ => false
noncomputable def binInt (p q : AV) (op : BinOp) (slow : Option (Bool × Do)) : Option (Bool × Do) := match p, q with
  | .c (.d (.v (.int k a))), .c (.d (.v (.int k' b))) => bif isFastOp op && leS k k' then intQ op k a b else slow
  | _, _ => slow
noncomputable def qBinOp (P : Program) (ρ : Operand → AV) (op : BinOp) (t : TypeId) (x y : Operand) : Option (Bool × Do) := binInt (ρ x) (ρ y) op (rBinOp P ρ op t x y)
theorem pr_int (op : BinOp) (hf : isFastOp op = true) (t : TypeId) (x y : Operand) (k : IntKind) (a b : Int) : (match pr P (do eqGuard op t x y (.int k a) (.int k b); binOp op t (.int k a) (.int k b)) with | some r => val1 r | none => none) = intQ op k a b := by
  cases op <;> first | (cases hf; done) | (cases k <;> rfl)
theorem div_fast {op : BinOp} (hf : isFastOp op = true) (a b : Value) (s : Option (Bool × Do)) : divOr op a b s = s := by
  cases op <;> first | (cases hf; done) | rfl
theorem qBinOp_eq (ρ : Operand → AV) (op : BinOp) (t : TypeId) (x y : Operand) : qBinOp P ρ op t x y = rBinOp P ρ op t x y := by
  unfold qBinOp binInt
  split
  · rename_i k a k' b hx hy
    cases hc : (isFastOp op && leS k k') with
    | false => rfl
    | true =>
      simp only [Bool.and_eq_true] at hc
      have hk : k = k' := of_decide_eq_true hc.2
      subst hk
      simp only [cond_true]
      unfold rBinOp
      rw [hx, hy]
      exact (pr_int op hc.1 t x y k a b).symm.trans (div_fast hc.1 _ _ _).symm
  · rfl
noncomputable def resQ (o : Op) : Program → (Operand → AV) → Option (Bool × Do) :=
  Op.rec (motive := fun _ => Program → (Operand → AV) → Option (Bool × Do))
    (fun x _ ρ => some (true, .val (ρ x)))
    (fun x _ ρ => some (true, .val (ρ x)))
    (fun c a b P ρ => rPick P ρ c a b)
    (fun e P ρ => rAlloc P ρ e)
    (fun e x P ρ => rBox P ρ e x)
    (fun t parts P ρ => rBuild P ρ t parts)
    (fun t len parts P ρ => rBuildSlice P ρ t len parts)
    (fun t m k v P ρ => rMapUpdate P ρ t m k v)
    (fun t a P ρ => rLoad P ρ t a)
    (fun t a x P ρ => rStore P ρ t a x)
    (fun _ _ _ => none)
    (fun _ _ _ => none)
    (fun x P ρ => rNilCheck P ρ x)
    (fun op t x y _ P ρ => qBinOp P ρ op t x y)
    (fun op _ x P ρ => rUnOp P ρ op x)
    (fun s t x P ρ => rConvert P ρ s t x)
    (fun _ _ _ _ => none)
    (fun _ _ _ _ => none)
    (fun fn first captured P ρ => rMakeFunc P ρ fn first captured)
    (fun t r P ρ => rMakeMap P ρ t r)
    (fun _ _ _ _ => none)
    (fun _ _ _ _ _ => none)
    (fun t x lo hi mx P ρ => rSlice P ρ t x lo hi mx)
    (fun s x f P ρ => rFieldAddr P ρ s x f)
    (fun t x f P ρ => rField P ρ t x f)
    (fun t x i P ρ => rIndexAddr P ρ t x i)
    (fun t x i P ρ => rIndex P ρ t x i)
    (fun t x i ok P ρ => rLookup P ρ t x i ok)
    (fun t m k v P ρ => rMapUpdate P ρ t m k v)
    (fun _ _ _ _ _ => none)
    (fun _ _ _ _ _ _ => none)
    (fun t x P ρ => rRange P ρ t x)
    (fun it str P ρ => rNext P ρ it str)
    (fun _ _ _ => none)
    (fun _ _ _ _ _ _ => none)
    (fun x i P ρ => rExtract P ρ x i)
    (fun c P ρ => rCall P ρ c)
    (fun _ _ _ => none)
    (fun _ _ _ => none)
    (fun _ _ _ => none)
    (fun _ _ _ _ => none)
    (fun _ _ _ _ _ => none)
    (fun _ _ _ _ => none) o
theorem resQ_eq (o : Oper) (ρ : Operand → AV) : resQ o.op P ρ = resF P o ρ := by
  obtain ⟨dst, op, ty, pos, after, guard⟩ := o
  cases op with
  | binOp op t x y u => exact qBinOp_eq ρ op t x y
  | _ => rfl
noncomputable def lookQ (k : Nat) (H : Hp) : Option Blk := List.rec (motive := fun _ => Option Blk) none (fun p _ ih => Bool.rec (motive := fun _ => Option Blk) ih (some p.2) (Nat.beq k p.1)) H
noncomputable def getQ {α : Type} (l : List α) : Nat → Option α := List.rec (motive := fun _ => Nat → Option α) (fun _ => none) (fun x _ ih n => Nat.rec (motive := fun _ => Option α) (some x) (fun m _ => ih m) n) l
theorem lookQ_eq (k : Nat) : ∀ H : Hp, lookQ k H = look H k
  | [] => rfl
  | (h, b) :: r => by
    show Bool.rec (motive := fun _ => Option Blk) (lookQ k r) (some b) (Nat.beq k h) = _
    rw [lookQ_eq k r]
    simp only [look]
    cases Nat.beq k h <;> rfl
theorem getQ_eq {α : Type} : ∀ (l : List α) (n : Nat), getQ l n = l[n]?
  | [], n => by simp [getQ]
  | x :: r, 0 => by simp; rfl
  | x :: r, n + 1 => by
    show getQ r n = _
    rw [getQ_eq r n]; simp
noncomputable def cellQ (cs : List C) (off n : Nat) (ag : Bool) : Option AV :=
  Bool.rec (motive := fun _ => Option AV) none (Bool.rec (motive := fun _ => Option AV) (Option.rec (motive := fun _ => Option AV) none (fun c => some (.c c)) (getQ cs off)) (some (.agg ((cs.drop off).take n))) ag) (Nat.ble (off + n) cs.length)
theorem cellQ_eq (cs : List C) (off n : Nat) (ag : Bool) : cellQ cs off n ag = loadL cs off n ag := by
  unfold cellQ loadL
  rw [bleD, getQ_eq]
  by_cases h : off + n ≤ cs.length
  · rw [decide_eq_true h, if_pos h]
    cases ag with
    | true => rfl
    | false =>
      simp only [Bool.false_eq_true, if_false]
      cases cs[off]? <;> rfl
  · rw [decide_eq_false h, if_neg h]
noncomputable def loadQ (b : Option Blk) : Nat → Nat → Nat → Nat → Bool → Option AV :=
  Option.rec (motive := fun _ => Nat → Nat → Nat → Nat → Bool → Option AV) (fun _ _ _ _ _ => none)
    (fun b => Blk.rec (motive := fun _ => Nat → Nat → Nat → Nat → Bool → Option AV) (fun cs _ sz i off n ag => cellQ cs (i * sz + off) n ag)
      (fun _ f sz' _ sz i off n ag => bif Nat.beq sz sz' then loadL ((f i).map .d) off n ag else none) (fun _ _ _ _ _ _ _ => none) (fun _ _ _ _ _ _ _ => none) (fun _ _ _ _ _ => none) b) b
theorem loadQ_eq (H : Hp) (h sz i off n : Nat) (ag : Bool) : loadQ (lookQ h H) sz i off n ag = loadA H h sz i off n ag := by
  rw [lookQ_eq]
  unfold loadA
  cases look H h with
  | none => rfl
  | some b =>
    cases b with
    | cells cs t => exact cellQ_eq cs (i * sz + off) n ag
    | _ => rfl
noncomputable def loadR {R : Type} (x : Option AV) : Nat → (AV → Foot → Ups → Option (T R)) → Option (T R) :=
  Option.rec (motive := fun _ => Nat → (AV → Foot → Ups → Option (T R)) → Option (T R)) (fun _ _ => none) (fun x h k => k x ⟨[h], []⟩ []) x
noncomputable def storeR {R : Type} (x : Option (Ups × List Nat)) : (AV → Foot → Ups → Option (T R)) → Option (T R) :=
  Option.rec (motive := fun _ => (AV → Foot → Ups → Option (T R)) → Option (T R)) (fun _ => none) (fun p k => k (.tup []) ⟨p.2, p.1.map (·.1)⟩ p.1) x
noncomputable def splQ {α : Type} (cs : List α) : Nat → List α → List α :=
  List.rec (motive := fun _ => Nat → List α → List α) (fun _ new => new) (fun c r ih off new => Nat.rec (motive := fun _ => List α) (new ++ (c :: r).drop new.length) (fun m _ => c :: ih m new) off) cs
theorem splQ_eq {α : Type} : ∀ (cs : List α) (off : Nat) (new : List α), off ≤ cs.length → splQ cs off new = splice cs off new
  | [], off, new, h => by
    obtain rfl : off = 0 := by simpa using h
    simp [splQ, splice]
  | c :: r, 0, new, h => by
    show new ++ (c :: r).drop new.length = _
    simp [splice]
  | c :: r, off + 1, new, h => by
    show c :: splQ r off new = _
    rw [splQ_eq r off new (by simpa using h)]
    simp [splice, Nat.add_right_comm]
noncomputable def storeQ (b : Option Blk) : Hp → Nat → Nat → Nat → Nat → List C → Option (Ups × List Nat) :=
  Option.rec (motive := fun _ => Hp → Nat → Nat → Nat → Nat → List C → Option (Ups × List Nat)) (fun _ _ _ _ _ _ => none)
    (fun b => Blk.rec (motive := fun _ => Hp → Nat → Nat → Nat → Nat → List C → Option (Ups × List Nat))
      (fun ds t _ h sz i off cs => bif Nat.ble (i * sz + off + cs.length) ds.length then some ([(h, .cells (splQ ds (i * sz + off) cs) t)], [h]) else none)
      (fun _ _ _ _ H h sz i off cs => storeA H h sz i off cs) (fun _ _ H h sz i off cs => storeA H h sz i off cs) (fun _ _ H h sz i off cs => storeA H h sz i off cs) (fun H h sz i off cs => storeA H h sz i off cs) b) b
theorem storeQ_eq (H : Hp) (h sz i off : Nat) (cs : List C) : storeQ (lookQ h H) H h sz i off cs = storeA H h sz i off cs := by
  rw [lookQ_eq]
  cases hl : look H h with
  | none => unfold storeA; rw [hl]; rfl
  | some b =>
    cases b with
    | cells ds t =>
      show (bif Nat.ble (i * sz + off + cs.length) ds.length then some ([(h, Blk.cells (splQ ds (i * sz + off) cs) t)], [h]) else none) = _
      unfold storeA
      rw [hl]
      simp only
      rw [bleD]
      by_cases hb : i * sz + off + cs.length ≤ ds.length
      · rw [decide_eq_true hb, splQ_eq ds _ cs (by omega)]
      · rw [decide_eq_false hb]; rfl
    | _ => rfl
noncomputable def perfQ {R : Type} (a : Do) : Orc → Nat → Hp → (AV → Foot → Ups → Option (T R)) → Option (T R) :=
  Do.rec (motive := fun _ => Orc → Nat → Hp → (AV → Foot → Ups → Option (T R)) → Option (T R))
    (fun x _ _ _ k => k x ⟨[], []⟩ [])
    (fun h sz i off n ag _ _ H k => loadR (loadQ (lookQ h H) sz i off n ag) h k)
    (fun h sz i off cs _ _ H k => storeR (storeQ (lookQ h H) H h sz i off cs) k)
    (fun b mk _ h0 _ k => k (mk h0) ⟨[], [h0]⟩ [(h0, b)])
    (fun d s e sz orc h0 H k => perfK orc h0 (.append d s e sz) H k)
    (fun h orc h0 H k => perfK orc h0 (.next h) H k)
    (fun h kd key ok z orc h0 H k => perfK orc h0 (.look h kd key ok z) H k)
    (fun h kd key v orc h0 H k => perfK orc h0 (.upd h kd key v) H k)
    (fun h x orc h0 H k => perfK orc h0 (.chk h x) H k)
    (fun h off u orc h0 H k => perfK orc h0 (.conv h off u) H k)
    (fun h n e orc h0 H k => perfK orc h0 (.ustr h n e) H k)
    (fun h n orc h0 H k => perfK orc h0 (.cstr h n) H k)
    (fun f args orc h0 H k => perfK orc h0 (.call f args) H k) a
theorem perfQ_eq {R : Type} (a : Do) (h0 : Nat) (H : Hp) (k : AV → Foot → Ups → Option (T R)) : perfQ a orc h0 H k = perfK orc h0 a H k := by
  cases a with
  | load h sz i off n ag =>
    show loadR (loadQ (lookQ h H) sz i off n ag) h k = _
    rw [loadQ_eq]
    simp only [perfK, Aaq]
    cases loadA H h sz i off n ag <;> rfl
  | store h sz i off cs =>
    show storeR (storeQ (lookQ h H) H h sz i off cs) k = _
    rw [storeQ_eq]
    simp only [perfK, Aaq]
    cases storeA H h sz i off cs <;> rfl
  | _ => rfl
noncomputable def okQ {R : Type} (r : Option (Bool × Do)) : (Do → Option (T R)) → Option (T R) :=
  Option.rec (motive := fun _ => (Do → Option (T R)) → Option (T R)) (fun _ => none) (fun p k => Bool.rec (motive := fun _ => Option (T R)) none (k p.2) p.1) r
noncomputable def opsQ {R : Type} (P : Program) (orc : Orc) (ops : Array Oper) (draw : Bool) (nm : Nat) (l : List Oper) : Nat → List (Nat × Foot) → Fr → Hp → (List (Nat × Foot) → Fr → Hp → Option (T R)) → Option (T R) :=
  List.rec (motive := fun _ => Nat → List (Nat × Foot) → Fr → Hp → (List (Nat × Foot) → Fr → Hp → Option (T R)) → Option (T R)) (fun _ tr t H k => k tr t H)
    (fun o _ ih i tr t H k => guardQ o.guard ops t
      (fun t => okQ (resQ o.op P (opQ t)) fun a => perfQ a orc (nm + 16 * i) H (fun x ft u => putQ o.dst x t fun t' => applyK u H fun H' => ih (i + 1) (Bool.rec (motive := fun _ => List (Nat × Foot)) tr (tr ++ [(i, ft)]) draw) t' H' k))
      (fun t => putQ o.dst (.tup []) t fun t' => ih (i + 1) (Bool.rec (motive := fun _ => List (Nat × Foot)) tr (tr ++ [(i, ⟨[], []⟩)]) draw) t' H k)) l
theorem perfK_congr {R : Type} {orc : Orc} (h0 : Nat) (a : Do) (H : Hp) (k k' : AV → Foot → Ups → Option (T R)) (h : ∀ x ft u, k x ft u = k' x ft u) : perfK orc h0 a H k = perfK orc h0 a H k' := by
  have : k = k' := by funext x ft u; exact h x ft u
  rw [this]
theorem opsQ_eq {R : Type} (ops : Array Oper) (draw : Bool) (nm : Nat) : ∀ (l : List Oper) (i : Nat), l = ops.toList.drop i → ∀ (tr tr' : List (Nat × Foot)) (t : Fr) (hi : Nat) (H : Hp) (kq : List (Nat × Foot) → Fr → Hp → Option (T R)) (k : List (Nat × Foot) → St → Option (T R)),
    Fr.Ok 0 hi t → tr'.map (·.1) = List.range i → (draw = true → tr = tr') → (∀ tr tr' t H, Fr.Ok 0 hi t → tr'.map (·.1) = List.range (i + l.length) → (draw = true → tr = tr') → kq tr t H = k tr' ⟨t.toL, H, nm⟩) →
    opsQ P orc ops draw nm l i tr t H kq = opsK P orc ops (List.range' i l.length) tr' ⟨t.toL, H, nm⟩ k
  | [], i, hl, tr, tr', t, hi, H, kq, k, ho, hm, htr, hk => by
    show kq tr t H = _
    simp only [List.length_nil, List.range'_zero, opsK]
    exact hk tr tr' t H ho (by simpa using hm) htr
  | o :: r, i, hl, tr, tr', t, hi, H, kq, k, ho, hm, htr, hk => by
    have hget : ops[i]? = some o := by
      have : ops.toList[i]? = some o := by
        have := congrArg (fun x => x[0]?) hl
        simpa using this.symm
      simpa using this
    have hr : r = ops.toList.drop (i + 1) := by
      have := congrArg (List.drop 1) hl
      simpa [List.drop_drop, Nat.add_comm] using this
    have go : ∀ (tr tr' : List (Nat × Foot)) (t : Fr) (H : Hp), Fr.Ok 0 hi t → tr'.map (·.1) = List.range (i + 1) → (draw = true → tr = tr') → opsQ P orc ops draw nm r (i + 1) tr t H kq = opsK P orc ops (List.range' (i + 1) r.length) tr' ⟨t.toL, H, nm⟩ k :=
      fun tr tr' t H ho hm htr => opsQ_eq ops draw nm r (i + 1) hr tr tr' t hi H kq k ho hm htr (fun a b c d e f g => hk a b c d e (by rw [f]; congr 1; simp; omega) g)
    show guardQ o.guard ops t
      (fun t => okQ (resQ o.op P (opQ t)) fun a => perfQ a orc (nm + 16 * i) H (fun x ft u => putQ o.dst x t fun t' => applyK u H fun H' => opsQ P orc ops draw nm r (i + 1) (Bool.rec (motive := fun _ => List (Nat × Foot)) tr (tr ++ [(i, ft)]) draw) t' H' kq))
      (fun t => putQ o.dst (.tup []) t fun t' => opsQ P orc ops draw nm r (i + 1) (Bool.rec (motive := fun _ => List (Nat × Foot)) tr (tr ++ [(i, ⟨[], []⟩)]) draw) t' H kq) = _
    simp only [List.length_cons, List.range'_succ, opsK, stepK, hget, guardF_eq, opF_eq, putF_eq]
    have htr2 : ∀ ft : Foot, draw = true → (Bool.rec (motive := fun _ => List (Nat × Foot)) tr (tr ++ [(i, ft)]) draw) = tr' ++ [(i, ft)] := fun ft hd => by rw [hd, htr hd]
    have hm2 : ∀ ft : Foot, (tr' ++ [(i, ft)]).map (·.1) = List.range (i + 1) := fun ft => by rw [List.map_append, hm, List.range_succ]; rfl
    refine guardQ_eq ops ho o _ _ _ _ (fun t1 o1 => ?_) (fun t1 o1 => ?_)
    · rw [opQ_eq o1, resQ_eq]
      cases resF P o (opA t1.toL) with
      | none => rfl
      | some p =>
        obtain ⟨ok, a⟩ := p
        cases ok with
        | false => rfl
        | true =>
          simp only [cond_true]
          show perfQ a orc (nm + 16 * i) H _ = _
          rw [perfQ_eq]
          refine perfK_congr _ _ _ _ _ fun x ft u => ?_
          obtain ⟨t2, o2, e2, k2⟩ := putQ_eq o.dst x o1
          rw [k2, applyK_eq, go _ (tr' ++ [(i, ft)]) _ _ o2 (hm2 ft) (htr2 ft), e2]
    · obtain ⟨t2, o2, e2, k2⟩ := putQ_eq o.dst (.tup []) o1
      rw [k2, go _ (tr' ++ [(i, ⟨[], []⟩)]) _ _ o2 (hm2 _) (htr2 _), e2]
def unP (ops : Array Oper) : List (Nat × Nat) := (List.range ops.size).flatMap fun j => ((List.range j).filter fun i => !((masks ops.toList []).getD j 0).testBit i).map fun i => (i, j)
def statQ (ops : Array Oper) : Bool := (unP ops).all (fun p => match ops[p.1]?, ops[p.2]? with | some o, some q => o.apart ops q | _, _ => false) && edgesDown ops
noncomputable def footQ (tr : List (Nat × Foot)) (i : Nat) : Foot := Option.rec (motive := fun _ => Foot) ⟨[], []⟩ (fun p => p.2) (getQ tr i)
noncomputable def pairsQ (l : List (Nat × Nat)) : List (Nat × Foot) → Bool :=
  List.rec (motive := fun _ => List (Nat × Foot) → Bool) (fun _ => true) (fun p _ ih tr => Bool.rec (motive := fun _ => Bool) false (ih tr) (indepF (footQ tr p.1) (footQ tr p.2))) l
noncomputable def quickQ (ops : Array Oper) (tr : List (Nat × Foot)) : Bool := statQ ops && pairsQ (unP ops) tr
theorem pairsQ_mem : ∀ (l : List (Nat × Nat)) (tr : List (Nat × Foot)), pairsQ l tr = true → ∀ p ∈ l, indepF (footQ tr p.1) (footQ tr p.2) = true
  | [], _, _, p, hp => by simp at hp
  | q :: r, tr, h, p, hp => by
    have h' : Bool.rec (motive := fun _ => Bool) false (pairsQ r tr) (indepF (footQ tr q.1) (footQ tr q.2)) = true := h
    cases hi : indepF (footQ tr q.1) (footQ tr q.2) with
    | false => rw [hi] at h'; cases h'
    | true =>
      rw [hi] at h'
      rcases List.mem_cons.1 hp with rfl | hp
      · exact hi
      · exact pairsQ_mem r tr h' p hp
theorem footQ_eq {tr : List (Nat × Foot)} {n i : Nat} (hm : tr.map (·.1) = List.range n) {x : Nat × Foot} (hx : tr[i]? = some x) : x.1 = i ∧ footQ tr i = x.2 := by
  constructor
  · have h1 : (tr.map (·.1))[i]? = some x.1 := by rw [List.getElem?_map, hx]; rfl
    rw [hm] at h1
    have := List.getElem?_eq_some_iff.1 h1
    obtain ⟨hlt, e⟩ := this
    simpa using e.symm
  · unfold footQ
    rw [getQ_eq, hx]
theorem commutes_all (ops : Array Oper) (ms : List Nat) : ∀ (tr : List (Nat × Foot)), (∀ (i j : Nat) (x y : Nat × Foot), i < j → tr[i]? = some x → tr[j]? = some y → ((ms.getD y.1 0).testBit x.1 || indep ops x y) = true) → commutes ops ms tr = true
  | [], _ => rfl
  | x :: r, h => by
    simp only [commutes, Bool.and_eq_true]
    refine ⟨?_, commutes_all ops ms r fun i j a b hij ha hb => h (i + 1) (j + 1) a b (by omega) (by simpa using ha) (by simpa using hb)⟩
    rw [List.all_eq_true]
    intro y hy
    obtain ⟨j, hj, e⟩ := List.getElem_of_mem hy
    exact h 0 (j + 1) x y (by omega) (by simp) (by simp [List.getElem?_eq_getElem hj, e])
theorem quickQ_ok (ops : Array Oper) (tr : List (Nat × Foot)) (hm : tr.map (·.1) = List.range ops.size) (h : quickQ ops tr = true) : commutes ops (masks ops.toList []) tr = true ∧ edgesDown ops = true := by
  unfold quickQ statQ at h
  simp only [Bool.and_eq_true] at h
  obtain ⟨⟨h1, h2⟩, h3⟩ := h
  refine ⟨commutes_all ops _ tr fun i j x y hij hx hy => ?_, h2⟩
  obtain ⟨ex, fx⟩ := footQ_eq hm hx
  obtain ⟨ey, fy⟩ := footQ_eq hm hy
  cases ht : ((masks ops.toList []).getD y.1 0).testBit x.1 with
  | true => rfl
  | false =>
    have hjn : j < ops.size := by
      have := congrArg List.length hm
      simp at this
      have := (List.getElem?_eq_some_iff.1 hy).1
      omega
    have hmem : (i, j) ∈ unP ops := by
      unfold unP
      rw [List.mem_flatMap]
      refine ⟨j, by simpa using hjn, ?_⟩
      rw [List.mem_map]
      exact ⟨i, by rw [List.mem_filter]; exact ⟨by simpa using hij, by rw [ex, ey] at ht; rw [ht]; rfl⟩, rfl⟩
    have g1 := List.all_eq_true.1 h1 _ hmem
    have g2 := pairsQ_mem _ _ h3 _ hmem
    simp only [fx, fy] at g2
    simp only [Bool.false_or]
    unfold indep
    rw [ex, ey]
    simp only at g1
    cases ho : ops[i]? with
    | none => rw [ho] at g1; simp at g1
    | some o =>
      cases hp : ops[j]? with
      | none => rw [ho, hp] at g1; simp at g1
      | some q =>
        rw [ho, hp] at g1
        simp only [g1, g2, Bool.and_self]
noncomputable def ofStK {R : Type} (s : St) (k : StQ → R) : R := Fr.ofK s.F fun t => k ⟨t, s.H, s.nm⟩
theorem ofStK_eq (s : St) : ∃ q : StQ, q.Ok ∧ q.to = s ∧ ∀ (R : Type) (k : StQ → R), ofStK s k = k q := by
  obtain ⟨t, o, e, h⟩ := Fr.ofK_eq s.F
  exact ⟨⟨t, s.H, s.nm⟩, ⟨_, o⟩, by simp [StQ.to, e], fun R k => h R _⟩
noncomputable def chkQ (P : Program) (ops : Array Oper) (tr : List (Nat × Foot)) : Bool := (quickQ ops tr && P.follows .mixedOrders) || (commutes ops (masks ops.toList []) tr && edgesDown ops && P.follows .mixedOrders)
noncomputable def drawQ {R : Type} (draw : Bool) : Program → Array Oper → List (Nat × Foot) → Option (T R) → Option (T R) :=
  Bool.rec (motive := fun _ => Program → Array Oper → List (Nat × Foot) → Option (T R) → Option (T R)) (fun _ _ _ k => k) (fun P ops tr k => Bool.rec (motive := fun _ => Option (T R)) none k (chkQ P ops tr)) draw
theorem drawQ_eq {R : Type} (draw : Bool) (ops : Array Oper) (tr tr' : List (Nat × Foot)) (hm : tr'.map (·.1) = List.range ops.size) (htr : draw = true → tr = tr') (k : Option (T R)) :
    drawQ draw P ops tr k = bif !draw || (commutes ops (masks ops.toList []) tr' && edgesDown ops && P.follows .mixedOrders) then k else none := by
  cases draw with
  | false => rfl
  | true =>
    obtain rfl := htr rfl
    show Bool.rec (motive := fun _ => Option (T R)) none k (chkQ P ops tr) = _
    have : chkQ P ops tr = (commutes ops (masks ops.toList []) tr && edgesDown ops && P.follows .mixedOrders) := by
      unfold chkQ
      cases hq : quickQ ops tr with
      | false => simp
      | true =>
        obtain ⟨h1, h2⟩ := quickQ_ok ops tr hm hq
        rw [h1, h2]; simp
    rw [this]
    cases (commutes ops (masks ops.toList []) tr && edgesDown ops && P.follows .mixedOrders) <;> rfl
noncomputable def regionQ {R : Type} (P : Program) (orc : Orc) (ops : Array Oper) (draw : Bool) (s : StQ) (k : Out → StQ → Option (T R)) : Option (T R) :=
  bif draw && diamond ops then regionK P orc ops draw s.to fun o s' => ofStK s' fun q => k o q
  else opsQ P orc ops draw s.nm ops.toList 0 [] s.t s.H fun tr t H => drawQ draw P ops tr (natK (s.nm + 16 * ops.size) fun n => k .norm ⟨t, H, n⟩)
def KEq {R : Type} (kq : Out → StQ → Option (T R)) (k : Out → St → Option (T R)) : Prop := ∀ o (s : StQ), s.Ok → kq o s = k o s.to
theorem ofSt_keq {R : Type} {kq : Out → StQ → Option (T R)} {k : Out → St → Option (T R)} (h : KEq kq k) (o : Out) (s : St) : (ofStK s fun q => kq o q) = k o s := by
  obtain ⟨q, ho, e, hk⟩ := ofStK_eq s
  rw [hk, h o q ho, e]
theorem regionQ_eq {R : Type} (ops : Array Oper) (draw : Bool) (s : StQ) (hs : s.Ok) {kq : Out → StQ → Option (T R)} {k : Out → St → Option (T R)} (h : KEq kq k) : regionQ P orc ops draw s kq = regionK P orc ops draw s.to k := by
  unfold regionQ
  cases hd : (draw && diamond ops) with
  | true =>
    simp only [cond_true]
    have : (fun o s' => ofStK s' fun q => kq o q) = k := by funext o s'; exact ofSt_keq h o s'
    rw [this]
  | false =>
    simp only [cond_false]
    unfold regionK
    simp only [hd, cond_false]
    obtain ⟨hi, ho⟩ := hs
    have := opsQ_eq (P := P) (orc := orc) (R := R) ops draw s.nm ops.toList 0 (by simp) [] [] s.t hi s.H (fun tr t H => drawQ draw P ops tr (natK (s.nm + 16 * ops.size) fun n => kq .norm ⟨t, H, n⟩))
      (fun tr s' => bif !draw || (commutes ops (masks ops.toList []) tr && edgesDown ops && P.follows .mixedOrders) then k .norm ⟨s'.F, s'.H, s.nm + 16 * ops.size⟩ else none) ho rfl (fun _ => rfl) (fun tr tr' t H ho hm htr => by
        rw [drawQ_eq draw ops tr tr' (by simpa using hm) htr, natK_eq, h .norm ⟨t, H, _⟩ ⟨hi, ho⟩]
        rfl)
    rw [this]
    have e : List.range ops.size = List.range' 0 ops.toList.length := by rw [List.range_eq_range']; rfl
    rw [e]
    rfl
noncomputable def trimQ {R : Type} (k0 : Nat) (note : Option Note) (s : StQ) (k : StQ → Option (T R)) : Option (T R) := match note with
  | none => k s
  | some n => match trim k0 (some n) s.to with
    | none => none
    | some s0 => ofStK s0 k
theorem trimQ_eq {R : Type} (k0 : Nat) (note : Option Note) (s : StQ) (hs : s.Ok) {kq : StQ → Option (T R)} {k : St → Option (T R)} (h : ∀ s : StQ, s.Ok → kq s = k s.to) :
    trimQ k0 note s kq = match trim k0 note s.to with | none => none | some s0 => k s0 := by
  cases note with
  | none => exact h s hs
  | some n =>
    simp only [trimQ]
    cases trim k0 (some n) s.to with
    | none => rfl
    | some s0 =>
      obtain ⟨q, ho, e, hk⟩ := ofStK_eq s0
      simp only
      rw [hk, h q ho, e]
noncomputable def outK {R : Type} (o : Out) : (StQ → Option (T R)) → (Out → StQ → Option (T R)) → StQ → Option (T R) :=
  Out.rec (motive := fun _ => (StQ → Option (T R)) → (Out → StQ → Option (T R)) → StQ → Option (T R)) (fun g _ s => g s) (fun id _ k s => k (.exit id) s) (fun l _ k s => k (.goto l) s) (fun _ k s => k .ret s) o
noncomputable def blockK {R : Type} (o : Out) : Nat → (Out → StQ → Option (T R)) → StQ → Option (T R) :=
  Out.rec (motive := fun _ => Nat → (Out → StQ → Option (T R)) → StQ → Option (T R)) (fun _ k s => k .norm s) (fun j id k s => Bool.rec (motive := fun _ => Option (T R)) (k (.exit j) s) (k .norm s) (Nat.beq j id)) (fun l _ k s => k (.goto l) s) (fun _ k s => k .ret s) o
noncomputable def iterQ {R : Type} (k0 : Nat) (note : Option Note) (body : StQ → (Out → StQ → Option (T R)) → Option (T R)) (n : Nat) : StQ → (Out → StQ → Option (T R)) → Option (T R) :=
  Nat.rec (motive := fun _ => StQ → (Out → StQ → Option (T R)) → Option (T R)) (fun _ _ => none) (fun _ ih s k => body s fun o s' => outK o (fun s' => trimQ k0 note s' fun s0 => ih s0 k) k s') n
theorem iterQ_eq {R : Type} (k0 : Nat) (note : Option Note) {bq : StQ → (Out → StQ → Option (T R)) → Option (T R)} {b : St → (Out → St → Option (T R)) → Option (T R)}
    (hb : ∀ (s : StQ) kq k, s.Ok → KEq kq k → bq s kq = b s.to k) : ∀ (n : Nat) (s : StQ) kq k, s.Ok → KEq kq k → iterQ k0 note bq n s kq = iterK k0 note b n s.to k
  | 0, s, kq, k, _, _ => rfl
  | n + 1, s, kq, k, hs, hk => by
    show (bq s fun o s' => outK o (fun s' => trimQ k0 note s' fun s0 => iterQ k0 note bq n s0 kq) kq s') = _
    simp only [iterK]
    refine hb s _ _ hs fun o s' hs' => ?_
    cases o with
    | norm => exact trimQ_eq k0 note s' hs' (kq := fun s0 => iterQ k0 note bq n s0 kq) (k := fun s0 => iterK k0 note b n s0 k) fun s0 h0 => iterQ_eq k0 note hb n s0 kq k h0 hk
    | exit id => exact hk _ _ hs'
    | goto l => exact hk _ _ hs'
    | ret => exact hk _ _ hs'
noncomputable def scopeK {R : Type} (k0 n : Nat) (ann : Ann) (c : Code) (ev : Option Nat → StQ → (Out → StQ → Option (T R)) → Option (T R)) (l : Nat) (k : Out → StQ → Option (T R)) (s' : StQ) : Option (T R) :=
  match findLabel c l with
      | some rest => trimQ k0 ((firstR rest).bind ann) s' fun s0 => iterQ k0 ((firstR rest).bind ann) (fun s' k' => ev (some l) s' fun o s'' => match o with
            | .goto m => bif m == l then k' .norm s'' else none
            | .norm => k' (.goto l) s''
            | .exit id => k' (.exit id) s''
            | .ret => k' .ret s'') n s0 fun o s'' => match o with
              | .goto _ => k .norm s''
              | .norm => none
              | .exit id => k (.exit id) s''
              | .ret => k .ret s''
      | none => none
noncomputable def condQ {R : Type} (x : AV) (a b : Option (T R)) : Option (T R) := match x with
    | .c (.d (.v (.bool t))) => Bool.rec (motive := fun _ => Option (T R)) b a t
    | _ => none
noncomputable def noLab {R : Type} (lab : Option Nat) : Option (T R) → Option (T R) := Option.rec (motive := fun _ => Option (T R) → Option (T R)) (fun x => x) (fun _ _ => none) lab
noncomputable def seqQ {R : Type} (lab : Option Nat) : Code → (Option Nat → StQ → (Out → StQ → Option (T R)) → Option (T R)) → (Option Nat → StQ → (Out → StQ → Option (T R)) → Option (T R)) → StQ → (Out → StQ → Option (T R)) → Option (T R) :=
  Option.rec (motive := fun _ => Code → (Option Nat → StQ → (Out → StQ → Option (T R)) → Option (T R)) → (Option Nat → StQ → (Out → StQ → Option (T R)) → Option (T R)) → StQ → (Out → StQ → Option (T R)) → Option (T R))
    (fun _ ea eb s k => ea none s fun o s' => outK o (fun s' => eb none s' k) k s')
    (fun l a ea eb s k => bif hasLabel l a then ea (some l) s (fun o s' => outK o (fun s' => eb none s' k) k s') else eb (some l) s k) lab
noncomputable def gateQ {R : Type} (P : Program) (orc : Orc) (ann : Ann) (k0 n : Nat) (id : Nat) (ops : Array Oper) (draw : Bool) (s : StQ) (k : Out → StQ → Option (T R)) : Option (T R) := match ann (id + 100000) with
  | none => regionQ P orc ops draw s k
  | some nt => trimQ k0 (some nt) s fun s0 => iterQ k0 ((firstR (.region id ops draw)).bind ann) (fun s' k' => regionQ P orc ops draw s' fun o s'' => match o with
      | .norm => k' .ret s''
      | _ => none) n s0 fun o s'' => match o with
        | .ret => k .norm s''
        | _ => none
noncomputable def evQ {R : Type} (P : Program) (orc : Orc) (ann : Ann) (k0 n : Nat) (c : Code) : Option Nat → StQ → (Out → StQ → Option (T R)) → Option (T R) :=
  Code.rec (motive := fun _ => Option Nat → StQ → (Out → StQ → Option (T R)) → Option (T R))
    (fun lab s k => noLab lab (k .norm s))
    (fun id ops draw lab s k => noLab lab (gateQ P orc ann k0 n id ops draw s k))
    (fun a _ ea eb lab s k => seqQ lab a ea eb s k)
    (fun c _ _ ex ey lab s k => noLab lab (condQ (opQ s.t c) (ex none s k) (ey none s k)))
    (fun id _ ec lab s k => noLab lab (ec none s fun o s' => blockK o id k s'))
    (fun c ec lab s k => noLab lab (trimQ k0 ((firstR c).bind ann) s fun s0 => iterQ k0 ((firstR c).bind ann) (fun s' k' => ec none s' k') n s0 k))
    (fun _ _ _ _ _ _ _ _ _ => none)
    (fun id lab s k => noLab lab (k (.exit id) s))
    (fun c ec lab s k => noLab lab (ec none s fun o s' => match o with
      | .goto l => scopeK k0 n ann c ec l k s'
      | .norm => k .norm s'
      | .exit id => k (.exit id) s'
      | .ret => k .ret s'))
    (fun m lab s k => match lab with | none => k .norm s | some l => bif m == l then k .norm s else none)
    (fun l lab s k => noLab lab (k (.goto l) s))
    (fun lab s k => noLab lab (k .ret s))
    (fun _ _ _ _ => none) c
theorem condQ_eq {R : Type} (x : AV) (a b : Option (T R)) : condQ x a b = match x with | .c (.d (.v (.bool t))) => bif t then a else b | _ => none := by
  unfold condQ
  split
  · rename_i t
    cases t <;> rfl
  · rfl
theorem evQ_eq {R : Type} (ann : Ann) (k0 n : Nat) : ∀ (c : Code) (lab : Option Nat) (s : StQ) (kq : Out → StQ → Option (T R)) (k : Out → St → Option (T R)), s.Ok → KEq kq k → evQ P orc ann k0 n c lab s kq = evK P orc ann k0 n c lab s.to k := by
  intro c
  induction c with
  | skip =>
    intro lab s kq k hs hk
    cases lab with
    | none => simp only [evK]; exact hk _ _ hs
    | some l => simp only [evK]; rfl
  | region id ops draw =>
    intro lab s kq k hs hk
    cases lab with
    | none =>
      simp only [evK]
      show gateQ P orc ann k0 n id ops draw s kq = _
      unfold gateQ
      cases ann (id + 100000) with
      | none => exact regionQ_eq ops draw s hs hk
      | some nt =>
        simp only []
        refine trimQ_eq k0 (some nt) s hs fun s0 h0 => ?_
        refine iterQ_eq k0 _ (b := fun s' k' => regionK P orc ops draw s' (gateN fun s'' => k' .ret s'')) (fun s1 kq1 k1 h1 hk1 => regionQ_eq ops draw s1 h1 fun o s2 h2 => ?_) n s0 _ _ h0 fun o s2 h2 => ?_
        · cases o with
          | norm => exact hk1 _ _ h2
          | _ => rfl
        · cases o with
          | ret => exact hk _ _ h2
          | _ => rfl
    | some l => simp only [evK]; rfl
  | seq a b iha ihb =>
    intro lab s kq k hs hk
    have go : ∀ lab', (evQ P orc ann k0 n a lab' s fun o s' => outK o (fun s' => evQ P orc ann k0 n b none s' kq) kq s') = evK P orc ann k0 n a lab' s.to fun o s' => match o with
        | .norm => evK P orc ann k0 n b none s' k
        | .exit id => k (.exit id) s'
        | .goto l => k (.goto l) s'
        | .ret => k .ret s' := fun lab' => iha lab' s _ _ hs fun o s' hs' => by
          cases o with
          | norm => exact ihb none s' kq k hs' hk
          | exit id => exact hk _ _ hs'
          | goto l => exact hk _ _ hs'
          | ret => exact hk _ _ hs'
    cases lab with
    | none => simp only [evK]; exact go none
    | some l =>
      simp only [evK]
      show (bif hasLabel l a then (evQ P orc ann k0 n a (some l) s fun o s' => outK o (fun s' => evQ P orc ann k0 n b none s' kq) kq s') else evQ P orc ann k0 n b (some l) s kq) = _
      cases hasLabel l a with
      | true => simp only [cond_true]; exact go (some l)
      | false => simp only [cond_false]; exact ihb (some l) s kq k hs hk
  | cond c x y ihx ihy =>
    intro lab s kq k hs hk
    cases lab with
    | some l => simp only [evK]; rfl
    | none =>
      simp only [evK]
      show condQ (opQ s.t c) (evQ P orc ann k0 n x none s kq) (evQ P orc ann k0 n y none s kq) = _
      have hs1 := hs
      obtain ⟨hi, ho⟩ := hs
      rw [condQ_eq, opQ_eq ho, ihx none s kq k hs1 hk, ihy none s kq k hs1 hk]
      rfl
  | block id c ih =>
    intro lab s kq k hs hk
    cases lab with
    | some l => simp only [evK]; rfl
    | none =>
      simp only [evK]
      refine ih none s _ _ hs fun o s' hs' => ?_
      cases o with
      | norm => exact hk _ _ hs'
      | exit j =>
        show Bool.rec (motive := fun _ => Option (T R)) (kq (.exit j) s') (kq .norm s') (Nat.beq j id) = bif j == id then _ else _
        have e : (j == id) = Nat.beq j id := by rw [beqD]; exact Bool.beq_eq_decide_eq j id
        rw [e]
        cases Nat.beq j id with
        | true => exact hk _ _ hs'
        | false => exact hk _ _ hs'
      | goto l => exact hk _ _ hs'
      | ret => exact hk _ _ hs'
  | loop c ih =>
    intro lab s kq k hs hk
    cases lab with
    | some l => simp only [evK]; rfl
    | none =>
      simp only [evK]
      exact trimQ_eq k0 _ s hs (kq := fun s0 => iterQ k0 ((firstR c).bind ann) (fun s' k' => evQ P orc ann k0 n c none s' k') n s0 kq) (k := fun s0 => iterK k0 ((firstR c).bind ann) (fun s' k' => evK P orc ann k0 n c none s' k') n s0 k) fun s0 h0 => iterQ_eq k0 _ (fun s1 kq1 k1 h1 hk1 => ih none s1 kq1 k1 h1 hk1) n s0 kq k h0 hk
  | scope c ih =>
    intro lab s kq k hs hk
    cases lab with
    | some l => simp only [evK]; rfl
    | none =>
      simp only [evK]
      refine ih none s _ _ hs fun o s' hs' => ?_
      cases o with
      | norm => exact hk _ _ hs'
      | exit id => exact hk _ _ hs'
      | ret => exact hk _ _ hs'
      | goto l =>
        show scopeK k0 n ann c (evQ P orc ann k0 n c) l kq s' = _
        unfold scopeK
        simp only []
        cases findLabel c l with
        | none => rfl
        | some rest =>
          simp only []
          refine trimQ_eq k0 _ s' hs' fun s0 h0 => ?_
          refine iterQ_eq k0 _ (b := fun s' k' => evK P orc ann k0 n c (some l) s' fun o s'' => match o with
            | .goto m => bif m == l then k' .norm s'' else none
            | .norm => k' (.goto l) s''
            | .exit id => k' (.exit id) s''
            | .ret => k' .ret s'') (fun s1 kq1 k1 h1 hk1 => ih (some l) s1 _ _ h1 fun o s2 h2 => ?_) n s0 _ _ h0 fun o s2 h2 => ?_
          · cases o with
            | goto m => cases hj : (m == l) with
              | true => simp only [hj, cond_true]; exact hk1 _ _ h2
              | false => simp only [hj, cond_false]
            | norm => exact hk1 _ _ h2
            | exit id => exact hk1 _ _ h2
            | ret => exact hk1 _ _ h2
          · cases o with
            | goto m => exact hk _ _ h2
            | norm => rfl
            | exit id => exact hk _ _ h2
            | ret => exact hk _ _ h2
  | label m =>
    intro lab s kq k hs hk
    cases lab with
    | none => simp only [evK]; exact hk _ _ hs
    | some l =>
      simp only [evK]
      show (bif m == l then kq .norm s else none) = _
      cases hj : (m == l) with
      | true => simp only [cond_true]; exact hk _ _ hs
      | false => simp only [cond_false]
  | goto l => intro lab s kq k hs hk; cases lab with
    | none => simp only [evK]; exact hk _ _ hs
    | some l => simp only [evK]; rfl
  | exit l => intro lab s kq k hs hk; cases lab with
    | none => simp only [evK]; exact hk _ _ hs
    | some l => simp only [evK]; rfl
  | ret => intro lab s kq k hs hk; cases lab with
    | none => simp only [evK]; exact hk _ _ hs
    | some l => simp only [evK]; rfl
  | _ => intro lab s kq k hs hk; cases lab <;> (simp only [evK]; rfl)
noncomputable def resultsQ (P : Program) (fn : Func) (t : Fr) (H : Hp) : Option (List (Bool × List C)) :=
  fn.results.toList.foldr (fun r acc => match acc with
    | none => none
    | some l => match r with
      | .tmp i => (match t.get i with
        | .c x => some ((false, [x]) :: l)
        | .agg cs => some ((true, cs) :: l)
        | _ => none)
      | .cell a ty => (match t.get a, aggT P ty, sizeT P ty with
        | .c (.ptr h off), some ag, some n => (match loadA H h 0 0 off (bif ag then n else 1) ag with
          | some (.c x) => some ((false, [x]) :: l)
          | some (.agg cs) => some ((true, cs) :: l)
          | _ => none)
        | _, _, _ => none)) (some [])
theorem resultsQ_eq (fn : Func) (s : StQ) (hs : s.Ok) : resultsQ P fn s.t s.H = resultsA P fn s.to := by
  obtain ⟨hi, ho⟩ := hs
  have e : ∀ i, s.t.get i = s.to.F.getD i .u := fun i => by
    have := Fr.get_eq ho (Nat.zero_le i)
    rwa [Nat.sub_zero] at this
  unfold resultsQ resultsA
  simp only [e]
  rfl
noncomputable def endQ {R : Type} (P : Program) (fn : Func) (k0 : Nat) (k : AV → Hp → Option (T R)) : Out → StQ → Option (T R) := fun o s => match o with
  | .exit _ => none
  | .goto _ => none
  | _ => match resultsQ P fn s.t s.H with
    | some l => (match ofResults l with
      | some x => let L := newL k0 s.H (namesA x); k (renA (newN k0 L) x) (canonH k0 s.H L)
      | none => none)
    | none => none
theorem endQ_eq {R : Type} (fn : Func) (k0 : Nat) (k : AV → Hp → Option (T R)) : KEq (endQ P fn k0 k) (endK P fn k0 k) := fun o s hs => by
  unfold endQ endK
  rw [resultsQ_eq fn s hs]
  rfl
noncomputable def callQ {R : Type} (P : Program) (orc : Orc) (ann : Ann) (n : Nat) (fn : Func) (c : Code) (args : List AV) (H : Hp) (k : AV → Hp → Option (T R)) : Option (T R) :=
  Fr.putsK args 0 (Fr.base (args.length + (fn.ntmps - args.length)) 0 (args.length + (fn.ntmps - args.length))) fun t => evQ P orc ann H.length n c none ⟨t, H, H.length⟩ (endQ P fn H.length k)
theorem callQ_eq {R : Type} (ann : Ann) (n : Nat) (fn : Func) (c : Code) (args : List AV) (H : Hp) (k : AV → Hp → Option (T R)) : callQ P orc ann n fn c args H k = callK P orc ann n fn c args H k := by
  unfold callQ callK
  have hb := Fr.base_ok (args.length + (fn.ntmps - args.length)) 0 (args.length + (fn.ntmps - args.length)) (Nat.le_refl _)
  rw [Nat.zero_add] at hb
  obtain ⟨t, o, e, h⟩ := Fr.putsK_eq args hb.1 (i := 0) (by omega)
  rw [h, evQ_eq (P := P) (orc := orc) ann H.length n c none ⟨t, H, H.length⟩ _ _ ⟨_, o⟩ (endQ_eq fn H.length k)]
  congr 1
  unfold StQ.to
  rw [e, hb.2]
  simp
end
noncomputable def deepQ (P : Program) (ann : FuncId → Ann) (top : Orc) (fuel : Nat) : Nat → Orc
  | 0 => top
  | n + 1 => fun _ f args H k => match P.funcs[f]? with
    | some fn => (match fn.body with
      | some c => bif seqN 0 H then (match callQ P (deepQ P ann top fuel n) (ann f) fuel fn c args H (fun x H' => some (.leaf (x, H'))) with
        | some t => (match join 40 t with
          | some (x, H') => k x H'
          | none => none)
        | none => none) else none
      | none => top _ f args H k)
    | none => none
theorem deepQ_eq (P : Program) (ann : FuncId → Ann) (top : Orc) (fuel : Nat) : ∀ n, deepQ P ann top fuel n = deepJ P ann top fuel n
  | 0 => rfl
  | n + 1 => by
    funext R f args H k
    simp only [deepQ, deepJ, deepQ_eq P ann top fuel n, callQ_eq, callA]
    try rfl
theorem deepQ_ok (P : Program) (ann : FuncId → Ann) {top : Orc} (ht : OrcOk P top) (fuel n : Nat) : OrcOk P (deepQ P ann top fuel n) := by rw [deepQ_eq]; exact deepJ_ok P ann ht fuel n
theorem cxQ_of {P : Program} {orc : Orc} (ho : OrcOk P orc) {ann : Ann} {n : Nat} {f : FuncId} {fn : Func} {c : Code} {args : List AV} {H : Hp} {x : AV} {H' : Hp} (hf : P.funcs[f]? = some fn) (hb : fn.body = some c) (hH : seqN 0 H = true)
    (h : callQ P orc ann n fn c args H (fun x H' => some (.leaf (x, H'))) = some (.leaf (x, H'))) : CX P f args H x H' := cxA_of ho hf hb hH (by rw [callQ_eq] at h; exact h)
end Go.Eb
namespace Go.Eb
open Go.RowKit
def frzP (H : Hp) : List (Bool × List C) → Option (List (Bool × List D))
  | [] => some []
  | p :: r => match frzL H 400 p.2 with
    | some (ds, _) => match frzP H r with
      | some l => some ((p.1, ds) :: l)
      | none => none
    | none => none
def partD (p : Bool × List D) : Bool × List C := (p.1, p.2.map .d)
def frzA (H : Hp) : AV → Option AV
  | .c x => match frz H 400 x with
    | some (d, _) => some (.c (.d d))
    | none => none
  | .agg cs => match frzL H 400 cs with
    | some (ds, _) => some (.agg (ds.map .d))
    | none => none
  | .tup ps => match frzP H ps with
    | some l => some (.tup (l.map partD))
    | none => none
  | .u => some .u
section
variable {β : Bt} {w : World} {I : Im} {H : Hp}
def allB (β : Bt) (I : Im) : Im := fun b o => I b o ∨ ∃ k, (β k).blk = some b
theorem repDs_cs {I' : Im} {β' : Bt} {ds : List D} {vs : List Value} (h : RepDs w I' ds vs) : RepCs β' w I' (ds.map .d) vs := by
  refine ⟨by simpa using h.1, fun i c v h1 h2 => ?_⟩
  rw [List.getElem?_map] at h1
  cases hd : ds[i]? with
  | none => rw [hd] at h1; cases h1
  | some d => rw [hd] at h1; cases h1; exact h.2 i d v hd h2
theorem frzP_ok (hr : RelH β H I w) {β' : Bt} : ∀ (ps : List (Bool × List C)) (l : List (Bool × List D)), frzP H ps = some l → l.length = ps.length ∧ ∀ (i : Nat) p q v, ps[i]? = some p → l[i]? = some q → RepP β w I p v → RepP β' w (allB β I) (partD q) v
  | [], l, h => by simp [frzP] at h; subst h; exact ⟨rfl, fun i p q v h => by simp at h⟩
  | p :: r, l, h => by
    simp only [frzP] at h
    split at h
    · rename_i ds ks hf
      split at h
      · rename_i l' hl
        simp only [Option.some.injEq] at h
        subst h
        obtain ⟨h1, h2⟩ := frzP_ok hr r l' hl
        refine ⟨by simp [h1], fun i p' q v e1 e2 hp => ?_⟩
        cases i with
        | succ i => exact h2 i p' q v (by simpa using e1) (by simpa using e2) hp
        | zero =>
          simp at e1 e2
          subst e1 e2
          obtain ⟨b, cs⟩ := p
          have key : ∀ vs, RepCs β w I cs vs → RepDs w (allB β I) ds vs := fun vs hv => (frzL_ok hr 400 cs ds ks vs hf hv).2 _ (fun _ _ hi => .inl hi) (fun k _ b hb o => .inr ⟨k, hb⟩)
          cases b with
          | true => obtain ⟨vs, rfl, hv⟩ := hp; exact ⟨vs, rfl, repDs_cs (key _ hv)⟩
          | false =>
            obtain ⟨c, hcs, hv⟩ := hp
            have hcs : cs = [c] := hcs
            subst hcs
            have := key [v] ⟨rfl, fun i c' v' h1 h2 => by
              cases i with
              | zero => simp at h1 h2; subst h1 h2; exact hv
              | succ i => simp at h1⟩
            match ds, this with
            | [d], this => exact ⟨.d d, rfl, this.2 0 d v rfl rfl⟩
      · simp at h
    · simp at h
theorem frzA_ok (hr : RelH β H I w) {β' : Bt} {x y : AV} {v : Value} (h : frzA H x = some y) (hx : RepA β w I x v) : RepA β' w (allB β I) y v := by
  cases x with
  | c x =>
    simp only [frzA] at h
    split at h
    · rename_i d ks hf
      simp only [Option.some.injEq] at h
      subst h
      exact (frz_ok hr 400 x d ks v hf hx).2 _ (fun _ _ hi => .inl hi) (fun k _ b hb o => .inr ⟨k, hb⟩)
    · simp at h
  | agg cs =>
    simp only [frzA] at h
    split at h
    · rename_i ds ks hf
      simp only [Option.some.injEq] at h
      subst h
      obtain ⟨vs, rfl, hv⟩ := hx
      exact ⟨vs, rfl, repDs_cs ((frzL_ok hr 400 cs ds ks _ hf hv).2 _ (fun _ _ hi => .inl hi) (fun k _ b hb o => .inr ⟨k, hb⟩))⟩
    · simp at h
  | tup ps =>
    simp only [frzA] at h
    split at h
    · rename_i l hf
      simp only [Option.some.injEq] at h
      subst h
      obtain ⟨vs, rfl, hl, hv⟩ := hx
      obtain ⟨h1, h2⟩ := frzP_ok (β' := β') hr ps l hf
      refine ⟨vs, rfl, by simpa [h1] using hl, fun i p x e1 e2 => ?_⟩
      rw [List.getElem?_map] at e1
      cases hq : l[i]? with
      | none => rw [hq] at e1; cases e1
      | some q =>
        rw [hq] at e1
        simp only [Option.map_some, Option.some.injEq] at e1
        subst e1
        have hlt : i < ps.length := by rw [← h1]; exact (List.getElem?_eq_some_iff.1 hq).1
        exact h2 i _ q x (List.getElem?_eq_getElem hlt) hq (hv i _ x (List.getElem?_eq_getElem hlt) e2)
    · simp at h
  | u => simp [frzA] at h; subst h; trivial
end
theorem CR.data {P : Program} {f : FuncId} {args : List AV} {x y : AV} {Hr : Hp} (h : CR P f args [] x Hr) (hf : frzA Hr x = some y) : CR P f args [] y [] := by
  intro β I w vs hr ha
  refine (h β I w vs hr ha).mono fun e w' ⟨v, β', I', he, hr', hx, hE, hm⟩ => ?_
  have hfree : ∀ h, β h = .free := fun h => hr.dom h rfl
  refine ⟨v, β, allB β' I', he, ?_, frzA_ok hr' hf hx, ?_, .refl _⟩
  · refine ⟨⟨fun i j b hi => ?_, fun i b hi => ?_, fun i b o hi => ?_, fun b o hi => ?_, hr'.gl.step (fun _ _ hi => .inl hi) (fun _ _ _ => rfl)⟩, fun i _ => hfree i, fun i B hB => by simp [look] at hB⟩
    · rw [hfree i] at hi; cases hi
    · rw [hfree i] at hi; cases hi
    · rw [hfree i] at hi; cases hi
    · rcases hi with hi | ⟨k, hk⟩
      · exact hr'.old b o hi
      · exact hr'.lt k b hk
  · refine ⟨hE.os, hE.tape, hE.output, hE.size, hE.block, fun b o hi => .inl (hE.keepI b o hi), hE.cell, fun b o hi => ?_, fun i b hb => .inl ⟨i, hb⟩, hE.shapes⟩
    rcases hi with hi | ⟨k, hk⟩
    · exact hE.newI b o hi
    · rcases hE.newB k b hk with ⟨j, hj⟩ | hj
      · exact .inr (.inr ⟨j, hj⟩)
      · exact .inr (.inl hj)
def frzAs (H : Hp) : List AV → Option (List AV)
  | [] => some []
  | x :: r => match frzA H x with
    | some y => match frzAs H r with
      | some l => some (y :: l)
      | none => none
    | none => none
theorem frzAs_ok {β β' : Bt} {w : World} {I : Im} {H : Hp} (hr : RelH β H I w) : ∀ (xs ys : List AV), frzAs H xs = some ys → ys.length = xs.length ∧ ∀ (i : Nat) x y v, xs[i]? = some x → ys[i]? = some y → RepA β w I x v → RepA β' w (allB β I) y v
  | [], ys, h => by simp [frzAs] at h; subst h; exact ⟨rfl, fun i x y v h => by simp at h⟩
  | x :: r, ys, h => by
    simp only [frzAs] at h
    split at h
    · rename_i y hy
      split at h
      · rename_i l hl
        simp only [Option.some.injEq] at h
        subst h
        obtain ⟨h1, h2⟩ := frzAs_ok (β' := β') hr r l hl
        refine ⟨by simp [h1], fun i x' y' v e1 e2 hx => ?_⟩
        cases i with
        | zero => simp at e1 e2; subst e1 e2; exact frzA_ok hr hy hx
        | succ i => exact h2 i x' y' v (by simpa using e1) (by simpa using e2) hx
      · simp at h
    · simp at h
section
variable {α : Type} [Inhabited α]
noncomputable def okE (enc : α → D) (x : D) : Bool := @decide (∃ a, DE x (enc a)) (Classical.propDecidable _)
noncomputable def theE (enc : α → D) (x : D) : α := @dite _ (∃ a, DE x (enc a)) (Classical.propDecidable _) (fun h => Classical.choose h) (fun _ => default)
omit [Inhabited α] in
theorem okE_iff {enc : α → D} {x : D} : okE enc x = true ↔ ∃ a, DE x (enc a) := by unfold okE; simp
theorem theE_de {enc : α → D} {x : D} (h : okE enc x = true) : DE x (enc (theE enc x)) := by
  have h' := okE_iff.1 h
  unfold theE
  rw [dif_pos h']
  exact Classical.choose_spec h'
theorem theE_of {enc : α → D} (inj : ∀ a b, DE (enc a) (enc b) → a = b) {x : D} {a : α} (h1 : DE x (enc a)) (h2 : DE (enc a) x) : okE enc x = true ∧ theE enc x = a := by
  have h := okE_iff.2 ⟨a, h1⟩
  exact ⟨h, (inj _ _ (h2.trans (theE_de h))).symm⟩
end
def Aac {β : Type} (sz : Nat) (c : β → List D) (d0 : β) (l : List β) : D := .sl sz l.length fun i => c (l.getD i d0)
theorem list_ext0 {β : Type} {d : β} : ∀ {l l' : List β}, l.length = l'.length → (∀ i, i < l.length → l.getD i d = l'.getD i d) → l = l'
  | [], [], _, _ => rfl
  | x :: r, y :: r', hl, h => by
    have h0 := h 0 (by simp)
    simp at h0
    rw [h0, list_ext0 (l := r) (l' := r') (by simpa using hl) (fun i hi => by have := h (i + 1) (by simpa using hi); simpa using this)]
  | [], _ :: _, hl, _ => by simp at hl
  | _ :: _, [], hl, _ => by simp at hl
theorem listD_inj {β : Type} {sz : Nat} {c : β → List D} {d0 : β} (hc : ∀ a b, DEs (c a) (c b) → a = b) (l l' : List β) (h : DE (Aac sz c d0 l) (Aac sz c d0 l')) : l = l' := by
  unfold Aac at h
  generalize he : l'.length = n' at h
  generalize hg : (fun i => c (l'.getD i d0)) = g at h
  generalize hn : l.length = n at h
  generalize hf : (fun i => c (l.getD i d0)) = f at h
  cases h with
  | sl _ _ _ _ h1 h2 =>
    refine list_ext0 (d := d0) (by omega) fun i hi => ?_
    refine hc _ _ ⟨?_, fun j d e hd he' => ?_⟩
    · have := h1 i (by omega); rw [← hf, ← hg] at this; exact this
    · exact h2 i j d e (by omega) (by rw [← hf]; exact hd) (by rw [← hg]; exact he')
theorem dv_inj {a b : Value} (h : DE (.v a) (.v b)) : a = b := by cases h; rfl
end Go.Eb
namespace Go.Eb
open Go.RowKit
structure Wd where
  text : ByteArray
  q : Bool
inductive It where
  | mk (line : Int) (words : List Wd) (block : Bool) (kids : List It)
namespace It
def line : It → Int | mk l _ _ _ => l
def words : It → List Wd | mk _ w _ _ => w
def block : It → Bool | mk _ _ b _ => b
def kids : It → List It | mk _ _ _ k => k
end It
def w0 : Wd := ⟨ByteArray.mk #[], false⟩
def i0 : It := .mk 0 [] false []
def wcells (w : Wd) : List D := [.v (.string w.text), .v (.bool w.q)]
def wordsD (l : List Wd) : D := .sl 2 l.length fun i => wcells (l.getD i w0)
def kidF : List It → Nat → List D
  | [], _ => []
  | .mk l w b k :: _, 0 => [.v (.int .i64 l), wordsD w, .v (.bool b), .sl 4 k.length (kidF k)]
  | _ :: r, i + 1 => kidF r i
def kidsD (x : It) : D := .sl 4 x.kids.length (kidF x.kids)
def Aag (x : It) : List D := [.v (.int .i64 x.line), wordsD x.words, .v (.bool x.block), kidsD x]
def itemsD (l : List It) : D := .sl 4 l.length fun i => Aag (l.getD i i0)
theorem kidF_eq : ∀ (l : List It) (i : Nat), i < l.length → kidF l i = Aag (l.getD i i0)
  | [], i, h => by simp at h
  | .mk a b c k :: r, 0, _ => by simp only [kidF, List.getD_cons_zero, Aag, kidsD, It.line, It.words, It.block, It.kids]
  | x :: r, i + 1, h => by simp only [kidF, List.getD_cons_succ]; exact kidF_eq r i (by simpa using h)
theorem kidsD_de (x : It) : DE (kidsD x) (itemsD x.kids) := by
  exact .sl_eq fun i hi => kidF_eq x.kids i hi
theorem itemsD_de (x : It) : DE (itemsD x.kids) (kidsD x) := by
  exact .sl_eq fun i hi => (kidF_eq x.kids i hi).symm
theorem de_v {a b : Value} (h : DE (.v a) (.v b)) : a = b := by cases h; rfl
theorem de_sl {sz n sz' m : Nat} {f g : Nat → List D} (h : DE (.sl sz n f) (.sl sz' m g)) : sz = sz' ∧ n = m ∧ ∀ i, i < n → DEs (f i) (g i) := by
  cases h with
  | sl _ _ _ _ h1 h2 => exact ⟨rfl, rfl, fun i hi => ⟨h1 i hi, fun j d e hd he => h2 i j d e hi hd he⟩⟩
theorem wcells_inj {a b : Wd} (h : DEs (wcells a) (wcells b)) : a = b := by
  have h1 := de_v (h.2 0 _ _ rfl rfl)
  have h2 := de_v (h.2 1 _ _ rfl rfl)
  cases a; cases b
  simp at h1 h2
  rw [h1, h2]
theorem list_ext {α : Type} {d : α} : ∀ {l l' : List α}, l.length = l'.length → (∀ i, i < l.length → l.getD i d = l'.getD i d) → l = l'
  | [], [], _, _ => rfl
  | x :: r, y :: r', hl, h => by
    have h0 := h 0 (by simp)
    simp at h0
    rw [h0, list_ext (l := r) (l' := r') (by simpa using hl) (fun i hi => by have := h (i + 1) (by simpa using hi); simpa using this)]
  | [], _ :: _, hl, _ => by simp at hl
  | _ :: _, [], hl, _ => by simp at hl
theorem wordsD_inj {l l' : List Wd} (h : DE (wordsD l) (wordsD l')) : l = l' := by
  obtain ⟨_, hl, hf⟩ := de_sl h
  exact list_ext hl fun i hi => wcells_inj (hf i hi)
theorem kidF_inj : ∀ (l l' : List It), l.length = l'.length → (∀ i, i < l.length → DEs (kidF l i) (kidF l' i)) → l = l'
  | [], [], _, _ => rfl
  | .mk a b c k :: r, .mk a' b' c' k' :: r', hl, h => by
    have h0 := h 0 (by simp)
    simp only [kidF] at h0
    have e1 := de_v (h0.2 0 _ _ rfl rfl)
    have e2 := wordsD_inj (h0.2 1 _ _ rfl rfl)
    have e3 := de_v (h0.2 2 _ _ rfl rfl)
    obtain ⟨_, hl4, hf4⟩ := de_sl (h0.2 3 _ _ rfl rfl)
    have e4 := kidF_inj k k' hl4 hf4
    have er := kidF_inj r r' (by simpa using hl) (fun i hi => by have := h (i + 1) (by simpa using hi); simpa [kidF] using this)
    simp at e1 e3
    rw [e1, e2, e3, e4, er]
  | [], _ :: _, hl, _ => by simp at hl
  | _ :: _, [], hl, _ => by simp at hl
theorem kidsD_inj (x y : It) (h : DE (kidsD x) (kidsD y)) : x.kids = y.kids := by
  obtain ⟨_, hl, hf⟩ := de_sl h
  exact kidF_inj x.kids y.kids hl hf
theorem itemsD_inj {l l' : List It} (h : DE (itemsD l) (itemsD l')) : l = l' := by
  have h1 : DE (kidsD (.mk 0 [] false l)) (kidsD (.mk 0 [] false l')) := (kidsD_de (.mk 0 [] false l)).trans (h.trans (itemsD_de (.mk 0 [] false l')))
  exact kidsD_inj _ _ h1
noncomputable def okI (x : D) : Bool := @decide (∃ l, DE x (itemsD l)) (Classical.propDecidable _)
noncomputable def theI (x : D) : List It := @dite _ (∃ l, DE x (itemsD l)) (Classical.propDecidable _) (fun h => Classical.choose h) (fun _ => [])
theorem okI_iff {x : D} : okI x = true ↔ ∃ l, DE x (itemsD l) := by unfold okI; simp
theorem theI_de {x : D} (h : okI x = true) : DE x (itemsD (theI x)) := by
  have h' := okI_iff.1 h
  unfold theI
  rw [dif_pos h']
  exact Classical.choose_spec h'
theorem theI_of {x : D} {l : List It} (h1 : DE x (itemsD l)) (h2 : DE (itemsD l) x) : okI x = true ∧ theI x = l := by
  have h := okI_iff.2 ⟨l, h1⟩
  exact ⟨h, (itemsD_inj (h2.trans (theI_de h))).symm⟩
theorem okI_kids (x : It) : okI (kidsD x) = true := (theI_of (kidsD_de x) (itemsD_de x)).1
theorem theI_kids (x : It) : theI (kidsD x) = x.kids := (theI_of (kidsD_de x) (itemsD_de x)).2
def dep : List It → Nat
  | [] => 0
  | .mk _ _ _ k :: r => max (dep k + 1) (dep r)
theorem dep_get : ∀ (l : List It) (i : Nat), i < l.length → dep (l.getD i i0).kids < dep l
  | [], i, h => by simp at h
  | .mk a b c k :: r, 0, _ => by simp [dep, It.kids]; omega
  | .mk a b c k :: r, i + 1, h => by
    have := dep_get r i (by simpa using h)
    simp only [List.getD_cons_succ, dep]
    omega
def ans2 (c : D → D → Bool) (g : D → D → AV) : (R : Type) → List AV → Hp → (AV → Hp → Option (T R)) → Option (T R) := fun _ args H k => match H, args with
  | [], [.c (.d x), .c (.d y)] => bif c x y then k (g x y) [] else none
  | _, _ => none
theorem ans2_ok {P : Program} {f0 : FuncId} {c : D → D → Bool} {g : D → D → AV} (hc : ∀ x y, c x y = true → CX P f0 [.c (.d x), .c (.d y)] [] (g x y) []) :
    ∀ (R : Type) args H (k : AV → Hp → Option (T R)) t, ans2 c g R args H k = some t → ∃ x H', k x H' = some t ∧ CX P f0 args H x H' := fun R args H k t h => by
  unfold ans2 at h
  split at h
  · rename_i x y
    cases hx : c x y with
    | true => rw [hx] at h; exact ⟨_, _, h, hc x y hx⟩
    | false => rw [hx] at h; cases h
  · simp at h
theorem ale_d {x y : D} (h : DE x y) : Ale (.c (.d x)) (.c (.d y)) := h
theorem asle2 {x y x' y' : D} (h : DE x y) (h' : DE x' y') : Asle [.c (.d x), .c (.d x')] [.c (.d y), .c (.d y')] := .cons (ale_d h) (.cons (ale_d h') .nil)
abbrev aI (l : List It) : AV := .c (.d (itemsD l))
end Go.Eb
namespace Go.Eb
open Go.RowKit
theorem wrap_id {n : Int} (h0 : -9223372036854775808 ≤ n) (h1 : n ≤ 9223372036854775807) : IntKind.wrap IntKind.i64 n = n := by
  have e : IntKind.wrap IntKind.i64 n = (n + 9223372036854775808) % 18446744073709551616 - 9223372036854775808 := by
    unfold IntKind.wrap; simp [IntKind.signed, IntKind.bits]; omega
  rw [e]; omega
theorem lt1 {k n : Nat} (h : k < n) : decide ((k : Int) < (n : Int)) = true := by simp; omega
theorem lt0 {k n : Nat} (h : ¬ k < n) : decide ((k : Int) < (n : Int)) = false := by simp; omega
theorem ge0 (k : Nat) : decide ((0 : Int) ≤ (k : Int)) = true := by simp
theorem tn (k : Nat) : Int.toNat (k : Int) = k := by simp
theorem nx {k n : Nat} (h : k < n) (hn : n ≤ 9223372036854775807) : IntKind.wrap IntKind.i64 ((k : Int) + 1) = ((k + 1 : Nat) : Int) := by rw [wrap_id (by omega) (by omega)]; omega
theorem drop_at' {α : Type} {T : List α} {d : α} {a : Nat} (h : a < T.length) : T.drop a = T.getD a d :: T.drop (a + 1) := by
  rw [List.drop_eq_getElem_cons h]; simp [List.getD, h]
end Go.Eb
namespace Go.Eb
open Go.RowKit
section
variable {β : Type} {c : β → List D} {d0 : β}
structure RL (c : β → List D) (d0 : β) (n : Nat) (f : Nat → List D) (l : List β) : Prop where
  len : n = l.length
  le : ∀ i, i < n → DEs (f i) (c (l.getD i d0))
  ge : ∀ i, i < n → DEs (c (l.getD i d0)) (f i)
theorem RL.de {n sz : Nat} {f : Nat → List D} {l : List β} (h : RL c d0 n f l) : DE (.sl sz n f) (Aac sz c d0 l) := by
  obtain ⟨rfl, h1, _⟩ := h
  exact .sls h1
theorem RL.ed {n sz : Nat} {f : Nat → List D} {l : List β} (h : RL c d0 n f l) : DE (Aac sz c d0 l) (.sl sz n f) := by
  obtain ⟨rfl, _, h2⟩ := h
  exact .sls h2
theorem RL.nil (f : Nat → List D) : RL c d0 0 f [] := ⟨rfl, fun i h => by omega, fun i h => by omega⟩
theorem RL.data (l : List β) : RL c d0 l.length (fun i => c (l.getD i d0)) l := ⟨rfl, fun i _ => .refl _, fun i _ => .refl _⟩
theorem RL.eq {n : Nat} {f : Nat → List D} {l : List β} (hn : n = l.length) (h : ∀ i, i < n → f i = c (l.getD i d0)) : RL c d0 n f l := ⟨hn, fun i hi => by rw [h i hi]; exact .refl _, fun i hi => by rw [h i hi]; exact .refl _⟩
theorem getD_app_lt {l l' : List β} {i : Nat} (h : i < l.length) : (l ++ l').getD i d0 = l.getD i d0 := by
  rw [List.getD_eq_getElem?_getD, List.getElem?_append_left h, ← List.getD_eq_getElem?_getD]
theorem getD_app_ge {l l' : List β} {i : Nat} (h : l.length ≤ i) : (l ++ l').getD i d0 = l'.getD (i - l.length) d0 := by
  rw [List.getD_eq_getElem?_getD, List.getElem?_append_right h, ← List.getD_eq_getElem?_getD]
theorem RL.cat {n m : Nat} {f g : Nat → List D} {l l' : List β} (h : RL c d0 n f l) (k : RL c d0 m g l') : RL c d0 (n + m) (appF n f g) (l ++ l') := by
  have hf : ∀ i, i < n + m → (i < n ∧ appF n f g i = f i ∧ (l ++ l').getD i d0 = l.getD i d0) ∨ (n ≤ i ∧ appF n f g i = g (i - n) ∧ (l ++ l').getD i d0 = l'.getD (i - n) d0) := fun i hi => by
    unfold appF
    rw [bltD]
    by_cases e : i < n
    · left; rw [decide_eq_true e]; exact ⟨e, rfl, getD_app_lt (by rw [← h.len]; exact e)⟩
    · right; rw [decide_eq_false e]; exact ⟨by omega, rfl, by rw [getD_app_ge (by rw [← h.len]; omega), ← h.len]⟩
  refine ⟨by rw [h.len, k.len, List.length_append], fun i hi => ?_, fun i hi => ?_⟩
  · rcases hf i hi with ⟨h1, h2, h3⟩ | ⟨h1, h2, h3⟩
    · rw [h2, h3]; exact h.le i h1
    · rw [h2, h3]; exact k.le (i - n) (by omega)
  · rcases hf i hi with ⟨h1, h2, h3⟩ | ⟨h1, h2, h3⟩
    · rw [h2, h3]; exact h.ge i h1
    · rw [h2, h3]; exact k.ge (i - n) (by omega)
theorem RL.one {sz : Nat} {ds : List D} {x : β} (hs : ds.length = sz) (h1 : DEs ds (c x)) (h2 : DEs (c x) ds) : RL c d0 1 (Aaf ds sz) [x] := by
  have e : ∀ i, i < 1 → Aaf ds sz i = ds ∧ [x].getD i d0 = x := fun i hi => by
    obtain rfl : i = 0 := by omega
    refine ⟨?_, rfl⟩
    unfold Aaf
    simp [← hs]
  exact ⟨rfl, fun i hi => by rw [(e i hi).1, (e i hi).2]; exact h1, fun i hi => by rw [(e i hi).1, (e i hi).2]; exact h2⟩
theorem RL.app {n sz : Nat} {f : Nat → List D} {l : List β} {ds : List D} {x : β} (h : RL c d0 n f l) (hs : ds.length = sz) (h1 : DEs ds (c x)) (h2 : DEs (c x) ds) : RL c d0 (n + 1) (appF n f (Aaf ds sz)) (l ++ [x]) := h.cat (.one hs h1 h2)
theorem RL.app' {n sz : Nat} {f : Nat → List D} {l : List β} {x : β} (h : RL c d0 n f l) (hs : (c x).length = sz) : RL c d0 (n + 1) (appF n f (Aaf (c x) sz)) (l ++ [x]) := h.app hs (.refl _) (.refl _)
theorem RL.ble {n sz : Nat} {t : TypeId} {f : Nat → List D} {l : List β} (h : RL c d0 n f l) : Ble (.row n f sz t) (.row l.length (fun i => c (l.getD i d0)) sz t) := ⟨h.len, rfl, rfl, h.le⟩
end
section
variable {β : Type} {c : β → List D} {d0 : β} {sz : Nat}
theorem RL.the (hc : ∀ a b, DEs (c a) (c b) → a = b) {n : Nat} {f : Nat → List D} {l : List β} (h : RL c d0 n f l) : okE (Aac sz c d0) (.sl sz n f) = true ∧ theE (Aac sz c d0) (.sl sz n f) = l :=
  theE_of (listD_inj hc) h.de h.ed
theorem the_list (hc : ∀ a b, DEs (c a) (c b) → a = b) (l : List β) : okE (Aac sz c d0) (Aac sz c d0 l) = true ∧ theE (Aac sz c d0) (Aac sz c d0 l) = l := theE_of (listD_inj hc) (.refl _) (.refl _)
theorem RL.of_ok {n : Nat} {f : Nat → List D} (h : okE (Aac sz c d0) (.sl sz n f) = true) : n = (theE (Aac sz c d0) (.sl sz n f)).length ∧ ∀ i, i < n → DEs (f i) (c ((theE (Aac sz c d0) (.sl sz n f)).getD i d0)) := by
  have := theE_de h
  generalize theE (Aac sz c d0) (.sl sz n f) = l at this
  unfold Aac at this
  generalize hy : D.sl sz l.length (fun i => c (l.getD i d0)) = y at this
  cases this with
  | sl _ _ _ g h1 h2 =>
    injection hy with _ e1 e2
    subst e2
    exact ⟨e1.symm, fun i hi => ⟨h1 i hi, fun j d e hd he => h2 i j d e hi hd he⟩⟩
theorem ble_of_ok {n : Nat} {t : TypeId} {f : Nat → List D} (h : okE (Aac sz c d0) (.sl sz n f) = true) : Ble (.row n f sz t) (.row (theE (Aac sz c d0) (.sl sz n f)).length (fun i => c ((theE (Aac sz c d0) (.sl sz n f)).getD i d0)) sz t) :=
  ⟨(RL.of_ok h).1, rfl, rfl, (RL.of_ok h).2⟩
end
def ansB {A : Type} (d : Dec (List AV × Hp) A) (c b : A → Bool) (r : A → AV) (H' : A → Hp) (r2 : A → AV) (H2 : A → Hp) : (R : Type) → List AV → Hp → (AV → Hp → Option (T R)) → Option (T R) := fun _ args H k =>
  match d.dec (args, H) with
  | some a => bif c a then (bif b a then k (r a) (H' a) else k (r2 a) (H2 a)) else none
  | none => none
theorem AnsS.b {P : Program} {f : FuncId} {A : Type} {d : Dec (List AV × Hp) A} {c b : A → Bool} {r : A → AV} {H' : A → Hp} {r2 : A → AV} {H2 : A → Hp} (hc : ∀ a, c a = true → b a = true → CX P f (d.enc a).1 (d.enc a).2 (r a) (H' a))
    (hc2 : ∀ a, c a = true → b a = false → CX P f (d.enc a).1 (d.enc a).2 (r2 a) (H2 a)) : AnsS P f (ansB d c b r H' r2 H2) := by
  refine ⟨fun R args H k t h => ?_, fun args H => ?_⟩
  · unfold ansB at h
    cases hd : d.dec (args, H) with
    | none => rw [hd] at h; cases h
    | some a =>
      rw [hd] at h
      simp only [] at h
      cases hca : c a with
      | false => rw [hca] at h; cases h
      | true =>
        rw [hca] at h
        simp only [cond_true] at h
        have e := d.ok _ _ hd
        cases hb : b a with
        | true =>
          rw [hb] at h
          have := hc a hca hb
          rw [← e] at this
          exact ⟨_, _, h, this⟩
        | false =>
          rw [hb] at h
          have := hc2 a hca hb
          rw [← e] at this
          exact ⟨_, _, h, this⟩
  · unfold ansB
    cases d.dec (args, H) with
    | none => exact .no fun R k => rfl
    | some a => exact .bif _ (.bif _ (.one _ _ fun R k => rfl) (.one _ _ fun R k => rfl)) (.no fun R k => rfl)
namespace Dec
def mp (h : Nat) : Dec C Unit := ⟨fun x => match x with | .mp k => bif Nat.beq k h then some () else none | _ => none, fun _ => .mp h, fun x a e => by
  split at e
  · rename_i k
    cases hb : Nat.beq k h with
    | true => rw [Nat.eq_of_beq_eq_true hb]
    | false => rw [hb] at e; cases e
  · cases e⟩
def mapB (kd : Nat) : Dec Blk (List (Value × Value)) := ⟨fun x => match x with | .map k l => bif Nat.beq k kd then some l else none | _ => none, fun l => .map kd l, fun x a e => by
  split at e
  · rename_i k l
    cases hb : Nat.beq k kd with
    | true => rw [hb] at e; simp only [cond_true, Option.some.injEq] at e; rw [Nat.eq_of_beq_eq_true hb, e]
    | false => rw [hb] at e; cases e
  · cases e⟩
def meth (f : FuncId) : Dec C Unit := ⟨fun x => match x with | .fn g [.ptr 0 0] [] => bif Nat.beq g f then some () else none | _ => none, fun _ => .fn f [.ptr 0 0] [], fun x a e => by
  split at e
  · rename_i g
    cases hb : Nat.beq g f with
    | true => rw [Nat.eq_of_beq_eq_true hb]
    | false => rw [hb] at e; cases e
  · cases e⟩
end Dec
abbrev lB (b : Bool) : Option (T (AV × Hp)) := some (.leaf (vB b, []))
theorem bAnd (a b : Bool) : (bif a then lB b else lB false) = lB (a && b) := by cases a <;> rfl
theorem fNot {α : Type} (b : Bool) (X Y : α) : (bif !b then X else Y) = bif b then Y else X := by cases b <;> rfl
theorem fAnd {α : Type} (a b : Bool) (X Y : α) : (bif a then (bif b then Y else X) else X) = bif (a && b) then Y else X := by cases a <;> rfl
theorem fOr {α : Type} (a b : Bool) (X Y : α) : (bif a then X else (bif b then X else Y)) = bif (a || b) then X else Y := by cases a <;> rfl
theorem neN (a b : Int) : (a != b) = !(a == b) := rfl
end Go.Eb
namespace Go.Eb
open Go.RowKit
theorem bLeaf (c a b : Bool) : (bif c then some (T.leaf (vB a, ([] : Hp))) else some (T.leaf (vB b, []))) = some (T.leaf (vB (bif c then a else b), [])) := by cases c <;> rfl
theorem iLeaf (c : Bool) (a b : Int) : (bif c then some (T.leaf (vI a, ([] : Hp))) else some (T.leaf (vI b, []))) = some (T.leaf (vI (bif c then a else b), [])) := by cases c <;> rfl
theorem tt : (true && true) = true := rfl
def ansG (ok : List AV → Bool) (r : List AV → AV) : (R : Type) → List AV → Hp → (AV → Hp → Option (T R)) → Option (T R) := fun _ args H k => match H with
  | [] => bif ok args then k (r args) [] else none
  | _ :: _ => none
section
variable {α : Type} [Inhabited α]
noncomputable def okX (enc : α → List AV) (x : List AV) : Bool := @decide (∃ a, Asle x (enc a)) (Classical.propDecidable _)
noncomputable def theT (enc : α → List AV) (x : List AV) : α := @dite _ (∃ a, Asle x (enc a)) (Classical.propDecidable _) (fun h => Classical.choose h) (fun _ => default)
omit [Inhabited α] in
theorem okX_iff {enc : α → List AV} {x : List AV} : okX enc x = true ↔ ∃ a, Asle x (enc a) := by unfold okX; simp
theorem theT_le {enc : α → List AV} {x : List AV} (h : okX enc x = true) : Asle x (enc (theT enc x)) := by
  have h' := okX_iff.1 h
  unfold theT
  rw [dif_pos h']
  exact Classical.choose_spec h'
def InjT (enc : α → List AV) : Prop := ∀ a b, Asle (enc a) (enc b) → a = b
omit [Inhabited α] in
theorem okX_enc {enc : α → List AV} (a : α) : okX enc (enc a) = true := okX_iff.2 ⟨a, .refl _⟩
theorem theT_enc {enc : α → List AV} (inj : InjT enc) (a : α) : theT enc (enc a) = a := (inj _ _ (theT_le (okX_enc a))).symm
noncomputable def okG (enc : α → List AV) (c : α → Bool) (x : List AV) : Bool := okX enc x && c (theT enc x)
theorem okG_enc {enc : α → List AV} (inj : InjT enc) {c : α → Bool} (a : α) (h : c a = true) : okG enc c (enc a) = true := by
  unfold okG; rw [okX_enc, theT_enc inj, h]; rfl
theorem AnsS.g {P : Program} {f : FuncId} {ok : List AV → Bool} {r : List AV → AV} (hc : ∀ x, ok x = true → CX P f x [] (r x) []) : AnsS P f (ansG ok r) := by
  refine ⟨fun R args H k t h => ?_, fun args H => ?_⟩
  · unfold ansG at h
    cases H with
    | cons b H => cases h
    | nil =>
      simp only [] at h
      cases hb : ok args with
      | false => rw [hb] at h; cases h
      | true => rw [hb] at h; exact ⟨_, _, h, hc args hb⟩
  · unfold ansG
    cases H with
    | cons b H => exact .no fun R k => rfl
    | nil => exact .bif _ (.one _ _ fun R k => rfl) (.no fun R k => rfl)
theorem AnsS.t' {P : Program} {f : FuncId} {enc : α → List AV} {c : α → Bool} {r : α → AV} (hc : ∀ a, c a = true → CX P f (enc a) [] (r a) []) : AnsS P f (ansG (okG enc c) fun x => r (theT enc x)) := .g fun x h => by
  unfold okG at h
  simp only [Bool.and_eq_true] at h
  exact (hc _ h.2).ge (theT_le h.1) (.refl _)
end
def InjA {α : Type} (e : α → AV) : Prop := ∀ a b, Ale (e a) (e b) → a = b
theorem asle_cons {x y : AV} {a b : List AV} (h : Asle (x :: a) (y :: b)) : Ale x y ∧ Asle a b := by
  refine ⟨h.2 0 x y rfl rfl, by simpa using h.1, fun i p q h1 h2 => h.2 (i + 1) p q (by simpa using h1) (by simpa using h2)⟩
section
variable {α β γ δ : Type} {e : α → AV} {f : β → AV} {g : γ → AV} {k : δ → AV}
def en1 (e : α → AV) : α → List AV := fun a => [e a]
def en2 (e : α → AV) (f : β → AV) : α × β → List AV := fun a => [e a.1, f a.2]
def en3 (e : α → AV) (f : β → AV) (g : γ → AV) : α × β × γ → List AV := fun a => [e a.1, f a.2.1, g a.2.2]
theorem en1_inj (h : InjA e) : InjT (en1 e) := fun a b x => h _ _ (asle_cons x).1
theorem en2_inj (h : InjA e) (h2 : InjA f) : InjT (en2 e f) := fun a b x => by
  obtain ⟨x1, x⟩ := asle_cons x
  obtain ⟨x2, x⟩ := asle_cons x
  exact Prod.ext (h _ _ x1) (h2 _ _ x2)
theorem en3_inj (h : InjA e) (h2 : InjA f) (h3 : InjA g) : InjT (en3 e f g) := fun a b x => by
  obtain ⟨x1, x⟩ := asle_cons x
  obtain ⟨x2, x⟩ := asle_cons x
  obtain ⟨x3, x⟩ := asle_cons x
  exact Prod.ext (h _ _ x1) (Prod.ext (h2 _ _ x2) (h3 _ _ x3))
end
def en5 {α β γ δ ε : Type} (e : α → AV) (f : β → AV) (g : γ → AV) (k : δ → AV) (l : ε → AV) : α × β × γ × δ × ε → List AV := fun a => [e a.1, f a.2.1, g a.2.2.1, k a.2.2.2.1, l a.2.2.2.2]
theorem en5_inj {α β γ δ ε : Type} {e : α → AV} {f : β → AV} {g : γ → AV} {k : δ → AV} {l : ε → AV} (h : InjA e) (h2 : InjA f) (h3 : InjA g) (h4 : InjA k) (h5 : InjA l) : InjT (en5 e f g k l) := fun a b x => by
  obtain ⟨x1, x⟩ := asle_cons x
  obtain ⟨x2, x⟩ := asle_cons x
  obtain ⟨x3, x⟩ := asle_cons x
  obtain ⟨x4, x⟩ := asle_cons x
  obtain ⟨x5, x⟩ := asle_cons x
  exact Prod.ext (h _ _ x1) (Prod.ext (h2 _ _ x2) (Prod.ext (h3 _ _ x3) (Prod.ext (h4 _ _ x4) (h5 _ _ x5))))
def aD {α : Type} (e : α → D) : α → AV := fun a => .c (.d (e a))
def aG {α : Type} (e : α → List D) : α → AV := fun a => .agg ((e a).map .d)
theorem ale_c {x y : D} (h : Ale (.c (.d x)) (.c (.d y))) : DE x y := h
theorem ale_agg {x y : List D} (h : Ale (.agg (x.map .d)) (.agg (y.map .d))) : DEs x y := by
  have h : Csle (x.map .d) (y.map .d) := h
  refine ⟨by simpa using h.1, fun j d e hd he => ?_⟩
  exact h.2 j (.d d) (.d e) (by rw [List.getElem?_map, hd]; rfl) (by rw [List.getElem?_map, he]; rfl)
theorem aD_inj {α : Type} {e : α → D} (h : ∀ a b, DE (e a) (e b) → a = b) : InjA (aD e) := fun a b x => h a b (ale_c x)
theorem aG_inj {α : Type} {e : α → List D} (h : ∀ a b, DEs (e a) (e b) → a = b) : InjA (aG e) := fun a b x => h a b (ale_agg x)
theorem vI_inj : InjA vI := fun a b x => by have := dv_inj (ale_c x); simpa using this
def vN (n : Nat) : AV := vI n
theorem vN_inj : InjA vN := fun a b x => by have := vI_inj _ _ x; omega
theorem vS_inj : InjA vS := fun a b x => by have := dv_inj (ale_c x); simpa using this
instance : Inhabited ByteArray := ⟨⟨#[]⟩⟩
theorem list_of {α : Type} (d : α) (R : Nat → α → Prop) : ∀ (n : Nat), (∀ i, i < n → ∃ x, R i x) → ∃ l : List α, l.length = n ∧ ∀ i, i < n → R i (l.getD i d)
  | 0, _ => ⟨[], rfl, fun i h => by omega⟩
  | n + 1, h => by
    obtain ⟨l, hl, hr⟩ := list_of d R n (fun i hi => h i (by omega))
    obtain ⟨x, hx⟩ := h n (by omega)
    refine ⟨l ++ [x], by simp [hl], fun i hi => ?_⟩
    by_cases e : i < n
    · have := hr i e
      rwa [List.getD_eq_getElem?_getD, List.getElem?_append_left (by omega), ← List.getD_eq_getElem?_getD]
    · have : i = n := by omega
      subst this
      rw [List.getD_eq_getElem?_getD, List.getElem?_append_right (by omega), hl]
      simpa using hx
def lenOk {α : Type} (l : List α) : Bool := decide (l.length ≤ 9223372036854775807)
theorem lenOk_le {α : Type} {l : List α} (h : lenOk l = true) : l.length ≤ 9223372036854775807 := by unfold lenOk at h; simpa using h
theorem maxLen_le : maxLen ≤ 9223372036854775807 := by unfold maxLen; omega
theorem shp_list {P : Program} {t e : TypeId} {ds : List D} {β : Type} {c : β → List D} {d0 : β} {sz : Nat} {ok : β → Bool} (hu : P.underlying t = some (.slice e)) (hc : P.cellsOf e = sz)
    (ho : ∀ ds, Shp P e ds → ∃ x, DEs ds (c x) ∧ ok x = true) (h : Shp P t ds) : ∃ (d : D) (l : List β), ds = [d] ∧ DE d (Aac sz c d0 l) ∧ lenOk l = true ∧ l.all ok = true := by
  obtain ⟨n, f, rfl, hn, hf⟩ := h.sl_inv hu
  obtain ⟨l, hl, hr⟩ := list_of d0 (fun i x => DEs (f i) (c x) ∧ ok x = true) n (fun i hi => ho _ (hf i hi))
  subst hl
  have hM := maxLen_le
  refine ⟨_, l, rfl, ?_, ?_, ?_⟩
  · rw [hc]; exact .sls fun i hi => (hr i hi).1
  · unfold lenOk; rw [decide_eq_true (by omega)]
  · rw [List.all_eq_true]
    intro x hx
    obtain ⟨i, hi, he⟩ := List.getElem_of_mem hx
    have := (hr i hi).2
    rwa [List.getD_eq_getElem?_getD, List.getElem?_eq_getElem hi, he] at this
theorem DEs.app {a b a' b' : List D} (h : DEs a a') (k : DEs b b') : DEs (a ++ b) (a' ++ b') := by
  refine ⟨by simp [h.1, k.1], fun j d e hd he => ?_⟩
  by_cases hj : j < a.length
  · rw [List.getElem?_append_left hj] at hd
    rw [List.getElem?_append_left (by rw [← h.1]; exact hj)] at he
    exact h.2 j d e hd he
  · rw [List.getElem?_append_right (by omega)] at hd
    rw [List.getElem?_append_right (by rw [← h.1]; omega), ← h.1] at he
    exact k.2 _ d e hd he
theorem ale_of_des {a b : List D} (h : DEs a b) : Ale (.agg (a.map .d)) (.agg (b.map .d)) := by
  show Csle _ _
  refine ⟨by simpa using h.1, fun j d e hd he => ?_⟩
  rw [List.getElem?_map] at hd he
  cases h1 : a[j]? with
  | none => rw [h1] at hd; cases hd
  | some x =>
    cases h2 : b[j]? with
    | none => rw [h2] at he; cases he
    | some y => rw [h1] at hd; rw [h2] at he; cases hd; cases he; exact h.2 j x y h1 h2
end Go.Eb
namespace Go.Eb
open Go.RowKit
def ansM (ok : List AV → Hp → Bool) (r : List AV → Hp → AV) (H' : List AV → Hp → Hp) : (R : Type) → List AV → Hp → (AV → Hp → Option (T R)) → Option (T R) := fun _ args H k =>
  bif ok args H then k (r args H) (H' args H) else none
theorem AnsS.mg {P : Program} {f : FuncId} {ok : List AV → Hp → Bool} {r : List AV → Hp → AV} {H' : List AV → Hp → Hp} (hc : ∀ x H, ok x H = true → CX P f x H (r x H) (H' x H)) : AnsS P f (ansM ok r H') := by
  refine ⟨fun R args H k t h => ?_, fun args H => ?_⟩
  · unfold ansM at h
    cases hb : ok args H with
    | false => rw [hb] at h; cases h
    | true => rw [hb] at h; exact ⟨_, _, h, hc args H hb⟩
  · unfold ansM
    exact .bif _ (.one _ _ fun R k => rfl) (.no fun R k => rfl)
section
variable {α : Type} [Inhabited α]
noncomputable def okY (enc : α → List AV × Hp) (x : List AV) (H : Hp) : Bool := @decide (∃ a, Asle x (enc a).1 ∧ Hle H (enc a).2) (Classical.propDecidable _)
noncomputable def theY (enc : α → List AV × Hp) (x : List AV) (H : Hp) : α := @dite _ (∃ a, Asle x (enc a).1 ∧ Hle H (enc a).2) (Classical.propDecidable _) (fun h => Classical.choose h) (fun _ => default)
omit [Inhabited α] in
theorem okY_iff {enc : α → List AV × Hp} {x : List AV} {H : Hp} : okY enc x H = true ↔ ∃ a, Asle x (enc a).1 ∧ Hle H (enc a).2 := by unfold okY; simp
theorem theY_le {enc : α → List AV × Hp} {x : List AV} {H : Hp} (h : okY enc x H = true) : Asle x (enc (theY enc x H)).1 ∧ Hle H (enc (theY enc x H)).2 := by
  have h' := okY_iff.1 h
  unfold theY
  rw [dif_pos h']
  exact Classical.choose_spec h'
def InjY (enc : α → List AV × Hp) : Prop := ∀ a b, Asle (enc a).1 (enc b).1 → Hle (enc a).2 (enc b).2 → a = b
noncomputable def okZ (enc : α → List AV × Hp) (c : α → Bool) (x : List AV) (H : Hp) : Bool := okY enc x H && c (theY enc x H)
omit [Inhabited α] in
theorem okY_enc {enc : α → List AV × Hp} (a : α) : okY enc (enc a).1 (enc a).2 = true := okY_iff.2 ⟨a, .refl _, .refl _⟩
theorem theY_enc {enc : α → List AV × Hp} (inj : InjY enc) (a : α) : theY enc (enc a).1 (enc a).2 = a := (inj _ _ (theY_le (okY_enc a)).1 (theY_le (okY_enc a)).2).symm
theorem okZ_enc {enc : α → List AV × Hp} (inj : InjY enc) {c : α → Bool} (a : α) (h : c a = true) : okZ enc c (enc a).1 (enc a).2 = true := by
  unfold okZ; rw [okY_enc, theY_enc inj, h]; rfl
theorem AnsS.m {P : Program} {f : FuncId} {enc : α → List AV × Hp} {c : α → Bool} {r : α → AV} {H' : α → Hp} (hc : ∀ a, c a = true → CX P f (enc a).1 (enc a).2 (r a) (H' a)) :
    AnsS P f (ansM (okZ enc c) (fun x H => r (theY enc x H)) fun x H => H' (theY enc x H)) := .mg fun x H h => by
  unfold okZ at h
  simp only [Bool.and_eq_true] at h
  exact (hc _ h.2).ge (theY_le h.1).1 (theY_le h.1).2
end
theorem hle_look {H K : Hp} (h : Hle H K) (n : Nat) {a b : Blk} (h1 : look H n = some a) (h2 : look K n = some b) : Ble a b := by
  have := h n
  rw [h1, h2] at this
  exact this
theorem ble_map {a b : Nat} {l l' : List (Value × Value)} (h : Ble (.map a l) (.map b l')) : l = l' := by
  have h : Blk.map a l = Blk.map b l' := h
  injection h
def mapIn (l : List Int) : List (Value × Value) := l.reverse.map fun n => (.int .i64 n, .bool true)
theorem mapIn_app (l : List Int) (n : Int) : mapIn (l ++ [n]) = (.int .i64 n, .bool true) :: mapIn l := by simp [mapIn]
theorem assoc_mapIn (l : List Int) (n : Int) : boolOf (assoc (mapIn l) (.int .i64 n)) = l.any fun m => n == m := by
  have key : ∀ l : List Int, boolOf (assoc (l.map fun n => (Value.int .i64 n, Value.bool true)) (.int .i64 n)) = l.any fun m => n == m := by
    intro l
    induction l with
    | nil => rfl
    | cons m r ih =>
      simp only [List.map_cons, assoc, sameK, List.any_cons]
      cases (n == m) with
      | true => rfl
      | false => simp only [cond_false, Bool.false_or]; exact ih
  unfold mapIn
  rw [key, List.any_reverse]
theorem mapIn_inj {a b : List Int} (h : mapIn a = mapIn b) : a = b := by
  unfold mapIn at h
  have h2 := (List.map_inj_right (f := fun n : Int => (Value.int .i64 n, Value.bool true)) (fun x y e => by simpa using e)).1 h
  exact List.reverse_inj.1 h2
end Go.Eb
namespace Go.Eb
open Go.RowKit
structure SLine where
  name : ByteArray
  r1 : Int
  x1 : Int
  r0 : Int
  x0 : Int
structure SSrc where
  name : ByteArray
  emf : Int
  r1 : Int
  x1 : Int
  r0 : Int
  x0 : Int
structure SLink where
  bus : Int
  pos : Int
structure SBay where
  name : ByteArray
  kind : Int
  off : Int
  fin : Int
  zr : Int
  zx : Int
  links : List SLink
  closed : Bool
  ct : Int
  vt : Int
  sat : Int
  travel : Int
structure SSta where
  name : ByteArray
  buses : List ByteArray
  lines : List SLine
  srcs : List SSrc
  bays : List SBay
abbrev dS (s : ByteArray) : D := .v (.string s)
abbrev dI (n : Int) : D := .v (.int .i64 n)
abbrev dB (b : Bool) : D := .v (.bool b)
def e0 : ByteArray := ⟨#[]⟩
def Aah : SLine := ⟨e0, 0, 0, 0, 0⟩
def src0 : SSrc := ⟨e0, 0, 0, 0, 0, 0⟩
def link0 : SLink := ⟨0, 0⟩
def bay0 : SBay := ⟨e0, 0, 0, 0, 0, 0, [], false, 0, 0, 0, 0⟩
def Aao (l : SLine) : List D := [dS l.name, dI l.r1, dI l.x1, dI l.r0, dI l.x0]
def Aan (l : SSrc) : List D := [dS l.name, dI l.emf, dI l.r1, dI l.x1, dI l.r0, dI l.x0]
def linkC (l : SLink) : List D := [dI l.bus, dI l.pos]
abbrev linksD (l : List SLink) : D := Aac 2 linkC link0 l
def bayC (b : SBay) : List D := [dS b.name, dI b.kind, dI b.off, dI b.fin, dI b.zr, dI b.zx, linksD b.links, dB b.closed, dI b.ct, dI b.vt, dI b.sat, dI b.travel]
def busC (s : ByteArray) : List D := [dS s]
abbrev Aab (l : List ByteArray) : D := Aac 1 busC e0 l
abbrev Aai (l : List SLine) : D := Aac 5 Aao Aah l
abbrev srcsD (l : List SSrc) : D := Aac 6 Aan src0 l
abbrev baysD (l : List SBay) : D := Aac 12 bayC bay0 l
def staC (s : SSta) : List D := [dS s.name, Aab s.buses, Aai s.lines, srcsD s.srcs, baysD s.bays]
instance : Inhabited SLine := ⟨Aah⟩
instance : Inhabited SSrc := ⟨src0⟩
instance : Inhabited SBay := ⟨bay0⟩
theorem dS_inj {a b : ByteArray} (h : DE (dS a) (dS b)) : a = b := by have := dv_inj h; simpa using this
theorem Aap {a b : Int} (h : DE (dI a) (dI b)) : a = b := by have := dv_inj h; simpa using this
theorem dB_inj {a b : Bool} (h : DE (dB a) (dB b)) : a = b := by have := dv_inj h; simpa using this
theorem busC_inj (a b : ByteArray) (h : DEs (busC a) (busC b)) : a = b := dS_inj (h.2 0 _ _ rfl rfl)
theorem lineC_inj (a b : SLine) (h : DEs (Aao a) (Aao b)) : a = b := by
  cases a; cases b
  have h0 := dS_inj (h.2 0 _ _ rfl rfl)
  have h1 := Aap (h.2 1 _ _ rfl rfl)
  have h2 := Aap (h.2 2 _ _ rfl rfl)
  have h3 := Aap (h.2 3 _ _ rfl rfl)
  have h4 := Aap (h.2 4 _ _ rfl rfl)
  simp only at h0 h1 h2 h3 h4
  rw [h0, h1, h2, h3, h4]
theorem srcC_inj (a b : SSrc) (h : DEs (Aan a) (Aan b)) : a = b := by
  cases a; cases b
  have h0 := dS_inj (h.2 0 _ _ rfl rfl)
  have h1 := Aap (h.2 1 _ _ rfl rfl)
  have h2 := Aap (h.2 2 _ _ rfl rfl)
  have h3 := Aap (h.2 3 _ _ rfl rfl)
  have h4 := Aap (h.2 4 _ _ rfl rfl)
  have h5 := Aap (h.2 5 _ _ rfl rfl)
  simp only at h0 h1 h2 h3 h4 h5
  rw [h0, h1, h2, h3, h4, h5]
theorem linkC_inj (a b : SLink) (h : DEs (linkC a) (linkC b)) : a = b := by
  cases a; cases b
  have h0 := Aap (h.2 0 _ _ rfl rfl)
  have h1 := Aap (h.2 1 _ _ rfl rfl)
  simp only at h0 h1
  rw [h0, h1]
theorem bayC_inj (a b : SBay) (h : DEs (bayC a) (bayC b)) : a = b := by
  cases a; cases b
  have h0 := dS_inj (h.2 0 _ _ rfl rfl)
  have h1 := Aap (h.2 1 _ _ rfl rfl)
  have h2 := Aap (h.2 2 _ _ rfl rfl)
  have h3 := Aap (h.2 3 _ _ rfl rfl)
  have h4 := Aap (h.2 4 _ _ rfl rfl)
  have h5 := Aap (h.2 5 _ _ rfl rfl)
  have h6 := listD_inj linkC_inj _ _ (h.2 6 _ _ rfl rfl)
  have h7 := dB_inj (h.2 7 _ _ rfl rfl)
  have h8 := Aap (h.2 8 _ _ rfl rfl)
  have h9 := Aap (h.2 9 _ _ rfl rfl)
  have h10 := Aap (h.2 10 _ _ rfl rfl)
  have h11 := Aap (h.2 11 _ _ rfl rfl)
  simp only at h0 h1 h2 h3 h4 h5 h6 h7 h8 h9 h10 h11
  rw [h0, h1, h2, h3, h4, h5, h6, h7, h8, h9, h10, h11]
theorem staC_inj (a b : SSta) (h : DEs (staC a) (staC b)) : a = b := by
  cases a; cases b
  have h0 := dS_inj (h.2 0 _ _ rfl rfl)
  have h1 := listD_inj busC_inj _ _ (h.2 1 _ _ rfl rfl)
  have h2 := listD_inj lineC_inj _ _ (h.2 2 _ _ rfl rfl)
  have h3 := listD_inj srcC_inj _ _ (h.2 3 _ _ rfl rfl)
  have h4 := listD_inj bayC_inj _ _ (h.2 4 _ _ rfl rfl)
  simp only at h0 h1 h2 h3 h4
  rw [h0, h1, h2, h3, h4]
instance : Inhabited SSta := ⟨⟨e0, [], [], [], []⟩⟩
abbrev aSta (s : SSta) : AV := .agg ((staC s).map .d)
abbrev aBay (b : SBay) : AV := .agg ((bayC b).map .d)
abbrev RBay := ByteArray × Int × Int × Int × Int × Int × D × Bool × Int × Int × Int × Int × Unit
def bayD : Dec (List C) RBay := .cons .str (.cons .i64 (.cons .i64 (.cons .i64 (.cons .i64 (.cons .i64 (.cons .data (.cons .bool (.cons .i64 (.cons .i64 (.cons .i64 (.cons .i64 .nil)))))))))))
abbrev RSta := ByteArray × D × D × D × D × Unit
def staD : Dec (List C) RSta := .cons .str (.cons .data (.cons .data (.cons .data (.cons .data .nil))))
instance : Inhabited SLink := ⟨link0⟩
noncomputable def okLk (x : D) : Bool := okE linksD x && decide ((theE linksD x).length ≤ 9223372036854775807)
noncomputable def rbay (x : RBay) : SBay := ⟨x.1, x.2.1, x.2.2.1, x.2.2.2.1, x.2.2.2.2.1, x.2.2.2.2.2.1, theE linksD x.2.2.2.2.2.2.1, x.2.2.2.2.2.2.2.1, x.2.2.2.2.2.2.2.2.1, x.2.2.2.2.2.2.2.2.2.1, x.2.2.2.2.2.2.2.2.2.2.1, x.2.2.2.2.2.2.2.2.2.2.2.1⟩
def bayR (b : SBay) : RBay := (b.name, b.kind, b.off, b.fin, b.zr, b.zx, linksD b.links, b.closed, b.ct, b.vt, b.sat, b.travel, ())
noncomputable def okRB (x : RBay) : Bool := okLk x.2.2.2.2.2.2.1
theorem okLk_links {l : List SLink} (h : l.length ≤ 9223372036854775807) : okLk (linksD l) = true := by
  unfold okLk
  rw [(the_list linkC_inj l).1, (the_list linkC_inj l).2]
  simp only [Bool.true_and]
  exact decide_eq_true h
theorem rbay_bayR (b : SBay) : rbay (bayR b) = b := by
  unfold rbay bayR
  simp only [(the_list linkC_inj b.links).2]
theorem bay_le (x : RBay) (h : okRB x = true) : Ale (.agg (bayD.enc x)) (aBay (rbay x)) := by
  unfold okRB okLk at h
  simp only [Bool.and_eq_true] at h
  exact .cons (.refl _) (.cons (.refl _) (.cons (.refl _) (.cons (.refl _) (.cons (.refl _) (.cons (.refl _) (.cons (theE_de h.1) (.cons (.refl _) (.cons (.refl _) (.cons (.refl _) (.cons (.refl _) (.cons (.refl _) .nil)))))))))))
def letterB (c : UInt8) : Bool := (decide (65 ≤ (c.toNat : Int)) && decide ((c.toNat : Int) ≤ 90)) || (decide (97 ≤ (c.toNat : Int)) && decide ((c.toNat : Int) ≤ 122))
def otherB (c : UInt8) : Bool := (decide (48 ≤ (c.toNat : Int)) && decide ((c.toNat : Int) ≤ 57)) || (c.toNat : Int) == 95
def nmT : Nat → List UInt8 → Bool
  | _, [] => true
  | i, c :: r => (letterB c || (i != 0 && otherB c)) && nmT (i + 1) r
def Aae (s : ByteArray) : Bool := !((s.size : Int) == 0) && (!decide ((s.size : Int) > 12) && nmT 0 s.data.toList)
def inB (l : List ByteArray) (s : ByteArray) : Bool := l.any fun t => s.data.toList == t.data.toList
def namErr (l : List ByteArray) (s : ByteArray) : Int := bif !Aae s then 7 else bif inB l s then 8 else 0
def Aaa (n lo hi : Int) : Bool := decide (n ≥ lo) && decide (n ≤ hi)
def impOk (r x : Int) : Bool := Aaa r 0 1000 && Aaa x 1 1000
def lineErr (l : List ByteArray) (x : SLine) : Int := bif namErr l x.name != 0 then namErr l x.name else bif impOk x.r1 x.x1 && impOk x.r0 x.x0 then 0 else 2
def srcErr (l : List ByteArray) (x : SSrc) : Int := bif namErr l x.name != 0 then namErr l x.name else bif Aaa x.emf 1 1000000 && (impOk x.r1 x.x1 && impOk x.r0 x.x0) then 0 else 2
def cntOf (nl ns : Nat) (k : Int) : Option Int := bif k == 1 then some nl else bif k == 2 then some ns else bif k == 3 then some 1 else none
def rngOk (b : SBay) : Bool :=
  (bif b.kind == 3 then impOk b.zr b.zx && b.vt == 0 else (b.zr == 0 && b.zx == 0) && Aaa b.vt 1 10000) &&
    (Aaa b.fin 0 (bif b.kind == 1 then 1 else 0) && (Aaa b.ct 1 100 && (Aaa b.sat 0 16383 && Aaa b.travel 1 6)))
def clash (x y : SBay) : Bool := x.kind != 3 && (x.kind == y.kind && (x.off == y.off && x.fin == y.fin))
def linkErr (nb : Nat) (k : Int) : Option Int → List SLink → Int
  | _, [] => 0
  | p, l :: r => bif !Aaa l.bus 0 ((nb : Int) - 1) then 9 else bif l.pos != 1 && (l.pos != 0 || k == 3) then 16 else bif p == some l.bus then 12 else linkErr nb k (some l.bus) r
def linksErr (nb : Nat) (b : SBay) : Int := bif decide (b.links.length < 1) || (decide (2 < b.links.length) || (b.kind == 3 && b.links.length != 2)) then 3 else linkErr nb b.kind none b.links
def bayErrD (nb nl ns : Nat) (dup : Bool) (before : List SBay) (b : SBay) : Int :=
  bif !Aae b.name then 7 else bif dup then 8 else match cntOf nl ns b.kind with
    | none => 10
    | some c => bif !Aaa b.off 0 (c - 1) then 9 else bif !rngOk b then 2 else bif before.any (clash b) then 12 else linksErr nb b
def bayErr (nb nl ns : Nat) (l : List ByteArray) (before : List SBay) (b : SBay) : Int := bayErrD nb nl ns (inB l b.name) before b
def takeN {α : Type} (nm : α → ByteArray) (f : List ByteArray → List α → α → Int) (N : List ByteArray) : List α → List α → Int × List α
  | before, [] => (0, before)
  | before, x :: r => bif f (N ++ before.map nm) before x != 0 then (f (N ++ before.map nm) before x, before) else takeN nm f N (before ++ [x]) r
theorem takeN_ok {α : Type} {nm : α → ByteArray} {f : List ByteArray → List α → α → Int} {N : List ByteArray} : ∀ (before l : List α), (takeN nm f N before l).1 = 0 → (takeN nm f N before l).2 = before ++ l
  | before, [], _ => by simp [takeN]
  | before, x :: r, h => by
    simp only [takeN] at h ⊢
    cases e : (f (N ++ before.map nm) before x != 0) with
    | true => rw [e] at h; simp only [cond_true] at h; rw [h] at e; simp at e
    | false => rw [e] at h; simp only [cond_false] at h ⊢; rw [takeN_ok _ r h]; simp
def tBus (l : List ByteArray) := takeN id (fun N _ x => namErr N x) [] [] l
def tLine (N : List ByteArray) (l : List SLine) := takeN SLine.name (fun N _ x => lineErr N x) N [] l
def tSrc (N : List ByteArray) (l : List SSrc) := takeN SSrc.name (fun N _ x => srcErr N x) N [] l
def tBay (nb nl ns : Nat) (N : List ByteArray) (l : List SBay) := takeN SBay.name (fun N before x => bayErr nb nl ns N before x) N [] l
def cntBad (s : SSta) : Bool := s.buses.length == 0 || (decide (4 < s.buses.length) || (decide (6 < s.lines.length) || (decide (4 < s.srcs.length) || decide (16 < s.bays.length))))
def chkSta (s : SSta) : Int :=
  bif !Aae s.name then 7 else
  bif cntBad s then 3 else
  bif (tBus s.buses).1 != 0 then (tBus s.buses).1 else
  bif (tLine s.buses s.lines).1 != 0 then (tLine s.buses s.lines).1 else
  bif (tSrc (s.buses ++ s.lines.map SLine.name) s.srcs).1 != 0 then (tSrc (s.buses ++ s.lines.map SLine.name) s.srcs).1 else
  (tBay s.buses.length s.lines.length s.srcs.length (s.buses ++ s.lines.map SLine.name ++ s.srcs.map SSrc.name) s.bays).1
def Aak (l : List ByteArray) : List (Value × Value) := l.reverse.map fun s => (.string s, .bool true)
theorem mapOf_app (l : List ByteArray) (s : ByteArray) : Aak (l ++ [s]) = (.string s, .bool true) :: Aak l := by simp [Aak]
theorem assoc_map (s : ByteArray) : ∀ l : List ByteArray, boolOf (assoc (l.map fun s => (Value.string s, Value.bool true)) (.string s)) = l.any fun t => s.data.toList == t.data.toList
  | [] => rfl
  | t :: r => by
    simp only [List.map_cons, assoc, sameK, List.any_cons]
    cases (s.data.toList == t.data.toList) with
    | true => rfl
    | false => simp only [cond_false, Bool.false_or]; exact assoc_map s r
theorem assoc_mapOf (l : List ByteArray) (s : ByteArray) : boolOf (assoc (Aak l) (.string s)) = inB l s := by
  unfold Aak inB
  rw [assoc_map, List.any_reverse]
theorem first_loop {α : Type} {nm : α → ByteArray} {F : List ByteArray → List α → α → Int} {N : List ByteArray} {c : α → List D} {d0 : α} {l : List α} {L : Nat → List (Value × Value) → Nat → (Nat → List D) → Int → Option (T (AV × Hp))}
    {HX : List (Value × Value) → Nat → (Nat → List D) → Hp}
    (hst : ∀ (m k : Nat) (before : List α) (f : Nat → List D), k < l.length → before.length = k → RL c d0 k f before → ∃ f1 f2, RL c d0 (k + 1) f1 (before ++ [l.getD k d0]) ∧ RL c d0 k f2 before ∧ L (m + 1) (Aak (N ++ before.map nm)) k f k =
      bif F (N ++ before.map nm) before (l.getD k d0) != 0 then some (.leaf (vI (F (N ++ before.map nm) before (l.getD k d0)), HX (Aak (N ++ before.map nm)) k f2))
      else L m ((.string (nm (l.getD k d0)), .bool true) :: Aak (N ++ before.map nm)) (k + 1) f1 ((k + 1 : Nat) : Int))
    (hend : ∀ m mp n f, L (m + 1) mp n f l.length = some (.leaf (vI 0, HX mp n f))) :
    ∀ (m k : Nat) (before : List α) (f : Nat → List D), k ≤ l.length → l.length - k < m → before.length = k → RL c d0 k f before →
      ∃ f', RL c d0 (takeN nm F N before (l.drop k)).2.length f' (takeN nm F N before (l.drop k)).2 ∧
        L m (Aak (N ++ before.map nm)) k f k = some (.leaf (vI (takeN nm F N before (l.drop k)).1, HX (Aak (N ++ (takeN nm F N before (l.drop k)).2.map nm)) (takeN nm F N before (l.drop k)).2.length f'))
  | 0, k, before, f, _, h, _, _ => by omega
  | m + 1, k, before, f, hk, h, hb, hr => by
    by_cases e : k = l.length
    · subst e
      rw [List.drop_of_length_le (Nat.le_refl _)]
      simp only [takeN]
      rw [hend, hb]
      exact ⟨f, hr, rfl⟩
    · have hlt : k < l.length := by omega
      obtain ⟨f1, f2, hr1, hr2, hst1⟩ := hst m k before f hlt hb hr
      rw [hst1, drop_at' (d := d0) hlt]
      simp only [takeN]
      cases hF : (F (N ++ before.map nm) before (l.getD k d0) != 0) with
      | true =>
        simp only [cond_true]
        rw [hb]
        exact ⟨f2, hr2, rfl⟩
      | false =>
        simp only [cond_false]
        have ih := first_loop hst hend m (k + 1) (before ++ [l.getD k d0]) f1 (by omega) (by omega) (by simp [hb]) hr1
        have e1 : N ++ (before ++ [l.getD k d0]).map nm = (N ++ before.map nm) ++ [nm (l.getD k d0)] := by simp
        rw [e1, mapOf_app] at ih
        exact ih
theorem mapOf_inj {a b : List ByteArray} (h : Aak a = Aak b) : a = b := by
  unfold Aak at h
  have h2 := (List.map_inj_right (f := fun s : ByteArray => (Value.string s, Value.bool true)) (fun x y e => by simpa using e)).1 h
  exact List.reverse_inj.1 h2
noncomputable def okM (mp : List (Value × Value)) : Bool := @decide (∃ N, mp = Aak N) (Classical.propDecidable _)
noncomputable def theM (mp : List (Value × Value)) : List ByteArray := @dite _ (∃ N, mp = Aak N) (Classical.propDecidable _) (fun h => Classical.choose h) (fun _ => [])
theorem theM_spec {mp : List (Value × Value)} (h : okM mp = true) : mp = Aak (theM mp) := by
  have h' : ∃ N, mp = Aak N := by unfold okM at h; simpa using h
  unfold theM
  rw [dif_pos h']
  exact Classical.choose_spec h'
theorem okM_mapOf (N : List ByteArray) : okM (Aak N) = true := by unfold okM; simp; exact ⟨N, rfl⟩
theorem theM_mapOf (N : List ByteArray) : theM (Aak N) = N := (mapOf_inj (theM_spec (okM_mapOf N))).symm
end Go.Eb
namespace Go.Eb
open Go.RowKit
structure SRule where
  name : ByteArray
  text : ByteArray
structure SSet where
  name : ByteArray
  sigs : List ByteArray
structure SPub where
  set : ByteArray
  fst : Int
  max : Int
structure SSub where
  loc : ByteArray
  dev : ByteArray
  set : ByteArray
  sig : ByteArray
def rule0 : SRule := ⟨e0, e0⟩
def set0 : SSet := ⟨e0, []⟩
def pub0 : SPub := ⟨e0, 0, 0⟩
def sub0 : SSub := ⟨e0, e0, e0, e0⟩
instance : Inhabited SRule := ⟨rule0⟩
instance : Inhabited SSet := ⟨set0⟩
instance : Inhabited SPub := ⟨pub0⟩
instance : Inhabited SSub := ⟨sub0⟩
def ruleC (x : SRule) : List D := [dS x.name, dS x.text]
def setC (x : SSet) : List D := [dS x.name, Aab x.sigs]
def pubC (x : SPub) : List D := [dS x.set, dI x.fst, dI x.max]
def subC (x : SSub) : List D := [dS x.loc, dS x.dev, dS x.set, dS x.sig]
abbrev rulesD (l : List SRule) : D := Aac 2 ruleC rule0 l
abbrev setsD (l : List SSet) : D := Aac 2 setC set0 l
abbrev pubsD (l : List SPub) : D := Aac 3 pubC pub0 l
abbrev subsD (l : List SSub) : D := Aac 4 subC sub0 l
theorem ruleC_inj (a b : SRule) (h : DEs (ruleC a) (ruleC b)) : a = b := by
  cases a; cases b
  have h0 := dS_inj (h.2 0 _ _ rfl rfl)
  have h1 := dS_inj (h.2 1 _ _ rfl rfl)
  simp only at h0 h1
  rw [h0, h1]
theorem setC_inj (a b : SSet) (h : DEs (setC a) (setC b)) : a = b := by
  cases a; cases b
  have h0 := dS_inj (h.2 0 _ _ rfl rfl)
  have h1 := listD_inj busC_inj _ _ (h.2 1 _ _ rfl rfl)
  simp only at h0 h1
  rw [h0, h1]
theorem pubC_inj (a b : SPub) (h : DEs (pubC a) (pubC b)) : a = b := by
  cases a; cases b
  have h0 := dS_inj (h.2 0 _ _ rfl rfl)
  have h1 := Aap (h.2 1 _ _ rfl rfl)
  have h2 := Aap (h.2 2 _ _ rfl rfl)
  simp only at h0 h1 h2
  rw [h0, h1, h2]
theorem subC_inj (a b : SSub) (h : DEs (subC a) (subC b)) : a = b := by
  cases a; cases b
  have h0 := dS_inj (h.2 0 _ _ rfl rfl)
  have h1 := dS_inj (h.2 1 _ _ rfl rfl)
  have h2 := dS_inj (h.2 2 _ _ rfl rfl)
  have h3 := dS_inj (h.2 3 _ _ rfl rfl)
  simp only at h0 h1 h2 h3
  rw [h0, h1, h2, h3]
structure SRel where
  name : ByteArray
  kind : Int
  bay : Int
  zon0 : Bool
  zfw0 : Bool
  zx0 : Int
  zr0 : Int
  zl0 : Int
  zd0 : Int
  zon1 : Bool
  zfw1 : Bool
  zx1 : Int
  zr1 : Int
  zl1 : Int
  zd1 : Int
  zon2 : Bool
  zfw2 : Bool
  zx2 : Int
  zr2 : Int
  zl2 : Int
  zd2 : Int
  min : Int
  kre : Int
  kim : Int
  scheme : Int
  wait : Int
  guard : Int
  don : Bool
  dpk : Int
  ddl : Int
  ion : Bool
  ipk : Int
  idl : Int
  fon : Bool
  fpk : Int
  fdl : Int
  shots : Int
  dead : Int
  reclaim : Int
  uon : Bool
  upk : Int
  udl : Int
  oon : Bool
  opk : Int
  odl : Int
  diff : Int
  num : Int
  den : Int
  harm : Int
  rules : List SRule
  sets : List SSet
  pubs : List SPub
  subs : List SSub
def rel0 : SRel := ⟨e0, 0, 0, false, false, 0, 0, 0, 0, false, false, 0, 0, 0, 0, false, false, 0, 0, 0, 0, 0, 0, 0, 0, 0, 0, false, 0, 0, false, 0, 0, false, 0, 0, 0, 0, 0, false, 0, 0, false, 0, 0, 0, 0, 0, 0, [], [], [], []⟩
instance : Inhabited SRel := ⟨rel0⟩
def relC (r : SRel) : List D := [dS r.name, dI r.kind, dI r.bay, dB r.zon0, dB r.zfw0, dI r.zx0, dI r.zr0, dI r.zl0, dI r.zd0, dB r.zon1, dB r.zfw1, dI r.zx1, dI r.zr1, dI r.zl1, dI r.zd1, dB r.zon2, dB r.zfw2, dI r.zx2, dI r.zr2, dI r.zl2, dI r.zd2, dI r.min, dI r.kre, dI r.kim, dI r.scheme, dI r.wait, dI r.guard, dB r.don, dI r.dpk, dI r.ddl, dB r.ion, dI r.ipk, dI r.idl, dB r.fon, dI r.fpk, dI r.fdl, dI r.shots, dI r.dead, dI r.reclaim, dB r.uon, dI r.upk, dI r.udl, dB r.oon, dI r.opk, dI r.odl, dI r.diff, dI r.num, dI r.den, dI r.harm, rulesD r.rules, setsD r.sets, pubsD r.pubs, subsD r.subs]
abbrev relsD (l : List SRel) : D := Aac 53 relC rel0 l
abbrev aRel (r : SRel) : AV := .agg ((relC r).map .d)
theorem relC_inj (a b : SRel) (h : DEs (relC a) (relC b)) : a = b := by
  cases a; cases b
  have h0 := dS_inj (h.2 0 _ _ rfl rfl)
  have h1 := Aap (h.2 1 _ _ rfl rfl)
  have h2 := Aap (h.2 2 _ _ rfl rfl)
  have h3 := dB_inj (h.2 3 _ _ rfl rfl)
  have h4 := dB_inj (h.2 4 _ _ rfl rfl)
  have h5 := Aap (h.2 5 _ _ rfl rfl)
  have h6 := Aap (h.2 6 _ _ rfl rfl)
  have h7 := Aap (h.2 7 _ _ rfl rfl)
  have h8 := Aap (h.2 8 _ _ rfl rfl)
  have h9 := dB_inj (h.2 9 _ _ rfl rfl)
  have h10 := dB_inj (h.2 10 _ _ rfl rfl)
  have h11 := Aap (h.2 11 _ _ rfl rfl)
  have h12 := Aap (h.2 12 _ _ rfl rfl)
  have h13 := Aap (h.2 13 _ _ rfl rfl)
  have h14 := Aap (h.2 14 _ _ rfl rfl)
  have h15 := dB_inj (h.2 15 _ _ rfl rfl)
  have h16 := dB_inj (h.2 16 _ _ rfl rfl)
  have h17 := Aap (h.2 17 _ _ rfl rfl)
  have h18 := Aap (h.2 18 _ _ rfl rfl)
  have h19 := Aap (h.2 19 _ _ rfl rfl)
  have h20 := Aap (h.2 20 _ _ rfl rfl)
  have h21 := Aap (h.2 21 _ _ rfl rfl)
  have h22 := Aap (h.2 22 _ _ rfl rfl)
  have h23 := Aap (h.2 23 _ _ rfl rfl)
  have h24 := Aap (h.2 24 _ _ rfl rfl)
  have h25 := Aap (h.2 25 _ _ rfl rfl)
  have h26 := Aap (h.2 26 _ _ rfl rfl)
  have h27 := dB_inj (h.2 27 _ _ rfl rfl)
  have h28 := Aap (h.2 28 _ _ rfl rfl)
  have h29 := Aap (h.2 29 _ _ rfl rfl)
  have h30 := dB_inj (h.2 30 _ _ rfl rfl)
  have h31 := Aap (h.2 31 _ _ rfl rfl)
  have h32 := Aap (h.2 32 _ _ rfl rfl)
  have h33 := dB_inj (h.2 33 _ _ rfl rfl)
  have h34 := Aap (h.2 34 _ _ rfl rfl)
  have h35 := Aap (h.2 35 _ _ rfl rfl)
  have h36 := Aap (h.2 36 _ _ rfl rfl)
  have h37 := Aap (h.2 37 _ _ rfl rfl)
  have h38 := Aap (h.2 38 _ _ rfl rfl)
  have h39 := dB_inj (h.2 39 _ _ rfl rfl)
  have h40 := Aap (h.2 40 _ _ rfl rfl)
  have h41 := Aap (h.2 41 _ _ rfl rfl)
  have h42 := dB_inj (h.2 42 _ _ rfl rfl)
  have h43 := Aap (h.2 43 _ _ rfl rfl)
  have h44 := Aap (h.2 44 _ _ rfl rfl)
  have h45 := Aap (h.2 45 _ _ rfl rfl)
  have h46 := Aap (h.2 46 _ _ rfl rfl)
  have h47 := Aap (h.2 47 _ _ rfl rfl)
  have h48 := Aap (h.2 48 _ _ rfl rfl)
  have h49 := listD_inj ruleC_inj _ _ (h.2 49 _ _ rfl rfl)
  have h50 := listD_inj setC_inj _ _ (h.2 50 _ _ rfl rfl)
  have h51 := listD_inj pubC_inj _ _ (h.2 51 _ _ rfl rfl)
  have h52 := listD_inj subC_inj _ _ (h.2 52 _ _ rfl rfl)
  simp only at h0 h1 h2 h3 h4 h5 h6 h7 h8 h9 h10 h11 h12 h13 h14 h15 h16 h17 h18 h19 h20 h21 h22 h23 h24 h25 h26 h27 h28 h29 h30 h31 h32 h33 h34 h35 h36 h37 h38 h39 h40 h41 h42 h43 h44 h45 h46 h47 h48 h49 h50 h51 h52
  subst h0 h1 h2 h3 h4 h5 h6 h7 h8 h9 h10 h11 h12 h13 h14 h15 h16 h17 h18 h19 h20 h21 h22 h23 h24 h25 h26 h27 h28 h29 h30 h31 h32 h33 h34 h35 h36 h37 h38 h39 h40 h41 h42 h43 h44 h45 h46 h47 h48 h49 h50 h51 h52
  rfl
theorem aRel_inj : InjA aRel := aG_inj relC_inj
end Go.Eb
namespace Go.Eb
open Go.RowKit
def lksOk (l : List SBay) : Bool := l.all fun b => decide (b.links.length ≤ 9223372036854775807)
theorem lksOk_get {l : List SBay} (h : lksOk l = true) (i : Nat) (hi : i < l.length) : (l.getD i bay0).links.length ≤ 9223372036854775807 := by
  unfold lksOk at h
  rw [List.all_eq_true] at h
  have := h (l.getD i bay0) (by rw [List.getD_eq_getElem?_getD, List.getElem?_eq_getElem hi]; simp)
  simpa using this
def okSta (s : SSta) : Bool := lenOk s.buses && (lenOk s.lines && (lenOk s.srcs && (lenOk s.bays && s.bays.all fun b => lenOk b.links)))
theorem okSta_len {s : SSta} (h : okSta s = true) : s.buses.length ≤ 9223372036854775807 ∧ s.lines.length ≤ 9223372036854775807 ∧ s.srcs.length ≤ 9223372036854775807 ∧ s.bays.length ≤ 9223372036854775807 ∧ lksOk s.bays = true := by
  unfold okSta lenOk at h
  simp only [Bool.and_eq_true, decide_eq_true_eq] at h
  exact ⟨h.1, h.2.1, h.2.2.1, h.2.2.2.1, h.2.2.2.2⟩
theorem aSta_inj : InjA aSta := aG_inj staC_inj
end Go.Eb
namespace Go.Proofs.YtmnfibmlhmeheaaGreatDoor.en
open Go.RowKit Go.Eb
set_option maxRecDepth 100000
noncomputable def oSE (okf fi oke : List AV → Bool) (en : List AV → List It) (okS : List AV → Bool) : Orc := Orc.cons 4 (ansP dec0 fun _ => vB true) (Orc.cons 5 (ansG okf fun x => vB (fi x)) (Orc.cons 7 (ansG oke fun x => .c (.d (itemsD (en x)))) (Orc.cons 8 (ansG oke fun x => .c (.d (itemsD (en x)))) (Orc.cons 6 (ansG okS fun _ => vB true) Orc.nil))))
noncomputable def annsel : Ann := annOf []
theorem bsel : Tryz.f3.body = some (Aad Tryz.f3) := by kernel_rfl
theorem evsel (okf fi oke : List AV → Bool) (en : List AV → List It) (okS : List AV → Bool) (s : SSta) (l : List SRel) (g : Nat) : Aal Tryz.prog (oSE okf fi oke en okS) annsel g Tryz.f3 (Aad Tryz.f3) [aSta s, .c (.d (relsD l))] [] =
 (bif okf [AV.agg (List.map C.d (staC s)), AV.c (C.d (Aac (53) relC rel0 l))] then (bif !fi [AV.agg (List.map C.d (staC s)), AV.c (C.d (Aac (53) relC rel0 l))]
 then some (T.leaf (AV.c (.d (.v (.bool true))), [])) else (bif oke [AV.agg (List.map C.d (staC s)), AV.c (C.d (Aac (53) relC rel0 l))] then (bif oke [AV.agg
 (List.map C.d (staC s)), AV.c (C.d (Aac (53) relC rel0 l))] then (bif okS [AV.c (C.d (Aac (4) Aag i0 (en [AV.agg (List.map C.d (staC s)), AV.c (C.d (Aac
 (53) relC rel0 l))]))), AV.c (C.d (Aac (4) Aag i0 (en [AV.agg (List.map C.d (staC s)), AV.c (C.d (Aac (53) relC rel0 l))])))] then some (T.leaf (AV.c
 (C.d (.v (.bool true))), [])) else none) else none) else none)) else none) := by kernel_rfl
end Go.Proofs.YtmnfibmlhmeheaaGreatDoor.en
namespace Go.Eb
open Go.RowKit
def decB (n : Nat) : ByteArray := if h : n < 10 then ⟨#[UInt8.ofNat (48 + n)]⟩ else decB (n / 10) ++ decB (n % 10)
termination_by n
decreasing_by all_goals omega
theorem decB_lt {n : Nat} (h : n < 10) : decB n = ⟨#[UInt8.ofNat (48 + n)]⟩ := by rw [decB, dif_pos h]
theorem decB_ge {n : Nat} (h : ¬ n < 10) : decB n = decB (n / 10) ++ decB (n % 10) := by rw [decB, dif_neg h]
theorem decB_size (n : Nat) : (decB n).size ≤ n + 1 := by
  induction n using Nat.strongRecOn with
  | ind n ih =>
    by_cases h : n < 10
    · rw [decB_lt h]; show 1 ≤ _; omega
    · rw [decB_ge h, ByteArray.size_append]
      have h1 := ih (n / 10) (by omega)
      have h2 := ih (n % 10) (by omega)
      omega
def say (l : List ByteArray) : It := .mk 0 (l.map fun t => ⟨t, false⟩) false []
def tBus' : ByteArray := ⟨#[98, 117, 115]⟩
def tLine' : ByteArray := ⟨#[108, 105, 110, 101]⟩
def tSource : ByteArray := ⟨#[115, 111, 117, 114, 99, 101]⟩
def tCoupler : ByteArray := ⟨#[99, 111, 117, 112, 108, 101, 114]⟩
def dec (n : Int) : ByteArray := decB n.toNat
structure RLe {β : Type} (c : β → List D) (d0 : β) (n : Nat) (f : Nat → List D) (l : List β) : Prop where
  len : n = l.length
  le : ∀ i, i < n → DEs (f i) (c (l.getD i d0))
section
variable {β : Type} {c : β → List D} {d0 : β}
theorem RLe.de {n sz : Nat} {f : Nat → List D} {l : List β} (h : RLe c d0 n f l) : DE (.sl sz n f) (.sl sz l.length fun i => c (l.getD i d0)) := by
  obtain ⟨rfl, h1⟩ := h
  exact .sls h1
theorem RLe.nil (f : Nat → List D) : RLe c d0 0 f [] := ⟨rfl, fun i h => by omega⟩
theorem chunk_one (ds : List D) : Aaf ds ds.length 0 = ds := by unfold Aaf; simp
theorem RLe.one {sz : Nat} {ds : List D} {x : β} (hs : ds.length = sz) (h1 : DEs ds (c x)) : RLe c d0 1 (Aaf ds sz) [x] := ⟨rfl, fun i hi => by
  obtain rfl : i = 0 := by omega
  rw [← hs, chunk_one]
  exact h1⟩
theorem RLe.app {n sz : Nat} {f : Nat → List D} {l : List β} {ds : List D} {x : β} (h : RLe c d0 n f l) (hs : ds.length = sz) (h1 : DEs ds (c x)) : RLe c d0 (n + 1) (appF n f (Aaf ds sz)) (l ++ [x]) := by
  refine ⟨by rw [h.len]; simp, fun i hi => ?_⟩
  unfold appF
  rw [bltD]
  by_cases e : i < n
  · rw [decide_eq_true e, getD_app_lt (by rw [← h.len]; exact e)]; exact h.le i e
  · obtain rfl : i = n := by omega
    rw [decide_eq_false e, getD_app_ge (by rw [← h.len]; omega), ← h.len, Nat.sub_self]
    exact (RLe.one (d0 := d0) hs h1).le 0 (by omega)
theorem app_loop {α ρ : Type} {L : Nat → Nat → (Nat → List D) → Int → ρ} {K : Nat → (Nat → List D) → ρ} {l : List α} {d : α} {ch : α → List D} {e : α → β} {sz : Nat}
    (hst : ∀ (m k n : Nat) (f : Nat → List D), k < l.length → n ≤ 5000 → L (m + 1) n f k = L m (n + 1) (appF n f (Aaf (ch (l.getD k d)) sz)) ((k + 1 : Nat) : Int))
    (hend : ∀ (m n : Nat) (f : Nat → List D), L (m + 1) n f (l.length : Int) = K n f) (hs : ∀ x, (ch x).length = sz) (hch : ∀ k, k < l.length → DEs (ch (l.getD k d)) (c (e (l.getD k d)))) :
    ∀ (m k n : Nat) (f : Nat → List D) (bef : List β), k ≤ l.length → l.length - k < m → n + (l.length - k) ≤ 5000 → RLe c d0 n f bef →
      ∃ f', RLe c d0 (n + (l.length - k)) f' (bef ++ (l.drop k).map e) ∧ L m n f k = K (n + (l.length - k)) f' := by
  intro m
  induction m with
  | zero => intro k n f bef _ h; omega
  | succ m ih =>
    intro k n f bef hk hm hn hr
    by_cases hlt : k < l.length
    · rw [hst m k n f hlt (by omega)]
      obtain ⟨f', h1, h2⟩ := ih (k + 1) (n + 1) _ (bef ++ [e (l.getD k d)]) (by omega) (by omega) (by omega) (hr.app (hs _) (hch k hlt))
      have e1 : n + 1 + (l.length - (k + 1)) = n + (l.length - k) := by omega
      rw [e1] at h1 h2
      refine ⟨f', ?_, h2⟩
      rw [drop_at' (d := d) hlt]
      simpa using h1
    · obtain rfl : k = l.length := by omega
      rw [hend]
      refine ⟨f, ?_, by rw [Nat.sub_self, Nat.add_zero]⟩
      simpa using hr
end
theorem chunk_flat {α : Type} {g : α → List D} {sz : Nat} {d : α} (hg : ∀ x, (g x).length = sz) : ∀ (l : List α) (i : Nat), i < l.length → Aaf (l.flatMap g) sz i = g (l.getD i d)
  | [], i, h => by simp at h
  | x :: r, 0, _ => by
    unfold Aaf
    simp only [Nat.zero_mul, List.drop_zero, List.flatMap_cons, List.getD_cons_zero]
    rw [List.take_append_of_le_length (by rw [hg]; exact Nat.le_refl _), List.take_of_length_le (by rw [hg]; exact Nat.le_refl _)]
  | x :: r, i + 1, h => by
    have ih := chunk_flat (d := d) hg r i (by simpa using h)
    unfold Aaf at ih ⊢
    rw [List.flatMap_cons, List.getD_cons_succ, ← ih, List.drop_append, hg, List.drop_of_length_le (by rw [hg, Nat.add_mul]; omega), List.nil_append]
    congr 2
    rw [Nat.add_mul]; omega
def plainW (l : List ByteArray) : List Wd := l.map fun t => ⟨t, false⟩
def wordsC (l : List ByteArray) : D := .sl 2 l.length (Aaf (l.flatMap fun t => [dS t, dB false]) 2)
theorem wordsC_de (l : List ByteArray) : DE (wordsC l) (wordsD (plainW l)) := by
  unfold wordsC wordsD plainW
  rw [List.length_map]
  refine .sls fun i hi => ?_
  rw [chunk_flat (g := fun t => [dS t, dB false]) (sz := 2) (d := e0) (fun _ => rfl) l i hi]
  have e : (l.map fun t => (⟨t, false⟩ : Wd)).getD i w0 = ⟨l.getD i e0, false⟩ := by
    simp [List.getD_eq_getElem?_getD, hi]
  rw [e]
  exact .refl _
def sayC (l : List ByteArray) : List D := [dI 0, wordsC l, dB false, .v (.slice none 0 0)]
theorem Aas (l : List ByteArray) : DEs (sayC l) (Aag (say l)) :=
  .cons (.refl _) (.cons (wordsC_de l) (.cons (.refl _) (.cons (.nil _ _) .nil)))
theorem bayC_de {x : It} {ws kd : D} (h0 : x.line = 0) (hb : x.block = true) (hw : DE ws (wordsD x.words)) (hk : DE kd (kidsD x)) : DEs [dI 0, ws, dB true, kd] (Aag x) := by
  unfold Aag
  rw [h0, hb]
  exact .cons (.refl _) (.cons hw (.cons (.refl _) (.cons hk .nil)))
end Go.Eb
namespace Go.Eb
open Go.RowKit
abbrev lN (n : Int) : Option (T (AV × Hp)) := some (.leaf (vI n, []))
def listErr {α : Type} (valid : α → Bool) (key : α → ByteArray) (rest : α → Int) (seen : List ByteArray) : List α → Int
  | [] => 0
  | x :: r => bif !valid x then 7 else bif inB seen (key x) then 8 else bif rest x != 0 then rest x else listErr valid key rest (seen ++ [key x]) r
theorem seen_loop {α : Type} {valid : α → Bool} {key : α → ByteArray} {rest : α → Int} {l : List α} {d0 : α} {L : Nat → List (Value × Value) → Int → Option (T (AV × Hp))}
    (hst : ∀ (m k : Nat) (seen : List ByteArray), k < l.length → L (m + 1) (Aak seen) k = bif !valid (l.getD k d0) then lN 7 else bif inB seen (key (l.getD k d0)) then lN 8 else bif rest (l.getD k d0) != 0 then lN (rest (l.getD k d0)) else L m (Aak (seen ++ [key (l.getD k d0)])) ((k + 1 : Nat) : Int))
    (hend : ∀ m mp, L (m + 1) mp l.length = lN 0) : ∀ (m k : Nat) (seen : List ByteArray), k ≤ l.length → l.length - k < m → L m (Aak seen) k = lN (listErr valid key rest seen (l.drop k))
  | 0, k, _, _, h => by omega
  | m + 1, k, seen, hk, h => by
    by_cases e : k = l.length
    · subst e
      rw [hend, List.drop_of_length_le (Nat.le_refl _)]
      rfl
    · have hlt : k < l.length := by omega
      rw [hst m k seen hlt, seen_loop hst hend m (k + 1) _ (by omega) (by omega), drop_at' (d := d0) hlt]
      simp only [listErr]
      cases valid (l.getD k d0) with
      | false => rfl
      | true =>
        cases inB seen (key (l.getD k d0)) with
        | true => rfl
        | false =>
          cases (rest (l.getD k d0) != 0) <;> rfl
def idxP {α : Type} (p : α → Bool) : Nat → List α → Int
  | _, [] => -1
  | i, x :: r => bif p x then (i : Int) else idxP p (i + 1) r
theorem idxP_ge {α : Type} (p : α → Bool) : ∀ (l : List α) (i : Nat), decide (idxP p i l ≥ 0) = l.any p
  | [], i => rfl
  | x :: r, i => by
    have ih := idxP_ge p r (i + 1)
    have e : idxP p i (x :: r) = bif p x then (i : Int) else idxP p (i + 1) r := rfl
    rw [List.any_cons, ← ih, Bool.eq_iff_iff, Bool.or_eq_true, decide_eq_true_eq, decide_eq_true_eq, e]
    cases p x with
    | true => simp
    | false => simp
theorem idx_loop {α : Type} {p : α → Bool} {l : List α} {d0 : α} {L : Nat → Int → Option (T (AV × Hp))}
    (hst : ∀ (m k : Nat), k < l.length → L (m + 1) k = bif p (l.getD k d0) then lN k else L m ((k + 1 : Nat) : Int)) (hend : ∀ m, L (m + 1) l.length = lN (-1)) :
    ∀ (m k : Nat), k ≤ l.length → l.length - k < m → L m k = lN (idxP p k (l.drop k))
  | 0, k, _, h => by omega
  | m + 1, k, hk, h => by
    by_cases e : k = l.length
    · subst e
      rw [hend, List.drop_of_length_le (Nat.le_refl _)]
      rfl
    · have hlt : k < l.length := by omega
      rw [hst m k hlt, idx_loop hst hend m (k + 1) (by omega) (by omega), drop_at' (d := d0) hlt]
      simp only [idxP]
      cases p (l.getD k d0) <;> rfl
theorem name_loop {α : Type} {nm : α → ByteArray} {l : List α} {d0 : α} {L : Nat → List (Value × Value) → Int → Option (T (AV × Hp))} {NX : List (Value × Value) → Option (T (AV × Hp))}
    (hst : ∀ (m k : Nat) (N : List ByteArray), k < l.length → L (m + 1) (Aak N) k = L m (Aak (N ++ [nm (l.getD k d0)])) ((k + 1 : Nat) : Int)) (hend : ∀ m mp, L (m + 1) mp l.length = NX mp) :
    ∀ (m k : Nat) (N : List ByteArray), k ≤ l.length → l.length - k < m → L m (Aak N) k = NX (Aak (N ++ (l.drop k).map nm))
  | 0, k, _, _, h => by omega
  | m + 1, k, N, hk, h => by
    by_cases e : k = l.length
    · subst e
      rw [hend, List.drop_of_length_le (Nat.le_refl _)]
      simp
    · have hlt : k < l.length := by omega
      rw [hst m k N hlt, name_loop hst hend m (k + 1) _ (by omega) (by omega), drop_at' (d := d0) hlt]
      simp
def badByte (c : UInt8) : Bool := decide ((c.toNat : Int) < 32) || (decide ((c.toNat : Int) > 126) || (c.toNat : Int) == 34)
def textErr (s : ByteArray) : Int := bif decide (120 < s.size) then 4 else bif s.data.toList.any badByte then 5 else 0
def okSet (x : SSet) : Bool := lenOk x.sigs
def okRel (r : SRel) : Bool := lenOk r.rules && (lenOk r.sets && (lenOk r.pubs && (lenOk r.subs && r.sets.all okSet)))
theorem okRel_len {r : SRel} (h : okRel r = true) : r.rules.length ≤ 9223372036854775807 ∧ r.sets.length ≤ 9223372036854775807 ∧ r.pubs.length ≤ 9223372036854775807 ∧ r.subs.length ≤ 9223372036854775807 ∧ r.sets.all okSet = true := by
  unfold okRel lenOk at h
  simp only [Bool.and_eq_true, decide_eq_true_eq] at h
  exact h
theorem all_getD {α : Type} {p : α → Bool} {l : List α} {d : α} (h : l.all p = true) (hd : p d = true) (i : Nat) : p (l.getD i d) = true := by
  by_cases hi : i < l.length
  · rw [List.all_eq_true] at h
    exact h _ (by simp [List.getD, hi])
  · have : l.getD i d = d := by simp [List.getD, hi]
    rw [this]; exact hd
end Go.Eb
namespace Go.Eb
open Go.RowKit
def decI (n : Int) : ByteArray := bif decide (n < 0) then (⟨#[45]⟩ : ByteArray) ++ decB n.natAbs else decB n.toNat
def tRelay' : ByteArray := ⟨#[114, 101, 108, 97, 121]⟩
def tZone' : ByteArray := ⟨#[122, 111, 110, 101]⟩
def tForward' : ByteArray := ⟨#[102, 111, 114, 119, 97, 114, 100]⟩
def tReverse' : ByteArray := ⟨#[114, 101, 118, 101, 114, 115, 101]⟩
def tLoop' : ByteArray := ⟨#[108, 111, 111, 112]⟩
def tScheme' : ByteArray := ⟨#[115, 99, 104, 101, 109, 101]⟩
def tUnderreach' : ByteArray := ⟨#[117, 110, 100, 101, 114, 114, 101, 97, 99, 104]⟩
def tOverreach' : ByteArray := ⟨#[111, 118, 101, 114, 114, 101, 97, 99, 104]⟩
def tBlocking' : ByteArray := ⟨#[98, 108, 111, 99, 107, 105, 110, 103]⟩
def tDefinite' : ByteArray := ⟨#[100, 101, 102, 105, 110, 105, 116, 101]⟩
def tInverse' : ByteArray := ⟨#[105, 110, 118, 101, 114, 115, 101]⟩
def tFail' : ByteArray := ⟨#[102, 97, 105, 108]⟩
def tReclose' : ByteArray := ⟨#[114, 101, 99, 108, 111, 115, 101]⟩
def tUnder' : ByteArray := ⟨#[117, 110, 100, 101, 114]⟩
def tOver' : ByteArray := ⟨#[111, 118, 101, 114]⟩
def tDifferential' : ByteArray := ⟨#[100, 105, 102, 102, 101, 114, 101, 110, 116, 105, 97, 108]⟩
def tRule' : ByteArray := ⟨#[114, 117, 108, 101]⟩
def tSet' : ByteArray := ⟨#[115, 101, 116]⟩
def tPublish' : ByteArray := ⟨#[112, 117, 98, 108, 105, 115, 104]⟩
def tSubscribe' : ByteArray := ⟨#[115, 117, 98, 115, 99, 114, 105, 98, 101]⟩
def encZone (i : Int) (on fw : Bool) (x r l d : Int) : List It := bif on then [say [tZone', decI i, bif fw then tForward' else tReverse', decI x, decI r, decI l, decI d]] else []
def schemeW (n : Int) : ByteArray := bif n == 1 then tUnderreach' else bif n == 2 then tOverreach' else tBlocking'
def encIf (b : Bool) (x : It) : List It := bif b then [x] else []
def encNum (r : SRel) : List It := encZone 1 r.zon0 r.zfw0 r.zx0 r.zr0 r.zl0 r.zd0 ++ encZone 2 r.zon1 r.zfw1 r.zx1 r.zr1 r.zl1 r.zd1 ++ encZone 3 r.zon2 r.zfw2 r.zx2 r.zr2 r.zl2 r.zd2
  ++ encIf (r.min != 0) (say [tLoop', decI r.min, decI r.kre, decI r.kim])
  ++ encIf (r.scheme != 0) (say [tScheme', schemeW r.scheme, decI r.wait, decI r.guard])
  ++ encIf r.don (say [tDefinite', decI r.dpk, decI r.ddl])
  ++ encIf r.ion (say [tInverse', decI r.ipk, decI r.idl])
  ++ encIf r.fon (say [tFail', decI r.fpk, decI r.fdl])
  ++ encIf (r.shots != 0) (say [tReclose', decI r.shots, decI r.dead, decI r.reclaim])
  ++ encIf r.uon (say [tUnder', decI r.upk, decI r.udl])
  ++ encIf r.oon (say [tOver', decI r.opk, decI r.odl])
  ++ encIf (r.diff != 0) (say [tDifferential', decI r.diff, decI r.num, decI r.den, decI r.harm])
def encRule (x : SRule) : It := .mk 0 [⟨tRule', false⟩, ⟨x.name, false⟩, ⟨x.text, true⟩] false []
def encSet (x : SSet) : It := say (tSet' :: x.name :: x.sigs)
def encPub (x : SPub) : It := say [tPublish', x.set, decI x.fst, decI x.max]
def encSub (x : SSub) : It := say [tSubscribe', x.loc, x.dev, x.set, x.sig]
def encLst (r : SRel) : List It := r.rules.map encRule ++ r.sets.map encSet ++ r.pubs.map encPub ++ r.subs.map encSub
def kindW (k : Int) : ByteArray := bif k == 1 then tLine' else bif k == 2 then tSource else tCoupler
def relW (s : SSta) (r : SRel) : List ByteArray := bif r.kind == 4 then [tRelay', r.name, tBus'] else [tRelay', r.name, kindW r.kind, (s.bays.getD r.bay.toNat bay0).name]
def encRel (s : SSta) (r : SRel) : It := .mk 0 (plainW (relW s r)) true (encNum r ++ encLst r)
def encRels (s : SSta) (l : List SRel) : List It := l.map (encRel s)
end Go.Eb
namespace Go.Eb
open Go.RowKit
theorem Asle.trans {a b c : List AV} (h : Asle a b) (k : Asle b c) : Asle a c := by
  refine ⟨h.1.trans k.1, fun i x z h1 h3 => ?_⟩
  have hlt : i < b.length := by rw [← h.1]; exact (List.getElem?_eq_some_iff.1 h1).1
  exact (h.2 i x _ h1 (List.getElem?_eq_getElem hlt)).trans (k.2 i _ z (List.getElem?_eq_getElem hlt) h3)
section
variable {α : Type} [Inhabited α] {enc : α → List AV}
theorem theT_of (inj : InjT enc) {x : List AV} {a : α} (h1 : Asle x (enc a)) (h2 : Asle (enc a) x) : theT enc x = a :=
  (inj _ _ (h2.trans (theT_le (okX_iff.2 ⟨a, h1⟩)))).symm
theorem okG_of (inj : InjT enc) {x : List AV} {a : α} {c : α → Bool} (h1 : Asle x (enc a)) (h2 : Asle (enc a) x) (h : c a = true) : okG enc c x = true := by
  unfold okG
  rw [theT_of inj h1 h2, okX_iff.2 ⟨a, h1⟩, h]; rfl
end
def plainC : C → Bool
  | .d (.v _) => true
  | _ => false
def plainA : AV → Bool
  | .c x => plainC x
  | .agg cs => cs.all plainC
  | .tup ps => ps.all fun p => p.2.all plainC
  | .u => true
section
variable {β β' : Bt} {w w' : World} {I I' : Im}
theorem plainC_ok {x : C} {v : Value} (h : plainC x = true) (hx : RepC β w I x v) : RepC β' w' I' x v := by
  match x, h with
  | .d (.v y), _ =>
    have hx : RepD w I (.v y) v := hx
    cases hx with
    | v _ h1 => exact RepD.v _ h1
theorem plainCs_ok {cs : List C} {vs : List Value} (h : cs.all plainC = true) (hx : RepCs β w I cs vs) : RepCs β' w' I' cs vs := by
  refine ⟨hx.1, fun i c v h1 h2 => plainC_ok ?_ (hx.2 i c v h1 h2)⟩
  rw [List.all_eq_true] at h
  exact h c (List.mem_of_getElem? h1)
theorem plainA_ok {x : AV} {v : Value} (h : plainA x = true) (hx : RepA β w I x v) : RepA β' w' I' x v := by
  cases x with
  | c x => exact plainC_ok h hx
  | agg cs => obtain ⟨vs, rfl, hv⟩ := hx; exact ⟨vs, rfl, plainCs_ok h hv⟩
  | tup ps =>
    obtain ⟨vs, rfl, hl, hv⟩ := hx
    refine ⟨vs, rfl, hl, fun i p x h1 h2 => ?_⟩
    have hp := hv i p x h1 h2
    have h : (ps.all fun p => p.2.all plainC) = true := h
    rw [List.all_eq_true] at h
    have hq := h p (List.mem_of_getElem? h1)
    obtain ⟨b, cs⟩ := p
    cases b with
    | true => obtain ⟨us, rfl, hu⟩ := hp; exact ⟨us, rfl, plainCs_ok hq hu⟩
    | false =>
      obtain ⟨c, hc, hu⟩ := hp
      have hc : cs = [c] := hc
      subst hc
      exact ⟨c, rfl, plainC_ok (by simpa using hq) hu⟩
  | u => trivial
end
theorem CR.lends {P : Program} {f : FuncId} {args ds : List AV} {H : Hp} {x : AV} (h : CR P f ds [] x []) (hp : plainA x = true) (hf : frzAs H args = some ds) : CR P f args H x H := by
  intro β I w vs hr ha
  have hr0 : RelH (fun _ => .free) [] (allB β I) w := by
    refine ⟨⟨(fun i j b hi => by cases hi), (fun i b hi => by cases hi), (fun i b o hi => by cases hi), (fun b o hi => ?_), hr.gl.step (fun _ _ hi => .inl hi) (fun _ _ _ => rfl)⟩, fun i _ => rfl, fun i B hB => by simp [look] at hB⟩
    rcases hi with hi | ⟨k, hk⟩
    · exact hr.old b o hi
    · exact hr.lt k b hk
  obtain ⟨hl, hreps⟩ := frzAs_ok (β' := fun _ => .free) hr args ds hf
  have ha0 : RepF (fun _ => .free) w (allB β I) ds vs := by
    refine ⟨by rw [hl]; exact ha.1, fun i y v h1 h2 => ?_⟩
    have hlt : i < args.length := by rw [← hl]; exact (List.getElem?_eq_some_iff.1 h1).1
    exact hreps i _ y v (List.getElem?_eq_getElem hlt) h1 (ha.2 i _ v (List.getElem?_eq_getElem hlt) h2)
  refine (h _ _ w vs hr0 ha0).mono fun e w' ⟨v, β', I', he, hr', hx, hE, hm⟩ => ?_
  have hblk : ∀ b, b < w.heap.size → w'.heap[b]? = w.heap[b]? := fun b hb => hE.block b hb (fun k hk => by cases hk)
  have hcell : ∀ b o, I b o → w'.cell? ⟨b, o, none⟩ = w.cell? ⟨b, o, none⟩ := fun b o hi => hE.cell b o (.inl hi)
  have hk : Keep β I w β I w' := ⟨.refl _, fun _ _ hi => hi, hcell, hE.shapes⟩
  have hpl : Place β I w' := ⟨hr.inj, fun i b hb => Nat.lt_of_lt_of_le (hr.lt i b hb) hE.size, hr.off, fun b o hi => Nat.lt_of_lt_of_le (hr.old b o hi) hE.size, hr.gl.step (fun _ _ hi => hi) hcell⟩
  refine ⟨v, β, I, he, ?_, plainA_ok hp hx, ⟨hE.os, hE.tape, hE.output, hE.size, fun b hb _ => hblk b hb, fun _ _ hi => hi, hcell, fun _ _ hi => .inl hi, fun i b hb => .inl ⟨i, hb⟩, hE.shapes⟩, .refl _⟩
  exact ⟨hpl, hr.dom, fun i B hB => (hr.blk i B hB).keep hk rfl (fun b hb => hblk b (hr.lt i b hb))⟩
theorem CX.cr {P : Program} {f : FuncId} {fn : Func} {c : Code} {args : List AV} {H : Hp} {x : AV} {H' : Hp} (hf : P.funcs[f]? = some fn) (hb : fn.body = some c) (h : CX P f args H x H') : CR P f args H x H' := by
  unfold CX at h
  rw [hf] at h
  simp only [hb, Option.isNone_some, Bool.false_eq_true, if_false] at h
  exact h
theorem CX.lends {P : Program} {f : FuncId} {fn : Func} {c : Code} {args ds : List AV} {H : Hp} {x : AV} (hf : P.funcs[f]? = some fn) (hb : fn.body = some c) (h : CX P f ds [] x []) (hp : plainA x = true) (hz : frzAs H args = some ds) : CX P f args H x H :=
  .of_cr hf hb ((h.cr hf hb).lends hp hz)
def ansL (ok : List AV → Bool) (r : List AV → AV) : (R : Type) → List AV → Hp → (AV → Hp → Option (T R)) → Option (T R) := fun _ args H k =>
  match frzAs H args with
  | some ds => bif ok ds then k (r ds) H else none
  | none => none
theorem AnsS.l {P : Program} {f : FuncId} {fn : Func} {ok : List AV → Bool} {r : List AV → AV} (hf : P.funcs[f]? = some fn) (hb : fn.body = some (Aad fn)) (hc : ∀ x, ok x = true → CX P f x [] (r x) [] ∧ plainA (r x) = true) : AnsS P f (ansL ok r) := by
  refine ⟨fun R args H k t h => ?_, fun args H => ?_⟩
  · unfold ansL at h
    cases hd : frzAs H args with
    | none => rw [hd] at h; cases h
    | some ds =>
      rw [hd] at h
      simp only [] at h
      cases hb' : ok ds with
      | false => rw [hb'] at h; cases h
      | true =>
        rw [hb'] at h
        obtain ⟨h1, h2⟩ := hc ds hb'
        exact ⟨_, _, h, h1.lends hf hb h2 hd⟩
  · unfold ansL
    cases frzAs H args with
    | none => exact .no fun R k => rfl
    | some ds => exact .bif _ (.one _ _ fun R k => rfl) (.no fun R k => rfl)
theorem AnsS.lt {P : Program} {f : FuncId} {fn : Func} {α : Type} [Inhabited α] {enc : α → List AV} {c : α → Bool} {r : α → AV} (hf : P.funcs[f]? = some fn) (hb : fn.body = some (Aad fn)) (hp : ∀ a, plainA (r a) = true)
    (hc : ∀ a, c a = true → CX P f (enc a) [] (r a) []) : AnsS P f (ansL (okG enc c) fun x => r (theT enc x)) := .l hf hb fun x h => by
  unfold okG at h
  simp only [Bool.and_eq_true] at h
  exact ⟨(hc _ h.2).ge (theT_le h.1) (.refl _), hp _⟩
theorem anyL_loop {α : Type} {p : α → Bool} {l : List α} {d0 : α} {L : Nat → Int → Option (T (AV × Hp))} {A B : Option (T (AV × Hp))}
    (hst : ∀ (m k : Nat), k < l.length → L (m + 1) k = bif p (l.getD k d0) then A else L m ((k + 1 : Nat) : Int)) (hend : ∀ m, L (m + 1) l.length = B) :
    ∀ (m k : Nat), k ≤ l.length → l.length - k < m → L m k = bif (l.drop k).any p then A else B
  | 0, k, _, h => by omega
  | m + 1, k, hk, h => by
    by_cases e : k = l.length
    · subst e
      rw [hend, List.drop_of_length_le (Nat.le_refl _)]
      rfl
    · have hlt : k < l.length := by omega
      rw [hst m k hlt, anyL_loop hst hend m (k + 1) (by omega) (by omega), drop_at' (d := d0) hlt]
      simp only [List.any_cons]
      cases p (l.getD k d0) <;> rfl
theorem seenr_loop {α : Type} {valid : α → Bool} {key : α → ByteArray} {rest : α → Int} {l : List α} {d0 : α} {L : Nat → Nat → (Nat → List D) → Int → Option (T (AV × Hp))} {NX : Option (T (AV × Hp))} (hl : l.length ≤ 9000)
    (hst : ∀ (m k n : Nat) (f : Nat → List D) (seen : List ByteArray), k < l.length → RL busC e0 n f seen → n ≤ 9000 → L (m + 1) n f k = bif !valid (l.getD k d0) then lN 7 else bif inB seen (key (l.getD k d0)) then lN 8 else bif rest (l.getD k d0) != 0 then lN (rest (l.getD k d0)) else L m (n + 1) (appF n f (Aaf (busC (key (l.getD k d0))) 1)) ((k + 1 : Nat) : Int))
    (hend : ∀ m n f, L (m + 1) n f l.length = NX) : ∀ (m k n : Nat) (f : Nat → List D) (seen : List ByteArray), RL busC e0 n f seen → seen.length = k → k ≤ l.length → l.length - k < m →
      L m n f k = bif listErr valid key rest seen (l.drop k) != 0 then lN (listErr valid key rest seen (l.drop k)) else NX
  | 0, k, n, f, seen, _, _, _, h => by omega
  | m + 1, k, n, f, seen, hr, hn, hk, h => by
    by_cases e : k = l.length
    · rw [e, hend, List.drop_of_length_le (Nat.le_refl _)]
      rfl
    · have hlt : k < l.length := by omega
      have hr' := hr.app' (x := key (l.getD k d0)) (sz := 1) rfl
      rw [hst m k n f seen hlt hr (by have := hr.len; omega), seenr_loop hl hst hend m (k + 1) _ _ _ hr' (by simp; omega) (by omega) (by omega), drop_at' (d := d0) hlt]
      simp only [listErr]
      cases valid (l.getD k d0) with
      | false => rfl
      | true =>
        cases inB seen (key (l.getD k d0)) with
        | true => rfl
        | false =>
          cases hz : (rest (l.getD k d0) != 0) with
          | true => simp only [Bool.not_true, cond_false, cond_true, hz]
          | false => rfl
theorem apOk16 {n : Nat} (h : n ≤ 9000) : (decide ((n + 1) * 16 ≤ 140737488355328) && decide (n + 1 ≤ 9223372036854775807)) = true := by
  rw [decide_eq_true (by omega), decide_eq_true (by omega)]; rfl
abbrev eIx := en2 (aD Aab) vS
theorem eIx_inj : InjT eIx := en2_inj (aD_inj (listD_inj (sz := 1) (d0 := e0) busC_inj)) vS_inj
def cIx (a : List ByteArray × ByteArray) : Bool := lenOk a.1
theorem ix_row {n : Nat} {f : Nat → List D} {l : List ByteArray} (hr : RL busC e0 n f l) (s : ByteArray) : Asle [.c (.d (.sl 1 n f)), vS s] (eIx (l, s)) ∧ Asle (eIx (l, s)) [.c (.d (.sl 1 n f)), vS s] :=
  ⟨.cons hr.de (.cons (.refl _) .nil), .cons hr.ed (.cons (.refl _) .nil)⟩
theorem ix_okr {n : Nat} {f : Nat → List D} {l : List ByteArray} (hr : RL busC e0 n f l) (hn : n ≤ 9000) (s : ByteArray) : okG eIx cIx [.c (.d (.sl 1 n f)), vS s] = true ∧ theT eIx [.c (.d (.sl 1 n f)), vS s] = (l, s) := by
  obtain ⟨h1, h2⟩ := ix_row hr s
  refine ⟨okG_of eIx_inj h1 h2 ?_, theT_of eIx_inj h1 h2⟩
  unfold cIx lenOk
  rw [decide_eq_true (by have := hr.len; simp only; omega)]
end Go.Eb
namespace Go.Eb
open Go.RowKit
def frzV (H : Hp) : List AV → Option (List AV × List Nat)
  | [] => some ([], [])
  | x :: r => match x with
    | .c c => match frz H 400 c with
      | some (d, ks) => match frzV H r with
        | some (l, ks') => some (.c (.d d) :: l, ks ++ ks')
        | none => none
      | none => none
    | .agg cs => match frzL H 400 cs with
      | some (ds, ks) => match frzV H r with
        | some (l, ks') => some (.agg (ds.map .d) :: l, ks ++ ks')
        | none => none
      | none => none
    | _ => none
def dataC : C → Bool
  | .d _ => true
  | _ => false
def dataA : AV → Bool
  | .c x => dataC x
  | .agg cs => cs.all dataC
  | _ => false
section
variable {β β' : Bt} {w : World} {I : Im} {H : Hp}
theorem dataC_ok {x : C} {v : Value} (h : dataC x = true) (hx : RepC β w I x v) : RepC β' w I x v := by
  match x, h with
  | .d y, _ => exact hx
theorem dataA_ok {x : AV} {v : Value} (h : dataA x = true) (hx : RepA β w I x v) : RepA β' w I x v := by
  cases x with
  | c x => exact dataC_ok h hx
  | agg cs =>
    obtain ⟨vs, rfl, hv⟩ := hx
    refine ⟨vs, rfl, hv.1, fun i c v h1 h2 => dataC_ok ?_ (hv.2 i c v h1 h2)⟩
    have h : cs.all dataC = true := h
    rw [List.all_eq_true] at h
    exact h c (List.mem_of_getElem? h1)
  | tup ps => cases h
  | u => cases h
theorem frzV_ok (hr : RelH β H I w) : ∀ (args ds : List AV) (ks : List Nat) (vs : List Value), frzV H args = some (ds, ks) → args.length = vs.length → (∀ (i : Nat) x v, args[i]? = some x → vs[i]? = some v → RepA β w I x v) →
    (∀ k ∈ ks, β k ≠ .free) ∧ ds.length = args.length ∧
    ∀ I' : Im, (∀ b o, I b o → I' b o) → (∀ k ∈ ks, ∀ b, (β k).blk = some b → ∀ o, I' b o) → ∀ (i : Nat) y v, ds[i]? = some y → vs[i]? = some v → ∀ β', RepA β' w I' y v
  | [], ds, ks, vs, h, _, _ => by
    simp only [frzV, Option.some.injEq, Prod.mk.injEq] at h
    obtain ⟨rfl, rfl⟩ := h
    exact ⟨fun k hk => by simp at hk, rfl, fun I' _ _ i y v h => by simp at h⟩
  | .c c :: r, ds, ks, [], h, hl, _ => by simp at hl
  | .c c :: r, ds, ks, v0 :: vs, h, hl, ha => by
    simp only [frzV] at h
    split at h
    · rename_i d ks1 hf
      split at h
      · rename_i l ks2 hl2
        simp only [Option.some.injEq, Prod.mk.injEq] at h
        obtain ⟨rfl, rfl⟩ := h
        obtain ⟨a1, a2, a3⟩ := frzV_ok hr r l ks2 vs hl2 (by simpa using hl) (fun i x v h1 h2 => ha (i + 1) x v (by simpa using h1) (by simpa using h2))
        have hv0 : RepC β w I c v0 := ha 0 _ v0 rfl rfl
        obtain ⟨f1, f2⟩ := frz_ok hr 400 c d ks1 v0 hf hv0
        refine ⟨fun k hk => ?_, by simp [a2], fun I' h1 h2 i y v e2 ev β' => ?_⟩
        · rcases List.mem_append.1 hk with hk | hk
          · exact f1 k hk
          · exact a1 k hk
        · cases i with
          | zero =>
            simp at e2 ev
            subst e2 ev
            exact f2 I' h1 (fun k hk => h2 k (List.mem_append.2 (.inl hk)))
          | succ i => exact a3 I' h1 (fun k hk => h2 k (List.mem_append.2 (.inr hk))) i y v (by simpa using e2) (by simpa using ev) β'
      · simp at h
    · simp at h
  | .agg cs :: r, ds, ks, [], h, hl, _ => by simp at hl
  | .agg cs :: r, ds, ks, v0 :: vs, h, hl, ha => by
    simp only [frzV] at h
    split at h
    · rename_i d ks1 hf
      split at h
      · rename_i l ks2 hl2
        simp only [Option.some.injEq, Prod.mk.injEq] at h
        obtain ⟨rfl, rfl⟩ := h
        obtain ⟨a1, a2, a3⟩ := frzV_ok hr r l ks2 vs hl2 (by simpa using hl) (fun i x v h1 h2 => ha (i + 1) x v (by simpa using h1) (by simpa using h2))
        obtain ⟨us, rfl, hu⟩ := ha 0 _ v0 rfl rfl
        obtain ⟨f1, f2⟩ := frzL_ok hr 400 cs d ks1 _ hf hu
        refine ⟨fun k hk => ?_, by simp [a2], fun I' h1 h2 i y v e2 ev β' => ?_⟩
        · rcases List.mem_append.1 hk with hk | hk
          · exact f1 k hk
          · exact a1 k hk
        · cases i with
          | zero =>
            simp at e2 ev
            subst e2 ev
            exact ⟨us, rfl, repDs_cs (f2 I' h1 (fun k hk => h2 k (List.mem_append.2 (.inl hk))))⟩
          | succ i => exact a3 I' h1 (fun k hk => h2 k (List.mem_append.2 (.inr hk))) i y v (by simpa using e2) (by simpa using ev) β'
      · simp at h
    · simp at h
  | .tup _ :: _, ds, ks, vs, h, _, _ => by simp [frzV] at h
  | .u :: _, ds, ks, vs, h, _, _ => by simp [frzV] at h
end
theorem CR.eats {P : Program} {f : FuncId} {args ds : List AV} {H : Hp} {x : AV} {ks : List Nat} (h : CR P f ds [] x []) (hp : dataA x = true) (hf : frzV H args = some (ds, ks)) : CR P f args H x (applyU (kills ks) H) := by
  intro β I w vs hr ha
  obtain ⟨hks, hl, hreps⟩ := frzV_ok hr args ds ks vs.toList hf (by simpa using ha.1) (fun i x v h1 h2 => ha.2 i x v h1 (by simpa using h2))
  have hr0 : RelH (fun _ => .free) [] (killI β I ks) w := by
    refine ⟨⟨(fun i j b hi => by cases hi), (fun i b hi => by cases hi), (fun i b o hi => by cases hi), (hr.toPlace.kill ks).old, (hr.toPlace.kill ks).gl⟩, fun i _ => rfl, fun i B hB => by have hB' : (none : Option Blk) = some B := hB; cases hB'⟩
  have ha0 : RepF (fun _ => .free) w (killI β I ks) ds vs := by
    refine ⟨by rw [hl]; exact ha.1, fun i y v h1 h2 => ?_⟩
    exact hreps _ (fun _ _ hi => .inl hi) (fun k hk b hb o => .inr ⟨k, hk, hb⟩) i y v h1 (by simpa using h2) _
  refine (h _ _ w vs hr0 ha0).mono fun e w' ⟨v, β', I', he, hr', hx, hE, hm⟩ => ?_
  have hblk : ∀ b, b < w.heap.size → w'.heap[b]? = w.heap[b]? := fun b hb => hE.block b hb (fun k hk => by cases hk)
  have hfree : ∀ k, β' k = .free := fun k => hr'.dom k rfl
  have hnew : ∀ b o, I' b o → killI β I ks b o ∨ w.heap.size ≤ b := fun b o hi => by
    rcases hE.newI b o hi with h1 | h1 | ⟨k, hk⟩
    · exact .inl h1
    · exact .inr h1
    · cases hk
  have hpl : Place (killB β ks) I' w' := by
    refine ⟨(hr.toPlace.kill ks).inj, fun i b hb => Nat.lt_of_lt_of_le ((hr.toPlace.kill ks).lt i b hb) hE.size, fun i b o hb hi => ?_, hr'.old, hr'.gl⟩
    rcases hnew b o hi with h1 | h1
    · exact (hr.toPlace.kill ks).off i b o hb h1
    · have := (hr.toPlace.kill ks).lt i b hb; omega
  have hmono : Mono β (killB β ks) := .kill β hks
  have hk : Keep β I w (killB β ks) I' w' := ⟨hmono, fun b o hi => hE.keepI b o (.inl hi), fun b o hi => hE.cell b o (.inl hi), hE.shapes⟩
  refine ⟨v, killB β ks, I', he, hr.step hpl hk (fun x hx => ?_) (fun x B hx => ?_), dataA_ok hp hx, ⟨hE.os, hE.tape, hE.output, hE.size, fun b hb _ => hblk b hb, fun b o hi => hE.keepI b o (.inl hi), fun b o hi => hE.cell b o (.inl hi), fun b o hi => ?_, fun i b hb => .inl ⟨i, (killB_blk hb).2⟩, hE.shapes⟩, hmono⟩
  · rw [lookU_kills] at hx
    split at hx
    · simp at hx
    · rename_i hn; exact ⟨by simp [killB, hn], fun b hb => hblk b (hr.lt x b hb)⟩
  · rw [lookU_kills] at hx
    split at hx
    · rename_i hn; simp at hx; subst hx; show killB β ks x = .dead; simp [killB, hn]
    · simp at hx
  · rcases hnew b o hi with h1 | h1
    · rcases h1 with h1 | ⟨k, _, hkb⟩
      · exact .inl h1
      · exact .inr (.inr ⟨k, hkb⟩)
    · exact .inr (.inl h1)
theorem CX.eats {P : Program} {f : FuncId} {fn : Func} {c : Code} {args ds : List AV} {H : Hp} {x : AV} {ks : List Nat} (hf : P.funcs[f]? = some fn) (hb : fn.body = some c) (h : CX P f ds [] x []) (hp : dataA x = true) (hz : frzV H args = some (ds, ks)) : CX P f args H x (applyU (kills ks) H) :=
  .of_cr hf hb ((h.cr hf hb).eats hp hz)
def ansE (ok : List AV → Bool) (r : List AV → AV) : (R : Type) → List AV → Hp → (AV → Hp → Option (T R)) → Option (T R) := fun _ args H k =>
  match frzV H args with
  | some (ds, ks) => bif ok ds then k (r ds) (applyU (kills ks) H) else none
  | none => none
theorem AnsS.e {P : Program} {f : FuncId} {fn : Func} {ok : List AV → Bool} {r : List AV → AV} (hf : P.funcs[f]? = some fn) (hb : fn.body = some (Aad fn)) (hc : ∀ x, ok x = true → CX P f x [] (r x) [] ∧ dataA (r x) = true) : AnsS P f (ansE ok r) := by
  refine ⟨fun R args H k t h => ?_, fun args H => ?_⟩
  · unfold ansE at h
    cases hd : frzV H args with
    | none => rw [hd] at h; cases h
    | some p =>
      obtain ⟨ds, ks⟩ := p
      rw [hd] at h
      simp only [] at h
      cases hb' : ok ds with
      | false => rw [hb'] at h; cases h
      | true =>
        rw [hb'] at h
        obtain ⟨h1, h2⟩ := hc ds hb'
        exact ⟨_, _, h, h1.eats hf hb h2 hd⟩
  · unfold ansE
    cases frzV H args with
    | none => exact .no fun R k => rfl
    | some p => exact .bif _ (.one _ _ fun R k => rfl) (.no fun R k => rfl)
end Go.Eb
namespace Go.Proofs.YtmnfibmlhmeheaaGreatDoor.en
open Go.RowKit Go.Eb
set_option maxRecDepth 100000
noncomputable def oPit (okd : List AV → Bool) (dcd : List AV → ByteArray) : Orc := Orc.cons 39 (ansG okd fun x => vS (dcd x)) Orc.nil
noncomputable def oPx : Orc := Orc.cons 16 (inl Tryz.prog Orc.nil na 12 Tryz.f16) Orc.nil
noncomputable def oPst (okd : List AV → Bool) (dcd : List AV → ByteArray) : Orc := Orc.cons 15 (inl Tryz.prog oPx na 12 Tryz.f15) (Orc.cons 16 (inl Tryz.prog Orc.nil na 12 Tryz.f16) (Orc.cons 40 (inl Tryz.prog Orc.nil na 12 Tryz.f40) (Orc.cons 38 (inl Tryz.prog (oPit okd dcd) na 12 Tryz.f38) (oPit okd dcd))))
noncomputable def oPnu (okd : List AV → Bool) (dcd : List AV → ByteArray) : Orc := Orc.cons 37 (inl Tryz.prog (oPst okd dcd) na 12 Tryz.f37) (oPst okd dcd)
noncomputable def annnum : Ann := annOf [(4, ⟨[3, 11, 1, 4, 12], [(3, 0, 4, 57)]⟩), (100013, ⟨[3, 1, 4], [(3, 0, 4, 57)]⟩), (100014, ⟨[3, 1, 4], [(3, 0, 4, 57)]⟩), (100016, ⟨[3, 1, 4], [(3, 0, 4, 57)]⟩), (100017, ⟨[3, 1, 4], [(3, 0, 4, 57)]⟩), (100018, ⟨[3, 1, 4], [(3, 0, 4, 57)]⟩), (100019, ⟨[3, 1, 4], [(3, 0, 4, 57)]⟩), (100020, ⟨[3, 1, 4], [(3, 0, 4, 57)]⟩), (100021, ⟨[3, 1, 4], [(3, 0, 4, 57)]⟩), (100022, ⟨[3, 1, 4], [(3, 0, 4, 57)]⟩), (100023, ⟨[3], [(3, 0, 4, 57)]⟩)]
noncomputable def Lnum_4 (okd : List AV → Bool) (dcd : List AV → ByteArray) (r : SRel) (g m : Nat) (n2 : Nat) (f2 : Nat → List D) (i12 : Int) := LK Tryz.prog (oPnu okd dcd) annnum 0 g Tryz.f18 4 m ⟨frm [(1, .c (.ptr 0 0)), (3, .c (.ptr 1 0)), (4, .c (.fn 37 [] [Rf.ptr 1 0])), (11, AV.agg [.d (.v (.bool (SRel.zon0 r))), .d (.v (.bool (SRel.zfw0 r))), .d (.v (.int .i64 (SRel.zx0 r))), .d (.v (.int .i64 (SRel.zr0 r))), .d (.v (.int .i64 (SRel.zl0 r))), .d (.v (.int .i64 (SRel.zd0 r))), .d (.v (.bool (SRel.zon1 r))), .d (.v (.bool (SRel.zfw1 r))), .d (.v (.int .i64 (SRel.zx1 r))), .d (.v (.int .i64 (SRel.zr1 r))), .d (.v (.int .i64 (SRel.zl1 r))), .d (.v (.int .i64 (SRel.zd1 r))), .d (.v (.bool (SRel.zon2 r))), .d (.v (.bool (SRel.zfw2 r))), .d (.v (.int .i64 (SRel.zx2 r))), .d (.v (.int .i64 (SRel.zr2 r))), .d (.v (.int .i64 (SRel.zl2 r))), .d (.v (.int .i64 (SRel.zd2 r)))]), (12, .c (.d (.v (.int .i64 i12))))] 0 Tryz.f18.ntmps, [(0, Blk.cells (List.map C.d (relC r)) 51), (1, Blk.cells [C.row 2 4 n2] 32), (2, Blk.row n2 f2 4 57)], 3⟩
noncomputable def Lnum_13 (okd : List AV → Bool) (dcd : List AV → ByteArray) (r : SRel) (g m : Nat) (n2 : Nat) (f2 : Nat → List D) := GK Tryz.prog (oPnu okd dcd) annnum 0 g Tryz.f18 13 m ⟨frm [(1, .c (.ptr 0 0)), (3, .c (.ptr 1 0)), (4, .c (.fn 37 [] [Rf.ptr 1 0]))] 0 Tryz.f18.ntmps, [(0, Blk.cells (List.map C.d (relC r)) 51), (1, Blk.cells [C.row 2 4 n2] 32), (2, Blk.row n2 f2 4 57)], 3⟩
noncomputable def Lnum_14 (okd : List AV → Bool) (dcd : List AV → ByteArray) (r : SRel) (g m : Nat) (n2 : Nat) (f2 : Nat → List D) := GK Tryz.prog (oPnu okd dcd) annnum 0 g Tryz.f18 14 m ⟨frm [(1, .c (.ptr 0 0)), (3, .c (.ptr 1 0)), (4, .c (.fn 37 [] [Rf.ptr 1 0]))] 0 Tryz.f18.ntmps, [(0, Blk.cells (List.map C.d (relC r)) 51), (1, Blk.cells [C.row 2 4 n2] 32), (2, Blk.row n2 f2 4 57)], 3⟩
noncomputable def Lnum_16 (okd : List AV → Bool) (dcd : List AV → ByteArray) (r : SRel) (g m : Nat) (n2 : Nat) (f2 : Nat → List D) := GK Tryz.prog (oPnu okd dcd) annnum 0 g Tryz.f18 16 m ⟨frm [(1, .c (.ptr 0 0)), (3, .c (.ptr 1 0)), (4, .c (.fn 37 [] [Rf.ptr 1 0]))] 0 Tryz.f18.ntmps, [(0, Blk.cells (List.map C.d (relC r)) 51), (1, Blk.cells [C.row 2 4 n2] 32), (2, Blk.row n2 f2 4 57)], 3⟩
noncomputable def Lnum_17 (okd : List AV → Bool) (dcd : List AV → ByteArray) (r : SRel) (g m : Nat) (n2 : Nat) (f2 : Nat → List D) := GK Tryz.prog (oPnu okd dcd) annnum 0 g Tryz.f18 17 m ⟨frm [(1, .c (.ptr 0 0)), (3, .c (.ptr 1 0)), (4, .c (.fn 37 [] [Rf.ptr 1 0]))] 0 Tryz.f18.ntmps, [(0, Blk.cells (List.map C.d (relC r)) 51), (1, Blk.cells [C.row 2 4 n2] 32), (2, Blk.row n2 f2 4 57)], 3⟩
noncomputable def Lnum_18 (okd : List AV → Bool) (dcd : List AV → ByteArray) (r : SRel) (g m : Nat) (n2 : Nat) (f2 : Nat → List D) := GK Tryz.prog (oPnu okd dcd) annnum 0 g Tryz.f18 18 m ⟨frm [(1, .c (.ptr 0 0)), (3, .c (.ptr 1 0)), (4, .c (.fn 37 [] [Rf.ptr 1 0]))] 0 Tryz.f18.ntmps, [(0, Blk.cells (List.map C.d (relC r)) 51), (1, Blk.cells [C.row 2 4 n2] 32), (2, Blk.row n2 f2 4 57)], 3⟩
noncomputable def Lnum_19 (okd : List AV → Bool) (dcd : List AV → ByteArray) (r : SRel) (g m : Nat) (n2 : Nat) (f2 : Nat → List D) := GK Tryz.prog (oPnu okd dcd) annnum 0 g Tryz.f18 19 m ⟨frm [(1, .c (.ptr 0 0)), (3, .c (.ptr 1 0)), (4, .c (.fn 37 [] [Rf.ptr 1 0]))] 0 Tryz.f18.ntmps, [(0, Blk.cells (List.map C.d (relC r)) 51), (1, Blk.cells [C.row 2 4 n2] 32), (2, Blk.row n2 f2 4 57)], 3⟩
noncomputable def Lnum_20 (okd : List AV → Bool) (dcd : List AV → ByteArray) (r : SRel) (g m : Nat) (n2 : Nat) (f2 : Nat → List D) := GK Tryz.prog (oPnu okd dcd) annnum 0 g Tryz.f18 20 m ⟨frm [(1, .c (.ptr 0 0)), (3, .c (.ptr 1 0)), (4, .c (.fn 37 [] [Rf.ptr 1 0]))] 0 Tryz.f18.ntmps, [(0, Blk.cells (List.map C.d (relC r)) 51), (1, Blk.cells [C.row 2 4 n2] 32), (2, Blk.row n2 f2 4 57)], 3⟩
noncomputable def Lnum_21 (okd : List AV → Bool) (dcd : List AV → ByteArray) (r : SRel) (g m : Nat) (n2 : Nat) (f2 : Nat → List D) := GK Tryz.prog (oPnu okd dcd) annnum 0 g Tryz.f18 21 m ⟨frm [(1, .c (.ptr 0 0)), (3, .c (.ptr 1 0)), (4, .c (.fn 37 [] [Rf.ptr 1 0]))] 0 Tryz.f18.ntmps, [(0, Blk.cells (List.map C.d (relC r)) 51), (1, Blk.cells [C.row 2 4 n2] 32), (2, Blk.row n2 f2 4 57)], 3⟩
noncomputable def Lnum_22 (okd : List AV → Bool) (dcd : List AV → ByteArray) (r : SRel) (g m : Nat) (n2 : Nat) (f2 : Nat → List D) := GK Tryz.prog (oPnu okd dcd) annnum 0 g Tryz.f18 22 m ⟨frm [(1, .c (.ptr 0 0)), (3, .c (.ptr 1 0)), (4, .c (.fn 37 [] [Rf.ptr 1 0]))] 0 Tryz.f18.ntmps, [(0, Blk.cells (List.map C.d (relC r)) 51), (1, Blk.cells [C.row 2 4 n2] 32), (2, Blk.row n2 f2 4 57)], 3⟩
noncomputable def Lnum_23 (okd : List AV → Bool) (dcd : List AV → ByteArray) (r : SRel) (g m : Nat) (n1 : Nat) (f1 : Nat → List D) := GK Tryz.prog (oPnu okd dcd) annnum 0 g Tryz.f18 23 m ⟨frm [(3, .c (.ptr 0 0))] 0 Tryz.f18.ntmps, [(0, Blk.cells [C.row 1 4 n1] 32), (1, Blk.row n1 f1 4 57)], 2⟩
theorem bnum : Tryz.f18.body = some (Aad Tryz.f18) := by kernel_rfl
theorem evnum (okd : List AV → Bool) (dcd : List AV → ByteArray) (r : SRel) (g : Nat) : Aal Tryz.prog (oPnu okd dcd) annnum g Tryz.f18 (Aad Tryz.f18) [aRel r] [] =
 Lnum_4 okd dcd r g g 0 (fun x => []) ((0 : Int)) := by kernel_rfl
theorem stnum_13 (okd : List AV → Bool) (dcd : List AV → ByteArray) (r : SRel) (g m : Nat) (n2 : Nat) (f2 : Nat → List D) : Lnum_13 okd dcd r g (m + 1) n2 f2 =
 (bif SRel.min r != (0 : Int) then (bif okd [AV.c (.d (.v (.int .i64 (SRel.min r))))] then (bif okd [AV.c (.d (.v (.int .i64 (SRel.kre r))))] then (bif
 okd [AV.c (.d (.v (.int .i64 (SRel.kim r))))] then (bif decide ((n2 + 1) * 64 ≤ 140737488355328) && decide (n2 + 1 ≤
 9223372036854775807) then (bif decide ((0 : Int) ≤ (↑n2 : Int)) && decide ((↑n2 : Int) < (↑(n2 + 1) : Int)) then Lnum_14 okd dcd r g g (n2 + 1) (fun j => bif
 Nat.beq j (Int.toNat (↑n2 : Int)) then splice (appF n2 f2 (Aaf [D.v (.int .i64 (0 : Int)), D.v (.slice none 0 0), D.v (.bool false), D.v
 (Value.slice none 0 0)] (3 + 1)) j) 0 [D.v (.int .i64 (0 : Int)), D.sl (1 + 1) (0 + 1 + 1
 + 1 + 1) (Aaf [D.v (.string (⟨#[108, 111, 111, 112]⟩)), D.v (.bool false), D.v (.string (dcd
 [AV.c (.d (.v (.int .i64 (SRel.min r))))])), D.v (.bool false), D.v (.string (dcd [AV.c (.d (.v (.int .i64 (SRel.kre r))))])), D.v (Value.bool
 false), D.v (.string (dcd [AV.c (.d (.v (.int .i64 (SRel.kim r))))])), D.v (.bool false)] (1 + 1)), D.v (.bool false), D.v (Value.slice
 none 0 0)] else appF n2 f2 (Aaf [D.v (.int .i64 (0 : Int)), D.v (.slice none 0 0), D.v (.bool false), D.v (Value.slice none
 0 0)] (3 + 1)) j) else none) else none) else none) else none) else none) else Lnum_14 okd dcd r g g n2 f2) := by kernel_rfl
theorem stnum_14 (okd : List AV → Bool) (dcd : List AV → ByteArray) (r : SRel) (g m : Nat) (n2 : Nat) (f2 : Nat → List D) : Lnum_14 okd dcd r g (m + 1) n2 f2 =
 (bif SRel.scheme r != (0 : Int) then (bif SRel.scheme r == (1 : Int) then (bif okd [AV.c (.d (.v (.int .i64 (SRel.wait r))))] then (bif okd [AV.c (C.d (D.v (Value.int
 IntKind.i64 (SRel.guard r))))] then (bif decide ((n2 + 1) * 64 ≤ 140737488355328) && decide (n2 + 1 ≤ 9223372036854775807) then (bif decide
 ((0 : Int) ≤ (↑n2 : Int)) && decide ((↑n2 : Int) < (↑(n2 + 1) : Int)) then Lnum_16 okd dcd r g g (n2 + 1) (fun j => bif Nat.beq j (Int.toNat (↑n2 : Int)) then splice
 (appF n2 f2 (Aaf [D.v (.int .i64 (0 : Int)), D.v (.slice none 0 0), D.v (.bool false), D.v (.slice none 0 0)] (3
 + 1)) j) 0 [D.v (.int .i64 (0 : Int)), D.sl (1 + 1) (0 + 1 + 1 + 1 + 1) (Aaf [D.v (Value.string
 (⟨#[115, 99, 104, 101, 109, 101]⟩)), D.v (.bool false), D.v (.string (⟨#[117,
 110, 100, 101, 114, 114, 101, 97, 99, 104]⟩)), D.v (.bool false), D.v (Value.string
 (dcd [AV.c (.d (.v (.int .i64 (SRel.wait r))))])), D.v (.bool false), D.v (.string (dcd [AV.c (.d (.v (.int .i64 (SRel.guard r))))])), D.v
 (Value.bool false)] (1 + 1)), D.v (.bool false), D.v (.slice none 0 0)] else appF n2 f2 (Aaf [D.v (.int .i64 (0 : Int)), D.v
 (Value.slice none 0 0), D.v (.bool false), D.v (.slice none 0 0)] (3 + 1)) j) else none) else none) else none) else none)
 else (bif SRel.scheme r == (2 : Int) then (bif okd [AV.c (.d (.v (.int .i64 (SRel.wait r))))] then (bif okd [AV.c (.d (.v (.int .i64 (SRel.guard r))))]
 then (bif decide ((n2 + 1) * 64 ≤ 140737488355328) && decide (n2 + 1 ≤ 9223372036854775807) then (bif decide ((0 : Int) ≤ (↑n2 : Int)) &&
 decide ((↑n2 : Int) < (↑(n2 + 1) : Int)) then Lnum_16 okd dcd r g g (n2 + 1) (fun j => bif Nat.beq j (Int.toNat (↑n2 : Int)) then splice (appF n2 f2 (Aaf [D.v
 (Value.int IntKind.i64 (0 : Int)), D.v (.slice none 0 0), D.v (.bool false), D.v (.slice none 0 0)] (3 + 1)) j) (0 :
 Nat) [D.v (.int .i64 (0 : Int)), D.sl (1 + 1) (0 + 1 + 1 + 1 + 1) (Aaf [D.v (.string (⟨#[(115
 : UInt8), 99, 104, 101, 109, 101]⟩)), D.v (.bool false), D.v (.string (⟨#[111, 118, (101 :
 UInt8), 114, 114, 101, 97, 99, 104]⟩)), D.v (.bool false), D.v (.string (dcd [AV.c (C.d (D.v (Value.int
 IntKind.i64 (SRel.wait r))))])), D.v (.bool false), D.v (.string (dcd [AV.c (.d (.v (.int .i64 (SRel.guard r))))])), D.v (.bool false)] (1 + (1
 : Nat))), D.v (.bool false), D.v (.slice none 0 0)] else appF n2 f2 (Aaf [D.v (.int .i64 (0 : Int)), D.v (Value.slice none 0 (0 :
 Nat)), D.v (.bool false), D.v (.slice none 0 0)] (3 + 1)) j) else none) else none) else none) else none) else (bif okd [AV.c (C.d (D.v
 (Value.int IntKind.i64 (SRel.wait r))))] then (bif okd [AV.c (.d (.v (.int .i64 (SRel.guard r))))] then (bif decide ((n2 + 1) * 64 ≤ (140737488355328 :
 Nat)) && decide (n2 + 1 ≤ 9223372036854775807) then (bif decide ((0 : Int) ≤ (↑n2 : Int)) && decide ((↑n2 : Int) < (↑(n2 + 1) : Int)) then Lnum_16 okd dcd r
 g g (n2 + 1) (fun j => bif Nat.beq j (Int.toNat (↑n2 : Int)) then splice (appF n2 f2 (Aaf [D.v (.int .i64 (0 : Int)), D.v (Value.slice none 0 (0 :
 Nat)), D.v (.bool false), D.v (.slice none 0 0)] (3 + 1)) j) 0 [D.v (.int .i64 (0 : Int)), D.sl (1 + 1)
 (0 + 1 + 1 + 1 + 1) (Aaf [D.v (.string (⟨#[115, 99, 104, 101, 109, (101
 : UInt8)]⟩)), D.v (.bool false), D.v (.string (⟨#[98, 108, 111, 99, 107, 105, 110, (103 :
 UInt8)]⟩)), D.v (.bool false), D.v (.string (dcd [AV.c (.d (.v (.int .i64 (SRel.wait r))))])), D.v (.bool false), D.v (.string (dcd [AV.c (C.d (D.v
 (Value.int IntKind.i64 (SRel.guard r))))])), D.v (.bool false)] (1 + 1)), D.v (.bool false), D.v (.slice none 0 0)] else appF n2 f2
 (Aaf [D.v (.int .i64 (0 : Int)), D.v (.slice none 0 0), D.v (.bool false), D.v (.slice none 0 0)] (3 + (1 :
 Nat))) j) else none) else none) else none) else none))) else Lnum_16 okd dcd r g g n2 f2) := by kernel_rfl
theorem stnum_16 (okd : List AV → Bool) (dcd : List AV → ByteArray) (r : SRel) (g m : Nat) (n2 : Nat) (f2 : Nat → List D) : Lnum_16 okd dcd r g (m + 1) n2 f2 =
 (bif SRel.don r then (bif okd [AV.c (.d (.v (.int .i64 (SRel.dpk r))))] then (bif okd [AV.c (.d (.v (.int .i64 (SRel.ddl r))))] then (bif decide ((n2 +
 1) * 64 ≤ 140737488355328) && decide (n2 + 1 ≤ 9223372036854775807) then (bif decide ((0 : Int) ≤ (↑n2 : Int)) && decide ((↑n2 : Int) < (↑(n2
 + 1) : Int)) then Lnum_17 okd dcd r g g (n2 + 1) (fun j => bif Nat.beq j (Int.toNat (↑n2 : Int)) then splice (appF n2 f2 (Aaf [D.v (.int .i64 (0 :
 Int)), D.v (.slice none 0 0), D.v (.bool false), D.v (.slice none 0 0)] (3 + 1)) j) 0 [D.v (Value.int
 IntKind.i64 (0 : Int)), D.sl (1 + 1) (0 + 1 + 1 + 1) (Aaf [D.v (.string (⟨#[100, 101, (102 :
 UInt8), 105, 110, 105, 116, 101]⟩)), D.v (.bool false), D.v (.string (dcd [AV.c (.d (.v (.int .i64 (SRel.dpk
 r))))])), D.v (.bool false), D.v (.string (dcd [AV.c (.d (.v (.int .i64 (SRel.ddl r))))])), D.v (.bool false)] (1 + 1)), D.v (Value.bool
 false), D.v (.slice none 0 0)] else appF n2 f2 (Aaf [D.v (.int .i64 (0 : Int)), D.v (.slice none 0 0), D.v (Value.bool
 false), D.v (.slice none 0 0)] (3 + 1)) j) else none) else none) else none) else none) else Lnum_17 okd dcd r g g n2 f2) := by kernel_rfl
theorem stnum_17 (okd : List AV → Bool) (dcd : List AV → ByteArray) (r : SRel) (g m : Nat) (n2 : Nat) (f2 : Nat → List D) : Lnum_17 okd dcd r g (m + 1) n2 f2 =
 (bif SRel.ion r then (bif okd [AV.c (.d (.v (.int .i64 (SRel.ipk r))))] then (bif okd [AV.c (.d (.v (.int .i64 (SRel.idl r))))] then (bif decide ((n2 +
 1) * 64 ≤ 140737488355328) && decide (n2 + 1 ≤ 9223372036854775807) then (bif decide ((0 : Int) ≤ (↑n2 : Int)) && decide ((↑n2 : Int) < (↑(n2
 + 1) : Int)) then Lnum_18 okd dcd r g g (n2 + 1) (fun j => bif Nat.beq j (Int.toNat (↑n2 : Int)) then splice (appF n2 f2 (Aaf [D.v (.int .i64 (0 :
 Int)), D.v (.slice none 0 0), D.v (.bool false), D.v (.slice none 0 0)] (3 + 1)) j) 0 [D.v (Value.int
 IntKind.i64 (0 : Int)), D.sl (1 + 1) (0 + 1 + 1 + 1) (Aaf [D.v (.string (⟨#[105, 110, (118 :
 UInt8), 101, 114, 115, 101]⟩)), D.v (.bool false), D.v (.string (dcd [AV.c (.d (.v (.int .i64 (SRel.ipk r))))])), D.v
 (Value.bool false), D.v (.string (dcd [AV.c (.d (.v (.int .i64 (SRel.idl r))))])), D.v (.bool false)] (1 + 1)), D.v (.bool false), D.v
 (Value.slice none 0 0)] else appF n2 f2 (Aaf [D.v (.int .i64 (0 : Int)), D.v (.slice none 0 0), D.v (.bool false), D.v
 (Value.slice none 0 0)] (3 + 1)) j) else none) else none) else none) else none) else Lnum_18 okd dcd r g g n2 f2) := by kernel_rfl
theorem stnum_18 (okd : List AV → Bool) (dcd : List AV → ByteArray) (r : SRel) (g m : Nat) (n2 : Nat) (f2 : Nat → List D) : Lnum_18 okd dcd r g (m + 1) n2 f2 =
 (bif SRel.fon r then (bif okd [AV.c (.d (.v (.int .i64 (SRel.fpk r))))] then (bif okd [AV.c (.d (.v (.int .i64 (SRel.fdl r))))] then (bif decide ((n2 +
 1) * 64 ≤ 140737488355328) && decide (n2 + 1 ≤ 9223372036854775807) then (bif decide ((0 : Int) ≤ (↑n2 : Int)) && decide ((↑n2 : Int) < (↑(n2
 + 1) : Int)) then Lnum_19 okd dcd r g g (n2 + 1) (fun j => bif Nat.beq j (Int.toNat (↑n2 : Int)) then splice (appF n2 f2 (Aaf [D.v (.int .i64 (0 :
 Int)), D.v (.slice none 0 0), D.v (.bool false), D.v (.slice none 0 0)] (3 + 1)) j) 0 [D.v (Value.int
 IntKind.i64 (0 : Int)), D.sl (1 + 1) (0 + 1 + 1 + 1) (Aaf [D.v (.string (⟨#[102, 97, (105 :
 UInt8), 108]⟩)), D.v (.bool false), D.v (.string (dcd [AV.c (.d (.v (.int .i64 (SRel.fpk r))))])), D.v (.bool false), D.v (.string (dcd
 [AV.c (.d (.v (.int .i64 (SRel.fdl r))))])), D.v (.bool false)] (1 + 1)), D.v (.bool false), D.v (.slice none 0 0)] else
 appF n2 f2 (Aaf [D.v (.int .i64 (0 : Int)), D.v (.slice none 0 0), D.v (.bool false), D.v (.slice none 0 0)] (3
 + 1)) j) else none) else none) else none) else none) else Lnum_19 okd dcd r g g n2 f2) := by kernel_rfl
theorem stnum_19 (okd : List AV → Bool) (dcd : List AV → ByteArray) (r : SRel) (g m : Nat) (n2 : Nat) (f2 : Nat → List D) : Lnum_19 okd dcd r g (m + 1) n2 f2 =
 (bif SRel.shots r != (0 : Int) then (bif okd [AV.c (.d (.v (.int .i64 (SRel.shots r))))] then (bif okd [AV.c (.d (.v (.int .i64 (SRel.dead r))))] then
 (bif okd [AV.c (.d (.v (.int .i64 (SRel.reclaim r))))] then (bif decide ((n2 + 1) * 64 ≤ 140737488355328) && decide (n2 + 1 ≤
 9223372036854775807) then (bif decide ((0 : Int) ≤ (↑n2 : Int)) && decide ((↑n2 : Int) < (↑(n2 + 1) : Int)) then Lnum_20 okd dcd r g g (n2 + 1) (fun j => bif
 Nat.beq j (Int.toNat (↑n2 : Int)) then splice (appF n2 f2 (Aaf [D.v (.int .i64 (0 : Int)), D.v (.slice none 0 0), D.v (.bool false), D.v
 (Value.slice none 0 0)] (3 + 1)) j) 0 [D.v (.int .i64 (0 : Int)), D.sl (1 + 1) (0 + 1 + 1
 + 1 + 1) (Aaf [D.v (.string (⟨#[114, 101, 99, 108, 111, 115, 101]⟩)), D.v
 (Value.bool false), D.v (.string (dcd [AV.c (.d (.v (.int .i64 (SRel.shots r))))])), D.v (.bool false), D.v (.string (dcd [AV.c (C.d (D.v (Value.int
 IntKind.i64 (SRel.dead r))))])), D.v (.bool false), D.v (.string (dcd [AV.c (.d (.v (.int .i64 (SRel.reclaim r))))])), D.v (.bool false)] (1 +
 1)), D.v (.bool false), D.v (.slice none 0 0)] else appF n2 f2 (Aaf [D.v (.int .i64 (0 : Int)), D.v (Value.slice none 0 (0 :
 Nat)), D.v (.bool false), D.v (.slice none 0 0)] (3 + 1)) j) else none) else none) else none) else none) else none) else Lnum_20 okd dcd r
 g g n2 f2) := by kernel_rfl
theorem stnum_20 (okd : List AV → Bool) (dcd : List AV → ByteArray) (r : SRel) (g m : Nat) (n2 : Nat) (f2 : Nat → List D) : Lnum_20 okd dcd r g (m + 1) n2 f2 =
 (bif SRel.uon r then (bif okd [AV.c (.d (.v (.int .i64 (SRel.upk r))))] then (bif okd [AV.c (.d (.v (.int .i64 (SRel.udl r))))] then (bif decide ((n2 +
 1) * 64 ≤ 140737488355328) && decide (n2 + 1 ≤ 9223372036854775807) then (bif decide ((0 : Int) ≤ (↑n2 : Int)) && decide ((↑n2 : Int) < (↑(n2
 + 1) : Int)) then Lnum_21 okd dcd r g g (n2 + 1) (fun j => bif Nat.beq j (Int.toNat (↑n2 : Int)) then splice (appF n2 f2 (Aaf [D.v (.int .i64 (0 :
 Int)), D.v (.slice none 0 0), D.v (.bool false), D.v (.slice none 0 0)] (3 + 1)) j) 0 [D.v (Value.int
 IntKind.i64 (0 : Int)), D.sl (1 + 1) (0 + 1 + 1 + 1) (Aaf [D.v (.string (⟨#[117, 110, (100 :
 UInt8), 101, 114]⟩)), D.v (.bool false), D.v (.string (dcd [AV.c (.d (.v (.int .i64 (SRel.upk r))))])), D.v (.bool false), D.v
 (Value.string (dcd [AV.c (.d (.v (.int .i64 (SRel.udl r))))])), D.v (.bool false)] (1 + 1)), D.v (.bool false), D.v (Value.slice none (0 :
 Nat) 0)] else appF n2 f2 (Aaf [D.v (.int .i64 (0 : Int)), D.v (.slice none 0 0), D.v (.bool false), D.v (Value.slice none 0
 0)] (3 + 1)) j) else none) else none) else none) else none) else Lnum_21 okd dcd r g g n2 f2) := by kernel_rfl
theorem stnum_21 (okd : List AV → Bool) (dcd : List AV → ByteArray) (r : SRel) (g m : Nat) (n2 : Nat) (f2 : Nat → List D) : Lnum_21 okd dcd r g (m + 1) n2 f2 =
 (bif SRel.oon r then (bif okd [AV.c (.d (.v (.int .i64 (SRel.opk r))))] then (bif okd [AV.c (.d (.v (.int .i64 (SRel.odl r))))] then (bif decide ((n2 +
 1) * 64 ≤ 140737488355328) && decide (n2 + 1 ≤ 9223372036854775807) then (bif decide ((0 : Int) ≤ (↑n2 : Int)) && decide ((↑n2 : Int) < (↑(n2
 + 1) : Int)) then Lnum_22 okd dcd r g g (n2 + 1) (fun j => bif Nat.beq j (Int.toNat (↑n2 : Int)) then splice (appF n2 f2 (Aaf [D.v (.int .i64 (0 :
 Int)), D.v (.slice none 0 0), D.v (.bool false), D.v (.slice none 0 0)] (3 + 1)) j) 0 [D.v (Value.int
 IntKind.i64 (0 : Int)), D.sl (1 + 1) (0 + 1 + 1 + 1) (Aaf [D.v (.string (⟨#[111, 118, (101 :
 UInt8), 114]⟩)), D.v (.bool false), D.v (.string (dcd [AV.c (.d (.v (.int .i64 (SRel.opk r))))])), D.v (.bool false), D.v (.string (dcd
 [AV.c (.d (.v (.int .i64 (SRel.odl r))))])), D.v (.bool false)] (1 + 1)), D.v (.bool false), D.v (.slice none 0 0)] else
 appF n2 f2 (Aaf [D.v (.int .i64 (0 : Int)), D.v (.slice none 0 0), D.v (.bool false), D.v (.slice none 0 0)] (3
 + 1)) j) else none) else none) else none) else none) else Lnum_22 okd dcd r g g n2 f2) := by kernel_rfl
theorem stnum_22 (okd : List AV → Bool) (dcd : List AV → ByteArray) (r : SRel) (g m : Nat) (n2 : Nat) (f2 : Nat → List D) : Lnum_22 okd dcd r g (m + 1) n2 f2 =
 (bif SRel.diff r != (0 : Int) then (bif okd [AV.c (.d (.v (.int .i64 (SRel.diff r))))] then (bif okd [AV.c (.d (.v (.int .i64 (SRel.num r))))] then (bif
 okd [AV.c (.d (.v (.int .i64 (SRel.den r))))] then (bif okd [AV.c (.d (.v (.int .i64 (SRel.harm r))))] then (bif decide ((n2 + 1) * 64 ≤
 140737488355328) && decide (n2 + 1 ≤ 9223372036854775807) then (bif decide ((0 : Int) ≤ (↑n2 : Int)) && decide ((↑n2 : Int) < (↑(n2 + 1) : Int)) then
 Lnum_23 okd dcd r g g (n2 + 1) (fun j => bif Nat.beq j (Int.toNat (↑n2 : Int)) then splice (appF n2 f2 (Aaf [D.v (.int .i64 (0 : Int)), D.v (Value.slice none
 0 0), D.v (.bool false), D.v (.slice none 0 0)] (3 + 1)) j) 0 [D.v (.int .i64 (0 : Int)), D.sl ((1 :
 Nat) + 1) (0 + 1 + 1 + 1 + 1 + 1) (Aaf [D.v (.string (⟨#[100, 105, 102, (102
 : UInt8), 101, 114, 101, 110, 116, 105, 97, 108]⟩)), D.v (.bool false), D.v (.string (dcd
 [AV.c (.d (.v (.int .i64 (SRel.diff r))))])), D.v (.bool false), D.v (.string (dcd [AV.c (.d (.v (.int .i64 (SRel.num r))))])), D.v (Value.bool
 false), D.v (.string (dcd [AV.c (.d (.v (.int .i64 (SRel.den r))))])), D.v (.bool false), D.v (.string (dcd [AV.c (C.d (D.v (Value.int IntKind.i64
 (SRel.harm r))))])), D.v (.bool false)] (1 + 1)), D.v (.bool false), D.v (.slice none 0 0)] else appF n2 f2 (Aaf [D.v (Value.int
 IntKind.i64 (0 : Int)), D.v (.slice none 0 0), D.v (.bool false), D.v (.slice none 0 0)] (3 + 1)) j) else none) else
 none) else none) else none) else none) else none) else Lnum_23 okd dcd r g g n2 f2) := by kernel_rfl
theorem stnum_23 (okd : List AV → Bool) (dcd : List AV → ByteArray) (r : SRel) (g m : Nat) (n1 : Nat) (f1 : Nat → List D) : Lnum_23 okd dcd r g (m + 1) n1 f1 =
 some (T.leaf (AV.c (C.row (0) (4) n1), [(0, Blk.row n1 f1 (4) (57))])) := by kernel_rfl
end Go.Proofs.YtmnfibmlhmeheaaGreatDoor.en
namespace Go.Proofs.YtmnfibmlhmeheaaGreatDoor.en
open Go.RowKit Go.Eb
set_option maxRecDepth 100000
structure KQ where
  okc : List AV → Bool
  ci : List AV → Int
  ce : List AV → Int
  okn : List AV → Hp → Bool
  nn : List AV → Nat
  fn : List AV → Nat → List D
  okl : List AV → Hp → Bool
  nl : List AV → Nat
  fl : List AV → Nat → List D
noncomputable def oPe (Z : KQ) : Orc := Orc.cons 14 (ansG Z.okc fun x => .tup [(false, [.d (dI (Z.ci x))]), (false, [.d (dI (Z.ce x))])]) (Orc.cons 18 (ansM Z.okn (fun x _ => .c (.row 0 4 (Z.nn x))) fun x _ => [(0, Blk.row (Z.nn x) (Z.fn x) 4 57)])
  (Orc.cons 19 (ansM Z.okl (fun x _ => .c (.row 0 4 (Z.nl x))) fun x _ => [(0, Blk.row (Z.nl x) (Z.fl x) 4 57)]) (Orc.cons 15 (inl Tryz.prog oPx na 12 Tryz.f15) (Orc.cons 16 (inl Tryz.prog Orc.nil na 12 Tryz.f16) (Orc.cons 17 (inl Tryz.prog Orc.nil na 12 Tryz.f17) Orc.nil)))))
noncomputable def annpen : Ann := annOf [(6, ⟨[2, 19, 20, 21, 7], [(7, 0, 4, 57)]⟩), (100012, ⟨[2, 19, 20, 21, 10, 7, 9], [(10, 1, 1000, 0), (7, 0, 4, 57)]⟩)]
noncomputable def Lpen_6 (Z : KQ) (s : SSta) (l : List SRel) (g m : Nat) (n1 : Nat) (f1 : Nat → List D) (i21 : Int) := LK Tryz.prog (oPe Z) annpen 0 g Tryz.f7 6 m ⟨frm [(2, .c (.ptr 0 0)), (7, .c (.row 1 4 n1)), (19, .c (.d (Aac 53 relC rel0 l))), (20, .c (.d (.v (.int .i64 (↑(List.length l) : Int))))), (21, .c (.d (.v (.int .i64 i21))))] 0 Tryz.f7.ntmps, [(0, Blk.cells (List.map C.d (staC s)) 27), (1, Blk.row n1 f1 4 57)], 2⟩
noncomputable def Lpen_12 (Z : KQ) (s : SSta) (l : List SRel) (g mo m : Nat) (n1 : Nat) (f1 : Nat → List D) (i21 : Int) (x3 : Int) (x3_2 : D) (x3_3 : Bool) := GK2 Tryz.prog (oPe Z) annpen 0 g Tryz.f7 6 mo 12 m ⟨frm [(2, .c (.ptr 0 0)), (7, .c (.row 1 4 n1)), (9, .c (.ptr 2 0)), (10, .c (.ptr 3 0)), (19, .c (.d (Aac 53 relC rel0 l))), (20, .c (.d (.v (.int .i64 (↑(List.length l) : Int))))), (21, .c (.d (.v (.int .i64 i21))))] 0 Tryz.f7.ntmps, [(0, Blk.cells (List.map C.d (staC s)) 27), (1, Blk.row n1 f1 4 57), (2, Blk.cells (List.map C.d (relC (List.getD l (Int.toNat i21) rel0))) 51), (3, Blk.cells [.d (.v (.int .i64 x3)), C.d (x3_2), .d (.v (.bool x3_3)), .d (.v (.slice none 0 0))] 57)], 4⟩
theorem bpen : Tryz.f7.body = some (Aad Tryz.f7) := by kernel_rfl
theorem evpen (Z : KQ) (s : SSta) (l : List SRel) (g : Nat) : Aal Tryz.prog (oPe Z) annpen g Tryz.f7 (Aad Tryz.f7) [aSta s, .c (.d (relsD l))] [] =
 (bif KQ.okc Z [AV.agg (List.map C.d (staC s)), AV.c (C.d (Aac (53) relC rel0 l))] then (bif KQ.ce Z [AV.agg (List.map C.d (staC s)), AV.c (C.d (Aac (53) relC
 rel0 l))] != (0 : Int) then some (T.leaf (AV.c (.d (.v (.slice none 0 0))), [])) else Lpen_6 Z s l g g 0 (fun x => []) ((0 : Int))) else none) := by kernel_rfl
theorem stpen_6 (Z : KQ) (s : SSta) (l : List SRel) (g m : Nat) (n1 : Nat) (f1 : Nat → List D) (i21 : Int) : Lpen_6 Z s l g (m + 1) n1 f1 i21 =
 (bif decide (i21 < (↑(List.length l) : Int)) then (bif decide ((0 : Int) ≤ i21) && decide (i21 < (↑(List.length l) : Int)) then (bif SRel.kind (List.getD l (Int.toNat i21) rel0) ==
 (4 : Int) then Lpen_12 Z s l g m g n1 f1 i21 ((0 : Int)) (D.sl (2) (3) (Aaf [D.v (.string (⟨#[114, 101, 108, (97 :
 UInt8), 121]⟩)), D.v (.bool false), dS (SRel.name (List.getD l (Int.toNat i21) rel0)), D.v (.bool false), D.v (.string (⟨#[98, (117 :
 UInt8), 115]⟩)), D.v (.bool false)] (1 + 1))) false else (bif SRel.kind (List.getD l (Int.toNat i21) rel0) == (1 : Int) then (bif decide ((0 : Int) ≤
 SRel.bay (List.getD l (Int.toNat i21) rel0)) && decide (SRel.bay (List.getD l (Int.toNat i21) rel0) < (↑(List.length (SSta.bays s)) : Int)) then Lpen_12 Z s l g m g n1 f1 i21 ((0 :
 Int)) (D.sl (2) (4) (Aaf [D.v (.string (⟨#[114, 101, 108, 97, 121]⟩)), D.v (.bool false), dS
 (SRel.name (List.getD l (Int.toNat i21) rel0)), D.v (.bool false), D.v (.string (⟨#[108, 105, 110, 101]⟩)), D.v
 (Value.bool false), dS (SBay.name (List.getD (SSta.bays s) (Int.toNat (SRel.bay (List.getD l (Int.toNat i21) rel0))) bay0)), D.v (.bool false)] (1 + 1))) false
 else none) else (bif SRel.kind (List.getD l (Int.toNat i21) rel0) == (2 : Int) then (bif decide ((0 : Int) ≤ SRel.bay (List.getD l (Int.toNat i21) rel0)) && decide (SRel.bay
 (List.getD l (Int.toNat i21) rel0) < (↑(List.length (SSta.bays s)) : Int)) then Lpen_12 Z s l g m g n1 f1 i21 ((0 : Int)) (D.sl (2) (4) (Aaf [D.v (Value.string
 (⟨#[114, 101, 108, 97, 121]⟩)), D.v (.bool false), dS (SRel.name (List.getD l (Int.toNat i21) rel0)), D.v
 (Value.bool false), D.v (.string (⟨#[115, 111, 117, 114, 99, 101]⟩)), D.v (.bool false), dS
 (SBay.name (List.getD (SSta.bays s) (Int.toNat (SRel.bay (List.getD l (Int.toNat i21) rel0))) bay0)), D.v (.bool false)] (1 + 1))) false else none) else (bif
 decide ((0 : Int) ≤ SRel.bay (List.getD l (Int.toNat i21) rel0)) && decide (SRel.bay (List.getD l (Int.toNat i21) rel0) < (↑(List.length (SSta.bays s)) : Int)) then Lpen_12 Z s l g
 m g n1 f1 i21 ((0 : Int)) (D.sl (2) (4) (Aaf [D.v (.string (⟨#[114, 101, 108, 97, 121]⟩)), D.v
 (Value.bool false), dS (SRel.name (List.getD l (Int.toNat i21) rel0)), D.v (.bool false), D.v (.string (⟨#[99, 111, 117, (112 :
 UInt8), 108, 101, 114]⟩)), D.v (.bool false), dS (SBay.name (List.getD (SSta.bays s) (Int.toNat (SRel.bay (List.getD l (Int.toNat i21) rel0)))
 bay0)), D.v (.bool false)] (1 + 1))) false else none)))) else none) else some (T.leaf (AV.c (C.row (0) (4) n1), [(0, Blk.row n1 f1 ((4 :
 Nat)) (57))]))) := by kernel_rfl
theorem stpen_12 (Z : KQ) (s : SSta) (l : List SRel) (g mo m : Nat) (n1 : Nat) (f1 : Nat → List D) (i21 : Int) (x3 : Int) (x3_2 : D) (x3_3 : Bool) : Lpen_12 Z s l g mo (m + 1) n1 f1 i21 x3 x3_2 x3_3 =
 (bif KQ.okn Z [AV.agg (List.map C.d (relC (List.getD l (Int.toNat i21) rel0)))] [] then (bif KQ.okl Z [AV.agg (List.map C.d (relC (List.getD l (Int.toNat i21) rel0)))] [] then (bif
 decide ((KQ.nn Z [AV.agg (List.map C.d (relC (List.getD l (Int.toNat i21) rel0)))] + KQ.nl Z [AV.agg (List.map C.d (relC (List.getD l (Int.toNat i21) rel0)))]) * 64 ≤
 140737488355328) && decide (KQ.nn Z [AV.agg (List.map C.d (relC (List.getD l (Int.toNat i21) rel0)))] + KQ.nl Z [AV.agg (List.map C.d (relC (List.getD l (Int.toNat i21)
 rel0)))] ≤ 9223372036854775807) then (bif decide ((n1 + 1) * 64 ≤ 140737488355328) && decide (n1 + 1 ≤ 9223372036854775807) then
 Lpen_6 Z s l g mo (n1 + 1) (appF n1 f1 (Aaf [D.v (.int .i64 x3), x3_2, D.v (.bool true), D.sl (3 + 1) (KQ.nn Z [AV.agg (List.map C.d (relC
 (List.getD l (Int.toNat i21) rel0)))] + KQ.nl Z [AV.agg (List.map C.d (relC (List.getD l (Int.toNat i21) rel0)))]) (appF (KQ.nn Z [AV.agg (List.map C.d (relC (List.getD l (Int.toNat
 i21) rel0)))]) (KQ.fn Z [AV.agg (List.map C.d (relC (List.getD l (Int.toNat i21) rel0)))]) (KQ.fl Z [AV.agg (List.map C.d (relC (List.getD l (Int.toNat i21) rel0)))]))] (3 +
 1))) (IntKind.wrap .i64 (i21 + (1 : Int))) else none) else none) else none) else none) := by kernel_rfl
end Go.Proofs.YtmnfibmlhmeheaaGreatDoor.en
namespace Go.Proofs.YtmnfibmlhmeheaaGreatDoor.en
open Go.RowKit Go.Eb
set_option maxRecDepth 100000
noncomputable def oDc (okd : List AV → Bool) (dcd : List AV → ByteArray) : Orc := Orc.cons 99 (ansG okd fun x => vS (dcd x)) Orc.nil
noncomputable def anndec : Ann := annOf []
theorem bdec : Tryz.f99.body = some (Aad Tryz.f99) := by kernel_rfl
theorem evdec (okd : List AV → Bool) (dcd : List AV → ByteArray) (n : Int) (g : Nat) : Aal Tryz.prog (oDc okd dcd) anndec g Tryz.f99 (Aad Tryz.f99) [vI n] [] =
 (bif decide (n < (0 : Int)) then (bif okd [AV.c (.d (.v (.int .i64 (IntKind.wrap .i64 ((0 : Int) - n)))))] then (bif decide (ByteArray.size (⟨#[(45
 : UInt8)]⟩) + ByteArray.size (dcd [AV.c (.d (.v (.int .i64 (IntKind.wrap .i64 ((0 : Int) - n)))))]) ≤ 9223372036854775807) then some (T.leaf (AV.c (C.d
 (D.v (.string (ByteArray.mk #[45] ++ dcd [AV.c (.d (.v (.int .i64 (IntKind.wrap .i64 ((0 : Int) - n)))))])))), [])) else none) else none) else
 (bif decide (n ≥ (10 : Int)) then (bif okd [AV.c (.d (.v (.int .i64 (IntKind.wrap .i64 (Int.tdiv n (10 : Int))))))] then (bif okd [AV.c (C.d (D.v (Value.int
 IntKind.i64 (Int.tmod n (10 : Int)))))] then (bif decide (ByteArray.size (dcd [AV.c (.d (.v (.int .i64 (IntKind.wrap .i64 (Int.tdiv n (10 : Int))))))]) +
 ByteArray.size (dcd [AV.c (.d (.v (.int .i64 (Int.tmod n (10 : Int)))))]) ≤ 9223372036854775807) then some (T.leaf (AV.c (.d (.v (.string (dcd [AV.c
 (C.d (.v (.int .i64 (IntKind.wrap .i64 (Int.tdiv n (10 : Int))))))] ++ dcd [AV.c (.d (.v (.int .i64 (Int.tmod n (10 : Int)))))])))), [])) else
 none) else none) else none) else (bif cstrOk 1 (some (Blk.cells [C.d (D.v (Value.int IntKind.u8 (IntKind.wrap IntKind.u8 (IntKind.wrap .i64 ((48 : Int) + n)))))] ((5
 : Nat)))) then some (T.leaf (AV.c (.d (.v (.string (cstrS 1 (some (Blk.cells [C.d (D.v (Value.int IntKind.u8 (IntKind.wrap IntKind.u8 (IntKind.wrap .i64 ((48 :
 Int) + n)))))] (5))))))), [])) else none))) := by kernel_rfl
noncomputable def annsay : Ann := annOf [(3, ⟨[5, 0, 1, 4, 6], [(5, 1, 2, 59)]⟩), (7, ⟨[5, 1, 4, 7], [(5, 1, 2, 59)]⟩)]
noncomputable def Lsay_3 (okd : List AV → Bool) (dcd : List AV → ByteArray) (ws : List ByteArray) (g m : Nat) (n2 : Nat) (f2 : Nat → List D) (i6 : Int) (x0 : Int) (x0_2 : Bool) (x1 : Int) (x1_2 : Bool) := LK Tryz.prog (oDc okd dcd) annsay 0 g Tryz.f42 3 m ⟨frm [(0, .c (.d (Aac 1 busC e0 ws))), (1, .c (.d (.v (.slice none 0 0)))), (4, .c (.ptr 0 0)), (5, .c (.ptr 1 0)), (6, .c (.d (.v (.int .i64 i6))))] 0 Tryz.f42.ntmps, [(0, Blk.cells [.d (.v (.int .i64 x0)), .d (.v (.slice none 0 0)), .d (.v (.bool x0_2)), .d (.v (.slice none 0 0))] 57), (1, Blk.cells [.d (.v (.int .i64 x1)), C.row 2 2 n2, .d (.v (.bool x1_2)), .d (.v (.slice none 0 0))] 57), (2, Blk.row n2 f2 2 59)], 3⟩
noncomputable def Lsay_7 (okd : List AV → Bool) (dcd : List AV → ByteArray) (ws : List ByteArray) (g m : Nat) (n2 : Nat) (f2 : Nat → List D) (i7 : Int) (x0 : Int) (x0_2 : Bool) (x1 : Int) (x1_2 : Bool) := LK Tryz.prog (oDc okd dcd) annsay 0 g Tryz.f42 7 m ⟨frm [(1, .c (.d (.v (.slice none 0 0)))), (4, .c (.ptr 0 0)), (5, .c (.ptr 1 0)), (7, .c (.d (.v (.int .i64 i7))))] 0 Tryz.f42.ntmps, [(0, Blk.cells [.d (.v (.int .i64 x0)), .d (.v (.slice none 0 0)), .d (.v (.bool x0_2)), .d (.v (.slice none 0 0))] 57), (1, Blk.cells [.d (.v (.int .i64 x1)), C.row 2 2 n2, .d (.v (.bool x1_2)), .d (.v (.slice none 0 0))] 57), (2, Blk.row n2 f2 2 59)], 3⟩
theorem bsay : Tryz.f42.body = some (Aad Tryz.f42) := by kernel_rfl
theorem evsay (okd : List AV → Bool) (dcd : List AV → ByteArray) (ws : List ByteArray) (g : Nat) : Aal Tryz.prog (oDc okd dcd) annsay g Tryz.f42 (Aad Tryz.f42) [.c (.d (Aab ws)), .c (.d (.v (.slice none 0 0)))] [] =
 Lsay_3 okd dcd ws g g 0 (fun x => []) ((0 : Int)) ((0 : Int)) false ((0 : Int)) false := by kernel_rfl
theorem stsay_3 (okd : List AV → Bool) (dcd : List AV → ByteArray) (ws : List ByteArray) (g m : Nat) (n2 : Nat) (f2 : Nat → List D) (i6 : Int) (x0 : Int) (x0_2 : Bool) (x1 : Int) (x1_2 : Bool) : Lsay_3 okd dcd ws g (m + 1) n2 f2 i6 x0 x0_2 x1 x1_2 =
 (bif decide (i6 < (↑(List.length ws) : Int)) then (bif decide ((0 : Int) ≤ i6) && decide (i6 < (↑(List.length ws) : Int)) then (bif decide ((n2 + 1) * 24 ≤
 140737488355328) && decide (n2 + 1 ≤ 9223372036854775807) then Lsay_3 okd dcd ws g m (n2 + 1) (appF n2 f2 (Aaf [dS (List.getD ws (Int.toNat i6)
 e0), D.v (.bool false)] (1 + 1))) (IntKind.wrap .i64 (i6 + (1 : Int))) x0 x0_2 x1 x1_2 else none) else none) else Lsay_7 okd dcd ws g g n2 f2 ((0 : Int))
 x0 x0_2 x1 x1_2) := by kernel_rfl
theorem stsay_7 (okd : List AV → Bool) (dcd : List AV → ByteArray) (ws : List ByteArray) (g m : Nat) (n2 : Nat) (f2 : Nat → List D) (i7 : Int) (x0 : Int) (x0_2 : Bool) (x1 : Int) (x1_2 : Bool) : Lsay_7 okd dcd ws g (m + 1) n2 f2 i7 x0 x0_2 x1 x1_2 =
 (bif decide (i7 < (0 : Int)) then none else some (T.leaf (AV.agg [C.d (.v (.int .i64 x1)), C.row (0) (2) n2, C.d (.v (.bool x1_2)), C.d (D.v
 (Value.slice none 0 0))], [(0, Blk.row n2 f2 (2) (59))]))) := by kernel_rfl
end Go.Proofs.YtmnfibmlhmeheaaGreatDoor.en
namespace Go.Proofs.YtmnfibmlhmeheaaGreatDoor.en
open Go.RowKit Go.Eb
set_option maxRecDepth 100000
structure KR where
  okc : List AV → Bool
  ci : List AV → Int
  ce : List AV → Int
  oki : List AV → Bool
  iw : List AV → D
  ik : List AV → D
noncomputable def oRe (Z : KR) : Orc := Orc.cons 20 (ansG Z.okc fun x => .tup [(false, [.d (dI (Z.ci x))]), (false, [.d (dI (Z.ce x))])]) (Orc.cons 21 (ansG Z.oki fun x => .agg [.d (dI 0), .d (Z.iw x), .d (dB true), .d (Z.ik x)]) Orc.nil)
noncomputable def annren : Ann := annOf [(6, ⟨[1, 2, 8, 7], [(7, 0, 4, 57)]⟩)]
noncomputable def Lren_6 (Z : KR) (s : SSta) (l : List SRel) (g m : Nat) (n1 : Nat) (f1 : Nat → List D) (i8 : Int) := LK Tryz.prog (oRe Z) annren 0 g Tryz.f8 6 m ⟨frm [(1, .c (.d (Aac 53 relC rel0 l))), (2, .c (.ptr 0 0)), (7, .c (.row 1 4 n1)), (8, .c (.d (.v (.int .i64 i8))))] 0 Tryz.f8.ntmps, [(0, Blk.cells (List.map C.d (staC s)) 27), (1, Blk.row n1 f1 4 57)], 2⟩
theorem bren : Tryz.f8.body = some (Aad Tryz.f8) := by kernel_rfl
theorem evren (Z : KR) (s : SSta) (l : List SRel) (g : Nat) : Aal Tryz.prog (oRe Z) annren g Tryz.f8 (Aad Tryz.f8) [aSta s, .c (.d (relsD l))] [] =
 (bif KR.okc Z [AV.agg (List.map C.d (staC s)), AV.c (C.d (Aac (53) relC rel0 l))] then (bif KR.ce Z [AV.agg (List.map C.d (staC s)), AV.c (C.d (Aac (53) relC
 rel0 l))] != (0 : Int) then some (T.leaf (AV.c (.d (.v (.slice none 0 0))), [])) else Lren_6 Z s l g g 0 (fun x => []) ((0 : Int))) else none) := by kernel_rfl
theorem stren_6 (Z : KR) (s : SSta) (l : List SRel) (g m : Nat) (n1 : Nat) (f1 : Nat → List D) (i8 : Int) : Lren_6 Z s l g (m + 1) n1 f1 i8 =
 (bif decide (i8 < (↑(List.length l) : Int)) then (bif decide ((0 : Int) ≤ i8) && decide (i8 < (↑(List.length l) : Int)) then (bif KR.oki Z [AV.agg (List.map C.d (staC s)), AV.agg
 (List.map C.d (relC (List.getD l (Int.toNat i8) rel0)))] then (bif decide ((n1 + 1) * 64 ≤ 140737488355328) && decide (n1 + 1 ≤ (9223372036854775807
 : Nat)) then Lren_6 Z s l g m (n1 + 1) (appF n1 f1 (Aaf [dI (0 : Int), KR.iw Z [AV.agg (List.map C.d (staC s)), AV.agg (List.map C.d (relC (List.getD l (Int.toNat i8)
 rel0)))], dB true, KR.ik Z [AV.agg (List.map C.d (staC s)), AV.agg (List.map C.d (relC (List.getD l (Int.toNat i8) rel0)))]] (3 + 1))) (IntKind.wrap .i64 (i8
 + (1 : Int))) else none) else none) else none) else some (T.leaf (AV.c (C.row (0) (4) n1), [(0, Blk.row n1 f1 (4) (57))]))) := by kernel_rfl
end Go.Proofs.YtmnfibmlhmeheaaGreatDoor.en
namespace Go.Proofs.YtmnfibmlhmeheaaGreatDoor.en
open Go.RowKit Go.Eb
set_option maxRecDepth 100000
noncomputable def okD (n : Int) (x : List AV) : Bool := okG (en1 vI) (fun k => decide (0 ≤ k) && decide (k < n)) x
noncomputable def dcD (x : List AV) : ByteArray := dec (theT (en1 vI) x)
theorem okD_of {n k : Int} (h0 : 0 ≤ k) (h1 : k < n) : okD n [vI k] = true := okG_enc (en1_inj vI_inj) k (by simp [h0, h1])
theorem dcD_of (k : Int) : dcD [vI k] = dec k := by
  unfold dcD
  rw [show [vI k] = en1 vI k from rfl, theT_enc (en1_inj vI_inj)]
theorem digit_ok : ∀ n : Nat, n < 10 → cstrOk 1 (some (Blk.cells [C.d (D.v (Value.int IntKind.u8 (IntKind.wrap IntKind.u8 (IntKind.wrap IntKind.i64 ((48 : Int) + n)))))] 5)) = true ∧
    cstrS 1 (some (Blk.cells [C.d (D.v (Value.int IntKind.u8 (IntKind.wrap IntKind.u8 (IntKind.wrap IntKind.i64 ((48 : Int) + n)))))] 5)) = decB n := by
  intro n h
  rw [decB_lt h]
  match n, h with
  | 0, _ | 1, _ | 2, _ | 3, _ | 4, _ | 5, _ | 6, _ | 7, _ | 8, _ | 9, _ => exact ⟨by rfl, by rfl⟩
theorem tdiv10 (n : Nat) : Int.tdiv (n : Int) 10 = ((n / 10 : Nat) : Int) := by rw [Int.tdiv_eq_ediv_of_nonneg (by omega)]; omega
theorem tmod10 (n : Nat) : Int.tmod (n : Int) 10 = ((n % 10 : Nat) : Int) := by rw [Int.tmod_eq_emod_of_nonneg (by omega)]; omega
theorem dec_nat (n : Nat) : dec (n : Int) = decB n := rfl
theorem cdecN (n : Nat) (hb : n ≤ 4611686018427387904) : CX Tryz.prog 99 [vI n] [] (vS (dec n)) [] := by
  induction n using Nat.strongRecOn with
  | ind n ih =>
    have so : OrcS Tryz.prog (oDc (okD n) dcD) := by
      refine .cons (.t' (enc := en1 vI) (c := fun k => decide (0 ≤ k) && decide (k < (n : Int))) (r := fun k => vS (dec k)) fun k hk => ?_) .nil
      simp only [Bool.and_eq_true, decide_eq_true_eq] at hk
      obtain ⟨m, rfl⟩ := Int.eq_ofNat_of_zero_le hk.1
      exact ih m (by omega) (by omega)
    refine cx_of so.ok Tryz.func99 bdec rfl ((evdec (okD n) dcD n 1).trans ?_)
    rw [decide_eq_false (by omega : ¬ ((n : Int) < 0)), cond_false]
    by_cases h : n < 10
    · rw [decide_eq_false (by omega : ¬ ((n : Int) ≥ 10)), cond_false, (digit_ok n h).1, cond_true, (digit_ok n h).2, dec_nat]
    · rw [decide_eq_true (by omega : ((n : Int) ≥ 10)), cond_true, tdiv10, tmod10, wrap_id (by omega) (by omega)]
      have e1 : okD n [AV.c (C.d (D.v (Value.int IntKind.i64 ((n / 10 : Nat) : Int))))] = true := okD_of (by omega) (by omega)
      have e2 : okD n [AV.c (C.d (D.v (Value.int IntKind.i64 ((n % 10 : Nat) : Int))))] = true := okD_of (by omega) (by omega)
      have d1 : dcD [AV.c (C.d (D.v (Value.int IntKind.i64 ((n / 10 : Nat) : Int))))] = dec ((n / 10 : Nat) : Int) := dcD_of _
      have d2 : dcD [AV.c (C.d (D.v (Value.int IntKind.i64 ((n % 10 : Nat) : Int))))] = dec ((n % 10 : Nat) : Int) := dcD_of _
      have s1 := decB_size (n / 10)
      have s2 := decB_size (n % 10)
      rw [e1, e2, d1, d2, cond_true, cond_true, dec_nat, dec_nat, decide_eq_true (by omega), cond_true, dec_nat, decB_ge h]
theorem cdec (n : Int) (h0 : 0 ≤ n) (h1 : n ≤ 4611686018427387904) : CX Tryz.prog 99 [vI n] [] (vS (dec n)) [] := by
  obtain ⟨m, rfl⟩ := Int.eq_ofNat_of_zero_le h0
  exact cdecN m (by omega)
abbrev M12 : Int := 1000000000000
theorem sDc : OrcS Tryz.prog (oDc (okD M12) dcD) := .cons (.t' (enc := en1 vI) (c := fun k => decide (0 ≤ k) && decide (k < M12)) (r := fun k => vS (dec k)) fun k hk => by
  simp only [Bool.and_eq_true, decide_eq_true_eq] at hk
  exact cdec k hk.1 (by unfold M12 at hk; omega)) .nil
theorem decI_nn {n : Int} (h : 0 ≤ n) : decI n = dec n := by
  unfold decI dec
  rw [decide_eq_false (by omega)]
  rfl
theorem cdecI (n : Int) (h0 : -1000000 ≤ n) (h1 : n ≤ 1000000) : CX Tryz.prog 99 [vI n] [] (vS (decI n)) [] := by
  by_cases h : 0 ≤ n
  · rw [decI_nn h]
    exact cdec n h (by omega)
  · refine cx_of sDc.ok Tryz.func99 bdec rfl ((evdec (okD M12) dcD n 1).trans ?_)
    have e1 : okD M12 [AV.c (C.d (D.v (Value.int IntKind.i64 (0 - n))))] = true := okD_of (by omega) (by unfold M12; omega)
    have d1 : dcD [AV.c (C.d (D.v (Value.int IntKind.i64 (0 - n))))] = dec (0 - n) := dcD_of _
    have s1 := decB_size (0 - n).toNat
    have e2 : dec (0 - n) = decB n.natAbs := by
      unfold dec
      congr 1
      omega
    rw [decide_eq_true (by omega : n < 0), cond_true, wrap_id (by omega) (by omega), e1, cond_true, d1, e2]
    rw [decide_eq_true (by have := decB_size n.natAbs; show 1 + (decB n.natAbs).size ≤ _; omega), cond_true]
    unfold decI
    rw [decide_eq_true (by omega : n < 0)]
    rfl
def nI (n : Int) : Bool := decide (-1000000 ≤ n) && decide (n ≤ 1000000)
end Go.Proofs.YtmnfibmlhmeheaaGreatDoor.en
namespace Go.Proofs.YtmnfibmlhmeheaaGreatDoor.en
open Go.RowKit Go.Eb
set_option maxRecDepth 100000
theorem zn0 (okd : List AV → Bool) (dcd : List AV → ByteArray) (r : SRel) (g m : Nat) (n : Nat) (f : Nat → List D) : Lnum_4 okd dcd r g (m + 1) n f 0 =
 (bif !SRel.zon0 r then Lnum_4 okd dcd r g m n f (IntKind.wrap .i64 ((0 : Int) + (1 : Int))) else (bif SRel.zfw0 r then (bif okd [AV.c (C.d (D.v (Value.int IntKind.i64
 (IntKind.wrap .i64 ((0 : Int) + (1 : Int))))))] then (bif okd [AV.c (.d (.v (.int .i64 (SRel.zx0 r))))] then (bif okd [AV.c (C.d (D.v (Value.int IntKind.i64
 (SRel.zr0 r))))] then (bif okd [AV.c (.d (.v (.int .i64 (SRel.zl0 r))))] then (bif okd [AV.c (.d (.v (.int .i64 (SRel.zd0 r))))] then (bif decide ((n +
 1) * 64 ≤ 140737488355328) && decide (n + 1 ≤ 9223372036854775807) then (bif decide ((0 : Int) ≤ (↑n : Int)) && decide ((↑n : Int) < (↑(n +
 1) : Int)) then Lnum_4 okd dcd r g m (n + 1) (fun j => bif Nat.beq j (Int.toNat (↑n : Int)) then splice (appF n f (Aaf [D.v (.int .i64 (0 : Int)), D.v
 (Value.slice none 0 0), D.v (.bool false), D.v (.slice none 0 0)] (3 + 1)) j) 0 [D.v (.int .i64 (0 :
 Int)), D.sl (1 + 1) (0 + 1 + 1 + 1 + 1 + 1 + 1 + 1) (Aaf [D.v (.string (⟨#[(122 :
 UInt8), 111, 110, 101]⟩)), D.v (.bool false), D.v (.string (dcd [AV.c (.d (.v (.int .i64 (IntKind.wrap .i64 ((0 : Int) +
 (1 : Int))))))])), D.v (.bool false), D.v (.string (⟨#[102, 111, 114, 119, 97, 114, (100 :
 UInt8)]⟩)), D.v (.bool false), D.v (.string (dcd [AV.c (.d (.v (.int .i64 (SRel.zx0 r))))])), D.v (.bool false), D.v (.string (dcd [AV.c (C.d (D.v
 (Value.int IntKind.i64 (SRel.zr0 r))))])), D.v (.bool false), D.v (.string (dcd [AV.c (.d (.v (.int .i64 (SRel.zl0 r))))])), D.v (.bool false), D.v
 (Value.string (dcd [AV.c (.d (.v (.int .i64 (SRel.zd0 r))))])), D.v (.bool false)] (1 + 1)), D.v (.bool false), D.v (Value.slice none (0 :
 Nat) 0)] else appF n f (Aaf [D.v (.int .i64 (0 : Int)), D.v (.slice none 0 0), D.v (.bool false), D.v (Value.slice none 0 (0
 : Nat))] (3 + 1)) j) (IntKind.wrap .i64 ((0 : Int) + (1 : Int))) else none) else none) else none) else none) else none) else none) else none) else (bif okd
 [AV.c (.d (.v (.int .i64 (IntKind.wrap .i64 ((0 : Int) + (1 : Int))))))] then (bif okd [AV.c (.d (.v (.int .i64 (SRel.zx0 r))))] then (bif okd
 [AV.c (.d (.v (.int .i64 (SRel.zr0 r))))] then (bif okd [AV.c (.d (.v (.int .i64 (SRel.zl0 r))))] then (bif okd [AV.c (C.d (D.v (Value.int IntKind.i64
 (SRel.zd0 r))))] then (bif decide ((n + 1) * 64 ≤ 140737488355328) && decide (n + 1 ≤ 9223372036854775807) then (bif decide ((0 : Int) ≤ (↑n
 : Int)) && decide ((↑n : Int) < (↑(n + 1) : Int)) then Lnum_4 okd dcd r g m (n + 1) (fun j => bif Nat.beq j (Int.toNat (↑n : Int)) then splice (appF n f (Aaf [D.v
 (Value.int IntKind.i64 (0 : Int)), D.v (.slice none 0 0), D.v (.bool false), D.v (.slice none 0 0)] (3 + 1)) j) (0 :
 Nat) [D.v (.int .i64 (0 : Int)), D.sl (1 + 1) (0 + 1 + 1 + 1 + 1 + 1 + 1 + 1) (Aaf [D.v
 (Value.string (⟨#[122, 111, 110, 101]⟩)), D.v (.bool false), D.v (.string (dcd [AV.c (C.d (D.v (Value.int IntKind.i64
 (IntKind.wrap .i64 ((0 : Int) + (1 : Int))))))])), D.v (.bool false), D.v (.string (⟨#[114, 101, 118, 101, (114
 : UInt8), 115, 101]⟩)), D.v (.bool false), D.v (.string (dcd [AV.c (.d (.v (.int .i64 (SRel.zx0 r))))])), D.v (.bool false), D.v
 (Value.string (dcd [AV.c (.d (.v (.int .i64 (SRel.zr0 r))))])), D.v (.bool false), D.v (.string (dcd [AV.c (.d (.v (.int .i64 (SRel.zl0
 r))))])), D.v (.bool false), D.v (.string (dcd [AV.c (.d (.v (.int .i64 (SRel.zd0 r))))])), D.v (.bool false)] (1 + 1)), D.v (Value.bool
 false), D.v (.slice none 0 0)] else appF n f (Aaf [D.v (.int .i64 (0 : Int)), D.v (.slice none 0 0), D.v (.bool false),
 D.v (.slice none 0 0)] (3 + 1)) j) (IntKind.wrap .i64 ((0 : Int) + (1 : Int))) else none) else none) else none) else none) else none)
 else none) else none))) := by kernel_rfl
theorem zn1 (okd : List AV → Bool) (dcd : List AV → ByteArray) (r : SRel) (g m : Nat) (n : Nat) (f : Nat → List D) : Lnum_4 okd dcd r g (m + 1) n f 1 =
 (bif !SRel.zon1 r then Lnum_4 okd dcd r g m n f (IntKind.wrap .i64 ((1 : Int) + (1 : Int))) else (bif SRel.zfw1 r then (bif okd [AV.c (C.d (D.v (Value.int IntKind.i64
 (IntKind.wrap .i64 ((1 : Int) + (1 : Int))))))] then (bif okd [AV.c (.d (.v (.int .i64 (SRel.zx1 r))))] then (bif okd [AV.c (C.d (D.v (Value.int IntKind.i64
 (SRel.zr1 r))))] then (bif okd [AV.c (.d (.v (.int .i64 (SRel.zl1 r))))] then (bif okd [AV.c (.d (.v (.int .i64 (SRel.zd1 r))))] then (bif decide ((n +
 1) * 64 ≤ 140737488355328) && decide (n + 1 ≤ 9223372036854775807) then (bif decide ((0 : Int) ≤ (↑n : Int)) && decide ((↑n : Int) < (↑(n +
 1) : Int)) then Lnum_4 okd dcd r g m (n + 1) (fun j => bif Nat.beq j (Int.toNat (↑n : Int)) then splice (appF n f (Aaf [D.v (.int .i64 (0 : Int)), D.v
 (Value.slice none 0 0), D.v (.bool false), D.v (.slice none 0 0)] (3 + 1)) j) 0 [D.v (.int .i64 (0 :
 Int)), D.sl (1 + 1) (0 + 1 + 1 + 1 + 1 + 1 + 1 + 1) (Aaf [D.v (.string (⟨#[(122 :
 UInt8), 111, 110, 101]⟩)), D.v (.bool false), D.v (.string (dcd [AV.c (.d (.v (.int .i64 (IntKind.wrap .i64 ((1 : Int) +
 (1 : Int))))))])), D.v (.bool false), D.v (.string (⟨#[102, 111, 114, 119, 97, 114, (100 :
 UInt8)]⟩)), D.v (.bool false), D.v (.string (dcd [AV.c (.d (.v (.int .i64 (SRel.zx1 r))))])), D.v (.bool false), D.v (.string (dcd [AV.c (C.d (D.v
 (Value.int IntKind.i64 (SRel.zr1 r))))])), D.v (.bool false), D.v (.string (dcd [AV.c (.d (.v (.int .i64 (SRel.zl1 r))))])), D.v (.bool false), D.v
 (Value.string (dcd [AV.c (.d (.v (.int .i64 (SRel.zd1 r))))])), D.v (.bool false)] (1 + 1)), D.v (.bool false), D.v (Value.slice none (0 :
 Nat) 0)] else appF n f (Aaf [D.v (.int .i64 (0 : Int)), D.v (.slice none 0 0), D.v (.bool false), D.v (Value.slice none 0 (0
 : Nat))] (3 + 1)) j) (IntKind.wrap .i64 ((1 : Int) + (1 : Int))) else none) else none) else none) else none) else none) else none) else none) else (bif okd
 [AV.c (.d (.v (.int .i64 (IntKind.wrap .i64 ((1 : Int) + (1 : Int))))))] then (bif okd [AV.c (.d (.v (.int .i64 (SRel.zx1 r))))] then (bif okd
 [AV.c (.d (.v (.int .i64 (SRel.zr1 r))))] then (bif okd [AV.c (.d (.v (.int .i64 (SRel.zl1 r))))] then (bif okd [AV.c (C.d (D.v (Value.int IntKind.i64
 (SRel.zd1 r))))] then (bif decide ((n + 1) * 64 ≤ 140737488355328) && decide (n + 1 ≤ 9223372036854775807) then (bif decide ((0 : Int) ≤ (↑n
 : Int)) && decide ((↑n : Int) < (↑(n + 1) : Int)) then Lnum_4 okd dcd r g m (n + 1) (fun j => bif Nat.beq j (Int.toNat (↑n : Int)) then splice (appF n f (Aaf [D.v
 (Value.int IntKind.i64 (0 : Int)), D.v (.slice none 0 0), D.v (.bool false), D.v (.slice none 0 0)] (3 + 1)) j) (0 :
 Nat) [D.v (.int .i64 (0 : Int)), D.sl (1 + 1) (0 + 1 + 1 + 1 + 1 + 1 + 1 + 1) (Aaf [D.v
 (Value.string (⟨#[122, 111, 110, 101]⟩)), D.v (.bool false), D.v (.string (dcd [AV.c (C.d (D.v (Value.int IntKind.i64
 (IntKind.wrap .i64 ((1 : Int) + (1 : Int))))))])), D.v (.bool false), D.v (.string (⟨#[114, 101, 118, 101, (114
 : UInt8), 115, 101]⟩)), D.v (.bool false), D.v (.string (dcd [AV.c (.d (.v (.int .i64 (SRel.zx1 r))))])), D.v (.bool false), D.v
 (Value.string (dcd [AV.c (.d (.v (.int .i64 (SRel.zr1 r))))])), D.v (.bool false), D.v (.string (dcd [AV.c (.d (.v (.int .i64 (SRel.zl1
 r))))])), D.v (.bool false), D.v (.string (dcd [AV.c (.d (.v (.int .i64 (SRel.zd1 r))))])), D.v (.bool false)] (1 + 1)), D.v (Value.bool
 false), D.v (.slice none 0 0)] else appF n f (Aaf [D.v (.int .i64 (0 : Int)), D.v (.slice none 0 0), D.v (.bool false),
 D.v (.slice none 0 0)] (3 + 1)) j) (IntKind.wrap .i64 ((1 : Int) + (1 : Int))) else none) else none) else none) else none) else none)
 else none) else none))) := by kernel_rfl
theorem zn2 (okd : List AV → Bool) (dcd : List AV → ByteArray) (r : SRel) (g m : Nat) (n : Nat) (f : Nat → List D) : Lnum_4 okd dcd r g (m + 1) n f 2 =
 (bif !SRel.zon2 r then Lnum_4 okd dcd r g m n f (IntKind.wrap .i64 ((2 : Int) + (1 : Int))) else (bif SRel.zfw2 r then (bif okd [AV.c (C.d (D.v (Value.int IntKind.i64
 (IntKind.wrap .i64 ((2 : Int) + (1 : Int))))))] then (bif okd [AV.c (.d (.v (.int .i64 (SRel.zx2 r))))] then (bif okd [AV.c (C.d (D.v (Value.int IntKind.i64
 (SRel.zr2 r))))] then (bif okd [AV.c (.d (.v (.int .i64 (SRel.zl2 r))))] then (bif okd [AV.c (.d (.v (.int .i64 (SRel.zd2 r))))] then (bif decide ((n +
 1) * 64 ≤ 140737488355328) && decide (n + 1 ≤ 9223372036854775807) then (bif decide ((0 : Int) ≤ (↑n : Int)) && decide ((↑n : Int) < (↑(n +
 1) : Int)) then Lnum_4 okd dcd r g m (n + 1) (fun j => bif Nat.beq j (Int.toNat (↑n : Int)) then splice (appF n f (Aaf [D.v (.int .i64 (0 : Int)), D.v
 (Value.slice none 0 0), D.v (.bool false), D.v (.slice none 0 0)] (3 + 1)) j) 0 [D.v (.int .i64 (0 :
 Int)), D.sl (1 + 1) (0 + 1 + 1 + 1 + 1 + 1 + 1 + 1) (Aaf [D.v (.string (⟨#[(122 :
 UInt8), 111, 110, 101]⟩)), D.v (.bool false), D.v (.string (dcd [AV.c (.d (.v (.int .i64 (IntKind.wrap .i64 ((2 : Int) +
 (1 : Int))))))])), D.v (.bool false), D.v (.string (⟨#[102, 111, 114, 119, 97, 114, (100 :
 UInt8)]⟩)), D.v (.bool false), D.v (.string (dcd [AV.c (.d (.v (.int .i64 (SRel.zx2 r))))])), D.v (.bool false), D.v (.string (dcd [AV.c (C.d (D.v
 (Value.int IntKind.i64 (SRel.zr2 r))))])), D.v (.bool false), D.v (.string (dcd [AV.c (.d (.v (.int .i64 (SRel.zl2 r))))])), D.v (.bool false), D.v
 (Value.string (dcd [AV.c (.d (.v (.int .i64 (SRel.zd2 r))))])), D.v (.bool false)] (1 + 1)), D.v (.bool false), D.v (Value.slice none (0 :
 Nat) 0)] else appF n f (Aaf [D.v (.int .i64 (0 : Int)), D.v (.slice none 0 0), D.v (.bool false), D.v (Value.slice none 0 (0
 : Nat))] (3 + 1)) j) (IntKind.wrap .i64 ((2 : Int) + (1 : Int))) else none) else none) else none) else none) else none) else none) else none) else (bif okd
 [AV.c (.d (.v (.int .i64 (IntKind.wrap .i64 ((2 : Int) + (1 : Int))))))] then (bif okd [AV.c (.d (.v (.int .i64 (SRel.zx2 r))))] then (bif okd
 [AV.c (.d (.v (.int .i64 (SRel.zr2 r))))] then (bif okd [AV.c (.d (.v (.int .i64 (SRel.zl2 r))))] then (bif okd [AV.c (C.d (D.v (Value.int IntKind.i64
 (SRel.zd2 r))))] then (bif decide ((n + 1) * 64 ≤ 140737488355328) && decide (n + 1 ≤ 9223372036854775807) then (bif decide ((0 : Int) ≤ (↑n
 : Int)) && decide ((↑n : Int) < (↑(n + 1) : Int)) then Lnum_4 okd dcd r g m (n + 1) (fun j => bif Nat.beq j (Int.toNat (↑n : Int)) then splice (appF n f (Aaf [D.v
 (Value.int IntKind.i64 (0 : Int)), D.v (.slice none 0 0), D.v (.bool false), D.v (.slice none 0 0)] (3 + 1)) j) (0 :
 Nat) [D.v (.int .i64 (0 : Int)), D.sl (1 + 1) (0 + 1 + 1 + 1 + 1 + 1 + 1 + 1) (Aaf [D.v
 (Value.string (⟨#[122, 111, 110, 101]⟩)), D.v (.bool false), D.v (.string (dcd [AV.c (C.d (D.v (Value.int IntKind.i64
 (IntKind.wrap .i64 ((2 : Int) + (1 : Int))))))])), D.v (.bool false), D.v (.string (⟨#[114, 101, 118, 101, (114
 : UInt8), 115, 101]⟩)), D.v (.bool false), D.v (.string (dcd [AV.c (.d (.v (.int .i64 (SRel.zx2 r))))])), D.v (.bool false), D.v
 (Value.string (dcd [AV.c (.d (.v (.int .i64 (SRel.zr2 r))))])), D.v (.bool false), D.v (.string (dcd [AV.c (.d (.v (.int .i64 (SRel.zl2
 r))))])), D.v (.bool false), D.v (.string (dcd [AV.c (.d (.v (.int .i64 (SRel.zd2 r))))])), D.v (.bool false)] (1 + 1)), D.v (Value.bool
 false), D.v (.slice none 0 0)] else appF n f (Aaf [D.v (.int .i64 (0 : Int)), D.v (.slice none 0 0), D.v (.bool false),
 D.v (.slice none 0 0)] (3 + 1)) j) (IntKind.wrap .i64 ((2 : Int) + (1 : Int))) else none) else none) else none) else none) else none)
 else none) else none))) := by kernel_rfl
theorem zn3 (okd : List AV → Bool) (dcd : List AV → ByteArray) (r : SRel) (g m : Nat) (n : Nat) (f : Nat → List D) : Lnum_4 okd dcd r g (m + 1) n f 3 =
 Lnum_13 okd dcd r g g n f := by kernel_rfl
end Go.Proofs.YtmnfibmlhmeheaaGreatDoor.en
namespace Go.Proofs.YtmnfibmlhmeheaaGreatDoor.ito
open Go.Shelf
def lays171_ren : Go.Shelf.Ren := ⟨fun | 171 => 39 | 243 => 90 | 246 => 132 | 283 => 144 | 284 => 145 | 285 => 146 | 286 => 147 | 129 => 153 | 317 => 152 | 318 => 154 | 319 => 155 | 320 => 156 | 337 => 158 | 338 => 159 | n => n, fun | 3 => 3 | 9 => 9 | 2 => 2 | 4 => 4 | 171 => 192 | 0 => 0 | 53 => 193 | 37 => 187 | 5 => 5 | 173 => 196 | 212 => 202 | 51 => 203 | 20 => 20 | 213 => 204 | 46 => 205 | 232 => 209 | 233 => 210 | n => n, fun | 17 => 0 | 18 => 1 | 19 => 2 | n => n⟩
theorem lays171 : Go.Proofs.LaysM.n171 Tryz.prog lays171_ren := {
  mixed := by kernel_rfl
  f129 := Tryz.func153.trans (congrArg some (by kernel_rfl))
  f171 := Tryz.func39.trans (congrArg some (by kernel_rfl))
  f243 := Tryz.func90.trans (congrArg some (by kernel_rfl))
  f246 := Tryz.func132.trans (congrArg some (by kernel_rfl))
  f283 := Tryz.func144.trans (congrArg some (by kernel_rfl))
  f284 := Tryz.func145.trans (congrArg some (by kernel_rfl))
  f285 := Tryz.func146.trans (congrArg some (by kernel_rfl))
  f286 := Tryz.func147.trans (congrArg some (by kernel_rfl))
  f317 := Tryz.func152.trans (congrArg some (by kernel_rfl))
  f318 := Tryz.func154.trans (congrArg some (by kernel_rfl))
  f319 := Tryz.func155.trans (congrArg some (by kernel_rfl))
  f320 := Tryz.func156.trans (congrArg some (by kernel_rfl))
  f337 := Tryz.func158.trans (congrArg some (by kernel_rfl))
  f338 := Tryz.func159.trans (congrArg some (by kernel_rfl))
  t0 := Tryz.underlying0
  a0 := Tryz.isAgg0
  z0 := Tryz.sizeOf0
  v0 := Tryz.zeroValue0
  t2 := Tryz.underlying2
  a2 := Tryz.isAgg2
  z2 := Tryz.sizeOf2
  v2 := Tryz.zeroValue2
  t3 := Tryz.underlying3
  a3 := Tryz.isAgg3
  z3 := Tryz.sizeOf3
  v3 := Tryz.zeroValue3
  t4 := Tryz.underlying4
  a4 := Tryz.isAgg4
  z4 := Tryz.sizeOf4
  v4 := Tryz.zeroValue4
  t5 := Tryz.underlying5
  a5 := Tryz.isAgg5
  z5 := Tryz.sizeOf5
  v5 := Tryz.zeroValue5
  t9 := Tryz.underlying9
  a9 := Tryz.isAgg9
  z9 := Tryz.sizeOf9
  v9 := Tryz.zeroValue9
  t20 := Tryz.underlying20
  a20 := Tryz.isAgg20
  z20 := Tryz.sizeOf20
  v20 := Tryz.zeroValue20
  t37 := Tryz.underlying187
  a37 := Tryz.isAgg187
  z37 := Tryz.sizeOf187
  v37 := Tryz.zeroValue187
  t46 := Tryz.underlying205
  a46 := Tryz.isAgg205
  z46 := Tryz.sizeOf205
  v46 := Tryz.zeroValue205
  t51 := Tryz.underlying203
  a51 := Tryz.isAgg203
  z51 := Tryz.sizeOf203
  v51 := Tryz.zeroValue203
  t53 := Tryz.underlying193
  a53 := Tryz.isAgg193
  z53 := Tryz.sizeOf193
  v53 := Tryz.zeroValue193
  t171 := Tryz.underlying192
  a171 := Tryz.isAgg192
  z171 := Tryz.sizeOf192
  v171 := Tryz.zeroValue192
  t173 := Tryz.underlying196
  a173 := Tryz.isAgg196
  z173 := Tryz.sizeOf196
  v173 := Tryz.zeroValue196
  t212 := Tryz.underlying202
  a212 := Tryz.isAgg202
  z212 := Tryz.sizeOf202
  v212 := Tryz.zeroValue202
  t213 := Tryz.underlying204
  a213 := Tryz.isAgg204
  z213 := Tryz.sizeOf204
  t232 := Tryz.underlying209
  a232 := Tryz.isAgg209
  z232 := Tryz.sizeOf209
  v232 := Tryz.zeroValue209
  t233 := Tryz.underlying210
  a233 := Tryz.isAgg210
  z233 := Tryz.sizeOf210
  v233 := Tryz.zeroValue210
  g17 := by kernel_rfl
  g18 := by kernel_rfl
  g19 := by kernel_rfl
  i0 := by kernel_rfl
  i2 := by kernel_rfl
  i3 := by kernel_rfl
  i4 := by kernel_rfl
  i5 := by kernel_rfl
  i9 := by kernel_rfl
  i20 := by kernel_rfl
  i37 := by kernel_rfl
  i46 := by kernel_rfl
  i51 := by kernel_rfl
  i53 := by kernel_rfl
  i171 := by kernel_rfl
  i173 := by kernel_rfl
  i212 := by kernel_rfl
  i232 := by kernel_rfl
  i233 := by kernel_rfl
  m17 := by kernel_rfl
  m18 := by kernel_rfl
  m19 := by kernel_rfl }
end Go.Proofs.YtmnfibmlhmeheaaGreatDoor.ito
namespace Go.Proofs.YtmnfibmlhmeheaaGreatDoor.ito
open Go.RowKit Go.Eb
set_option maxRecDepth 100000
theorem digits_dec (u : Nat) : decB u = ⟨(Lib.decDigits u).toArray⟩ := by
  induction u using Nat.strongRecOn with
  | ind u ih =>
    rw [Lib.decDigits]
    by_cases h : u < 10
    · rw [dif_pos h, decB_lt h]
    · rw [dif_neg h, decB_ge h, ih (u / 10) (by omega), decB_lt (by omega)]
      apply ByteArray.ext
      rw [ByteArray.data_append]
      simp
theorem itoa_dec {n : Int} : (⟨(Lib.itoa n).toArray⟩ : ByteArray) = decI n := by
  unfold Lib.itoa decI
  by_cases h : n < 0
  · rw [if_pos h, decide_eq_true h, cond_true, digits_dec]
    apply ByteArray.ext
    rw [ByteArray.data_append]
    simp
  · rw [if_neg h, decide_eq_false h, cond_false, digits_dec]
def tab : Array Value := (Lib.pow10Tab.map fun z => Value.int .u64 z).toArray
theorem tab_size : tab.size = 20 := by simp [tab, Lib.pow10Tab]
theorem tab_get (i : Nat) (h : i < 20) : tab[i]? = some (.int .u64 ((10 ^ i : Nat) : Int)) := by
  simp [tab, Lib.pow10Tab, h]
theorem glob_at {I : Im} {w : World} (hg : Glob I w) (i : Nat) (h : i < 21) : w.cell? ⟨0, i, none⟩ = (bif Nat.blt i 20 then some (.int .u64 ((10 ^ i : Nat) : Int)) else none) := by
  have := hg (0, i, bif Nat.blt i 20 then some (.int .u64 ((10 ^ i : Nat) : Int)) else none) (by
    unfold gcells
    exact List.mem_map.2 ⟨i, List.mem_range.2 h, rfl⟩)
  exact this.2
theorem tab_of {I : Im} {w : World} (hg : Glob I w) : ∃ t fz, w.heap[0]? = some (.cells tab t fz) := by
  have h0 := glob_at hg 0 (by omega)
  rw [show (bif Nat.blt 0 20 then some (Value.int .u64 ((10 ^ 0 : Nat) : Int)) else none) = some (Value.int .u64 1) from rfl] at h0
  have hc : ∀ {c : Array Value} {t : TypeId} {fz : Nat × Nat}, w.heap[0]? = some (.cells c t fz) → ∀ i, w.cell? ⟨0, i, none⟩ = c[i]? := fun hh i => by
    unfold World.cell?
    rw [hh]
    rfl
  cases hh : w.heap[0]? with
  | none => unfold World.cell? at h0; rw [hh] at h0; cases h0
  | some o =>
    cases o with
    | cells c t fz =>
      refine ⟨t, fz, ?_⟩
      have e : c = tab := by
        apply Array.ext_getElem?
        intro i
        by_cases h : i < 20
        · have := glob_at hg i (by omega)
          rw [hc hh, bltD, decide_eq_true h] at this
          rw [this, tab_get i h]
          rfl
        · have := glob_at hg 20 (by omega)
          rw [hc hh] at this
          have h20 : c[20]? = none := this
          have hs : c.size ≤ 20 := by simpa using h20
          rw [Array.getElem?_eq_none (by omega), Array.getElem?_eq_none (by rw [tab_size]; omega)]
      rw [e]
    | _ => unfold World.cell? at h0; rw [hh] at h0; cases h0
theorem grow_at (w : World) (k : Nat) (os : Array Obj) {b : Nat} (h : b < w.heap.size) : (Sort.grow (w.drewN k) os).heap[b]? = w.heap[b]? := by
  show (w.heap ++ os)[b]? = _
  rw [Array.getElem?_append, if_pos h]
theorem grow_cell (w : World) (k : Nat) (os : Array Obj) {b o : Nat} (h : b < w.heap.size) : (Sort.grow (w.drewN k) os).cell? ⟨b, o, none⟩ = w.cell? ⟨b, o, none⟩ := by
  unfold World.cell?
  rw [grow_at w k os h]
theorem cItoa (n : Int) (h0 : -1000000 ≤ n) (h1 : n ≤ 1000000) : CX Tryz.prog 39 [vI n] [] (vS (decI n)) [] := by
  refine CX.of_cr Tryz.func39 (by kernel_rfl : Tryz.f39.body = some (Aad Tryz.f39)) ?_
  intro β I w vs hr ha
  obtain ⟨hl, hv⟩ := ha
  have hs : vs.size = 1 := by rw [← hl]; rfl
  obtain ⟨v, rfl⟩ : ∃ v, vs = #[v] := by
    refine ⟨vs[0]'(by omega), ?_⟩
    apply Array.ext
    · simp [hs]
    · intro i h1 h2
      have : i = 0 := by omega
      subst this
      rfl
  have hx : RepA β w I (vI n) v := hv 0 _ v rfl (by simp)
  have hd : RepD w I (.v (.int .i64 n)) v := hx
  obtain rfl := RepD.v_eq hd
  obtain ⟨t, fz, hh⟩ := tab_of hr.gl
  have hi : ∀ h, β h = .free := fun h => hr.dom h rfl
  refine (Any.strconv_Itoa lays171 n (by omega) (by omega) w ?_).mono ?_
  · unfold Lib.TabIs World.var?
    refine Eq.trans (congrArg (fun o => Option.bind o _) (?_ : _ = some 0)) ?_
    · kernel_rfl
    · show (match w.heap[0]? with | some (.cells cs _ _) => some cs | _ => none) = _
      rw [hh]
      rfl
  · rintro e w' ⟨rfl, k, os, rfl⟩
    have hsz : w.heap.size ≤ (Sort.grow (w.drewN k) os).heap.size := by
      show _ ≤ (w.heap ++ os).size
      simp
    have hE : Ext β I β I w (Sort.grow (w.drewN k) os) := ⟨rfl, rfl, rfl, hsz, fun b hb _ => grow_at w k os hb, fun _ _ hi => hi, fun b o hi => grow_cell w k os (hr.old b o hi), fun _ _ hi => .inl hi, fun x b hb => .inl ⟨x, hb⟩, fun b vs t fz hb => ⟨vs, fz, by rw [grow_at w k os (Array.getElem?_eq_some_iff.1 hb).1]; exact hb, rfl⟩⟩
    refine ⟨_, β, I, rfl, ⟨⟨hr.inj, fun h b hb => Nat.lt_of_lt_of_le (hr.lt h b hb) hsz, hr.off, fun b o hi => Nat.lt_of_lt_of_le (hr.old b o hi) hsz, hr.gl.step (fun _ _ hi => hi) hE.cell⟩, hr.dom, fun h B hB => by have hB' : (none : Option Blk) = some B := hB; cases hB'⟩, ?_, hE, .refl β⟩
    rw [itoa_dec]
    exact RepD.v _ rfl
end Go.Proofs.YtmnfibmlhmeheaaGreatDoor.ito
namespace Go.Proofs.YtmnfibmlhmeheaaGreatDoor.en
open Go.RowKit Go.Eb
set_option maxRecDepth 100000
structure NFit (r : SRel) : Prop where
  zx0 : nI r.zx0 = true
  zr0 : nI r.zr0 = true
  zl0 : nI r.zl0 = true
  zd0 : nI r.zd0 = true
  zx1 : nI r.zx1 = true
  zr1 : nI r.zr1 = true
  zl1 : nI r.zl1 = true
  zd1 : nI r.zd1 = true
  zx2 : nI r.zx2 = true
  zr2 : nI r.zr2 = true
  zl2 : nI r.zl2 = true
  zd2 : nI r.zd2 = true
  min : nI r.min = true
  kre : nI r.kre = true
  kim : nI r.kim = true
  wait : nI r.wait = true
  guard : nI r.guard = true
  dpk : nI r.dpk = true
  ddl : nI r.ddl = true
  ipk : nI r.ipk = true
  idl : nI r.idl = true
  fpk : nI r.fpk = true
  fdl : nI r.fdl = true
  shots : nI r.shots = true
  dead : nI r.dead = true
  reclaim : nI r.reclaim = true
  upk : nI r.upk = true
  udl : nI r.udl = true
  opk : nI r.opk = true
  odl : nI r.odl = true
  diff : nI r.diff = true
  num : nI r.num = true
  den : nI r.den = true
  harm : nI r.harm = true
  sch : r.scheme = 0 ∨ r.scheme = 1 ∨ r.scheme = 2 ∨ r.scheme = 3
def okN' : List AV → Bool
  | [.c (.d (.v (.int .i64 k)))] => nI k
  | _ => false
def dcN' : List AV → ByteArray
  | [.c (.d (.v (.int .i64 k)))] => decI k
  | _ => e0
theorem okn {k : Int} (h : nI k = true) : okN' [AV.c (C.d (D.v (Value.int IntKind.i64 k)))] = true := h
theorem nI_un {k : Int} (h : nI k = true) : -1000000 ≤ k ∧ k ≤ 1000000 := by
  unfold nI at h
  simp only [Bool.and_eq_true, decide_eq_true_eq] at h
  exact h
theorem sDn : OrcS Tryz.prog (oDc okN' dcN') := .cons (.g fun x h => by
  unfold okN' at h
  split at h
  · rename_i k
    exact cdecI k (nI_un h).1 (nI_un h).2
  · cases h) .nil
theorem sPit : OrcS Tryz.prog (oPit okN' dcN') := .cons (.g fun x h => by
  unfold okN' at h
  split at h
  · rename_i k
    exact ito.cItoa k (nI_un h).1 (nI_un h).2
  · cases h) .nil
theorem sPx : OrcS Tryz.prog oPx := .cons (.inl .nil Tryz.func16 (by kernel_rfl)) .nil
theorem sPst : OrcS Tryz.prog (oPst okN' dcN') := .cons (.inl sPx Tryz.func15 (by kernel_rfl)) (.cons (.inl .nil Tryz.func16 (by kernel_rfl)) (.cons (.inl .nil Tryz.func40 (by kernel_rfl)) (.cons (.inl sPit Tryz.func38 (by kernel_rfl)) sPit)))
theorem sPnu : OrcS Tryz.prog (oPnu okN' dcN') := .cons (.inl sPst Tryz.func37 (by kernel_rfl)) sPst
theorem zone_off (i : Int) (fw : Bool) (x r l d : Int) : encZone i false fw x r l d = [] := rfl
theorem appOk5 {n : Nat} (h : n ≤ 5000) : (decide ((n + 1) * 64 ≤ 140737488355328) && decide (n + 1 ≤ 9223372036854775807)) = true := by
  rw [decide_eq_true (by omega), decide_eq_true (by omega)]; rfl
abbrev putF (n : Nat) (f : Nat → List D) (z ds : List D) : Nat → List D := fun j => bif Nat.beq j (Int.toNat (n : Int)) then splice (appF n f (Aaf z ((3 : Nat) + (1 : Nat))) j) 0 ds else appF n f (Aaf z ((3 : Nat) + (1 : Nat))) j
theorem putF_eq' (n : Nat) (f : Nat → List D) (z ds : List D) (hz : z.length = 4) (hd : ds.length = 4) : putF n f z ds = appF n f (Aaf ds 4) := by
  funext j
  unfold putF appF
  rw [bltD, beqD, tn]
  by_cases e : j < n
  · rw [decide_eq_true e, decide_eq_false (by omega)]; rfl
  · rw [decide_eq_false e]
    by_cases e2 : j = n
    · subst e2
      rw [decide_eq_true rfl, Nat.sub_self]
      show splice (Aaf z 4 0) 0 ds = Aaf ds 4 0
      have h1 : Aaf z 4 0 = z := by rw [← hz]; exact chunk_one z
      have h2 : Aaf ds 4 0 = ds := by rw [← hd]; exact chunk_one ds
      rw [h1, h2]
      unfold splice
      rw [List.drop_of_length_le (by omega)]
      simp
    · rw [decide_eq_false e2]
      show Aaf z 4 (j - n) = Aaf ds 4 (j - n)
      unfold Aaf
      rw [List.drop_of_length_le (by omega), List.drop_of_length_le (by omega)]
theorem putF_eq (n : Nat) (f : Nat → List D) (z ds : List D) (hz : z.length = 4) (hd : ds.length = 4) : (fun j => bif Nat.beq j (Int.toNat (n : Int)) then splice (appF n f (Aaf z ((3 : Nat) + (1 : Nat))) j) (0 : Nat) ds else appF n f (Aaf z ((3 : Nat) + (1 : Nat))) j) = appF n f (Aaf ds 4) := putF_eq' n f z ds hz hd
theorem ixn (n : Nat) : (decide ((0 : Int) ≤ (n : Int)) && decide ((n : Int) < ((n + (1 : Nat) : Nat) : Int))) = true := by
  rw [decide_eq_true (by omega), decide_eq_true (by omega)]; rfl
section
variable {r : SRel} (h : NFit r) (g : Nat)
include h
theorem numz0 (m n : Nat) (f : Nat → List D) (bef : List It) (hn : n ≤ 4000) (hr : RLe Aag i0 n f bef) :
    ∃ n' f', n' ≤ n + 1 ∧ RLe Aag i0 n' f' (bef ++ encZone 1 r.zon0 r.zfw0 r.zx0 r.zr0 r.zl0 r.zd0) ∧ Lnum_4 okN' dcN' r (g + 1) (m + 1) n f 0 = Lnum_4 okN' dcN' r (g + 1) m n' f' 1 := by
  rw [zn0, show IntKind.wrap IntKind.i64 ((0 : Int) + (1 : Int)) = 1 by decide]
  cases e0 : r.zon0 with
  | false =>
    rw [Bool.not_false, cond_true]
    exact ⟨n, f, by omega, by rw [zone_off, List.append_nil]; exact hr, rfl⟩
  | true =>
    cases e1 : r.zfw0 with
    | true =>
      rw [Bool.not_true, cond_false, cond_true, okn (show nI 1 = true by decide), cond_true, okn h.zx0, cond_true, okn h.zr0, cond_true, okn h.zl0, cond_true, okn h.zd0, cond_true, appOk5 (by omega), cond_true, ixn, cond_true, putF_eq _ _ _ _ rfl rfl]
      generalize Lnum_4 okN' dcN' r (g + 1) m = LL
      exact ⟨_, _, Nat.le_refl _, hr.app rfl (Aas [tZone', decI 1, tForward', decI r.zx0, decI r.zr0, decI r.zl0, decI r.zd0]), rfl⟩
    | false =>
      rw [Bool.not_true, cond_false, cond_false, okn (show nI 1 = true by decide), cond_true, okn h.zx0, cond_true, okn h.zr0, cond_true, okn h.zl0, cond_true, okn h.zd0, cond_true, appOk5 (by omega), cond_true, ixn, cond_true, putF_eq _ _ _ _ rfl rfl]
      generalize Lnum_4 okN' dcN' r (g + 1) m = LL
      exact ⟨_, _, Nat.le_refl _, hr.app rfl (Aas [tZone', decI 1, tReverse', decI r.zx0, decI r.zr0, decI r.zl0, decI r.zd0]), rfl⟩
theorem numz1 (m n : Nat) (f : Nat → List D) (bef : List It) (hn : n ≤ 4000) (hr : RLe Aag i0 n f bef) :
    ∃ n' f', n' ≤ n + 1 ∧ RLe Aag i0 n' f' (bef ++ encZone 2 r.zon1 r.zfw1 r.zx1 r.zr1 r.zl1 r.zd1) ∧ Lnum_4 okN' dcN' r (g + 1) (m + 1) n f 1 = Lnum_4 okN' dcN' r (g + 1) m n' f' 2 := by
  rw [zn1, show IntKind.wrap IntKind.i64 ((1 : Int) + (1 : Int)) = 2 by decide]
  cases e0 : r.zon1 with
  | false =>
    rw [Bool.not_false, cond_true]
    exact ⟨n, f, by omega, by rw [zone_off, List.append_nil]; exact hr, rfl⟩
  | true =>
    cases e1 : r.zfw1 with
    | true =>
      rw [Bool.not_true, cond_false, cond_true, okn (show nI 2 = true by decide), cond_true, okn h.zx1, cond_true, okn h.zr1, cond_true, okn h.zl1, cond_true, okn h.zd1, cond_true, appOk5 (by omega), cond_true, ixn, cond_true, putF_eq _ _ _ _ rfl rfl]
      generalize Lnum_4 okN' dcN' r (g + 1) m = LL
      exact ⟨_, _, Nat.le_refl _, hr.app rfl (Aas [tZone', decI 2, tForward', decI r.zx1, decI r.zr1, decI r.zl1, decI r.zd1]), rfl⟩
    | false =>
      rw [Bool.not_true, cond_false, cond_false, okn (show nI 2 = true by decide), cond_true, okn h.zx1, cond_true, okn h.zr1, cond_true, okn h.zl1, cond_true, okn h.zd1, cond_true, appOk5 (by omega), cond_true, ixn, cond_true, putF_eq _ _ _ _ rfl rfl]
      generalize Lnum_4 okN' dcN' r (g + 1) m = LL
      exact ⟨_, _, Nat.le_refl _, hr.app rfl (Aas [tZone', decI 2, tReverse', decI r.zx1, decI r.zr1, decI r.zl1, decI r.zd1]), rfl⟩
theorem numz2 (m n : Nat) (f : Nat → List D) (bef : List It) (hn : n ≤ 4000) (hr : RLe Aag i0 n f bef) :
    ∃ n' f', n' ≤ n + 1 ∧ RLe Aag i0 n' f' (bef ++ encZone 3 r.zon2 r.zfw2 r.zx2 r.zr2 r.zl2 r.zd2) ∧ Lnum_4 okN' dcN' r (g + 1) (m + 1) n f 2 = Lnum_4 okN' dcN' r (g + 1) m n' f' 3 := by
  rw [zn2, show IntKind.wrap IntKind.i64 ((2 : Int) + (1 : Int)) = 3 by decide]
  cases e0 : r.zon2 with
  | false =>
    rw [Bool.not_false, cond_true]
    exact ⟨n, f, by omega, by rw [zone_off, List.append_nil]; exact hr, rfl⟩
  | true =>
    cases e1 : r.zfw2 with
    | true =>
      rw [Bool.not_true, cond_false, cond_true, okn (show nI 3 = true by decide), cond_true, okn h.zx2, cond_true, okn h.zr2, cond_true, okn h.zl2, cond_true, okn h.zd2, cond_true, appOk5 (by omega), cond_true, ixn, cond_true, putF_eq _ _ _ _ rfl rfl]
      generalize Lnum_4 okN' dcN' r (g + 1) m = LL
      exact ⟨_, _, Nat.le_refl _, hr.app rfl (Aas [tZone', decI 3, tForward', decI r.zx2, decI r.zr2, decI r.zl2, decI r.zd2]), rfl⟩
    | false =>
      rw [Bool.not_true, cond_false, cond_false, okn (show nI 3 = true by decide), cond_true, okn h.zx2, cond_true, okn h.zr2, cond_true, okn h.zl2, cond_true, okn h.zd2, cond_true, appOk5 (by omega), cond_true, ixn, cond_true, putF_eq _ _ _ _ rfl rfl]
      generalize Lnum_4 okN' dcN' r (g + 1) m = LL
      exact ⟨_, _, Nat.le_refl _, hr.app rfl (Aas [tZone', decI 3, tReverse', decI r.zx2, decI r.zr2, decI r.zl2, decI r.zd2]), rfl⟩
theorem num13 (n : Nat) (f : Nat → List D) (bef : List It) (hn : n ≤ 4000) (hr : RLe Aag i0 n f bef) :
    ∃ n' f', n' ≤ n + 1 ∧ RLe Aag i0 n' f' (bef ++ encIf (r.min != 0) (say [tLoop', decI r.min, decI r.kre, decI r.kim])) ∧ Lnum_13 okN' dcN' r (g + 1) (g + 1) n f = Lnum_14 okN' dcN' r (g + 1) (g + 1) n' f' := by
  rw [stnum_13]
  cases (r.min != 0) with
  | false =>
    rw [cond_false]
    exact ⟨n, f, by omega, by rw [show ∀ x, encIf false x = [] from fun _ => rfl, List.append_nil]; exact hr, rfl⟩
  | true =>
    rw [cond_true, okn h.min, cond_true, okn h.kre, cond_true, okn h.kim, cond_true, appOk5 (by omega), cond_true, ixn, cond_true, putF_eq _ _ _ _ rfl rfl]
    generalize Lnum_14 okN' dcN' r (g + 1) (g + 1) = LL
    exact ⟨_, _, Nat.le_refl _, hr.app rfl (Aas [tLoop', decI r.min, decI r.kre, decI r.kim]), rfl⟩
theorem num14 (n : Nat) (f : Nat → List D) (bef : List It) (hn : n ≤ 4000) (hr : RLe Aag i0 n f bef) :
    ∃ n' f', n' ≤ n + 1 ∧ RLe Aag i0 n' f' (bef ++ encIf (r.scheme != 0) (say [tScheme', schemeW r.scheme, decI r.wait, decI r.guard])) ∧ Lnum_14 okN' dcN' r (g + 1) (g + 1) n f = Lnum_16 okN' dcN' r (g + 1) (g + 1) n' f' := by
  rw [stnum_14]
  rcases h.sch with e | e | e | e
  · rw [e, show ((0 : Int) != 0) = false by decide, cond_false]
    exact ⟨n, f, by omega, by rw [show ∀ x, encIf false x = [] from fun _ => rfl, List.append_nil]; exact hr, rfl⟩
  · rw [e, show ((1 : Int) != 0) = true by decide, cond_true, show ((1 : Int) == 1) = true by decide, cond_true]
    rw [okn h.wait, cond_true, okn h.guard, cond_true, appOk5 (by omega), cond_true, ixn, cond_true, putF_eq _ _ _ _ rfl rfl]
    generalize Lnum_16 okN' dcN' r (g + 1) (g + 1) = LL
    exact ⟨_, _, Nat.le_refl _, hr.app rfl (Aas [tScheme', tUnderreach', decI r.wait, decI r.guard]), rfl⟩
  · rw [e, show ((2 : Int) != 0) = true by decide, cond_true, show ((2 : Int) == 1) = false by decide, cond_false, show ((2 : Int) == 2) = true by decide, cond_true]
    rw [okn h.wait, cond_true, okn h.guard, cond_true, appOk5 (by omega), cond_true, ixn, cond_true, putF_eq _ _ _ _ rfl rfl]
    generalize Lnum_16 okN' dcN' r (g + 1) (g + 1) = LL
    exact ⟨_, _, Nat.le_refl _, hr.app rfl (Aas [tScheme', tOverreach', decI r.wait, decI r.guard]), rfl⟩
  · rw [e, show ((3 : Int) != 0) = true by decide, cond_true, show ((3 : Int) == 1) = false by decide, cond_false, show ((3 : Int) == 2) = false by decide, cond_false]
    rw [okn h.wait, cond_true, okn h.guard, cond_true, appOk5 (by omega), cond_true, ixn, cond_true, putF_eq _ _ _ _ rfl rfl]
    generalize Lnum_16 okN' dcN' r (g + 1) (g + 1) = LL
    exact ⟨_, _, Nat.le_refl _, hr.app rfl (Aas [tScheme', tBlocking', decI r.wait, decI r.guard]), rfl⟩
theorem num16 (n : Nat) (f : Nat → List D) (bef : List It) (hn : n ≤ 4000) (hr : RLe Aag i0 n f bef) :
    ∃ n' f', n' ≤ n + 1 ∧ RLe Aag i0 n' f' (bef ++ encIf (r.don) (say [tDefinite', decI r.dpk, decI r.ddl])) ∧ Lnum_16 okN' dcN' r (g + 1) (g + 1) n f = Lnum_17 okN' dcN' r (g + 1) (g + 1) n' f' := by
  rw [stnum_16]
  cases (r.don) with
  | false =>
    rw [cond_false]
    exact ⟨n, f, by omega, by rw [show ∀ x, encIf false x = [] from fun _ => rfl, List.append_nil]; exact hr, rfl⟩
  | true =>
    rw [cond_true, okn h.dpk, cond_true, okn h.ddl, cond_true, appOk5 (by omega), cond_true, ixn, cond_true, putF_eq _ _ _ _ rfl rfl]
    generalize Lnum_17 okN' dcN' r (g + 1) (g + 1) = LL
    exact ⟨_, _, Nat.le_refl _, hr.app rfl (Aas [tDefinite', decI r.dpk, decI r.ddl]), rfl⟩
theorem num17 (n : Nat) (f : Nat → List D) (bef : List It) (hn : n ≤ 4000) (hr : RLe Aag i0 n f bef) :
    ∃ n' f', n' ≤ n + 1 ∧ RLe Aag i0 n' f' (bef ++ encIf (r.ion) (say [tInverse', decI r.ipk, decI r.idl])) ∧ Lnum_17 okN' dcN' r (g + 1) (g + 1) n f = Lnum_18 okN' dcN' r (g + 1) (g + 1) n' f' := by
  rw [stnum_17]
  cases (r.ion) with
  | false =>
    rw [cond_false]
    exact ⟨n, f, by omega, by rw [show ∀ x, encIf false x = [] from fun _ => rfl, List.append_nil]; exact hr, rfl⟩
  | true =>
    rw [cond_true, okn h.ipk, cond_true, okn h.idl, cond_true, appOk5 (by omega), cond_true, ixn, cond_true, putF_eq _ _ _ _ rfl rfl]
    generalize Lnum_18 okN' dcN' r (g + 1) (g + 1) = LL
    exact ⟨_, _, Nat.le_refl _, hr.app rfl (Aas [tInverse', decI r.ipk, decI r.idl]), rfl⟩
theorem num18 (n : Nat) (f : Nat → List D) (bef : List It) (hn : n ≤ 4000) (hr : RLe Aag i0 n f bef) :
    ∃ n' f', n' ≤ n + 1 ∧ RLe Aag i0 n' f' (bef ++ encIf (r.fon) (say [tFail', decI r.fpk, decI r.fdl])) ∧ Lnum_18 okN' dcN' r (g + 1) (g + 1) n f = Lnum_19 okN' dcN' r (g + 1) (g + 1) n' f' := by
  rw [stnum_18]
  cases (r.fon) with
  | false =>
    rw [cond_false]
    exact ⟨n, f, by omega, by rw [show ∀ x, encIf false x = [] from fun _ => rfl, List.append_nil]; exact hr, rfl⟩
  | true =>
    rw [cond_true, okn h.fpk, cond_true, okn h.fdl, cond_true, appOk5 (by omega), cond_true, ixn, cond_true, putF_eq _ _ _ _ rfl rfl]
    generalize Lnum_19 okN' dcN' r (g + 1) (g + 1) = LL
    exact ⟨_, _, Nat.le_refl _, hr.app rfl (Aas [tFail', decI r.fpk, decI r.fdl]), rfl⟩
theorem num19 (n : Nat) (f : Nat → List D) (bef : List It) (hn : n ≤ 4000) (hr : RLe Aag i0 n f bef) :
    ∃ n' f', n' ≤ n + 1 ∧ RLe Aag i0 n' f' (bef ++ encIf (r.shots != 0) (say [tReclose', decI r.shots, decI r.dead, decI r.reclaim])) ∧ Lnum_19 okN' dcN' r (g + 1) (g + 1) n f = Lnum_20 okN' dcN' r (g + 1) (g + 1) n' f' := by
  rw [stnum_19]
  cases (r.shots != 0) with
  | false =>
    rw [cond_false]
    exact ⟨n, f, by omega, by rw [show ∀ x, encIf false x = [] from fun _ => rfl, List.append_nil]; exact hr, rfl⟩
  | true =>
    rw [cond_true, okn h.shots, cond_true, okn h.dead, cond_true, okn h.reclaim, cond_true, appOk5 (by omega), cond_true, ixn, cond_true, putF_eq _ _ _ _ rfl rfl]
    generalize Lnum_20 okN' dcN' r (g + 1) (g + 1) = LL
    exact ⟨_, _, Nat.le_refl _, hr.app rfl (Aas [tReclose', decI r.shots, decI r.dead, decI r.reclaim]), rfl⟩
theorem num20 (n : Nat) (f : Nat → List D) (bef : List It) (hn : n ≤ 4000) (hr : RLe Aag i0 n f bef) :
    ∃ n' f', n' ≤ n + 1 ∧ RLe Aag i0 n' f' (bef ++ encIf (r.uon) (say [tUnder', decI r.upk, decI r.udl])) ∧ Lnum_20 okN' dcN' r (g + 1) (g + 1) n f = Lnum_21 okN' dcN' r (g + 1) (g + 1) n' f' := by
  rw [stnum_20]
  cases (r.uon) with
  | false =>
    rw [cond_false]
    exact ⟨n, f, by omega, by rw [show ∀ x, encIf false x = [] from fun _ => rfl, List.append_nil]; exact hr, rfl⟩
  | true =>
    rw [cond_true, okn h.upk, cond_true, okn h.udl, cond_true, appOk5 (by omega), cond_true, ixn, cond_true, putF_eq _ _ _ _ rfl rfl]
    generalize Lnum_21 okN' dcN' r (g + 1) (g + 1) = LL
    exact ⟨_, _, Nat.le_refl _, hr.app rfl (Aas [tUnder', decI r.upk, decI r.udl]), rfl⟩
theorem num21 (n : Nat) (f : Nat → List D) (bef : List It) (hn : n ≤ 4000) (hr : RLe Aag i0 n f bef) :
    ∃ n' f', n' ≤ n + 1 ∧ RLe Aag i0 n' f' (bef ++ encIf (r.oon) (say [tOver', decI r.opk, decI r.odl])) ∧ Lnum_21 okN' dcN' r (g + 1) (g + 1) n f = Lnum_22 okN' dcN' r (g + 1) (g + 1) n' f' := by
  rw [stnum_21]
  cases (r.oon) with
  | false =>
    rw [cond_false]
    exact ⟨n, f, by omega, by rw [show ∀ x, encIf false x = [] from fun _ => rfl, List.append_nil]; exact hr, rfl⟩
  | true =>
    rw [cond_true, okn h.opk, cond_true, okn h.odl, cond_true, appOk5 (by omega), cond_true, ixn, cond_true, putF_eq _ _ _ _ rfl rfl]
    generalize Lnum_22 okN' dcN' r (g + 1) (g + 1) = LL
    exact ⟨_, _, Nat.le_refl _, hr.app rfl (Aas [tOver', decI r.opk, decI r.odl]), rfl⟩
theorem num22 (n : Nat) (f : Nat → List D) (bef : List It) (hn : n ≤ 4000) (hr : RLe Aag i0 n f bef) :
    ∃ n' f', n' ≤ n + 1 ∧ RLe Aag i0 n' f' (bef ++ encIf (r.diff != 0) (say [tDifferential', decI r.diff, decI r.num, decI r.den, decI r.harm])) ∧ Lnum_22 okN' dcN' r (g + 1) (g + 1) n f = Lnum_23 okN' dcN' r (g + 1) (g + 1) n' f' := by
  rw [stnum_22]
  cases (r.diff != 0) with
  | false =>
    rw [cond_false]
    exact ⟨n, f, by omega, by rw [show ∀ x, encIf false x = [] from fun _ => rfl, List.append_nil]; exact hr, rfl⟩
  | true =>
    rw [cond_true, okn h.diff, cond_true, okn h.num, cond_true, okn h.den, cond_true, okn h.harm, cond_true, appOk5 (by omega), cond_true, ixn, cond_true, putF_eq _ _ _ _ rfl rfl]
    generalize Lnum_23 okN' dcN' r (g + 1) (g + 1) = LL
    exact ⟨_, _, Nat.le_refl _, hr.app rfl (Aas [tDifferential', decI r.diff, decI r.num, decI r.den, decI r.harm]), rfl⟩
end
theorem cnum {r : SRel} (h : NFit r) : CX Tryz.prog 18 [aRel r] [] (.c (.row 0 4 (encNum r).length)) [(0, Blk.row (encNum r).length (fun i => Aag ((encNum r).getD i i0)) 4 57)] := by
  obtain ⟨g, hg⟩ : ∃ g : Nat, g = 10 := ⟨10, rfl⟩
  have hz := RLe.nil (c := Aag) (d0 := i0) fun _ => []
  obtain ⟨nz0, fz0, bz0, rz0, ez0⟩ := numz0 h g g 0 (fun _ => []) [] (by omega) hz
  obtain ⟨nz1, fz1, bz1, rz1, ez1⟩ := numz1 h g (g - 1) nz0 fz0 _ (by omega) rz0
  obtain ⟨nz2, fz2, bz2, rz2, ez2⟩ := numz2 h g (g - 2) nz1 fz1 _ (by omega) rz1
  obtain ⟨n13, f13, b13, r13, e13⟩ := num13 h g nz2 fz2 _ (by omega) rz2
  obtain ⟨n14, f14, b14, r14, e14⟩ := num14 h g n13 f13 _ (by omega) r13
  obtain ⟨n16, f16, b16, r16, e16⟩ := num16 h g n14 f14 _ (by omega) r14
  obtain ⟨n17, f17, b17, r17, e17⟩ := num17 h g n16 f16 _ (by omega) r16
  obtain ⟨n18, f18, b18, r18, e18⟩ := num18 h g n17 f17 _ (by omega) r17
  obtain ⟨n19, f19, b19, r19, e19⟩ := num19 h g n18 f18 _ (by omega) r18
  obtain ⟨n20, f20, b20, r20, e20⟩ := num20 h g n19 f19 _ (by omega) r19
  obtain ⟨n21, f21, b21, r21, e21⟩ := num21 h g n20 f20 _ (by omega) r20
  obtain ⟨n22, f22, b22, r22, e22⟩ := num22 h g n21 f21 _ (by omega) r21
  have es : r22 = r22 := rfl
  have hl := r22.len
  have key : Aal Tryz.prog (oPnu okN' dcN') annnum (g + 1) Tryz.f18 (Aad Tryz.f18) [aRel r] [] = some (T.leaf (AV.c (C.row 0 4 n22), [(0, Blk.row n22 f22 4 57)])) := by
    subst hg
    rw [evnum]
    refine ez0.trans (ez1.trans (ez2.trans ((zn3 _ _ _ _ _ _ _).trans (e13.trans (e14.trans (e16.trans (e17.trans (e18.trans (e19.trans (e20.trans (e21.trans (e22.trans ?_))))))))))))
    rw [stnum_23]
  have hc := cx_of sPnu.ok Tryz.func18 bnum rfl key
  have e : n22 = (encNum r).length := hl
  subst e
  exact hc.le (.refl _) (.cons ⟨rfl, rfl, rfl, fun i hi => r22.le i hi⟩ .nil)
end Go.Proofs.YtmnfibmlhmeheaaGreatDoor.en
namespace Go.Proofs.YtmnfibmlhmeheaaGreatDoor.en
open Go.RowKit Go.Eb
set_option maxRecDepth 100000
noncomputable def oSay (okd : List AV → Bool) (dcd : List AV → ByteArray) : Orc := Orc.cons 42 (inl Tryz.prog (oDc okd dcd) na 12 Tryz.f42) Orc.nil
noncomputable def annfun : Ann := annOf [(3, ⟨[1, 4, 3], [(3, 0, 4, 57)]⟩), (100014, ⟨[1, 3], [(3, 0, 4, 57)]⟩), (100016, ⟨[1, 3], [(3, 0, 4, 57)]⟩), (100017, ⟨[1, 3], [(3, 0, 4, 57)]⟩), (100018, ⟨[1, 3], [(3, 0, 4, 57)]⟩), (100020, ⟨[1, 3], [(3, 0, 4, 57)]⟩), (100022, ⟨[1, 3], [(3, 0, 4, 57)]⟩), (100024, ⟨[1, 3], [(3, 0, 4, 57)]⟩), (100026, ⟨[1, 3], [(3, 0, 4, 57)]⟩), (100028, ⟨[1, 3], [(3, 0, 4, 57)]⟩), (100030, ⟨[1, 3], [(3, 0, 4, 57)]⟩), (100032, ⟨[3], [(3, 0, 4, 57)]⟩)]
noncomputable def Lfun_3 (okd : List AV → Bool) (dcd : List AV → ByteArray) (r : SRel) (g m : Nat) (n1 : Nat) (f1 : Nat → List D) (i4 : Int) := LK Tryz.prog (oSay okd dcd) annfun 0 g Tryz.f43 3 m ⟨frm [(1, .c (.ptr 0 0)), (3, .c (.row 1 4 n1)), (4, .c (.d (.v (.int .i64 i4))))] 0 Tryz.f43.ntmps, [(0, Blk.cells (List.map C.d (relC r)) 51), (1, Blk.row n1 f1 4 57)], 2⟩
noncomputable def Lfun_14 (okd : List AV → Bool) (dcd : List AV → ByteArray) (r : SRel) (g m : Nat) (n1 : Nat) (f1 : Nat → List D) := GK Tryz.prog (oSay okd dcd) annfun 0 g Tryz.f43 14 m ⟨frm [(1, .c (.ptr 0 0)), (3, .c (.row 1 4 n1))] 0 Tryz.f43.ntmps, [(0, Blk.cells (List.map C.d (relC r)) 51), (1, Blk.row n1 f1 4 57)], 2⟩
noncomputable def Lfun_16 (okd : List AV → Bool) (dcd : List AV → ByteArray) (r : SRel) (g m : Nat) (n1 : Nat) (f1 : Nat → List D) := GK Tryz.prog (oSay okd dcd) annfun 0 g Tryz.f43 16 m ⟨frm [(1, .c (.ptr 0 0)), (3, .c (.row 1 4 n1))] 0 Tryz.f43.ntmps, [(0, Blk.cells (List.map C.d (relC r)) 51), (1, Blk.row n1 f1 4 57)], 2⟩
noncomputable def Lfun_17 (okd : List AV → Bool) (dcd : List AV → ByteArray) (r : SRel) (g m : Nat) (n1 : Nat) (f1 : Nat → List D) := GK Tryz.prog (oSay okd dcd) annfun 0 g Tryz.f43 17 m ⟨frm [(1, .c (.ptr 0 0)), (3, .c (.row 1 4 n1))] 0 Tryz.f43.ntmps, [(0, Blk.cells (List.map C.d (relC r)) 51), (1, Blk.row n1 f1 4 57)], 2⟩
noncomputable def Lfun_18 (okd : List AV → Bool) (dcd : List AV → ByteArray) (r : SRel) (g m : Nat) (n1 : Nat) (f1 : Nat → List D) := GK Tryz.prog (oSay okd dcd) annfun 0 g Tryz.f43 18 m ⟨frm [(1, .c (.ptr 0 0)), (3, .c (.row 1 4 n1))] 0 Tryz.f43.ntmps, [(0, Blk.cells (List.map C.d (relC r)) 51), (1, Blk.row n1 f1 4 57)], 2⟩
noncomputable def Lfun_20 (okd : List AV → Bool) (dcd : List AV → ByteArray) (r : SRel) (g m : Nat) (n1 : Nat) (f1 : Nat → List D) := GK Tryz.prog (oSay okd dcd) annfun 0 g Tryz.f43 20 m ⟨frm [(1, .c (.ptr 0 0)), (3, .c (.row 1 4 n1))] 0 Tryz.f43.ntmps, [(0, Blk.cells (List.map C.d (relC r)) 51), (1, Blk.row n1 f1 4 57)], 2⟩
noncomputable def Lfun_22 (okd : List AV → Bool) (dcd : List AV → ByteArray) (r : SRel) (g m : Nat) (n1 : Nat) (f1 : Nat → List D) := GK Tryz.prog (oSay okd dcd) annfun 0 g Tryz.f43 22 m ⟨frm [(1, .c (.ptr 0 0)), (3, .c (.row 1 4 n1))] 0 Tryz.f43.ntmps, [(0, Blk.cells (List.map C.d (relC r)) 51), (1, Blk.row n1 f1 4 57)], 2⟩
noncomputable def Lfun_24 (okd : List AV → Bool) (dcd : List AV → ByteArray) (r : SRel) (g m : Nat) (n1 : Nat) (f1 : Nat → List D) := GK Tryz.prog (oSay okd dcd) annfun 0 g Tryz.f43 24 m ⟨frm [(1, .c (.ptr 0 0)), (3, .c (.row 1 4 n1))] 0 Tryz.f43.ntmps, [(0, Blk.cells (List.map C.d (relC r)) 51), (1, Blk.row n1 f1 4 57)], 2⟩
noncomputable def Lfun_26 (okd : List AV → Bool) (dcd : List AV → ByteArray) (r : SRel) (g m : Nat) (n1 : Nat) (f1 : Nat → List D) := GK Tryz.prog (oSay okd dcd) annfun 0 g Tryz.f43 26 m ⟨frm [(1, .c (.ptr 0 0)), (3, .c (.row 1 4 n1))] 0 Tryz.f43.ntmps, [(0, Blk.cells (List.map C.d (relC r)) 51), (1, Blk.row n1 f1 4 57)], 2⟩
noncomputable def Lfun_28 (okd : List AV → Bool) (dcd : List AV → ByteArray) (r : SRel) (g m : Nat) (n1 : Nat) (f1 : Nat → List D) := GK Tryz.prog (oSay okd dcd) annfun 0 g Tryz.f43 28 m ⟨frm [(1, .c (.ptr 0 0)), (3, .c (.row 1 4 n1))] 0 Tryz.f43.ntmps, [(0, Blk.cells (List.map C.d (relC r)) 51), (1, Blk.row n1 f1 4 57)], 2⟩
noncomputable def Lfun_30 (okd : List AV → Bool) (dcd : List AV → ByteArray) (r : SRel) (g m : Nat) (n1 : Nat) (f1 : Nat → List D) := GK Tryz.prog (oSay okd dcd) annfun 0 g Tryz.f43 30 m ⟨frm [(1, .c (.ptr 0 0)), (3, .c (.row 1 4 n1))] 0 Tryz.f43.ntmps, [(0, Blk.cells (List.map C.d (relC r)) 51), (1, Blk.row n1 f1 4 57)], 2⟩
noncomputable def Lfun_32 (okd : List AV → Bool) (dcd : List AV → ByteArray) (r : SRel) (g m : Nat) (n0 : Nat) (f0 : Nat → List D) := GK Tryz.prog (oSay okd dcd) annfun 0 g Tryz.f43 32 m ⟨frm [(3, .c (.row 0 4 n0))] 0 Tryz.f43.ntmps, [(0, Blk.row n0 f0 4 57)], 1⟩
theorem bfun : Tryz.f43.body = some (Aad Tryz.f43) := by kernel_rfl
theorem evfun (okd : List AV → Bool) (dcd : List AV → ByteArray) (r : SRel) (g : Nat) : Aal Tryz.prog (oSay okd dcd) annfun g Tryz.f43 (Aad Tryz.f43) [aRel r] [] =
 Lfun_3 okd dcd r g g 0 (fun x => []) ((0 : Int)) := by kernel_rfl
theorem stfun_14 (okd : List AV → Bool) (dcd : List AV → ByteArray) (r : SRel) (g m : Nat) (n1 : Nat) (f1 : Nat → List D) : Lfun_14 okd dcd r g (m + 1) n1 f1 =
 (bif SRel.min r != (0 : Int) then (bif okd [AV.c (.d (.v (.int .i64 (SRel.min r))))] then (bif okd [AV.c (.d (.v (.int .i64 (SRel.kre r))))] then (bif
 okd [AV.c (.d (.v (.int .i64 (SRel.kim r))))] then (bif decide ((n1 + 1) * 64 ≤ 140737488355328) && decide (n1 + 1 ≤
 9223372036854775807) then Lfun_16 okd dcd r g g (n1 + 1) (appF n1 f1 (Aaf [D.v (.int .i64 (0 : Int)), D.sl (1 + 1) (0 + (1 :
 Nat) + 1 + 1 + 1) (Aaf [D.v (.string (⟨#[108, 111, 111, 112]⟩)), D.v (.bool false), D.v
 (Value.string (dcd [AV.c (.d (.v (.int .i64 (SRel.min r))))])), D.v (.bool false), D.v (.string (dcd [AV.c (.d (.v (.int .i64 (SRel.kre
 r))))])), D.v (.bool false), D.v (.string (dcd [AV.c (.d (.v (.int .i64 (SRel.kim r))))])), D.v (.bool false)] (1 + 1)), D.v (Value.bool
 false), D.v (.slice none 0 0)] (3 + 1))) else none) else none) else none) else none) else Lfun_16 okd dcd r g g n1 f1) := by kernel_rfl
theorem stfun_16 (okd : List AV → Bool) (dcd : List AV → ByteArray) (r : SRel) (g m : Nat) (n1 : Nat) (f1 : Nat → List D) : Lfun_16 okd dcd r g (m + 1) n1 f1 =
 (bif SRel.scheme r != (0 : Int) then Lfun_17 okd dcd r g g n1 f1 else Lfun_18 okd dcd r g g n1 f1) := by kernel_rfl
theorem stfun_18 (okd : List AV → Bool) (dcd : List AV → ByteArray) (r : SRel) (g m : Nat) (n1 : Nat) (f1 : Nat → List D) : Lfun_18 okd dcd r g (m + 1) n1 f1 =
 (bif SRel.don r then (bif okd [AV.c (.d (.v (.int .i64 (SRel.dpk r))))] then (bif okd [AV.c (.d (.v (.int .i64 (SRel.ddl r))))] then (bif decide ((n1 +
 1) * 64 ≤ 140737488355328) && decide (n1 + 1 ≤ 9223372036854775807) then Lfun_20 okd dcd r g g (n1 + 1) (appF n1 f1 (Aaf [D.v
 (Value.int IntKind.i64 (0 : Int)), D.sl (1 + 1) (0 + 1 + 1 + 1) (Aaf [D.v (.string (⟨#[100, (101 :
 UInt8), 102, 105, 110, 105, 116, 101]⟩)), D.v (.bool false), D.v (.string (dcd [AV.c (C.d (D.v (Value.int
 IntKind.i64 (SRel.dpk r))))])), D.v (.bool false), D.v (.string (dcd [AV.c (.d (.v (.int .i64 (SRel.ddl r))))])), D.v (.bool false)] (1 + (1 :
 Nat))), D.v (.bool false), D.v (.slice none 0 0)] (3 + 1))) else none) else none) else none) else Lfun_20 okd dcd r g g n1 f1) := by kernel_rfl
theorem stfun_20 (okd : List AV → Bool) (dcd : List AV → ByteArray) (r : SRel) (g m : Nat) (n1 : Nat) (f1 : Nat → List D) : Lfun_20 okd dcd r g (m + 1) n1 f1 =
 (bif SRel.ion r then (bif okd [AV.c (.d (.v (.int .i64 (SRel.ipk r))))] then (bif okd [AV.c (.d (.v (.int .i64 (SRel.idl r))))] then (bif decide ((n1 +
 1) * 64 ≤ 140737488355328) && decide (n1 + 1 ≤ 9223372036854775807) then Lfun_22 okd dcd r g g (n1 + 1) (appF n1 f1 (Aaf [D.v
 (Value.int IntKind.i64 (0 : Int)), D.sl (1 + 1) (0 + 1 + 1 + 1) (Aaf [D.v (.string (⟨#[105, (110 :
 UInt8), 118, 101, 114, 115, 101]⟩)), D.v (.bool false), D.v (.string (dcd [AV.c (.d (.v (.int .i64 (SRel.ipk
 r))))])), D.v (.bool false), D.v (.string (dcd [AV.c (.d (.v (.int .i64 (SRel.idl r))))])), D.v (.bool false)] (1 + 1)), D.v (Value.bool
 false), D.v (.slice none 0 0)] (3 + 1))) else none) else none) else none) else Lfun_22 okd dcd r g g n1 f1) := by kernel_rfl
theorem stfun_22 (okd : List AV → Bool) (dcd : List AV → ByteArray) (r : SRel) (g m : Nat) (n1 : Nat) (f1 : Nat → List D) : Lfun_22 okd dcd r g (m + 1) n1 f1 =
 (bif SRel.fon r then (bif okd [AV.c (.d (.v (.int .i64 (SRel.fpk r))))] then (bif okd [AV.c (.d (.v (.int .i64 (SRel.fdl r))))] then (bif decide ((n1 +
 1) * 64 ≤ 140737488355328) && decide (n1 + 1 ≤ 9223372036854775807) then Lfun_24 okd dcd r g g (n1 + 1) (appF n1 f1 (Aaf [D.v
 (Value.int IntKind.i64 (0 : Int)), D.sl (1 + 1) (0 + 1 + 1 + 1) (Aaf [D.v (.string (⟨#[102, (97 :
 UInt8), 105, 108]⟩)), D.v (.bool false), D.v (.string (dcd [AV.c (.d (.v (.int .i64 (SRel.fpk r))))])), D.v (.bool false), D.v
 (Value.string (dcd [AV.c (.d (.v (.int .i64 (SRel.fdl r))))])), D.v (.bool false)] (1 + 1)), D.v (.bool false), D.v (Value.slice none (0 :
 Nat) 0)] (3 + 1))) else none) else none) else none) else Lfun_24 okd dcd r g g n1 f1) := by kernel_rfl
theorem stfun_24 (okd : List AV → Bool) (dcd : List AV → ByteArray) (r : SRel) (g m : Nat) (n1 : Nat) (f1 : Nat → List D) : Lfun_24 okd dcd r g (m + 1) n1 f1 =
 (bif SRel.shots r != (0 : Int) then (bif okd [AV.c (.d (.v (.int .i64 (SRel.shots r))))] then (bif okd [AV.c (.d (.v (.int .i64 (SRel.dead r))))] then
 (bif okd [AV.c (.d (.v (.int .i64 (SRel.reclaim r))))] then (bif decide ((n1 + 1) * 64 ≤ 140737488355328) && decide (n1 + 1 ≤
 9223372036854775807) then Lfun_26 okd dcd r g g (n1 + 1) (appF n1 f1 (Aaf [D.v (.int .i64 (0 : Int)), D.sl (1 + 1) (0 + (1 :
 Nat) + 1 + 1 + 1) (Aaf [D.v (.string (⟨#[114, 101, 99, 108, 111, 115, (101 :
 UInt8)]⟩)), D.v (.bool false), D.v (.string (dcd [AV.c (.d (.v (.int .i64 (SRel.shots r))))])), D.v (.bool false), D.v (.string (dcd [AV.c (C.d (D.v
 (Value.int IntKind.i64 (SRel.dead r))))])), D.v (.bool false), D.v (.string (dcd [AV.c (.d (.v (.int .i64 (SRel.reclaim r))))])), D.v (.bool false)] ((1
 : Nat) + 1)), D.v (.bool false), D.v (.slice none 0 0)] (3 + 1))) else none) else none) else none) else none) else Lfun_26 okd dcd
 r g g n1 f1) := by kernel_rfl
theorem stfun_26 (okd : List AV → Bool) (dcd : List AV → ByteArray) (r : SRel) (g m : Nat) (n1 : Nat) (f1 : Nat → List D) : Lfun_26 okd dcd r g (m + 1) n1 f1 =
 (bif SRel.uon r then (bif okd [AV.c (.d (.v (.int .i64 (SRel.upk r))))] then (bif okd [AV.c (.d (.v (.int .i64 (SRel.udl r))))] then (bif decide ((n1 +
 1) * 64 ≤ 140737488355328) && decide (n1 + 1 ≤ 9223372036854775807) then Lfun_28 okd dcd r g g (n1 + 1) (appF n1 f1 (Aaf [D.v
 (Value.int IntKind.i64 (0 : Int)), D.sl (1 + 1) (0 + 1 + 1 + 1) (Aaf [D.v (.string (⟨#[117, (110 :
 UInt8), 100, 101, 114]⟩)), D.v (.bool false), D.v (.string (dcd [AV.c (.d (.v (.int .i64 (SRel.upk r))))])), D.v (Value.bool
 false), D.v (.string (dcd [AV.c (.d (.v (.int .i64 (SRel.udl r))))])), D.v (.bool false)] (1 + 1)), D.v (.bool false), D.v (Value.slice
 none 0 0)] (3 + 1))) else none) else none) else none) else Lfun_28 okd dcd r g g n1 f1) := by kernel_rfl
theorem stfun_28 (okd : List AV → Bool) (dcd : List AV → ByteArray) (r : SRel) (g m : Nat) (n1 : Nat) (f1 : Nat → List D) : Lfun_28 okd dcd r g (m + 1) n1 f1 =
 (bif SRel.oon r then (bif okd [AV.c (.d (.v (.int .i64 (SRel.opk r))))] then (bif okd [AV.c (.d (.v (.int .i64 (SRel.odl r))))] then (bif decide ((n1 +
 1) * 64 ≤ 140737488355328) && decide (n1 + 1 ≤ 9223372036854775807) then Lfun_30 okd dcd r g g (n1 + 1) (appF n1 f1 (Aaf [D.v
 (Value.int IntKind.i64 (0 : Int)), D.sl (1 + 1) (0 + 1 + 1 + 1) (Aaf [D.v (.string (⟨#[111, (118 :
 UInt8), 101, 114]⟩)), D.v (.bool false), D.v (.string (dcd [AV.c (.d (.v (.int .i64 (SRel.opk r))))])), D.v (.bool false), D.v
 (Value.string (dcd [AV.c (.d (.v (.int .i64 (SRel.odl r))))])), D.v (.bool false)] (1 + 1)), D.v (.bool false), D.v (Value.slice none (0 :
 Nat) 0)] (3 + 1))) else none) else none) else none) else Lfun_30 okd dcd r g g n1 f1) := by kernel_rfl
theorem stfun_30 (okd : List AV → Bool) (dcd : List AV → ByteArray) (r : SRel) (g m : Nat) (n1 : Nat) (f1 : Nat → List D) : Lfun_30 okd dcd r g (m + 1) n1 f1 =
 (bif SRel.diff r != (0 : Int) then (bif okd [AV.c (.d (.v (.int .i64 (SRel.diff r))))] then (bif okd [AV.c (.d (.v (.int .i64 (SRel.num r))))] then (bif
 okd [AV.c (.d (.v (.int .i64 (SRel.den r))))] then (bif okd [AV.c (.d (.v (.int .i64 (SRel.harm r))))] then (bif decide ((n1 + 1) * 64 ≤
 140737488355328) && decide (n1 + 1 ≤ 9223372036854775807) then Lfun_32 okd dcd r g g (n1 + 1) (appF n1 f1 (Aaf [D.v (.int .i64 (0 :
 Int)), D.sl (1 + 1) (0 + 1 + 1 + 1 + 1 + 1) (Aaf [D.v (.string (⟨#[100, 105,
 102, 102, 101, 114, 101, 110, 116, 105, 97, 108]⟩)), D.v (.bool false), D.v
 (Value.string (dcd [AV.c (.d (.v (.int .i64 (SRel.diff r))))])), D.v (.bool false), D.v (.string (dcd [AV.c (.d (.v (.int .i64 (SRel.num
 r))))])), D.v (.bool false), D.v (.string (dcd [AV.c (.d (.v (.int .i64 (SRel.den r))))])), D.v (.bool false), D.v (.string (dcd [AV.c (C.d (D.v
 (Value.int IntKind.i64 (SRel.harm r))))])), D.v (.bool false)] (1 + 1)), D.v (.bool false), D.v (.slice none 0 0)] (3 + (1 :
 Nat)))) else none) else none) else none) else none) else none) else Lfun_32 okd dcd r g g n1 f1) := by kernel_rfl
theorem stfun_32 (okd : List AV → Bool) (dcd : List AV → ByteArray) (r : SRel) (g m : Nat) (n0 : Nat) (f0 : Nat → List D) : Lfun_32 okd dcd r g (m + 1) n0 f0 =
 some (T.leaf (AV.c (C.row (0) (4) n0), [(0, Blk.row n0 f0 (4) (57))])) := by kernel_rfl
end Go.Proofs.YtmnfibmlhmeheaaGreatDoor.en
namespace Go.Proofs.YtmnfibmlhmeheaaGreatDoor.en
open Go.RowKit Go.Eb
set_option maxRecDepth 100000
theorem fz0 (okd : List AV → Bool) (dcd : List AV → ByteArray) (r : SRel) (g m : Nat) (n : Nat) (f : Nat → List D) : Lfun_3 okd dcd r g (m + 1) n f 0 =
 (bif SRel.zfw0 r then (bif SRel.zon0 r then (bif okd [AV.c (.d (.v (.int .i64 (IntKind.wrap .i64 ((0 : Int) + (1 : Int))))))] then (bif okd [AV.c (C.d (D.v
 (Value.int IntKind.i64 (SRel.zx0 r))))] then (bif okd [AV.c (.d (.v (.int .i64 (SRel.zr0 r))))] then (bif okd [AV.c (.d (.v (.int .i64 (SRel.zl0 r))))]
 then (bif okd [AV.c (.d (.v (.int .i64 (SRel.zd0 r))))] then (bif decide ((n + 1) * 64 ≤ 140737488355328) && decide (n + 1 ≤
 9223372036854775807) then Lfun_3 okd dcd r g m (n + 1) (appF n f (Aaf [D.v (.int .i64 (0 : Int)), D.sl (1 + 1) (0 + 1 +
 1 + 1 + (0 + 1 + 1 + 1 + 1)) (Aaf [D.v (.string (⟨#[122, 111, 110, (101 :
 UInt8)]⟩)), D.v (.bool false), D.v (.string (dcd [AV.c (.d (.v (.int .i64 (IntKind.wrap .i64 ((0 : Int) + (1 : Int))))))])), D.v (.bool false),
 D.v (.string (⟨#[102, 111, 114, 119, 97, 114, 100]⟩)), D.v (.bool false), D.v
 (Value.string (dcd [AV.c (.d (.v (.int .i64 (SRel.zx0 r))))])), D.v (.bool false), D.v (.string (dcd [AV.c (.d (.v (.int .i64 (SRel.zr0
 r))))])), D.v (.bool false), D.v (.string (dcd [AV.c (.d (.v (.int .i64 (SRel.zl0 r))))])), D.v (.bool false), D.v (.string (dcd [AV.c (C.d (D.v
 (Value.int IntKind.i64 (SRel.zd0 r))))])), D.v (.bool false)] (1 + 1)), D.v (.bool false), D.v (.slice none 0 0)] (3 + (1 :
 Nat)))) (IntKind.wrap .i64 ((0 : Int) + (1 : Int))) else none) else none) else none) else none) else none) else none) else Lfun_3 okd dcd r g m n f (IntKind.wrap .i64
 ((0 : Int) + (1 : Int)))) else (bif SRel.zon0 r then (bif okd [AV.c (.d (.v (.int .i64 (IntKind.wrap .i64 ((0 : Int) + (1 : Int))))))] then (bif okd [AV.c (C.d
 (D.v (.int .i64 (SRel.zx0 r))))] then (bif okd [AV.c (.d (.v (.int .i64 (SRel.zr0 r))))] then (bif okd [AV.c (.d (.v (.int .i64 (SRel.zl0
 r))))] then (bif okd [AV.c (.d (.v (.int .i64 (SRel.zd0 r))))] then (bif decide ((n + 1) * 64 ≤ 140737488355328) && decide (n + 1 ≤
 9223372036854775807) then Lfun_3 okd dcd r g m (n + 1) (appF n f (Aaf [D.v (.int .i64 (0 : Int)), D.sl (1 + 1) (0 + 1 +
 1 + 1 + (0 + 1 + 1 + 1 + 1)) (Aaf [D.v (.string (⟨#[122, 111, 110, (101 :
 UInt8)]⟩)), D.v (.bool false), D.v (.string (dcd [AV.c (.d (.v (.int .i64 (IntKind.wrap .i64 ((0 : Int) + (1 : Int))))))])), D.v (.bool false),
 D.v (.string (⟨#[114, 101, 118, 101, 114, 115, 101]⟩)), D.v (.bool false), D.v
 (Value.string (dcd [AV.c (.d (.v (.int .i64 (SRel.zx0 r))))])), D.v (.bool false), D.v (.string (dcd [AV.c (.d (.v (.int .i64 (SRel.zr0
 r))))])), D.v (.bool false), D.v (.string (dcd [AV.c (.d (.v (.int .i64 (SRel.zl0 r))))])), D.v (.bool false), D.v (.string (dcd [AV.c (C.d (D.v
 (Value.int IntKind.i64 (SRel.zd0 r))))])), D.v (.bool false)] (1 + 1)), D.v (.bool false), D.v (.slice none 0 0)] (3 + (1 :
 Nat)))) (IntKind.wrap .i64 ((0 : Int) + (1 : Int))) else none) else none) else none) else none) else none) else none) else Lfun_3 okd dcd r g m n f (IntKind.wrap .i64
 ((0 : Int) + (1 : Int))))) := by kernel_rfl
theorem fz1 (okd : List AV → Bool) (dcd : List AV → ByteArray) (r : SRel) (g m : Nat) (n : Nat) (f : Nat → List D) : Lfun_3 okd dcd r g (m + 1) n f 1 =
 (bif SRel.zfw1 r then (bif SRel.zon1 r then (bif okd [AV.c (.d (.v (.int .i64 (IntKind.wrap .i64 ((1 : Int) + (1 : Int))))))] then (bif okd [AV.c (C.d (D.v
 (Value.int IntKind.i64 (SRel.zx1 r))))] then (bif okd [AV.c (.d (.v (.int .i64 (SRel.zr1 r))))] then (bif okd [AV.c (.d (.v (.int .i64 (SRel.zl1 r))))]
 then (bif okd [AV.c (.d (.v (.int .i64 (SRel.zd1 r))))] then (bif decide ((n + 1) * 64 ≤ 140737488355328) && decide (n + 1 ≤
 9223372036854775807) then Lfun_3 okd dcd r g m (n + 1) (appF n f (Aaf [D.v (.int .i64 (0 : Int)), D.sl (1 + 1) (0 + 1 +
 1 + 1 + (0 + 1 + 1 + 1 + 1)) (Aaf [D.v (.string (⟨#[122, 111, 110, (101 :
 UInt8)]⟩)), D.v (.bool false), D.v (.string (dcd [AV.c (.d (.v (.int .i64 (IntKind.wrap .i64 ((1 : Int) + (1 : Int))))))])), D.v (.bool false),
 D.v (.string (⟨#[102, 111, 114, 119, 97, 114, 100]⟩)), D.v (.bool false), D.v
 (Value.string (dcd [AV.c (.d (.v (.int .i64 (SRel.zx1 r))))])), D.v (.bool false), D.v (.string (dcd [AV.c (.d (.v (.int .i64 (SRel.zr1
 r))))])), D.v (.bool false), D.v (.string (dcd [AV.c (.d (.v (.int .i64 (SRel.zl1 r))))])), D.v (.bool false), D.v (.string (dcd [AV.c (C.d (D.v
 (Value.int IntKind.i64 (SRel.zd1 r))))])), D.v (.bool false)] (1 + 1)), D.v (.bool false), D.v (.slice none 0 0)] (3 + (1 :
 Nat)))) (IntKind.wrap .i64 ((1 : Int) + (1 : Int))) else none) else none) else none) else none) else none) else none) else Lfun_3 okd dcd r g m n f (IntKind.wrap .i64
 ((1 : Int) + (1 : Int)))) else (bif SRel.zon1 r then (bif okd [AV.c (.d (.v (.int .i64 (IntKind.wrap .i64 ((1 : Int) + (1 : Int))))))] then (bif okd [AV.c (C.d
 (D.v (.int .i64 (SRel.zx1 r))))] then (bif okd [AV.c (.d (.v (.int .i64 (SRel.zr1 r))))] then (bif okd [AV.c (.d (.v (.int .i64 (SRel.zl1
 r))))] then (bif okd [AV.c (.d (.v (.int .i64 (SRel.zd1 r))))] then (bif decide ((n + 1) * 64 ≤ 140737488355328) && decide (n + 1 ≤
 9223372036854775807) then Lfun_3 okd dcd r g m (n + 1) (appF n f (Aaf [D.v (.int .i64 (0 : Int)), D.sl (1 + 1) (0 + 1 +
 1 + 1 + (0 + 1 + 1 + 1 + 1)) (Aaf [D.v (.string (⟨#[122, 111, 110, (101 :
 UInt8)]⟩)), D.v (.bool false), D.v (.string (dcd [AV.c (.d (.v (.int .i64 (IntKind.wrap .i64 ((1 : Int) + (1 : Int))))))])), D.v (.bool false),
 D.v (.string (⟨#[114, 101, 118, 101, 114, 115, 101]⟩)), D.v (.bool false), D.v
 (Value.string (dcd [AV.c (.d (.v (.int .i64 (SRel.zx1 r))))])), D.v (.bool false), D.v (.string (dcd [AV.c (.d (.v (.int .i64 (SRel.zr1
 r))))])), D.v (.bool false), D.v (.string (dcd [AV.c (.d (.v (.int .i64 (SRel.zl1 r))))])), D.v (.bool false), D.v (.string (dcd [AV.c (C.d (D.v
 (Value.int IntKind.i64 (SRel.zd1 r))))])), D.v (.bool false)] (1 + 1)), D.v (.bool false), D.v (.slice none 0 0)] (3 + (1 :
 Nat)))) (IntKind.wrap .i64 ((1 : Int) + (1 : Int))) else none) else none) else none) else none) else none) else none) else Lfun_3 okd dcd r g m n f (IntKind.wrap .i64
 ((1 : Int) + (1 : Int))))) := by kernel_rfl
theorem fz2 (okd : List AV → Bool) (dcd : List AV → ByteArray) (r : SRel) (g m : Nat) (n : Nat) (f : Nat → List D) : Lfun_3 okd dcd r g (m + 1) n f 2 =
 (bif SRel.zfw2 r then (bif SRel.zon2 r then (bif okd [AV.c (.d (.v (.int .i64 (IntKind.wrap .i64 ((2 : Int) + (1 : Int))))))] then (bif okd [AV.c (C.d (D.v
 (Value.int IntKind.i64 (SRel.zx2 r))))] then (bif okd [AV.c (.d (.v (.int .i64 (SRel.zr2 r))))] then (bif okd [AV.c (.d (.v (.int .i64 (SRel.zl2 r))))]
 then (bif okd [AV.c (.d (.v (.int .i64 (SRel.zd2 r))))] then (bif decide ((n + 1) * 64 ≤ 140737488355328) && decide (n + 1 ≤
 9223372036854775807) then Lfun_3 okd dcd r g m (n + 1) (appF n f (Aaf [D.v (.int .i64 (0 : Int)), D.sl (1 + 1) (0 + 1 +
 1 + 1 + (0 + 1 + 1 + 1 + 1)) (Aaf [D.v (.string (⟨#[122, 111, 110, (101 :
 UInt8)]⟩)), D.v (.bool false), D.v (.string (dcd [AV.c (.d (.v (.int .i64 (IntKind.wrap .i64 ((2 : Int) + (1 : Int))))))])), D.v (.bool false),
 D.v (.string (⟨#[102, 111, 114, 119, 97, 114, 100]⟩)), D.v (.bool false), D.v
 (Value.string (dcd [AV.c (.d (.v (.int .i64 (SRel.zx2 r))))])), D.v (.bool false), D.v (.string (dcd [AV.c (.d (.v (.int .i64 (SRel.zr2
 r))))])), D.v (.bool false), D.v (.string (dcd [AV.c (.d (.v (.int .i64 (SRel.zl2 r))))])), D.v (.bool false), D.v (.string (dcd [AV.c (C.d (D.v
 (Value.int IntKind.i64 (SRel.zd2 r))))])), D.v (.bool false)] (1 + 1)), D.v (.bool false), D.v (.slice none 0 0)] (3 + (1 :
 Nat)))) (IntKind.wrap .i64 ((2 : Int) + (1 : Int))) else none) else none) else none) else none) else none) else none) else Lfun_3 okd dcd r g m n f (IntKind.wrap .i64
 ((2 : Int) + (1 : Int)))) else (bif SRel.zon2 r then (bif okd [AV.c (.d (.v (.int .i64 (IntKind.wrap .i64 ((2 : Int) + (1 : Int))))))] then (bif okd [AV.c (C.d
 (D.v (.int .i64 (SRel.zx2 r))))] then (bif okd [AV.c (.d (.v (.int .i64 (SRel.zr2 r))))] then (bif okd [AV.c (.d (.v (.int .i64 (SRel.zl2
 r))))] then (bif okd [AV.c (.d (.v (.int .i64 (SRel.zd2 r))))] then (bif decide ((n + 1) * 64 ≤ 140737488355328) && decide (n + 1 ≤
 9223372036854775807) then Lfun_3 okd dcd r g m (n + 1) (appF n f (Aaf [D.v (.int .i64 (0 : Int)), D.sl (1 + 1) (0 + 1 +
 1 + 1 + (0 + 1 + 1 + 1 + 1)) (Aaf [D.v (.string (⟨#[122, 111, 110, (101 :
 UInt8)]⟩)), D.v (.bool false), D.v (.string (dcd [AV.c (.d (.v (.int .i64 (IntKind.wrap .i64 ((2 : Int) + (1 : Int))))))])), D.v (.bool false),
 D.v (.string (⟨#[114, 101, 118, 101, 114, 115, 101]⟩)), D.v (.bool false), D.v
 (Value.string (dcd [AV.c (.d (.v (.int .i64 (SRel.zx2 r))))])), D.v (.bool false), D.v (.string (dcd [AV.c (.d (.v (.int .i64 (SRel.zr2
 r))))])), D.v (.bool false), D.v (.string (dcd [AV.c (.d (.v (.int .i64 (SRel.zl2 r))))])), D.v (.bool false), D.v (.string (dcd [AV.c (C.d (D.v
 (Value.int IntKind.i64 (SRel.zd2 r))))])), D.v (.bool false)] (1 + 1)), D.v (.bool false), D.v (.slice none 0 0)] (3 + (1 :
 Nat)))) (IntKind.wrap .i64 ((2 : Int) + (1 : Int))) else none) else none) else none) else none) else none) else none) else Lfun_3 okd dcd r g m n f (IntKind.wrap .i64
 ((2 : Int) + (1 : Int))))) := by kernel_rfl
theorem fz3 (okd : List AV → Bool) (dcd : List AV → ByteArray) (r : SRel) (g m : Nat) (n : Nat) (f : Nat → List D) : Lfun_3 okd dcd r g (m + 1) n f 3 =
 Lfun_14 okd dcd r g g n f := by kernel_rfl
end Go.Proofs.YtmnfibmlhmeheaaGreatDoor.en
