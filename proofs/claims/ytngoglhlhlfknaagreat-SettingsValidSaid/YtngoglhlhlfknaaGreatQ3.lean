/-
  An evaluator of Go code on abstract values, proved sound, and what it computes of the functions that the statement reaches (part 3). No condition.
-/
import Derived.Test.YtngoglhlhlfknaaGreatQ2
import Derived.Test.YtngoglhlhlfknaaGreatProg
import Derived.KernelRfl
set_option maxRecDepth 100000
namespace Go.Eb
open Go.RowKit
def Det {α β : Type} (F : (R : Type) → (α → β → Option (T R)) → Option (T R)) : Prop :=
  (∀ (R : Type) (k : α → β → Option (T R)), F R k = none) ∨ ∃ a b, ∀ (R : Type) (k : α → β → Option (T R)), F R k = k a b
def OrcDet (orc : Orc) : Prop := ∀ f args H, Det fun R k => orc R f args H k
theorem Det.no {α β : Type} {F : (R : Type) → (α → β → Option (T R)) → Option (T R)} (h : ∀ (R : Type) k, F R k = none) : Det F := .inl h
theorem Det.one {α β : Type} {F : (R : Type) → (α → β → Option (T R)) → Option (T R)} (a : α) (b : β) (h : ∀ (R : Type) k, F R k = k a b) : Det F := .inr ⟨a, b, h⟩
theorem Det.bif {α β : Type} {F G : (R : Type) → (α → β → Option (T R)) → Option (T R)} (c : Bool) (h : Det F) (k : Det G) : Det fun R q => bif c then F R q else G R q := by
  cases c with
  | true => exact h
  | false => exact k
theorem Det.congr {α β : Type} {F G : (R : Type) → (α → β → Option (T R)) → Option (T R)} (h : Det F) (e : ∀ (R : Type) k, G R k = F R k) : Det G := by
  rcases h with h | ⟨a, b, h⟩
  · exact .inl fun R k => (e R k).trans (h R k)
  · exact .inr ⟨a, b, fun R k => (e R k).trans (h R k)⟩
theorem Det.bind {α β γ δ : Type} {F : (R : Type) → (α → β → Option (T R)) → Option (T R)} (h : Det F) {G : α → β → (R : Type) → (γ → δ → Option (T R)) → Option (T R)} (hG : ∀ a b, Det (G a b)) :
    Det fun R k => F R fun a b => G a b R k := by
  rcases h with h | ⟨a, b, h⟩
  · exact .inl fun R k => h R _
  · rcases hG a b with g | ⟨c, d, g⟩
    · exact .inl fun R k => (h R _).trans (g R k)
    · exact .inr ⟨c, d, fun R k => (h R _).trans (g R k)⟩
section
variable {P : Program} {orc : Orc}
theorem perfK_det (ho : OrcDet orc) (h0 : Nat) (a : Do) (H : Hp) : (∀ (R : Type) k, perfK (R := R) orc h0 a H k = none) ∨ ∃ x ft u, ∀ (R : Type) k, perfK (R := R) orc h0 a H k = k x ft u := by
  cases a with
  | call f args =>
    simp only [perfK]
    cases hL : callL H args with
    | none => exact .inl fun R k => rfl
    | some L =>
      rcases ho f (callArgs L args) (callH H L) with h | ⟨x, Hr, h⟩
      · exact .inl fun R k => h R _
      · exact .inr ⟨_, _, _, fun R k => h R _⟩
  | next h =>
    simp only [perfK]
    cases look H h with
    | none => exact .inl fun R k => rfl
    | some b =>
      cases b with
      | iter s pos =>
        cases hb : Nat.blt pos s.size with
        | true => exact .inr ⟨_, _, _, fun R k => by simp only [hb, cond_true]; rfl⟩
        | false => exact .inr ⟨_, _, _, fun R k => by simp only [hb, cond_false]; rfl⟩
      | _ => exact .inl fun R k => rfl
  | ustr h n e =>
    simp only [perfK]
    cases look H h with
    | none => exact .inl fun R k => rfl
    | some b =>
      cases b with
      | row m f sz t =>
        cases hb : (Nat.ble n m && Nat.beq sz 1 && Nat.beq t e && bytesOk n f) with
        | true => exact .inr ⟨_, _, _, fun R k => by simp only [hb, cond_true]; rfl⟩
        | false => exact .inl fun R k => by simp only [hb, cond_false]
      | _ => exact .inl fun R k => rfl
  | cstr h n =>
    simp only [perfK]
    cases hb : cstrOk n (look H h) with
    | true => exact .inr ⟨_, _, _, fun R k => by simp only [cond_true]; rfl⟩
    | false => exact .inl fun R k => by simp only [cond_false]
  | idx h off s len n =>
    simp only [perfK]
    cases n == 0 with
    | true => exact .inr ⟨_, _, _, fun R k => rfl⟩
    | false =>
      cases Nat.ble 2 len && n == 1 with
      | true => exact .inr ⟨_, _, _, fun R k => rfl⟩
      | false =>
        cases Nat.ble 3 len && n == 2 with
        | true => exact .inr ⟨_, _, _, fun R k => rfl⟩
        | false =>
          cases Nat.ble 4 len && n == 3 with
          | true => exact .inr ⟨_, _, _, fun R k => rfl⟩
          | false => exact .inl fun R k => rfl
  | look h kd key ok z =>
    simp only [perfK_look]
    split
    · exact .inr ⟨_, _, _, fun R k => rfl⟩
    · exact .inl fun R k => rfl
  | _ =>
    all_goals
      simp only [perfK]
      split
      · exact .inr ⟨_, _, _, fun R k => rfl⟩
      · exact .inl fun R k => rfl
theorem guardK_det (ops : Array Oper) (F : List AV) (o : Oper) : (∀ (R : Type) yes no, guardK (R := R) ops F o yes no = none) ∨ (∃ F', ∀ (R : Type) yes no, guardK (R := R) ops F o yes no = yes F') ∨ ∃ F', ∀ (R : Type) yes no, guardK (R := R) ops F o yes no = no F' := by
  unfold guardK
  split
  · exact .inr (.inl ⟨_, fun R yes no => rfl⟩)
  · rename_i j want _
    split
    · exact .inr (.inr ⟨_, fun R yes no => rfl⟩)
    · split
      · rename_i b _
        cases b <;> cases want
        · exact .inr (.inl ⟨_, fun R yes no => rfl⟩)
        · exact .inr (.inr ⟨_, fun R yes no => rfl⟩)
        · exact .inr (.inr ⟨_, fun R yes no => rfl⟩)
        · exact .inr (.inl ⟨_, fun R yes no => rfl⟩)
      · exact .inr (.inr ⟨_, fun R yes no => rfl⟩)
      · exact .inl fun R yes no => rfl
theorem stepK_det (ho : OrcDet orc) (ops : Array Oper) (i : Nat) (s : St) : Det fun R k => stepK (R := R) P orc ops i s k := by
  unfold stepK
  simp only [guardF_eq, resF_eq, opF_eq, putF_eq]
  split
  · exact .no fun R k => rfl
  · rename_i o _
    rcases guardK_det ops s.F o with h | ⟨F', h⟩ | ⟨F', h⟩
    · exact .no fun R k => h R _ _
    · cases hr : res P o (opA F') with
      | none => exact .no fun R k => by rw [h]; simp only [hr]
      | some p =>
        obtain ⟨ok, a⟩ := p
        cases ok with
        | false => exact .no fun R k => by rw [h]; simp only [hr, cond_false]
        | true =>
          rcases perfK_det ho (s.nm + 16 * i) a s.H with g | ⟨x, ft, u, g⟩
          · exact .no fun R k => by rw [h]; simp only [hr, cond_true]; exact g R _
          · exact .one _ _ fun R k => by rw [h]; simp only [hr, cond_true]; exact g R _
    · exact .one _ _ fun R k => h R _ _
theorem opsK_det (ho : OrcDet orc) (ops : Array Oper) : ∀ (l : List Nat) (tr : List (Nat × Foot)) (s : St), Det fun R k => opsK (R := R) P orc ops l tr s k
  | [], tr, s => .one tr s fun R k => rfl
  | i :: rest, tr, s => (stepK_det ho ops i s).bind fun a s' => opsK_det ho ops rest (tr ++ [(i, a)]) s'
def noDiam : Code → Bool
  | .region _ ops draw => !(draw && diamond ops)
  | .seq a b => noDiam a && noDiam b
  | .cond _ a b => noDiam a && noDiam b
  | .block _ c => noDiam c
  | .loop c => noDiam c
  | .scope c => noDiam c
  | _ => true
theorem regionK_det (ho : OrcDet orc) (ops : Array Oper) (draw : Bool) (s : St) (hd : (draw && diamond ops) = false) : Det fun R k => regionK (R := R) P orc ops draw s k := by
  unfold regionK
  simp only [hd, cond_false]
  refine (opsK_det ho ops _ _ s).bind fun tr s' => ?_
  cases (!draw || (commutes ops (masks ops.toList []) tr && edgesDown ops && P.follows .mixedOrders)) with
  | true => exact .one _ _ fun R k => rfl
  | false => exact .no fun R k => rfl
theorem iterK_det {k0 : Nat} {note : Option Note} {body : (R : Type) → St → (Out → St → Option (T R)) → Option (T R)} (hb : ∀ s, Det fun R k => body R s k) : ∀ (n : Nat) (s : St), Det fun R k => iterK (R := R) k0 note (body R) n s k
  | 0, s => .no fun R k => rfl
  | n + 1, s => (hb s).bind (G := fun (o : Out) (s' : St) (R : Type) (k : Out → St → Option (T R)) => match o with
    | .norm => (match trim k0 note s' with
      | none => none
      | some s0 => iterK k0 note (body R) n s0 k)
    | .exit id => k (.exit id) s'
    | .goto l => k (.goto l) s'
    | .ret => k .ret s') fun o s' => by
      cases o with
      | norm =>
        simp only []
        cases trim k0 note s' with
        | none => exact .no fun R k => rfl
        | some s0 => exact iterK_det hb n s0
      | exit id => exact .one _ _ fun R k => rfl
      | goto l => exact .one _ _ fun R k => rfl
      | ret => exact .one _ _ fun R k => rfl
theorem evK_det (ho : OrcDet orc) (ann : Ann) (k0 n : Nat) : ∀ (c : Code), noDiam c = true → ∀ (lab : Option Nat) (s : St), Det fun R k => evK (R := R) P orc ann k0 n c lab s k := by
  intro c
  induction c with
  | skip => intro _ lab s; cases lab with
    | none => exact .one _ _ fun R k => by simp only [evK]; rfl
    | some l => exact .no fun R k => by simp only [evK]
  | region id ops draw =>
    intro hn lab s
    cases lab with
    | none =>
      have hd : (draw && diamond ops) = false := by simp only [noDiam, Bool.not_eq_true'] at hn; exact hn
      simp only [evK]
      split
      · exact regionK_det ho ops draw s hd
      · split
        · exact .no fun R k => rfl
        · rename_i s0 hs0
          cases n with
          | zero => exact .no fun R k => by simp only [iterK]
          | succ m =>
            have h := (regionK_det (P := P) ho ops draw s0 hd).bind (G := fun (o : Out) (s' : St) (R : Type) (k : Out → St → Option (T R)) => gateN (fun s'' => k .norm s'') o s') fun o s' => by
              cases o with
              | norm => exact .one _ _ fun R k => rfl
              | _ => exact .no fun R k => rfl
            refine h.congr fun R k => ?_
            simp only [iterK]
            exact congrArg _ (funext fun o => funext fun s'' => by cases o <;> rfl)
    | some l => exact .no fun R k => by simp only [evK]
  | seq a b iha ihb =>
    intro hn lab s
    simp only [noDiam, Bool.and_eq_true] at hn
    have go : ∀ lab', Det fun (R : Type) (k : Out → St → Option (T R)) => evK P orc ann k0 n a lab' s fun o s' => match o with
        | .norm => evK P orc ann k0 n b none s' k
        | .exit id => k (.exit id) s'
        | .goto l => k (.goto l) s'
        | .ret => k .ret s' := fun lab' => (iha hn.1 lab' s).bind (G := fun (o : Out) (s' : St) (R : Type) (k : Out → St → Option (T R)) => match o with
        | .norm => evK P orc ann k0 n b none s' k
        | .exit id => k (.exit id) s'
        | .goto l => k (.goto l) s'
        | .ret => k .ret s') fun o s' => by
          cases o with
          | norm => exact ihb hn.2 none s'
          | exit id => exact .one _ _ fun R k => rfl
          | goto l => exact .one _ _ fun R k => rfl
          | ret => exact .one _ _ fun R k => rfl
    cases lab with
    | none => simp only [evK]; exact go none
    | some l =>
      simp only [evK]
      cases hasLabel l a with
      | true => exact go (some l)
      | false => exact ihb hn.2 (some l) s
  | cond c x y ihx ihy =>
    intro hn lab s
    simp only [noDiam, Bool.and_eq_true] at hn
    cases lab with
    | some l => exact .no fun R k => by simp only [evK]
    | none =>
      simp only [evK]
      split
      · rename_i b _
        cases b with
        | true => exact ihx hn.1 none s
        | false => exact ihy hn.2 none s
      · exact .no fun R k => rfl
  | block id c ih =>
    intro hn lab s
    simp only [noDiam] at hn
    cases lab with
    | some l => exact .no fun R k => by simp only [evK]
    | none =>
      simp only [evK]
      exact (ih hn none s).bind (G := fun (o : Out) (s' : St) (R : Type) (k : Out → St → Option (T R)) => match o with
        | .norm => k .norm s'
        | .exit j => bif j == id then k .norm s' else k (.exit j) s'
        | .goto l => k (.goto l) s'
        | .ret => k .ret s') fun o s' => by
          cases o with
          | norm => exact .one _ _ fun R k => rfl
          | exit j => cases hj : (j == id) with
            | true => exact .one _ _ fun R k => by simp only [hj, cond_true]; rfl
            | false => exact .one _ _ fun R k => by simp only [hj, cond_false]; rfl
          | goto l => exact .one _ _ fun R k => rfl
          | ret => exact .one _ _ fun R k => rfl
  | loop c ih =>
    intro hn lab s
    simp only [noDiam] at hn
    cases lab with
    | some l => exact .no fun R k => by simp only [evK]
    | none =>
      simp only [evK]
      split
      · exact .no fun R k => rfl
      · rename_i s0 _
        exact iterK_det (body := fun (R : Type) (s' : St) (k' : Out → St → Option (T R)) => evK P orc ann k0 n c none s' k') (fun s' => ih hn none s') n s0
  | scope c ih =>
    intro hn lab s
    simp only [noDiam] at hn
    cases lab with
    | some l => exact .no fun R k => by simp only [evK]
    | none =>
      simp only [evK]
      refine (ih hn none s).bind (G := fun (o : Out) (s' : St) (R : Type) (k : Out → St → Option (T R)) => match o with
        | .goto l => (match findLabel c l with
          | some rest => (match trim k0 ((firstR rest).bind ann) s' with
            | none => none
            | some s0 => iterK k0 ((firstR rest).bind ann) (fun s' k' => evK P orc ann k0 n c (some l) s' fun o s'' => match o with
                | .goto m => bif m == l then k' .norm s'' else none
                | .norm => k' (.goto l) s''
                | .exit id => k' (.exit id) s''
                | .ret => k' .ret s'') n s0 fun o s'' => match o with
                  | .goto _ => k .norm s''
                  | .norm => none
                  | .exit id => k (.exit id) s''
                  | .ret => k .ret s'')
          | none => none)
        | .norm => k .norm s'
        | .exit id => k (.exit id) s'
        | .ret => k .ret s') fun o s' => ?_
      cases o with
      | norm => exact .one _ _ fun R k => rfl
      | exit id => exact .one _ _ fun R k => rfl
      | ret => exact .one _ _ fun R k => rfl
      | goto l =>
        simp only []
        split
        · split
          · exact .no fun R k => rfl
          · rename_i rest _ _ s0 _
            refine (iterK_det (body := fun (R : Type) (s' : St) (k' : Out → St → Option (T R)) => evK P orc ann k0 n c (some l) s' fun o s'' => match o with
                | .goto m => bif m == l then k' .norm s'' else none
                | .norm => k' (.goto l) s''
                | .exit id => k' (.exit id) s''
                | .ret => k' .ret s'') (fun s1 => ?_) n s0).bind (G := fun (o : Out) (s'' : St) (R : Type) (k : Out → St → Option (T R)) => match o with
                  | .goto _ => k .norm s''
                  | .norm => none
                  | .exit id => k (.exit id) s''
                  | .ret => k .ret s'') fun o s'' => ?_
            · refine (ih hn (some l) s1).bind (G := fun (o : Out) (s'' : St) (R : Type) (k' : Out → St → Option (T R)) => match o with
                | .goto m => bif m == l then k' .norm s'' else none
                | .norm => k' (.goto l) s''
                | .exit id => k' (.exit id) s''
                | .ret => k' .ret s'') fun o s'' => ?_
              cases o with
              | goto m => cases hj : (m == l) with
                | true => exact .one _ _ fun R k => by simp only [hj, cond_true]; rfl
                | false => exact .no fun R k => by simp only [hj, cond_false]
              | norm => exact .one _ _ fun R k => rfl
              | exit id => exact .one _ _ fun R k => rfl
              | ret => exact .one _ _ fun R k => rfl
            · cases o with
              | goto m => exact .one _ _ fun R k => rfl
              | norm => exact .no fun R k => rfl
              | exit id => exact .one _ _ fun R k => rfl
              | ret => exact .one _ _ fun R k => rfl
        · exact .no fun R k => rfl
  | label m =>
    intro hn lab s
    cases lab with
    | none => exact .one _ _ fun R k => by simp only [evK]; rfl
    | some l =>
      cases hj : (m == l) with
      | true => exact .one _ _ fun R k => by simp only [evK, hj, cond_true]; rfl
      | false => exact .no fun R k => by simp only [evK, hj, cond_false]
  | goto l => intro _ lab s; cases lab with
    | none => exact .one _ _ fun R k => by simp only [evK]; rfl
    | some l => exact .no fun R k => by simp only [evK]
  | exit l => intro _ lab s; cases lab with
    | none => exact .one _ _ fun R k => by simp only [evK]; rfl
    | some l => exact .no fun R k => by simp only [evK]
  | ret => intro _ lab s; cases lab with
    | none => exact .one _ _ fun R k => by simp only [evK]; rfl
    | some l => exact .no fun R k => by simp only [evK]
  | _ => intro _ lab s; exact .no fun R k => by cases lab <;> simp only [evK]
theorem endK_det (fn : Func) (k0 : Nat) (o : Out) (s : St) : Det fun R k => endK (R := R) P fn k0 k o s := by
  unfold endK
  cases o with
  | exit _ => exact .no fun R k => rfl
  | goto _ => exact .no fun R k => rfl
  | _ =>
    all_goals
      simp only []
      cases resultsA P fn s with
      | none => exact .no fun R k => rfl
      | some l =>
        simp only []
        cases ofResults l with
        | none => exact .no fun R k => rfl
        | some x => exact .one _ _ fun R k => rfl
theorem callK_det (ho : OrcDet orc) (ann : Ann) (n : Nat) (fn : Func) (c : Code) (hc : noDiam c = true) (args : List AV) (H : Hp) : Det fun R k => callK (R := R) P orc ann n fn c args H k := by
  unfold callK
  exact (evK_det ho ann H.length n c hc none _).bind (G := fun o s R k => endK P fn H.length k o s) fun o s => endK_det fn H.length o s
end
noncomputable def inl (P : Program) (orc : Orc) (ann : Ann) (n : Nat) (fn : Func) : (R : Type) → List AV → Hp → (AV → Hp → Option (T R)) → Option (T R) := fun _ args H k =>
  bif noDiam (bodyOf fn) && seqN 0 H then callK P orc ann n fn (bodyOf fn) args H k else none
def AnsDet (g : (R : Type) → List AV → Hp → (AV → Hp → Option (T R)) → Option (T R)) : Prop := ∀ args H, Det fun R k => g R args H k
theorem inl_det {P : Program} {orc : Orc} (ho : OrcDet orc) {ann : Ann} {n : Nat} {fn : Func} : AnsDet (inl P orc ann n fn) := fun args H => by
  unfold inl
  cases hc : (noDiam (bodyOf fn) && seqN 0 H) with
  | false => exact .no fun R k => rfl
  | true =>
    simp only [Bool.and_eq_true] at hc
    exact callK_det ho ann n fn _ hc.1 args H
theorem inl_ok {P : Program} {orc : Orc} (ho : OrcOk P orc) (hd : OrcDet orc) {ann : Ann} {n : Nat} {f : FuncId} {fn : Func} (hf : P.funcs[f]? = some fn) (hb : fn.body = some (bodyOf fn)) :
    ∀ (R : Type) args H (k : AV → Hp → Option (T R)) t, inl P orc ann n fn R args H k = some t → ∃ x H', k x H' = some t ∧ CX P f args H x H' := fun R args H k t h => by
  unfold inl at h
  cases hc : (noDiam (bodyOf fn) && seqN 0 H) with
  | false => rw [hc] at h; cases h
  | true =>
    rw [hc] at h
    simp only [cond_true] at h
    simp only [Bool.and_eq_true] at hc
    rcases callK_det (P := P) hd ann n fn _ hc.1 args H with g | ⟨x, H', g⟩
    · exact absurd ((g R k).symm.trans h) (by simp)
    · exact ⟨x, H', (g R k).symm.trans h, cxA_of ho (ann := ann) (n := n) hf hb hc.2 (by unfold callA; exact g _ _)⟩
theorem Orc.nil_det : OrcDet Orc.nil := fun f args H => .no fun R k => rfl
theorem Orc.cons_det {f0 : FuncId} {g : (R : Type) → List AV → Hp → (AV → Hp → Option (T R)) → Option (T R)} {rest : Orc} (hg : AnsDet g) (hr : OrcDet rest) : OrcDet (Orc.cons f0 g rest) := fun f args H => by
  unfold Orc.cons
  exact .bif _ (hg args H) (hr f args H)
theorem ansP_det {α : Type} {dec : List AV → Option α} {g : α → AV} : AnsDet (ansP dec g) := fun args H => by
  unfold ansP
  cases H with
  | nil =>
    simp only []
    cases dec args with
    | none => exact .no fun R k => rfl
    | some a => exact .one _ _ fun R k => rfl
  | cons _ _ => exact .no fun R k => rfl
structure OrcS (P : Program) (orc : Orc) : Prop where
  ok : OrcOk P orc
  det : OrcDet orc
structure AnsS (P : Program) (f : FuncId) (g : (R : Type) → List AV → Hp → (AV → Hp → Option (T R)) → Option (T R)) : Prop where
  ok : ∀ (R : Type) args H (k : AV → Hp → Option (T R)) t, g R args H k = some t → ∃ x H', k x H' = some t ∧ CX P f args H x H'
  det : AnsDet g
theorem OrcS.nil {P : Program} : OrcS P Orc.nil := ⟨Orc.nil_ok P, Orc.nil_det⟩
theorem OrcS.cons {P : Program} {f0 : FuncId} {g : (R : Type) → List AV → Hp → (AV → Hp → Option (T R)) → Option (T R)} {rest : Orc} (h : AnsS P f0 g) (r : OrcS P rest) : OrcS P (Orc.cons f0 g rest) := ⟨Orc.cons_ok r.ok h.ok, Orc.cons_det h.det r.det⟩
theorem AnsS.inl {P : Program} {orc : Orc} (h : OrcS P orc) {ann : Ann} {n : Nat} {f : FuncId} {fn : Func} (hf : P.funcs[f]? = some fn) (hb : fn.body = some (bodyOf fn)) : AnsS P f (inl P orc ann n fn) := ⟨inl_ok h.ok h.det hf hb, inl_det h.det⟩
theorem AnsS.p {P : Program} {f0 : FuncId} {α : Type} {dec : List AV → Option α} {g : α → AV} {enc : α → List AV} (hd : ∀ args a, dec args = some a → args = enc a) (hc : ∀ a, CX P f0 (enc a) [] (g a) []) : AnsS P f0 (ansP dec g) := ⟨ansP_ok hd hc, ansP_det⟩
structure Dec (X A : Type) where
  dec : X → Option A
  enc : A → X
  ok : ∀ x a, dec x = some a → x = enc a
namespace Dec
def nil {X : Type} : Dec (List X) Unit := ⟨fun x => match x with | [] => some () | _ :: _ => none, fun _ => [], fun x a h => by cases x <;> simp_all⟩
def cons {X A B : Type} (d : Dec X A) (e : Dec (List X) B) : Dec (List X) (A × B) :=
  ⟨fun x => match x with
    | [] => none
    | y :: r => match d.dec y with
      | none => none
      | some a => match e.dec r with
        | none => none
        | some b => some (a, b),
   fun p => d.enc p.1 :: e.enc p.2, fun x p h => by
    cases x with
    | nil => simp at h
    | cons y r =>
      simp only [] at h
      cases hd : d.dec y with
      | none => rw [hd] at h; simp at h
      | some a =>
        rw [hd] at h
        simp only [] at h
        cases he : e.dec r with
        | none => rw [he] at h; simp at h
        | some b =>
          rw [he] at h
          simp only [Option.some.injEq] at h
          subst h
          rw [d.ok y a hd, e.ok r b he]⟩
def pair {X Y A B : Type} (d : Dec X A) (e : Dec Y B) : Dec (X × Y) (A × B) :=
  ⟨fun x => match d.dec x.1 with
      | none => none
      | some a => match e.dec x.2 with
        | none => none
        | some b => some (a, b),
   fun p => (d.enc p.1, e.enc p.2), fun x p h => by
    obtain ⟨y, r⟩ := x
    simp only [] at h
    cases hd : d.dec y with
    | none => rw [hd] at h; simp at h
    | some a =>
      rw [hd] at h
      simp only [] at h
      cases he : e.dec r with
      | none => rw [he] at h; simp at h
      | some b =>
        rw [he] at h
        simp only [Option.some.injEq] at h
        subst h
        rw [d.ok y a hd, e.ok r b he]⟩
def blk {A : Type} (n : Nat) (d : Dec Blk A) : Dec (Nat × Blk) A := 
  ⟨fun x => bif Nat.beq x.1 n then d.dec x.2 else none, fun a => (n, d.enc a), fun x a h => by
    obtain ⟨m, b⟩ := x
    cases hb : Nat.beq m n with
    | true => simp only [hb, cond_true] at h; rw [Nat.eq_of_beq_eq_true hb, d.ok b a h]
    | false => simp only [hb, cond_false] at h; cases h⟩
def cells {A : Type} (t : TypeId) (d : Dec (List C) A) : Dec Blk A :=
  ⟨fun x => match x with | .cells cs u => bif Nat.beq u t then d.dec cs else none | _ => none, fun a => .cells (d.enc a) t, fun x a h => by
    cases x with
    | cells cs u =>
      simp only [] at h
      cases hb : Nat.beq u t with
      | true => rw [hb] at h; simp only [cond_true] at h; rw [Nat.eq_of_beq_eq_true hb, d.ok cs a h]
      | false => rw [hb] at h; cases h
    | _ => cases h⟩
def rowB (sz : Nat) (t : TypeId) : Dec Blk (Nat × (Nat → List D)) :=
  ⟨fun x => match x with | .row n f z u => bif Nat.beq z sz && Nat.beq u t then some (n, f) else none | _ => none, fun a => .row a.1 a.2 sz t, fun x a h => by
    cases x with
    | row n f z u =>
      simp only [] at h
      cases hb : (Nat.beq z sz && Nat.beq u t) with
      | true =>
        rw [hb] at h
        simp only [cond_true, Option.some.injEq] at h
        subst h
        simp only [Bool.and_eq_true] at hb
        rw [Nat.eq_of_beq_eq_true hb.1, Nat.eq_of_beq_eq_true hb.2]
      | false => rw [hb] at h; cases h
    | _ => cases h⟩
def i64 : Dec C Int := ⟨fun x => match x with | .d (.v (.int .i64 n)) => some n | _ => none, fun n => .d (.v (.int .i64 n)), fun x a h => by
  split at h
  · cases h; rfl
  · cases h⟩
def bool : Dec C Bool := ⟨fun x => match x with | .d (.v (.bool n)) => some n | _ => none, fun n => .d (.v (.bool n)), fun x a h => by
  split at h
  · cases h; rfl
  · cases h⟩
def str : Dec C ByteArray := ⟨fun x => match x with | .d (.v (.string n)) => some n | _ => none, fun n => .d (.v (.string n)), fun x a h => by
  split at h
  · cases h; rfl
  · cases h⟩
def nilS : Dec C Unit := ⟨fun x => match x with | .d (.v (.slice none 0 0)) => some () | _ => none, fun _ => .d (.v (.slice none 0 0)), fun x a h => by
  split at h
  · rfl
  · cases h⟩
def data : Dec C D := ⟨fun x => match x with | .d y => some y | _ => none, fun n => .d n, fun x a h => by
  split at h
  · cases h; rfl
  · cases h⟩
def row (h sz : Nat) : Dec C Nat := ⟨fun x => match x with | .row k z n => bif Nat.beq k h && Nat.beq z sz then some n else none | _ => none, fun n => .row h sz n, fun x a e => by
  split at e
  · rename_i k z n
    cases hb : (Nat.beq k h && Nat.beq z sz) with
    | true =>
      rw [hb] at e
      simp only [cond_true, Option.some.injEq] at e
      subst e
      simp only [Bool.and_eq_true] at hb
      rw [Nat.eq_of_beq_eq_true hb.1, Nat.eq_of_beq_eq_true hb.2]
    | false => rw [hb] at e; cases e
  · cases e⟩
def ptr (h o : Nat) : Dec C Unit := ⟨fun x => match x with | .ptr k p => bif Nat.beq k h && Nat.beq p o then some () else none | _ => none, fun _ => .ptr h o, fun x a e => by
  split at e
  · rename_i k p
    cases hb : (Nat.beq k h && Nat.beq p o) with
    | true =>
      simp only [Bool.and_eq_true] at hb
      rw [Nat.eq_of_beq_eq_true hb.1, Nat.eq_of_beq_eq_true hb.2]
    | false => rw [hb] at e; cases e
  · cases e⟩
def c {A : Type} (d : Dec C A) : Dec AV A := ⟨fun x => match x with | .c y => d.dec y | _ => none, fun a => .c (d.enc a), fun x a h => by
  cases x with
  | c y => rw [d.ok y a h]
  | _ => cases h⟩
def agg {A : Type} (d : Dec (List C) A) : Dec AV A := ⟨fun x => match x with | .agg y => d.dec y | _ => none, fun a => .agg (d.enc a), fun x a h => by
  cases x with
  | agg y => rw [d.ok y a h]
  | _ => cases h⟩
end Dec
def ansD {A : Type} (d : Dec (List AV × Hp) A) (c : A → Bool) (r : A → AV) (H' : A → Hp) : (R : Type) → List AV → Hp → (AV → Hp → Option (T R)) → Option (T R) := fun _ args H k =>
  match d.dec (args, H) with
  | some a => bif c a then k (r a) (H' a) else none
  | none => none
theorem AnsS.d {P : Program} {f : FuncId} {A : Type} {d : Dec (List AV × Hp) A} {c : A → Bool} {r : A → AV} {H' : A → Hp} (hc : ∀ a, c a = true → CX P f (d.enc a).1 (d.enc a).2 (r a) (H' a)) : AnsS P f (ansD d c r H') := by
  refine ⟨fun R args H k t h => ?_, fun args H => ?_⟩
  · unfold ansD at h
    cases hd : d.dec (args, H) with
    | none => rw [hd] at h; cases h
    | some a =>
      rw [hd] at h
      simp only [] at h
      cases hca : c a with
      | false => rw [hca] at h; cases h
      | true =>
        rw [hca] at h
        have e := d.ok _ _ hd
        have := hc a hca
        rw [← e] at this
        exact ⟨_, _, h, this⟩
  · unfold ansD
    cases d.dec (args, H) with
    | none => exact .no fun R k => rfl
    | some a => exact .bif _ (.one _ _ fun R k => rfl) (.no fun R k => rfl)
end Go.Eb
namespace Go.Eb
open Go.RowKit
inductive Fr where
  | nil
  | leaf (j : Nat) (x : AV)
  | node (k : Nat) (l r : Fr)
namespace Fr
noncomputable def get (i : Nat) (t : Fr) : AV :=
  Fr.rec (motive := fun _ => AV) .u (fun j x => Bool.rec (motive := fun _ => AV) .u x (Nat.beq i j)) (fun k _ _ a b => Bool.rec (motive := fun _ => AV) a b (Nat.ble k i)) t
noncomputable def setK {R : Type} (i : Nat) (x : AV) (t : Fr) : (Fr → R) → R :=
  Fr.rec (motive := fun _ => (Fr → R) → R) (fun k => k .nil) (fun j y k => Bool.rec (motive := fun _ => R) (k (.leaf j y)) (k (.leaf j x)) (Nat.beq i j))
    (fun m l r a b k => Bool.rec (motive := fun _ => R) (a fun l' => k (.node m l' r)) (b fun r' => k (.node m l r')) (Nat.ble m i)) t
def toL : Fr → List AV
  | nil => []
  | leaf _ x => [x]
  | node _ l r => toL l ++ toL r
def Ok : Nat → Nat → Fr → Prop
  | lo, hi, nil => lo = hi
  | lo, hi, leaf j _ => j = lo ∧ hi = lo + 1
  | lo, hi, node k l r => Ok lo k l ∧ Ok k hi r
theorem Ok.len : ∀ {t : Fr} {lo hi : Nat}, Ok lo hi t → lo + (toL t).length = hi
  | nil, lo, hi, h => by simpa [Ok, toL] using h
  | leaf j x, lo, hi, h => by simp only [Ok] at h; simp [toL, h.2]
  | node k l r, lo, hi, h => by
    simp only [Ok] at h
    have h1 := Ok.len h.1
    have h2 := Ok.len h.2
    simp only [toL, List.length_append]
    omega
theorem get_eq : ∀ {t : Fr} {lo hi i : Nat}, Ok lo hi t → lo ≤ i → get i t = (toL t).getD (i - lo) .u
  | nil, lo, hi, i, h, hi' => by simp [get, toL]
  | leaf j x, lo, hi, i, h, hi' => by
    simp only [Ok] at h
    obtain ⟨rfl, _⟩ := h
    show Bool.rec (motive := fun _ => AV) .u x (Nat.beq i j) = _
    rw [beqD]
    by_cases e : i = j
    · subst e; simp [toL]
    · rw [decide_eq_false e]
      have : i - j = (i - j - 1) + 1 := by omega
      rw [this]; simp [toL]
  | node k l r, lo, hi, i, h, hi' => by
    simp only [Ok] at h
    have h1 := Ok.len h.1
    show Bool.rec (motive := fun _ => AV) (get i l) (get i r) (Nat.ble k i) = _
    rw [bleD]
    by_cases e : k ≤ i
    · rw [decide_eq_true e]
      have := get_eq (t := r) h.2 e
      simp only [toL]
      rw [List.getD_eq_getElem?_getD, List.getElem?_append_right (by omega), this, List.getD_eq_getElem?_getD]
      congr 2; omega
    · rw [decide_eq_false e]
      have := get_eq (t := l) h.1 hi'
      simp only [toL]
      rw [List.getD_eq_getElem?_getD, List.getElem?_append_left (by omega), this, List.getD_eq_getElem?_getD]
theorem setK_eq (x : AV) : ∀ {t : Fr} {lo hi i : Nat}, Ok lo hi t → lo ≤ i → ∃ t', Ok lo hi t' ∧ toL t' = (toL t).set (i - lo) x ∧ ∀ (R : Type) (k : Fr → R), setK i x t k = k t'
  | nil, lo, hi, i, h, hi' => ⟨nil, h, by simp [toL], fun R k => rfl⟩
  | leaf j y, lo, hi, i, h, hi' => by
    simp only [Ok] at h
    obtain ⟨rfl, rfl⟩ := h
    by_cases e : i = j
    · subst e
      refine ⟨leaf i x, ⟨rfl, rfl⟩, by simp [toL], fun R k => ?_⟩
      show Bool.rec (motive := fun _ => R) (k (.leaf i y)) (k (.leaf i x)) (Nat.beq i i) = _
      rw [beqD]; simp
    · refine ⟨leaf j y, ⟨rfl, rfl⟩, ?_, fun R k => ?_⟩
      · have : i - j = (i - j - 1) + 1 := by omega
        rw [this]; simp [toL]
      · show Bool.rec (motive := fun _ => R) (k (.leaf j y)) (k (.leaf j x)) (Nat.beq i j) = _
        rw [beqD, decide_eq_false e]
  | node m l r, lo, hi, i, h, hi' => by
    simp only [Ok] at h
    have h1 := Ok.len h.1
    by_cases e : m ≤ i
    · obtain ⟨r', o, e1, e2⟩ := setK_eq x (t := r) h.2 e
      refine ⟨node m l r', ⟨h.1, o⟩, ?_, fun R k => ?_⟩
      · simp only [toL]
        rw [e1, List.set_append_right _ _ (by omega : (toL l).length ≤ i - lo)]
        congr 2; omega
      · show Bool.rec (motive := fun _ => R) (setK i x l fun l' => k (.node m l' r)) (setK i x r fun r' => k (.node m l r')) (Nat.ble m i) = _
        rw [bleD, decide_eq_true e]
        exact e2 R _
    · obtain ⟨l', o, e1, e2⟩ := setK_eq x (t := l) h.1 hi'
      refine ⟨node m l' r, ⟨o, h.2⟩, ?_, fun R k => ?_⟩
      · simp only [toL]
        rw [e1, List.set_append_left _ _ (by omega : i - lo < (toL l).length)]
      · show Bool.rec (motive := fun _ => R) (setK i x l fun l' => k (.node m l' r)) (setK i x r fun r' => k (.node m l r')) (Nat.ble m i) = _
        rw [bleD, decide_eq_false e]
        exact e2 R _
def base : Nat → Nat → Nat → Fr
  | 0, _, _ => nil
  | _ + 1, _, 0 => nil
  | _ + 1, lo, 1 => leaf lo (.tup [])
  | d + 1, lo, n + 2 => node (lo + (n + 2) / 2) (base d lo ((n + 2) / 2)) (base d (lo + (n + 2) / 2) (n + 2 - (n + 2) / 2))
theorem base_ok : ∀ (d lo n : Nat), n ≤ d → Ok lo (lo + n) (base d lo n) ∧ toL (base d lo n) = List.replicate n (.tup [])
  | 0, lo, n, h => by
    obtain rfl : n = 0 := by omega
    simp [base, Ok, toL]
  | d + 1, lo, 0, h => by simp [base, Ok, toL]
  | d + 1, lo, 1, h => by simp [base, Ok, toL]
  | d + 1, lo, n + 2, h => by
    have h1 := base_ok d lo ((n + 2) / 2) (by omega)
    have h2 := base_ok d (lo + (n + 2) / 2) (n + 2 - (n + 2) / 2) (by omega)
    have e : lo + (n + 2) / 2 + (n + 2 - (n + 2) / 2) = lo + (n + 2) := by omega
    rw [e] at h2
    refine ⟨?_, ?_⟩
    · simp only [base, Ok]
      exact ⟨h1.1, h2.1⟩
    · simp only [base, toL, h1.2, h2.2, List.replicate_append_replicate]
      congr 1; omega
noncomputable def putsK {R : Type} (l : List AV) : Nat → Fr → (Fr → R) → R :=
  List.rec (motive := fun _ => Nat → Fr → (Fr → R) → R) (fun _ t k => k t) (fun x _ ih i t k => setK i x t fun t' => ih (i + 1) t' k) l
theorem putsK_eq : ∀ (l : List AV) {t : Fr} {hi i : Nat}, Ok 0 hi t → i + l.length ≤ hi → ∃ t', Ok 0 hi t' ∧ toL t' = (toL t).take i ++ l ++ (toL t).drop (i + l.length) ∧ ∀ (R : Type) (k : Fr → R), putsK l i t k = k t'
  | [], t, hi, i, h, hl => ⟨t, h, by simp, fun R k => rfl⟩
  | x :: r, t, hi, i, h, hl => by
    obtain ⟨t1, o1, e1, k1⟩ := setK_eq x h (Nat.zero_le i)
    have hlen := h.len
    simp only [List.length_cons] at hl
    obtain ⟨t2, o2, e2, k2⟩ := putsK_eq r (t := t1) (i := i + 1) o1 (by omega)
    refine ⟨t2, o2, ?_, fun R k => ?_⟩
    · rw [e2, e1]
      simp only [Nat.sub_zero, List.length_cons]
      have hi2 : i < (toL t).length := by omega
      rw [List.drop_set_of_lt (by omega), List.take_add_one, List.getElem?_set_self (by omega)]
      simp only [Option.toList_some, List.take_set, List.append_assoc, List.cons_append, List.nil_append]
      rw [List.set_eq_of_length_le (by simp; omega)]
      have e9 : i + 1 + r.length = i + (r.length + 1) := by omega
      rw [e9]
    · show setK i x t (fun t' => putsK r (i + 1) t' k) = _
      rw [k1]
      exact k2 R k
noncomputable def ofK {R : Type} (l : List AV) (k : Fr → R) : R := putsK l 0 (base l.length 0 l.length) k
theorem ofK_eq (l : List AV) : ∃ t, Ok 0 l.length t ∧ toL t = l ∧ ∀ (R : Type) (k : Fr → R), ofK l k = k t := by
  have hb := base_ok l.length 0 l.length (Nat.le_refl _)
  rw [Nat.zero_add] at hb
  obtain ⟨t, o, e, h⟩ := putsK_eq l hb.1 (i := 0) (by omega)
  refine ⟨t, o, ?_, h⟩
  rw [e, hb.2]
  simp
end Fr
noncomputable def insK {R : Type} (h : Nat) (b : Blk) (H : Hp) : (Hp → R) → R :=
  List.rec (motive := fun _ => (Hp → R) → R) (fun k => k [(h, b)])
    (fun p r ih k => Bool.rec (motive := fun _ => R) (ih fun r' => k (p :: r')) (Bool.rec (motive := fun _ => R) (k ((h, b) :: p :: r)) (k ((h, b) :: r)) (Nat.beq h p.1)) (Nat.ble h p.1)) H
theorem insK_eq {R : Type} (h : Nat) (b : Blk) : ∀ (H : Hp) (k : Hp → R), insK h b H k = k (ins h b H)
  | [], k => rfl
  | (m, c) :: r, k => by
    show Bool.rec (motive := fun _ => R) (insK h b r fun r' => k ((m, c) :: r')) (Bool.rec (motive := fun _ => R) (k ((h, b) :: (m, c) :: r)) (k ((h, b) :: r)) (Nat.beq h m)) (Nat.ble h m) = _
    simp only [ins]
    cases h1 : Nat.ble h m with
    | false => simp only [cond_false]; exact insK_eq h b r _
    | true =>
      cases h2 : Nat.beq h m with
      | false => simp only [cond_true, cond_false]
      | true => simp only [cond_true]
noncomputable def applyK {R : Type} (u : Ups) : Hp → (Hp → R) → R :=
  List.rec (motive := fun _ => Hp → (Hp → R) → R) (fun H k => k H) (fun p _ ih H k => insK p.1 p.2 H fun H' => ih H' k) u
theorem applyK_eq {R : Type} : ∀ (u : Ups) (H : Hp) (k : Hp → R), applyK u H k = k (applyU u H)
  | [], H, k => rfl
  | (h, b) :: r, H, k => by
    show insK h b H (fun H' => applyK r H' k) = _
    rw [insK_eq, applyK_eq r]
    rfl
noncomputable def natK {R : Type} (n : Nat) (k : Nat → R) : R := Nat.rec (motive := fun _ => R) (k 0) (fun m _ => k (Nat.succ m)) n
theorem natK_eq {R : Type} (n : Nat) (k : Nat → R) : natK n k = k n := by cases n <;> rfl
structure StQ where
  t : Fr
  H : Hp
  nm : Nat
def StQ.to (s : StQ) : St := ⟨s.t.toL, s.H, s.nm⟩
def StQ.Ok (s : StQ) : Prop := ∃ hi, Fr.Ok 0 hi s.t
section
variable {P : Program} {orc : Orc}
noncomputable def opQ (t : Fr) (o : Operand) : AV :=
  Operand.rec (motive := fun _ => Fr → AV) (fun i t => t.get i) (fun v _ => absA v) (fun g _ => gOp g) (fun f _ => .c (.d (.v (.func (.func f) #[] #[])))) o t
theorem opQ_eq {t : Fr} {hi : Nat} (h : Fr.Ok 0 hi t) : opQ t = opA t.toL := by
  funext o
  cases o with
  | tmp i => exact (Fr.get_eq h (Nat.zero_le _)).trans (by simp only [opA, Nat.sub_zero])
  | _ => rfl
noncomputable def putQ {R : Type} (dst : Option Nat) : AV → Fr → (Fr → R) → R := Option.rec (motive := fun _ => AV → Fr → (Fr → R) → R) (fun _ t k => k t) (fun d x t k => Fr.setK d x t k) dst
noncomputable def guard2 {R : Type} (ops : Array Oper) (j : Nat) (want : Bool) (t : Fr) (yes no : Fr → Option (T R)) : Option (T R) :=
  match (ops[j]?).bind (·.dst) with
    | none => no t
    | some d => match t.get d with
      | .c (.d (.v (.bool b))) => bif b then (bif want then Fr.setK d (.c (.d (.v (.bool true)))) t yes else Fr.setK d (.c (.d (.v (.bool true)))) t no)
          else (bif want then Fr.setK d (.c (.d (.v (.bool false)))) t no else Fr.setK d (.c (.d (.v (.bool false)))) t yes)
      | .tup [] => no t
      | _ => none
noncomputable def guardQ {R : Type} (g : Option (Nat × Bool)) : Array Oper → Fr → (Fr → Option (T R)) → (Fr → Option (T R)) → Option (T R) :=
  Option.rec (motive := fun _ => Array Oper → Fr → (Fr → Option (T R)) → (Fr → Option (T R)) → Option (T R)) (fun _ t yes _ => yes t) (fun p ops t yes no => guard2 ops p.1 p.2 t yes no) g
theorem putQ_eq (dst : Option Nat) (x : AV) {t : Fr} {hi : Nat} (h : Fr.Ok 0 hi t) : ∃ t', Fr.Ok 0 hi t' ∧ t'.toL = put t.toL dst x ∧ ∀ (R : Type) (k : Fr → R), putQ dst x t k = k t' := by
  cases dst with
  | none => exact ⟨t, h, rfl, fun R k => rfl⟩
  | some d =>
    obtain ⟨t', o, e, k⟩ := Fr.setK_eq x h (Nat.zero_le d)
    exact ⟨t', o, e, k⟩
theorem guardQ_eq {R : Type} (ops : Array Oper) {t : Fr} {hi : Nat} (h : Fr.Ok 0 hi t) (o : Oper) (yes no : Fr → Option (T R)) (yes' no' : List AV → Option (T R))
    (hy : ∀ t, Fr.Ok 0 hi t → yes t = yes' t.toL) (hn : ∀ t, Fr.Ok 0 hi t → no t = no' t.toL) : guardQ o.guard ops t yes no = guardK ops t.toL o yes' no' := by
  unfold guardK
  cases o.guard with
  | none => exact hy t h
  | some p =>
    obtain ⟨j, want⟩ := p
    show guard2 ops j want t yes no = _
    unfold guard2
    simp only
    cases (ops[j]?).bind (·.dst) with
    | none => exact hn t h
    | some d =>
      have e := Fr.get_eq h (Nat.zero_le d)
      rw [Nat.sub_zero] at e
      simp only
      rw [e]
      obtain ⟨t1, o1, e1, k1⟩ := Fr.setK_eq (.c (.d (.v (.bool true)))) h (Nat.zero_le d)
      obtain ⟨t2, o2, e2, k2⟩ := Fr.setK_eq (.c (.d (.v (.bool false)))) h (Nat.zero_le d)
      rw [Nat.sub_zero] at e1 e2
      simp only [k1, k2, hy _ o1, hn _ o1, hy _ o2, hn _ o2, e1, e2, hn t h]
      rfl
/-! operations, each kind apart, closed -/
def leS (a b : IntKind) : Bool := decide (a = b)
noncomputable def intQ (op : BinOp) : IntKind → Int → Int → Option (Bool × Do) := BinOp.rec (motive := fun _ => IntKind → Int → Int → Option (Bool × Do))
  (fun k a b => some (true, .val (.c (.d (.v (.int k (k.wrap (a + b))))))))
  (fun k a b => some (true, .val (.c (.d (.v (.int k (k.wrap (a - b))))))))
  (fun k a b => some (true, .val (.c (.d (.v (.int k (k.wrap (a * b))))))))
  (fun _ _ _ => none) (fun _ _ _ => none) (fun _ _ _ => none) (fun _ _ _ => none) (fun _ _ _ => none) (fun _ _ _ => none) (fun _ _ _ => none) (fun _ _ _ => none)
  (fun _ a b => some (true, .val (.c (.d (.v (.bool (a == b)))))))
  (fun _ a b => some (true, .val (.c (.d (.v (.bool (a != b)))))))
  (fun _ a b => some (true, .val (.c (.d (.v (.bool (decide (a < b))))))))
  (fun _ a b => some (true, .val (.c (.d (.v (.bool (decide (a ≤ b))))))))
  (fun _ a b => some (true, .val (.c (.d (.v (.bool (decide (a > b))))))))
  (fun _ a b => some (true, .val (.c (.d (.v (.bool (decide (a ≥ b)))))))) op
def isFastOp : BinOp → Bool
  | .add | .sub | .mul | .eql | .neq | .lss | .leq | .gtr | .geq => true
  | _ => false
noncomputable def binInt (p q : AV) (op : BinOp) (slow : Option (Bool × Do)) : Option (Bool × Do) := match p, q with
  | .c (.d (.v (.int k a))), .c (.d (.v (.int k' b))) => bif isFastOp op && leS k k' then intQ op k a b else slow
  | _, _ => slow
noncomputable def qBinOp (P : Program) (ρ : Operand → AV) (op : BinOp) (t : TypeId) (x y : Operand) : Option (Bool × Do) := binInt (ρ x) (ρ y) op (rBinOp P ρ op t x y)
theorem pr_int (op : BinOp) (hf : isFastOp op = true) (t : TypeId) (x y : Operand) (k : IntKind) (a b : Int) : (match pr P (do eqGuard op t x y (.int k a) (.int k b); binOp op t (.int k a) (.int k b)) with | some r => val1 r | none => none) = intQ op k a b := by
  cases op <;> first | (cases hf; done) | (cases k <;> rfl)
theorem div_fast {op : BinOp} (hf : isFastOp op = true) (a b : Value) (s : Option (Bool × Do)) : divOr op a b s = s := by
  cases op <;> first | (cases hf; done) | rfl
theorem qBinOp_eq (ρ : Operand → AV) (op : BinOp) (t : TypeId) (x y : Operand) : qBinOp P ρ op t x y = rBinOp P ρ op t x y := by
  unfold qBinOp binInt
  split
  · rename_i k a k' b hx hy
    cases hc : (isFastOp op && leS k k') with
    | false => rfl
    | true =>
      simp only [Bool.and_eq_true] at hc
      have hk : k = k' := of_decide_eq_true hc.2
      subst hk
      simp only [cond_true]
      unfold rBinOp
      rw [hx, hy]
      exact (pr_int op hc.1 t x y k a b).symm.trans (div_fast hc.1 _ _ _).symm
  · rfl
noncomputable def resQ (o : Op) : Program → (Operand → AV) → Option (Bool × Do) :=
  Op.rec (motive := fun _ => Program → (Operand → AV) → Option (Bool × Do))
    (fun x _ ρ => some (true, .val (ρ x)))
    (fun x _ ρ => some (true, .val (ρ x)))
    (fun c a b P ρ => rPick P ρ c a b)
    (fun e P ρ => rAlloc P ρ e)
    (fun e x P ρ => rBox P ρ e x)
    (fun t parts P ρ => rBuild P ρ t parts)
    (fun t len parts P ρ => rBuildSlice P ρ t len parts)
    (fun t m k v P ρ => rMapUpdate P ρ t m k v)
    (fun t a P ρ => rLoad P ρ t a)
    (fun t a x P ρ => rStore P ρ t a x)
    (fun _ _ _ => none)
    (fun _ _ _ => none)
    (fun x P ρ => rNilCheck P ρ x)
    (fun op t x y _ P ρ => qBinOp P ρ op t x y)
    (fun op _ x P ρ => rUnOp P ρ op x)
    (fun s t x P ρ => rConvert P ρ s t x)
    (fun _ _ _ _ => none)
    (fun _ _ _ _ => none)
    (fun fn first captured P ρ => rMakeFunc P ρ fn first captured)
    (fun t r P ρ => rMakeMap P ρ t r)
    (fun _ _ _ _ => none)
    (fun _ _ _ _ _ => none)
    (fun t x lo hi mx P ρ => rSlice P ρ t x lo hi mx)
    (fun s x f P ρ => rFieldAddr P ρ s x f)
    (fun t x f P ρ => rField P ρ t x f)
    (fun t x i P ρ => rIndexAddr P ρ t x i)
    (fun t x i P ρ => rIndex P ρ t x i)
    (fun t x i ok P ρ => rLookup P ρ t x i ok)
    (fun t m k v P ρ => rMapUpdate P ρ t m k v)
    (fun _ _ _ _ _ => none)
    (fun _ _ _ _ _ _ => none)
    (fun t x P ρ => rRange P ρ t x)
    (fun it str P ρ => rNext P ρ it str)
    (fun _ _ _ => none)
    (fun _ _ _ _ _ _ => none)
    (fun x i P ρ => rExtract P ρ x i)
    (fun c P ρ => rCall P ρ c)
    (fun _ _ _ => none)
    (fun _ _ _ => none)
    (fun _ _ _ => none)
    (fun _ _ _ _ => none)
    (fun _ _ _ _ _ => none)
    (fun _ _ _ _ => none) o
theorem resQ_eq (o : Oper) (ρ : Operand → AV) : resQ o.op P ρ = resF P o ρ := by
  obtain ⟨dst, op, ty, pos, after, guard⟩ := o
  cases op with
  | binOp op t x y u => exact qBinOp_eq ρ op t x y
  | _ => rfl
noncomputable def lookQ (k : Nat) (H : Hp) : Option Blk := List.rec (motive := fun _ => Option Blk) none (fun p _ ih => Bool.rec (motive := fun _ => Option Blk) ih (some p.2) (Nat.beq k p.1)) H
noncomputable def getQ {α : Type} (l : List α) : Nat → Option α := List.rec (motive := fun _ => Nat → Option α) (fun _ => none) (fun x _ ih n => Nat.rec (motive := fun _ => Option α) (some x) (fun m _ => ih m) n) l
theorem lookQ_eq (k : Nat) : ∀ H : Hp, lookQ k H = look H k
  | [] => rfl
  | (h, b) :: r => by
    show Bool.rec (motive := fun _ => Option Blk) (lookQ k r) (some b) (Nat.beq k h) = _
    rw [lookQ_eq k r]
    simp only [look]
    cases Nat.beq k h <;> rfl
theorem getQ_eq {α : Type} : ∀ (l : List α) (n : Nat), getQ l n = l[n]?
  | [], n => by simp [getQ]
  | x :: r, 0 => by simp; rfl
  | x :: r, n + 1 => by
    show getQ r n = _
    rw [getQ_eq r n]; simp
noncomputable def cellQ (cs : List C) (off n : Nat) (ag : Bool) : Option AV :=
  Bool.rec (motive := fun _ => Option AV) none (Bool.rec (motive := fun _ => Option AV) (Option.rec (motive := fun _ => Option AV) none (fun c => some (.c c)) (getQ cs off)) (some (.agg ((cs.drop off).take n))) ag) (Nat.ble (off + n) cs.length)
theorem cellQ_eq (cs : List C) (off n : Nat) (ag : Bool) : cellQ cs off n ag = loadL cs off n ag := by
  unfold cellQ loadL
  rw [bleD, getQ_eq]
  by_cases h : off + n ≤ cs.length
  · rw [decide_eq_true h, if_pos h]
    cases ag with
    | true => rfl
    | false =>
      simp only [Bool.false_eq_true, if_false]
      cases cs[off]? <;> rfl
  · rw [decide_eq_false h, if_neg h]
noncomputable def loadQ (b : Option Blk) : Nat → Nat → Nat → Nat → Bool → Option AV :=
  Option.rec (motive := fun _ => Nat → Nat → Nat → Nat → Bool → Option AV) (fun _ _ _ _ _ => none)
    (fun b => Blk.rec (motive := fun _ => Nat → Nat → Nat → Nat → Bool → Option AV) (fun cs _ sz i off n ag => cellQ cs (i * sz + off) n ag)
      (fun _ f sz' _ sz i off n ag => bif Nat.beq sz sz' then loadL ((f i).map .d) off n ag else none) (fun _ _ _ _ _ _ _ => none) (fun _ _ _ _ _ _ _ => none) (fun _ _ _ _ _ => none) b) b
theorem loadQ_eq (H : Hp) (h sz i off n : Nat) (ag : Bool) : loadQ (lookQ h H) sz i off n ag = loadA H h sz i off n ag := by
  rw [lookQ_eq]
  unfold loadA
  cases look H h with
  | none => rfl
  | some b =>
    cases b with
    | cells cs t => exact cellQ_eq cs (i * sz + off) n ag
    | _ => rfl
noncomputable def loadR {R : Type} (x : Option AV) : Nat → (AV → Foot → Ups → Option (T R)) → Option (T R) :=
  Option.rec (motive := fun _ => Nat → (AV → Foot → Ups → Option (T R)) → Option (T R)) (fun _ _ => none) (fun x h k => k x ⟨[h], []⟩ []) x
noncomputable def storeR {R : Type} (x : Option (Ups × List Nat)) : (AV → Foot → Ups → Option (T R)) → Option (T R) :=
  Option.rec (motive := fun _ => (AV → Foot → Ups → Option (T R)) → Option (T R)) (fun _ => none) (fun p k => k (.tup []) ⟨p.2, p.1.map (·.1)⟩ p.1) x
noncomputable def splQ {α : Type} (cs : List α) : Nat → List α → List α :=
  List.rec (motive := fun _ => Nat → List α → List α) (fun _ new => new) (fun c r ih off new => Nat.rec (motive := fun _ => List α) (new ++ (c :: r).drop new.length) (fun m _ => c :: ih m new) off) cs
theorem splQ_eq {α : Type} : ∀ (cs : List α) (off : Nat) (new : List α), off ≤ cs.length → splQ cs off new = splice cs off new
  | [], off, new, h => by
    obtain rfl : off = 0 := by simpa using h
    simp [splQ, splice]
  | c :: r, 0, new, h => by
    show new ++ (c :: r).drop new.length = _
    simp [splice]
  | c :: r, off + 1, new, h => by
    show c :: splQ r off new = _
    rw [splQ_eq r off new (by simpa using h)]
    simp [splice, Nat.add_right_comm]
noncomputable def storeQ (b : Option Blk) : Hp → Nat → Nat → Nat → Nat → List C → Option (Ups × List Nat) :=
  Option.rec (motive := fun _ => Hp → Nat → Nat → Nat → Nat → List C → Option (Ups × List Nat)) (fun _ _ _ _ _ _ => none)
    (fun b => Blk.rec (motive := fun _ => Hp → Nat → Nat → Nat → Nat → List C → Option (Ups × List Nat))
      (fun ds t _ h sz i off cs => bif Nat.ble (i * sz + off + cs.length) ds.length then some ([(h, .cells (splQ ds (i * sz + off) cs) t)], [h]) else none)
      (fun _ _ _ _ H h sz i off cs => storeA H h sz i off cs) (fun _ _ H h sz i off cs => storeA H h sz i off cs) (fun _ _ H h sz i off cs => storeA H h sz i off cs) (fun H h sz i off cs => storeA H h sz i off cs) b) b
theorem storeQ_eq (H : Hp) (h sz i off : Nat) (cs : List C) : storeQ (lookQ h H) H h sz i off cs = storeA H h sz i off cs := by
  rw [lookQ_eq]
  cases hl : look H h with
  | none => unfold storeA; rw [hl]; rfl
  | some b =>
    cases b with
    | cells ds t =>
      show (bif Nat.ble (i * sz + off + cs.length) ds.length then some ([(h, Blk.cells (splQ ds (i * sz + off) cs) t)], [h]) else none) = _
      unfold storeA
      rw [hl]
      simp only
      rw [bleD]
      by_cases hb : i * sz + off + cs.length ≤ ds.length
      · rw [decide_eq_true hb, splQ_eq ds _ cs (by omega)]
      · rw [decide_eq_false hb]; rfl
    | _ => rfl
noncomputable def perfQ {R : Type} (a : Do) : Orc → Nat → Hp → (AV → Foot → Ups → Option (T R)) → Option (T R) :=
  Do.rec (motive := fun _ => Orc → Nat → Hp → (AV → Foot → Ups → Option (T R)) → Option (T R))
    (fun x _ _ _ k => k x ⟨[], []⟩ [])
    (fun h sz i off n ag _ _ H k => loadR (loadQ (lookQ h H) sz i off n ag) h k)
    (fun h sz i off cs _ _ H k => storeR (storeQ (lookQ h H) H h sz i off cs) k)
    (fun b mk _ h0 _ k => k (mk h0) ⟨[], [h0]⟩ [(h0, b)])
    (fun d s e sz orc h0 H k => perfK orc h0 (.append d s e sz) H k)
    (fun h orc h0 H k => perfK orc h0 (.next h) H k)
    (fun h kd key ok z orc h0 H k => perfK orc h0 (.look h kd key ok z) H k)
    (fun h kd key v orc h0 H k => perfK orc h0 (.upd h kd key v) H k)
    (fun h x orc h0 H k => perfK orc h0 (.chk h x) H k)
    (fun h off u orc h0 H k => perfK orc h0 (.conv h off u) H k)
    (fun h n e orc h0 H k => perfK orc h0 (.ustr h n e) H k)
    (fun h n orc h0 H k => perfK orc h0 (.cstr h n) H k)
    (fun h n s orc h0 H k => perfK orc h0 (.slarr h n s) H k)
    (fun h orc h0 H k => perfK orc h0 (.mlen h) H k)
    (fun h off s len n orc h0 H k => perfK orc h0 (.idx h off s len n) H k)
    (fun f args orc h0 H k => perfK orc h0 (.call f args) H k) a
theorem perfQ_eq {R : Type} (a : Do) (h0 : Nat) (H : Hp) (k : AV → Foot → Ups → Option (T R)) : perfQ a orc h0 H k = perfK orc h0 a H k := by
  cases a with
  | load h sz i off n ag =>
    show loadR (loadQ (lookQ h H) sz i off n ag) h k = _
    rw [loadQ_eq]
    simp only [perfK, perfA]
    cases loadA H h sz i off n ag <;> rfl
  | store h sz i off cs =>
    show storeR (storeQ (lookQ h H) H h sz i off cs) k = _
    rw [storeQ_eq]
    simp only [perfK, perfA]
    cases storeA H h sz i off cs <;> rfl
  | _ => rfl
noncomputable def okQ {R : Type} (r : Option (Bool × Do)) : (Do → Option (T R)) → Option (T R) :=
  Option.rec (motive := fun _ => (Do → Option (T R)) → Option (T R)) (fun _ => none) (fun p k => Bool.rec (motive := fun _ => Option (T R)) none (k p.2) p.1) r
noncomputable def opsQ {R : Type} (P : Program) (orc : Orc) (ops : Array Oper) (draw : Bool) (nm : Nat) (l : List Oper) : Nat → List (Nat × Foot) → Fr → Hp → (List (Nat × Foot) → Fr → Hp → Option (T R)) → Option (T R) :=
  List.rec (motive := fun _ => Nat → List (Nat × Foot) → Fr → Hp → (List (Nat × Foot) → Fr → Hp → Option (T R)) → Option (T R)) (fun _ tr t H k => k tr t H)
    (fun o _ ih i tr t H k => guardQ o.guard ops t
      (fun t => okQ (resQ o.op P (opQ t)) fun a => perfQ a orc (nm + 16 * i) H (fun x ft u => putQ o.dst x t fun t' => applyK u H fun H' => ih (i + 1) (Bool.rec (motive := fun _ => List (Nat × Foot)) tr (tr ++ [(i, ft)]) draw) t' H' k))
      (fun t => putQ o.dst (.tup []) t fun t' => ih (i + 1) (Bool.rec (motive := fun _ => List (Nat × Foot)) tr (tr ++ [(i, ⟨[], []⟩)]) draw) t' H k)) l
theorem perfK_congr {R : Type} {orc : Orc} (h0 : Nat) (a : Do) (H : Hp) (k k' : AV → Foot → Ups → Option (T R)) (h : ∀ x ft u, k x ft u = k' x ft u) : perfK orc h0 a H k = perfK orc h0 a H k' := by
  have : k = k' := by funext x ft u; exact h x ft u
  rw [this]
theorem opsQ_eq {R : Type} (ops : Array Oper) (draw : Bool) (nm : Nat) : ∀ (l : List Oper) (i : Nat), l = ops.toList.drop i → ∀ (tr tr' : List (Nat × Foot)) (t : Fr) (hi : Nat) (H : Hp) (kq : List (Nat × Foot) → Fr → Hp → Option (T R)) (k : List (Nat × Foot) → St → Option (T R)),
    Fr.Ok 0 hi t → tr'.map (·.1) = List.range i → (draw = true → tr = tr') → (∀ tr tr' t H, Fr.Ok 0 hi t → tr'.map (·.1) = List.range (i + l.length) → (draw = true → tr = tr') → kq tr t H = k tr' ⟨t.toL, H, nm⟩) →
    opsQ P orc ops draw nm l i tr t H kq = opsK P orc ops (List.range' i l.length) tr' ⟨t.toL, H, nm⟩ k
  | [], i, hl, tr, tr', t, hi, H, kq, k, ho, hm, htr, hk => by
    show kq tr t H = _
    simp only [List.length_nil, List.range'_zero, opsK]
    exact hk tr tr' t H ho (by simpa using hm) htr
  | o :: r, i, hl, tr, tr', t, hi, H, kq, k, ho, hm, htr, hk => by
    have hget : ops[i]? = some o := by
      have : ops.toList[i]? = some o := by
        have := congrArg (fun x => x[0]?) hl
        simpa using this.symm
      simpa using this
    have hr : r = ops.toList.drop (i + 1) := by
      have := congrArg (List.drop 1) hl
      simpa [List.drop_drop, Nat.add_comm] using this
    have go : ∀ (tr tr' : List (Nat × Foot)) (t : Fr) (H : Hp), Fr.Ok 0 hi t → tr'.map (·.1) = List.range (i + 1) → (draw = true → tr = tr') → opsQ P orc ops draw nm r (i + 1) tr t H kq = opsK P orc ops (List.range' (i + 1) r.length) tr' ⟨t.toL, H, nm⟩ k :=
      fun tr tr' t H ho hm htr => opsQ_eq ops draw nm r (i + 1) hr tr tr' t hi H kq k ho hm htr (fun a b c d e f g => hk a b c d e (by rw [f]; congr 1; simp; omega) g)
    show guardQ o.guard ops t
      (fun t => okQ (resQ o.op P (opQ t)) fun a => perfQ a orc (nm + 16 * i) H (fun x ft u => putQ o.dst x t fun t' => applyK u H fun H' => opsQ P orc ops draw nm r (i + 1) (Bool.rec (motive := fun _ => List (Nat × Foot)) tr (tr ++ [(i, ft)]) draw) t' H' kq))
      (fun t => putQ o.dst (.tup []) t fun t' => opsQ P orc ops draw nm r (i + 1) (Bool.rec (motive := fun _ => List (Nat × Foot)) tr (tr ++ [(i, ⟨[], []⟩)]) draw) t' H kq) = _
    simp only [List.length_cons, List.range'_succ, opsK, stepK, hget, guardF_eq, opF_eq, putF_eq]
    have htr2 : ∀ ft : Foot, draw = true → (Bool.rec (motive := fun _ => List (Nat × Foot)) tr (tr ++ [(i, ft)]) draw) = tr' ++ [(i, ft)] := fun ft hd => by rw [hd, htr hd]
    have hm2 : ∀ ft : Foot, (tr' ++ [(i, ft)]).map (·.1) = List.range (i + 1) := fun ft => by rw [List.map_append, hm, List.range_succ]; rfl
    refine guardQ_eq ops ho o _ _ _ _ (fun t1 o1 => ?_) (fun t1 o1 => ?_)
    · rw [opQ_eq o1, resQ_eq]
      cases resF P o (opA t1.toL) with
      | none => rfl
      | some p =>
        obtain ⟨ok, a⟩ := p
        cases ok with
        | false => rfl
        | true =>
          simp only [cond_true]
          show perfQ a orc (nm + 16 * i) H _ = _
          rw [perfQ_eq]
          refine perfK_congr _ _ _ _ _ fun x ft u => ?_
          obtain ⟨t2, o2, e2, k2⟩ := putQ_eq o.dst x o1
          rw [k2, applyK_eq, go _ (tr' ++ [(i, ft)]) _ _ o2 (hm2 ft) (htr2 ft), e2]
    · obtain ⟨t2, o2, e2, k2⟩ := putQ_eq o.dst (.tup []) o1
      rw [k2, go _ (tr' ++ [(i, ⟨[], []⟩)]) _ _ o2 (hm2 _) (htr2 _), e2]
/-! the order that is left open: pairs that no edge orders, of a region once -/
def unP (ops : Array Oper) : List (Nat × Nat) := (List.range ops.size).flatMap fun j => ((List.range j).filter fun i => !((masks ops.toList []).getD j 0).testBit i).map fun i => (i, j)
def statQ (ops : Array Oper) : Bool := (unP ops).all (fun p => match ops[p.1]?, ops[p.2]? with | some o, some q => o.apart ops q | _, _ => false) && edgesDown ops
noncomputable def footQ (tr : List (Nat × Foot)) (i : Nat) : Foot := Option.rec (motive := fun _ => Foot) ⟨[], []⟩ (fun p => p.2) (getQ tr i)
noncomputable def pairsQ (l : List (Nat × Nat)) : List (Nat × Foot) → Bool :=
  List.rec (motive := fun _ => List (Nat × Foot) → Bool) (fun _ => true) (fun p _ ih tr => Bool.rec (motive := fun _ => Bool) false (ih tr) (indepF (footQ tr p.1) (footQ tr p.2))) l
noncomputable def quickQ (ops : Array Oper) (tr : List (Nat × Foot)) : Bool := statQ ops && pairsQ (unP ops) tr
theorem pairsQ_mem : ∀ (l : List (Nat × Nat)) (tr : List (Nat × Foot)), pairsQ l tr = true → ∀ p ∈ l, indepF (footQ tr p.1) (footQ tr p.2) = true
  | [], _, _, p, hp => by simp at hp
  | q :: r, tr, h, p, hp => by
    have h' : Bool.rec (motive := fun _ => Bool) false (pairsQ r tr) (indepF (footQ tr q.1) (footQ tr q.2)) = true := h
    cases hi : indepF (footQ tr q.1) (footQ tr q.2) with
    | false => rw [hi] at h'; cases h'
    | true =>
      rw [hi] at h'
      rcases List.mem_cons.1 hp with rfl | hp
      · exact hi
      · exact pairsQ_mem r tr h' p hp
theorem footQ_eq {tr : List (Nat × Foot)} {n i : Nat} (hm : tr.map (·.1) = List.range n) {x : Nat × Foot} (hx : tr[i]? = some x) : x.1 = i ∧ footQ tr i = x.2 := by
  constructor
  · have h1 : (tr.map (·.1))[i]? = some x.1 := by rw [List.getElem?_map, hx]; rfl
    rw [hm] at h1
    have := List.getElem?_eq_some_iff.1 h1
    obtain ⟨hlt, e⟩ := this
    simpa using e.symm
  · unfold footQ
    rw [getQ_eq, hx]
theorem commutes_all (ops : Array Oper) (ms : List Nat) : ∀ (tr : List (Nat × Foot)), (∀ (i j : Nat) (x y : Nat × Foot), i < j → tr[i]? = some x → tr[j]? = some y → ((ms.getD y.1 0).testBit x.1 || indep ops x y) = true) → commutes ops ms tr = true
  | [], _ => rfl
  | x :: r, h => by
    simp only [commutes, Bool.and_eq_true]
    refine ⟨?_, commutes_all ops ms r fun i j a b hij ha hb => h (i + 1) (j + 1) a b (by omega) (by simpa using ha) (by simpa using hb)⟩
    rw [List.all_eq_true]
    intro y hy
    obtain ⟨j, hj, e⟩ := List.getElem_of_mem hy
    exact h 0 (j + 1) x y (by omega) (by simp) (by simp [List.getElem?_eq_getElem hj, e])
theorem quickQ_ok (ops : Array Oper) (tr : List (Nat × Foot)) (hm : tr.map (·.1) = List.range ops.size) (h : quickQ ops tr = true) : commutes ops (masks ops.toList []) tr = true ∧ edgesDown ops = true := by
  unfold quickQ statQ at h
  simp only [Bool.and_eq_true] at h
  obtain ⟨⟨h1, h2⟩, h3⟩ := h
  refine ⟨commutes_all ops _ tr fun i j x y hij hx hy => ?_, h2⟩
  obtain ⟨ex, fx⟩ := footQ_eq hm hx
  obtain ⟨ey, fy⟩ := footQ_eq hm hy
  cases ht : ((masks ops.toList []).getD y.1 0).testBit x.1 with
  | true => rfl
  | false =>
    have hjn : j < ops.size := by
      have := congrArg List.length hm
      simp at this
      have := (List.getElem?_eq_some_iff.1 hy).1
      omega
    have hmem : (i, j) ∈ unP ops := by
      unfold unP
      rw [List.mem_flatMap]
      refine ⟨j, by simpa using hjn, ?_⟩
      rw [List.mem_map]
      exact ⟨i, by rw [List.mem_filter]; exact ⟨by simpa using hij, by rw [ex, ey] at ht; rw [ht]; rfl⟩, rfl⟩
    have g1 := List.all_eq_true.1 h1 _ hmem
    have g2 := pairsQ_mem _ _ h3 _ hmem
    simp only [fx, fy] at g2
    simp only [Bool.false_or]
    unfold indep
    rw [ex, ey]
    simp only at g1
    cases ho : ops[i]? with
    | none => rw [ho] at g1; simp at g1
    | some o =>
      cases hp : ops[j]? with
      | none => rw [ho, hp] at g1; simp at g1
      | some q =>
        rw [ho, hp] at g1
        simp only [g1, g2, Bool.and_self]
noncomputable def ofStK {R : Type} (s : St) (k : StQ → R) : R := Fr.ofK s.F fun t => k ⟨t, s.H, s.nm⟩
theorem ofStK_eq (s : St) : ∃ q : StQ, q.Ok ∧ q.to = s ∧ ∀ (R : Type) (k : StQ → R), ofStK s k = k q := by
  obtain ⟨t, o, e, h⟩ := Fr.ofK_eq s.F
  exact ⟨⟨t, s.H, s.nm⟩, ⟨_, o⟩, by simp [StQ.to, e], fun R k => h R _⟩
noncomputable def chkQ (P : Program) (ops : Array Oper) (tr : List (Nat × Foot)) : Bool := (quickQ ops tr && P.follows .mixedOrders) || (commutes ops (masks ops.toList []) tr && edgesDown ops && P.follows .mixedOrders)
noncomputable def drawQ {R : Type} (draw : Bool) : Program → Array Oper → List (Nat × Foot) → Option (T R) → Option (T R) :=
  Bool.rec (motive := fun _ => Program → Array Oper → List (Nat × Foot) → Option (T R) → Option (T R)) (fun _ _ _ k => k) (fun P ops tr k => Bool.rec (motive := fun _ => Option (T R)) none k (chkQ P ops tr)) draw
theorem drawQ_eq {R : Type} (draw : Bool) (ops : Array Oper) (tr tr' : List (Nat × Foot)) (hm : tr'.map (·.1) = List.range ops.size) (htr : draw = true → tr = tr') (k : Option (T R)) :
    drawQ draw P ops tr k = bif !draw || (commutes ops (masks ops.toList []) tr' && edgesDown ops && P.follows .mixedOrders) then k else none := by
  cases draw with
  | false => rfl
  | true =>
    obtain rfl := htr rfl
    show Bool.rec (motive := fun _ => Option (T R)) none k (chkQ P ops tr) = _
    have : chkQ P ops tr = (commutes ops (masks ops.toList []) tr && edgesDown ops && P.follows .mixedOrders) := by
      unfold chkQ
      cases hq : quickQ ops tr with
      | false => simp
      | true =>
        obtain ⟨h1, h2⟩ := quickQ_ok ops tr hm hq
        rw [h1, h2]; simp
    rw [this]
    cases (commutes ops (masks ops.toList []) tr && edgesDown ops && P.follows .mixedOrders) <;> rfl
noncomputable def regionQ {R : Type} (P : Program) (orc : Orc) (ops : Array Oper) (draw : Bool) (s : StQ) (k : Out → StQ → Option (T R)) : Option (T R) :=
  bif draw && diamond ops then regionK P orc ops draw s.to fun o s' => ofStK s' fun q => k o q
  else opsQ P orc ops draw s.nm ops.toList 0 [] s.t s.H fun tr t H => drawQ draw P ops tr (natK (s.nm + 16 * ops.size) fun n => k .norm ⟨t, H, n⟩)
def KEq {R : Type} (kq : Out → StQ → Option (T R)) (k : Out → St → Option (T R)) : Prop := ∀ o (s : StQ), s.Ok → kq o s = k o s.to
theorem ofSt_keq {R : Type} {kq : Out → StQ → Option (T R)} {k : Out → St → Option (T R)} (h : KEq kq k) (o : Out) (s : St) : (ofStK s fun q => kq o q) = k o s := by
  obtain ⟨q, ho, e, hk⟩ := ofStK_eq s
  rw [hk, h o q ho, e]
theorem regionQ_eq {R : Type} (ops : Array Oper) (draw : Bool) (s : StQ) (hs : s.Ok) {kq : Out → StQ → Option (T R)} {k : Out → St → Option (T R)} (h : KEq kq k) : regionQ P orc ops draw s kq = regionK P orc ops draw s.to k := by
  unfold regionQ
  cases hd : (draw && diamond ops) with
  | true =>
    simp only [cond_true]
    have : (fun o s' => ofStK s' fun q => kq o q) = k := by funext o s'; exact ofSt_keq h o s'
    rw [this]
  | false =>
    simp only [cond_false]
    unfold regionK
    simp only [hd, cond_false]
    obtain ⟨hi, ho⟩ := hs
    have := opsQ_eq (P := P) (orc := orc) (R := R) ops draw s.nm ops.toList 0 (by simp) [] [] s.t hi s.H (fun tr t H => drawQ draw P ops tr (natK (s.nm + 16 * ops.size) fun n => kq .norm ⟨t, H, n⟩))
      (fun tr s' => bif !draw || (commutes ops (masks ops.toList []) tr && edgesDown ops && P.follows .mixedOrders) then k .norm ⟨s'.F, s'.H, s.nm + 16 * ops.size⟩ else none) ho rfl (fun _ => rfl) (fun tr tr' t H ho hm htr => by
        rw [drawQ_eq draw ops tr tr' (by simpa using hm) htr, natK_eq, h .norm ⟨t, H, _⟩ ⟨hi, ho⟩]
        rfl)
    rw [this]
    have e : List.range ops.size = List.range' 0 ops.toList.length := by rw [List.range_eq_range']; rfl
    rw [e]
    rfl
noncomputable def trimQ {R : Type} (k0 : Nat) (note : Option Note) (s : StQ) (k : StQ → Option (T R)) : Option (T R) := match note with
  | none => k s
  | some n => match trim k0 (some n) s.to with
    | none => none
    | some s0 => ofStK s0 k
theorem trimQ_eq {R : Type} (k0 : Nat) (note : Option Note) (s : StQ) (hs : s.Ok) {kq : StQ → Option (T R)} {k : St → Option (T R)} (h : ∀ s : StQ, s.Ok → kq s = k s.to) :
    trimQ k0 note s kq = match trim k0 note s.to with | none => none | some s0 => k s0 := by
  cases note with
  | none => exact h s hs
  | some n =>
    simp only [trimQ]
    cases trim k0 (some n) s.to with
    | none => rfl
    | some s0 =>
      obtain ⟨q, ho, e, hk⟩ := ofStK_eq s0
      simp only
      rw [hk, h q ho, e]
noncomputable def outK {R : Type} (o : Out) : (StQ → Option (T R)) → (Out → StQ → Option (T R)) → StQ → Option (T R) :=
  Out.rec (motive := fun _ => (StQ → Option (T R)) → (Out → StQ → Option (T R)) → StQ → Option (T R)) (fun g _ s => g s) (fun id _ k s => k (.exit id) s) (fun l _ k s => k (.goto l) s) (fun _ k s => k .ret s) o
noncomputable def blockK {R : Type} (o : Out) : Nat → (Out → StQ → Option (T R)) → StQ → Option (T R) :=
  Out.rec (motive := fun _ => Nat → (Out → StQ → Option (T R)) → StQ → Option (T R)) (fun _ k s => k .norm s) (fun j id k s => Bool.rec (motive := fun _ => Option (T R)) (k (.exit j) s) (k .norm s) (Nat.beq j id)) (fun l _ k s => k (.goto l) s) (fun _ k s => k .ret s) o
noncomputable def iterQ {R : Type} (k0 : Nat) (note : Option Note) (body : StQ → (Out → StQ → Option (T R)) → Option (T R)) (n : Nat) : StQ → (Out → StQ → Option (T R)) → Option (T R) :=
  Nat.rec (motive := fun _ => StQ → (Out → StQ → Option (T R)) → Option (T R)) (fun _ _ => none) (fun _ ih s k => body s fun o s' => outK o (fun s' => trimQ k0 note s' fun s0 => ih s0 k) k s') n
theorem iterQ_eq {R : Type} (k0 : Nat) (note : Option Note) {bq : StQ → (Out → StQ → Option (T R)) → Option (T R)} {b : St → (Out → St → Option (T R)) → Option (T R)}
    (hb : ∀ (s : StQ) kq k, s.Ok → KEq kq k → bq s kq = b s.to k) : ∀ (n : Nat) (s : StQ) kq k, s.Ok → KEq kq k → iterQ k0 note bq n s kq = iterK k0 note b n s.to k
  | 0, s, kq, k, _, _ => rfl
  | n + 1, s, kq, k, hs, hk => by
    show (bq s fun o s' => outK o (fun s' => trimQ k0 note s' fun s0 => iterQ k0 note bq n s0 kq) kq s') = _
    simp only [iterK]
    refine hb s _ _ hs fun o s' hs' => ?_
    cases o with
    | norm => exact trimQ_eq k0 note s' hs' (kq := fun s0 => iterQ k0 note bq n s0 kq) (k := fun s0 => iterK k0 note b n s0 k) fun s0 h0 => iterQ_eq k0 note hb n s0 kq k h0 hk
    | exit id => exact hk _ _ hs'
    | goto l => exact hk _ _ hs'
    | ret => exact hk _ _ hs'
noncomputable def scopeK {R : Type} (k0 n : Nat) (ann : Ann) (c : Code) (ev : Option Nat → StQ → (Out → StQ → Option (T R)) → Option (T R)) (l : Nat) (k : Out → StQ → Option (T R)) (s' : StQ) : Option (T R) :=
  match findLabel c l with
      | some rest => trimQ k0 ((firstR rest).bind ann) s' fun s0 => iterQ k0 ((firstR rest).bind ann) (fun s' k' => ev (some l) s' fun o s'' => match o with
            | .goto m => bif m == l then k' .norm s'' else none
            | .norm => k' (.goto l) s''
            | .exit id => k' (.exit id) s''
            | .ret => k' .ret s'') n s0 fun o s'' => match o with
              | .goto _ => k .norm s''
              | .norm => none
              | .exit id => k (.exit id) s''
              | .ret => k .ret s''
      | none => none
noncomputable def condQ {R : Type} (x : AV) (a b : Option (T R)) : Option (T R) := match x with
    | .c (.d (.v (.bool t))) => Bool.rec (motive := fun _ => Option (T R)) b a t
    | _ => none
noncomputable def noLab {R : Type} (lab : Option Nat) : Option (T R) → Option (T R) := Option.rec (motive := fun _ => Option (T R) → Option (T R)) (fun x => x) (fun _ _ => none) lab
noncomputable def seqQ {R : Type} (lab : Option Nat) : Code → (Option Nat → StQ → (Out → StQ → Option (T R)) → Option (T R)) → (Option Nat → StQ → (Out → StQ → Option (T R)) → Option (T R)) → StQ → (Out → StQ → Option (T R)) → Option (T R) :=
  Option.rec (motive := fun _ => Code → (Option Nat → StQ → (Out → StQ → Option (T R)) → Option (T R)) → (Option Nat → StQ → (Out → StQ → Option (T R)) → Option (T R)) → StQ → (Out → StQ → Option (T R)) → Option (T R))
    (fun _ ea eb s k => ea none s fun o s' => outK o (fun s' => eb none s' k) k s')
    (fun l a ea eb s k => bif hasLabel l a then ea (some l) s (fun o s' => outK o (fun s' => eb none s' k) k s') else eb (some l) s k) lab
noncomputable def gateQ {R : Type} (P : Program) (orc : Orc) (ann : Ann) (k0 n : Nat) (id : Nat) (ops : Array Oper) (draw : Bool) (s : StQ) (k : Out → StQ → Option (T R)) : Option (T R) := match ann (id + 100000) with
  | none => regionQ P orc ops draw s k
  | some nt => trimQ k0 (some nt) s fun s0 => iterQ k0 ((firstR (.region id ops draw)).bind ann) (fun s' k' => regionQ P orc ops draw s' fun o s'' => match o with
      | .norm => k' .ret s''
      | _ => none) n s0 fun o s'' => match o with
        | .ret => k .norm s''
        | _ => none
noncomputable def evQ {R : Type} (P : Program) (orc : Orc) (ann : Ann) (k0 n : Nat) (c : Code) : Option Nat → StQ → (Out → StQ → Option (T R)) → Option (T R) :=
  Code.rec (motive := fun _ => Option Nat → StQ → (Out → StQ → Option (T R)) → Option (T R))
    (fun lab s k => noLab lab (k .norm s))
    (fun id ops draw lab s k => noLab lab (gateQ P orc ann k0 n id ops draw s k))
    (fun a _ ea eb lab s k => seqQ lab a ea eb s k)
    (fun c _ _ ex ey lab s k => noLab lab (condQ (opQ s.t c) (ex none s k) (ey none s k)))
    (fun id _ ec lab s k => noLab lab (ec none s fun o s' => blockK o id k s'))
    (fun c ec lab s k => noLab lab (trimQ k0 ((firstR c).bind ann) s fun s0 => iterQ k0 ((firstR c).bind ann) (fun s' k' => ec none s' k') n s0 k))
    (fun _ _ _ _ _ _ _ _ _ => none)
    (fun id lab s k => noLab lab (k (.exit id) s))
    (fun c ec lab s k => noLab lab (ec none s fun o s' => match o with
      | .goto l => scopeK k0 n ann c ec l k s'
      | .norm => k .norm s'
      | .exit id => k (.exit id) s'
      | .ret => k .ret s'))
    (fun m lab s k => match lab with | none => k .norm s | some l => bif m == l then k .norm s else none)
    (fun l lab s k => noLab lab (k (.goto l) s))
    (fun lab s k => noLab lab (k .ret s))
    (fun _ _ _ _ => none) c
theorem condQ_eq {R : Type} (x : AV) (a b : Option (T R)) : condQ x a b = match x with | .c (.d (.v (.bool t))) => bif t then a else b | _ => none := by
  unfold condQ
  split
  · rename_i t
    cases t <;> rfl
  · rfl
theorem evQ_eq {R : Type} (ann : Ann) (k0 n : Nat) : ∀ (c : Code) (lab : Option Nat) (s : StQ) (kq : Out → StQ → Option (T R)) (k : Out → St → Option (T R)), s.Ok → KEq kq k → evQ P orc ann k0 n c lab s kq = evK P orc ann k0 n c lab s.to k := by
  intro c
  induction c with
  | skip =>
    intro lab s kq k hs hk
    cases lab with
    | none => simp only [evK]; exact hk _ _ hs
    | some l => simp only [evK]; rfl
  | region id ops draw =>
    intro lab s kq k hs hk
    cases lab with
    | none =>
      simp only [evK]
      show gateQ P orc ann k0 n id ops draw s kq = _
      unfold gateQ
      cases ann (id + 100000) with
      | none => exact regionQ_eq ops draw s hs hk
      | some nt =>
        simp only []
        refine trimQ_eq k0 (some nt) s hs fun s0 h0 => ?_
        refine iterQ_eq k0 _ (b := fun s' k' => regionK P orc ops draw s' (gateN fun s'' => k' .ret s'')) (fun s1 kq1 k1 h1 hk1 => regionQ_eq ops draw s1 h1 fun o s2 h2 => ?_) n s0 _ _ h0 fun o s2 h2 => ?_
        · cases o with
          | norm => exact hk1 _ _ h2
          | _ => rfl
        · cases o with
          | ret => exact hk _ _ h2
          | _ => rfl
    | some l => simp only [evK]; rfl
  | seq a b iha ihb =>
    intro lab s kq k hs hk
    have go : ∀ lab', (evQ P orc ann k0 n a lab' s fun o s' => outK o (fun s' => evQ P orc ann k0 n b none s' kq) kq s') = evK P orc ann k0 n a lab' s.to fun o s' => match o with
        | .norm => evK P orc ann k0 n b none s' k
        | .exit id => k (.exit id) s'
        | .goto l => k (.goto l) s'
        | .ret => k .ret s' := fun lab' => iha lab' s _ _ hs fun o s' hs' => by
          cases o with
          | norm => exact ihb none s' kq k hs' hk
          | exit id => exact hk _ _ hs'
          | goto l => exact hk _ _ hs'
          | ret => exact hk _ _ hs'
    cases lab with
    | none => simp only [evK]; exact go none
    | some l =>
      simp only [evK]
      show (bif hasLabel l a then (evQ P orc ann k0 n a (some l) s fun o s' => outK o (fun s' => evQ P orc ann k0 n b none s' kq) kq s') else evQ P orc ann k0 n b (some l) s kq) = _
      cases hasLabel l a with
      | true => simp only [cond_true]; exact go (some l)
      | false => simp only [cond_false]; exact ihb (some l) s kq k hs hk
  | cond c x y ihx ihy =>
    intro lab s kq k hs hk
    cases lab with
    | some l => simp only [evK]; rfl
    | none =>
      simp only [evK]
      show condQ (opQ s.t c) (evQ P orc ann k0 n x none s kq) (evQ P orc ann k0 n y none s kq) = _
      have hs1 := hs
      obtain ⟨hi, ho⟩ := hs
      rw [condQ_eq, opQ_eq ho, ihx none s kq k hs1 hk, ihy none s kq k hs1 hk]
      rfl
  | block id c ih =>
    intro lab s kq k hs hk
    cases lab with
    | some l => simp only [evK]; rfl
    | none =>
      simp only [evK]
      refine ih none s _ _ hs fun o s' hs' => ?_
      cases o with
      | norm => exact hk _ _ hs'
      | exit j =>
        show Bool.rec (motive := fun _ => Option (T R)) (kq (.exit j) s') (kq .norm s') (Nat.beq j id) = bif j == id then _ else _
        have e : (j == id) = Nat.beq j id := by rw [beqD]; exact Bool.beq_eq_decide_eq j id
        rw [e]
        cases Nat.beq j id with
        | true => exact hk _ _ hs'
        | false => exact hk _ _ hs'
      | goto l => exact hk _ _ hs'
      | ret => exact hk _ _ hs'
  | loop c ih =>
    intro lab s kq k hs hk
    cases lab with
    | some l => simp only [evK]; rfl
    | none =>
      simp only [evK]
      exact trimQ_eq k0 _ s hs (kq := fun s0 => iterQ k0 ((firstR c).bind ann) (fun s' k' => evQ P orc ann k0 n c none s' k') n s0 kq) (k := fun s0 => iterK k0 ((firstR c).bind ann) (fun s' k' => evK P orc ann k0 n c none s' k') n s0 k) fun s0 h0 => iterQ_eq k0 _ (fun s1 kq1 k1 h1 hk1 => ih none s1 kq1 k1 h1 hk1) n s0 kq k h0 hk
  | scope c ih =>
    intro lab s kq k hs hk
    cases lab with
    | some l => simp only [evK]; rfl
    | none =>
      simp only [evK]
      refine ih none s _ _ hs fun o s' hs' => ?_
      cases o with
      | norm => exact hk _ _ hs'
      | exit id => exact hk _ _ hs'
      | ret => exact hk _ _ hs'
      | goto l =>
        show scopeK k0 n ann c (evQ P orc ann k0 n c) l kq s' = _
        unfold scopeK
        simp only []
        cases findLabel c l with
        | none => rfl
        | some rest =>
          simp only []
          refine trimQ_eq k0 _ s' hs' fun s0 h0 => ?_
          refine iterQ_eq k0 _ (b := fun s' k' => evK P orc ann k0 n c (some l) s' fun o s'' => match o with
            | .goto m => bif m == l then k' .norm s'' else none
            | .norm => k' (.goto l) s''
            | .exit id => k' (.exit id) s''
            | .ret => k' .ret s'') (fun s1 kq1 k1 h1 hk1 => ih (some l) s1 _ _ h1 fun o s2 h2 => ?_) n s0 _ _ h0 fun o s2 h2 => ?_
          · cases o with
            | goto m => cases hj : (m == l) with
              | true => simp only [hj, cond_true]; exact hk1 _ _ h2
              | false => simp only [hj, cond_false]
            | norm => exact hk1 _ _ h2
            | exit id => exact hk1 _ _ h2
            | ret => exact hk1 _ _ h2
          · cases o with
            | goto m => exact hk _ _ h2
            | norm => rfl
            | exit id => exact hk _ _ h2
            | ret => exact hk _ _ h2
  | label m =>
    intro lab s kq k hs hk
    cases lab with
    | none => simp only [evK]; exact hk _ _ hs
    | some l =>
      simp only [evK]
      show (bif m == l then kq .norm s else none) = _
      cases hj : (m == l) with
      | true => simp only [cond_true]; exact hk _ _ hs
      | false => simp only [cond_false]
  | goto l => intro lab s kq k hs hk; cases lab with
    | none => simp only [evK]; exact hk _ _ hs
    | some l => simp only [evK]; rfl
  | exit l => intro lab s kq k hs hk; cases lab with
    | none => simp only [evK]; exact hk _ _ hs
    | some l => simp only [evK]; rfl
  | ret => intro lab s kq k hs hk; cases lab with
    | none => simp only [evK]; exact hk _ _ hs
    | some l => simp only [evK]; rfl
  | _ => intro lab s kq k hs hk; cases lab <;> (simp only [evK]; rfl)
noncomputable def resultsQ (P : Program) (fn : Func) (t : Fr) (H : Hp) : Option (List (Bool × List C)) :=
  fn.results.toList.foldr (fun r acc => match acc with
    | none => none
    | some l => match r with
      | .tmp i => (match t.get i with
        | .c x => some ((false, [x]) :: l)
        | .agg cs => some ((true, cs) :: l)
        | _ => none)
      | .cell a ty => (match t.get a, aggT P ty, sizeT P ty with
        | .c (.ptr h off), some ag, some n => (match loadA H h 0 0 off (bif ag then n else 1) ag with
          | some (.c x) => some ((false, [x]) :: l)
          | some (.agg cs) => some ((true, cs) :: l)
          | _ => none)
        | _, _, _ => none)) (some [])
theorem resultsQ_eq (fn : Func) (s : StQ) (hs : s.Ok) : resultsQ P fn s.t s.H = resultsA P fn s.to := by
  obtain ⟨hi, ho⟩ := hs
  have e : ∀ i, s.t.get i = s.to.F.getD i .u := fun i => by
    have := Fr.get_eq ho (Nat.zero_le i)
    rwa [Nat.sub_zero] at this
  unfold resultsQ resultsA
  simp only [e]
  rfl
noncomputable def endQ {R : Type} (P : Program) (fn : Func) (k0 : Nat) (k : AV → Hp → Option (T R)) : Out → StQ → Option (T R) := fun o s => match o with
  | .exit _ => none
  | .goto _ => none
  | _ => match resultsQ P fn s.t s.H with
    | some l => (match ofResults l with
      | some x => let L := newL k0 s.H (namesA x); k (renA (newN k0 L) x) (canonH k0 s.H L)
      | none => none)
    | none => none
theorem endQ_eq {R : Type} (fn : Func) (k0 : Nat) (k : AV → Hp → Option (T R)) : KEq (endQ P fn k0 k) (endK P fn k0 k) := fun o s hs => by
  unfold endQ endK
  rw [resultsQ_eq fn s hs]
  rfl
noncomputable def callQ {R : Type} (P : Program) (orc : Orc) (ann : Ann) (n : Nat) (fn : Func) (c : Code) (args : List AV) (H : Hp) (k : AV → Hp → Option (T R)) : Option (T R) :=
  Fr.putsK args 0 (Fr.base (args.length + (fn.ntmps - args.length)) 0 (args.length + (fn.ntmps - args.length))) fun t => evQ P orc ann H.length n c none ⟨t, H, H.length⟩ (endQ P fn H.length k)
theorem callQ_eq {R : Type} (ann : Ann) (n : Nat) (fn : Func) (c : Code) (args : List AV) (H : Hp) (k : AV → Hp → Option (T R)) : callQ P orc ann n fn c args H k = callK P orc ann n fn c args H k := by
  unfold callQ callK
  have hb := Fr.base_ok (args.length + (fn.ntmps - args.length)) 0 (args.length + (fn.ntmps - args.length)) (Nat.le_refl _)
  rw [Nat.zero_add] at hb
  obtain ⟨t, o, e, h⟩ := Fr.putsK_eq args hb.1 (i := 0) (by omega)
  rw [h, evQ_eq (P := P) (orc := orc) ann H.length n c none ⟨t, H, H.length⟩ _ _ ⟨_, o⟩ (endQ_eq fn H.length k)]
  congr 1
  unfold StQ.to
  rw [e, hb.2]
  simp
end
noncomputable def deepQ (P : Program) (ann : FuncId → Ann) (top : Orc) (fuel : Nat) : Nat → Orc
  | 0 => top
  | n + 1 => fun _ f args H k => match P.funcs[f]? with
    | some fn => (match fn.body with
      | some c => bif seqN 0 H then (match callQ P (deepQ P ann top fuel n) (ann f) fuel fn c args H (fun x H' => some (.leaf (x, H'))) with
        | some t => (match join 40 t with
          | some (x, H') => k x H'
          | none => none)
        | none => none) else none
      | none => top _ f args H k)
    | none => none
theorem deepQ_eq (P : Program) (ann : FuncId → Ann) (top : Orc) (fuel : Nat) : ∀ n, deepQ P ann top fuel n = deepJ P ann top fuel n
  | 0 => rfl
  | n + 1 => by
    funext R f args H k
    simp only [deepQ, deepJ, deepQ_eq P ann top fuel n, callQ_eq, callA]
    try rfl
theorem deepQ_ok (P : Program) (ann : FuncId → Ann) {top : Orc} (ht : OrcOk P top) (fuel n : Nat) : OrcOk P (deepQ P ann top fuel n) := by rw [deepQ_eq]; exact deepJ_ok P ann ht fuel n
theorem cxQ_of {P : Program} {orc : Orc} (ho : OrcOk P orc) {ann : Ann} {n : Nat} {f : FuncId} {fn : Func} {c : Code} {args : List AV} {H : Hp} {x : AV} {H' : Hp} (hf : P.funcs[f]? = some fn) (hb : fn.body = some c) (hH : seqN 0 H = true)
    (h : callQ P orc ann n fn c args H (fun x H' => some (.leaf (x, H'))) = some (.leaf (x, H'))) : CX P f args H x H' := cxA_of ho hf hb hH (by rw [callQ_eq] at h; exact h)
end Go.Eb
namespace Go.Eb
open Go.RowKit
def frzP (H : Hp) : List (Bool × List C) → Option (List (Bool × List D))
  | [] => some []
  | p :: r => match frzL H 400 p.2 with
    | some (ds, _) => match frzP H r with
      | some l => some ((p.1, ds) :: l)
      | none => none
    | none => none
def partD (p : Bool × List D) : Bool × List C := (p.1, p.2.map .d)
def frzA (H : Hp) : AV → Option AV
  | .c x => match frz H 400 x with
    | some (d, _) => some (.c (.d d))
    | none => none
  | .agg cs => match frzL H 400 cs with
    | some (ds, _) => some (.agg (ds.map .d))
    | none => none
  | .tup ps => match frzP H ps with
    | some l => some (.tup (l.map partD))
    | none => none
  | .u => some .u
section
variable {β : Bt} {w : World} {I : Im} {H : Hp}
def allB (β : Bt) (I : Im) : Im := fun b o => I b o ∨ ∃ k, (β k).blk = some b
theorem repDs_cs {I' : Im} {β' : Bt} {ds : List D} {vs : List Value} (h : RepDs w I' ds vs) : RepCs β' w I' (ds.map .d) vs := by
  refine ⟨by simpa using h.1, fun i c v h1 h2 => ?_⟩
  rw [List.getElem?_map] at h1
  cases hd : ds[i]? with
  | none => rw [hd] at h1; cases h1
  | some d => rw [hd] at h1; cases h1; exact h.2 i d v hd h2
theorem frzP_ok (hr : RelH β H I w) {β' : Bt} : ∀ (ps : List (Bool × List C)) (l : List (Bool × List D)), frzP H ps = some l → l.length = ps.length ∧ ∀ (i : Nat) p q v, ps[i]? = some p → l[i]? = some q → RepP β w I p v → RepP β' w (allB β I) (partD q) v
  | [], l, h => by simp [frzP] at h; subst h; exact ⟨rfl, fun i p q v h => by simp at h⟩
  | p :: r, l, h => by
    simp only [frzP] at h
    split at h
    · rename_i ds ks hf
      split at h
      · rename_i l' hl
        simp only [Option.some.injEq] at h
        subst h
        obtain ⟨h1, h2⟩ := frzP_ok hr r l' hl
        refine ⟨by simp [h1], fun i p' q v e1 e2 hp => ?_⟩
        cases i with
        | succ i => exact h2 i p' q v (by simpa using e1) (by simpa using e2) hp
        | zero =>
          simp at e1 e2
          subst e1 e2
          obtain ⟨b, cs⟩ := p
          have key : ∀ vs, RepCs β w I cs vs → RepDs w (allB β I) ds vs := fun vs hv => (frzL_ok hr 400 cs ds ks vs hf hv).2 _ (fun _ _ hi => .inl hi) (fun k _ b hb o => .inr ⟨k, hb⟩)
          cases b with
          | true => obtain ⟨vs, rfl, hv⟩ := hp; exact ⟨vs, rfl, repDs_cs (key _ hv)⟩
          | false =>
            obtain ⟨c, hcs, hv⟩ := hp
            have hcs : cs = [c] := hcs
            subst hcs
            have := key [v] ⟨rfl, fun i c' v' h1 h2 => by
              cases i with
              | zero => simp at h1 h2; subst h1 h2; exact hv
              | succ i => simp at h1⟩
            match ds, this with
            | [d], this => exact ⟨.d d, rfl, this.2 0 d v rfl rfl⟩
      · simp at h
    · simp at h
theorem frzA_ok (hr : RelH β H I w) {β' : Bt} {x y : AV} {v : Value} (h : frzA H x = some y) (hx : RepA β w I x v) : RepA β' w (allB β I) y v := by
  cases x with
  | c x =>
    simp only [frzA] at h
    split at h
    · rename_i d ks hf
      simp only [Option.some.injEq] at h
      subst h
      exact (frz_ok hr 400 x d ks v hf hx).2 _ (fun _ _ hi => .inl hi) (fun k _ b hb o => .inr ⟨k, hb⟩)
    · simp at h
  | agg cs =>
    simp only [frzA] at h
    split at h
    · rename_i ds ks hf
      simp only [Option.some.injEq] at h
      subst h
      obtain ⟨vs, rfl, hv⟩ := hx
      exact ⟨vs, rfl, repDs_cs ((frzL_ok hr 400 cs ds ks _ hf hv).2 _ (fun _ _ hi => .inl hi) (fun k _ b hb o => .inr ⟨k, hb⟩))⟩
    · simp at h
  | tup ps =>
    simp only [frzA] at h
    split at h
    · rename_i l hf
      simp only [Option.some.injEq] at h
      subst h
      obtain ⟨vs, rfl, hl, hv⟩ := hx
      obtain ⟨h1, h2⟩ := frzP_ok (β' := β') hr ps l hf
      refine ⟨vs, rfl, by simpa [h1] using hl, fun i p x e1 e2 => ?_⟩
      rw [List.getElem?_map] at e1
      cases hq : l[i]? with
      | none => rw [hq] at e1; cases e1
      | some q =>
        rw [hq] at e1
        simp only [Option.map_some, Option.some.injEq] at e1
        subst e1
        have hlt : i < ps.length := by rw [← h1]; exact (List.getElem?_eq_some_iff.1 hq).1
        exact h2 i _ q x (List.getElem?_eq_getElem hlt) hq (hv i _ x (List.getElem?_eq_getElem hlt) e2)
    · simp at h
  | u => simp [frzA] at h; subst h; trivial
end
theorem CR.data {P : Program} {f : FuncId} {args : List AV} {x y : AV} {Hr : Hp} (h : CR P f args [] x Hr) (hf : frzA Hr x = some y) : CR P f args [] y [] := by
  intro β I w vs hr ha
  refine (h β I w vs hr ha).mono fun e w' ⟨v, β', I', he, hr', hx, hE, hm⟩ => ?_
  have hfree : ∀ h, β h = .free := fun h => hr.dom h rfl
  refine ⟨v, β, allB β' I', he, ?_, frzA_ok hr' hf hx, ?_, .refl _⟩
  · refine ⟨⟨fun i j b hi => ?_, fun i b hi => ?_, fun i b o hi => ?_, fun b o hi => ?_, hr'.gl.step (fun _ _ hi => .inl hi) (fun _ _ _ => rfl)⟩, fun i _ => hfree i, fun i B hB => by simp [look] at hB⟩
    · rw [hfree i] at hi; cases hi
    · rw [hfree i] at hi; cases hi
    · rw [hfree i] at hi; cases hi
    · rcases hi with hi | ⟨k, hk⟩
      · exact hr'.old b o hi
      · exact hr'.lt k b hk
  · refine ⟨hE.os, hE.tape, hE.output, hE.size, hE.block, fun b o hi => .inl (hE.keepI b o hi), hE.cell, fun b o hi => ?_, fun i b hb => .inl ⟨i, hb⟩, hE.shapes⟩
    rcases hi with hi | ⟨k, hk⟩
    · exact hE.newI b o hi
    · rcases hE.newB k b hk with ⟨j, hj⟩ | hj
      · exact .inr (.inr ⟨j, hj⟩)
      · exact .inr (.inl hj)
def frzAs (H : Hp) : List AV → Option (List AV)
  | [] => some []
  | x :: r => match frzA H x with
    | some y => match frzAs H r with
      | some l => some (y :: l)
      | none => none
    | none => none
theorem frzAs_ok {β β' : Bt} {w : World} {I : Im} {H : Hp} (hr : RelH β H I w) : ∀ (xs ys : List AV), frzAs H xs = some ys → ys.length = xs.length ∧ ∀ (i : Nat) x y v, xs[i]? = some x → ys[i]? = some y → RepA β w I x v → RepA β' w (allB β I) y v
  | [], ys, h => by simp [frzAs] at h; subst h; exact ⟨rfl, fun i x y v h => by simp at h⟩
  | x :: r, ys, h => by
    simp only [frzAs] at h
    split at h
    · rename_i y hy
      split at h
      · rename_i l hl
        simp only [Option.some.injEq] at h
        subst h
        obtain ⟨h1, h2⟩ := frzAs_ok (β' := β') hr r l hl
        refine ⟨by simp [h1], fun i x' y' v e1 e2 hx => ?_⟩
        cases i with
        | zero => simp at e1 e2; subst e1 e2; exact frzA_ok hr hy hx
        | succ i => exact h2 i x' y' v (by simpa using e1) (by simpa using e2) hx
      · simp at h
    · simp at h
/-! what data stands for, by its spelling -/
section
variable {α : Type} [Inhabited α]
noncomputable def okE (enc : α → D) (x : D) : Bool := @decide (∃ a, DE x (enc a)) (Classical.propDecidable _)
noncomputable def theE (enc : α → D) (x : D) : α := @dite _ (∃ a, DE x (enc a)) (Classical.propDecidable _) (fun h => Classical.choose h) (fun _ => default)
omit [Inhabited α] in
theorem okE_iff {enc : α → D} {x : D} : okE enc x = true ↔ ∃ a, DE x (enc a) := by unfold okE; simp
theorem theE_de {enc : α → D} {x : D} (h : okE enc x = true) : DE x (enc (theE enc x)) := by
  have h' := okE_iff.1 h
  unfold theE
  rw [dif_pos h']
  exact Classical.choose_spec h'
theorem theE_of {enc : α → D} (inj : ∀ a b, DE (enc a) (enc b) → a = b) {x : D} {a : α} (h1 : DE x (enc a)) (h2 : DE (enc a) x) : okE enc x = true ∧ theE enc x = a := by
  have h := okE_iff.2 ⟨a, h1⟩
  exact ⟨h, (inj _ _ (h2.trans (theE_de h))).symm⟩
end
def listD {β : Type} (sz : Nat) (c : β → List D) (d0 : β) (l : List β) : D := .sl sz l.length fun i => c (l.getD i d0)
theorem list_ext0 {β : Type} {d : β} : ∀ {l l' : List β}, l.length = l'.length → (∀ i, i < l.length → l.getD i d = l'.getD i d) → l = l'
  | [], [], _, _ => rfl
  | x :: r, y :: r', hl, h => by
    have h0 := h 0 (by simp)
    simp at h0
    rw [h0, list_ext0 (l := r) (l' := r') (by simpa using hl) (fun i hi => by have := h (i + 1) (by simpa using hi); simpa using this)]
  | [], _ :: _, hl, _ => by simp at hl
  | _ :: _, [], hl, _ => by simp at hl
theorem listD_inj {β : Type} {sz : Nat} {c : β → List D} {d0 : β} (hc : ∀ a b, DEs (c a) (c b) → a = b) (l l' : List β) (h : DE (listD sz c d0 l) (listD sz c d0 l')) : l = l' := by
  unfold listD at h
  generalize he : l'.length = n' at h
  generalize hg : (fun i => c (l'.getD i d0)) = g at h
  generalize hn : l.length = n at h
  generalize hf : (fun i => c (l.getD i d0)) = f at h
  cases h with
  | sl _ _ _ _ h1 h2 =>
    refine list_ext0 (d := d0) (by omega) fun i hi => ?_
    refine hc _ _ ⟨?_, fun j d e hd he' => ?_⟩
    · have := h1 i (by omega); rw [← hf, ← hg] at this; exact this
    · exact h2 i j d e (by omega) (by rw [← hf]; exact hd) (by rw [← hg]; exact he')
theorem dv_inj {a b : Value} (h : DE (.v a) (.v b)) : a = b := by cases h; rfl
end Go.Eb
namespace Go.Eb
open Go.RowKit
theorem wrap_id {n : Int} (h0 : -9223372036854775808 ≤ n) (h1 : n ≤ 9223372036854775807) : IntKind.wrap IntKind.i64 n = n := by
  have e : IntKind.wrap IntKind.i64 n = (n + 9223372036854775808) % 18446744073709551616 - 9223372036854775808 := by
    unfold IntKind.wrap; simp [IntKind.signed, IntKind.bits]; omega
  rw [e]; omega
theorem lt1 {k n : Nat} (h : k < n) : decide ((k : Int) < (n : Int)) = true := by simp; omega
theorem lt0 {k n : Nat} (h : ¬ k < n) : decide ((k : Int) < (n : Int)) = false := by simp; omega
theorem ge0 (k : Nat) : decide ((0 : Int) ≤ (k : Int)) = true := by simp
theorem tn (k : Nat) : Int.toNat (k : Int) = k := by simp
theorem nx {k n : Nat} (h : k < n) (hn : n ≤ 9223372036854775807) : IntKind.wrap IntKind.i64 ((k : Int) + 1) = ((k + 1 : Nat) : Int) := by rw [wrap_id (by omega) (by omega)]; omega
theorem drop_at' {α : Type} {T : List α} {d : α} {a : Nat} (h : a < T.length) : T.drop a = T.getD a d :: T.drop (a + 1) := by
  rw [List.drop_eq_getElem_cons h]; simp [List.getD, h]
end Go.Eb
namespace Go.Eb
open Go.RowKit
section
variable {β : Type} {c : β → List D} {d0 : β}
structure RL (c : β → List D) (d0 : β) (n : Nat) (f : Nat → List D) (l : List β) : Prop where
  len : n = l.length
  le : ∀ i, i < n → DEs (f i) (c (l.getD i d0))
  ge : ∀ i, i < n → DEs (c (l.getD i d0)) (f i)
theorem RL.de {n sz : Nat} {f : Nat → List D} {l : List β} (h : RL c d0 n f l) : DE (.sl sz n f) (listD sz c d0 l) := by
  obtain ⟨rfl, h1, _⟩ := h
  exact .sls h1
theorem RL.ed {n sz : Nat} {f : Nat → List D} {l : List β} (h : RL c d0 n f l) : DE (listD sz c d0 l) (.sl sz n f) := by
  obtain ⟨rfl, _, h2⟩ := h
  exact .sls h2
theorem RL.nil (f : Nat → List D) : RL c d0 0 f [] := ⟨rfl, fun i h => by omega, fun i h => by omega⟩
theorem RL.data (l : List β) : RL c d0 l.length (fun i => c (l.getD i d0)) l := ⟨rfl, fun i _ => .refl _, fun i _ => .refl _⟩
theorem RL.eq {n : Nat} {f : Nat → List D} {l : List β} (hn : n = l.length) (h : ∀ i, i < n → f i = c (l.getD i d0)) : RL c d0 n f l := ⟨hn, fun i hi => by rw [h i hi]; exact .refl _, fun i hi => by rw [h i hi]; exact .refl _⟩
theorem getD_app_lt {l l' : List β} {i : Nat} (h : i < l.length) : (l ++ l').getD i d0 = l.getD i d0 := by
  rw [List.getD_eq_getElem?_getD, List.getElem?_append_left h, ← List.getD_eq_getElem?_getD]
theorem getD_app_ge {l l' : List β} {i : Nat} (h : l.length ≤ i) : (l ++ l').getD i d0 = l'.getD (i - l.length) d0 := by
  rw [List.getD_eq_getElem?_getD, List.getElem?_append_right h, ← List.getD_eq_getElem?_getD]
theorem RL.cat {n m : Nat} {f g : Nat → List D} {l l' : List β} (h : RL c d0 n f l) (k : RL c d0 m g l') : RL c d0 (n + m) (appF n f g) (l ++ l') := by
  have hf : ∀ i, i < n + m → (i < n ∧ appF n f g i = f i ∧ (l ++ l').getD i d0 = l.getD i d0) ∨ (n ≤ i ∧ appF n f g i = g (i - n) ∧ (l ++ l').getD i d0 = l'.getD (i - n) d0) := fun i hi => by
    unfold appF
    rw [bltD]
    by_cases e : i < n
    · left; rw [decide_eq_true e]; exact ⟨e, rfl, getD_app_lt (by rw [← h.len]; exact e)⟩
    · right; rw [decide_eq_false e]; exact ⟨by omega, rfl, by rw [getD_app_ge (by rw [← h.len]; omega), ← h.len]⟩
  refine ⟨by rw [h.len, k.len, List.length_append], fun i hi => ?_, fun i hi => ?_⟩
  · rcases hf i hi with ⟨h1, h2, h3⟩ | ⟨h1, h2, h3⟩
    · rw [h2, h3]; exact h.le i h1
    · rw [h2, h3]; exact k.le (i - n) (by omega)
  · rcases hf i hi with ⟨h1, h2, h3⟩ | ⟨h1, h2, h3⟩
    · rw [h2, h3]; exact h.ge i h1
    · rw [h2, h3]; exact k.ge (i - n) (by omega)
theorem RL.one {sz : Nat} {ds : List D} {x : β} (hs : ds.length = sz) (h1 : DEs ds (c x)) (h2 : DEs (c x) ds) : RL c d0 1 (chunk ds sz) [x] := by
  have e : ∀ i, i < 1 → chunk ds sz i = ds ∧ [x].getD i d0 = x := fun i hi => by
    obtain rfl : i = 0 := by omega
    refine ⟨?_, rfl⟩
    unfold chunk
    simp [← hs]
  exact ⟨rfl, fun i hi => by rw [(e i hi).1, (e i hi).2]; exact h1, fun i hi => by rw [(e i hi).1, (e i hi).2]; exact h2⟩
theorem RL.app {n sz : Nat} {f : Nat → List D} {l : List β} {ds : List D} {x : β} (h : RL c d0 n f l) (hs : ds.length = sz) (h1 : DEs ds (c x)) (h2 : DEs (c x) ds) : RL c d0 (n + 1) (appF n f (chunk ds sz)) (l ++ [x]) := h.cat (.one hs h1 h2)
theorem RL.app' {n sz : Nat} {f : Nat → List D} {l : List β} {x : β} (h : RL c d0 n f l) (hs : (c x).length = sz) : RL c d0 (n + 1) (appF n f (chunk (c x) sz)) (l ++ [x]) := h.app hs (.refl _) (.refl _)
theorem RL.ble {n sz : Nat} {t : TypeId} {f : Nat → List D} {l : List β} (h : RL c d0 n f l) : Ble (.row n f sz t) (.row l.length (fun i => c (l.getD i d0)) sz t) := ⟨h.len, rfl, rfl, h.le⟩
end
section
variable {β : Type} {c : β → List D} {d0 : β} {sz : Nat}
theorem RL.the (hc : ∀ a b, DEs (c a) (c b) → a = b) {n : Nat} {f : Nat → List D} {l : List β} (h : RL c d0 n f l) : okE (listD sz c d0) (.sl sz n f) = true ∧ theE (listD sz c d0) (.sl sz n f) = l :=
  theE_of (listD_inj hc) h.de h.ed
theorem the_list (hc : ∀ a b, DEs (c a) (c b) → a = b) (l : List β) : okE (listD sz c d0) (listD sz c d0 l) = true ∧ theE (listD sz c d0) (listD sz c d0 l) = l := theE_of (listD_inj hc) (.refl _) (.refl _)
theorem RL.of_ok {n : Nat} {f : Nat → List D} (h : okE (listD sz c d0) (.sl sz n f) = true) : n = (theE (listD sz c d0) (.sl sz n f)).length ∧ ∀ i, i < n → DEs (f i) (c ((theE (listD sz c d0) (.sl sz n f)).getD i d0)) := by
  have := theE_de h
  generalize theE (listD sz c d0) (.sl sz n f) = l at this
  unfold listD at this
  generalize hy : D.sl sz l.length (fun i => c (l.getD i d0)) = y at this
  cases this with
  | sl _ _ _ g h1 h2 =>
    injection hy with _ e1 e2
    subst e2
    exact ⟨e1.symm, fun i hi => ⟨h1 i hi, fun j d e hd he => h2 i j d e hi hd he⟩⟩
theorem ble_of_ok {n : Nat} {t : TypeId} {f : Nat → List D} (h : okE (listD sz c d0) (.sl sz n f) = true) : Ble (.row n f sz t) (.row (theE (listD sz c d0) (.sl sz n f)).length (fun i => c ((theE (listD sz c d0) (.sl sz n f)).getD i d0)) sz t) :=
  ⟨(RL.of_ok h).1, rfl, rfl, (RL.of_ok h).2⟩
end
def ansB {A : Type} (d : Dec (List AV × Hp) A) (c b : A → Bool) (r : A → AV) (H' : A → Hp) (r2 : A → AV) (H2 : A → Hp) : (R : Type) → List AV → Hp → (AV → Hp → Option (T R)) → Option (T R) := fun _ args H k =>
  match d.dec (args, H) with
  | some a => bif c a then (bif b a then k (r a) (H' a) else k (r2 a) (H2 a)) else none
  | none => none
theorem AnsS.b {P : Program} {f : FuncId} {A : Type} {d : Dec (List AV × Hp) A} {c b : A → Bool} {r : A → AV} {H' : A → Hp} {r2 : A → AV} {H2 : A → Hp} (hc : ∀ a, c a = true → b a = true → CX P f (d.enc a).1 (d.enc a).2 (r a) (H' a))
    (hc2 : ∀ a, c a = true → b a = false → CX P f (d.enc a).1 (d.enc a).2 (r2 a) (H2 a)) : AnsS P f (ansB d c b r H' r2 H2) := by
  refine ⟨fun R args H k t h => ?_, fun args H => ?_⟩
  · unfold ansB at h
    cases hd : d.dec (args, H) with
    | none => rw [hd] at h; cases h
    | some a =>
      rw [hd] at h
      simp only [] at h
      cases hca : c a with
      | false => rw [hca] at h; cases h
      | true =>
        rw [hca] at h
        simp only [cond_true] at h
        have e := d.ok _ _ hd
        cases hb : b a with
        | true =>
          rw [hb] at h
          have := hc a hca hb
          rw [← e] at this
          exact ⟨_, _, h, this⟩
        | false =>
          rw [hb] at h
          have := hc2 a hca hb
          rw [← e] at this
          exact ⟨_, _, h, this⟩
  · unfold ansB
    cases d.dec (args, H) with
    | none => exact .no fun R k => rfl
    | some a => exact .bif _ (.bif _ (.one _ _ fun R k => rfl) (.one _ _ fun R k => rfl)) (.no fun R k => rfl)
namespace Dec
def mp (h : Nat) : Dec C Unit := ⟨fun x => match x with | .mp k => bif Nat.beq k h then some () else none | _ => none, fun _ => .mp h, fun x a e => by
  split at e
  · rename_i k
    cases hb : Nat.beq k h with
    | true => rw [Nat.eq_of_beq_eq_true hb]
    | false => rw [hb] at e; cases e
  · cases e⟩
def mapB (kd : Nat) : Dec Blk (List (Value × Value)) := ⟨fun x => match x with | .map k l => bif Nat.beq k kd then some l else none | _ => none, fun l => .map kd l, fun x a e => by
  split at e
  · rename_i k l
    cases hb : Nat.beq k kd with
    | true => rw [hb] at e; simp only [cond_true, Option.some.injEq] at e; rw [Nat.eq_of_beq_eq_true hb, e]
    | false => rw [hb] at e; cases e
  · cases e⟩
def meth (f : FuncId) : Dec C Unit := ⟨fun x => match x with | .fn g [.ptr 0 0] [] => bif Nat.beq g f then some () else none | _ => none, fun _ => .fn f [.ptr 0 0] [], fun x a e => by
  split at e
  · rename_i g
    cases hb : Nat.beq g f with
    | true => rw [Nat.eq_of_beq_eq_true hb]
    | false => rw [hb] at e; cases e
  · cases e⟩
end Dec
/-! equality, as a test -/
noncomputable def same {α : Type} (a b : α) : Bool := @decide (a = b) (Classical.propDecidable _)
theorem same_iff {α : Type} {a b : α} : same a b = true ↔ a = b := by unfold same; simp
theorem same_refl {α : Type} (a : α) : same a a = true := same_iff.2 rfl
theorem strEq (a b : ByteArray) : (a.toList == b.toList) = same a b := by
  rw [Bool.eq_iff_iff, same_iff, beq_iff_eq]
  refine ⟨fun h => ?_, fun h => by rw [h]⟩
  rw [ByteArray.toList_eq, ByteArray.toList_eq] at h
  cases a; cases b
  simp only [ByteArray.mk.injEq]
  exact Array.toList_inj.1 h
/-! trees of tests -/
abbrev lB (b : Bool) : Option (T (AV × Hp)) := some (.leaf (vB b, []))
theorem bAnd (a b : Bool) : (bif a then lB b else lB false) = lB (a && b) := by cases a <;> rfl
theorem fNot {α : Type} (b : Bool) (X Y : α) : (bif !b then X else Y) = bif b then Y else X := by cases b <;> rfl
theorem fAnd {α : Type} (a b : Bool) (X Y : α) : (bif a then (bif b then Y else X) else X) = bif (a && b) then Y else X := by cases a <;> rfl
theorem fOr {α : Type} (a b : Bool) (X Y : α) : (bif a then X else (bif b then X else Y)) = bif (a || b) then X else Y := by cases a <;> rfl
theorem neN (a b : Int) : (a != b) = !(a == b) := rfl
end Go.Eb
namespace Go.Eb
open Go.RowKit
theorem bLeaf (c a b : Bool) : (bif c then some (T.leaf (vB a, ([] : Hp))) else some (T.leaf (vB b, []))) = some (T.leaf (vB (bif c then a else b), [])) := by cases c <;> rfl
theorem iLeaf (c : Bool) (a b : Int) : (bif c then some (T.leaf (vI a, ([] : Hp))) else some (T.leaf (vI b, []))) = some (T.leaf (vI (bif c then a else b), [])) := by cases c <;> rfl
theorem tt : (true && true) = true := rfl
def ansG (ok : List AV → Bool) (r : List AV → AV) : (R : Type) → List AV → Hp → (AV → Hp → Option (T R)) → Option (T R) := fun _ args H k => match H with
  | [] => bif ok args then k (r args) [] else none
  | _ :: _ => none
section
variable {α : Type} [Inhabited α]
noncomputable def okX (enc : α → List AV) (x : List AV) : Bool := @decide (∃ a, Asle x (enc a)) (Classical.propDecidable _)
noncomputable def theT (enc : α → List AV) (x : List AV) : α := @dite _ (∃ a, Asle x (enc a)) (Classical.propDecidable _) (fun h => Classical.choose h) (fun _ => default)
omit [Inhabited α] in
theorem okX_iff {enc : α → List AV} {x : List AV} : okX enc x = true ↔ ∃ a, Asle x (enc a) := by unfold okX; simp
theorem theT_le {enc : α → List AV} {x : List AV} (h : okX enc x = true) : Asle x (enc (theT enc x)) := by
  have h' := okX_iff.1 h
  unfold theT
  rw [dif_pos h']
  exact Classical.choose_spec h'
def InjT (enc : α → List AV) : Prop := ∀ a b, Asle (enc a) (enc b) → a = b
omit [Inhabited α] in
theorem okX_enc {enc : α → List AV} (a : α) : okX enc (enc a) = true := okX_iff.2 ⟨a, .refl _⟩
theorem theT_enc {enc : α → List AV} (inj : InjT enc) (a : α) : theT enc (enc a) = a := (inj _ _ (theT_le (okX_enc a))).symm
noncomputable def okG (enc : α → List AV) (c : α → Bool) (x : List AV) : Bool := okX enc x && c (theT enc x)
theorem okG_enc {enc : α → List AV} (inj : InjT enc) {c : α → Bool} (a : α) (h : c a = true) : okG enc c (enc a) = true := by
  unfold okG; rw [okX_enc, theT_enc inj, h]; rfl
theorem AnsS.g {P : Program} {f : FuncId} {ok : List AV → Bool} {r : List AV → AV} (hc : ∀ x, ok x = true → CX P f x [] (r x) []) : AnsS P f (ansG ok r) := by
  refine ⟨fun R args H k t h => ?_, fun args H => ?_⟩
  · unfold ansG at h
    cases H with
    | cons b H => cases h
    | nil =>
      simp only [] at h
      cases hb : ok args with
      | false => rw [hb] at h; cases h
      | true => rw [hb] at h; exact ⟨_, _, h, hc args hb⟩
  · unfold ansG
    cases H with
    | cons b H => exact .no fun R k => rfl
    | nil => exact .bif _ (.one _ _ fun R k => rfl) (.no fun R k => rfl)
theorem AnsS.t' {P : Program} {f : FuncId} {enc : α → List AV} {c : α → Bool} {r : α → AV} (hc : ∀ a, c a = true → CX P f (enc a) [] (r a) []) : AnsS P f (ansG (okG enc c) fun x => r (theT enc x)) := .g fun x h => by
  unfold okG at h
  simp only [Bool.and_eq_true] at h
  exact (hc _ h.2).ge (theT_le h.1) (.refl _)
end
/-! spellings of one argument, and of several -/
def InjA {α : Type} (e : α → AV) : Prop := ∀ a b, Ale (e a) (e b) → a = b
theorem asle_cons {x y : AV} {a b : List AV} (h : Asle (x :: a) (y :: b)) : Ale x y ∧ Asle a b := by
  refine ⟨h.2 0 x y rfl rfl, by simpa using h.1, fun i p q h1 h2 => h.2 (i + 1) p q (by simpa using h1) (by simpa using h2)⟩
section
variable {α β γ δ : Type} {e : α → AV} {f : β → AV} {g : γ → AV} {k : δ → AV}
def en1 (e : α → AV) : α → List AV := fun a => [e a]
def en2 (e : α → AV) (f : β → AV) : α × β → List AV := fun a => [e a.1, f a.2]
theorem en1_inj (h : InjA e) : InjT (en1 e) := fun a b x => h _ _ (asle_cons x).1
theorem en2_inj (h : InjA e) (h2 : InjA f) : InjT (en2 e f) := fun a b x => by
  obtain ⟨x1, x⟩ := asle_cons x
  obtain ⟨x2, x⟩ := asle_cons x
  exact Prod.ext (h _ _ x1) (h2 _ _ x2)
end
def aD {α : Type} (e : α → D) : α → AV := fun a => .c (.d (e a))
def aG {α : Type} (e : α → List D) : α → AV := fun a => .agg ((e a).map .d)
theorem ale_c {x y : D} (h : Ale (.c (.d x)) (.c (.d y))) : DE x y := h
theorem ale_agg {x y : List D} (h : Ale (.agg (x.map .d)) (.agg (y.map .d))) : DEs x y := by
  have h : Csle (x.map .d) (y.map .d) := h
  refine ⟨by simpa using h.1, fun j d e hd he => ?_⟩
  exact h.2 j (.d d) (.d e) (by rw [List.getElem?_map, hd]; rfl) (by rw [List.getElem?_map, he]; rfl)
theorem aD_inj {α : Type} {e : α → D} (h : ∀ a b, DE (e a) (e b) → a = b) : InjA (aD e) := fun a b x => h a b (ale_c x)
theorem aG_inj {α : Type} {e : α → List D} (h : ∀ a b, DEs (e a) (e b) → a = b) : InjA (aG e) := fun a b x => h a b (ale_agg x)
theorem vI_inj : InjA vI := fun a b x => by have := dv_inj (ale_c x); simpa using this
instance : Inhabited ByteArray := ⟨⟨#[]⟩⟩
/-! arguments, opened -/
theorem list_of {α : Type} (d : α) (R : Nat → α → Prop) : ∀ (n : Nat), (∀ i, i < n → ∃ x, R i x) → ∃ l : List α, l.length = n ∧ ∀ i, i < n → R i (l.getD i d)
  | 0, _ => ⟨[], rfl, fun i h => by omega⟩
  | n + 1, h => by
    obtain ⟨l, hl, hr⟩ := list_of d R n (fun i hi => h i (by omega))
    obtain ⟨x, hx⟩ := h n (by omega)
    refine ⟨l ++ [x], by simp [hl], fun i hi => ?_⟩
    by_cases e : i < n
    · have := hr i e
      rwa [List.getD_eq_getElem?_getD, List.getElem?_append_left (by omega), ← List.getD_eq_getElem?_getD]
    · have : i = n := by omega
      subst this
      rw [List.getD_eq_getElem?_getD, List.getElem?_append_right (by omega), hl]
      simpa using hx
def lenOk {α : Type} (l : List α) : Bool := decide (l.length ≤ 9223372036854775807)
theorem lenOk_le {α : Type} {l : List α} (h : lenOk l = true) : l.length ≤ 9223372036854775807 := by unfold lenOk at h; simpa using h
theorem maxLen_le : maxLen ≤ 9223372036854775807 := by unfold maxLen; omega
theorem shp_list {P : Program} {t e : TypeId} {ds : List D} {β : Type} {c : β → List D} {d0 : β} {sz : Nat} {ok : β → Bool} (hu : P.underlying t = some (.slice e)) (hc : P.cellsOf e = sz)
    (ho : ∀ ds, Shp P e ds → ∃ x, DEs ds (c x) ∧ ok x = true) (h : Shp P t ds) : ∃ (d : D) (l : List β), ds = [d] ∧ DE d (listD sz c d0 l) ∧ lenOk l = true ∧ l.all ok = true := by
  obtain ⟨n, f, rfl, hn, hf⟩ := h.sl_inv hu
  obtain ⟨l, hl, hr⟩ := list_of d0 (fun i x => DEs (f i) (c x) ∧ ok x = true) n (fun i hi => ho _ (hf i hi))
  subst hl
  have hM := maxLen_le
  refine ⟨_, l, rfl, ?_, ?_, ?_⟩
  · rw [hc]; exact .sls fun i hi => (hr i hi).1
  · unfold lenOk; rw [decide_eq_true (by omega)]
  · rw [List.all_eq_true]
    intro x hx
    obtain ⟨i, hi, he⟩ := List.getElem_of_mem hx
    have := (hr i hi).2
    rwa [List.getD_eq_getElem?_getD, List.getElem?_eq_getElem hi, he] at this
theorem ale_of_des {a b : List D} (h : DEs a b) : Ale (.agg (a.map .d)) (.agg (b.map .d)) := by
  show Csle _ _
  refine ⟨by simpa using h.1, fun j d e hd he => ?_⟩
  rw [List.getElem?_map] at hd he
  cases h1 : a[j]? with
  | none => rw [h1] at hd; cases hd
  | some x =>
    cases h2 : b[j]? with
    | none => rw [h2] at he; cases he
    | some y => rw [h1] at hd; rw [h2] at he; cases hd; cases he; exact h.2 j x y h1 h2
end Go.Eb
namespace Go.Eb
open Go.RowKit
def ansM (ok : List AV → Hp → Bool) (r : List AV → Hp → AV) (H' : List AV → Hp → Hp) : (R : Type) → List AV → Hp → (AV → Hp → Option (T R)) → Option (T R) := fun _ args H k =>
  bif ok args H then k (r args H) (H' args H) else none
theorem AnsS.mg {P : Program} {f : FuncId} {ok : List AV → Hp → Bool} {r : List AV → Hp → AV} {H' : List AV → Hp → Hp} (hc : ∀ x H, ok x H = true → CX P f x H (r x H) (H' x H)) : AnsS P f (ansM ok r H') := by
  refine ⟨fun R args H k t h => ?_, fun args H => ?_⟩
  · unfold ansM at h
    cases hb : ok args H with
    | false => rw [hb] at h; cases h
    | true => rw [hb] at h; exact ⟨_, _, h, hc args H hb⟩
  · unfold ansM
    exact .bif _ (.one _ _ fun R k => rfl) (.no fun R k => rfl)
section
variable {α : Type} [Inhabited α]
noncomputable def okY (enc : α → List AV × Hp) (x : List AV) (H : Hp) : Bool := @decide (∃ a, Asle x (enc a).1 ∧ Hle H (enc a).2) (Classical.propDecidable _)
noncomputable def theY (enc : α → List AV × Hp) (x : List AV) (H : Hp) : α := @dite _ (∃ a, Asle x (enc a).1 ∧ Hle H (enc a).2) (Classical.propDecidable _) (fun h => Classical.choose h) (fun _ => default)
omit [Inhabited α] in
theorem okY_iff {enc : α → List AV × Hp} {x : List AV} {H : Hp} : okY enc x H = true ↔ ∃ a, Asle x (enc a).1 ∧ Hle H (enc a).2 := by unfold okY; simp
theorem theY_le {enc : α → List AV × Hp} {x : List AV} {H : Hp} (h : okY enc x H = true) : Asle x (enc (theY enc x H)).1 ∧ Hle H (enc (theY enc x H)).2 := by
  have h' := okY_iff.1 h
  unfold theY
  rw [dif_pos h']
  exact Classical.choose_spec h'
def InjY (enc : α → List AV × Hp) : Prop := ∀ a b, Asle (enc a).1 (enc b).1 → Hle (enc a).2 (enc b).2 → a = b
noncomputable def okZ (enc : α → List AV × Hp) (c : α → Bool) (x : List AV) (H : Hp) : Bool := okY enc x H && c (theY enc x H)
omit [Inhabited α] in
theorem okY_enc {enc : α → List AV × Hp} (a : α) : okY enc (enc a).1 (enc a).2 = true := okY_iff.2 ⟨a, .refl _, .refl _⟩
theorem theY_enc {enc : α → List AV × Hp} (inj : InjY enc) (a : α) : theY enc (enc a).1 (enc a).2 = a := (inj _ _ (theY_le (okY_enc a)).1 (theY_le (okY_enc a)).2).symm
theorem okZ_enc {enc : α → List AV × Hp} (inj : InjY enc) {c : α → Bool} (a : α) (h : c a = true) : okZ enc c (enc a).1 (enc a).2 = true := by
  unfold okZ; rw [okY_enc, theY_enc inj, h]; rfl
theorem AnsS.m {P : Program} {f : FuncId} {enc : α → List AV × Hp} {c : α → Bool} {r : α → AV} {H' : α → Hp} (hc : ∀ a, c a = true → CX P f (enc a).1 (enc a).2 (r a) (H' a)) :
    AnsS P f (ansM (okZ enc c) (fun x H => r (theY enc x H)) fun x H => H' (theY enc x H)) := .mg fun x H h => by
  unfold okZ at h
  simp only [Bool.and_eq_true] at h
  exact (hc _ h.2).ge (theY_le h.1).1 (theY_le h.1).2
end
theorem hle_look {H K : Hp} (h : Hle H K) (n : Nat) {a b : Blk} (h1 : look H n = some a) (h2 : look K n = some b) : Ble a b := by
  have := h n
  rw [h1, h2] at this
  exact this
theorem ble_map {a b : Nat} {l l' : List (Value × Value)} (h : Ble (.map a l) (.map b l')) : l = l' := by
  have h : Blk.map a l = Blk.map b l' := h
  injection h
theorem ble_cells {a b : List C} {t u : TypeId} (h : Ble (.cells a t) (.cells b u)) : Csle a b := h.2
/-! numbers in a map -/
def mapIn (l : List Int) : List (Value × Value) := l.reverse.map fun n => (.int .i64 n, .bool true)
theorem mapIn_app (l : List Int) (n : Int) : mapIn (l ++ [n]) = (.int .i64 n, .bool true) :: mapIn l := by simp [mapIn]
theorem assoc_mapIn (l : List Int) (n : Int) : boolOf (assoc (mapIn l) (.int .i64 n)) = l.any fun m => n == m := by
  have key : ∀ l : List Int, boolOf (assoc (l.map fun n => (Value.int .i64 n, Value.bool true)) (.int .i64 n)) = l.any fun m => n == m := by
    intro l
    induction l with
    | nil => rfl
    | cons m r ih =>
      simp only [List.map_cons, assoc, sameK, List.any_cons]
      cases (n == m) with
      | true => rfl
      | false => simp only [cond_false, Bool.false_or]; exact ih
  unfold mapIn
  rw [key, List.any_reverse]
theorem mapIn_inj {a b : List Int} (h : mapIn a = mapIn b) : a = b := by
  unfold mapIn at h
  have h2 := (List.map_inj_right (f := fun n : Int => (Value.int .i64 n, Value.bool true)) (fun x y e => by simpa using e)).1 h
  exact List.reverse_inj.1 h2
end Go.Eb
namespace Go.Eb
open Go.RowKit
structure SLine where
  name : ByteArray
  r1 : Int
  x1 : Int
  r0 : Int
  x0 : Int
structure SSrc where
  name : ByteArray
  emf : Int
  r1 : Int
  x1 : Int
  r0 : Int
  x0 : Int
structure SLink where
  bus : Int
  pos : Int
structure SBay where
  name : ByteArray
  kind : Int
  off : Int
  fin : Int
  zr : Int
  zx : Int
  links : List SLink
  closed : Bool
  ct : Int
  vt : Int
  sat : Int
  travel : Int
structure SSta where
  name : ByteArray
  buses : List ByteArray
  lines : List SLine
  srcs : List SSrc
  bays : List SBay
abbrev dS (s : ByteArray) : D := .v (.string s)
abbrev dI (n : Int) : D := .v (.int .i64 n)
abbrev dB (b : Bool) : D := .v (.bool b)
def e0 : ByteArray := ⟨#[]⟩
def line0 : SLine := ⟨e0, 0, 0, 0, 0⟩
def src0 : SSrc := ⟨e0, 0, 0, 0, 0, 0⟩
def link0 : SLink := ⟨0, 0⟩
def bay0 : SBay := ⟨e0, 0, 0, 0, 0, 0, [], false, 0, 0, 0, 0⟩
def lineC (l : SLine) : List D := [dS l.name, dI l.r1, dI l.x1, dI l.r0, dI l.x0]
def srcC' (l : SSrc) : List D := [dS l.name, dI l.emf, dI l.r1, dI l.x1, dI l.r0, dI l.x0]
def linkC (l : SLink) : List D := [dI l.bus, dI l.pos]
abbrev linksD (l : List SLink) : D := listD 2 linkC link0 l
def bayC (b : SBay) : List D := [dS b.name, dI b.kind, dI b.off, dI b.fin, dI b.zr, dI b.zx, linksD b.links, dB b.closed, dI b.ct, dI b.vt, dI b.sat, dI b.travel]
def busC (s : ByteArray) : List D := [dS s]
abbrev busesD (l : List ByteArray) : D := listD 1 busC e0 l
abbrev linesD (l : List SLine) : D := listD 5 lineC line0 l
abbrev srcsD (l : List SSrc) : D := listD 6 srcC' src0 l
abbrev baysD (l : List SBay) : D := listD 12 bayC bay0 l
def staC (s : SSta) : List D := [dS s.name, busesD s.buses, linesD s.lines, srcsD s.srcs, baysD s.bays]
instance : Inhabited SLine := ⟨line0⟩
instance : Inhabited SSrc := ⟨src0⟩
instance : Inhabited SBay := ⟨bay0⟩
theorem dS_inj {a b : ByteArray} (h : DE (dS a) (dS b)) : a = b := by have := dv_inj h; simpa using this
theorem dI_inj {a b : Int} (h : DE (dI a) (dI b)) : a = b := by have := dv_inj h; simpa using this
theorem dB_inj {a b : Bool} (h : DE (dB a) (dB b)) : a = b := by have := dv_inj h; simpa using this
theorem busC_inj (a b : ByteArray) (h : DEs (busC a) (busC b)) : a = b := dS_inj (h.2 0 _ _ rfl rfl)
theorem lineC_inj (a b : SLine) (h : DEs (lineC a) (lineC b)) : a = b := by
  cases a; cases b
  have h0 := dS_inj (h.2 0 _ _ rfl rfl)
  have h1 := dI_inj (h.2 1 _ _ rfl rfl)
  have h2 := dI_inj (h.2 2 _ _ rfl rfl)
  have h3 := dI_inj (h.2 3 _ _ rfl rfl)
  have h4 := dI_inj (h.2 4 _ _ rfl rfl)
  simp only at h0 h1 h2 h3 h4
  rw [h0, h1, h2, h3, h4]
theorem srcC_inj (a b : SSrc) (h : DEs (srcC' a) (srcC' b)) : a = b := by
  cases a; cases b
  have h0 := dS_inj (h.2 0 _ _ rfl rfl)
  have h1 := dI_inj (h.2 1 _ _ rfl rfl)
  have h2 := dI_inj (h.2 2 _ _ rfl rfl)
  have h3 := dI_inj (h.2 3 _ _ rfl rfl)
  have h4 := dI_inj (h.2 4 _ _ rfl rfl)
  have h5 := dI_inj (h.2 5 _ _ rfl rfl)
  simp only at h0 h1 h2 h3 h4 h5
  rw [h0, h1, h2, h3, h4, h5]
theorem linkC_inj (a b : SLink) (h : DEs (linkC a) (linkC b)) : a = b := by
  cases a; cases b
  have h0 := dI_inj (h.2 0 _ _ rfl rfl)
  have h1 := dI_inj (h.2 1 _ _ rfl rfl)
  simp only at h0 h1
  rw [h0, h1]
theorem bayC_inj (a b : SBay) (h : DEs (bayC a) (bayC b)) : a = b := by
  cases a; cases b
  have h0 := dS_inj (h.2 0 _ _ rfl rfl)
  have h1 := dI_inj (h.2 1 _ _ rfl rfl)
  have h2 := dI_inj (h.2 2 _ _ rfl rfl)
  have h3 := dI_inj (h.2 3 _ _ rfl rfl)
  have h4 := dI_inj (h.2 4 _ _ rfl rfl)
  have h5 := dI_inj (h.2 5 _ _ rfl rfl)
  have h6 := listD_inj linkC_inj _ _ (h.2 6 _ _ rfl rfl)
  have h7 := dB_inj (h.2 7 _ _ rfl rfl)
  have h8 := dI_inj (h.2 8 _ _ rfl rfl)
  have h9 := dI_inj (h.2 9 _ _ rfl rfl)
  have h10 := dI_inj (h.2 10 _ _ rfl rfl)
  have h11 := dI_inj (h.2 11 _ _ rfl rfl)
  simp only at h0 h1 h2 h3 h4 h5 h6 h7 h8 h9 h10 h11
  rw [h0, h1, h2, h3, h4, h5, h6, h7, h8, h9, h10, h11]
theorem staC_inj (a b : SSta) (h : DEs (staC a) (staC b)) : a = b := by
  cases a; cases b
  have h0 := dS_inj (h.2 0 _ _ rfl rfl)
  have h1 := listD_inj busC_inj _ _ (h.2 1 _ _ rfl rfl)
  have h2 := listD_inj lineC_inj _ _ (h.2 2 _ _ rfl rfl)
  have h3 := listD_inj srcC_inj _ _ (h.2 3 _ _ rfl rfl)
  have h4 := listD_inj bayC_inj _ _ (h.2 4 _ _ rfl rfl)
  simp only at h0 h1 h2 h3 h4
  rw [h0, h1, h2, h3, h4]
instance : Inhabited SSta := ⟨⟨e0, [], [], [], []⟩⟩
abbrev aSta (s : SSta) : AV := .agg ((staC s).map .d)
abbrev aBay (b : SBay) : AV := .agg ((bayC b).map .d)
/-! forms -/
abbrev RBay := ByteArray × Int × Int × Int × Int × Int × D × Bool × Int × Int × Int × Int × Unit
def bayD : Dec (List C) RBay := .cons .str (.cons .i64 (.cons .i64 (.cons .i64 (.cons .i64 (.cons .i64 (.cons .data (.cons .bool (.cons .i64 (.cons .i64 (.cons .i64 (.cons .i64 .nil)))))))))))
abbrev RSta := ByteArray × D × D × D × D × Unit
def staD : Dec (List C) RSta := .cons .str (.cons .data (.cons .data (.cons .data (.cons .data .nil))))
instance : Inhabited SLink := ⟨link0⟩
noncomputable def okLk (x : D) : Bool := okE linksD x && decide ((theE linksD x).length ≤ 9223372036854775807)
noncomputable def rbay (x : RBay) : SBay := ⟨x.1, x.2.1, x.2.2.1, x.2.2.2.1, x.2.2.2.2.1, x.2.2.2.2.2.1, theE linksD x.2.2.2.2.2.2.1, x.2.2.2.2.2.2.2.1, x.2.2.2.2.2.2.2.2.1, x.2.2.2.2.2.2.2.2.2.1, x.2.2.2.2.2.2.2.2.2.2.1, x.2.2.2.2.2.2.2.2.2.2.2.1⟩
def bayR (b : SBay) : RBay := (b.name, b.kind, b.off, b.fin, b.zr, b.zx, linksD b.links, b.closed, b.ct, b.vt, b.sat, b.travel, ())
noncomputable def okRB (x : RBay) : Bool := okLk x.2.2.2.2.2.2.1
theorem okLk_links {l : List SLink} (h : l.length ≤ 9223372036854775807) : okLk (linksD l) = true := by
  unfold okLk
  rw [(the_list linkC_inj l).1, (the_list linkC_inj l).2]
  simp only [Bool.true_and]
  exact decide_eq_true h
theorem rbay_bayR (b : SBay) : rbay (bayR b) = b := by
  unfold rbay bayR
  simp only [(the_list linkC_inj b.links).2]
theorem bay_le (x : RBay) (h : okRB x = true) : Ale (.agg (bayD.enc x)) (aBay (rbay x)) := by
  unfold okRB okLk at h
  simp only [Bool.and_eq_true] at h
  exact .cons (.refl _) (.cons (.refl _) (.cons (.refl _) (.cons (.refl _) (.cons (.refl _) (.cons (.refl _) (.cons (theE_de h.1) (.cons (.refl _) (.cons (.refl _) (.cons (.refl _) (.cons (.refl _) (.cons (.refl _) .nil)))))))))))
/-! Check -/
def letterB (c : UInt8) : Bool := (decide (65 ≤ (c.toNat : Int)) && decide ((c.toNat : Int) ≤ 90)) || (decide (97 ≤ (c.toNat : Int)) && decide ((c.toNat : Int) ≤ 122))
def otherB (c : UInt8) : Bool := (decide (48 ≤ (c.toNat : Int)) && decide ((c.toNat : Int) ≤ 57)) || (c.toNat : Int) == 95
def nmT : Nat → List UInt8 → Bool
  | _, [] => true
  | i, c :: r => (letterB c || (i != 0 && otherB c)) && nmT (i + 1) r
def nameOk (s : ByteArray) : Bool := !((s.size : Int) == 0) && (!decide ((s.size : Int) > 12) && nmT 0 s.data.toList)
def inB (l : List ByteArray) (s : ByteArray) : Bool := l.any fun t => s.data.toList == t.data.toList
def namErr (l : List ByteArray) (s : ByteArray) : Int := bif !nameOk s then 7 else bif inB l s then 8 else 0
def within (n lo hi : Int) : Bool := decide (n ≥ lo) && decide (n ≤ hi)
def impOk (r x : Int) : Bool := within r 0 1000 && within x 1 1000
def lineErr (l : List ByteArray) (x : SLine) : Int := bif namErr l x.name != 0 then namErr l x.name else bif impOk x.r1 x.x1 && impOk x.r0 x.x0 then 0 else 2
def srcErr (l : List ByteArray) (x : SSrc) : Int := bif namErr l x.name != 0 then namErr l x.name else bif within x.emf 1 1000000 && (impOk x.r1 x.x1 && impOk x.r0 x.x0) then 0 else 2
def cntOf (nl ns : Nat) (k : Int) : Option Int := bif k == 1 then some nl else bif k == 2 then some ns else bif k == 3 then some 1 else none
def rngOk (b : SBay) : Bool :=
  (bif b.kind == 3 then impOk b.zr b.zx && b.vt == 0 else (b.zr == 0 && b.zx == 0) && within b.vt 1 10000) &&
    (within b.fin 0 (bif b.kind == 1 then 1 else 0) && (within b.ct 1 100 && (within b.sat 0 16383 && within b.travel 1 6)))
def clash (x y : SBay) : Bool := x.kind != 3 && (x.kind == y.kind && (x.off == y.off && x.fin == y.fin))
def linkErr (nb : Nat) (k : Int) : Option Int → List SLink → Int
  | _, [] => 0
  | p, l :: r => bif !within l.bus 0 ((nb : Int) - 1) then 9 else bif l.pos != 1 && (l.pos != 0 || k == 3) then 16 else bif p == some l.bus then 12 else linkErr nb k (some l.bus) r
def linksErr (nb : Nat) (b : SBay) : Int := bif decide (b.links.length < 1) || (decide (2 < b.links.length) || (b.kind == 3 && b.links.length != 2)) then 3 else linkErr nb b.kind none b.links
def bayErrD (nb nl ns : Nat) (dup : Bool) (before : List SBay) (b : SBay) : Int :=
  bif !nameOk b.name then 7 else bif dup then 8 else match cntOf nl ns b.kind with
    | none => 10
    | some c => bif !within b.off 0 (c - 1) then 9 else bif !rngOk b then 2 else bif before.any (clash b) then 12 else linksErr nb b
def bayErr (nb nl ns : Nat) (l : List ByteArray) (before : List SBay) (b : SBay) : Int := bayErrD nb nl ns (inB l b.name) before b
def takeN {α : Type} (nm : α → ByteArray) (f : List ByteArray → List α → α → Int) (N : List ByteArray) : List α → List α → Int × List α
  | before, [] => (0, before)
  | before, x :: r => bif f (N ++ before.map nm) before x != 0 then (f (N ++ before.map nm) before x, before) else takeN nm f N (before ++ [x]) r
theorem takeN_ok {α : Type} {nm : α → ByteArray} {f : List ByteArray → List α → α → Int} {N : List ByteArray} : ∀ (before l : List α), (takeN nm f N before l).1 = 0 → (takeN nm f N before l).2 = before ++ l
  | before, [], _ => by simp [takeN]
  | before, x :: r, h => by
    simp only [takeN] at h ⊢
    cases e : (f (N ++ before.map nm) before x != 0) with
    | true => rw [e] at h; simp only [cond_true] at h; rw [h] at e; simp at e
    | false => rw [e] at h; simp only [cond_false] at h ⊢; rw [takeN_ok _ r h]; simp
def tBus (l : List ByteArray) := takeN id (fun N _ x => namErr N x) [] [] l
def tLine (N : List ByteArray) (l : List SLine) := takeN SLine.name (fun N _ x => lineErr N x) N [] l
def tSrc (N : List ByteArray) (l : List SSrc) := takeN SSrc.name (fun N _ x => srcErr N x) N [] l
def tBay (nb nl ns : Nat) (N : List ByteArray) (l : List SBay) := takeN SBay.name (fun N before x => bayErr nb nl ns N before x) N [] l
def cntBad (s : SSta) : Bool := s.buses.length == 0 || (decide (4 < s.buses.length) || (decide (6 < s.lines.length) || (decide (4 < s.srcs.length) || decide (16 < s.bays.length))))
def chkSta (s : SSta) : Int :=
  bif !nameOk s.name then 7 else
  bif cntBad s then 3 else
  bif (tBus s.buses).1 != 0 then (tBus s.buses).1 else
  bif (tLine s.buses s.lines).1 != 0 then (tLine s.buses s.lines).1 else
  bif (tSrc (s.buses ++ s.lines.map SLine.name) s.srcs).1 != 0 then (tSrc (s.buses ++ s.lines.map SLine.name) s.srcs).1 else
  (tBay s.buses.length s.lines.length s.srcs.length (s.buses ++ s.lines.map SLine.name ++ s.srcs.map SSrc.name) s.bays).1
/-! names in a map -/
def mapOf (l : List ByteArray) : List (Value × Value) := l.reverse.map fun s => (.string s, .bool true)
theorem mapOf_app (l : List ByteArray) (s : ByteArray) : mapOf (l ++ [s]) = (.string s, .bool true) :: mapOf l := by simp [mapOf]
theorem assoc_map (s : ByteArray) : ∀ l : List ByteArray, boolOf (assoc (l.map fun s => (Value.string s, Value.bool true)) (.string s)) = l.any fun t => s.data.toList == t.data.toList
  | [] => rfl
  | t :: r => by
    simp only [List.map_cons, assoc, sameK, List.any_cons]
    cases (s.data.toList == t.data.toList) with
    | true => rfl
    | false => simp only [cond_false, Bool.false_or]; exact assoc_map s r
theorem assoc_mapOf (l : List ByteArray) (s : ByteArray) : boolOf (assoc (mapOf l) (.string s)) = inB l s := by
  unfold mapOf inB
  rw [assoc_map, List.any_reverse]
theorem first_loop {α : Type} {nm : α → ByteArray} {F : List ByteArray → List α → α → Int} {N : List ByteArray} {c : α → List D} {d0 : α} {l : List α} {L : Nat → List (Value × Value) → Nat → (Nat → List D) → Int → Option (T (AV × Hp))}
    {HX : List (Value × Value) → Nat → (Nat → List D) → Hp}
    (hst : ∀ (m k : Nat) (before : List α) (f : Nat → List D), k < l.length → before.length = k → RL c d0 k f before → ∃ f1 f2, RL c d0 (k + 1) f1 (before ++ [l.getD k d0]) ∧ RL c d0 k f2 before ∧ L (m + 1) (mapOf (N ++ before.map nm)) k f k =
      bif F (N ++ before.map nm) before (l.getD k d0) != 0 then some (.leaf (vI (F (N ++ before.map nm) before (l.getD k d0)), HX (mapOf (N ++ before.map nm)) k f2))
      else L m ((.string (nm (l.getD k d0)), .bool true) :: mapOf (N ++ before.map nm)) (k + 1) f1 ((k + 1 : Nat) : Int))
    (hend : ∀ m mp n f, L (m + 1) mp n f l.length = some (.leaf (vI 0, HX mp n f))) :
    ∀ (m k : Nat) (before : List α) (f : Nat → List D), k ≤ l.length → l.length - k < m → before.length = k → RL c d0 k f before →
      ∃ f', RL c d0 (takeN nm F N before (l.drop k)).2.length f' (takeN nm F N before (l.drop k)).2 ∧
        L m (mapOf (N ++ before.map nm)) k f k = some (.leaf (vI (takeN nm F N before (l.drop k)).1, HX (mapOf (N ++ (takeN nm F N before (l.drop k)).2.map nm)) (takeN nm F N before (l.drop k)).2.length f'))
  | 0, k, before, f, _, h, _, _ => by omega
  | m + 1, k, before, f, hk, h, hb, hr => by
    by_cases e : k = l.length
    · subst e
      rw [List.drop_of_length_le (Nat.le_refl _)]
      simp only [takeN]
      rw [hend, hb]
      exact ⟨f, hr, rfl⟩
    · have hlt : k < l.length := by omega
      obtain ⟨f1, f2, hr1, hr2, hst1⟩ := hst m k before f hlt hb hr
      rw [hst1, drop_at' (d := d0) hlt]
      simp only [takeN]
      cases hF : (F (N ++ before.map nm) before (l.getD k d0) != 0) with
      | true =>
        simp only [cond_true]
        rw [hb]
        exact ⟨f2, hr2, rfl⟩
      | false =>
        simp only [cond_false]
        have ih := first_loop hst hend m (k + 1) (before ++ [l.getD k d0]) f1 (by omega) (by omega) (by simp [hb]) hr1
        have e1 : N ++ (before ++ [l.getD k d0]).map nm = (N ++ before.map nm) ++ [nm (l.getD k d0)] := by simp
        rw [e1, mapOf_app] at ih
        exact ih
theorem mapOf_inj {a b : List ByteArray} (h : mapOf a = mapOf b) : a = b := by
  unfold mapOf at h
  have h2 := (List.map_inj_right (f := fun s : ByteArray => (Value.string s, Value.bool true)) (fun x y e => by simpa using e)).1 h
  exact List.reverse_inj.1 h2
noncomputable def okM (mp : List (Value × Value)) : Bool := @decide (∃ N, mp = mapOf N) (Classical.propDecidable _)
noncomputable def theM (mp : List (Value × Value)) : List ByteArray := @dite _ (∃ N, mp = mapOf N) (Classical.propDecidable _) (fun h => Classical.choose h) (fun _ => [])
theorem theM_spec {mp : List (Value × Value)} (h : okM mp = true) : mp = mapOf (theM mp) := by
  have h' : ∃ N, mp = mapOf N := by unfold okM at h; simpa using h
  unfold theM
  rw [dif_pos h']
  exact Classical.choose_spec h'
theorem okM_mapOf (N : List ByteArray) : okM (mapOf N) = true := by unfold okM; simp; exact ⟨N, rfl⟩
theorem theM_mapOf (N : List ByteArray) : theM (mapOf N) = N := (mapOf_inj (theM_spec (okM_mapOf N))).symm
end Go.Eb
namespace Go.Eb
open Go.RowKit
def lksOk (l : List SBay) : Bool := l.all fun b => decide (b.links.length ≤ 9223372036854775807)
theorem lksOk_get {l : List SBay} (h : lksOk l = true) (i : Nat) (hi : i < l.length) : (l.getD i bay0).links.length ≤ 9223372036854775807 := by
  unfold lksOk at h
  rw [List.all_eq_true] at h
  have := h (l.getD i bay0) (by rw [List.getD_eq_getElem?_getD, List.getElem?_eq_getElem hi]; simp)
  simpa using this
def okSta (s : SSta) : Bool := lenOk s.buses && (lenOk s.lines && (lenOk s.srcs && (lenOk s.bays && s.bays.all fun b => lenOk b.links)))
theorem okSta_len {s : SSta} (h : okSta s = true) : s.buses.length ≤ 9223372036854775807 ∧ s.lines.length ≤ 9223372036854775807 ∧ s.srcs.length ≤ 9223372036854775807 ∧ s.bays.length ≤ 9223372036854775807 ∧ lksOk s.bays = true := by
  unfold okSta lenOk at h
  simp only [Bool.and_eq_true, decide_eq_true_eq] at h
  exact ⟨h.1, h.2.1, h.2.2.1, h.2.2.2.1, h.2.2.2.2⟩
theorem aSta_inj : InjA aSta := aG_inj staC_inj
end Go.Eb
namespace Go.Eb
open Go.RowKit
structure SRule where
  name : ByteArray
  text : ByteArray
structure SSet where
  name : ByteArray
  sigs : List ByteArray
structure SPub where
  set : ByteArray
  fst : Int
  max : Int
structure SSub where
  loc : ByteArray
  dev : ByteArray
  set : ByteArray
  sig : ByteArray
def rule0 : SRule := ⟨e0, e0⟩
def set0 : SSet := ⟨e0, []⟩
def pub0 : SPub := ⟨e0, 0, 0⟩
def sub0 : SSub := ⟨e0, e0, e0, e0⟩
instance : Inhabited SRule := ⟨rule0⟩
instance : Inhabited SSet := ⟨set0⟩
instance : Inhabited SPub := ⟨pub0⟩
instance : Inhabited SSub := ⟨sub0⟩
def ruleC (x : SRule) : List D := [dS x.name, dS x.text]
def setC (x : SSet) : List D := [dS x.name, busesD x.sigs]
def pubC (x : SPub) : List D := [dS x.set, dI x.fst, dI x.max]
def subC (x : SSub) : List D := [dS x.loc, dS x.dev, dS x.set, dS x.sig]
abbrev rulesD (l : List SRule) : D := listD 2 ruleC rule0 l
abbrev setsD (l : List SSet) : D := listD 2 setC set0 l
abbrev pubsD (l : List SPub) : D := listD 3 pubC pub0 l
abbrev subsD (l : List SSub) : D := listD 4 subC sub0 l
theorem ruleC_inj (a b : SRule) (h : DEs (ruleC a) (ruleC b)) : a = b := by
  cases a; cases b
  have h0 := dS_inj (h.2 0 _ _ rfl rfl)
  have h1 := dS_inj (h.2 1 _ _ rfl rfl)
  simp only at h0 h1
  rw [h0, h1]
theorem setC_inj (a b : SSet) (h : DEs (setC a) (setC b)) : a = b := by
  cases a; cases b
  have h0 := dS_inj (h.2 0 _ _ rfl rfl)
  have h1 := listD_inj busC_inj _ _ (h.2 1 _ _ rfl rfl)
  simp only at h0 h1
  rw [h0, h1]
theorem pubC_inj (a b : SPub) (h : DEs (pubC a) (pubC b)) : a = b := by
  cases a; cases b
  have h0 := dS_inj (h.2 0 _ _ rfl rfl)
  have h1 := dI_inj (h.2 1 _ _ rfl rfl)
  have h2 := dI_inj (h.2 2 _ _ rfl rfl)
  simp only at h0 h1 h2
  rw [h0, h1, h2]
theorem subC_inj (a b : SSub) (h : DEs (subC a) (subC b)) : a = b := by
  cases a; cases b
  have h0 := dS_inj (h.2 0 _ _ rfl rfl)
  have h1 := dS_inj (h.2 1 _ _ rfl rfl)
  have h2 := dS_inj (h.2 2 _ _ rfl rfl)
  have h3 := dS_inj (h.2 3 _ _ rfl rfl)
  simp only at h0 h1 h2 h3
  rw [h0, h1, h2, h3]
structure SRel where
  name : ByteArray
  kind : Int
  bay : Int
  zon0 : Bool
  zfw0 : Bool
  zx0 : Int
  zr0 : Int
  zl0 : Int
  zd0 : Int
  zon1 : Bool
  zfw1 : Bool
  zx1 : Int
  zr1 : Int
  zl1 : Int
  zd1 : Int
  zon2 : Bool
  zfw2 : Bool
  zx2 : Int
  zr2 : Int
  zl2 : Int
  zd2 : Int
  min : Int
  kre : Int
  kim : Int
  scheme : Int
  wait : Int
  guard : Int
  don : Bool
  dpk : Int
  ddl : Int
  ion : Bool
  ipk : Int
  idl : Int
  fon : Bool
  fpk : Int
  fdl : Int
  shots : Int
  dead : Int
  reclaim : Int
  uon : Bool
  upk : Int
  udl : Int
  oon : Bool
  opk : Int
  odl : Int
  diff : Int
  num : Int
  den : Int
  harm : Int
  rules : List SRule
  sets : List SSet
  pubs : List SPub
  subs : List SSub
def rel0 : SRel := ⟨e0, 0, 0, false, false, 0, 0, 0, 0, false, false, 0, 0, 0, 0, false, false, 0, 0, 0, 0, 0, 0, 0, 0, 0, 0, false, 0, 0, false, 0, 0, false, 0, 0, 0, 0, 0, false, 0, 0, false, 0, 0, 0, 0, 0, 0, [], [], [], []⟩
instance : Inhabited SRel := ⟨rel0⟩
def relC (r : SRel) : List D := [dS r.name, dI r.kind, dI r.bay, dB r.zon0, dB r.zfw0, dI r.zx0, dI r.zr0, dI r.zl0, dI r.zd0, dB r.zon1, dB r.zfw1, dI r.zx1, dI r.zr1, dI r.zl1, dI r.zd1, dB r.zon2, dB r.zfw2, dI r.zx2, dI r.zr2, dI r.zl2, dI r.zd2, dI r.min, dI r.kre, dI r.kim, dI r.scheme, dI r.wait, dI r.guard, dB r.don, dI r.dpk, dI r.ddl, dB r.ion, dI r.ipk, dI r.idl, dB r.fon, dI r.fpk, dI r.fdl, dI r.shots, dI r.dead, dI r.reclaim, dB r.uon, dI r.upk, dI r.udl, dB r.oon, dI r.opk, dI r.odl, dI r.diff, dI r.num, dI r.den, dI r.harm, rulesD r.rules, setsD r.sets, pubsD r.pubs, subsD r.subs]
abbrev relsD (l : List SRel) : D := listD 53 relC rel0 l
abbrev aRel (r : SRel) : AV := .agg ((relC r).map .d)
theorem relC_inj (a b : SRel) (h : DEs (relC a) (relC b)) : a = b := by
  cases a; cases b
  have h0 := dS_inj (h.2 0 _ _ rfl rfl)
  have h1 := dI_inj (h.2 1 _ _ rfl rfl)
  have h2 := dI_inj (h.2 2 _ _ rfl rfl)
  have h3 := dB_inj (h.2 3 _ _ rfl rfl)
  have h4 := dB_inj (h.2 4 _ _ rfl rfl)
  have h5 := dI_inj (h.2 5 _ _ rfl rfl)
  have h6 := dI_inj (h.2 6 _ _ rfl rfl)
  have h7 := dI_inj (h.2 7 _ _ rfl rfl)
  have h8 := dI_inj (h.2 8 _ _ rfl rfl)
  have h9 := dB_inj (h.2 9 _ _ rfl rfl)
  have h10 := dB_inj (h.2 10 _ _ rfl rfl)
  have h11 := dI_inj (h.2 11 _ _ rfl rfl)
  have h12 := dI_inj (h.2 12 _ _ rfl rfl)
  have h13 := dI_inj (h.2 13 _ _ rfl rfl)
  have h14 := dI_inj (h.2 14 _ _ rfl rfl)
  have h15 := dB_inj (h.2 15 _ _ rfl rfl)
  have h16 := dB_inj (h.2 16 _ _ rfl rfl)
  have h17 := dI_inj (h.2 17 _ _ rfl rfl)
  have h18 := dI_inj (h.2 18 _ _ rfl rfl)
  have h19 := dI_inj (h.2 19 _ _ rfl rfl)
  have h20 := dI_inj (h.2 20 _ _ rfl rfl)
  have h21 := dI_inj (h.2 21 _ _ rfl rfl)
  have h22 := dI_inj (h.2 22 _ _ rfl rfl)
  have h23 := dI_inj (h.2 23 _ _ rfl rfl)
  have h24 := dI_inj (h.2 24 _ _ rfl rfl)
  have h25 := dI_inj (h.2 25 _ _ rfl rfl)
  have h26 := dI_inj (h.2 26 _ _ rfl rfl)
  have h27 := dB_inj (h.2 27 _ _ rfl rfl)
  have h28 := dI_inj (h.2 28 _ _ rfl rfl)
  have h29 := dI_inj (h.2 29 _ _ rfl rfl)
  have h30 := dB_inj (h.2 30 _ _ rfl rfl)
  have h31 := dI_inj (h.2 31 _ _ rfl rfl)
  have h32 := dI_inj (h.2 32 _ _ rfl rfl)
  have h33 := dB_inj (h.2 33 _ _ rfl rfl)
  have h34 := dI_inj (h.2 34 _ _ rfl rfl)
  have h35 := dI_inj (h.2 35 _ _ rfl rfl)
  have h36 := dI_inj (h.2 36 _ _ rfl rfl)
  have h37 := dI_inj (h.2 37 _ _ rfl rfl)
  have h38 := dI_inj (h.2 38 _ _ rfl rfl)
  have h39 := dB_inj (h.2 39 _ _ rfl rfl)
  have h40 := dI_inj (h.2 40 _ _ rfl rfl)
  have h41 := dI_inj (h.2 41 _ _ rfl rfl)
  have h42 := dB_inj (h.2 42 _ _ rfl rfl)
  have h43 := dI_inj (h.2 43 _ _ rfl rfl)
  have h44 := dI_inj (h.2 44 _ _ rfl rfl)
  have h45 := dI_inj (h.2 45 _ _ rfl rfl)
  have h46 := dI_inj (h.2 46 _ _ rfl rfl)
  have h47 := dI_inj (h.2 47 _ _ rfl rfl)
  have h48 := dI_inj (h.2 48 _ _ rfl rfl)
  have h49 := listD_inj ruleC_inj _ _ (h.2 49 _ _ rfl rfl)
  have h50 := listD_inj setC_inj _ _ (h.2 50 _ _ rfl rfl)
  have h51 := listD_inj pubC_inj _ _ (h.2 51 _ _ rfl rfl)
  have h52 := listD_inj subC_inj _ _ (h.2 52 _ _ rfl rfl)
  simp only at h0 h1 h2 h3 h4 h5 h6 h7 h8 h9 h10 h11 h12 h13 h14 h15 h16 h17 h18 h19 h20 h21 h22 h23 h24 h25 h26 h27 h28 h29 h30 h31 h32 h33 h34 h35 h36 h37 h38 h39 h40 h41 h42 h43 h44 h45 h46 h47 h48 h49 h50 h51 h52
  subst h0 h1 h2 h3 h4 h5 h6 h7 h8 h9 h10 h11 h12 h13 h14 h15 h16 h17 h18 h19 h20 h21 h22 h23 h24 h25 h26 h27 h28 h29 h30 h31 h32 h33 h34 h35 h36 h37 h38 h39 h40 h41 h42 h43 h44 h45 h46 h47 h48 h49 h50 h51 h52
  rfl
theorem aRel_inj : InjA aRel := aG_inj relC_inj
end Go.Eb
namespace Go.Eb
open Go.RowKit
abbrev lN (n : Int) : Option (T (AV × Hp)) := some (.leaf (vI n, []))
def listErr {α : Type} (valid : α → Bool) (key : α → ByteArray) (rest : α → Int) (seen : List ByteArray) : List α → Int
  | [] => 0
  | x :: r => bif !valid x then 7 else bif inB seen (key x) then 8 else bif rest x != 0 then rest x else listErr valid key rest (seen ++ [key x]) r
theorem seen_loop {α : Type} {valid : α → Bool} {key : α → ByteArray} {rest : α → Int} {l : List α} {d0 : α} {L : Nat → List (Value × Value) → Int → Option (T (AV × Hp))}
    (hst : ∀ (m k : Nat) (seen : List ByteArray), k < l.length → L (m + 1) (mapOf seen) k = bif !valid (l.getD k d0) then lN 7 else bif inB seen (key (l.getD k d0)) then lN 8 else bif rest (l.getD k d0) != 0 then lN (rest (l.getD k d0)) else L m (mapOf (seen ++ [key (l.getD k d0)])) ((k + 1 : Nat) : Int))
    (hend : ∀ m mp, L (m + 1) mp l.length = lN 0) : ∀ (m k : Nat) (seen : List ByteArray), k ≤ l.length → l.length - k < m → L m (mapOf seen) k = lN (listErr valid key rest seen (l.drop k))
  | 0, k, _, _, h => by omega
  | m + 1, k, seen, hk, h => by
    by_cases e : k = l.length
    · subst e
      rw [hend, List.drop_of_length_le (Nat.le_refl _)]
      rfl
    · have hlt : k < l.length := by omega
      rw [hst m k seen hlt, seen_loop hst hend m (k + 1) _ (by omega) (by omega), drop_at' (d := d0) hlt]
      simp only [listErr]
      cases valid (l.getD k d0) with
      | false => rfl
      | true =>
        cases inB seen (key (l.getD k d0)) with
        | true => rfl
        | false =>
          cases (rest (l.getD k d0) != 0) <;> rfl
def idxP {α : Type} (p : α → Bool) : Nat → List α → Int
  | _, [] => -1
  | i, x :: r => bif p x then (i : Int) else idxP p (i + 1) r
theorem idxP_ge {α : Type} (p : α → Bool) : ∀ (l : List α) (i : Nat), decide (idxP p i l ≥ 0) = l.any p
  | [], i => rfl
  | x :: r, i => by
    have ih := idxP_ge p r (i + 1)
    have e : idxP p i (x :: r) = bif p x then (i : Int) else idxP p (i + 1) r := rfl
    rw [List.any_cons, ← ih, Bool.eq_iff_iff, Bool.or_eq_true, decide_eq_true_eq, decide_eq_true_eq, e]
    cases p x with
    | true => simp
    | false => simp
theorem idx_loop {α : Type} {p : α → Bool} {l : List α} {d0 : α} {L : Nat → Int → Option (T (AV × Hp))}
    (hst : ∀ (m k : Nat), k < l.length → L (m + 1) k = bif p (l.getD k d0) then lN k else L m ((k + 1 : Nat) : Int)) (hend : ∀ m, L (m + 1) l.length = lN (-1)) :
    ∀ (m k : Nat), k ≤ l.length → l.length - k < m → L m k = lN (idxP p k (l.drop k))
  | 0, k, _, h => by omega
  | m + 1, k, hk, h => by
    by_cases e : k = l.length
    · subst e
      rw [hend, List.drop_of_length_le (Nat.le_refl _)]
      rfl
    · have hlt : k < l.length := by omega
      rw [hst m k hlt, idx_loop hst hend m (k + 1) (by omega) (by omega), drop_at' (d := d0) hlt]
      simp only [idxP]
      cases p (l.getD k d0) <;> rfl
theorem name_loop {α : Type} {nm : α → ByteArray} {l : List α} {d0 : α} {L : Nat → List (Value × Value) → Int → Option (T (AV × Hp))} {NX : List (Value × Value) → Option (T (AV × Hp))}
    (hst : ∀ (m k : Nat) (N : List ByteArray), k < l.length → L (m + 1) (mapOf N) k = L m (mapOf (N ++ [nm (l.getD k d0)])) ((k + 1 : Nat) : Int)) (hend : ∀ m mp, L (m + 1) mp l.length = NX mp) :
    ∀ (m k : Nat) (N : List ByteArray), k ≤ l.length → l.length - k < m → L m (mapOf N) k = NX (mapOf (N ++ (l.drop k).map nm))
  | 0, k, _, _, h => by omega
  | m + 1, k, N, hk, h => by
    by_cases e : k = l.length
    · subst e
      rw [hend, List.drop_of_length_le (Nat.le_refl _)]
      simp
    · have hlt : k < l.length := by omega
      rw [hst m k N hlt, name_loop hst hend m (k + 1) _ (by omega) (by omega), drop_at' (d := d0) hlt]
      simp
def badByte (c : UInt8) : Bool := decide ((c.toNat : Int) < 32) || (decide ((c.toNat : Int) > 126) || (c.toNat : Int) == 34)
def textErr (s : ByteArray) : Int := bif decide (120 < s.size) then 4 else bif s.data.toList.any badByte then 5 else 0
def okSet (x : SSet) : Bool := lenOk x.sigs
def okRel (r : SRel) : Bool := lenOk r.rules && (lenOk r.sets && (lenOk r.pubs && (lenOk r.subs && r.sets.all okSet)))
theorem all_getD {α : Type} {p : α → Bool} {l : List α} {d : α} (h : l.all p = true) (hd : p d = true) (i : Nat) : p (l.getD i d) = true := by
  by_cases hi : i < l.length
  · rw [List.all_eq_true] at h
    exact h _ (by simp [List.getD, hi])
  · have : l.getD i d = d := by simp [List.getD, hi]
    rw [this]; exact hd
end Go.Eb
namespace Go.Eb
open Go.RowKit
theorem Asle.trans {a b c : List AV} (h : Asle a b) (k : Asle b c) : Asle a c := by
  refine ⟨h.1.trans k.1, fun i x z h1 h3 => ?_⟩
  have hlt : i < b.length := by rw [← h.1]; exact (List.getElem?_eq_some_iff.1 h1).1
  exact (h.2 i x _ h1 (List.getElem?_eq_getElem hlt)).trans (k.2 i _ z (List.getElem?_eq_getElem hlt) h3)
section
variable {α : Type} [Inhabited α] {enc : α → List AV}
theorem theT_of (inj : InjT enc) {x : List AV} {a : α} (h1 : Asle x (enc a)) (h2 : Asle (enc a) x) : theT enc x = a :=
  (inj _ _ (h2.trans (theT_le (okX_iff.2 ⟨a, h1⟩)))).symm
theorem okG_of (inj : InjT enc) {x : List AV} {a : α} {c : α → Bool} (h1 : Asle x (enc a)) (h2 : Asle (enc a) x) (h : c a = true) : okG enc c x = true := by
  unfold okG
  rw [theT_of inj h1 h2, okX_iff.2 ⟨a, h1⟩, h]; rfl
end
def plainC : C → Bool
  | .d (.v _) => true
  | _ => false
def plainA : AV → Bool
  | .c x => plainC x
  | .agg cs => cs.all plainC
  | .tup ps => ps.all fun p => p.2.all plainC
  | .u => true
section
variable {β β' : Bt} {w w' : World} {I I' : Im}
theorem plainC_ok {x : C} {v : Value} (h : plainC x = true) (hx : RepC β w I x v) : RepC β' w' I' x v := by
  match x, h with
  | .d (.v y), _ =>
    have hx : RepD w I (.v y) v := hx
    cases hx with
    | v _ h1 => exact RepD.v _ h1
theorem plainCs_ok {cs : List C} {vs : List Value} (h : cs.all plainC = true) (hx : RepCs β w I cs vs) : RepCs β' w' I' cs vs := by
  refine ⟨hx.1, fun i c v h1 h2 => plainC_ok ?_ (hx.2 i c v h1 h2)⟩
  rw [List.all_eq_true] at h
  exact h c (List.mem_of_getElem? h1)
theorem plainA_ok {x : AV} {v : Value} (h : plainA x = true) (hx : RepA β w I x v) : RepA β' w' I' x v := by
  cases x with
  | c x => exact plainC_ok h hx
  | agg cs => obtain ⟨vs, rfl, hv⟩ := hx; exact ⟨vs, rfl, plainCs_ok h hv⟩
  | tup ps =>
    obtain ⟨vs, rfl, hl, hv⟩ := hx
    refine ⟨vs, rfl, hl, fun i p x h1 h2 => ?_⟩
    have hp := hv i p x h1 h2
    have h : (ps.all fun p => p.2.all plainC) = true := h
    rw [List.all_eq_true] at h
    have hq := h p (List.mem_of_getElem? h1)
    obtain ⟨b, cs⟩ := p
    cases b with
    | true => obtain ⟨us, rfl, hu⟩ := hp; exact ⟨us, rfl, plainCs_ok hq hu⟩
    | false =>
      obtain ⟨c, hc, hu⟩ := hp
      have hc : cs = [c] := hc
      subst hc
      exact ⟨c, rfl, plainC_ok (by simpa using hq) hu⟩
  | u => trivial
end
theorem CR.lends {P : Program} {f : FuncId} {args ds : List AV} {H : Hp} {x : AV} (h : CR P f ds [] x []) (hp : plainA x = true) (hf : frzAs H args = some ds) : CR P f args H x H := by
  intro β I w vs hr ha
  have hr0 : RelH (fun _ => .free) [] (allB β I) w := by
    refine ⟨⟨(fun i j b hi => by cases hi), (fun i b hi => by cases hi), (fun i b o hi => by cases hi), (fun b o hi => ?_), hr.gl.step (fun _ _ hi => .inl hi) (fun _ _ _ => rfl)⟩, fun i _ => rfl, fun i B hB => by simp [look] at hB⟩
    rcases hi with hi | ⟨k, hk⟩
    · exact hr.old b o hi
    · exact hr.lt k b hk
  obtain ⟨hl, hreps⟩ := frzAs_ok (β' := fun _ => .free) hr args ds hf
  have ha0 : RepF (fun _ => .free) w (allB β I) ds vs := by
    refine ⟨by rw [hl]; exact ha.1, fun i y v h1 h2 => ?_⟩
    have hlt : i < args.length := by rw [← hl]; exact (List.getElem?_eq_some_iff.1 h1).1
    exact hreps i _ y v (List.getElem?_eq_getElem hlt) h1 (ha.2 i _ v (List.getElem?_eq_getElem hlt) h2)
  refine (h _ _ w vs hr0 ha0).mono fun e w' ⟨v, β', I', he, hr', hx, hE, hm⟩ => ?_
  have hblk : ∀ b, b < w.heap.size → w'.heap[b]? = w.heap[b]? := fun b hb => hE.block b hb (fun k hk => by cases hk)
  have hcell : ∀ b o, I b o → w'.cell? ⟨b, o, none⟩ = w.cell? ⟨b, o, none⟩ := fun b o hi => hE.cell b o (.inl hi)
  have hk : Keep β I w β I w' := ⟨.refl _, fun _ _ hi => hi, hcell, hE.shapes⟩
  have hpl : Place β I w' := ⟨hr.inj, fun i b hb => Nat.lt_of_lt_of_le (hr.lt i b hb) hE.size, hr.off, fun b o hi => Nat.lt_of_lt_of_le (hr.old b o hi) hE.size, hr.gl.step (fun _ _ hi => hi) hcell⟩
  refine ⟨v, β, I, he, ?_, plainA_ok hp hx, ⟨hE.os, hE.tape, hE.output, hE.size, fun b hb _ => hblk b hb, fun _ _ hi => hi, hcell, fun _ _ hi => .inl hi, fun i b hb => .inl ⟨i, hb⟩, hE.shapes⟩, .refl _⟩
  exact ⟨hpl, hr.dom, fun i B hB => (hr.blk i B hB).keep hk rfl (fun b hb => hblk b (hr.lt i b hb))⟩
theorem CX.cr {P : Program} {f : FuncId} {fn : Func} {c : Code} {args : List AV} {H : Hp} {x : AV} {H' : Hp} (hf : P.funcs[f]? = some fn) (hb : fn.body = some c) (h : CX P f args H x H') : CR P f args H x H' := by
  unfold CX at h
  rw [hf] at h
  simp only [hb, Option.isNone_some, Bool.false_eq_true, if_false] at h
  exact h
theorem CX.lends {P : Program} {f : FuncId} {fn : Func} {c : Code} {args ds : List AV} {H : Hp} {x : AV} (hf : P.funcs[f]? = some fn) (hb : fn.body = some c) (h : CX P f ds [] x []) (hp : plainA x = true) (hz : frzAs H args = some ds) : CX P f args H x H :=
  .of_cr hf hb ((h.cr hf hb).lends hp hz)
def ansL (ok : List AV → Bool) (r : List AV → AV) : (R : Type) → List AV → Hp → (AV → Hp → Option (T R)) → Option (T R) := fun _ args H k =>
  match frzAs H args with
  | some ds => bif ok ds then k (r ds) H else none
  | none => none
theorem AnsS.l {P : Program} {f : FuncId} {fn : Func} {ok : List AV → Bool} {r : List AV → AV} (hf : P.funcs[f]? = some fn) (hb : fn.body = some (bodyOf fn)) (hc : ∀ x, ok x = true → CX P f x [] (r x) [] ∧ plainA (r x) = true) : AnsS P f (ansL ok r) := by
  refine ⟨fun R args H k t h => ?_, fun args H => ?_⟩
  · unfold ansL at h
    cases hd : frzAs H args with
    | none => rw [hd] at h; cases h
    | some ds =>
      rw [hd] at h
      simp only [] at h
      cases hb' : ok ds with
      | false => rw [hb'] at h; cases h
      | true =>
        rw [hb'] at h
        obtain ⟨h1, h2⟩ := hc ds hb'
        exact ⟨_, _, h, h1.lends hf hb h2 hd⟩
  · unfold ansL
    cases frzAs H args with
    | none => exact .no fun R k => rfl
    | some ds => exact .bif _ (.one _ _ fun R k => rfl) (.no fun R k => rfl)
theorem AnsS.lt {P : Program} {f : FuncId} {fn : Func} {α : Type} [Inhabited α] {enc : α → List AV} {c : α → Bool} {r : α → AV} (hf : P.funcs[f]? = some fn) (hb : fn.body = some (bodyOf fn)) (hp : ∀ a, plainA (r a) = true)
    (hc : ∀ a, c a = true → CX P f (enc a) [] (r a) []) : AnsS P f (ansL (okG enc c) fun x => r (theT enc x)) := .l hf hb fun x h => by
  unfold okG at h
  simp only [Bool.and_eq_true] at h
  exact ⟨(hc _ h.2).ge (theT_le h.1) (.refl _), hp _⟩
/-! loops over places -/
/-! a search in a list of names -/
end Go.Eb
namespace Go.Proofs.YtngoglhlhlfknaaGreat.st
open Go.RowKit Go.Eb
noncomputable def ann15 := annOf [(4, ⟨[0, 16, 17], []⟩)]
noncomputable def L15 (s : ByteArray) (g m : Nat) (i : Int) := LK Tryz.prog Orc.nil ann15 0 g Tryz.f50 4 m ⟨frm [(0, vS s), (16, vI s.size), (17, vI i)] 0 Tryz.f50.ntmps, [], 0⟩
theorem ev15 (s : ByteArray) (g : Nat) : callC Tryz.prog Orc.nil ann15 g Tryz.f50 (bodyOf Tryz.f50) [vS s] [] =
 (bif (↑(ByteArray.size s) : Int) == (0 : Int) then some (T.leaf (AV.c (.d (.v (.bool false))), [])) else (bif decide ((↑(ByteArray.size s) : Int) > (12 : Int)) then some
 (T.leaf (AV.c (.d (.v (.bool false))), [])) else L15 s g g ((0 : Int)))) := by kernel_rfl
theorem st15 (s : ByteArray) (g m : Nat) (i : Int) : L15 s g (m + 1) i =
 (bif decide (i < (↑(ByteArray.size s) : Int)) then (bif decide ((0 : Int) ≤ i) && decide (i < (↑(ByteArray.size s) : Int)) then (bif decide ((↑(UInt8.toNat (List.getD (Array.toList
 (ByteArray.data s)) (Int.toNat i) 0)) : Int) ≥ (65 : Int)) then (bif decide ((↑(UInt8.toNat (List.getD (Array.toList (ByteArray.data s)) (Int.toNat i) 0)) : Int)
 ≤ (90 : Int)) then (bif decide ((↑(UInt8.toNat (List.getD (Array.toList (ByteArray.data s)) (Int.toNat i) 0)) : Int) ≥ (48 : Int)) then (bif decide ((↑(UInt8.toNat
 (List.getD (Array.toList (ByteArray.data s)) (Int.toNat i) 0)) : Int) ≤ (57 : Int)) then L15 s g m (IntKind.wrap .i64 (i + (1 : Int))) else L15 s g m (IntKind.wrap
 IntKind.i64 (i + (1 : Int)))) else L15 s g m (IntKind.wrap .i64 (i + (1 : Int)))) else (bif decide ((↑(UInt8.toNat (List.getD (Array.toList (ByteArray.data s)) (Int.toNat i)
 0)) : Int) ≥ (97 : Int)) then (bif decide ((↑(UInt8.toNat (List.getD (Array.toList (ByteArray.data s)) (Int.toNat i) 0)) : Int) ≥ (48 : Int)) then (bif decide
 ((↑(UInt8.toNat (List.getD (Array.toList (ByteArray.data s)) (Int.toNat i) 0)) : Int) ≤ (57 : Int)) then (bif !decide ((↑(UInt8.toNat (List.getD (Array.toList
 (ByteArray.data s)) (Int.toNat i) 0)) : Int) ≤ (122 : Int)) then (bif i == (0 : Int) then some (T.leaf (AV.c (.d (.v (.bool false))), [])) else L15 s g m
 (IntKind.wrap .i64 (i + (1 : Int)))) else L15 s g m (IntKind.wrap .i64 (i + (1 : Int)))) else (bif !decide ((↑(UInt8.toNat (List.getD (Array.toList (ByteArray.data s))
 (Int.toNat i) 0)) : Int) ≤ (122 : Int)) then (bif i == (0 : Int) then some (T.leaf (AV.c (.d (.v (.bool false))), [])) else (bif !(↑(UInt8.toNat (List.getD
 (Array.toList (ByteArray.data s)) (Int.toNat i) 0)) : Int) == (95 : Int) then some (T.leaf (AV.c (.d (.v (.bool false))), [])) else L15 s g m (IntKind.wrap
 IntKind.i64 (i + (1 : Int))))) else L15 s g m (IntKind.wrap .i64 (i + (1 : Int))))) else (bif !decide ((↑(UInt8.toNat (List.getD (Array.toList (ByteArray.data s)) (Int.toNat
 i) 0)) : Int) ≤ (122 : Int)) then (bif i == (0 : Int) then some (T.leaf (AV.c (.d (.v (.bool false))), [])) else (bif !(↑(UInt8.toNat (List.getD (Array.toList
 (ByteArray.data s)) (Int.toNat i) 0)) : Int) == (95 : Int) then some (T.leaf (AV.c (.d (.v (.bool false))), [])) else L15 s g m (IntKind.wrap .i64 (i + (1 :
 Int))))) else L15 s g m (IntKind.wrap .i64 (i + (1 : Int))))) else (bif decide ((↑(UInt8.toNat (List.getD (Array.toList (ByteArray.data s)) (Int.toNat i) 0)) : Int)
 ≥ (48 : Int)) then (bif decide ((↑(UInt8.toNat (List.getD (Array.toList (ByteArray.data s)) (Int.toNat i) 0)) : Int) ≤ (57 : Int)) then (bif i == (0 : Int) then some
 (T.leaf (AV.c (.d (.v (.bool false))), [])) else L15 s g m (IntKind.wrap .i64 (i + (1 : Int)))) else (bif i == (0 : Int) then some (T.leaf (AV.c (C.d (D.v (Value.bool
 false))), [])) else (bif !(↑(UInt8.toNat (List.getD (Array.toList (ByteArray.data s)) (Int.toNat i) 0)) : Int) == (95 : Int) then some (T.leaf (AV.c (C.d (D.v (Value.bool
 false))), [])) else L15 s g m (IntKind.wrap .i64 (i + (1 : Int)))))) else (bif i == (0 : Int) then some (T.leaf (AV.c (.d (.v (.bool false))), [])) else (bif
 !(↑(UInt8.toNat (List.getD (Array.toList (ByteArray.data s)) (Int.toNat i) 0)) : Int) == (95 : Int) then some (T.leaf (AV.c (.d (.v (.bool false))), [])) else L15 s
 g m (IntKind.wrap .i64 (i + (1 : Int)))))))) else (bif decide ((↑(UInt8.toNat (List.getD (Array.toList (ByteArray.data s)) (Int.toNat i) 0)) : Int) ≥ (97 : Int))
 then (bif decide ((↑(UInt8.toNat (List.getD (Array.toList (ByteArray.data s)) (Int.toNat i) 0)) : Int) ≥ (48 : Int)) then (bif decide ((↑(UInt8.toNat (List.getD
 (Array.toList (ByteArray.data s)) (Int.toNat i) 0)) : Int) ≤ (57 : Int)) then (bif !decide ((↑(UInt8.toNat (List.getD (Array.toList (ByteArray.data s)) (Int.toNat i) (0 :
 UInt8))) : Int) ≤ (122 : Int)) then (bif i == (0 : Int) then some (T.leaf (AV.c (.d (.v (.bool false))), [])) else L15 s g m (IntKind.wrap .i64 (i + (1 : Int)))) else
 L15 s g m (IntKind.wrap .i64 (i + (1 : Int)))) else (bif !decide ((↑(UInt8.toNat (List.getD (Array.toList (ByteArray.data s)) (Int.toNat i) 0)) : Int) ≤ (122 :
 Int)) then (bif i == (0 : Int) then some (T.leaf (AV.c (.d (.v (.bool false))), [])) else (bif !(↑(UInt8.toNat (List.getD (Array.toList (ByteArray.data s)) (Int.toNat i) (0 :
 UInt8))) : Int) == (95 : Int) then some (T.leaf (AV.c (.d (.v (.bool false))), [])) else L15 s g m (IntKind.wrap .i64 (i + (1 : Int))))) else L15 s g m (IntKind.wrap
 IntKind.i64 (i + (1 : Int))))) else (bif !decide ((↑(UInt8.toNat (List.getD (Array.toList (ByteArray.data s)) (Int.toNat i) 0)) : Int) ≤ (122 : Int)) then (bif i == (0 :
 Int) then some (T.leaf (AV.c (.d (.v (.bool false))), [])) else (bif !(↑(UInt8.toNat (List.getD (Array.toList (ByteArray.data s)) (Int.toNat i) 0)) : Int) == (95 :
 Int) then some (T.leaf (AV.c (.d (.v (.bool false))), [])) else L15 s g m (IntKind.wrap .i64 (i + (1 : Int))))) else L15 s g m (IntKind.wrap .i64 (i + (1 :
 Int))))) else (bif decide ((↑(UInt8.toNat (List.getD (Array.toList (ByteArray.data s)) (Int.toNat i) 0)) : Int) ≥ (48 : Int)) then (bif decide ((↑(UInt8.toNat (List.getD
 (Array.toList (ByteArray.data s)) (Int.toNat i) 0)) : Int) ≤ (57 : Int)) then (bif i == (0 : Int) then some (T.leaf (AV.c (.d (.v (.bool false))), [])) else L15 s g
 m (IntKind.wrap .i64 (i + (1 : Int)))) else (bif i == (0 : Int) then some (T.leaf (AV.c (.d (.v (.bool false))), [])) else (bif !(↑(UInt8.toNat (List.getD
 (Array.toList (ByteArray.data s)) (Int.toNat i) 0)) : Int) == (95 : Int) then some (T.leaf (AV.c (.d (.v (.bool false))), [])) else L15 s g m (IntKind.wrap
 IntKind.i64 (i + (1 : Int)))))) else (bif i == (0 : Int) then some (T.leaf (AV.c (.d (.v (.bool false))), [])) else (bif !(↑(UInt8.toNat (List.getD (Array.toList
 (ByteArray.data s)) (Int.toNat i) 0)) : Int) == (95 : Int) then some (T.leaf (AV.c (.d (.v (.bool false))), [])) else L15 s g m (IntKind.wrap .i64 (i + (1 :
 Int)))))))) else none) else some (T.leaf (AV.c (.d (.v (.bool true))), []))) := by kernel_rfl
noncomputable def ann16 := annOf [(4, ⟨[0, 3], []⟩)]
noncomputable def L16 (s : ByteArray) (g m : Nat) (i : Int) := LK Tryz.prog Orc.nil ann16 0 g Tryz.f19 4 m ⟨frm [(0, vS s), (3, vI i)] 0 Tryz.f19.ntmps, [], 0⟩
theorem ev16 (s : ByteArray) (g : Nat) : callC Tryz.prog Orc.nil ann16 g Tryz.f19 (bodyOf Tryz.f19) [vS s] [] =
 (bif decide ((↑(ByteArray.size s) : Int) < (1 : Int)) then some (T.leaf (AV.c (.d (.v (.bool false))), [])) else (bif decide ((↑(ByteArray.size s) : Int) > (12 : Int)) then
 some (T.leaf (AV.c (.d (.v (.bool false))), [])) else L16 s g g ((0 : Int)))) := by kernel_rfl
theorem st16 (s : ByteArray) (g m : Nat) (i : Int) : L16 s g (m + 1) i =
 (bif decide (i < (↑(ByteArray.size s) : Int)) then (bif decide ((0 : Int) ≤ i) && decide (i < (↑(ByteArray.size s) : Int)) then (bif decide ((↑(UInt8.toNat (List.getD (Array.toList
 (ByteArray.data s)) (Int.toNat i) 0)) : Int) ≥ (97 : Int)) then (bif decide ((↑(UInt8.toNat (List.getD (Array.toList (ByteArray.data s)) (Int.toNat i) 0)) : Int)
 ≤ (122 : Int)) then L16 s g m (IntKind.wrap .i64 (i + (1 : Int))) else (bif decide ((↑(UInt8.toNat (List.getD (Array.toList (ByteArray.data s)) (Int.toNat i) 0)) :
 Int) ≥ (65 : Int)) then (bif !decide ((↑(UInt8.toNat (List.getD (Array.toList (ByteArray.data s)) (Int.toNat i) 0)) : Int) ≤ (90 : Int)) then (bif i == (0 : Int) then some
 (T.leaf (AV.c (.d (.v (.bool false))), [])) else (bif decide ((↑(UInt8.toNat (List.getD (Array.toList (ByteArray.data s)) (Int.toNat i) 0)) : Int) < (48 : Int))
 then (bif (↑(UInt8.toNat (List.getD (Array.toList (ByteArray.data s)) (Int.toNat i) 0)) : Int) != (95 : Int) then some (T.leaf (AV.c (.d (.v (.bool false))), []))
 else L16 s g m (IntKind.wrap .i64 (i + (1 : Int)))) else (bif decide ((↑(UInt8.toNat (List.getD (Array.toList (ByteArray.data s)) (Int.toNat i) 0)) : Int) > (57 :
 Int)) then (bif (↑(UInt8.toNat (List.getD (Array.toList (ByteArray.data s)) (Int.toNat i) 0)) : Int) != (95 : Int) then some (T.leaf (AV.c (.d (.v (.bool false))),
 [])) else L16 s g m (IntKind.wrap .i64 (i + (1 : Int)))) else L16 s g m (IntKind.wrap .i64 (i + (1 : Int)))))) else L16 s g m (IntKind.wrap .i64 (i + (1 :
 Int)))) else (bif i == (0 : Int) then some (T.leaf (AV.c (.d (.v (.bool false))), [])) else (bif decide ((↑(UInt8.toNat (List.getD (Array.toList (ByteArray.data s))
 (Int.toNat i) 0)) : Int) < (48 : Int)) then (bif (↑(UInt8.toNat (List.getD (Array.toList (ByteArray.data s)) (Int.toNat i) 0)) : Int) != (95 : Int) then some
 (T.leaf (AV.c (.d (.v (.bool false))), [])) else L16 s g m (IntKind.wrap .i64 (i + (1 : Int)))) else (bif decide ((↑(UInt8.toNat (List.getD (Array.toList
 (ByteArray.data s)) (Int.toNat i) 0)) : Int) > (57 : Int)) then (bif (↑(UInt8.toNat (List.getD (Array.toList (ByteArray.data s)) (Int.toNat i) 0)) : Int) != (95
 : Int) then some (T.leaf (AV.c (.d (.v (.bool false))), [])) else L16 s g m (IntKind.wrap .i64 (i + (1 : Int)))) else L16 s g m (IntKind.wrap .i64 (i + (1 :
 Int)))))))) else (bif decide ((↑(UInt8.toNat (List.getD (Array.toList (ByteArray.data s)) (Int.toNat i) 0)) : Int) ≥ (65 : Int)) then (bif !decide ((↑(UInt8.toNat
 (List.getD (Array.toList (ByteArray.data s)) (Int.toNat i) 0)) : Int) ≤ (90 : Int)) then (bif i == (0 : Int) then some (T.leaf (AV.c (.d (.v (.bool false))), []))
 else (bif decide ((↑(UInt8.toNat (List.getD (Array.toList (ByteArray.data s)) (Int.toNat i) 0)) : Int) < (48 : Int)) then (bif (↑(UInt8.toNat (List.getD (Array.toList
 (ByteArray.data s)) (Int.toNat i) 0)) : Int) != (95 : Int) then some (T.leaf (AV.c (.d (.v (.bool false))), [])) else L16 s g m (IntKind.wrap .i64 (i + (1 :
 Int)))) else (bif decide ((↑(UInt8.toNat (List.getD (Array.toList (ByteArray.data s)) (Int.toNat i) 0)) : Int) > (57 : Int)) then (bif (↑(UInt8.toNat (List.getD
 (Array.toList (ByteArray.data s)) (Int.toNat i) 0)) : Int) != (95 : Int) then some (T.leaf (AV.c (.d (.v (.bool false))), [])) else L16 s g m (IntKind.wrap
 IntKind.i64 (i + (1 : Int)))) else L16 s g m (IntKind.wrap .i64 (i + (1 : Int)))))) else L16 s g m (IntKind.wrap .i64 (i + (1 : Int)))) else (bif i == (0 : Int) then
 some (T.leaf (AV.c (.d (.v (.bool false))), [])) else (bif decide ((↑(UInt8.toNat (List.getD (Array.toList (ByteArray.data s)) (Int.toNat i) 0)) : Int) < (48 :
 Int)) then (bif (↑(UInt8.toNat (List.getD (Array.toList (ByteArray.data s)) (Int.toNat i) 0)) : Int) != (95 : Int) then some (T.leaf (AV.c (.d (.v (.bool false))),
 [])) else L16 s g m (IntKind.wrap .i64 (i + (1 : Int)))) else (bif decide ((↑(UInt8.toNat (List.getD (Array.toList (ByteArray.data s)) (Int.toNat i) 0)) : Int) >
 (57 : Int)) then (bif (↑(UInt8.toNat (List.getD (Array.toList (ByteArray.data s)) (Int.toNat i) 0)) : Int) != (95 : Int) then some (T.leaf (AV.c (C.d (D.v (Value.bool
 false))), [])) else L16 s g m (IntKind.wrap .i64 (i + (1 : Int)))) else L16 s g m (IntKind.wrap .i64 (i + (1 : Int)))))))) else none) else some (T.leaf (AV.c (C.d (D.v
 (Value.bool true))), []))) := by kernel_rfl
noncomputable def ann46 := annOf [(2, ⟨[0, 1, 5], []⟩)]
noncomputable def L46 (l : List ByteArray) (s : ByteArray) (g m : Nat) (i : Int) := LK Tryz.prog Orc.nil ann46 0 g Tryz.f44 2 m ⟨frm [(0, .c (.d (busesD l))), (1, vS s), (5, vI i)] 0 Tryz.f44.ntmps, [], 0⟩
theorem ev46 (l : List ByteArray) (s : ByteArray) (g : Nat) : callC Tryz.prog Orc.nil ann46 g Tryz.f44 (bodyOf Tryz.f44) [.c (.d (busesD l)), vS s] [] =
 L46 l s g g ((0 : Int)) := by kernel_rfl
theorem st46 (l : List ByteArray) (s : ByteArray) (g m : Nat) (i : Int) : L46 l s g (m + 1) i =
 (bif decide (i < (↑(List.length l) : Int)) then (bif decide ((0 : Int) ≤ i) && decide (i < (↑(List.length l) : Int)) then (bif ByteArray.toList (List.getD l (Int.toNat i) e0) ==
 ByteArray.toList s then some (T.leaf (AV.c (.d (.v (.int .i64 i))), [])) else L46 l s g m (IntKind.wrap .i64 (i + (1 : Int)))) else none) else some (T.leaf
 (AV.c (.d (.v (.int .i64 (-1 : Int)))), []))) := by kernel_rfl
noncomputable def ann7 := annOf [(4, ⟨[1, 3], []⟩)]
noncomputable def L7 (s : SSta) (g m : Nat) (i : Int) := LK Tryz.prog Orc.nil ann7 0 g Tryz.f8 4 m ⟨frm [(1, .c (.ptr 0 0)), (3, vI i)] 0 Tryz.f8.ntmps, [(0, .cells ((staC s).map .d) 27)], 1⟩
theorem ev7 (s : SSta) (g : Nat) : callC Tryz.prog Orc.nil ann7 g Tryz.f8 (bodyOf Tryz.f8) [aSta s] [] =
 (bif decide ((↑(List.length (SSta.buses s)) : Int) > (8 : Int)) then some (T.leaf (AV.c (.d (.v (.bool true))), [])) else (bif decide ((↑(List.length (SSta.lines s)) : Int) >
 (10 : Int)) then some (T.leaf (AV.c (.d (.v (.bool true))), [])) else (bif decide ((↑(List.length (SSta.srcs s)) : Int) > (8 : Int)) then some (T.leaf (AV.c (C.d (D.v
 (Value.bool true))), [])) else (bif decide ((↑(List.length (SSta.bays s)) : Int) > (20 : Int)) then some (T.leaf (AV.c (.d (.v (.bool true))), [])) else L7 s g g ((0 :
 Int)))))) := by kernel_rfl
theorem st7 (s : SSta) (g m : Nat) (i : Int) : L7 s g (m + 1) i =
 (bif decide (i < (↑(List.length (SSta.bays s)) : Int)) then (bif decide ((0 : Int) ≤ i) && decide (i < (↑(List.length (SSta.bays s)) : Int)) then (bif decide ((↑(List.length
 (SBay.links (List.getD (SSta.bays s) (Int.toNat i) bay0))) : Int) > (6 : Int)) then some (T.leaf (AV.c (.d (.v (.bool true))), [])) else L7 s g m (IntKind.wrap .i64 (i
 + (1 : Int)))) else none) else some (T.leaf (AV.c (.d (.v (.bool false))), []))) := by kernel_rfl
end Go.Proofs.YtngoglhlhlfknaaGreat.st
namespace Go.Proofs.YtngoglhlhlfknaaGreat.st
open Go.RowKit Go.Eb
theorem b15 : Tryz.f50.body = some (bodyOf Tryz.f50) := by kernel_rfl
theorem b16 : Tryz.f19.body = some (bodyOf Tryz.f19) := by kernel_rfl
theorem z0 (k : Nat) : ((k : Int) == 0) = (k == 0) := by cases k <;> rfl
theorem lp15 (s : ByteArray) (g : Nat) (hs : s.size ≤ 12) : ∀ (m k : Nat), k ≤ s.size → s.size - k < m → L15 s g m k = some (.leaf (vB (nmT k (s.data.toList.drop k)), []))
  | 0, k, _, h => by omega
  | m + 1, k, hk, h => by
    rw [st15]
    by_cases hlt : k < s.size
    · have hl : k < s.data.toList.length := by simpa using hlt
      have ih := lp15 s g hs m (k + 1) (by omega) (by omega)
      rw [drop_at' (d := 0) hl]
      simp only [lt1 hlt, ge0, tn, Bool.and_self, cond_true, nx hlt (by omega), ih, nmT, letterB, otherB, ge_iff_le, z0, bne]
      generalize s.data.toList.getD k 0 = c
      generalize nmT (k + 1) (s.data.toList.drop (k + 1)) = t
      generalize decide (65 ≤ (c.toNat : Int)) = a1
      generalize decide ((c.toNat : Int) ≤ 90) = a2
      generalize decide (97 ≤ (c.toNat : Int)) = b1
      generalize decide ((c.toNat : Int) ≤ 122) = b2
      generalize decide (48 ≤ (c.toNat : Int)) = d1
      generalize decide ((c.toNat : Int) ≤ 57) = d2
      generalize ((c.toNat : Int) == 95) = e1
      generalize (k == 0) = z
      cases a1 <;> cases a2 <;> cases b1 <;> cases b2 <;> cases d1 <;> cases d2 <;> cases e1 <;> cases z <;> rfl
    · rw [lt0 hlt, List.drop_of_length_le (by simp; omega)]
      rfl
theorem c15 (s : ByteArray) : CX Tryz.prog 50 [vS s] [] (vB (nameOk s)) [] := by
  refine cx_of (Orc.nil_ok _) Tryz.func50 b15 rfl ((ev15 s (s.size + 1)).trans ?_)
  generalize hg : s.size + 1 = g
  unfold nameOk
  cases h0 : ((s.size : Int) == 0) with
  | true => rfl
  | false =>
    cases h1 : decide ((s.size : Int) > 12) with
    | true => rfl
    | false =>
      have hs : s.size ≤ 12 := by simp at h1; omega
      have := lp15 s g hs g 0 (by omega) (by omega)
      simp only [cond_false, Bool.not_false, Bool.true_and]
      exact this
theorem ltn (x y : Int) : decide (x < y) = !decide (y ≤ x) := by
  by_cases h : x < y
  · rw [decide_eq_true h, decide_eq_false (by omega)]; rfl
  · rw [decide_eq_false h, decide_eq_true (by omega)]; rfl
theorem gtn (x y : Int) : decide (x > y) = !decide (x ≤ y) := by
  by_cases h : x > y
  · rw [decide_eq_true h, decide_eq_false (by omega)]; rfl
  · rw [decide_eq_false h, decide_eq_true (by omega)]; rfl
theorem lt1z (n : Nat) : decide ((n : Int) < 1) = ((n : Int) == 0) := by
  by_cases h : n = 0
  · subst h; rfl
  · have h2 : ((n : Int) == 0) = false := beq_eq_false_iff_ne.2 (by omega)
    rw [decide_eq_false (by omega), h2]
theorem lp16 (s : ByteArray) (g : Nat) (hs : s.size ≤ 12) : ∀ (m k : Nat), k ≤ s.size → s.size - k < m → L16 s g m k = some (.leaf (vB (nmT k (s.data.toList.drop k)), []))
  | 0, k, _, h => by omega
  | m + 1, k, hk, h => by
    rw [st16]
    by_cases hlt : k < s.size
    · have hl : k < s.data.toList.length := by simpa using hlt
      have ih := lp16 s g hs m (k + 1) (by omega) (by omega)
      rw [drop_at' (d := 0) hl]
      generalize hc : s.data.toList.getD k 0 = c
      have e48 : decide ((c.toNat : Int) < 48) = !decide (48 ≤ (c.toNat : Int)) := ltn _ _
      have e57 : decide ((c.toNat : Int) > 57) = !decide ((c.toNat : Int) ≤ 57) := gtn _ _
      simp only [lt1 hlt, ge0, tn, hc, Bool.and_self, cond_true, nx hlt (by omega), ih, nmT, letterB, otherB, e48, e57, z0, bne, ge_iff_le]
      generalize nmT (k + 1) (s.data.toList.drop (k + 1)) = t
      generalize decide (65 ≤ (c.toNat : Int)) = a1
      generalize decide ((c.toNat : Int) ≤ 90) = a2
      generalize decide (97 ≤ (c.toNat : Int)) = b1
      generalize decide ((c.toNat : Int) ≤ 122) = b2
      generalize decide (48 ≤ (c.toNat : Int)) = d1
      generalize decide ((c.toNat : Int) ≤ 57) = d2
      generalize ((c.toNat : Int) == 95) = e1
      generalize (k == 0) = z
      cases a1 <;> cases a2 <;> cases b1 <;> cases b2 <;> cases d1 <;> cases d2 <;> cases e1 <;> cases z <;> rfl
    · rw [lt0 hlt, List.drop_of_length_le (by simp; omega)]
      rfl
theorem r16 (s : ByteArray) (g : Nat) (hg : s.size < g) : callC Tryz.prog Orc.nil ann16 g Tryz.f19 (bodyOf Tryz.f19) [vS s] [] = some (.leaf (vB (nameOk s), [])) := by
  rw [ev16, lt1z]
  unfold nameOk
  cases h0 : ((s.size : Int) == 0) with
  | true => rfl
  | false =>
    cases h1 : decide ((s.size : Int) > 12) with
    | true => rfl
    | false =>
      have hs : s.size ≤ 12 := by simp at h1; omega
      have := lp16 s g hs g 0 (by omega) (by omega)
      simp only [cond_false, Bool.not_false, Bool.true_and]
      exact this
theorem c16 (s : ByteArray) : CX Tryz.prog 19 [vS s] [] (vB (nameOk s)) [] := cx_of (Orc.nil_ok _) Tryz.func19 b16 rfl (r16 s (s.size + 1) (by omega))
end Go.Proofs.YtngoglhlhlfknaaGreat.st
namespace Go.Proofs.YtngoglhlhlfknaaGreat.se
open Go.RowKit Go.Eb
abbrev aRule (x : SRule) : AV := .agg ((ruleC x).map .d)
abbrev aSet (x : SSet) : AV := .agg ((setC x).map .d)
abbrev aPub (x : SPub) : AV := .agg ((pubC x).map .d)
abbrev aSub (x : SSub) : AV := .agg ((subC x).map .d)
abbrev dF (f : FuncId) : D := .v (.func (.func f) #[] #[])
abbrev dNF : D := .v .nilFunc
theorem ev115_t (s : ByteArray) : callC Tryz.prog Orc.nil na 5 Tryz.f115 (bodyOf Tryz.f115) [vS s] [] =
 (bif ByteArray.toList s == ByteArray.toList (⟨#[116, 114, 117, 101]⟩) then (bif ByteArray.toList s == ByteArray.toList
 (⟨#[116, 114, 117, 101]⟩) then some (T.leaf (AV.c (.d (.v (.bool true))), [])) else some (T.leaf (AV.c (C.d (D.v
 (Value.bool false))), []))) else (bif ByteArray.toList s == ByteArray.toList (⟨#[102, 97, 108, 115, 101]⟩) then (bif
 ByteArray.toList s == ByteArray.toList (⟨#[102, 97, 108, 115, 101]⟩) then some (T.leaf (AV.c (C.d (D.v (Value.bool
 true))), [])) else some (T.leaf (AV.c (.d (.v (.bool false))), []))) else (bif ByteArray.toList s == ByteArray.toList (⟨#[110, 111, (116 :
 UInt8)]⟩) then (bif ByteArray.toList s == ByteArray.toList (⟨#[110, 111, 116]⟩) then some (T.leaf (AV.c (.d (.v (.bool true))), []))
 else some (T.leaf (AV.c (.d (.v (.bool false))), []))) else (bif ByteArray.toList s == ByteArray.toList (⟨#[97, 110, 100]⟩) then (bif
 ByteArray.toList s == ByteArray.toList (⟨#[97, 110, 100]⟩) then some (T.leaf (AV.c (.d (.v (.bool true))), [])) else some (T.leaf
 (AV.c (.d (.v (.bool false))), []))) else (bif ByteArray.toList s == ByteArray.toList (⟨#[111, 114]⟩) then (bif ByteArray.toList s ==
 ByteArray.toList (⟨#[111, 114]⟩) then some (T.leaf (AV.c (.d (.v (.bool true))), [])) else some (T.leaf (AV.c (.d (.v (.bool false))),
 []))) else (bif ByteArray.toList s == ByteArray.toList (⟨#[120, 111, 114]⟩) then (bif ByteArray.toList s == ByteArray.toList (⟨#[120, 111, 114]⟩) then some (T.leaf (AV.c (.d (.v (.bool true))), [])) else some (T.leaf (AV.c (.d (.v (.bool false))), []))) else (bif
 ByteArray.toList s == ByteArray.toList (⟨#[109, 105, 110]⟩) then (bif ByteArray.toList s == ByteArray.toList (⟨#[109,
 105, 110]⟩) then some (T.leaf (AV.c (.d (.v (.bool true))), [])) else some (T.leaf (AV.c (.d (.v (.bool false))), []))) else (bif ByteArray.toList s
 == ByteArray.toList (⟨#[109, 97, 120]⟩) then (bif ByteArray.toList s == ByteArray.toList (⟨#[109, 97, (120 :
 UInt8)]⟩) then some (T.leaf (AV.c (.d (.v (.bool true))), [])) else some (T.leaf (AV.c (.d (.v (.bool false))), []))) else (bif ByteArray.toList s == ByteArray.toList
 (⟨#[97, 98, 115]⟩) then (bif ByteArray.toList s == ByteArray.toList (⟨#[97, 98, 115]⟩) then some
 (T.leaf (AV.c (.d (.v (.bool true))), [])) else some (T.leaf (AV.c (.d (.v (.bool false))), []))) else (bif ByteArray.toList s == ByteArray.toList (⟨#[(105
 : UInt8), 102]⟩) then (bif ByteArray.toList s == ByteArray.toList (⟨#[105, 102]⟩) then some (T.leaf (AV.c (.d (.v (.bool true))), []))
 else some (T.leaf (AV.c (.d (.v (.bool false))), []))) else (bif ByteArray.toList s == ByteArray.toList (⟨#[114, 105, 115, (101 :
 UInt8)]⟩) then (bif ByteArray.toList s == ByteArray.toList (⟨#[114, 105, 115, 101]⟩) then some (T.leaf (AV.c (C.d (D.v (Value.bool
 true))), [])) else some (T.leaf (AV.c (.d (.v (.bool false))), []))) else (bif ByteArray.toList s == ByteArray.toList (⟨#[102, 97, (108 :
 UInt8), 108]⟩) then (bif ByteArray.toList s == ByteArray.toList (⟨#[102, 97, 108, 108]⟩) then some (T.leaf (AV.c (C.d
 (D.v (.bool true))), [])) else some (T.leaf (AV.c (.d (.v (.bool false))), []))) else (bif ByteArray.toList s == ByteArray.toList (⟨#[100, (101 :
 UInt8), 108, 97, 121]⟩) then (bif ByteArray.toList s == ByteArray.toList (⟨#[100, 101, 108, 97, (121
 : UInt8)]⟩) then some (T.leaf (AV.c (.d (.v (.bool true))), [])) else some (T.leaf (AV.c (.d (.v (.bool false))), []))) else (bif ByteArray.toList s == ByteArray.toList
 (⟨#[104, 111, 108, 100]⟩) then (bif ByteArray.toList s == ByteArray.toList (⟨#[104, 111, (108 :
 UInt8), 100]⟩) then some (T.leaf (AV.c (.d (.v (.bool true))), [])) else some (T.leaf (AV.c (.d (.v (.bool false))), []))) else (bif ByteArray.toList s ==
 ByteArray.toList (⟨#[108, 97, 116, 99, 104]⟩) then (bif ByteArray.toList s == ByteArray.toList (⟨#[(108 :
 UInt8), 97, 116, 99, 104]⟩) then some (T.leaf (AV.c (.d (.v (.bool true))), [])) else some (T.leaf (AV.c (C.d (D.v (Value.bool
 false))), []))) else (bif ByteArray.toList s == ByteArray.toList (⟨#[99, 111, 117, 110, 116]⟩) then some (T.leaf (AV.c
 (C.d (.v (.bool true))), [])) else some (T.leaf (AV.c (.d (.v (.bool false))), [])))))))))))))))))) := by kernel_rfl
noncomputable def ev115_v (s : ByteArray) : Bool :=
 (bif ByteArray.toList s == ByteArray.toList (ByteArray.mk #[(116 : UInt8), (114 : UInt8), (117 : UInt8), (101 : UInt8)]) then (bif ByteArray.toList s == ByteArray.toList
 (ByteArray.mk #[(116 : UInt8), (114 : UInt8), (117 : UInt8), (101 : UInt8)]) then (true) else (false)) else (bif ByteArray.toList s == ByteArray.toList (ByteArray.mk #[(102 :
 UInt8), (97 : UInt8), (108 : UInt8), (115 : UInt8), (101 : UInt8)]) then (bif ByteArray.toList s == ByteArray.toList (ByteArray.mk #[(102 : UInt8), (97 : UInt8), (108 : UInt8), (115
 : UInt8), (101 : UInt8)]) then (true) else (false)) else (bif ByteArray.toList s == ByteArray.toList (ByteArray.mk #[(110 : UInt8), (111 : UInt8), (116 : UInt8)]) then (bif
 ByteArray.toList s == ByteArray.toList (ByteArray.mk #[(110 : UInt8), (111 : UInt8), (116 : UInt8)]) then (true) else (false)) else (bif ByteArray.toList s == ByteArray.toList
 (ByteArray.mk #[(97 : UInt8), (110 : UInt8), (100 : UInt8)]) then (bif ByteArray.toList s == ByteArray.toList (ByteArray.mk #[(97 : UInt8), (110 : UInt8), (100 : UInt8)]) then
 (true) else (false)) else (bif ByteArray.toList s == ByteArray.toList (ByteArray.mk #[(111 : UInt8), (114 : UInt8)]) then (bif ByteArray.toList s == ByteArray.toList (ByteArray.mk
 #[(111 : UInt8), (114 : UInt8)]) then (true) else (false)) else (bif ByteArray.toList s == ByteArray.toList (ByteArray.mk #[(120 : UInt8), (111 : UInt8), (114 : UInt8)]) then (bif
 ByteArray.toList s == ByteArray.toList (ByteArray.mk #[(120 : UInt8), (111 : UInt8), (114 : UInt8)]) then (true) else (false)) else (bif ByteArray.toList s == ByteArray.toList
 (ByteArray.mk #[(109 : UInt8), (105 : UInt8), (110 : UInt8)]) then (bif ByteArray.toList s == ByteArray.toList (ByteArray.mk #[(109 : UInt8), (105 : UInt8), (110 : UInt8)]) then
 (true) else (false)) else (bif ByteArray.toList s == ByteArray.toList (ByteArray.mk #[(109 : UInt8), (97 : UInt8), (120 : UInt8)]) then (bif ByteArray.toList s == ByteArray.toList
 (ByteArray.mk #[(109 : UInt8), (97 : UInt8), (120 : UInt8)]) then (true) else (false)) else (bif ByteArray.toList s == ByteArray.toList (ByteArray.mk #[(97 : UInt8), (98 : UInt8),
 (115 : UInt8)]) then (bif ByteArray.toList s == ByteArray.toList (ByteArray.mk #[(97 : UInt8), (98 : UInt8), (115 : UInt8)]) then (true) else (false)) else (bif ByteArray.toList s
 == ByteArray.toList (ByteArray.mk #[(105 : UInt8), (102 : UInt8)]) then (bif ByteArray.toList s == ByteArray.toList (ByteArray.mk #[(105 : UInt8), (102 : UInt8)]) then (true) else
 (false)) else (bif ByteArray.toList s == ByteArray.toList (ByteArray.mk #[(114 : UInt8), (105 : UInt8), (115 : UInt8), (101 : UInt8)]) then (bif ByteArray.toList s ==
 ByteArray.toList (ByteArray.mk #[(114 : UInt8), (105 : UInt8), (115 : UInt8), (101 : UInt8)]) then (true) else (false)) else (bif ByteArray.toList s == ByteArray.toList
 (ByteArray.mk #[(102 : UInt8), (97 : UInt8), (108 : UInt8), (108 : UInt8)]) then (bif ByteArray.toList s == ByteArray.toList (ByteArray.mk #[(102 : UInt8), (97 : UInt8), (108 :
 UInt8), (108 : UInt8)]) then (true) else (false)) else (bif ByteArray.toList s == ByteArray.toList (ByteArray.mk #[(100 : UInt8), (101 : UInt8), (108 : UInt8), (97 : UInt8), (121 :
 UInt8)]) then (bif ByteArray.toList s == ByteArray.toList (ByteArray.mk #[(100 : UInt8), (101 : UInt8), (108 : UInt8), (97 : UInt8), (121 : UInt8)]) then (true) else (false)) else
 (bif ByteArray.toList s == ByteArray.toList (ByteArray.mk #[(104 : UInt8), (111 : UInt8), (108 : UInt8), (100 : UInt8)]) then (bif ByteArray.toList s == ByteArray.toList
 (ByteArray.mk #[(104 : UInt8), (111 : UInt8), (108 : UInt8), (100 : UInt8)]) then (true) else (false)) else (bif ByteArray.toList s == ByteArray.toList (ByteArray.mk #[(108 :
 UInt8), (97 : UInt8), (116 : UInt8), (99 : UInt8), (104 : UInt8)]) then (bif ByteArray.toList s == ByteArray.toList (ByteArray.mk #[(108 : UInt8), (97 : UInt8), (116 : UInt8), (99 :
 UInt8), (104 : UInt8)]) then (true) else (false)) else (bif ByteArray.toList s == ByteArray.toList (ByteArray.mk #[(99 : UInt8), (111 : UInt8), (117 : UInt8), (110 : UInt8), (116 :
 UInt8)]) then (true) else (false)))))))))))))))))
theorem ev115 (s : ByteArray) : callC Tryz.prog Orc.nil na 5 Tryz.f115 (bodyOf Tryz.f115) [vS s] [] = some (.leaf (vB (ev115_v s), [])) := by
  rw [ev115_t]
  unfold ev115_v
  simp only [bLeaf]
noncomputable def ann117 : Ann := annOf [(4, ⟨[1, 11, 12], []⟩)]
noncomputable def L117_4 (x : SRule) (g m : Nat) (i12 : Int) := LK Tryz.prog Orc.nil ann117 0 g Tryz.f117 4 m ⟨frm [(1, .c (.ptr 0 0)), (11, .c (.d (.v (.int .i64 (↑(ByteArray.size (SRule.text x)) : Int))))), (12, .c (.d (.v (.int .i64 i12))))] 0 Tryz.f117.ntmps, [(0, Blk.cells (List.map C.d (ruleC x)) 100)], 1⟩
theorem b117 : Tryz.f117.body = some (bodyOf Tryz.f117) := by kernel_rfl
theorem ev117 (x : SRule) (g : Nat) : callC Tryz.prog Orc.nil ann117 g Tryz.f117 (bodyOf Tryz.f117) [aRule x] [] =
 (bif decide ((↑(ByteArray.size (SRule.text x)) : Int) > (120 : Int)) then some (T.leaf (AV.c (.d (.v (.int .i64 (4 : Int)))), [])) else L117_4 x g g ((0 : Int))) := by kernel_rfl
theorem st117_4 (x : SRule) (g m : Nat) (i12 : Int) : L117_4 x g (m + 1) i12 =
 (bif decide (i12 < (↑(ByteArray.size (SRule.text x)) : Int)) then (bif decide ((0 : Int) ≤ i12) && decide (i12 < (↑(ByteArray.size (SRule.text x)) : Int)) then (bif decide
 ((↑(UInt8.toNat (List.getD (Array.toList (ByteArray.data (SRule.text x))) (Int.toNat i12) 0)) : Int) < (32 : Int)) then some (T.leaf (AV.c (C.d (D.v (Value.int IntKind.i64
 (5 : Int)))), [])) else (bif decide ((↑(UInt8.toNat (List.getD (Array.toList (ByteArray.data (SRule.text x))) (Int.toNat i12) 0)) : Int) > (126 : Int)) then some (T.leaf
 (AV.c (.d (.v (.int .i64 (5 : Int)))), [])) else (bif (↑(UInt8.toNat (List.getD (Array.toList (ByteArray.data (SRule.text x))) (Int.toNat i12) 0)) : Int) ==
 (34 : Int) then some (T.leaf (AV.c (.d (.v (.int .i64 (5 : Int)))), [])) else L117_4 x g m (IntKind.wrap .i64 (i12 + (1 : Int)))))) else none) else some (T.leaf
 (AV.c (.d (.v (.int .i64 (0 : Int)))), []))) := by kernel_rfl
theorem ev123_t (x : SPub) : callC Tryz.prog (Orc.cons 108 (inl Tryz.prog Orc.nil na 1 Tryz.f108) Orc.nil) na 5 Tryz.f123 (bodyOf Tryz.f123) [aPub x] [] =
 (bif decide (SPub.fst x ≥ (1 : Int)) then (bif !decide (SPub.fst x ≤ (100 : Int)) then some (T.leaf (AV.c (.d (.v (.int .i64 (2 : Int)))), [])) else (bif decide
 (SPub.max x ≥ SPub.fst x) then (bif !decide (SPub.max x ≤ (1000 : Int)) then some (T.leaf (AV.c (.d (.v (.int .i64 (2 : Int)))), [])) else some (T.leaf (AV.c (C.d (D.v
 (Value.int IntKind.i64 (0 : Int)))), []))) else some (T.leaf (AV.c (.d (.v (.int .i64 (2 : Int)))), [])))) else some (T.leaf (AV.c (.d (.v (.int .i64 (2
 : Int)))), []))) := by kernel_rfl
noncomputable def ev123_v (x : SPub) : Int :=
 (bif decide (SPub.fst x ≥ (1 : Int)) then (bif !decide (SPub.fst x ≤ (100 : Int)) then ((2 : Int)) else (bif decide (SPub.max x ≥ SPub.fst x) then (bif !decide (SPub.max x ≤ (1000 :
 Int)) then ((2 : Int)) else ((0 : Int))) else ((2 : Int)))) else ((2 : Int)))
theorem ev123 (x : SPub) : callC Tryz.prog (Orc.cons 108 (inl Tryz.prog Orc.nil na 1 Tryz.f108) Orc.nil) na 5 Tryz.f123 (bodyOf Tryz.f123) [aPub x] [] = some (.leaf (vI (ev123_v x), [])) := by
  rw [ev123_t]
  unfold ev123_v
  simp only [iLeaf]
noncomputable def oN (nk : ByteArray → Bool) (r : Orc) : Orc := Orc.cons 50 (ansP decS fun s => vB (nk s)) r
noncomputable def o147 (nk : ByteArray → Bool) : Orc := Orc.cons 143 (inl Tryz.prog (oN nk Orc.nil) na 1 Tryz.f143) Orc.nil
noncomputable def ann147 : Ann := annOf [(2, ⟨[0, 1, 7, 8], []⟩)]
noncomputable def L147_2 (nk : ByteArray → Bool) (l : List ByteArray) (g m : Nat) (i8 : Int) := LK Tryz.prog (o147 nk) ann147 0 g Tryz.f147 2 m ⟨frm [(0, .c (.d (listD 1 busC e0 l))), (1, .c (.d (D.v (Value.func (Fn.func (143 : FuncId)) #[] #[])))), (7, .c (.d (.v (.int .i64 (↑(List.length l) : Int))))), (8, .c (.d (.v (.int .i64 i8))))] 0 Tryz.f147.ntmps, [], 0⟩
theorem b147 : Tryz.f147.body = some (bodyOf Tryz.f147) := by kernel_rfl
theorem ev147 (nk : ByteArray → Bool) (l : List ByteArray) (g : Nat) : callC Tryz.prog (o147 nk) ann147 g Tryz.f147 (bodyOf Tryz.f147) [.c (.d (busesD l)), .c (.d (dF 143))] [] =
 L147_2 nk l g g ((0 : Int)) := by kernel_rfl
theorem st147_2 (nk : ByteArray → Bool) (l : List ByteArray) (g m : Nat) (i8 : Int) : L147_2 nk l g (m + 1) i8 =
 (bif decide (i8 < (↑(List.length l) : Int)) then (bif decide ((0 : Int) ≤ i8) && decide (i8 < (↑(List.length l) : Int)) then (bif !nk (List.getD l (Int.toNat i8) e0) then some
 (T.leaf (AV.c (.d (.v (.int .i64 i8))), [])) else L147_2 nk l g m (IntKind.wrap .i64 (i8 + (1 : Int)))) else none) else some (T.leaf (AV.c (C.d (D.v (Value.int
 IntKind.i64 (-1 : Int)))), []))) := by kernel_rfl
noncomputable def o119 (oki : List AV → Bool) (ix : List AV → Int) : Orc := Orc.cons 147 (ansG oki fun x => vI (ix x)) Orc.nil
noncomputable def o142 (oki : List AV → Bool) (ix : List AV → Int) : Orc := Orc.cons 142 (inl Tryz.prog (o119 oki ix) na 1 Tryz.f142) Orc.nil
noncomputable def ann119 : Ann := annOf []
theorem b119 : Tryz.f119.body = some (bodyOf Tryz.f119) := by kernel_rfl
theorem ev119 (oki : List AV → Bool) (ix : List AV → Int) (l : List ByteArray) (g : Nat) : callC Tryz.prog (o142 oki ix) ann119 g Tryz.f119 (bodyOf Tryz.f119) [.c (.d (busesD l))] [] =
 (bif oki [AV.c (C.d (listD (1) busC e0 l)), AV.c (C.d (D.v (Value.func (Fn.func 143) #[] #[])))] then some (T.leaf (AV.c (.d (.v (.bool !decide (ix [AV.c (C.d
 (listD (1) busC e0 l)), AV.c (C.d (D.v (Value.func (Fn.func 143) #[] #[])))] ≥ (0 : Int))))), [])) else none) := by kernel_rfl
/-! the elements' validity -/
noncomputable def o114 (nk rs : ByteArray → Bool) : Orc := oN nk (Orc.cons 115 (ansP decS fun s => vB (rs s)) Orc.nil)
theorem ev114_t (nk rs : ByteArray → Bool) (x : SRule) : callC Tryz.prog (o114 nk rs) na 5 Tryz.f114 (bodyOf Tryz.f114) [aRule x] [] =
 (bif nk (SRule.name x) then some (T.leaf (AV.c (.d (.v (.bool !rs (SRule.name x)))), [])) else some (T.leaf (AV.c (.d (.v (.bool false))), []))) := by kernel_rfl
noncomputable def ev114_v (nk rs : ByteArray → Bool) (x : SRule) : Bool :=
 (bif nk (SRule.name x) then (!rs (SRule.name x)) else (false))
theorem ev114 (nk rs : ByteArray → Bool) (x : SRule) : callC Tryz.prog (o114 nk rs) na 5 Tryz.f114 (bodyOf Tryz.f114) [aRule x] [] = some (.leaf (vB (ev114_v nk rs x), [])) := by
  rw [ev114_t]
  unfold ev114_v
  simp only [bLeaf]
noncomputable def o118 (nk : ByteArray → Bool) (okn nm : List AV → Bool) : Orc := oN nk (Orc.cons 119 (ansG okn fun x => vB (nm x)) Orc.nil)
noncomputable def ann118 : Ann := annOf []
theorem b118 : Tryz.f118.body = some (bodyOf Tryz.f118) := by kernel_rfl
theorem ev118 (nk : ByteArray → Bool) (okn nm : List AV → Bool) (x : SSet) (g : Nat) : callC Tryz.prog (o118 nk okn nm) ann118 g Tryz.f118 (bodyOf Tryz.f118) [aSet x] [] =
 (bif nk (SSet.name x) then (bif okn [AV.c (C.d (listD (1) busC e0 (SSet.sigs x)))] then some (T.leaf (AV.c (.d (.v (.bool (nm [AV.c (C.d (listD (1) busC e0
 (SSet.sigs x)))])))), [])) else none) else some (T.leaf (AV.c (.d (.v (.bool false))), []))) := by kernel_rfl
theorem ev121_t (nk : ByteArray → Bool) (x : SPub) : callC Tryz.prog (oN nk Orc.nil) na 5 Tryz.f121 (bodyOf Tryz.f121) [aPub x] [] =
 some (T.leaf (AV.c (.d (.v (.bool (nk (SPub.set x))))), [])) := by kernel_rfl
noncomputable def ev121_v (nk : ByteArray → Bool) (x : SPub) : Bool :=
 ((nk (SPub.set x)))
theorem ev121 (nk : ByteArray → Bool) (x : SPub) : callC Tryz.prog (oN nk Orc.nil) na 5 Tryz.f121 (bodyOf Tryz.f121) [aPub x] [] = some (.leaf (vB (ev121_v nk x), [])) := by
  rw [ev121_t]
  unfold ev121_v
  simp only [bLeaf]
noncomputable def o124 (nk : ByteArray → Bool) : Orc := Orc.cons 119 (inl Tryz.prog (Orc.cons 142 (inl Tryz.prog (Orc.cons 147 (inl Tryz.prog (o147 nk) na 6 Tryz.f147) Orc.nil) na 1 Tryz.f142) Orc.nil) na 1 Tryz.f119) Orc.nil
noncomputable def ann124 : Ann := annOf []
theorem b124 : Tryz.f124.body = some (bodyOf Tryz.f124) := by kernel_rfl
theorem ev124 (nk : ByteArray → Bool) (x : SSub) (g : Nat) : callC Tryz.prog (o124 nk) ann124 g Tryz.f124 (bodyOf Tryz.f124) [aSub x] [] =
 (bif !nk (SSub.loc x) then some (T.leaf (AV.c (.d (.v (.bool false))), [])) else (bif !nk (SSub.dev x) then some (T.leaf (AV.c (.d (.v (.bool false))), [])) else (bif
 !nk (SSub.set x) then some (T.leaf (AV.c (.d (.v (.bool false))), [])) else (bif !nk (SSub.sig x) then some (T.leaf (AV.c (.d (.v (.bool false))), [])) else some
 (T.leaf (AV.c (.d (.v (.bool true))), [])))))) := by kernel_rfl
/-! the lists -/
noncomputable def o126 (okv va okt : List AV → Bool) (rt : List AV → Int) : Orc := Orc.cons 114 (ansG okv fun x => vB (va x)) (Orc.cons 116 (inl Tryz.prog Orc.nil na 1 Tryz.f116) (Orc.cons 117 (ansG okt fun x => vI (rt x)) Orc.nil))
noncomputable def ann126 : Ann := annOf [(3, ⟨[2, 5, 10, 11, 12], []⟩)]
noncomputable def L126_3 (okv va okt : List AV → Bool) (rt : List AV → Int) (l : List SRule) (g m : Nat) (l1 : List (Value × Value)) (i12 : Int) := LK Tryz.prog (o126 okv va okt rt) ann126 0 g Tryz.f126 3 m ⟨frm [(2, .c (.ptr 0 0)), (5, .c (.mp 1)), (10, .c (.d (listD 2 ruleC rule0 l))), (11, .c (.d (.v (.int .i64 (↑(List.length l) : Int))))), (12, .c (.d (.v (.int .i64 i12))))] 0 Tryz.f126.ntmps, [(0, Blk.cells [C.d (D.v (Value.func (Fn.func (114 : FuncId)) #[] #[])), C.d (D.v (Value.func (Fn.func (116 : FuncId)) #[] #[])), C.d (D.v (Value.func (Fn.func (117 : FuncId)) #[] #[]))] 170), (1, Blk.map 0 l1)], 2⟩
theorem b126 : Tryz.f126.body = some (bodyOf Tryz.f126) := by kernel_rfl
theorem ev126 (okv va okt : List AV → Bool) (rt : List AV → Int) (l : List SRule) (g : Nat) : callC Tryz.prog (o126 okv va okt rt) ann126 g Tryz.f126 (bodyOf Tryz.f126) [.agg [.d (dF 114), .d (dF 116), .d (dF 117)], .c (.d (rulesD l))] [] =
 L126_3 okv va okt rt l g g ([]) ((0 : Int)) := by kernel_rfl
theorem st126_3 (okv va okt : List AV → Bool) (rt : List AV → Int) (l : List SRule) (g m : Nat) (l1 : List (Value × Value)) (i12 : Int) : L126_3 okv va okt rt l g (m + 1) l1 i12 =
 (bif decide (i12 < (↑(List.length l) : Int)) then (bif decide ((0 : Int) ≤ i12) && decide (i12 < (↑(List.length l) : Int)) then (bif okv [AV.agg (List.map C.d (ruleC (List.getD l
 (Int.toNat i12) rule0)))] then (bif !va [AV.agg (List.map C.d (ruleC (List.getD l (Int.toNat i12) rule0)))] then some (T.leaf (AV.c (.d (.v (.int .i64 (7 : Int)))),
 [])) else (bif boolOf (assoc l1 (Value.string (SRule.name (List.getD l (Int.toNat i12) rule0)))) then some (T.leaf (AV.c (.d (.v (.int .i64 (8 : Int)))), [])) else
 (bif okt [AV.agg (List.map C.d (ruleC (List.getD l (Int.toNat i12) rule0)))] then (bif rt [AV.agg (List.map C.d (ruleC (List.getD l (Int.toNat i12) rule0)))] != (0 : Int) then some
 (T.leaf (AV.c (.d (.v (.int .i64 (rt [AV.agg (List.map C.d (ruleC (List.getD l (Int.toNat i12) rule0)))])))), [])) else L126_3 okv va okt rt l g m ((Value.string
 (SRule.name (List.getD l (Int.toNat i12) rule0)), Value.bool true) :: l1) (IntKind.wrap .i64 (i12 + (1 : Int)))) else none))) else none) else none) else some (T.leaf (AV.c
 (C.d (.v (.int .i64 (0 : Int)))), []))) := by kernel_rfl
noncomputable def o127 (okv va : List AV → Bool) : Orc := Orc.cons 118 (ansG okv fun x => vB (va x)) (Orc.cons 120 (inl Tryz.prog Orc.nil na 1 Tryz.f120) Orc.nil)
noncomputable def ann127 : Ann := annOf [(3, ⟨[2, 5, 10, 11, 12], []⟩)]
noncomputable def L127_3 (okv va : List AV → Bool) (l : List SSet) (g m : Nat) (l1 : List (Value × Value)) (i12 : Int) := LK Tryz.prog (o127 okv va) ann127 0 g Tryz.f127 3 m ⟨frm [(2, .c (.ptr 0 0)), (5, .c (.mp 1)), (10, .c (.d (listD 2 setC set0 l))), (11, .c (.d (.v (.int .i64 (↑(List.length l) : Int))))), (12, .c (.d (.v (.int .i64 i12))))] 0 Tryz.f127.ntmps, [(0, Blk.cells [C.d (D.v (Value.func (Fn.func (118 : FuncId)) #[] #[])), C.d (D.v (Value.func (Fn.func (120 : FuncId)) #[] #[])), C.d (D.v Value.nilFunc)] 175), (1, Blk.map 0 l1)], 2⟩
theorem b127 : Tryz.f127.body = some (bodyOf Tryz.f127) := by kernel_rfl
theorem ev127 (okv va : List AV → Bool) (l : List SSet) (g : Nat) : callC Tryz.prog (o127 okv va) ann127 g Tryz.f127 (bodyOf Tryz.f127) [.agg [.d (dF 118), .d (dF 120), .d dNF], .c (.d (setsD l))] [] =
 L127_3 okv va l g g ([]) ((0 : Int)) := by kernel_rfl
theorem st127_3 (okv va : List AV → Bool) (l : List SSet) (g m : Nat) (l1 : List (Value × Value)) (i12 : Int) : L127_3 okv va l g (m + 1) l1 i12 =
 (bif decide (i12 < (↑(List.length l) : Int)) then (bif decide ((0 : Int) ≤ i12) && decide (i12 < (↑(List.length l) : Int)) then (bif okv [AV.agg (List.map C.d (setC (List.getD l
 (Int.toNat i12) set0)))] then (bif !va [AV.agg (List.map C.d (setC (List.getD l (Int.toNat i12) set0)))] then some (T.leaf (AV.c (.d (.v (.int .i64 (7 : Int)))), []))
 else (bif boolOf (assoc l1 (Value.string (SSet.name (List.getD l (Int.toNat i12) set0)))) then some (T.leaf (AV.c (.d (.v (.int .i64 (8 : Int)))), [])) else L127_3 okv
 va l g m ((Value.string (SSet.name (List.getD l (Int.toNat i12) set0)), Value.bool true) :: l1) (IntKind.wrap .i64 (i12 + (1 : Int))))) else none) else none) else some
 (T.leaf (AV.c (.d (.v (.int .i64 (0 : Int)))), []))) := by kernel_rfl
noncomputable def o128 (okv va okt : List AV → Bool) (rt : List AV → Int) : Orc := Orc.cons 121 (ansG okv fun x => vB (va x)) (Orc.cons 122 (inl Tryz.prog Orc.nil na 1 Tryz.f122) (Orc.cons 123 (ansG okt fun x => vI (rt x)) Orc.nil))
noncomputable def ann128 : Ann := annOf [(3, ⟨[2, 5, 10, 11, 12], []⟩)]
noncomputable def L128_3 (okv va okt : List AV → Bool) (rt : List AV → Int) (l : List SPub) (g m : Nat) (l1 : List (Value × Value)) (i12 : Int) := LK Tryz.prog (o128 okv va okt rt) ann128 0 g Tryz.f128 3 m ⟨frm [(2, .c (.ptr 0 0)), (5, .c (.mp 1)), (10, .c (.d (listD 3 pubC pub0 l))), (11, .c (.d (.v (.int .i64 (↑(List.length l) : Int))))), (12, .c (.d (.v (.int .i64 i12))))] 0 Tryz.f128.ntmps, [(0, Blk.cells [C.d (D.v (Value.func (Fn.func (121 : FuncId)) #[] #[])), C.d (D.v (Value.func (Fn.func (122 : FuncId)) #[] #[])), C.d (D.v (Value.func (Fn.func (123 : FuncId)) #[] #[]))] 180), (1, Blk.map 0 l1)], 2⟩
theorem b128 : Tryz.f128.body = some (bodyOf Tryz.f128) := by kernel_rfl
theorem ev128 (okv va okt : List AV → Bool) (rt : List AV → Int) (l : List SPub) (g : Nat) : callC Tryz.prog (o128 okv va okt rt) ann128 g Tryz.f128 (bodyOf Tryz.f128) [.agg [.d (dF 121), .d (dF 122), .d (dF 123)], .c (.d (pubsD l))] [] =
 L128_3 okv va okt rt l g g ([]) ((0 : Int)) := by kernel_rfl
theorem st128_3 (okv va okt : List AV → Bool) (rt : List AV → Int) (l : List SPub) (g m : Nat) (l1 : List (Value × Value)) (i12 : Int) : L128_3 okv va okt rt l g (m + 1) l1 i12 =
 (bif decide (i12 < (↑(List.length l) : Int)) then (bif decide ((0 : Int) ≤ i12) && decide (i12 < (↑(List.length l) : Int)) then (bif okv [AV.agg (List.map C.d (pubC (List.getD l
 (Int.toNat i12) pub0)))] then (bif !va [AV.agg (List.map C.d (pubC (List.getD l (Int.toNat i12) pub0)))] then some (T.leaf (AV.c (.d (.v (.int .i64 (7 : Int)))), []))
 else (bif boolOf (assoc l1 (Value.string (SPub.set (List.getD l (Int.toNat i12) pub0)))) then some (T.leaf (AV.c (.d (.v (.int .i64 (8 : Int)))), [])) else (bif okt
 [AV.agg (List.map C.d (pubC (List.getD l (Int.toNat i12) pub0)))] then (bif rt [AV.agg (List.map C.d (pubC (List.getD l (Int.toNat i12) pub0)))] != (0 : Int) then some (T.leaf (AV.c
 (C.d (.v (.int .i64 (rt [AV.agg (List.map C.d (pubC (List.getD l (Int.toNat i12) pub0)))])))), [])) else L128_3 okv va okt rt l g m ((Value.string (SPub.set (List.getD
 l (Int.toNat i12) pub0)), Value.bool true) :: l1) (IntKind.wrap .i64 (i12 + (1 : Int)))) else none))) else none) else none) else some (T.leaf (AV.c (C.d (D.v (Value.int
 IntKind.i64 (0 : Int)))), []))) := by kernel_rfl
noncomputable def o129 (okv va : List AV → Bool) : Orc := Orc.cons 124 (ansG okv fun x => vB (va x)) (Orc.cons 125 (inl Tryz.prog Orc.nil na 1 Tryz.f125) Orc.nil)
noncomputable def ann129 : Ann := annOf [(3, ⟨[2, 5, 10, 11, 12], []⟩)]
noncomputable def L129_3 (okv va : List AV → Bool) (l : List SSub) (g m : Nat) (l1 : List (Value × Value)) (i12 : Int) := LK Tryz.prog (o129 okv va) ann129 0 g Tryz.f129 3 m ⟨frm [(2, .c (.ptr 0 0)), (5, .c (.mp 1)), (10, .c (.d (listD 4 subC sub0 l))), (11, .c (.d (.v (.int .i64 (↑(List.length l) : Int))))), (12, .c (.d (.v (.int .i64 i12))))] 0 Tryz.f129.ntmps, [(0, Blk.cells [C.d (D.v (Value.func (Fn.func (124 : FuncId)) #[] #[])), C.d (D.v (Value.func (Fn.func (125 : FuncId)) #[] #[])), C.d (D.v Value.nilFunc)] 185), (1, Blk.map 0 l1)], 2⟩
theorem b129 : Tryz.f129.body = some (bodyOf Tryz.f129) := by kernel_rfl
theorem ev129 (okv va : List AV → Bool) (l : List SSub) (g : Nat) : callC Tryz.prog (o129 okv va) ann129 g Tryz.f129 (bodyOf Tryz.f129) [.agg [.d (dF 124), .d (dF 125), .d dNF], .c (.d (subsD l))] [] =
 L129_3 okv va l g g ([]) ((0 : Int)) := by kernel_rfl
theorem st129_3 (okv va : List AV → Bool) (l : List SSub) (g m : Nat) (l1 : List (Value × Value)) (i12 : Int) : L129_3 okv va l g (m + 1) l1 i12 =
 (bif decide (i12 < (↑(List.length l) : Int)) then (bif decide ((0 : Int) ≤ i12) && decide (i12 < (↑(List.length l) : Int)) then (bif okv [AV.agg (List.map C.d (subC (List.getD l
 (Int.toNat i12) sub0)))] then (bif !va [AV.agg (List.map C.d (subC (List.getD l (Int.toNat i12) sub0)))] then some (T.leaf (AV.c (.d (.v (.int .i64 (7 : Int)))), []))
 else (bif boolOf (assoc l1 (Value.string (SSub.loc (List.getD l (Int.toNat i12) sub0)))) then some (T.leaf (AV.c (.d (.v (.int .i64 (8 : Int)))), [])) else L129_3 okv
 va l g m ((Value.string (SSub.loc (List.getD l (Int.toNat i12) sub0)), Value.bool true) :: l1) (IntKind.wrap .i64 (i12 + (1 : Int))))) else none) else none) else some (T.leaf
 (AV.c (.d (.v (.int .i64 (0 : Int)))), []))) := by kernel_rfl
/-! together -/
noncomputable def o85 (ok1 ok2 ok3 ok4 : List AV → Bool) (f1 f2 f3 f4 : List AV → Int) : Orc := Orc.cons 126 (ansG ok1 fun x => vI (f1 x)) (Orc.cons 127 (ansG ok2 fun x => vI (f2 x)) (Orc.cons 128 (ansG ok3 fun x => vI (f3 x)) (Orc.cons 129 (ansG ok4 fun x => vI (f4 x)) Orc.nil)))
noncomputable def ann85 : Ann := annOf []
theorem b85 : Tryz.f85.body = some (bodyOf Tryz.f85) := by kernel_rfl
theorem ev85 (ok1 ok2 ok3 ok4 : List AV → Bool) (f1 f2 f3 f4 : List AV → Int) (r : SRel) (g : Nat) : callC Tryz.prog (o85 ok1 ok2 ok3 ok4 f1 f2 f3 f4) ann85 g Tryz.f85 (bodyOf Tryz.f85) [aRel r] [] =
 (bif ok1 [AV.agg [C.d (D.v (Value.func (Fn.func 114) #[] #[])), C.d (D.v (Value.func (Fn.func 116) #[] #[])), C.d (D.v (Value.func (Fn.func 117) #[] #[]))],
 AV.c (C.d (listD (2) ruleC rule0 (SRel.rules r)))] then (bif f1 [AV.agg [C.d (D.v (Value.func (Fn.func 114) #[] #[])), C.d (D.v (Value.func (Fn.func 116) #[]
 #[])), C.d (D.v (Value.func (Fn.func 117) #[] #[]))], AV.c (C.d (listD (2) ruleC rule0 (SRel.rules r)))] != (0 : Int) then some (T.leaf (AV.c (C.d (D.v (Value.int
 IntKind.i64 (f1 [AV.agg [C.d (D.v (Value.func (Fn.func 114) #[] #[])), C.d (D.v (Value.func (Fn.func 116) #[] #[])), C.d (D.v (Value.func (Fn.func 117) #[]
 #[]))], AV.c (C.d (listD (2) ruleC rule0 (SRel.rules r)))])))), [])) else (bif ok2 [AV.agg [C.d (D.v (Value.func (Fn.func 118) #[] #[])), C.d (D.v (Value.func
 (Fn.func 120) #[] #[])), C.d (D.v Value.nilFunc)], AV.c (C.d (listD (2) setC set0 (SRel.sets r)))] then (bif f2 [AV.agg [C.d (D.v (Value.func (Fn.func 118)
 #[] #[])), C.d (D.v (Value.func (Fn.func 120) #[] #[])), C.d (D.v Value.nilFunc)], AV.c (C.d (listD (2) setC set0 (SRel.sets r)))] != (0 : Int) then some (T.leaf
 (AV.c (.d (.v (.int .i64 (f2 [AV.agg [C.d (D.v (Value.func (Fn.func 118) #[] #[])), C.d (D.v (Value.func (Fn.func 120) #[] #[])), C.d (D.v
 Value.nilFunc)], AV.c (C.d (listD (2) setC set0 (SRel.sets r)))])))), [])) else (bif ok3 [AV.agg [C.d (D.v (Value.func (Fn.func 121) #[] #[])), C.d (D.v (Value.func
 (Fn.func 122) #[] #[])), C.d (D.v (Value.func (Fn.func 123) #[] #[]))], AV.c (C.d (listD (3) pubC pub0 (SRel.pubs r)))] then (bif f3 [AV.agg [C.d (D.v
 (Value.func (Fn.func 121) #[] #[])), C.d (D.v (Value.func (Fn.func 122) #[] #[])), C.d (D.v (Value.func (Fn.func 123) #[] #[]))], AV.c (C.d (listD ((3 :
 Nat)) pubC pub0 (SRel.pubs r)))] != (0 : Int) then some (T.leaf (AV.c (.d (.v (.int .i64 (f3 [AV.agg [C.d (D.v (Value.func (Fn.func 121) #[] #[])), C.d (D.v
 (Value.func (Fn.func 122) #[] #[])), C.d (D.v (Value.func (Fn.func 123) #[] #[]))], AV.c (C.d (listD (3) pubC pub0 (SRel.pubs r)))])))), [])) else (bif ok4
 [AV.agg [C.d (D.v (Value.func (Fn.func 124) #[] #[])), C.d (D.v (Value.func (Fn.func 125) #[] #[])), C.d (D.v Value.nilFunc)], AV.c (C.d (listD (4) subC sub0
 (SRel.subs r)))] then some (T.leaf (AV.c (.d (.v (.int .i64 (f4 [AV.agg [C.d (D.v (Value.func (Fn.func 124) #[] #[])), C.d (D.v (Value.func (Fn.func (125 :
 Nat)) #[] #[])), C.d (D.v Value.nilFunc)], AV.c (C.d (listD (4) subC sub0 (SRel.subs r)))])))), [])) else none)) else none)) else none)) else none) := by kernel_rfl
noncomputable def o113 : Orc := Orc.cons 112 (inl Tryz.prog (Orc.cons 108 (inl Tryz.prog Orc.nil na 1 Tryz.f108) Orc.nil) na 1 Tryz.f112) Orc.nil
noncomputable def ann141 : Ann := annOf [(2, ⟨[0, 1, 7, 8], []⟩)]
noncomputable def L141_2 (l : List SSet) (g m : Nat) (i8 : Int) := LK Tryz.prog o113 ann141 0 g Tryz.f141 2 m ⟨frm [(0, .c (.d (listD 2 setC set0 l))), (1, .c (.d (D.v (Value.func (Fn.func (112 : FuncId)) #[] #[])))), (7, .c (.d (.v (.int .i64 (↑(List.length l) : Int))))), (8, .c (.d (.v (.int .i64 i8))))] 0 Tryz.f141.ntmps, [], 0⟩
theorem b141 : Tryz.f141.body = some (bodyOf Tryz.f141) := by kernel_rfl
theorem ev141 (l : List SSet) (g : Nat) : callC Tryz.prog o113 ann141 g Tryz.f141 (bodyOf Tryz.f141) [.c (.d (setsD l)), .c (.d (dF 112))] [] =
 L141_2 l g g ((0 : Int)) := by kernel_rfl
theorem st141_2 (l : List SSet) (g m : Nat) (i8 : Int) : L141_2 l g (m + 1) i8 =
 (bif decide (i8 < (↑(List.length l) : Int)) then (bif decide ((0 : Int) ≤ i8) && decide (i8 < (↑(List.length l) : Int)) then (bif decide ((↑(List.length (SSet.sigs (List.getD l
 (Int.toNat i8) set0))) : Int) ≥ (1 : Int)) then (bif !decide ((↑(List.length (SSet.sigs (List.getD l (Int.toNat i8) set0))) : Int) ≤ (24 : Int)) then some (T.leaf (AV.c (C.d (D.v
 (Value.int IntKind.i64 i8))), [])) else L141_2 l g m (IntKind.wrap .i64 (i8 + (1 : Int)))) else some (T.leaf (AV.c (.d (.v (.int .i64 i8))), []))) else none)
 else some (T.leaf (AV.c (.d (.v (.int .i64 (-1 : Int)))), []))) := by kernel_rfl
noncomputable def o84 (oki : List AV → Bool) (ix : List AV → Int) : Orc := Orc.cons 113 (inl Tryz.prog (Orc.cons 141 (ansG oki fun x => vI (ix x)) Orc.nil) na 1 Tryz.f113) Orc.nil
noncomputable def ann84 : Ann := annOf []
theorem b84 : Tryz.f84.body = some (bodyOf Tryz.f84) := by kernel_rfl
theorem ev84 (oki : List AV → Bool) (ix : List AV → Int) (r : SRel) (g : Nat) : callC Tryz.prog (o84 oki ix) ann84 g Tryz.f84 (bodyOf Tryz.f84) [aRel r] [] =
 (bif decide ((↑(List.length (SRel.rules r)) : Int) ≤ (16 : Int)) then (bif decide ((↑(List.length (SRel.sets r)) : Int) ≤ (4 : Int)) then (bif decide ((↑(List.length (SRel.pubs r))
 : Int) ≤ (4 : Int)) then (bif decide ((↑(List.length (SRel.subs r)) : Int) ≤ (24 : Int)) then (bif oki [AV.c (C.d (listD (2) setC set0 (SRel.sets r))), AV.c (C.d (D.v
 (Value.func (Fn.func 112) #[] #[])))] then some (T.leaf (AV.c (.d (.v (.bool !decide (ix [AV.c (C.d (listD (2) setC set0 (SRel.sets r))), AV.c (C.d (D.v
 (Value.func (Fn.func 112) #[] #[])))] ≥ (0 : Int))))), [])) else none) else some (T.leaf (AV.c (.d (.v (.bool false))), []))) else some (T.leaf (AV.c (C.d (D.v
 (Value.bool false))), []))) else some (T.leaf (AV.c (.d (.v (.bool false))), []))) else some (T.leaf (AV.c (.d (.v (.bool false))), []))) := by kernel_rfl
end Go.Proofs.YtngoglhlhlfknaaGreat.se
namespace Go.Proofs.YtngoglhlhlfknaaGreat.se
open Go.RowKit Go.Eb Go.Proofs.YtngoglhlhlfknaaGreat.st
theorem sN {r : Orc} (h : OrcS Tryz.prog r) : OrcS Tryz.prog (oN nameOk r) := .cons (.p decS_ok c15) h
theorem sW : OrcS Tryz.prog (Orc.cons 108 (inl Tryz.prog Orc.nil na 1 Tryz.f108) Orc.nil) := .cons (.inl .nil Tryz.func108 (by kernel_rfl)) .nil
def eFn (f : FuncId) : Unit → AV := fun _ => .c (.d (dF f))
theorem eFn_inj (f : FuncId) : InjA (eFn f) := fun _ _ _ => rfl
abbrev eBus := aD busesD
theorem eBus_inj : InjA eBus := aD_inj (listD_inj (sz := 1) (d0 := e0) busC_inj)
theorem aRule_inj : InjA aRule := aG_inj ruleC_inj
theorem aSet_inj : InjA aSet := aG_inj setC_inj
theorem aPub_inj : InjA aPub := aG_inj pubC_inj
theorem aSub_inj : InjA aSub := aG_inj subC_inj
/-! words -/
theorem c115 (s : ByteArray) : CX Tryz.prog 115 [vS s] [] (vB (ev115_v s)) [] := cx_of (Orc.nil_ok _) Tryz.func115 (by kernel_rfl) rfl (ev115 s)
theorem c123 (x : SPub) : CX Tryz.prog 123 [aPub x] [] (vI (ev123_v x)) [] := cx_of sW.ok Tryz.func123 (by kernel_rfl) rfl (ev123 x)
theorem lp117 (x : SRule) (g : Nat) (hs : x.text.size ≤ 120) : ∀ (m k : Nat), k ≤ x.text.size → x.text.size - k < m → L117_4 x g m k = lN (bif (x.text.data.toList.drop k).any badByte then 5 else 0)
  | 0, k, _, h => by omega
  | m + 1, k, hk, h => by
    rw [st117_4]
    by_cases hlt : k < x.text.size
    · have hl : k < x.text.data.toList.length := by simpa using hlt
      have ih := lp117 x g hs m (k + 1) (by omega) (by omega)
      rw [drop_at' (d := 0) hl]
      rw [lt1 hlt, ge0, tn, nx hlt (by omega), ih]
      simp only [tt, cond_true, List.any_cons, badByte]
      generalize decide (((x.text.data.toList.getD k 0).toNat : Int) < 32) = a1
      generalize decide (((x.text.data.toList.getD k 0).toNat : Int) > 126) = a2
      generalize (((x.text.data.toList.getD k 0).toNat : Int) == 34) = a3
      cases a1 <;> cases a2 <;> cases a3 <;> rfl
    · rw [lt0 hlt, List.drop_of_length_le (by simp; omega)]
      rfl
theorem c117 (x : SRule) : CX Tryz.prog 117 [aRule x] [] (vI (textErr x.text)) [] := by
  obtain ⟨g, hg⟩ : ∃ g, x.text.size < g := ⟨x.text.size + 1, by omega⟩
  refine cx_of (Orc.nil_ok _) Tryz.func117 b117 rfl ((ev117 x g).trans ?_)
  have e : decide ((x.text.size : Int) > 120) = decide (120 < x.text.size) := by
    rw [Bool.eq_iff_iff, decide_eq_true_eq, decide_eq_true_eq]; omega
  unfold textErr
  rw [e]
  cases h1 : decide (120 < x.text.size) with
  | true => rfl
  | false =>
    have hs : x.text.size ≤ 120 := by simp at h1; omega
    have := lp117 x g hs g 0 (by omega) (by omega)
    simp only [cond_false]
    exact this
/-! names -/
theorem s147 : OrcS Tryz.prog (o147 nameOk) := .cons (.inl (sN .nil) Tryz.func143 (by kernel_rfl)) .nil
theorem c147 (l : List ByteArray) (hl : l.length ≤ 9223372036854775807) : CX Tryz.prog 147 [.c (.d (busesD l)), .c (.d (dF 143))] [] (vI (idxP (fun s => !nameOk s) 0 l)) [] := by
  obtain ⟨g, hg⟩ : ∃ g, l.length < g := ⟨l.length + 1, by omega⟩
  refine cx_of s147.ok Tryz.func147 b147 rfl ((ev147 nameOk l g).trans ?_)
  have := idx_loop (p := fun s => !nameOk s) (l := l) (d0 := e0) (L := fun m i => L147_2 nameOk l g m i) (fun m k hk => by
    rw [st147_2, lt1 hk, ge0, tn, nx hk hl]
    simp only [tt, cond_true]) (fun m => by rw [st147_2, lt0 (Nat.lt_irrefl _)]; rfl) g 0 (by omega) (by omega)
  exact this
abbrev eNm := en2 eBus (eFn 143)
theorem eNm_inj : InjT eNm := en2_inj eBus_inj (eFn_inj _)
def cLen {α β : Type} (a : List α × β) : Bool := lenOk a.1
theorem s142 : OrcS Tryz.prog (o142 (okG eNm cLen) fun x => idxP (fun s => !nameOk s) 0 (theT eNm x).1) :=
  .cons (.inl (.cons (.t' (r := fun (a : List ByteArray × Unit) => vI (idxP (fun s => !nameOk s) 0 a.1)) fun a h => c147 a.1 (lenOk_le h)) .nil) Tryz.func142 (by kernel_rfl)) .nil
theorem anyAll (l : List ByteArray) : (!l.any fun s => !nameOk s) = l.all nameOk := by
  induction l with
  | nil => rfl
  | cons x r ih => simp only [List.any_cons, List.all_cons, Bool.not_or, ih, Bool.not_not]
theorem c119 (l : List ByteArray) (hl : lenOk l = true) : CX Tryz.prog 119 [.c (.d (busesD l))] [] (vB (l.all nameOk)) [] := by
  refine cx_of s142.ok Tryz.func119 b119 rfl ((ev119 _ _ l 1).trans ?_)
  have k := okG_enc eNm_inj (c := cLen) (l, ()) hl
  have t := theT_enc eNm_inj (l, ())
  simp only [en2, aD, eFn] at k t
  rw [k, t, idxP_ge, anyAll]
  rfl
/-! validity -/
noncomputable def ruleOk (x : SRule) : Bool := nameOk x.name && !ev115_v x.name
def setOk (x : SSet) : Bool := nameOk x.name && x.sigs.all nameOk
def pubOk (x : SPub) : Bool := nameOk x.set
def subOk (x : SSub) : Bool := nameOk x.loc && (nameOk x.dev && (nameOk x.set && nameOk x.sig))
theorem c114 (x : SRule) : CX Tryz.prog 114 [aRule x] [] (vB (ruleOk x)) [] := by
  refine cx_of (sN (.cons (.p decS_ok c115) .nil)).ok Tryz.func114 (by kernel_rfl) rfl ((ev114 nameOk ev115_v x).trans ?_)
  unfold ev114_v ruleOk
  cases nameOk x.name <;> rfl
abbrev eB1 := en1 eBus
theorem eB1_inj : InjT eB1 := en1_inj eBus_inj
theorem c118 (x : SSet) (hx : okSet x = true) : CX Tryz.prog 118 [aSet x] [] (vB (setOk x)) [] := by
  refine cx_of (sN (.cons (.t' (enc := eB1) (c := lenOk) (r := fun a => vB (a.all nameOk)) fun a h => c119 a h) .nil)).ok Tryz.func118 b118 rfl ((ev118 nameOk (okG eB1 lenOk) (fun y => (theT eB1 y).all nameOk) x 1).trans ?_)
  have k := okG_enc eB1_inj (c := lenOk) x.sigs hx
  have t := theT_enc eB1_inj x.sigs
  simp only [en1, aD] at k t
  rw [k, t]
  unfold setOk
  cases nameOk x.name <;> rfl
theorem c121 (x : SPub) : CX Tryz.prog 121 [aPub x] [] (vB (pubOk x)) [] := cx_of (sN .nil).ok Tryz.func121 (by kernel_rfl) rfl (ev121 nameOk x)
theorem s124 : OrcS Tryz.prog (o124 nameOk) := .cons (.inl (.cons (.inl (.cons (.inl s147 Tryz.func147 (by kernel_rfl)) .nil) Tryz.func142 (by kernel_rfl)) .nil) Tryz.func119 (by kernel_rfl)) .nil
theorem c124 (x : SSub) : CX Tryz.prog 124 [aSub x] [] (vB (subOk x)) [] := by
  refine cx_of s124.ok Tryz.func124 b124 rfl ((ev124 nameOk x 1).trans ?_)
  unfold subOk
  cases nameOk x.loc <;> cases nameOk x.dev <;> cases nameOk x.set <;> cases nameOk x.sig <;> rfl
/-! lists -/
def c1 {α : Type} (_ : α) : Bool := true
abbrev eRu := en1 aRule
abbrev eSe := en1 aSet
abbrev ePu := en1 aPub
abbrev eSu := en1 aSub
theorem eRu_inj : InjT eRu := en1_inj aRule_inj
theorem eSe_inj : InjT eSe := en1_inj aSet_inj
theorem ePu_inj : InjT ePu := en1_inj aPub_inj
theorem eSu_inj : InjT eSu := en1_inj aSub_inj
theorem assocN (seen : List ByteArray) (s : ByteArray) : boolOf (assoc (mapOf seen) (.string s)) = inB seen s := assoc_mapOf seen s
theorem s126 : OrcS Tryz.prog (o126 (okG eRu c1) (fun x => ruleOk (theT eRu x)) (okG eRu c1) fun x => textErr (theT eRu x).text) :=
  .cons (.t' (r := fun a => vB (ruleOk a)) fun a _ => c114 a) (.cons (.inl .nil Tryz.func116 (by kernel_rfl)) (.cons (.t' (r := fun (a : SRule) => vI (textErr a.text)) fun a _ => c117 a) .nil))
theorem c126 (l : List SRule) (hl : lenOk l = true) : CX Tryz.prog 126 [.agg [.d (dF 114), .d (dF 116), .d (dF 117)], .c (.d (rulesD l))] [] (vI (listErr ruleOk SRule.name (fun x => textErr x.text) [] l)) [] := by
  obtain ⟨g, hg⟩ : ∃ g, l.length < g := ⟨l.length + 1, by omega⟩
  refine cx_of s126.ok Tryz.func126 b126 rfl ((ev126 _ _ _ _ l g).trans ?_)
  have := seen_loop (valid := ruleOk) (key := SRule.name) (rest := fun x => textErr x.text) (l := l) (d0 := rule0) (L := fun m mp i => L126_3 (okG eRu c1) (fun x => ruleOk (theT eRu x)) (okG eRu c1) (fun x => textErr (theT eRu x).text) l g m mp i) (fun m k seen hk => by
    have k1 := okG_enc eRu_inj (c := c1) (l.getD k rule0) rfl
    have t1 := theT_enc eRu_inj (l.getD k rule0)
    simp only [en1] at k1 t1
    rw [st126_3, lt1 hk, ge0, tn, nx hk (lenOk_le hl), k1, t1, assocN, mapOf_app]
    simp only [tt, cond_true]) (fun m mp => by rw [st126_3, lt0 (Nat.lt_irrefl _)]; rfl) g 0 [] (by omega) (by omega)
  exact this
theorem s127 : OrcS Tryz.prog (o127 (okG eSe okSet) fun x => setOk (theT eSe x)) := .cons (.t' (r := fun a => vB (setOk a)) fun a h => c118 a h) (.cons (.inl .nil Tryz.func120 (by kernel_rfl)) .nil)
def rest0 {α : Type} (_ : α) : Int := 0
theorem c127 (l : List SSet) (hl : lenOk l = true) (ha : l.all okSet = true) : CX Tryz.prog 127 [.agg [.d (dF 118), .d (dF 120), .d dNF], .c (.d (setsD l))] [] (vI (listErr setOk SSet.name rest0 [] l)) [] := by
  obtain ⟨g, hg⟩ : ∃ g, l.length < g := ⟨l.length + 1, by omega⟩
  refine cx_of s127.ok Tryz.func127 b127 rfl ((ev127 _ _ l g).trans ?_)
  have := seen_loop (valid := setOk) (key := SSet.name) (rest := rest0) (l := l) (d0 := set0) (L := fun m mp i => L127_3 (okG eSe okSet) (fun x => setOk (theT eSe x)) l g m mp i) (fun m k seen hk => by
    have k1 := okG_enc eSe_inj (c := okSet) (l.getD k set0) (all_getD ha rfl k)
    have t1 := theT_enc eSe_inj (l.getD k set0)
    simp only [en1] at k1 t1
    rw [st127_3, lt1 hk, ge0, tn, nx hk (lenOk_le hl), k1, t1, assocN, mapOf_app]
    simp only [tt, cond_true]
    rfl) (fun m mp => by rw [st127_3, lt0 (Nat.lt_irrefl _)]; rfl) g 0 [] (by omega) (by omega)
  exact this
theorem s128 : OrcS Tryz.prog (o128 (okG ePu c1) (fun x => pubOk (theT ePu x)) (okG ePu c1) fun x => ev123_v (theT ePu x)) :=
  .cons (.t' (r := fun a => vB (pubOk a)) fun a _ => c121 a) (.cons (.inl .nil Tryz.func122 (by kernel_rfl)) (.cons (.t' (r := fun (a : SPub) => vI (ev123_v a)) fun a _ => c123 a) .nil))
theorem c128 (l : List SPub) (hl : lenOk l = true) : CX Tryz.prog 128 [.agg [.d (dF 121), .d (dF 122), .d (dF 123)], .c (.d (pubsD l))] [] (vI (listErr pubOk SPub.set ev123_v [] l)) [] := by
  obtain ⟨g, hg⟩ : ∃ g, l.length < g := ⟨l.length + 1, by omega⟩
  refine cx_of s128.ok Tryz.func128 b128 rfl ((ev128 _ _ _ _ l g).trans ?_)
  have := seen_loop (valid := pubOk) (key := SPub.set) (rest := ev123_v) (l := l) (d0 := pub0) (L := fun m mp i => L128_3 (okG ePu c1) (fun x => pubOk (theT ePu x)) (okG ePu c1) (fun x => ev123_v (theT ePu x)) l g m mp i) (fun m k seen hk => by
    have k1 := okG_enc ePu_inj (c := c1) (l.getD k pub0) rfl
    have t1 := theT_enc ePu_inj (l.getD k pub0)
    simp only [en1] at k1 t1
    rw [st128_3, lt1 hk, ge0, tn, nx hk (lenOk_le hl), k1, t1, assocN, mapOf_app]
    simp only [tt, cond_true]) (fun m mp => by rw [st128_3, lt0 (Nat.lt_irrefl _)]; rfl) g 0 [] (by omega) (by omega)
  exact this
theorem s129 : OrcS Tryz.prog (o129 (okG eSu c1) fun x => subOk (theT eSu x)) := .cons (.t' (r := fun a => vB (subOk a)) fun a _ => c124 a) (.cons (.inl .nil Tryz.func125 (by kernel_rfl)) .nil)
theorem c129 (l : List SSub) (hl : lenOk l = true) : CX Tryz.prog 129 [.agg [.d (dF 124), .d (dF 125), .d dNF], .c (.d (subsD l))] [] (vI (listErr subOk SSub.loc rest0 [] l)) [] := by
  obtain ⟨g, hg⟩ : ∃ g, l.length < g := ⟨l.length + 1, by omega⟩
  refine cx_of s129.ok Tryz.func129 b129 rfl ((ev129 _ _ l g).trans ?_)
  have := seen_loop (valid := subOk) (key := SSub.loc) (rest := rest0) (l := l) (d0 := sub0) (L := fun m mp i => L129_3 (okG eSu c1) (fun x => subOk (theT eSu x)) l g m mp i) (fun m k seen hk => by
    have k1 := okG_enc eSu_inj (c := c1) (l.getD k sub0) rfl
    have t1 := theT_enc eSu_inj (l.getD k sub0)
    simp only [en1] at k1 t1
    rw [st129_3, lt1 hk, ge0, tn, nx hk (lenOk_le hl), k1, t1, assocN, mapOf_app]
    simp only [tt, cond_true]
    rfl) (fun m mp => by rw [st129_3, lt0 (Nat.lt_irrefl _)]; rfl) g 0 [] (by omega) (by omega)
  exact this
end Go.Proofs.YtngoglhlhlfknaaGreat.se
namespace Go.Eb
open Go.RowKit
def dec3 : List AV → Option (Int × Int × Int)
  | [.c (.d (.v (.int .i64 a))), .c (.d (.v (.int .i64 b))), .c (.d (.v (.int .i64 c)))] => some (a, b, c)
  | _ => none
theorem dec3_ok (args : List AV) (a : Int × Int × Int) (h : dec3 args = some a) : args = [vI a.1, vI a.2.1, vI a.2.2] := by
  unfold dec3 at h
  split at h
  · cases h; rfl
  · simp at h
def decE : List AV → Option (Bool × Int × Int × Int)
  | [.agg [.d (.v (.bool o)), .d (.v (.int .i64 a)), .d (.v (.int .i64 b))], .c (.d (.v (.int .i64 c)))] => some (o, a, b, c)
  | _ => none
theorem decE_ok (args : List AV) (a : Bool × Int × Int × Int) (h : decE args = some a) : args = [.agg [.d (dB a.1), .d (dI a.2.1), .d (dI a.2.2.1)], vI a.2.2.2] := by
  unfold decE at h
  split at h
  · cases h; rfl
  · simp at h
def elOk (on : Bool) (pk dl least : Int) : Bool := bif on then within pk 1 16383 && within dl least 500 else (pk == 0) && (dl == 0)
end Go.Eb
namespace Go.Proofs.YtngoglhlhlfknaaGreat.se
open Go.RowKit Go.Eb
noncomputable def oWi : Orc := Orc.cons 108 (inl Tryz.prog Orc.nil na 1 Tryz.f108) Orc.nil
noncomputable def oW3 : Orc := Orc.cons 108 (ansP dec3 fun a => vB (within a.1 a.2.1 a.2.2)) Orc.nil
noncomputable def oE3 : Orc := Orc.cons 110 (ansP decE fun a => vB (elOk a.1 a.2.1 a.2.2.1 a.2.2.2)) oW3
noncomputable def oZo : Orc := Orc.cons 111 (inl Tryz.prog oW3 na 1 Tryz.f111) oW3
theorem evWi_t (a b c : Int) : callC Tryz.prog Orc.nil na 5 Tryz.f108 (bodyOf Tryz.f108) [vI a, vI b, vI c] [] =
 (bif decide (a ≥ b) then some (T.leaf (AV.c (.d (.v (.bool (decide (a ≤ c))))), [])) else some (T.leaf (AV.c (.d (.v (.bool false))), []))) := by kernel_rfl
noncomputable def evWi_v (a b c : Int) : Bool :=
 (bif decide (a ≥ b) then ((decide (a ≤ c))) else (false))
theorem evWi (a b c : Int) : callC Tryz.prog Orc.nil na 5 Tryz.f108 (bodyOf Tryz.f108) [vI a, vI b, vI c] [] = some (.leaf (vB (evWi_v a b c), [])) := by
  rw [evWi_t]
  unfold evWi_v
  simp only [bLeaf]
theorem evEl_t (o : Bool) (a b c : Int) : callC Tryz.prog oW3 na 5 Tryz.f110 (bodyOf Tryz.f110) [.agg [.d (dB o), .d (dI a), .d (dI b)], vI c] [] =
 (bif !o then some (T.leaf (AV.c (.d (.v (.bool (o == false && (a == (0 : Int) && (b == (0 : Int) && true)))))), [])) else (bif within a (1 : Int) (16383 : Int) then some
 (T.leaf (AV.c (.d (.v (.bool (within b c (500 : Int))))), [])) else some (T.leaf (AV.c (.d (.v (.bool false))), [])))) := by kernel_rfl
noncomputable def evEl_v (o : Bool) (a b c : Int) : Bool :=
 (bif !o then ((o == false && (a == (0 : Int) && (b == (0 : Int) && true)))) else (bif within a (1 : Int) (16383 : Int) then ((within b c (500 : Int))) else (false)))
theorem evEl (o : Bool) (a b c : Int) : callC Tryz.prog oW3 na 5 Tryz.f110 (bodyOf Tryz.f110) [.agg [.d (dB o), .d (dI a), .d (dI b)], vI c] [] = some (.leaf (vB (evEl_v o a b c), [])) := by
  rw [evEl_t]
  unfold evEl_v
  simp only [bLeaf]
theorem ev78_t (r : SRel) : callC Tryz.prog oW3 na 5 Tryz.f78 (bodyOf Tryz.f78) [aRel r] [] =
 (bif SRel.kind r != (1 : Int) then (bif SRel.zon0 r == false && (SRel.zfw0 r == false && (SRel.zx0 r == (0 : Int) && (SRel.zr0 r == (0 : Int) && (SRel.zl0 r == (0 : Int) &&
 (SRel.zd0 r == (0 : Int) && true))))) && (SRel.zon1 r == false && (SRel.zfw1 r == false && (SRel.zx1 r == (0 : Int) && (SRel.zr1 r == (0 : Int) && (SRel.zl1 r == (0 : Int) &&
 (SRel.zd1 r == (0 : Int) && true))))) && (SRel.zon2 r == false && (SRel.zfw2 r == false && (SRel.zx2 r == (0 : Int) && (SRel.zr2 r == (0 : Int) && (SRel.zl2 r == (0 : Int) &&
 (SRel.zd2 r == (0 : Int) && true))))) && true)) then (bif SRel.min r == (0 : Int) then (bif SRel.kre r == (0 : Int) then (bif SRel.kim r == (0 : Int) then (bif SRel.scheme r == (0 :
 Int) then (bif SRel.wait r == (0 : Int) then (bif SRel.guard r == (0 : Int) then (bif SRel.shots r == (0 : Int) then (bif SRel.dead r == (0 : Int) then (bif SRel.kind r != (2 : Int)
 then (bif SRel.reclaim r == (0 : Int) then (bif SRel.uon r == false && (SRel.upk r == (0 : Int) && (SRel.udl r == (0 : Int) && true)) then (bif SRel.kind r == (4 : Int) then (bif
 SRel.oon r == false && (SRel.opk r == (0 : Int) && (SRel.odl r == (0 : Int) && true)) then (bif SRel.don r == false && (SRel.dpk r == (0 : Int) && (SRel.ddl r == (0 : Int) && true))
 then (bif SRel.ion r == false && (SRel.ipk r == (0 : Int) && (SRel.idl r == (0 : Int) && true)) then some (T.leaf (AV.c (.d (.v (.bool (SRel.fon r == false && (SRel.fpk r ==
 (0 : Int) && (SRel.fdl r == (0 : Int) && true)))))), [])) else some (T.leaf (AV.c (.d (.v (.bool false))), []))) else some (T.leaf (AV.c (.d (.v (.bool false))), [])))
 else some (T.leaf (AV.c (.d (.v (.bool false))), []))) else (bif SRel.oon r == false && (SRel.opk r == (0 : Int) && (SRel.odl r == (0 : Int) && true)) then (bif SRel.diff r
 == (0 : Int) then (bif SRel.num r == (0 : Int) then (bif SRel.den r == (0 : Int) then some (T.leaf (AV.c (.d (.v (.bool (SRel.harm r == (0 : Int))))), [])) else some (T.leaf
 (AV.c (.d (.v (.bool false))), []))) else some (T.leaf (AV.c (.d (.v (.bool false))), []))) else some (T.leaf (AV.c (.d (.v (.bool false))), []))) else some
 (T.leaf (AV.c (.d (.v (.bool false))), [])))) else (bif SRel.kind r == (4 : Int) then some (T.leaf (AV.c (.d (.v (.bool false))), [])) else some (T.leaf (AV.c (C.d
 (D.v (.bool false))), [])))) else (bif SRel.kind r == (4 : Int) then some (T.leaf (AV.c (.d (.v (.bool false))), [])) else some (T.leaf (AV.c (C.d (D.v (Value.bool
 false))), [])))) else (bif SRel.kind r == (4 : Int) then (bif SRel.reclaim r == (0 : Int) then (bif SRel.don r == false && (SRel.dpk r == (0 : Int) && (SRel.ddl r == (0 : Int) &&
 true)) then (bif SRel.ion r == false && (SRel.ipk r == (0 : Int) && (SRel.idl r == (0 : Int) && true)) then some (T.leaf (AV.c (.d (.v (.bool (SRel.fon r == false &&
 (SRel.fpk r == (0 : Int) && (SRel.fdl r == (0 : Int) && true)))))), [])) else some (T.leaf (AV.c (.d (.v (.bool false))), []))) else some (T.leaf (AV.c (C.d (D.v (Value.bool
 false))), []))) else some (T.leaf (AV.c (.d (.v (.bool false))), []))) else (bif SRel.reclaim r == (0 : Int) then (bif SRel.diff r == (0 : Int) then (bif SRel.num r == (0 :
 Int) then (bif SRel.den r == (0 : Int) then some (T.leaf (AV.c (.d (.v (.bool (SRel.harm r == (0 : Int))))), [])) else some (T.leaf (AV.c (.d (.v (.bool false))),
 []))) else some (T.leaf (AV.c (.d (.v (.bool false))), []))) else some (T.leaf (AV.c (.d (.v (.bool false))), []))) else some (T.leaf (AV.c (C.d (D.v (Value.bool
 false))), []))))) else (bif SRel.kind r != (2 : Int) then (bif SRel.kind r == (4 : Int) then some (T.leaf (AV.c (.d (.v (.bool false))), [])) else some (T.leaf (AV.c (C.d
 (D.v (.bool false))), []))) else (bif SRel.kind r == (4 : Int) then some (T.leaf (AV.c (.d (.v (.bool false))), [])) else some (T.leaf (AV.c (C.d (D.v (Value.bool
 false))), []))))) else (bif SRel.kind r != (2 : Int) then (bif SRel.kind r == (4 : Int) then some (T.leaf (AV.c (.d (.v (.bool false))), [])) else some (T.leaf (AV.c (C.d
 (D.v (.bool false))), []))) else (bif SRel.kind r == (4 : Int) then some (T.leaf (AV.c (.d (.v (.bool false))), [])) else some (T.leaf (AV.c (C.d (D.v (Value.bool
 false))), []))))) else (bif SRel.kind r != (2 : Int) then (bif SRel.kind r == (4 : Int) then some (T.leaf (AV.c (.d (.v (.bool false))), [])) else some (T.leaf (AV.c (C.d
 (D.v (.bool false))), []))) else (bif SRel.kind r == (4 : Int) then some (T.leaf (AV.c (.d (.v (.bool false))), [])) else some (T.leaf (AV.c (C.d (D.v (Value.bool
 false))), []))))) else (bif SRel.kind r != (2 : Int) then (bif SRel.kind r == (4 : Int) then some (T.leaf (AV.c (.d (.v (.bool false))), [])) else some (T.leaf (AV.c (C.d
 (D.v (.bool false))), []))) else (bif SRel.kind r == (4 : Int) then some (T.leaf (AV.c (.d (.v (.bool false))), [])) else some (T.leaf (AV.c (C.d (D.v (Value.bool
 false))), []))))) else (bif SRel.kind r != (2 : Int) then (bif SRel.kind r == (4 : Int) then some (T.leaf (AV.c (.d (.v (.bool false))), [])) else some (T.leaf (AV.c (C.d
 (D.v (.bool false))), []))) else (bif SRel.kind r == (4 : Int) then some (T.leaf (AV.c (.d (.v (.bool false))), [])) else some (T.leaf (AV.c (C.d (D.v (Value.bool
 false))), []))))) else (bif SRel.kind r != (2 : Int) then (bif SRel.kind r == (4 : Int) then some (T.leaf (AV.c (.d (.v (.bool false))), [])) else some (T.leaf (AV.c (C.d
 (D.v (.bool false))), []))) else (bif SRel.kind r == (4 : Int) then some (T.leaf (AV.c (.d (.v (.bool false))), [])) else some (T.leaf (AV.c (C.d (D.v (Value.bool
 false))), []))))) else (bif SRel.kind r != (2 : Int) then (bif SRel.kind r == (4 : Int) then some (T.leaf (AV.c (.d (.v (.bool false))), [])) else some (T.leaf (AV.c (C.d
 (D.v (.bool false))), []))) else (bif SRel.kind r == (4 : Int) then some (T.leaf (AV.c (.d (.v (.bool false))), [])) else some (T.leaf (AV.c (C.d (D.v (Value.bool
 false))), []))))) else (bif SRel.kind r != (2 : Int) then (bif SRel.kind r == (4 : Int) then some (T.leaf (AV.c (.d (.v (.bool false))), [])) else some (T.leaf (AV.c (C.d
 (D.v (.bool false))), []))) else (bif SRel.kind r == (4 : Int) then some (T.leaf (AV.c (.d (.v (.bool false))), [])) else some (T.leaf (AV.c (C.d (D.v (Value.bool
 false))), []))))) else (bif SRel.kind r != (2 : Int) then (bif SRel.kind r == (4 : Int) then some (T.leaf (AV.c (.d (.v (.bool false))), [])) else some (T.leaf (AV.c (C.d
 (D.v (.bool false))), []))) else (bif SRel.kind r == (4 : Int) then some (T.leaf (AV.c (.d (.v (.bool false))), [])) else some (T.leaf (AV.c (C.d (D.v (Value.bool
 false))), []))))) else (bif SRel.kind r != (2 : Int) then (bif SRel.uon r == false && (SRel.upk r == (0 : Int) && (SRel.udl r == (0 : Int) && true)) then (bif SRel.kind r == (4 :
 Int) then (bif SRel.oon r == false && (SRel.opk r == (0 : Int) && (SRel.odl r == (0 : Int) && true)) then (bif SRel.don r == false && (SRel.dpk r == (0 : Int) && (SRel.ddl r == (0 :
 Int) && true)) then (bif SRel.ion r == false && (SRel.ipk r == (0 : Int) && (SRel.idl r == (0 : Int) && true)) then some (T.leaf (AV.c (.d (.v (.bool (SRel.fon r == false &&
 (SRel.fpk r == (0 : Int) && (SRel.fdl r == (0 : Int) && true)))))), [])) else some (T.leaf (AV.c (.d (.v (.bool false))), []))) else some (T.leaf (AV.c (C.d (D.v (Value.bool
 false))), []))) else some (T.leaf (AV.c (.d (.v (.bool false))), []))) else (bif SRel.oon r == false && (SRel.opk r == (0 : Int) && (SRel.odl r == (0 : Int) && true)) then
 (bif SRel.diff r == (0 : Int) then (bif SRel.num r == (0 : Int) then (bif SRel.den r == (0 : Int) then some (T.leaf (AV.c (.d (.v (.bool (SRel.harm r == (0 : Int))))), []))
 else some (T.leaf (AV.c (.d (.v (.bool false))), []))) else some (T.leaf (AV.c (.d (.v (.bool false))), []))) else some (T.leaf (AV.c (.d (.v (.bool false))),
 []))) else some (T.leaf (AV.c (.d (.v (.bool false))), [])))) else (bif SRel.kind r == (4 : Int) then some (T.leaf (AV.c (.d (.v (.bool false))), [])) else some
 (T.leaf (AV.c (.d (.v (.bool false))), [])))) else (bif SRel.kind r == (4 : Int) then (bif SRel.don r == false && (SRel.dpk r == (0 : Int) && (SRel.ddl r == (0 : Int) &&
 true)) then (bif SRel.ion r == false && (SRel.ipk r == (0 : Int) && (SRel.idl r == (0 : Int) && true)) then some (T.leaf (AV.c (.d (.v (.bool (SRel.fon r == false &&
 (SRel.fpk r == (0 : Int) && (SRel.fdl r == (0 : Int) && true)))))), [])) else some (T.leaf (AV.c (.d (.v (.bool false))), []))) else some (T.leaf (AV.c (C.d (D.v (Value.bool
 false))), []))) else (bif SRel.diff r == (0 : Int) then (bif SRel.num r == (0 : Int) then (bif SRel.den r == (0 : Int) then some (T.leaf (AV.c (.d (.v (.bool (SRel.harm r ==
 (0 : Int))))), [])) else some (T.leaf (AV.c (.d (.v (.bool false))), []))) else some (T.leaf (AV.c (.d (.v (.bool false))), []))) else some (T.leaf (AV.c (C.d (D.v
 (Value.bool false))), [])))))) := by kernel_rfl
noncomputable def ev78_v (r : SRel) : Bool :=
 (bif SRel.kind r != (1 : Int) then (bif SRel.zon0 r == false && (SRel.zfw0 r == false && (SRel.zx0 r == (0 : Int) && (SRel.zr0 r == (0 : Int) && (SRel.zl0 r == (0 : Int) &&
 (SRel.zd0 r == (0 : Int) && true))))) && (SRel.zon1 r == false && (SRel.zfw1 r == false && (SRel.zx1 r == (0 : Int) && (SRel.zr1 r == (0 : Int) && (SRel.zl1 r == (0 : Int) &&
 (SRel.zd1 r == (0 : Int) && true))))) && (SRel.zon2 r == false && (SRel.zfw2 r == false && (SRel.zx2 r == (0 : Int) && (SRel.zr2 r == (0 : Int) && (SRel.zl2 r == (0 : Int) &&
 (SRel.zd2 r == (0 : Int) && true))))) && true)) then (bif SRel.min r == (0 : Int) then (bif SRel.kre r == (0 : Int) then (bif SRel.kim r == (0 : Int) then (bif SRel.scheme r == (0 :
 Int) then (bif SRel.wait r == (0 : Int) then (bif SRel.guard r == (0 : Int) then (bif SRel.shots r == (0 : Int) then (bif SRel.dead r == (0 : Int) then (bif SRel.kind r != (2 : Int)
 then (bif SRel.reclaim r == (0 : Int) then (bif SRel.uon r == false && (SRel.upk r == (0 : Int) && (SRel.udl r == (0 : Int) && true)) then (bif SRel.kind r == (4 : Int) then (bif
 SRel.oon r == false && (SRel.opk r == (0 : Int) && (SRel.odl r == (0 : Int) && true)) then (bif SRel.don r == false && (SRel.dpk r == (0 : Int) && (SRel.ddl r == (0 : Int) && true))
 then (bif SRel.ion r == false && (SRel.ipk r == (0 : Int) && (SRel.idl r == (0 : Int) && true)) then ((SRel.fon r == false && (SRel.fpk r == (0 : Int) && (SRel.fdl r == (0 : Int) &&
 true)))) else (false)) else (false)) else (false)) else (bif SRel.oon r == false && (SRel.opk r == (0 : Int) && (SRel.odl r == (0 : Int) && true)) then (bif SRel.diff r == (0 : Int)
 then (bif SRel.num r == (0 : Int) then (bif SRel.den r == (0 : Int) then ((SRel.harm r == (0 : Int))) else (false)) else (false)) else (false)) else (false))) else (bif SRel.kind r
 == (4 : Int) then (false) else (false))) else (bif SRel.kind r == (4 : Int) then (false) else (false))) else (bif SRel.kind r == (4 : Int) then (bif SRel.reclaim r == (0 : Int) then
 (bif SRel.don r == false && (SRel.dpk r == (0 : Int) && (SRel.ddl r == (0 : Int) && true)) then (bif SRel.ion r == false && (SRel.ipk r == (0 : Int) && (SRel.idl r == (0 : Int) &&
 true)) then ((SRel.fon r == false && (SRel.fpk r == (0 : Int) && (SRel.fdl r == (0 : Int) && true)))) else (false)) else (false)) else (false)) else (bif SRel.reclaim r == (0 : Int)
 then (bif SRel.diff r == (0 : Int) then (bif SRel.num r == (0 : Int) then (bif SRel.den r == (0 : Int) then ((SRel.harm r == (0 : Int))) else (false)) else (false)) else (false))
 else (false)))) else (bif SRel.kind r != (2 : Int) then (bif SRel.kind r == (4 : Int) then (false) else (false)) else (bif SRel.kind r == (4 : Int) then (false) else (false)))) else
 (bif SRel.kind r != (2 : Int) then (bif SRel.kind r == (4 : Int) then (false) else (false)) else (bif SRel.kind r == (4 : Int) then (false) else (false)))) else (bif SRel.kind r !=
 (2 : Int) then (bif SRel.kind r == (4 : Int) then (false) else (false)) else (bif SRel.kind r == (4 : Int) then (false) else (false)))) else (bif SRel.kind r != (2 : Int) then (bif
 SRel.kind r == (4 : Int) then (false) else (false)) else (bif SRel.kind r == (4 : Int) then (false) else (false)))) else (bif SRel.kind r != (2 : Int) then (bif SRel.kind r == (4 :
 Int) then (false) else (false)) else (bif SRel.kind r == (4 : Int) then (false) else (false)))) else (bif SRel.kind r != (2 : Int) then (bif SRel.kind r == (4 : Int) then (false)
 else (false)) else (bif SRel.kind r == (4 : Int) then (false) else (false)))) else (bif SRel.kind r != (2 : Int) then (bif SRel.kind r == (4 : Int) then (false) else (false)) else
 (bif SRel.kind r == (4 : Int) then (false) else (false)))) else (bif SRel.kind r != (2 : Int) then (bif SRel.kind r == (4 : Int) then (false) else (false)) else (bif SRel.kind r ==
 (4 : Int) then (false) else (false)))) else (bif SRel.kind r != (2 : Int) then (bif SRel.kind r == (4 : Int) then (false) else (false)) else (bif SRel.kind r == (4 : Int) then
 (false) else (false)))) else (bif SRel.kind r != (2 : Int) then (bif SRel.uon r == false && (SRel.upk r == (0 : Int) && (SRel.udl r == (0 : Int) && true)) then (bif SRel.kind r ==
 (4 : Int) then (bif SRel.oon r == false && (SRel.opk r == (0 : Int) && (SRel.odl r == (0 : Int) && true)) then (bif SRel.don r == false && (SRel.dpk r == (0 : Int) && (SRel.ddl r ==
 (0 : Int) && true)) then (bif SRel.ion r == false && (SRel.ipk r == (0 : Int) && (SRel.idl r == (0 : Int) && true)) then ((SRel.fon r == false && (SRel.fpk r == (0 : Int) &&
 (SRel.fdl r == (0 : Int) && true)))) else (false)) else (false)) else (false)) else (bif SRel.oon r == false && (SRel.opk r == (0 : Int) && (SRel.odl r == (0 : Int) && true)) then
 (bif SRel.diff r == (0 : Int) then (bif SRel.num r == (0 : Int) then (bif SRel.den r == (0 : Int) then ((SRel.harm r == (0 : Int))) else (false)) else (false)) else (false)) else
 (false))) else (bif SRel.kind r == (4 : Int) then (false) else (false))) else (bif SRel.kind r == (4 : Int) then (bif SRel.don r == false && (SRel.dpk r == (0 : Int) && (SRel.ddl r
 == (0 : Int) && true)) then (bif SRel.ion r == false && (SRel.ipk r == (0 : Int) && (SRel.idl r == (0 : Int) && true)) then ((SRel.fon r == false && (SRel.fpk r == (0 : Int) &&
 (SRel.fdl r == (0 : Int) && true)))) else (false)) else (false)) else (bif SRel.diff r == (0 : Int) then (bif SRel.num r == (0 : Int) then (bif SRel.den r == (0 : Int) then
 ((SRel.harm r == (0 : Int))) else (false)) else (false)) else (false)))))
theorem ev78 (r : SRel) : callC Tryz.prog oW3 na 5 Tryz.f78 (bodyOf Tryz.f78) [aRel r] [] = some (.leaf (vB (ev78_v r), [])) := by
  rw [ev78_t]
  unfold ev78_v
  simp only [bLeaf]
theorem ev79_t (r : SRel) : callC Tryz.prog oW3 na 5 Tryz.f79 (bodyOf Tryz.f79) [aRel r] [] =
 (bif !SRel.zon0 r then (bif !(SRel.zon0 r == false && (SRel.zfw0 r == false && (SRel.zx0 r == (0 : Int) && (SRel.zr0 r == (0 : Int) && (SRel.zl0 r == (0 : Int) && (SRel.zd0 r == (0
 : Int) && true)))))) then some (T.leaf (AV.c (.d (.v (.bool false))), [])) else (bif !SRel.zon1 r then (bif !(SRel.zon1 r == false && (SRel.zfw1 r == false && (SRel.zx1 r ==
 (0 : Int) && (SRel.zr1 r == (0 : Int) && (SRel.zl1 r == (0 : Int) && (SRel.zd1 r == (0 : Int) && true)))))) then some (T.leaf (AV.c (.d (.v (.bool false))), [])) else (bif
 !SRel.zon2 r then (bif !(SRel.zon2 r == false && (SRel.zfw2 r == false && (SRel.zx2 r == (0 : Int) && (SRel.zr2 r == (0 : Int) && (SRel.zl2 r == (0 : Int) && (SRel.zd2 r == (0 :
 Int) && true)))))) then some (T.leaf (AV.c (.d (.v (.bool false))), [])) else (bif SRel.min r == (0 : Int) then (bif SRel.kre r == (0 : Int) then some (T.leaf (AV.c (C.d (D.v
 (Value.bool (SRel.kim r == (0 : Int))))), [])) else some (T.leaf (AV.c (.d (.v (.bool false))), []))) else some (T.leaf (AV.c (.d (.v (.bool false))), [])))) else (bif
 !within (SRel.zx2 r) (1 : Int) (4000 : Int) then some (T.leaf (AV.c (.d (.v (.bool false))), [])) else (bif !within (SRel.zr2 r) (0 : Int) (4000 : Int) then some (T.leaf
 (AV.c (.d (.v (.bool false))), [])) else (bif !within (SRel.zl2 r) (0 : Int) (4000 : Int) then some (T.leaf (AV.c (.d (.v (.bool false))), [])) else (bif !within
 (SRel.zd2 r) (0 : Int) (500 : Int) then some (T.leaf (AV.c (.d (.v (.bool false))), [])) else (bif within (SRel.min r) (1 : Int) (16383 : Int) then (bif within (SRel.kre r)
 (-200 : Int) (200 : Int) then some (T.leaf (AV.c (.d (.v (.bool (within (SRel.kim r) (-200 : Int) (200 : Int))))), [])) else some (T.leaf (AV.c (C.d (D.v (Value.bool
 false))), []))) else some (T.leaf (AV.c (.d (.v (.bool false))), []))))))))) else (bif !within (SRel.zx1 r) (1 : Int) (4000 : Int) then some (T.leaf (AV.c (C.d (D.v
 (Value.bool false))), [])) else (bif !within (SRel.zr1 r) (0 : Int) (4000 : Int) then some (T.leaf (AV.c (.d (.v (.bool false))), [])) else (bif !within (SRel.zl1 r) (0 :
 Int) (4000 : Int) then some (T.leaf (AV.c (.d (.v (.bool false))), [])) else (bif !within (SRel.zd1 r) (0 : Int) (500 : Int) then some (T.leaf (AV.c (C.d (D.v (Value.bool
 false))), [])) else (bif !SRel.zon2 r then (bif !(SRel.zon2 r == false && (SRel.zfw2 r == false && (SRel.zx2 r == (0 : Int) && (SRel.zr2 r == (0 : Int) && (SRel.zl2 r == (0 : Int)
 && (SRel.zd2 r == (0 : Int) && true)))))) then some (T.leaf (AV.c (.d (.v (.bool false))), [])) else (bif within (SRel.min r) (1 : Int) (16383 : Int) then (bif within
 (SRel.kre r) (-200 : Int) (200 : Int) then some (T.leaf (AV.c (.d (.v (.bool (within (SRel.kim r) (-200 : Int) (200 : Int))))), [])) else some (T.leaf (AV.c (C.d (D.v
 (Value.bool false))), []))) else some (T.leaf (AV.c (.d (.v (.bool false))), [])))) else (bif !within (SRel.zx2 r) (1 : Int) (4000 : Int) then some (T.leaf (AV.c (C.d (D.v
 (Value.bool false))), [])) else (bif !within (SRel.zr2 r) (0 : Int) (4000 : Int) then some (T.leaf (AV.c (.d (.v (.bool false))), [])) else (bif !within (SRel.zl2 r) (0 :
 Int) (4000 : Int) then some (T.leaf (AV.c (.d (.v (.bool false))), [])) else (bif !within (SRel.zd2 r) (0 : Int) (500 : Int) then some (T.leaf (AV.c (C.d (D.v (Value.bool
 false))), [])) else (bif within (SRel.min r) (1 : Int) (16383 : Int) then (bif within (SRel.kre r) (-200 : Int) (200 : Int) then some (T.leaf (AV.c (.d (.v (.bool (within
 (SRel.kim r) (-200 : Int) (200 : Int))))), [])) else some (T.leaf (AV.c (.d (.v (.bool false))), []))) else some (T.leaf (AV.c (.d (.v (.bool false))),
 [])))))))))))))) else (bif !within (SRel.zx0 r) (1 : Int) (4000 : Int) then some (T.leaf (AV.c (.d (.v (.bool false))), [])) else (bif !within (SRel.zr0 r) (0 : Int) (4000 :
 Int) then some (T.leaf (AV.c (.d (.v (.bool false))), [])) else (bif !within (SRel.zl0 r) (0 : Int) (4000 : Int) then some (T.leaf (AV.c (.d (.v (.bool false))), []))
 else (bif !within (SRel.zd0 r) (0 : Int) (500 : Int) then some (T.leaf (AV.c (.d (.v (.bool false))), [])) else (bif !SRel.zon1 r then (bif !(SRel.zon1 r == false &&
 (SRel.zfw1 r == false && (SRel.zx1 r == (0 : Int) && (SRel.zr1 r == (0 : Int) && (SRel.zl1 r == (0 : Int) && (SRel.zd1 r == (0 : Int) && true)))))) then some (T.leaf (AV.c (C.d (D.v
 (Value.bool false))), [])) else (bif !SRel.zon2 r then (bif !(SRel.zon2 r == false && (SRel.zfw2 r == false && (SRel.zx2 r == (0 : Int) && (SRel.zr2 r == (0 : Int) && (SRel.zl2 r ==
 (0 : Int) && (SRel.zd2 r == (0 : Int) && true)))))) then some (T.leaf (AV.c (.d (.v (.bool false))), [])) else (bif within (SRel.min r) (1 : Int) (16383 : Int) then (bif
 within (SRel.kre r) (-200 : Int) (200 : Int) then some (T.leaf (AV.c (.d (.v (.bool (within (SRel.kim r) (-200 : Int) (200 : Int))))), [])) else some (T.leaf (AV.c (C.d (D.v
 (Value.bool false))), []))) else some (T.leaf (AV.c (.d (.v (.bool false))), [])))) else (bif !within (SRel.zx2 r) (1 : Int) (4000 : Int) then some (T.leaf (AV.c (C.d (D.v
 (Value.bool false))), [])) else (bif !within (SRel.zr2 r) (0 : Int) (4000 : Int) then some (T.leaf (AV.c (.d (.v (.bool false))), [])) else (bif !within (SRel.zl2 r) (0 :
 Int) (4000 : Int) then some (T.leaf (AV.c (.d (.v (.bool false))), [])) else (bif !within (SRel.zd2 r) (0 : Int) (500 : Int) then some (T.leaf (AV.c (C.d (D.v (Value.bool
 false))), [])) else (bif within (SRel.min r) (1 : Int) (16383 : Int) then (bif within (SRel.kre r) (-200 : Int) (200 : Int) then some (T.leaf (AV.c (.d (.v (.bool (within
 (SRel.kim r) (-200 : Int) (200 : Int))))), [])) else some (T.leaf (AV.c (.d (.v (.bool false))), []))) else some (T.leaf (AV.c (.d (.v (.bool false))), [])))))))))
 else (bif !within (SRel.zx1 r) (1 : Int) (4000 : Int) then some (T.leaf (AV.c (.d (.v (.bool false))), [])) else (bif !within (SRel.zr1 r) (0 : Int) (4000 : Int) then some
 (T.leaf (AV.c (.d (.v (.bool false))), [])) else (bif !within (SRel.zl1 r) (0 : Int) (4000 : Int) then some (T.leaf (AV.c (.d (.v (.bool false))), [])) else (bif
 !within (SRel.zd1 r) (0 : Int) (500 : Int) then some (T.leaf (AV.c (.d (.v (.bool false))), [])) else (bif !SRel.zon2 r then (bif !(SRel.zon2 r == false && (SRel.zfw2 r ==
 false && (SRel.zx2 r == (0 : Int) && (SRel.zr2 r == (0 : Int) && (SRel.zl2 r == (0 : Int) && (SRel.zd2 r == (0 : Int) && true)))))) then some (T.leaf (AV.c (C.d (D.v (Value.bool
 false))), [])) else (bif within (SRel.min r) (1 : Int) (16383 : Int) then (bif within (SRel.kre r) (-200 : Int) (200 : Int) then some (T.leaf (AV.c (.d (.v (.bool (within
 (SRel.kim r) (-200 : Int) (200 : Int))))), [])) else some (T.leaf (AV.c (.d (.v (.bool false))), []))) else some (T.leaf (AV.c (.d (.v (.bool false))), [])))) else
 (bif !within (SRel.zx2 r) (1 : Int) (4000 : Int) then some (T.leaf (AV.c (.d (.v (.bool false))), [])) else (bif !within (SRel.zr2 r) (0 : Int) (4000 : Int) then some (T.leaf
 (AV.c (.d (.v (.bool false))), [])) else (bif !within (SRel.zl2 r) (0 : Int) (4000 : Int) then some (T.leaf (AV.c (.d (.v (.bool false))), [])) else (bif !within
 (SRel.zd2 r) (0 : Int) (500 : Int) then some (T.leaf (AV.c (.d (.v (.bool false))), [])) else (bif within (SRel.min r) (1 : Int) (16383 : Int) then (bif within (SRel.kre r)
 (-200 : Int) (200 : Int) then some (T.leaf (AV.c (.d (.v (.bool (within (SRel.kim r) (-200 : Int) (200 : Int))))), [])) else some (T.leaf (AV.c (C.d (D.v (Value.bool
 false))), []))) else some (T.leaf (AV.c (.d (.v (.bool false))), [])))))))))))))))))) := by kernel_rfl
noncomputable def ev79_v (r : SRel) : Bool :=
 (bif !SRel.zon0 r then (bif !(SRel.zon0 r == false && (SRel.zfw0 r == false && (SRel.zx0 r == (0 : Int) && (SRel.zr0 r == (0 : Int) && (SRel.zl0 r == (0 : Int) && (SRel.zd0 r == (0
 : Int) && true)))))) then (false) else (bif !SRel.zon1 r then (bif !(SRel.zon1 r == false && (SRel.zfw1 r == false && (SRel.zx1 r == (0 : Int) && (SRel.zr1 r == (0 : Int) &&
 (SRel.zl1 r == (0 : Int) && (SRel.zd1 r == (0 : Int) && true)))))) then (false) else (bif !SRel.zon2 r then (bif !(SRel.zon2 r == false && (SRel.zfw2 r == false && (SRel.zx2 r == (0
 : Int) && (SRel.zr2 r == (0 : Int) && (SRel.zl2 r == (0 : Int) && (SRel.zd2 r == (0 : Int) && true)))))) then (false) else (bif SRel.min r == (0 : Int) then (bif SRel.kre r == (0 :
 Int) then ((SRel.kim r == (0 : Int))) else (false)) else (false))) else (bif !within (SRel.zx2 r) (1 : Int) (4000 : Int) then (false) else (bif !within (SRel.zr2 r) (0 : Int) (4000
 : Int) then (false) else (bif !within (SRel.zl2 r) (0 : Int) (4000 : Int) then (false) else (bif !within (SRel.zd2 r) (0 : Int) (500 : Int) then (false) else (bif within (SRel.min
 r) (1 : Int) (16383 : Int) then (bif within (SRel.kre r) (-200 : Int) (200 : Int) then ((within (SRel.kim r) (-200 : Int) (200 : Int))) else (false)) else (false)))))))) else (bif
 !within (SRel.zx1 r) (1 : Int) (4000 : Int) then (false) else (bif !within (SRel.zr1 r) (0 : Int) (4000 : Int) then (false) else (bif !within (SRel.zl1 r) (0 : Int) (4000 : Int)
 then (false) else (bif !within (SRel.zd1 r) (0 : Int) (500 : Int) then (false) else (bif !SRel.zon2 r then (bif !(SRel.zon2 r == false && (SRel.zfw2 r == false && (SRel.zx2 r == (0
 : Int) && (SRel.zr2 r == (0 : Int) && (SRel.zl2 r == (0 : Int) && (SRel.zd2 r == (0 : Int) && true)))))) then (false) else (bif within (SRel.min r) (1 : Int) (16383 : Int) then (bif
 within (SRel.kre r) (-200 : Int) (200 : Int) then ((within (SRel.kim r) (-200 : Int) (200 : Int))) else (false)) else (false))) else (bif !within (SRel.zx2 r) (1 : Int) (4000 : Int)
 then (false) else (bif !within (SRel.zr2 r) (0 : Int) (4000 : Int) then (false) else (bif !within (SRel.zl2 r) (0 : Int) (4000 : Int) then (false) else (bif !within (SRel.zd2 r) (0
 : Int) (500 : Int) then (false) else (bif within (SRel.min r) (1 : Int) (16383 : Int) then (bif within (SRel.kre r) (-200 : Int) (200 : Int) then ((within (SRel.kim r) (-200 : Int)
 (200 : Int))) else (false)) else (false))))))))))))) else (bif !within (SRel.zx0 r) (1 : Int) (4000 : Int) then (false) else (bif !within (SRel.zr0 r) (0 : Int) (4000 : Int) then
 (false) else (bif !within (SRel.zl0 r) (0 : Int) (4000 : Int) then (false) else (bif !within (SRel.zd0 r) (0 : Int) (500 : Int) then (false) else (bif !SRel.zon1 r then (bif
 !(SRel.zon1 r == false && (SRel.zfw1 r == false && (SRel.zx1 r == (0 : Int) && (SRel.zr1 r == (0 : Int) && (SRel.zl1 r == (0 : Int) && (SRel.zd1 r == (0 : Int) && true)))))) then
 (false) else (bif !SRel.zon2 r then (bif !(SRel.zon2 r == false && (SRel.zfw2 r == false && (SRel.zx2 r == (0 : Int) && (SRel.zr2 r == (0 : Int) && (SRel.zl2 r == (0 : Int) &&
 (SRel.zd2 r == (0 : Int) && true)))))) then (false) else (bif within (SRel.min r) (1 : Int) (16383 : Int) then (bif within (SRel.kre r) (-200 : Int) (200 : Int) then ((within
 (SRel.kim r) (-200 : Int) (200 : Int))) else (false)) else (false))) else (bif !within (SRel.zx2 r) (1 : Int) (4000 : Int) then (false) else (bif !within (SRel.zr2 r) (0 : Int)
 (4000 : Int) then (false) else (bif !within (SRel.zl2 r) (0 : Int) (4000 : Int) then (false) else (bif !within (SRel.zd2 r) (0 : Int) (500 : Int) then (false) else (bif within
 (SRel.min r) (1 : Int) (16383 : Int) then (bif within (SRel.kre r) (-200 : Int) (200 : Int) then ((within (SRel.kim r) (-200 : Int) (200 : Int))) else (false)) else (false))))))))
 else (bif !within (SRel.zx1 r) (1 : Int) (4000 : Int) then (false) else (bif !within (SRel.zr1 r) (0 : Int) (4000 : Int) then (false) else (bif !within (SRel.zl1 r) (0 : Int) (4000
 : Int) then (false) else (bif !within (SRel.zd1 r) (0 : Int) (500 : Int) then (false) else (bif !SRel.zon2 r then (bif !(SRel.zon2 r == false && (SRel.zfw2 r == false && (SRel.zx2 r
 == (0 : Int) && (SRel.zr2 r == (0 : Int) && (SRel.zl2 r == (0 : Int) && (SRel.zd2 r == (0 : Int) && true)))))) then (false) else (bif within (SRel.min r) (1 : Int) (16383 : Int)
 then (bif within (SRel.kre r) (-200 : Int) (200 : Int) then ((within (SRel.kim r) (-200 : Int) (200 : Int))) else (false)) else (false))) else (bif !within (SRel.zx2 r) (1 : Int)
 (4000 : Int) then (false) else (bif !within (SRel.zr2 r) (0 : Int) (4000 : Int) then (false) else (bif !within (SRel.zl2 r) (0 : Int) (4000 : Int) then (false) else (bif !within
 (SRel.zd2 r) (0 : Int) (500 : Int) then (false) else (bif within (SRel.min r) (1 : Int) (16383 : Int) then (bif within (SRel.kre r) (-200 : Int) (200 : Int) then ((within (SRel.kim
 r) (-200 : Int) (200 : Int))) else (false)) else (false)))))))))))))))))
theorem ev79 (r : SRel) : callC Tryz.prog oW3 na 5 Tryz.f79 (bodyOf Tryz.f79) [aRel r] [] = some (.leaf (vB (ev79_v r), [])) := by
  rw [ev79_t]
  unfold ev79_v
  simp only [bLeaf]
theorem ev80_t (r : SRel) : callC Tryz.prog oW3 na 5 Tryz.f80 (bodyOf Tryz.f80) [aRel r] [] =
 (bif !within (SRel.scheme r) (0 : Int) (3 : Int) then some (T.leaf (AV.c (.d (.v (.bool false))), [])) else (bif SRel.scheme r == (3 : Int) then (bif !within (SRel.wait r) (1
 : Int) (50 : Int) then some (T.leaf (AV.c (.d (.v (.bool false))), [])) else (bif SRel.scheme r == (0 : Int) then some (T.leaf (AV.c (.d (.v (.bool (SRel.guard r == (0
 : Int))))), [])) else some (T.leaf (AV.c (.d (.v (.bool (within (SRel.guard r) (0 : Int) (50 : Int))))), [])))) else (bif SRel.wait r != (0 : Int) then some (T.leaf (AV.c
 (C.d (.v (.bool false))), [])) else (bif SRel.scheme r == (0 : Int) then some (T.leaf (AV.c (.d (.v (.bool (SRel.guard r == (0 : Int))))), [])) else some (T.leaf (AV.c
 (C.d (.v (.bool (within (SRel.guard r) (0 : Int) (50 : Int))))), [])))))) := by kernel_rfl
noncomputable def ev80_v (r : SRel) : Bool :=
 (bif !within (SRel.scheme r) (0 : Int) (3 : Int) then (false) else (bif SRel.scheme r == (3 : Int) then (bif !within (SRel.wait r) (1 : Int) (50 : Int) then (false) else (bif
 SRel.scheme r == (0 : Int) then ((SRel.guard r == (0 : Int))) else ((within (SRel.guard r) (0 : Int) (50 : Int))))) else (bif SRel.wait r != (0 : Int) then (false) else (bif
 SRel.scheme r == (0 : Int) then ((SRel.guard r == (0 : Int))) else ((within (SRel.guard r) (0 : Int) (50 : Int)))))))
theorem ev80 (r : SRel) : callC Tryz.prog oW3 na 5 Tryz.f80 (bodyOf Tryz.f80) [aRel r] [] = some (.leaf (vB (ev80_v r), [])) := by
  rw [ev80_t]
  unfold ev80_v
  simp only [bLeaf]
theorem ev81_t (r : SRel) : callC Tryz.prog oE3 na 5 Tryz.f81 (bodyOf Tryz.f81) [aRel r] [] =
 (bif SRel.ion r then (bif !within (SRel.ipk r) (1 : Int) (16383 : Int) then some (T.leaf (AV.c (.d (.v (.bool false))), [])) else (bif !within (SRel.idl r) (1 : Int) (1000 :
 Int) then some (T.leaf (AV.c (.d (.v (.bool false))), [])) else (bif elOk (SRel.don r) (SRel.dpk r) (SRel.ddl r) (0 : Int) then (bif elOk (SRel.uon r) (SRel.upk r) (SRel.udl
 r) (0 : Int) then (bif elOk (SRel.oon r) (SRel.opk r) (SRel.odl r) (0 : Int) then some (T.leaf (AV.c (.d (.v (.bool (elOk (SRel.fon r) (SRel.fpk r) (SRel.fdl r) (1 :
 Int))))), [])) else some (T.leaf (AV.c (.d (.v (.bool false))), []))) else some (T.leaf (AV.c (.d (.v (.bool false))), []))) else some (T.leaf (AV.c (C.d (D.v
 (Value.bool false))), []))))) else (bif !(SRel.ion r == false && (SRel.ipk r == (0 : Int) && (SRel.idl r == (0 : Int) && true))) then some (T.leaf (AV.c (C.d (D.v (Value.bool
 false))), [])) else (bif elOk (SRel.don r) (SRel.dpk r) (SRel.ddl r) (0 : Int) then (bif elOk (SRel.uon r) (SRel.upk r) (SRel.udl r) (0 : Int) then (bif elOk (SRel.oon r) (SRel.opk
 r) (SRel.odl r) (0 : Int) then some (T.leaf (AV.c (.d (.v (.bool (elOk (SRel.fon r) (SRel.fpk r) (SRel.fdl r) (1 : Int))))), [])) else some (T.leaf (AV.c (C.d (D.v
 (Value.bool false))), []))) else some (T.leaf (AV.c (.d (.v (.bool false))), []))) else some (T.leaf (AV.c (.d (.v (.bool false))), []))))) := by kernel_rfl
noncomputable def ev81_v (r : SRel) : Bool :=
 (bif SRel.ion r then (bif !within (SRel.ipk r) (1 : Int) (16383 : Int) then (false) else (bif !within (SRel.idl r) (1 : Int) (1000 : Int) then (false) else (bif elOk (SRel.don r)
 (SRel.dpk r) (SRel.ddl r) (0 : Int) then (bif elOk (SRel.uon r) (SRel.upk r) (SRel.udl r) (0 : Int) then (bif elOk (SRel.oon r) (SRel.opk r) (SRel.odl r) (0 : Int) then ((elOk
 (SRel.fon r) (SRel.fpk r) (SRel.fdl r) (1 : Int))) else (false)) else (false)) else (false)))) else (bif !(SRel.ion r == false && (SRel.ipk r == (0 : Int) && (SRel.idl r == (0 :
 Int) && true))) then (false) else (bif elOk (SRel.don r) (SRel.dpk r) (SRel.ddl r) (0 : Int) then (bif elOk (SRel.uon r) (SRel.upk r) (SRel.udl r) (0 : Int) then (bif elOk (SRel.oon
 r) (SRel.opk r) (SRel.odl r) (0 : Int) then ((elOk (SRel.fon r) (SRel.fpk r) (SRel.fdl r) (1 : Int))) else (false)) else (false)) else (false))))
theorem ev81 (r : SRel) : callC Tryz.prog oE3 na 5 Tryz.f81 (bodyOf Tryz.f81) [aRel r] [] = some (.leaf (vB (ev81_v r), [])) := by
  rw [ev81_t]
  unfold ev81_v
  simp only [bLeaf]
theorem ev82_t (r : SRel) : callC Tryz.prog oW3 na 5 Tryz.f82 (bodyOf Tryz.f82) [aRel r] [] =
 (bif SRel.shots r == (0 : Int) then (bif SRel.dead r != (0 : Int) then some (T.leaf (AV.c (.d (.v (.bool false))), [])) else (bif SRel.reclaim r != (0 : Int) then some
 (T.leaf (AV.c (.d (.v (.bool false))), [])) else (bif SRel.diff r == (0 : Int) then (bif SRel.num r == (0 : Int) then (bif SRel.den r == (0 : Int) then some (T.leaf (AV.c
 (C.d (.v (.bool (SRel.harm r == (0 : Int))))), [])) else some (T.leaf (AV.c (.d (.v (.bool false))), []))) else some (T.leaf (AV.c (.d (.v (.bool false))), [])))
 else (bif within (SRel.diff r) (1 : Int) (16383 : Int) then (bif within (SRel.den r) (1 : Int) (100 : Int) then (bif within (SRel.num r) (0 : Int) (SRel.den r) then some (T.leaf
 (AV.c (.d (.v (.bool (within (SRel.harm r) (0 : Int) (100 : Int))))), [])) else some (T.leaf (AV.c (.d (.v (.bool false))), []))) else some (T.leaf (AV.c (C.d (D.v
 (Value.bool false))), []))) else some (T.leaf (AV.c (.d (.v (.bool false))), [])))))) else (bif !within (SRel.shots r) (1 : Int) (3 : Int) then some (T.leaf (AV.c (C.d (D.v
 (Value.bool false))), [])) else (bif !within (SRel.dead r) (1 : Int) (100 : Int) then some (T.leaf (AV.c (.d (.v (.bool false))), [])) else (bif !within (SRel.reclaim r) (1 :
 Int) (1000 : Int) then some (T.leaf (AV.c (.d (.v (.bool false))), [])) else (bif SRel.diff r == (0 : Int) then (bif SRel.num r == (0 : Int) then (bif SRel.den r == (0 : Int)
 then some (T.leaf (AV.c (.d (.v (.bool (SRel.harm r == (0 : Int))))), [])) else some (T.leaf (AV.c (.d (.v (.bool false))), []))) else some (T.leaf (AV.c (C.d (D.v
 (Value.bool false))), []))) else (bif within (SRel.diff r) (1 : Int) (16383 : Int) then (bif within (SRel.den r) (1 : Int) (100 : Int) then (bif within (SRel.num r) (0 : Int)
 (SRel.den r) then some (T.leaf (AV.c (.d (.v (.bool (within (SRel.harm r) (0 : Int) (100 : Int))))), [])) else some (T.leaf (AV.c (.d (.v (.bool false))), []))) else
 some (T.leaf (AV.c (.d (.v (.bool false))), []))) else some (T.leaf (AV.c (.d (.v (.bool false))), [])))))))) := by kernel_rfl
noncomputable def ev82_v (r : SRel) : Bool :=
 (bif SRel.shots r == (0 : Int) then (bif SRel.dead r != (0 : Int) then (false) else (bif SRel.reclaim r != (0 : Int) then (false) else (bif SRel.diff r == (0 : Int) then (bif
 SRel.num r == (0 : Int) then (bif SRel.den r == (0 : Int) then ((SRel.harm r == (0 : Int))) else (false)) else (false)) else (bif within (SRel.diff r) (1 : Int) (16383 : Int) then
 (bif within (SRel.den r) (1 : Int) (100 : Int) then (bif within (SRel.num r) (0 : Int) (SRel.den r) then ((within (SRel.harm r) (0 : Int) (100 : Int))) else (false)) else (false))
 else (false))))) else (bif !within (SRel.shots r) (1 : Int) (3 : Int) then (false) else (bif !within (SRel.dead r) (1 : Int) (100 : Int) then (false) else (bif !within (SRel.reclaim
 r) (1 : Int) (1000 : Int) then (false) else (bif SRel.diff r == (0 : Int) then (bif SRel.num r == (0 : Int) then (bif SRel.den r == (0 : Int) then ((SRel.harm r == (0 : Int))) else
 (false)) else (false)) else (bif within (SRel.diff r) (1 : Int) (16383 : Int) then (bif within (SRel.den r) (1 : Int) (100 : Int) then (bif within (SRel.num r) (0 : Int) (SRel.den
 r) then ((within (SRel.harm r) (0 : Int) (100 : Int))) else (false)) else (false)) else (false)))))))
theorem ev82 (r : SRel) : callC Tryz.prog oW3 na 5 Tryz.f82 (bodyOf Tryz.f82) [aRel r] [] = some (.leaf (vB (ev82_v r), [])) := by
  rw [ev82_t]
  unfold ev82_v
  simp only [bLeaf]
theorem ev83_t (r : SRel) : callC Tryz.prog oZo na 5 Tryz.f83 (bodyOf Tryz.f83) [aRel r] [] =
 (bif SRel.scheme r == (1 : Int) then (bif SRel.zon0 r then (bif SRel.zfw0 r then (bif SRel.zon1 r then some (T.leaf (AV.c (.d (.v (.bool (SRel.zfw1 r)))), [])) else some
 (T.leaf (AV.c (.d (.v (.bool false))), []))) else some (T.leaf (AV.c (.d (.v (.bool false))), []))) else some (T.leaf (AV.c (.d (.v (.bool false))), []))) else
 (bif SRel.scheme r == (2 : Int) then (bif SRel.zon1 r then some (T.leaf (AV.c (.d (.v (.bool (SRel.zfw1 r)))), [])) else some (T.leaf (AV.c (.d (.v (.bool false))),
 []))) else (bif SRel.scheme r == (3 : Int) then (bif SRel.zon1 r then (bif SRel.zfw1 r then (bif SRel.zon2 r then some (T.leaf (AV.c (.d (.v (.bool !SRel.zfw2 r))), [])) else
 some (T.leaf (AV.c (.d (.v (.bool false))), []))) else some (T.leaf (AV.c (.d (.v (.bool false))), []))) else some (T.leaf (AV.c (.d (.v (.bool false))), [])))
 else some (T.leaf (AV.c (.d (.v (.bool true))), []))))) := by kernel_rfl
noncomputable def ev83_v (r : SRel) : Bool :=
 (bif SRel.scheme r == (1 : Int) then (bif SRel.zon0 r then (bif SRel.zfw0 r then (bif SRel.zon1 r then ((SRel.zfw1 r)) else (false)) else (false)) else (false)) else (bif
 SRel.scheme r == (2 : Int) then (bif SRel.zon1 r then ((SRel.zfw1 r)) else (false)) else (bif SRel.scheme r == (3 : Int) then (bif SRel.zon1 r then (bif SRel.zfw1 r then (bif
 SRel.zon2 r then (!SRel.zfw2 r) else (false)) else (false)) else (false)) else (true))))
theorem ev83 (r : SRel) : callC Tryz.prog oZo na 5 Tryz.f83 (bodyOf Tryz.f83) [aRel r] [] = some (.leaf (vB (ev83_v r), [])) := by
  rw [ev83_t]
  unfold ev83_v
  simp only [bLeaf]
end Go.Proofs.YtngoglhlhlfknaaGreat.se
namespace Go.Proofs.YtngoglhlhlfknaaGreat.se
open Go.RowKit Go.Eb Go.Proofs.YtngoglhlhlfknaaGreat.st
theorem sWi : OrcS Tryz.prog oWi := .cons (.inl .nil Tryz.func108 (by kernel_rfl)) .nil
theorem cWi (a : Int × Int × Int) : CX Tryz.prog 108 [vI a.1, vI a.2.1, vI a.2.2] [] (vB (within a.1 a.2.1 a.2.2)) [] := by
  refine cx_of (Orc.nil_ok _) Tryz.func108 (by kernel_rfl) rfl ((evWi a.1 a.2.1 a.2.2).trans ?_)
  unfold evWi_v within
  cases decide (a.1 ≥ a.2.1) <;> rfl
theorem sW3 : OrcS Tryz.prog oW3 := .cons (.p dec3_ok cWi) .nil
theorem cEl (a : Bool × Int × Int × Int) : CX Tryz.prog 110 [.agg [.d (dB a.1), .d (dI a.2.1), .d (dI a.2.2.1)], vI a.2.2.2] [] (vB (elOk a.1 a.2.1 a.2.2.1 a.2.2.2)) [] := by
  refine cx_of sW3.ok Tryz.func110 (by kernel_rfl) rfl ((evEl a.1 a.2.1 a.2.2.1 a.2.2.2).trans ?_)
  unfold evEl_v elOk
  cases a.1 <;> cases (a.2.1 == 0) <;> cases (a.2.2.1 == 0) <;> cases within a.2.1 1 16383 <;> rfl
theorem sE3 : OrcS Tryz.prog oE3 := .cons (.p decE_ok cEl) sW3
theorem sZo : OrcS Tryz.prog oZo := .cons (.inl sW3 Tryz.func111 (by kernel_rfl)) sW3
theorem c78 (r : SRel) : CX Tryz.prog 78 [aRel r] [] (vB (ev78_v r)) [] := cx_of sW3.ok Tryz.func78 (by kernel_rfl) rfl (ev78 r)
theorem c79 (r : SRel) : CX Tryz.prog 79 [aRel r] [] (vB (ev79_v r)) [] := cx_of sW3.ok Tryz.func79 (by kernel_rfl) rfl (ev79 r)
theorem c80 (r : SRel) : CX Tryz.prog 80 [aRel r] [] (vB (ev80_v r)) [] := cx_of sW3.ok Tryz.func80 (by kernel_rfl) rfl (ev80 r)
theorem c81 (r : SRel) : CX Tryz.prog 81 [aRel r] [] (vB (ev81_v r)) [] := cx_of sE3.ok Tryz.func81 (by kernel_rfl) rfl (ev81 r)
theorem c82 (r : SRel) : CX Tryz.prog 82 [aRel r] [] (vB (ev82_v r)) [] := cx_of sW3.ok Tryz.func82 (by kernel_rfl) rfl (ev82 r)
theorem c83 (r : SRel) : CX Tryz.prog 83 [aRel r] [] (vB (ev83_v r)) [] := cx_of sZo.ok Tryz.func83 (by kernel_rfl) rfl (ev83 r)
/-! lists -/
def enRu (l : List SRule) : List AV := [.agg [.d (dF 114), .d (dF 116), .d (dF 117)], .c (.d (rulesD l))]
def enSe (l : List SSet) : List AV := [.agg [.d (dF 118), .d (dF 120), .d dNF], .c (.d (setsD l))]
def enPu (l : List SPub) : List AV := [.agg [.d (dF 121), .d (dF 122), .d (dF 123)], .c (.d (pubsD l))]
def enSu (l : List SSub) : List AV := [.agg [.d (dF 124), .d (dF 125), .d dNF], .c (.d (subsD l))]
theorem enRu_inj : InjT enRu := fun a b h => listD_inj ruleC_inj _ _ (ale_c (asle_cons (asle_cons h).2).1)
theorem enSe_inj : InjT enSe := fun a b h => listD_inj setC_inj _ _ (ale_c (asle_cons (asle_cons h).2).1)
theorem enPu_inj : InjT enPu := fun a b h => listD_inj pubC_inj _ _ (ale_c (asle_cons (asle_cons h).2).1)
theorem enSu_inj : InjT enSu := fun a b h => listD_inj subC_inj _ _ (ale_c (asle_cons (asle_cons h).2).1)
noncomputable def eRules (l : List SRule) : Int := listErr ruleOk SRule.name (fun x => textErr x.text) [] l
def eSets (l : List SSet) : Int := listErr setOk SSet.name rest0 [] l
noncomputable def ePubs (l : List SPub) : Int := listErr pubOk SPub.set ev123_v [] l
def eSubs (l : List SSub) : Int := listErr subOk SSub.loc rest0 [] l
def cSe (l : List SSet) : Bool := lenOk l && l.all okSet
noncomputable def eLists (r : SRel) : Int := bif eRules r.rules != 0 then eRules r.rules else bif eSets r.sets != 0 then eSets r.sets else bif ePubs r.pubs != 0 then ePubs r.pubs else eSubs r.subs
theorem s85 : OrcS Tryz.prog (o85 (okG enRu lenOk) (okG enSe cSe) (okG enPu lenOk) (okG enSu lenOk) (fun x => eRules (theT enRu x)) (fun x => eSets (theT enSe x)) (fun x => ePubs (theT enPu x)) fun x => eSubs (theT enSu x)) := by
  refine .cons (.t' (r := fun a => vI (eRules a)) fun a h => c126 a h) (.cons (.t' (r := fun a => vI (eSets a)) fun a h => ?_) (.cons (.t' (r := fun a => vI (ePubs a)) fun a h => c128 a h) (.cons (.t' (r := fun a => vI (eSubs a)) fun a h => c129 a h) .nil)))
  unfold cSe at h
  simp only [Bool.and_eq_true] at h
  exact c127 a h.1 h.2
theorem c85 (r : SRel) (hr : okRel r = true) : CX Tryz.prog 85 [aRel r] [] (vI (eLists r)) [] := by
  refine cx_of s85.ok Tryz.func85 b85 rfl ((ev85 _ _ _ _ _ _ _ _ r 1).trans ?_)
  unfold okRel at hr
  simp only [Bool.and_eq_true] at hr
  obtain ⟨h1, h2, h3, h4, h5⟩ := hr
  have k1 := okG_enc enRu_inj (c := lenOk) r.rules h1
  have k2 := okG_enc enSe_inj (c := cSe) r.sets (by unfold cSe; rw [h2, h5]; rfl)
  have k3 := okG_enc enPu_inj (c := lenOk) r.pubs h3
  have k4 := okG_enc enSu_inj (c := lenOk) r.subs h4
  have t1 := theT_enc enRu_inj r.rules
  have t2 := theT_enc enSe_inj r.sets
  have t3 := theT_enc enPu_inj r.pubs
  have t4 := theT_enc enSu_inj r.subs
  unfold enRu at k1 t1
  unfold enSe at k2 t2
  unfold enPu at k3 t3
  unfold enSu at k4 t4
  unfold enRu enSe enPu enSu
  rw [k1, t1, k2, t2, k3, t3, k4, t4]
  unfold eLists
  simp only [cond_true]
  cases (eRules r.rules != 0) <;> cases (eSets r.sets != 0) <;> cases (ePubs r.pubs != 0) <;> rfl
/-! counts -/
def setBad (x : SSet) : Bool := !(decide (1 ≤ x.sigs.length) && decide (x.sigs.length ≤ 24))
theorem s113 : OrcS Tryz.prog o113 := .cons (.inl sWi Tryz.func112 (by kernel_rfl)) .nil
theorem c141 (l : List SSet) (hl : lenOk l = true) : CX Tryz.prog 141 [.c (.d (setsD l)), .c (.d (dF 112))] [] (vI (idxP setBad 0 l)) [] := by
  obtain ⟨g, hg⟩ : ∃ g, l.length < g := ⟨l.length + 1, by omega⟩
  refine cx_of s113.ok Tryz.func141 b141 rfl ((ev141 l g).trans ?_)
  have := idx_loop (p := setBad) (l := l) (d0 := set0) (L := fun m i => L141_2 l g m i) (fun m k hk => by
    have e1 : ∀ n : Nat, decide ((n : Int) ≥ 1) = decide (1 ≤ n) := fun n => by rw [Bool.eq_iff_iff, decide_eq_true_eq, decide_eq_true_eq]; omega
    have e2 : ∀ n : Nat, decide ((n : Int) ≤ 24) = decide (n ≤ 24) := fun n => by rw [Bool.eq_iff_iff, decide_eq_true_eq, decide_eq_true_eq]; omega
    rw [st141_2, lt1 hk, ge0, tn, nx hk (lenOk_le hl), e1, e2]
    unfold setBad
    simp only [tt, cond_true]
    cases decide (1 ≤ (l.getD k set0).sigs.length) <;> cases decide ((l.getD k set0).sigs.length ≤ 24) <;> rfl) (fun m => by rw [st141_2, lt0 (Nat.lt_irrefl _)]; rfl) g 0 (by omega) (by omega)
  exact this
abbrev eCt := en2 (aD setsD) (eFn 112)
theorem eCt_inj : InjT eCt := en2_inj (aD_inj (listD_inj (sz := 2) (d0 := set0) setC_inj)) (eFn_inj _)
def countsOk (r : SRel) : Bool := decide (r.rules.length ≤ 16) && (decide (r.sets.length ≤ 4) && (decide (r.pubs.length ≤ 4) && (decide (r.subs.length ≤ 24) && !r.sets.any setBad)))
theorem c84 (r : SRel) (hr : okRel r = true) : CX Tryz.prog 84 [aRel r] [] (vB (countsOk r)) [] := by
  have hs : OrcS Tryz.prog (o84 (okG eCt cLen) fun x => idxP setBad 0 (theT eCt x).1) := .cons (.inl (.cons (.t' (r := fun (a : List SSet × Unit) => vI (idxP setBad 0 a.1)) fun a h => c141 a.1 h) .nil) Tryz.func113 (by kernel_rfl)) .nil
  refine cx_of hs.ok Tryz.func84 b84 rfl ((ev84 _ _ r 1).trans ?_)
  unfold okRel at hr
  simp only [Bool.and_eq_true] at hr
  have k := okG_enc eCt_inj (c := cLen) (r.sets, ()) hr.2.1
  have t := theT_enc eCt_inj (r.sets, ())
  simp only [en2, aD, eFn] at k t
  rw [k, t, idxP_ge]
  have e1 : ∀ n : Nat, decide ((n : Int) ≤ 16) = decide (n ≤ 16) := fun n => by rw [Bool.eq_iff_iff, decide_eq_true_eq, decide_eq_true_eq]; omega
  have e2 : ∀ n : Nat, decide ((n : Int) ≤ 4) = decide (n ≤ 4) := fun n => by rw [Bool.eq_iff_iff, decide_eq_true_eq, decide_eq_true_eq]; omega
  have e3 : ∀ n : Nat, decide ((n : Int) ≤ 24) = decide (n ≤ 24) := fun n => by rw [Bool.eq_iff_iff, decide_eq_true_eq, decide_eq_true_eq]; omega
  unfold countsOk
  simp only [e1, e2, e3]
  cases decide (r.rules.length ≤ 16) <;> cases decide (r.sets.length ≤ 4) <;> cases decide (r.pubs.length ≤ 4) <;> cases decide (r.subs.length ≤ 24) <;> rfl
end Go.Proofs.YtngoglhlhlfknaaGreat.se
namespace Go.Eb
open Go.RowKit
structure Wd where
  text : ByteArray
  q : Bool
inductive It where
  | mk (line : Int) (words : List Wd) (block : Bool) (kids : List It)
namespace It
def line : It → Int | mk l _ _ _ => l
def words : It → List Wd | mk _ w _ _ => w
def block : It → Bool | mk _ _ b _ => b
def kids : It → List It | mk _ _ _ k => k
theorem eta (x : It) : x = mk x.line x.words x.block x.kids := by cases x; rfl
end It
def w0 : Wd := ⟨ByteArray.mk #[], false⟩
def i0 : It := .mk 0 [] false []
def wcells (w : Wd) : List D := [.v (.string w.text), .v (.bool w.q)]
def wordsD (l : List Wd) : D := .sl 2 l.length fun i => wcells (l.getD i w0)
def kidF : List It → Nat → List D
  | [], _ => []
  | .mk l w b k :: _, 0 => [.v (.int .i64 l), wordsD w, .v (.bool b), .sl 4 k.length (kidF k)]
  | _ :: r, i + 1 => kidF r i
def kidsD (x : It) : D := .sl 4 x.kids.length (kidF x.kids)
def icells (x : It) : List D := [.v (.int .i64 x.line), wordsD x.words, .v (.bool x.block), kidsD x]
def itemsD (l : List It) : D := .sl 4 l.length fun i => icells (l.getD i i0)
theorem kidF_eq : ∀ (l : List It) (i : Nat), i < l.length → kidF l i = icells (l.getD i i0)
  | [], i, h => by simp at h
  | .mk a b c k :: r, 0, _ => by simp only [kidF, List.getD_cons_zero, icells, kidsD, It.line, It.words, It.block, It.kids]
  | x :: r, i + 1, h => by simp only [kidF, List.getD_cons_succ]; exact kidF_eq r i (by simpa using h)
theorem kidsD_de (x : It) : DE (kidsD x) (itemsD x.kids) := by
  exact .sl_eq fun i hi => kidF_eq x.kids i hi
theorem itemsD_de (x : It) : DE (itemsD x.kids) (kidsD x) := by
  exact .sl_eq fun i hi => (kidF_eq x.kids i hi).symm
theorem de_v {a b : Value} (h : DE (.v a) (.v b)) : a = b := by cases h; rfl
theorem de_sl {sz n sz' m : Nat} {f g : Nat → List D} (h : DE (.sl sz n f) (.sl sz' m g)) : sz = sz' ∧ n = m ∧ ∀ i, i < n → DEs (f i) (g i) := by
  cases h with
  | sl _ _ _ _ h1 h2 => exact ⟨rfl, rfl, fun i hi => ⟨h1 i hi, fun j d e hd he => h2 i j d e hi hd he⟩⟩
theorem wcells_inj {a b : Wd} (h : DEs (wcells a) (wcells b)) : a = b := by
  have h1 := de_v (h.2 0 _ _ rfl rfl)
  have h2 := de_v (h.2 1 _ _ rfl rfl)
  cases a; cases b
  simp at h1 h2
  rw [h1, h2]
theorem list_ext {α : Type} {d : α} : ∀ {l l' : List α}, l.length = l'.length → (∀ i, i < l.length → l.getD i d = l'.getD i d) → l = l'
  | [], [], _, _ => rfl
  | x :: r, y :: r', hl, h => by
    have h0 := h 0 (by simp)
    simp at h0
    rw [h0, list_ext (l := r) (l' := r') (by simpa using hl) (fun i hi => by have := h (i + 1) (by simpa using hi); simpa using this)]
  | [], _ :: _, hl, _ => by simp at hl
  | _ :: _, [], hl, _ => by simp at hl
theorem wordsD_inj {l l' : List Wd} (h : DE (wordsD l) (wordsD l')) : l = l' := by
  obtain ⟨_, hl, hf⟩ := de_sl h
  exact list_ext hl fun i hi => wcells_inj (hf i hi)
theorem kidF_inj : ∀ (l l' : List It), l.length = l'.length → (∀ i, i < l.length → DEs (kidF l i) (kidF l' i)) → l = l'
  | [], [], _, _ => rfl
  | .mk a b c k :: r, .mk a' b' c' k' :: r', hl, h => by
    have h0 := h 0 (by simp)
    simp only [kidF] at h0
    have e1 := de_v (h0.2 0 _ _ rfl rfl)
    have e2 := wordsD_inj (h0.2 1 _ _ rfl rfl)
    have e3 := de_v (h0.2 2 _ _ rfl rfl)
    obtain ⟨_, hl4, hf4⟩ := de_sl (h0.2 3 _ _ rfl rfl)
    have e4 := kidF_inj k k' hl4 hf4
    have er := kidF_inj r r' (by simpa using hl) (fun i hi => by have := h (i + 1) (by simpa using hi); simpa [kidF] using this)
    simp at e1 e3
    rw [e1, e2, e3, e4, er]
  | [], _ :: _, hl, _ => by simp at hl
  | _ :: _, [], hl, _ => by simp at hl
theorem kidsD_inj (x y : It) (h : DE (kidsD x) (kidsD y)) : x.kids = y.kids := by
  obtain ⟨_, hl, hf⟩ := de_sl h
  exact kidF_inj x.kids y.kids hl hf
theorem itemsD_inj {l l' : List It} (h : DE (itemsD l) (itemsD l')) : l = l' := by
  have h1 : DE (kidsD (.mk 0 [] false l)) (kidsD (.mk 0 [] false l')) := (kidsD_de (.mk 0 [] false l)).trans (h.trans (itemsD_de (.mk 0 [] false l')))
  exact kidsD_inj _ _ h1
noncomputable def okI (x : D) : Bool := @decide (∃ l, DE x (itemsD l)) (Classical.propDecidable _)
noncomputable def theI (x : D) : List It := @dite _ (∃ l, DE x (itemsD l)) (Classical.propDecidable _) (fun h => Classical.choose h) (fun _ => [])
noncomputable def okW (x : D) : Bool := @decide (∃ l, DE x (wordsD l)) (Classical.propDecidable _)
noncomputable def theW (x : D) : List Wd := @dite _ (∃ l, DE x (wordsD l)) (Classical.propDecidable _) (fun h => Classical.choose h) (fun _ => [])
theorem okI_iff {x : D} : okI x = true ↔ ∃ l, DE x (itemsD l) := by unfold okI; simp
theorem theI_de {x : D} (h : okI x = true) : DE x (itemsD (theI x)) := by
  have h' := okI_iff.1 h
  unfold theI
  rw [dif_pos h']
  exact Classical.choose_spec h'
theorem okW_iff {x : D} : okW x = true ↔ ∃ l, DE x (wordsD l) := by unfold okW; simp
theorem theW_de {x : D} (h : okW x = true) : DE x (wordsD (theW x)) := by
  have h' := okW_iff.1 h
  unfold theW
  rw [dif_pos h']
  exact Classical.choose_spec h'
theorem theI_of {x : D} {l : List It} (h1 : DE x (itemsD l)) (h2 : DE (itemsD l) x) : okI x = true ∧ theI x = l := by
  have h := okI_iff.2 ⟨l, h1⟩
  exact ⟨h, (itemsD_inj (h2.trans (theI_de h))).symm⟩
theorem theW_of {x : D} {l : List Wd} (h1 : DE x (wordsD l)) (h2 : DE (wordsD l) x) : okW x = true ∧ theW x = l := by
  have h := okW_iff.2 ⟨l, h1⟩
  exact ⟨h, (wordsD_inj (h2.trans (theW_de h))).symm⟩
theorem okI_items (l : List It) : okI (itemsD l) = true := (theI_of (.refl _) (.refl _)).1
theorem theI_items (l : List It) : theI (itemsD l) = l := (theI_of (.refl _) (.refl _)).2
theorem okI_kids (x : It) : okI (kidsD x) = true := (theI_of (kidsD_de x) (itemsD_de x)).1
theorem theI_kids (x : It) : theI (kidsD x) = x.kids := (theI_of (kidsD_de x) (itemsD_de x)).2
theorem okW_words (l : List Wd) : okW (wordsD l) = true := (theW_of (.refl _) (.refl _)).1
theorem theW_words (l : List Wd) : theW (wordsD l) = l := (theW_of (.refl _) (.refl _)).2
theorem nil_items {l : List It} (h : DE (.v (.slice none 0 0)) (itemsD l)) : l = [] := by
  generalize hy : itemsD l = y at h
  cases h with
  | v => unfold itemsD at hy; cases hy
  | nil sz f =>
    unfold itemsD at hy
    injection hy with _ h2 _
    exact List.eq_nil_of_length_eq_zero h2
def dep : List It → Nat
  | [] => 0
  | .mk _ _ _ k :: r => max (dep k + 1) (dep r)
theorem dep_get : ∀ (l : List It) (i : Nat), i < l.length → dep (l.getD i i0).kids < dep l
  | [], i, h => by simp at h
  | .mk a b c k :: r, 0, _ => by simp [dep, It.kids]; omega
  | .mk a b c k :: r, i + 1, h => by
    have := dep_get r i (by simpa using h)
    simp only [List.getD_cons_succ, dep]
    omega
def fits : List It → Bool
  | [] => true
  | .mk _ w _ k :: r => decide (k.length ≤ 9223372036854775807) && decide (w.length ≤ 9223372036854775807) && w.all (fun x => decide (x.text.size ≤ 9223372036854775807)) && fits k && fits r
def okL (l : List It) : Bool := decide (l.length ≤ 9223372036854775807) && fits l
def okWs (w : List Wd) : Bool := decide (w.length ≤ 9223372036854775807) && w.all fun x => decide (x.text.size ≤ 9223372036854775807)
theorem fits_get : ∀ (l : List It) (i : Nat), i < l.length → fits l = true → okL (l.getD i i0).kids = true ∧ okWs (l.getD i i0).words = true
  | [], i, h, _ => by simp at h
  | .mk a b c k :: r, 0, _, hf => by
    simp only [fits, Bool.and_eq_true] at hf
    obtain ⟨⟨⟨⟨h1, h2⟩, h3⟩, h4⟩, h5⟩ := hf
    simp only [List.getD_cons_zero, It.kids, It.words, okL, okWs, h1, h2, h3, h4, Bool.and_self, and_self]
  | .mk a b c k :: r, i + 1, h, hf => by
    simp only [fits, Bool.and_eq_true] at hf
    simp only [List.getD_cons_succ]
    exact fits_get r i (by simpa using h) hf.2
theorem okL_len {l : List It} (h : okL l = true) : l.length ≤ 9223372036854775807 := by unfold okL at h; simp at h; exact h.1
theorem okL_fits {l : List It} (h : okL l = true) : fits l = true := by unfold okL at h; simp at h; exact h.2
theorem okL_get {l : List It} (h : okL l = true) {i : Nat} (hi : i < l.length) : okL (l.getD i i0).kids = true ∧ okWs (l.getD i i0).words = true := fits_get l i hi (okL_fits h)
theorem okWs_len {l : List Wd} (h : okWs l = true) : l.length ≤ 9223372036854775807 := by unfold okWs at h; simp at h; exact h.1
theorem ale_d {x y : D} (h : DE x y) : Ale (.c (.d x)) (.c (.d y)) := h
abbrev aI (l : List It) : AV := .c (.d (itemsD l))
abbrev aW (l : List Wd) : AV := .c (.d (wordsD l))
abbrev aT (x : It) : AV := .agg ((icells x).map .d)
end Go.Eb
namespace Go.Proofs.YtngoglhlhlfknaaGreat.st
open Go.RowKit Go.Eb
abbrev nilC : C := .d (.v (.slice none 0 0))
noncomputable def oNm (nk : ByteArray → Bool) : Orc := Orc.cons 50 (ansP decS fun s => vB (nk s)) Orc.nil
noncomputable def oNam (nk : ByteArray → Bool) : Orc := Orc.cons 100 (inl Tryz.prog (oNm nk) na 1 Tryz.f100) Orc.nil
noncomputable def o26 (nk : ByteArray → Bool) : Orc := Orc.cons 53 (inl Tryz.prog (oNam nk) na 1 Tryz.f53) Orc.nil
noncomputable def oWi : Orc := Orc.cons 102 (inl Tryz.prog Orc.nil na 1 Tryz.f102) Orc.nil
noncomputable def oIm (nk : ByteArray → Bool) : Orc := Orc.cons 101 (inl Tryz.prog oWi na 1 Tryz.f101) (Orc.cons 102 (inl Tryz.prog Orc.nil na 1 Tryz.f102) (oNam nk))
noncomputable def o28 (nk : ByteArray → Bool) : Orc := Orc.cons 55 (inl Tryz.prog (oIm nk) na 1 Tryz.f55) Orc.nil
noncomputable def o30 (nk : ByteArray → Bool) : Orc := Orc.cons 57 (inl Tryz.prog (oIm nk) na 1 Tryz.f57) Orc.nil
abbrev fnOf (f : FuncId) : AV := .c (.fn f [.ptr 0 0] [])
abbrev H1 (s0 : ByteArray) (mpa : List (Value × Value)) : Hp := [(0, .cells [.d (dS s0), nilC, nilC, nilC, nilC, .mp 1] 157), (1, .map 0 mpa)]
abbrev H1' (s0 : ByteArray) (mpa : List (Value × Value)) (ka : Nat) (ga : Nat → List D) : Hp := [(0, .cells [.d (dS s0), .row 2 1 ka, nilC, nilC, nilC, .mp 1] 157), (1, .map 0 mpa), (2, .row ka ga 1 9)]
abbrev H2 (s0 : ByteArray) (ka : Nat) (ga : Nat → List D) (mpa : List (Value × Value)) : Hp := [(0, .cells [.d (dS s0), .row 1 1 ka, nilC, nilC, nilC, .mp 2] 157), (1, .row ka ga 1 9), (2, .map 0 mpa)]
abbrev H2' (s0 : ByteArray) (ka : Nat) (ga : Nat → List D) (mpa : List (Value × Value)) (kb : Nat) (gb : Nat → List D) : Hp := [(0, .cells [.d (dS s0), .row 1 1 ka, .row 3 5 kb, nilC, nilC, .mp 2] 157), (1, .row ka ga 1 9), (2, .map 0 mpa), (3, .row kb gb 5 71)]
abbrev H3 (s0 : ByteArray) (ka : Nat) (ga : Nat → List D) (kb : Nat) (gb : Nat → List D) (mpa : List (Value × Value)) : Hp := [(0, .cells [.d (dS s0), .row 1 1 ka, .row 2 5 kb, nilC, nilC, .mp 3] 157), (1, .row ka ga 1 9), (2, .row kb gb 5 71), (3, .map 0 mpa)]
abbrev H3' (s0 : ByteArray) (ka : Nat) (ga : Nat → List D) (kb : Nat) (gb : Nat → List D) (mpa : List (Value × Value)) (kc : Nat) (gc : Nat → List D) : Hp := [(0, .cells [.d (dS s0), .row 1 1 ka, .row 2 5 kb, .row 4 6 kc, nilC, .mp 3] 157), (1, .row ka ga 1 9), (2, .row kb gb 5 71), (3, .map 0 mpa), (4, .row kc gc 6 74)]
abbrev H4 (s0 : ByteArray) (ka : Nat) (ga : Nat → List D) (kb : Nat) (gb : Nat → List D) (kc : Nat) (gc : Nat → List D) (mpa : List (Value × Value)) : Hp := [(0, .cells [.d (dS s0), .row 1 1 ka, .row 2 5 kb, .row 3 6 kc, nilC, .mp 4] 157), (1, .row ka ga 1 9), (2, .row kb gb 5 71), (3, .row kc gc 6 74), (4, .map 0 mpa)]
abbrev H4' (s0 : ByteArray) (ka : Nat) (ga : Nat → List D) (kb : Nat) (gb : Nat → List D) (kc : Nat) (gc : Nat → List D) (mpa : List (Value × Value)) (kd : Nat) (gd : Nat → List D) : Hp := [(0, .cells [.d (dS s0), .row 1 1 ka, .row 2 5 kb, .row 3 6 kc, .row 5 12 kd, .mp 4] 157), (1, .row ka ga 1 9), (2, .row kb gb 5 71), (3, .row kc gc 6 74), (4, .map 0 mpa), (5, .row kd gd 12 66)]
abbrev H5 (s0 : ByteArray) (ka : Nat) (ga : Nat → List D) (kb : Nat) (gb : Nat → List D) (kc : Nat) (gc : Nat → List D) (kd : Nat) (gd : Nat → List D) (mpa : List (Value × Value)) : Hp := [(0, .cells [.d (dS s0), .row 1 1 ka, .row 2 5 kb, .row 3 6 kc, .row 4 12 kd, .mp 5] 157), (1, .row ka ga 1 9), (2, .row kb gb 5 71), (3, .row kc gc 6 74), (4, .row kd gd 12 66), (5, .map 0 mpa)]
noncomputable def ann26 : Ann := annOf [(2, ⟨[1, 8, 9, 10], [(1, 1, 1, 9)]⟩)]
noncomputable def L26_2 (nk : ByteArray → Bool) (l : List ByteArray) (s0 : ByteArray) (mpa : List (Value × Value)) (g m : Nat) (l1 : List (Value × Value)) (n2 : Nat) (f2 : Nat → List D) (i10 : Int) := LK Tryz.prog (o26 nk) ann26 (List.length (α := Nat × Blk) [(0, .cells [.d (dS s0), nilC, nilC, nilC, nilC, .mp 1] 157), (1, .map 0 mpa)]) g Tryz.f52 2 m ⟨frm [(1, .c (.fn 53 [Rf.ptr 0 0] [])), (8, .c (.d (D.sl 1 (List.length l) fun i => busC (List.getD l i e0)))), (9, .c (.d (.v (.int .i64 (↑(List.length l) : Int))))), (10, .c (.d (.v (.int .i64 i10))))] 0 Tryz.f52.ntmps, [(0, Blk.cells [.d (.v (.string s0)), C.row 2 1 n2, .d (.v (.slice none 0 0)), .d (.v (.slice none 0 0)), .d (.v (.slice none 0 0)), C.mp 1] 157), (1, Blk.map 0 l1), (2, Blk.row n2 f2 1 9)], 3⟩
theorem b26 : Tryz.f52.body = some (bodyOf Tryz.f52) := by kernel_rfl
theorem ev26 (nk : ByteArray → Bool) (l : List ByteArray) (s0 : ByteArray) (mpa : List (Value × Value)) (g : Nat) : callC Tryz.prog (o26 nk) ann26 g Tryz.f52 (bodyOf Tryz.f52) [.c (.d (busesD l)), fnOf 53] [(0, .cells [.d (dS s0), nilC, nilC, nilC, nilC, .mp 1] 157), (1, .map 0 mpa)] =
 L26_2 nk l s0 mpa g g mpa 0 (fun x => []) ((0 : Int)) := by kernel_rfl
theorem st26_2 (nk : ByteArray → Bool) (l : List ByteArray) (s0 : ByteArray) (mpa : List (Value × Value)) (g m : Nat) (l1 : List (Value × Value)) (n2 : Nat) (f2 : Nat → List D) (i10 : Int) : L26_2 nk l s0 mpa g (m + 1) l1 n2 f2 i10 =
 (bif decide (i10 < (↑(List.length l) : Int)) then (bif decide ((0 : Int) ≤ i10) && decide (i10 < (↑(List.length l) : Int)) then (bif !nk (List.getD l (Int.toNat i10) e0) then some
 (T.leaf (AV.c (.d (.v (.int .i64 (7 : Int)))), [(0, Blk.cells [C.d (.v (.string s0)), C.row (2) (1) n2, C.d (D.v (Value.slice none (0 :
 Nat) 0)), C.d (.v (.slice none 0 0)), C.d (.v (.slice none 0 0)), C.mp (1)] (157)), (1, Blk.map ((0 :
 Nat)) l1), (2, Blk.row n2 f2 (1) (9))])) else (bif boolOf (assoc l1 (Value.string (List.getD l (Int.toNat i10) e0))) then some (T.leaf (AV.c (C.d (D.v
 (Value.int IntKind.i64 (8 : Int)))), [(0, Blk.cells [C.d (.v (.string s0)), C.row (2) (1) n2, C.d (.v (.slice none 0 0)), C.d
 (D.v (.slice none 0 0)), C.d (.v (.slice none 0 0)), C.mp (1)] (157)), (1, Blk.map (0) l1), (2,
 Blk.row n2 f2 (1) (9))])) else (bif decide ((n2 + 1) * 16 ≤ 140737488355328) && decide (n2 + 1 ≤ 9223372036854775807) then
 L26_2 nk l s0 mpa g m ((Value.string (List.getD l (Int.toNat i10) e0), Value.bool true) :: l1) (n2 + 1) (appF n2 f2 (chunk [dS (List.getD l (Int.toNat i10) e0)] (0 +
 1))) (IntKind.wrap .i64 (i10 + (1 : Int))) else none))) else none) else some (T.leaf (AV.c (.d (.v (.int .i64 (0 : Int)))), [(0, Blk.cells [C.d
 (D.v (.string s0)), C.row (2) (1) n2, C.d (.v (.slice none 0 0)), C.d (.v (.slice none 0 0)), C.d (D.v (Value.slice
 none 0 0)), C.mp (1)] (157)), (1, Blk.map (0) l1), (2, Blk.row n2 f2 (1) (9))]))) := by kernel_rfl
noncomputable def ann28 : Ann := annOf [(2, ⟨[1, 8, 9, 10], [(1, 2, 5, 71)]⟩)]
noncomputable def L28_2 (nk : ByteArray → Bool) (l : List SLine) (s0 : ByteArray) (ka : Nat) (ga : Nat → List D) (mpa : List (Value × Value)) (g m : Nat) (l2 : List (Value × Value)) (n3 : Nat) (f3 : Nat → List D) (i10 : Int) := LK Tryz.prog (o28 nk) ann28 (List.length (α := Nat × Blk) [(0, .cells [.d (dS s0), .row 1 1 ka, nilC, nilC, nilC, .mp 2] 157), (1, .row ka ga 1 9), (2, .map 0 mpa)]) g Tryz.f54 2 m ⟨frm [(1, .c (.fn 55 [Rf.ptr 0 0] [])), (8, .c (.d (D.sl 5 (List.length l) fun i => lineC (List.getD l i line0)))), (9, .c (.d (.v (.int .i64 (↑(List.length l) : Int))))), (10, .c (.d (.v (.int .i64 i10))))] 0 Tryz.f54.ntmps, [(0, Blk.cells [.d (.v (.string s0)), C.row 1 1 ka, C.row 3 5 n3, .d (.v (.slice none 0 0)), .d (.v (.slice none 0 0)), C.mp 2] 157), (1, Blk.row ka ga 1 9), (2, Blk.map 0 l2), (3, Blk.row n3 f3 5 71)], 4⟩
theorem b28 : Tryz.f54.body = some (bodyOf Tryz.f54) := by kernel_rfl
theorem ev28 (nk : ByteArray → Bool) (l : List SLine) (s0 : ByteArray) (ka : Nat) (ga : Nat → List D) (mpa : List (Value × Value)) (g : Nat) : callC Tryz.prog (o28 nk) ann28 g Tryz.f54 (bodyOf Tryz.f54) [.c (.d (linesD l)), fnOf 55] [(0, .cells [.d (dS s0), .row 1 1 ka, nilC, nilC, nilC, .mp 2] 157), (1, .row ka ga 1 9), (2, .map 0 mpa)] =
 L28_2 nk l s0 ka ga mpa g g mpa 0 (fun x => []) ((0 : Int)) := by kernel_rfl
theorem st28_2 (nk : ByteArray → Bool) (l : List SLine) (s0 : ByteArray) (ka : Nat) (ga : Nat → List D) (mpa : List (Value × Value)) (g m : Nat) (l2 : List (Value × Value)) (n3 : Nat) (f3 : Nat → List D) (i10 : Int) : L28_2 nk l s0 ka ga mpa g (m + 1) l2 n3 f3 i10 =
 (bif decide (i10 < (↑(List.length l) : Int)) then (bif decide ((0 : Int) ≤ i10) && decide (i10 < (↑(List.length l) : Int)) then (bif !nk (SLine.name (List.getD l (Int.toNat i10)
 line0)) then some (T.leaf (AV.c (.d (.v (.int .i64 (7 : Int)))), [(0, Blk.cells [C.d (.v (.string s0)), C.row (1) (1) ka, C.row ((3 :
 Nat)) (5) n3, C.d (.v (.slice none 0 0)), C.d (.v (.slice none 0 0)), C.mp (2)] (157)), (1, Blk.row ka ga
 (1) (9)), (2, Blk.map (0) l2), (3, Blk.row n3 f3 (5) (71))])) else (bif boolOf (assoc l2 (Value.string (SLine.name (List.getD
 l (Int.toNat i10) line0)))) then some (T.leaf (AV.c (.d (.v (.int .i64 (8 : Int)))), [(0, Blk.cells [C.d (.v (.string s0)), C.row (1) (1)
 ka, C.row (3) (5) n3, C.d (.v (.slice none 0 0)), C.d (.v (.slice none 0 0)), C.mp (2)] (157)), ((1 :
 Nat), Blk.row ka ga (1) (9)), (2, Blk.map (0) l2), (3, Blk.row n3 f3 (5) (71))])) else (bif decide (SLine.r1 (List.getD l
 (Int.toNat i10) line0) ≥ (0 : Int)) then (bif decide (SLine.r1 (List.getD l (Int.toNat i10) line0) ≤ (1000 : Int)) then (bif decide (SLine.x1 (List.getD l (Int.toNat i10) line0) ≥
 (1 : Int)) then (bif !decide (SLine.x1 (List.getD l (Int.toNat i10) line0) ≤ (1000 : Int)) then some (T.leaf (AV.c (.d (.v (.int .i64 (2 : Int)))), [(0,
 Blk.cells [C.d (.v (.string s0)), C.row (1) (1) ka, C.row (3) (5) n3, C.d (.v (.slice none 0 0)), C.d (D.v (Value.slice
 none 0 0)), C.mp (2)] (157)), (1, Blk.row ka ga (1) (9)), (2, Blk.map (0) l2), (3, Blk.row n3 f3 ((5
 : Nat)) (71))])) else (bif decide (SLine.r0 (List.getD l (Int.toNat i10) line0) ≥ (0 : Int)) then (bif decide (SLine.r0 (List.getD l (Int.toNat i10) line0) ≤ (1000 : Int))
 then (bif decide (SLine.x0 (List.getD l (Int.toNat i10) line0) ≥ (1 : Int)) then (bif !decide (SLine.x0 (List.getD l (Int.toNat i10) line0) ≤ (1000 : Int)) then some (T.leaf (AV.c
 (C.d (.v (.int .i64 (2 : Int)))), [(0, Blk.cells [C.d (.v (.string s0)), C.row (1) (1) ka, C.row (3) (5) n3, C.d (D.v
 (Value.slice none 0 0)), C.d (.v (.slice none 0 0)), C.mp (2)] (157)), (1, Blk.row ka ga (1) (9)), ((2
 : Nat), Blk.map (0) l2), (3, Blk.row n3 f3 (5) (71))])) else (bif decide ((n3 + 1) * 48 ≤ 140737488355328) && decide (n3 + (1
 : Nat) ≤ 9223372036854775807) then L28_2 nk l s0 ka ga mpa g m ((Value.string (SLine.name (List.getD l (Int.toNat i10) line0)), Value.bool true) :: l2) (n3 + 1)
 (appF n3 f3 (chunk [dS (SLine.name (List.getD l (Int.toNat i10) line0)), dI (SLine.r1 (List.getD l (Int.toNat i10) line0)), dI (SLine.x1 (List.getD l (Int.toNat i10) line0)), dI
 (SLine.r0 (List.getD l (Int.toNat i10) line0)), dI (SLine.x0 (List.getD l (Int.toNat i10) line0))] (4 + 1))) (IntKind.wrap .i64 (i10 + (1 : Int))) else none))
 else some (T.leaf (AV.c (.d (.v (.int .i64 (2 : Int)))), [(0, Blk.cells [C.d (.v (.string s0)), C.row (1) (1) ka, C.row (3) ((5 :
 Nat)) n3, C.d (.v (.slice none 0 0)), C.d (.v (.slice none 0 0)), C.mp (2)] (157)), (1, Blk.row ka ga (1)
 (9)), (2, Blk.map (0) l2), (3, Blk.row n3 f3 (5) (71))]))) else some (T.leaf (AV.c (.d (.v (.int .i64 (2 : Int)))),
 [(0, Blk.cells [C.d (.v (.string s0)), C.row (1) (1) ka, C.row (3) (5) n3, C.d (.v (.slice none 0 0)), C.d (D.v
 (Value.slice none 0 0)), C.mp (2)] (157)), (1, Blk.row ka ga (1) (9)), (2, Blk.map (0) l2), (3,
 Blk.row n3 f3 (5) (71))]))) else some (T.leaf (AV.c (.d (.v (.int .i64 (2 : Int)))), [(0, Blk.cells [C.d (.v (.string s0)), C.row ((1 :
 Nat)) (1) ka, C.row (3) (5) n3, C.d (.v (.slice none 0 0)), C.d (.v (.slice none 0 0)), C.mp (2)] ((157 :
 Nat))), (1, Blk.row ka ga (1) (9)), (2, Blk.map (0) l2), (3, Blk.row n3 f3 (5) (71))])))) else some (T.leaf (AV.c
 (C.d (.v (.int .i64 (2 : Int)))), [(0, Blk.cells [C.d (.v (.string s0)), C.row (1) (1) ka, C.row (3) (5) n3, C.d (D.v
 (Value.slice none 0 0)), C.d (.v (.slice none 0 0)), C.mp (2)] (157)), (1, Blk.row ka ga (1) (9)), ((2
 : Nat), Blk.map (0) l2), (3, Blk.row n3 f3 (5) (71))]))) else some (T.leaf (AV.c (.d (.v (.int .i64 (2 : Int)))), [(0,
 Blk.cells [C.d (.v (.string s0)), C.row (1) (1) ka, C.row (3) (5) n3, C.d (.v (.slice none 0 0)), C.d (D.v (Value.slice
 none 0 0)), C.mp (2)] (157)), (1, Blk.row ka ga (1) (9)), (2, Blk.map (0) l2), (3, Blk.row n3 f3 ((5
 : Nat)) (71))]))) else some (T.leaf (AV.c (.d (.v (.int .i64 (2 : Int)))), [(0, Blk.cells [C.d (.v (.string s0)), C.row (1) (1)
 ka, C.row (3) (5) n3, C.d (.v (.slice none 0 0)), C.d (.v (.slice none 0 0)), C.mp (2)] (157)), ((1 :
 Nat), Blk.row ka ga (1) (9)), (2, Blk.map (0) l2), (3, Blk.row n3 f3 (5) (71))]))))) else none) else some (T.leaf (AV.c (C.d
 (D.v (.int .i64 (0 : Int)))), [(0, Blk.cells [C.d (.v (.string s0)), C.row (1) (1) ka, C.row (3) (5) n3, C.d (D.v
 (Value.slice none 0 0)), C.d (.v (.slice none 0 0)), C.mp (2)] (157)), (1, Blk.row ka ga (1) (9)), ((2
 : Nat), Blk.map (0) l2), (3, Blk.row n3 f3 (5) (71))]))) := by kernel_rfl
noncomputable def ann30 : Ann := annOf [(2, ⟨[1, 8, 9, 10], [(1, 3, 6, 74)]⟩)]
noncomputable def L30_2 (nk : ByteArray → Bool) (l : List SSrc) (s0 : ByteArray) (ka : Nat) (ga : Nat → List D) (kb : Nat) (gb : Nat → List D) (mpa : List (Value × Value)) (g m : Nat) (l3 : List (Value × Value)) (n4 : Nat) (f4 : Nat → List D) (i10 : Int) := LK Tryz.prog (o30 nk) ann30 (List.length (α := Nat × Blk) [(0, .cells [.d (dS s0), .row 1 1 ka, .row 2 5 kb, nilC, nilC, .mp 3] 157), (1, .row ka ga 1 9), (2, .row kb gb 5 71), (3, .map 0 mpa)]) g Tryz.f56 2 m ⟨frm [(1, .c (.fn 57 [Rf.ptr 0 0] [])), (8, .c (.d (D.sl 6 (List.length l) fun i => srcC' (List.getD l i src0)))), (9, .c (.d (.v (.int .i64 (↑(List.length l) : Int))))), (10, .c (.d (.v (.int .i64 i10))))] 0 Tryz.f56.ntmps, [(0, Blk.cells [.d (.v (.string s0)), C.row 1 1 ka, C.row 2 5 kb, C.row 4 6 n4, .d (.v (.slice none 0 0)), C.mp 3] 157), (1, Blk.row ka ga 1 9), (2, Blk.row kb gb 5 71), (3, Blk.map 0 l3), (4, Blk.row n4 f4 6 74)], 5⟩
theorem b30 : Tryz.f56.body = some (bodyOf Tryz.f56) := by kernel_rfl
theorem ev30 (nk : ByteArray → Bool) (l : List SSrc) (s0 : ByteArray) (ka : Nat) (ga : Nat → List D) (kb : Nat) (gb : Nat → List D) (mpa : List (Value × Value)) (g : Nat) : callC Tryz.prog (o30 nk) ann30 g Tryz.f56 (bodyOf Tryz.f56) [.c (.d (srcsD l)), fnOf 57] [(0, .cells [.d (dS s0), .row 1 1 ka, .row 2 5 kb, nilC, nilC, .mp 3] 157), (1, .row ka ga 1 9), (2, .row kb gb 5 71), (3, .map 0 mpa)] =
 L30_2 nk l s0 ka ga kb gb mpa g g mpa 0 (fun x => []) ((0 : Int)) := by kernel_rfl
theorem st30_2 (nk : ByteArray → Bool) (l : List SSrc) (s0 : ByteArray) (ka : Nat) (ga : Nat → List D) (kb : Nat) (gb : Nat → List D) (mpa : List (Value × Value)) (g m : Nat) (l3 : List (Value × Value)) (n4 : Nat) (f4 : Nat → List D) (i10 : Int) : L30_2 nk l s0 ka ga kb gb mpa g (m + 1) l3 n4 f4 i10 =
 (bif decide (i10 < (↑(List.length l) : Int)) then (bif decide ((0 : Int) ≤ i10) && decide (i10 < (↑(List.length l) : Int)) then (bif !nk (SSrc.name (List.getD l (Int.toNat i10)
 src0)) then some (T.leaf (AV.c (.d (.v (.int .i64 (7 : Int)))), [(0, Blk.cells [C.d (.v (.string s0)), C.row (1) (1) ka, C.row ((2 :
 Nat)) (5) kb, C.row (4) (6) n4, C.d (.v (.slice none 0 0)), C.mp (3)] (157)), (1, Blk.row ka ga (1) ((9
 : Nat))), (2, Blk.row kb gb (5) (71)), (3, Blk.map (0) l3), (4, Blk.row n4 f4 (6) (74))])) else (bif boolOf (assoc l3
 (Value.string (SSrc.name (List.getD l (Int.toNat i10) src0)))) then some (T.leaf (AV.c (.d (.v (.int .i64 (8 : Int)))), [(0, Blk.cells [C.d (D.v (Value.string
 s0)), C.row (1) (1) ka, C.row (2) (5) kb, C.row (4) (6) n4, C.d (.v (.slice none 0 0)), C.mp (3)] ((157
 : Nat))), (1, Blk.row ka ga (1) (9)), (2, Blk.row kb gb (5) (71)), (3, Blk.map (0) l3), (4, Blk.row n4 f4 ((6
 : Nat)) (74))])) else (bif decide (SSrc.emf (List.getD l (Int.toNat i10) src0) ≥ (1 : Int)) then (bif !decide (SSrc.emf (List.getD l (Int.toNat i10) src0) ≤ (1000000 : Int))
 then some (T.leaf (AV.c (.d (.v (.int .i64 (2 : Int)))), [(0, Blk.cells [C.d (.v (.string s0)), C.row (1) (1) ka, C.row (2) ((5 :
 Nat)) kb, C.row (4) (6) n4, C.d (.v (.slice none 0 0)), C.mp (3)] (157)), (1, Blk.row ka ga (1) (9)),
 (2, Blk.row kb gb (5) (71)), (3, Blk.map (0) l3), (4, Blk.row n4 f4 (6) (74))])) else (bif decide (SSrc.r1 (List.getD
 l (Int.toNat i10) src0) ≥ (0 : Int)) then (bif decide (SSrc.r1 (List.getD l (Int.toNat i10) src0) ≤ (1000 : Int)) then (bif decide (SSrc.x1 (List.getD l (Int.toNat i10) src0) ≥ (1 :
 Int)) then (bif !decide (SSrc.x1 (List.getD l (Int.toNat i10) src0) ≤ (1000 : Int)) then some (T.leaf (AV.c (.d (.v (.int .i64 (2 : Int)))), [(0, Blk.cells
 [C.d (.v (.string s0)), C.row (1) (1) ka, C.row (2) (5) kb, C.row (4) (6) n4, C.d (.v (.slice none 0 0)),
 C.mp (3)] (157)), (1, Blk.row ka ga (1) (9)), (2, Blk.row kb gb (5) (71)), (3, Blk.map (0) l3), ((4 :
 Nat), Blk.row n4 f4 (6) (74))])) else (bif decide (SSrc.r0 (List.getD l (Int.toNat i10) src0) ≥ (0 : Int)) then (bif decide (SSrc.r0 (List.getD l (Int.toNat i10)
 src0) ≤ (1000 : Int)) then (bif decide (SSrc.x0 (List.getD l (Int.toNat i10) src0) ≥ (1 : Int)) then (bif !decide (SSrc.x0 (List.getD l (Int.toNat i10) src0) ≤ (1000 : Int)) then
 some (T.leaf (AV.c (.d (.v (.int .i64 (2 : Int)))), [(0, Blk.cells [C.d (.v (.string s0)), C.row (1) (1) ka, C.row (2) ((5 :
 Nat)) kb, C.row (4) (6) n4, C.d (.v (.slice none 0 0)), C.mp (3)] (157)), (1, Blk.row ka ga (1) (9)),
 (2, Blk.row kb gb (5) (71)), (3, Blk.map (0) l3), (4, Blk.row n4 f4 (6) (74))])) else (bif decide ((n4 + 1) *
 56 ≤ 140737488355328) && decide (n4 + 1 ≤ 9223372036854775807) then L30_2 nk l s0 ka ga kb gb mpa g m ((Value.string (SSrc.name (List.getD l
 (Int.toNat i10) src0)), Value.bool true) :: l3) (n4 + 1) (appF n4 f4 (chunk [dS (SSrc.name (List.getD l (Int.toNat i10) src0)), dI (SSrc.emf (List.getD l (Int.toNat i10)
 src0)), dI (SSrc.r1 (List.getD l (Int.toNat i10) src0)), dI (SSrc.x1 (List.getD l (Int.toNat i10) src0)), dI (SSrc.r0 (List.getD l (Int.toNat i10) src0)), dI (SSrc.x0 (List.getD l
 (Int.toNat i10) src0))] (5 + 1))) (IntKind.wrap .i64 (i10 + (1 : Int))) else none)) else some (T.leaf (AV.c (.d (.v (.int .i64 (2 : Int)))),
 [(0, Blk.cells [C.d (.v (.string s0)), C.row (1) (1) ka, C.row (2) (5) kb, C.row (4) (6) n4, C.d (D.v (Value.slice none
 0 0)), C.mp (3)] (157)), (1, Blk.row ka ga (1) (9)), (2, Blk.row kb gb (5) (71)), (3, Blk.map
 (0) l3), (4, Blk.row n4 f4 (6) (74))]))) else some (T.leaf (AV.c (.d (.v (.int .i64 (2 : Int)))), [(0, Blk.cells [C.d (D.v
 (Value.string s0)), C.row (1) (1) ka, C.row (2) (5) kb, C.row (4) (6) n4, C.d (.v (.slice none 0 0)), C.mp ((3
 : Nat))] (157)), (1, Blk.row ka ga (1) (9)), (2, Blk.row kb gb (5) (71)), (3, Blk.map (0) l3), (4,
 Blk.row n4 f4 (6) (74))]))) else some (T.leaf (AV.c (.d (.v (.int .i64 (2 : Int)))), [(0, Blk.cells [C.d (.v (.string s0)), C.row ((1 :
 Nat)) (1) ka, C.row (2) (5) kb, C.row (4) (6) n4, C.d (.v (.slice none 0 0)), C.mp (3)] (157)), ((1 :
 Nat), Blk.row ka ga (1) (9)), (2, Blk.row kb gb (5) (71)), (3, Blk.map (0) l3), (4, Blk.row n4 f4 (6) ((74 :
 Nat)))])))) else some (T.leaf (AV.c (.d (.v (.int .i64 (2 : Int)))), [(0, Blk.cells [C.d (.v (.string s0)), C.row (1) (1) ka, C.row ((2 :
 Nat)) (5) kb, C.row (4) (6) n4, C.d (.v (.slice none 0 0)), C.mp (3)] (157)), (1, Blk.row ka ga (1) ((9
 : Nat))), (2, Blk.row kb gb (5) (71)), (3, Blk.map (0) l3), (4, Blk.row n4 f4 (6) (74))]))) else some (T.leaf (AV.c
 (C.d (.v (.int .i64 (2 : Int)))), [(0, Blk.cells [C.d (.v (.string s0)), C.row (1) (1) ka, C.row (2) (5) kb, C.row ((4 :
 Nat)) (6) n4, C.d (.v (.slice none 0 0)), C.mp (3)] (157)), (1, Blk.row ka ga (1) (9)), (2, Blk.row kb
 gb (5) (71)), (3, Blk.map (0) l3), (4, Blk.row n4 f4 (6) (74))]))) else some (T.leaf (AV.c (C.d (D.v (Value.int IntKind.i64
 (2 : Int)))), [(0, Blk.cells [C.d (.v (.string s0)), C.row (1) (1) ka, C.row (2) (5) kb, C.row (4) (6) n4, C.d (D.v
 (Value.slice none 0 0)), C.mp (3)] (157)), (1, Blk.row ka ga (1) (9)), (2, Blk.row kb gb (5) (71)),
 (3, Blk.map (0) l3), (4, Blk.row n4 f4 (6) (74))])))) else some (T.leaf (AV.c (.d (.v (.int .i64 (2 : Int)))), [(0,
 Blk.cells [C.d (.v (.string s0)), C.row (1) (1) ka, C.row (2) (5) kb, C.row (4) (6) n4, C.d (D.v (Value.slice none 0 (0
 : Nat))), C.mp (3)] (157)), (1, Blk.row ka ga (1) (9)), (2, Blk.row kb gb (5) (71)), (3, Blk.map (0)
 l3), (4, Blk.row n4 f4 (6) (74))]))))) else none) else some (T.leaf (AV.c (.d (.v (.int .i64 (0 : Int)))), [(0, Blk.cells [C.d (D.v
 (Value.string s0)), C.row (1) (1) ka, C.row (2) (5) kb, C.row (4) (6) n4, C.d (.v (.slice none 0 0)), C.mp ((3
 : Nat))] (157)), (1, Blk.row ka ga (1) (9)), (2, Blk.row kb gb (5) (71)), (3, Blk.map (0) l3), (4,
 Blk.row n4 f4 (6) (74))]))) := by kernel_rfl
end Go.Proofs.YtngoglhlhlfknaaGreat.st
