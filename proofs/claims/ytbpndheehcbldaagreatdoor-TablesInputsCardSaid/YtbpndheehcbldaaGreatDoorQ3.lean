/-
  An evaluator of Go code on abstract values, proved sound, and what it computes of the functions that the statement reaches (part 3). No condition.
-/
import Derived.Test.YtbpndheehcbldaaGreatDoorQ2
import Derived.Test.YtbpndheehcbldaaGreatDoorProg
import Derived.KernelRfl
namespace Go.Eb
abbrev leB (b : Bool) : Option (T (AV × Hp)) := some (.leaf (.c (.d (.v (.bool b))), []))
abbrev leI (n : Int) : Option (T (AV × Hp)) := some (.leaf (.c (.d (.v (.int .i64 n))), []))
end Go.Eb
set_option maxRecDepth 100000
namespace Go.Eb
open Go.RowKit
def Det {α β : Type} (F : (R : Type) → (α → β → Option (T R)) → Option (T R)) : Prop :=
 (∀ (R : Type) (k : α → β → Option (T R)), F R k = none) ∨ ∃ a b, ∀ (R : Type) (k : α → β → Option (T R)), F R k = k a b
def AdG (orc : Orc) : Prop := ∀ f args H, Det fun R k => orc R f args H k
theorem Det.no {α β : Type} {F : (R : Type) → (α → β → Option (T R)) → Option (T R)} (h : ∀ (R : Type) k, F R k = none) : Det F := .inl h
theorem Det.one {α β : Type} {F : (R : Type) → (α → β → Option (T R)) → Option (T R)} (a : α) (b : β) (h : ∀ (R : Type) k, F R k = k a b) : Det F := .inr ⟨a, b, h⟩
theorem Det.bif {α β : Type} {F G : (R : Type) → (α → β → Option (T R)) → Option (T R)} (c : Bool) (h : Det F) (k : Det G) : Det fun R q => bif c then F R q else G R q := by
 cases c with
 | true => exact h
 | false => exact k
theorem Det.congr {α β : Type} {F G : (R : Type) → (α → β → Option (T R)) → Option (T R)} (h : Det F) (e : ∀ (R : Type) k, G R k = F R k) : Det G := by
 rcases h with h | ⟨a, b, h⟩
 ·exact .inl fun R k => (e R k).trans (h R k)
 ·exact .inr ⟨a, b, fun R k => (e R k).trans (h R k)⟩
theorem Det.bind {α β γ δ : Type} {F : (R : Type) → (α → β → Option (T R)) → Option (T R)} (h : Det F) {G : α → β → (R : Type) → (γ → δ → Option (T R)) → Option (T R)} (hG : ∀ a b, Det (G a b)) :
  Det fun R k => F R fun a b => G a b R k := by
 rcases h with h | ⟨a, b, h⟩
 ·exact .inl fun R k => h R _
 ·rcases hG a b with g | ⟨c, d, g⟩
  ·exact .inl fun R k => (h R _).trans (g R k)
  ·exact .inr ⟨c, d, fun R k => (h R _).trans (g R k)⟩
section
variable {P : Program} {orc : Orc}
theorem perfK_det (ho : AdG orc) (h0 : Nat) (a : Do) (H : Hp) : (∀ (R : Type) k, AbG (R := R) orc h0 a H k = none) ∨ ∃ x ft u, ∀ (R : Type) k, AbG (R := R) orc h0 a H k = k x ft u := by
 cases a with
 | call f args =>
  simp only [AbG]
  cases hL : callL H args with
  | none => exact .inl fun R k => rfl
  | some L =>
   rcases ho f (AgD L args) (callH H L) with h | ⟨x, Hr, h⟩
   ·exact .inl fun R k => h R _
   ·exact .inr ⟨_, _, _, fun R k => h R _⟩
 | next h =>
  simp only [AbG]
  cases look H h with
  | none => exact .inl fun R k => rfl
  | some b =>
   cases b with
   | iter s pos =>
    cases hb : Nat.blt pos s.size with
    | true => exact .inr ⟨_, _, _, fun R k => by simp only [hb, cond_true]; rfl⟩
    | false => exact .inr ⟨_, _, _, fun R k => by simp only [hb, cond_false]; rfl⟩
   | _ => exact .inl fun R k => rfl
 | ustr h n e =>
  simp only [AbG]
  cases look H h with
  | none => exact .inl fun R k => rfl
  | some b =>
   cases b with
   | row m f sz t =>
    cases hb : (Nat.ble n m && Nat.beq sz 1 && Nat.beq t e && Aee n f) with
    | true => exact .inr ⟨_, _, _, fun R k => by simp only [hb, cond_true]; rfl⟩
    | false => exact .inl fun R k => by simp only [hb, cond_false]
   | _ => exact .inl fun R k => rfl
 | cstr h n =>
  simp only [AbG]
  cases hb : AdD n (look H h) with
  | true => exact .inr ⟨_, _, _, fun R k => by simp only [cond_true]; rfl⟩
  | false => exact .inl fun R k => by simp only [cond_false]
 | idx h off s len n =>
  simp only [AbG]
  cases n == 0 with
  | true => exact .inr ⟨_, _, _, fun R k => rfl⟩
  | false =>
   cases Nat.ble 2 len && n == 1 with
   | true => exact .inr ⟨_, _, _, fun R k => rfl⟩
   | false =>
    cases Nat.ble 3 len && n == 2 with
    | true => exact .inr ⟨_, _, _, fun R k => rfl⟩
    | false =>
     cases Nat.ble 4 len && n == 3 with
     | true => exact .inr ⟨_, _, _, fun R k => rfl⟩
     | false => exact .inl fun R k => rfl
 | look h kd key ok z =>
  simp only [perfK_look]
  split
  ·exact .inr ⟨_, _, _, fun R k => rfl⟩
  ·exact .inl fun R k => rfl
 | _ =>
  all_goals
   simp only [AbG]
   split
   ·exact .inr ⟨_, _, _, fun R k => rfl⟩
   ·exact .inl fun R k => rfl
theorem guardK_det (ops : Array Oper) (F : List AV) (o : Oper) : (∀ (R : Type) yes no, AeF (R := R) ops F o yes no = none) ∨ (∃ F', ∀ (R : Type) yes no, AeF (R := R) ops F o yes no = yes F') ∨ ∃ F', ∀ (R : Type) yes no, AeF (R := R) ops F o yes no = no F' := by
 unfold AeF
 split
 ·exact .inr (.inl ⟨_, fun R yes no => rfl⟩)
 ·rename_i j want _
  split
  ·exact .inr (.inr ⟨_, fun R yes no => rfl⟩)
  ·split
   ·rename_i b _
    cases b <;> cases want
    ·exact .inr (.inl ⟨_, fun R yes no => rfl⟩)
    ·exact .inr (.inr ⟨_, fun R yes no => rfl⟩)
    ·exact .inr (.inr ⟨_, fun R yes no => rfl⟩)
    ·exact .inr (.inl ⟨_, fun R yes no => rfl⟩)
   ·exact .inr (.inr ⟨_, fun R yes no => rfl⟩)
   ·exact .inl fun R yes no => rfl
theorem stepK_det (ho : AdG orc) (ops : Array Oper) (i : Nat) (s : St) : Det fun R k => stepK (R := R) P orc ops i s k := by
 unfold stepK
 simp only [Ahm, resF_eq, opF_eq, putF_eq]
 split
 ·exact .no fun R k => rfl
 ·rename_i o _
  rcases guardK_det ops s.F o with h | ⟨F', h⟩ | ⟨F', h⟩
  ·exact .no fun R k => h R _ _
  ·cases hr : res P o (opA F') with
   | none => exact .no fun R k => by rw [h]; simp only [hr]
   | some p =>
    obtain ⟨ok, a⟩ := p
    cases ok with
    | false => exact .no fun R k => by rw [h]; simp only [hr, cond_false]
    | true =>
     rcases perfK_det ho (s.nm + 16 * i) a s.H with g | ⟨x, ft, u, g⟩
     ·exact .no fun R k => by rw [h]; simp only [hr, cond_true]; exact g R _
     ·exact .one _ _ fun R k => by rw [h]; simp only [hr, cond_true]; exact g R _
  ·exact .one _ _ fun R k => h R _ _
theorem opsK_det (ho : AdG orc) (ops : Array Oper) : ∀ (l : List Nat) (tr : List (Nat × Tx)) (s : St), Det fun R k => opsK (R := R) P orc ops l tr s k
 | [], tr, s => .one tr s fun R k => rfl
 | i :: rest, tr, s => (stepK_det ho ops i s).bind fun a s' => opsK_det ho ops rest (tr ++ [(i, a)]) s'
def AbW : Code → Bool
 | .region _ ops draw => !(draw && AcT ops)
 | .seq a b => AbW a && AbW b
 | .cond _ a b => AbW a && AbW b
 | .block _ c => AbW c
 | .loop c => AbW c
 | .scope c => AbW c
 | _ => true
theorem AgW (ho : AdG orc) (ops : Array Oper) (draw : Bool) (s : St) (hd : (draw && AcT ops) = false) : Det fun R k => Acn (R := R) P orc ops draw s k := by
 unfold Acn
 simp only [hd, cond_false]
 simp only [drawK_eq]
 refine (opsK_det ho ops _ _ s).bind fun tr s' => ?_
 cases (!draw || (Aba ops (AeQ ops.toList []) tr && AbL ops && P.follows .mixedOrders)) with
 | true => exact .one _ _ fun R k => rfl
 | false => exact .no fun R k => rfl
theorem Ahi {k0 : Nat} {note : Option Note} {body : (R : Type) → St → (Out → St → Option (T R)) → Option (T R)} (hb : ∀ s, Det fun R k => body R s k) : ∀ (n : Nat) (s : St), Det fun R k => Acs (R := R) k0 note (body R) n s k
 | 0, s => .no fun R k => rfl
 | n + 1, s => (hb s).bind (G := fun (o : Out) (s' : St) (R : Type) (k : Out → St → Option (T R)) => match o with
  | .norm => (match trim k0 note s' with
   | none => none
   | some s0 => Acs k0 note (body R) n s0 k)
  | .exit id => k (.exit id) s'
  | .goto l => k (.goto l) s'
  | .ret => k .ret s') fun o s' => by
   cases o with
   | norm =>
    simp only []
    cases trim k0 note s' with
    | none => exact .no fun R k => rfl
    | some s0 => exact Ahi hb n s0
   | exit id => exact .one _ _ fun R k => rfl
   | goto l => exact .one _ _ fun R k => rfl
   | ret => exact .one _ _ fun R k => rfl
theorem evK_det (ho : AdG orc) (ann : Ann) (k0 n : Nat) : ∀ (c : Code), AbW c = true → ∀ (lab : Option Nat) (s : St), Det fun R k => evK (R := R) P orc ann k0 n c lab s k := by
 intro c
 induction c with
 | skip => intro _ lab s; cases lab with
  | none => exact .one _ _ fun R k => by simp only [evK]; rfl
  | some l => exact .no fun R k => by simp only [evK]
 | region id ops draw =>
  intro hn lab s
  cases lab with
  | none =>
   have hd : (draw && AcT ops) = false := by simp only [AbW, Bool.not_eq_true'] at hn; exact hn
   simp only [evK]
   split
   ·exact AgW ho ops draw s hd
   ·split
    ·exact .no fun R k => rfl
    ·rename_i s0 hs0
     cases n with
     | zero => exact .no fun R k => by simp only [Acs]
     | succ m =>
      have h := (AgW (P := P) ho ops draw s0 hd).bind (G := fun (o : Out) (s' : St) (R : Type) (k : Out → St → Option (T R)) => gateN (fun s'' => k .norm s'') o s') fun o s' => by
       cases o with
       | norm => exact .one _ _ fun R k => rfl
       | _ => exact .no fun R k => rfl
      refine h.congr fun R k => ?_
      simp only [Acs]
      exact congrArg _ (funext fun o => funext fun s'' => by cases o <;> rfl)
  | some l => exact .no fun R k => by simp only [evK]
 | seq a b iha ihb =>
  intro hn lab s
  simp only [AbW, Bool.and_eq_true] at hn
  have go : ∀ lab', Det fun (R : Type) (k : Out → St → Option (T R)) => evK P orc ann k0 n a lab' s fun o s' => match o with
   | .norm => evK P orc ann k0 n b none s' k
   | .exit id => k (.exit id) s'
   | .goto l => k (.goto l) s'
   | .ret => k .ret s' := fun lab' => (iha hn.1 lab' s).bind (G := fun (o : Out) (s' : St) (R : Type) (k : Out → St → Option (T R)) => match o with
   | .norm => evK P orc ann k0 n b none s' k
   | .exit id => k (.exit id) s'
   | .goto l => k (.goto l) s'
   | .ret => k .ret s') fun o s' => by
    cases o with
    | norm => exact ihb hn.2 none s'
    | exit id => exact .one _ _ fun R k => rfl
    | goto l => exact .one _ _ fun R k => rfl
    | ret => exact .one _ _ fun R k => rfl
  cases lab with
  | none => simp only [evK]; exact go none
  | some l =>
   simp only [evK]
   cases AbN l a with
   | true => exact go (some l)
   | false => exact ihb hn.2 (some l) s
 | cond c x y ihx ihy =>
  intro hn lab s
  simp only [AbW, Bool.and_eq_true] at hn
  cases lab with
  | some l => exact .no fun R k => by simp only [evK]
  | none =>
   simp only [evK]
   split
   ·rename_i b _
    cases b with
    | true => exact ihx hn.1 none s
    | false => exact ihy hn.2 none s
   ·exact .no fun R k => rfl
 | block id c ih =>
  intro hn lab s
  simp only [AbW] at hn
  cases lab with
  | some l => exact .no fun R k => by simp only [evK]
  | none =>
   simp only [evK]
   exact (ih hn none s).bind (G := fun (o : Out) (s' : St) (R : Type) (k : Out → St → Option (T R)) => match o with
    | .norm => k .norm s'
    | .exit j => bif j == id then k .norm s' else k (.exit j) s'
    | .goto l => k (.goto l) s'
    | .ret => k .ret s') fun o s' => by
     cases o with
     | norm => exact .one _ _ fun R k => rfl
     | exit j => cases hj : (j == id) with
      | true => exact .one _ _ fun R k => by simp only [hj, cond_true]; rfl
      | false => exact .one _ _ fun R k => by simp only [hj, cond_false]; rfl
     | goto l => exact .one _ _ fun R k => rfl
     | ret => exact .one _ _ fun R k => rfl
 | loop c ih =>
  intro hn lab s
  simp only [AbW] at hn
  cases lab with
  | some l => exact .no fun R k => by simp only [evK]
  | none =>
   simp only [evK]
   split
   ·exact .no fun R k => rfl
   ·rename_i s0 _
    exact Ahi (body := fun (R : Type) (s' : St) (k' : Out → St → Option (T R)) => evK P orc ann k0 n c none s' k') (fun s' => ih hn none s') n s0
 | scope c ih =>
  intro hn lab s
  simp only [AbW] at hn
  cases lab with
  | some l => exact .no fun R k => by simp only [evK]
  | none =>
   simp only [evK]
   refine (ih hn none s).bind (G := fun (o : Out) (s' : St) (R : Type) (k : Out → St → Option (T R)) => match o with
    | .goto l => (match findLabel c l with
     | some rest => (match trim k0 ((Abc rest).bind ann) s' with
      | none => none
      | some s0 => Acs k0 ((Abc rest).bind ann) (fun s' k' => evK P orc ann k0 n c (some l) s' fun o s'' => match o with
       | .goto m => bif m == l then k' .norm s'' else none
       | .norm => k' (.goto l) s''
       | .exit id => k' (.exit id) s''
       | .ret => k' .ret s'') n s0 fun o s'' => match o with
        | .goto _ => k .norm s''
        | .norm => none
        | .exit id => k (.exit id) s''
        | .ret => k .ret s'')
     | none => none)
    | .norm => k .norm s'
    | .exit id => k (.exit id) s'
    | .ret => k .ret s') fun o s' => ?_
   cases o with
   | norm => exact .one _ _ fun R k => rfl
   | exit id => exact .one _ _ fun R k => rfl
   | ret => exact .one _ _ fun R k => rfl
   | goto l =>
    simp only []
    split
    ·split
     ·exact .no fun R k => rfl
     ·rename_i rest _ _ s0 _
      refine (Ahi (body := fun (R : Type) (s' : St) (k' : Out → St → Option (T R)) => evK P orc ann k0 n c (some l) s' fun o s'' => match o with
       | .goto m => bif m == l then k' .norm s'' else none
       | .norm => k' (.goto l) s''
       | .exit id => k' (.exit id) s''
       | .ret => k' .ret s'') (fun s1 => ?_) n s0).bind (G := fun (o : Out) (s'' : St) (R : Type) (k : Out → St → Option (T R)) => match o with
        | .goto _ => k .norm s''
        | .norm => none
        | .exit id => k (.exit id) s''
        | .ret => k .ret s'') fun o s'' => ?_
      ·refine (ih hn (some l) s1).bind (G := fun (o : Out) (s'' : St) (R : Type) (k' : Out → St → Option (T R)) => match o with
        | .goto m => bif m == l then k' .norm s'' else none
        | .norm => k' (.goto l) s''
        | .exit id => k' (.exit id) s''
        | .ret => k' .ret s'') fun o s'' => ?_
       cases o with
       | goto m => cases hj : (m == l) with
        | true => exact .one _ _ fun R k => by simp only [hj, cond_true]; rfl
        | false => exact .no fun R k => by simp only [hj, cond_false]
       | norm => exact .one _ _ fun R k => rfl
       | exit id => exact .one _ _ fun R k => rfl
       | ret => exact .one _ _ fun R k => rfl
      ·cases o with
       | goto m => exact .one _ _ fun R k => rfl
       | norm => exact .no fun R k => rfl
       | exit id => exact .one _ _ fun R k => rfl
       | ret => exact .one _ _ fun R k => rfl
    ·exact .no fun R k => rfl
 | label m =>
  intro hn lab s
  cases lab with
  | none => exact .one _ _ fun R k => by simp only [evK]; rfl
  | some l =>
   cases hj : (m == l) with
   | true => exact .one _ _ fun R k => by simp only [evK, hj, cond_true]; rfl
   | false => exact .no fun R k => by simp only [evK, hj, cond_false]
 | goto l => intro _ lab s; cases lab with
  | none => exact .one _ _ fun R k => by simp only [evK]; rfl
  | some l => exact .no fun R k => by simp only [evK]
 | exit l => intro _ lab s; cases lab with
  | none => exact .one _ _ fun R k => by simp only [evK]; rfl
  | some l => exact .no fun R k => by simp only [evK]
 | ret => intro _ lab s; cases lab with
  | none => exact .one _ _ fun R k => by simp only [evK]; rfl
  | some l => exact .no fun R k => by simp only [evK]
 | _ => intro _ lab s; exact .no fun R k => by cases lab <;> simp only [evK]
theorem endK_det (fn : Func) (k0 : Nat) (o : Out) (s : St) : Det fun R k => endK (R := R) P fn k0 k o s := by
 unfold endK
 cases o with
 | exit _ => exact .no fun R k => rfl
 | goto _ => exact .no fun R k => rfl
 | _ =>
  all_goals
   simp only []
   cases Adp P fn s with
   | none => exact .no fun R k => rfl
   | some l =>
    simp only []
    cases AcG l with
    | none => exact .no fun R k => rfl
    | some x => exact .one _ _ fun R k => rfl
theorem callK_det (ho : AdG orc) (ann : Ann) (n : Nat) (fn : Func) (c : Code) (hc : AbW c = true) (args : List AV) (H : Hp) : Det fun R k => callK (R := R) P orc ann n fn c args H k := by
 unfold callK
 exact (evK_det ho ann H.length n c hc none _).bind (G := fun o s R k => endK P fn H.length k o s) fun o s => endK_det fn H.length o s
end
noncomputable def inl (P : Program) (orc : Orc) (ann : Ann) (n : Nat) (fn : Func) : (R : Type) → List AV → Hp → (AV → Hp → Option (T R)) → Option (T R) := fun _ args H k =>
 bif AbW (Aad fn) && seqN 0 H then callK P orc ann n fn (Aad fn) args H k else none
def AnsDet (g : (R : Type) → List AV → Hp → (AV → Hp → Option (T R)) → Option (T R)) : Prop := ∀ args H, Det fun R k => g R args H k
theorem inl_det {P : Program} {orc : Orc} (ho : AdG orc) {ann : Ann} {n : Nat} {fn : Func} : AnsDet (inl P orc ann n fn) := fun args H => by
 unfold inl
 cases hc : (AbW (Aad fn) && seqN 0 H) with
 | false => exact .no fun R k => rfl
 | true =>
  simp only [Bool.and_eq_true] at hc
  exact callK_det ho ann n fn _ hc.1 args H
theorem inl_ok {P : Program} {orc : Orc} (ho : Acg P orc) (hd : AdG orc) {ann : Ann} {n : Nat} {f : FuncId} {fn : Func} (hf : P.funcs[f]? = some fn) (hb : fn.body = some (Aad fn)) :
  ∀ (R : Type) args H (k : AV → Hp → Option (T R)) t, inl P orc ann n fn R args H k = some t → ∃ x H', k x H' = some t ∧ CX P f args H x H' := fun R args H k t h => by
 unfold inl at h
 cases hc : (AbW (Aad fn) && seqN 0 H) with
 | false => rw [hc] at h; cases h
 | true =>
  rw [hc] at h
  simp only [cond_true] at h
  simp only [Bool.and_eq_true] at hc
  rcases callK_det (P := P) hd ann n fn _ hc.1 args H with g | ⟨x, H', g⟩
  ·exact absurd ((g R k).symm.trans h) (by simp)
  ·exact ⟨x, H', (g R k).symm.trans h, cxA_of ho (ann := ann) (n := n) hf hb hc.2 (by unfold callA; exact g _ _)⟩
theorem Orc.nil_det : AdG Orc.nil := fun f args H => .no fun R k => rfl
theorem Orc.cons_det {f0 : FuncId} {g : (R : Type) → List AV → Hp → (AV → Hp → Option (T R)) → Option (T R)} {rest : Orc} (hg : AnsDet g) (hr : AdG rest) : AdG (Orc.cons f0 g rest) := fun f args H => by
 unfold Orc.cons
 exact .bif _ (hg args H) (hr f args H)
theorem ansP_det {α : Type} {dec : List AV → Option α} {g : α → AV} : AnsDet (ansP dec g) := fun args H => by
 unfold ansP
 cases H with
 | nil =>
  simp only []
  cases dec args with
  | none => exact .no fun R k => rfl
  | some a => exact .one _ _ fun R k => rfl
 | cons _ _ => exact .no fun R k => rfl
structure OrcS (P : Program) (orc : Orc) : Prop where
 ok : Acg P orc
 det : AdG orc
structure AnsS (P : Program) (f : FuncId) (g : (R : Type) → List AV → Hp → (AV → Hp → Option (T R)) → Option (T R)) : Prop where
 ok : ∀ (R : Type) args H (k : AV → Hp → Option (T R)) t, g R args H k = some t → ∃ x H', k x H' = some t ∧ CX P f args H x H'
 det : AnsDet g
theorem OrcS.nil {P : Program} : OrcS P Orc.nil := ⟨Orc.nil_ok P, Orc.nil_det⟩
theorem OrcS.cons {P : Program} {f0 : FuncId} {g : (R : Type) → List AV → Hp → (AV → Hp → Option (T R)) → Option (T R)} {rest : Orc} (h : AnsS P f0 g) (r : OrcS P rest) : OrcS P (Orc.cons f0 g rest) := ⟨Orc.cons_ok r.ok h.ok, Orc.cons_det h.det r.det⟩
theorem AnsS.inl {P : Program} {orc : Orc} (h : OrcS P orc) {ann : Ann} {n : Nat} {f : FuncId} {fn : Func} (hf : P.funcs[f]? = some fn) (hb : fn.body = some (Aad fn)) : AnsS P f (inl P orc ann n fn) := ⟨inl_ok h.ok h.det hf hb, inl_det h.det⟩
theorem AnsS.p {P : Program} {f0 : FuncId} {α : Type} {dec : List AV → Option α} {g : α → AV} {enc : α → List AV} (hd : ∀ args a, dec args = some a → args = enc a) (hc : ∀ a, CX P f0 (enc a) [] (g a) []) : AnsS P f0 (ansP dec g) := ⟨ansP_ok hd hc, ansP_det⟩
structure Dec (X A : Type) where
 dec : X → Option A
 enc : A → X
 ok : ∀ x a, dec x = some a → x = enc a
namespace Dec
def nil {X : Type} : Dec (List X) Unit := ⟨fun x => match x with | [] => some () | _ :: _ => none, fun _ => [], fun x a h => by cases x <;> simp_all⟩
def cons {X A B : Type} (d : Dec X A) (e : Dec (List X) B) : Dec (List X) (A × B) :=
 ⟨fun x => match x with
  | [] => none
  | y :: r => match d.dec y with
   | none => none
   | some a => match e.dec r with
    | none => none
    | some b => some (a, b),
  fun p => d.enc p.1 :: e.enc p.2, fun x p h => by
   cases x with
   | nil => simp at h
   | cons y r =>
    simp only [] at h
    cases hd : d.dec y with
    | none => rw [hd] at h; simp at h
    | some a =>
     rw [hd] at h
     simp only [] at h
     cases he : e.dec r with
     | none => rw [he] at h; simp at h
     | some b =>
      rw [he] at h
      simp only [Option.some.injEq] at h
      subst h
      rw [d.ok y a hd, e.ok r b he]⟩
def pair {X Y A B : Type} (d : Dec X A) (e : Dec Y B) : Dec (X × Y) (A × B) :=
 ⟨fun x => match d.dec x.1 with
  | none => none
  | some a => match e.dec x.2 with
   | none => none
   | some b => some (a, b),
  fun p => (d.enc p.1, e.enc p.2), fun x p h => by
   obtain ⟨y, r⟩ := x
   simp only [] at h
   cases hd : d.dec y with
   | none => rw [hd] at h; simp at h
   | some a =>
    rw [hd] at h
    simp only [] at h
    cases he : e.dec r with
    | none => rw [he] at h; simp at h
    | some b =>
     rw [he] at h
     simp only [Option.some.injEq] at h
     subst h
     rw [d.ok y a hd, e.ok r b he]⟩
def blk {A : Type} (n : Nat) (d : Dec Blk A) : Dec (Nat × Blk) A := 
 ⟨fun x => bif Nat.beq x.1 n then d.dec x.2 else none, fun a => (n, d.enc a), fun x a h => by
  obtain ⟨m, b⟩ := x
  cases hb : Nat.beq m n with
  | true => simp only [hb, cond_true] at h; rw [Nat.eq_of_beq_eq_true hb, d.ok b a h]
  | false => simp only [hb, cond_false] at h; cases h⟩
def cells {A : Type} (t : TypeId) (d : Dec (List C) A) : Dec Blk A :=
 ⟨fun x => match x with | .cells cs u => bif Nat.beq u t then d.dec cs else none | _ => none, fun a => .cells (d.enc a) t, fun x a h => by
  cases x with
  | cells cs u =>
   simp only [] at h
   cases hb : Nat.beq u t with
   | true => rw [hb] at h; simp only [cond_true] at h; rw [Nat.eq_of_beq_eq_true hb, d.ok cs a h]
   | false => rw [hb] at h; cases h
  | _ => cases h⟩
def rowB (sz : Nat) (t : TypeId) : Dec Blk (Nat × (Nat → List D)) :=
 ⟨fun x => match x with | .row n f z u => bif Nat.beq z sz && Nat.beq u t then some (n, f) else none | _ => none, fun a => .row a.1 a.2 sz t, fun x a h => by
  cases x with
  | row n f z u =>
   simp only [] at h
   cases hb : (Nat.beq z sz && Nat.beq u t) with
   | true =>
    rw [hb] at h
    simp only [cond_true, Option.some.injEq] at h
    subst h
    simp only [Bool.and_eq_true] at hb
    rw [Nat.eq_of_beq_eq_true hb.1, Nat.eq_of_beq_eq_true hb.2]
   | false => rw [hb] at h; cases h
  | _ => cases h⟩
def i64 : Dec C Int := ⟨fun x => match x with | .d (.v (.int .i64 n)) => some n | _ => none, fun n => .d (.v (.int .i64 n)), fun x a h => by
 split at h
 ·cases h; rfl
 ·cases h⟩
def bool : Dec C Bool := ⟨fun x => match x with | .d (.v (.bool n)) => some n | _ => none, fun n => .d (.v (.bool n)), fun x a h => by
 split at h
 ·cases h; rfl
 ·cases h⟩
def str : Dec C ByteArray := ⟨fun x => match x with | .d (.v (.string n)) => some n | _ => none, fun n => .d (.v (.string n)), fun x a h => by
 split at h
 ·cases h; rfl
 ·cases h⟩
def nilS : Dec C Unit := ⟨fun x => match x with | .d (.v (.slice none 0 0)) => some () | _ => none, fun _ => .d (.v (.slice none 0 0)), fun x a h => by
 split at h
 ·rfl
 ·cases h⟩
def data : Dec C D := ⟨fun x => match x with | .d y => some y | _ => none, fun n => .d n, fun x a h => by
 split at h
 ·cases h; rfl
 ·cases h⟩
def row (h sz : Nat) : Dec C Nat := ⟨fun x => match x with | .row k z n => bif Nat.beq k h && Nat.beq z sz then some n else none | _ => none, fun n => .row h sz n, fun x a e => by
 split at e
 ·rename_i k z n
  cases hb : (Nat.beq k h && Nat.beq z sz) with
  | true =>
   rw [hb] at e
   simp only [cond_true, Option.some.injEq] at e
   subst e
   simp only [Bool.and_eq_true] at hb
   rw [Nat.eq_of_beq_eq_true hb.1, Nat.eq_of_beq_eq_true hb.2]
  | false => rw [hb] at e; cases e
 ·cases e⟩
def ptr (h o : Nat) : Dec C Unit := ⟨fun x => match x with | .ptr k p => bif Nat.beq k h && Nat.beq p o then some () else none | _ => none, fun _ => .ptr h o, fun x a e => by
 split at e
 ·rename_i k p
  cases hb : (Nat.beq k h && Nat.beq p o) with
  | true =>
   simp only [Bool.and_eq_true] at hb
   rw [Nat.eq_of_beq_eq_true hb.1, Nat.eq_of_beq_eq_true hb.2]
  | false => rw [hb] at e; cases e
 ·cases e⟩
def c {A : Type} (d : Dec C A) : Dec AV A := ⟨fun x => match x with | .c y => d.dec y | _ => none, fun a => .c (d.enc a), fun x a h => by
 cases x with
 | c y => rw [d.ok y a h]
 | _ => cases h⟩
def agg {A : Type} (d : Dec (List C) A) : Dec AV A := ⟨fun x => match x with | .agg y => d.dec y | _ => none, fun a => .agg (d.enc a), fun x a h => by
 cases x with
 | agg y => rw [d.ok y a h]
 | _ => cases h⟩
end Dec
def ansD {A : Type} (d : Dec (List AV × Hp) A) (c : A → Bool) (r : A → AV) (H' : A → Hp) : (R : Type) → List AV → Hp → (AV → Hp → Option (T R)) → Option (T R) := fun _ args H k =>
 match d.dec (args, H) with
 | some a => bif c a then k (r a) (H' a) else none
 | none => none
theorem AnsS.d {P : Program} {f : FuncId} {A : Type} {d : Dec (List AV × Hp) A} {c : A → Bool} {r : A → AV} {H' : A → Hp} (hc : ∀ a, c a = true → CX P f (d.enc a).1 (d.enc a).2 (r a) (H' a)) : AnsS P f (ansD d c r H') := by
 refine ⟨fun R args H k t h => ?_, fun args H => ?_⟩
 ·unfold ansD at h
  cases hd : d.dec (args, H) with
  | none => rw [hd] at h; cases h
  | some a =>
   rw [hd] at h
   simp only [] at h
   cases hca : c a with
   | false => rw [hca] at h; cases h
   | true =>
    rw [hca] at h
    have e := d.ok _ _ hd
    have := hc a hca
    rw [← e] at this
    exact ⟨_, _, h, this⟩
 ·unfold ansD
  cases d.dec (args, H) with
  | none => exact .no fun R k => rfl
  | some a => exact .bif _ (.one _ _ fun R k => rfl) (.no fun R k => rfl)
end Go.Eb
namespace Go.Eb
open Go.RowKit
inductive Fr where
 | nil
 | leaf (j : Nat) (x : AV)
 | node (k : Nat) (l r : Fr)
namespace Fr
noncomputable def get (i : Nat) (t : Fr) : AV :=
 Fr.rec (motive := fun _ => AV) .u (fun j x => Bool.rec (motive := fun _ => AV) .u x (Nat.beq i j)) (fun k _ _ a b => Bool.rec (motive := fun _ => AV) a b (Nat.ble k i)) t
noncomputable def setK {R : Type} (i : Nat) (x : AV) (t : Fr) : (Fr → R) → R :=
 Fr.rec (motive := fun _ => (Fr → R) → R) (fun k => k .nil) (fun j y k => Bool.rec (motive := fun _ => R) (k (.leaf j y)) (k (.leaf j x)) (Nat.beq i j))
  (fun m l r a b k => Bool.rec (motive := fun _ => R) (a fun l' => k (.node m l' r)) (b fun r' => k (.node m l r')) (Nat.ble m i)) t
def toL : Fr → List AV
 | nil => []
 | leaf _ x => [x]
 | node _ l r => toL l ++ toL r
def Ok : Nat → Nat → Fr → Prop
 | lo, hi, nil => lo = hi
 | lo, hi, leaf j _ => j = lo ∧ hi = lo + 1
 | lo, hi, node k l r => Ok lo k l ∧ Ok k hi r
theorem Ok.len : ∀ {t : Fr} {lo hi : Nat}, Ok lo hi t → lo + (toL t).length = hi
 | nil, lo, hi, h => by simpa [Ok, toL] using h
 | leaf j x, lo, hi, h => by simp only [Ok] at h; simp [toL, h.2]
 | node k l r, lo, hi, h => by
  simp only [Ok] at h
  have h1 := Ok.len h.1
  have h2 := Ok.len h.2
  simp only [toL, List.length_append]
  omega
theorem get_eq : ∀ {t : Fr} {lo hi i : Nat}, Ok lo hi t → lo ≤ i → get i t = (toL t).getD (i - lo) .u
 | nil, lo, hi, i, h, hi' => by simp [get, toL]
 | leaf j x, lo, hi, i, h, hi' => by
  simp only [Ok] at h
  obtain ⟨rfl, _⟩ := h
  show Bool.rec (motive := fun _ => AV) .u x (Nat.beq i j) = _
  rw [beqD]
  by_cases e : i = j
  ·subst e; simp [toL]
  ·rw [decide_eq_false e]
   have : i - j = (i - j - 1) + 1 := by omega
   rw [this]; simp [toL]
 | node k l r, lo, hi, i, h, hi' => by
  simp only [Ok] at h
  have h1 := Ok.len h.1
  show Bool.rec (motive := fun _ => AV) (get i l) (get i r) (Nat.ble k i) = _
  rw [bleD]
  by_cases e : k ≤ i
  ·rw [decide_eq_true e]
   have := get_eq (t := r) h.2 e
   simp only [toL]
   rw [List.getD_eq_getElem?_getD, List.getElem?_append_right (by omega), this, List.getD_eq_getElem?_getD]
   congr 2; omega
  ·rw [decide_eq_false e]
   have := get_eq (t := l) h.1 hi'
   simp only [toL]
   rw [List.getD_eq_getElem?_getD, List.getElem?_append_left (by omega), this, List.getD_eq_getElem?_getD]
theorem setK_eq (x : AV) : ∀ {t : Fr} {lo hi i : Nat}, Ok lo hi t → lo ≤ i → ∃ t', Ok lo hi t' ∧ toL t' = (toL t).set (i - lo) x ∧ ∀ (R : Type) (k : Fr → R), setK i x t k = k t'
 | nil, lo, hi, i, h, hi' => ⟨nil, h, by simp [toL], fun R k => rfl⟩
 | leaf j y, lo, hi, i, h, hi' => by
  simp only [Ok] at h
  obtain ⟨rfl, rfl⟩ := h
  by_cases e : i = j
  ·subst e
   refine ⟨leaf i x, ⟨rfl, rfl⟩, by simp [toL], fun R k => ?_⟩
   show Bool.rec (motive := fun _ => R) (k (.leaf i y)) (k (.leaf i x)) (Nat.beq i i) = _
   rw [beqD]; simp
  ·refine ⟨leaf j y, ⟨rfl, rfl⟩, ?_, fun R k => ?_⟩
   ·have : i - j = (i - j - 1) + 1 := by omega
    rw [this]; simp [toL]
   ·show Bool.rec (motive := fun _ => R) (k (.leaf j y)) (k (.leaf j x)) (Nat.beq i j) = _
    rw [beqD, decide_eq_false e]
 | node m l r, lo, hi, i, h, hi' => by
  simp only [Ok] at h
  have h1 := Ok.len h.1
  by_cases e : m ≤ i
  ·obtain ⟨r', o, e1, e2⟩ := setK_eq x (t := r) h.2 e
   refine ⟨node m l r', ⟨h.1, o⟩, ?_, fun R k => ?_⟩
   ·simp only [toL]
    rw [e1, List.set_append_right _ _ (by omega : (toL l).length ≤ i - lo)]
    congr 2; omega
   ·show Bool.rec (motive := fun _ => R) (setK i x l fun l' => k (.node m l' r)) (setK i x r fun r' => k (.node m l r')) (Nat.ble m i) = _
    rw [bleD, decide_eq_true e]
    exact e2 R _
  ·obtain ⟨l', o, e1, e2⟩ := setK_eq x (t := l) h.1 hi'
   refine ⟨node m l' r, ⟨o, h.2⟩, ?_, fun R k => ?_⟩
   ·simp only [toL]
    rw [e1, List.set_append_left _ _ (by omega : i - lo < (toL l).length)]
   ·show Bool.rec (motive := fun _ => R) (setK i x l fun l' => k (.node m l' r)) (setK i x r fun r' => k (.node m l r')) (Nat.ble m i) = _
    rw [bleD, decide_eq_false e]
    exact e2 R _
def base : Nat → Nat → Nat → Fr
 | 0, _, _ => nil
 | _ + 1, _, 0 => nil
 | _ + 1, lo, 1 => leaf lo (.tup [])
 | d + 1, lo, n + 2 => node (lo + (n + 2) / 2) (base d lo ((n + 2) / 2)) (base d (lo + (n + 2) / 2) (n + 2 - (n + 2) / 2))
theorem base_ok : ∀ (d lo n : Nat), n ≤ d → Ok lo (lo + n) (base d lo n) ∧ toL (base d lo n) = List.replicate n (.tup [])
 | 0, lo, n, h => by
  obtain rfl : n = 0 := by omega
  simp [base, Ok, toL]
 | d + 1, lo, 0, h => by simp [base, Ok, toL]
 | d + 1, lo, 1, h => by simp [base, Ok, toL]
 | d + 1, lo, n + 2, h => by
  have h1 := base_ok d lo ((n + 2) / 2) (by omega)
  have h2 := base_ok d (lo + (n + 2) / 2) (n + 2 - (n + 2) / 2) (by omega)
  have e : lo + (n + 2) / 2 + (n + 2 - (n + 2) / 2) = lo + (n + 2) := by omega
  rw [e] at h2
  refine ⟨?_, ?_⟩
  ·simp only [base, Ok]
   exact ⟨h1.1, h2.1⟩
  ·simp only [base, toL, h1.2, h2.2, List.replicate_append_replicate]
   congr 1; omega
noncomputable def putsK {R : Type} (l : List AV) : Nat → Fr → (Fr → R) → R :=
 List.rec (motive := fun _ => Nat → Fr → (Fr → R) → R) (fun _ t k => k t) (fun x _ ih i t k => setK i x t fun t' => ih (i + 1) t' k) l
theorem putsK_eq : ∀ (l : List AV) {t : Fr} {hi i : Nat}, Ok 0 hi t → i + l.length ≤ hi → ∃ t', Ok 0 hi t' ∧ toL t' = (toL t).take i ++ l ++ (toL t).drop (i + l.length) ∧ ∀ (R : Type) (k : Fr → R), putsK l i t k = k t'
 | [], t, hi, i, h, hl => ⟨t, h, by simp, fun R k => rfl⟩
 | x :: r, t, hi, i, h, hl => by
  obtain ⟨t1, o1, e1, k1⟩ := setK_eq x h (Nat.zero_le i)
  have hlen := h.len
  simp only [List.length_cons] at hl
  obtain ⟨t2, o2, e2, k2⟩ := putsK_eq r (t := t1) (i := i + 1) o1 (by omega)
  refine ⟨t2, o2, ?_, fun R k => ?_⟩
  ·rw [e2, e1]
   simp only [Nat.sub_zero, List.length_cons]
   have hi2 : i < (toL t).length := by omega
   rw [List.drop_set_of_lt (by omega), List.take_add_one, List.getElem?_set_self (by omega)]
   simp only [Option.toList_some, List.take_set, List.append_assoc, List.cons_append, List.nil_append]
   rw [List.set_eq_of_length_le (by simp; omega)]
   have e9 : i + 1 + r.length = i + (r.length + 1) := by omega
   rw [e9]
  ·show setK i x t (fun t' => putsK r (i + 1) t' k) = _
   rw [k1]
   exact k2 R k
noncomputable def ofK {R : Type} (l : List AV) (k : Fr → R) : R := putsK l 0 (base l.length 0 l.length) k
theorem ofK_eq (l : List AV) : ∃ t, Ok 0 l.length t ∧ toL t = l ∧ ∀ (R : Type) (k : Fr → R), ofK l k = k t := by
 have hb := base_ok l.length 0 l.length (Nat.le_refl _)
 rw [Nat.zero_add] at hb
 obtain ⟨t, o, e, h⟩ := putsK_eq l hb.1 (i := 0) (by omega)
 refine ⟨t, o, ?_, h⟩
 rw [e, hb.2]
 simp
end Fr
noncomputable def insK {R : Type} (h : Nat) (b : Blk) (H : Hp) : (Hp → R) → R :=
 List.rec (motive := fun _ => (Hp → R) → R) (fun k => k [(h, b)])
  (fun p r ih k => Bool.rec (motive := fun _ => R) (ih fun r' => k (p :: r')) (Bool.rec (motive := fun _ => R) (k ((h, b) :: p :: r)) (k ((h, b) :: r)) (Nat.beq h p.1)) (Nat.ble h p.1)) H
theorem insK_eq {R : Type} (h : Nat) (b : Blk) : ∀ (H : Hp) (k : Hp → R), insK h b H k = k (ins h b H)
 | [], k => rfl
 | (m, c) :: r, k => by
  show Bool.rec (motive := fun _ => R) (insK h b r fun r' => k ((m, c) :: r')) (Bool.rec (motive := fun _ => R) (k ((h, b) :: (m, c) :: r)) (k ((h, b) :: r)) (Nat.beq h m)) (Nat.ble h m) = _
  simp only [ins]
  cases h1 : Nat.ble h m with
  | false => simp only [cond_false]; exact insK_eq h b r _
  | true =>
   cases h2 : Nat.beq h m with
   | false => simp only [cond_true, cond_false]
   | true => simp only [cond_true]
noncomputable def applyK {R : Type} (u : Ups) : Hp → (Hp → R) → R :=
 List.rec (motive := fun _ => Hp → (Hp → R) → R) (fun H k => k H) (fun p _ ih H k => insK p.1 p.2 H fun H' => ih H' k) u
theorem applyK_eq {R : Type} : ∀ (u : Ups) (H : Hp) (k : Hp → R), applyK u H k = k (AaB u H)
 | [], H, k => rfl
 | (h, b) :: r, H, k => by
  show insK h b H (fun H' => applyK r H' k) = _
  rw [insK_eq, applyK_eq r]
  rfl
noncomputable def natK {R : Type} (n : Nat) (k : Nat → R) : R := Nat.rec (motive := fun _ => R) (k 0) (fun m _ => k (Nat.succ m)) n
theorem natK_eq {R : Type} (n : Nat) (k : Nat → R) : natK n k = k n := by cases n <;> rfl
structure StQ where
 t : Fr
 H : Hp
 nm : Nat
def StQ.to (s : StQ) : St := ⟨s.t.toL, s.H, s.nm⟩
def StQ.Ok (s : StQ) : Prop := ∃ hi, Fr.Ok 0 hi s.t
section
variable {P : Program} {orc : Orc}
noncomputable def opQ (t : Fr) (o : Operand) : AV :=
 Operand.rec (motive := fun _ => Fr → AV) (fun i t => t.get i) (fun v _ => absA v) (fun g _ => gOp g) (fun f _ => .c (.d (.v (.func (.func f) #[] #[])))) o t
theorem opQ_eq {t : Fr} {hi : Nat} (h : Fr.Ok 0 hi t) : opQ t = opA t.toL := by
 funext o
 cases o with
 | tmp i => exact (Fr.get_eq h (Nat.zero_le _)).trans (by simp only [opA, Nat.sub_zero])
 | _ => rfl
noncomputable def putQ {R : Type} (dst : Option Nat) : AV → Fr → (Fr → R) → R := Option.rec (motive := fun _ => AV → Fr → (Fr → R) → R) (fun _ t k => k t) (fun d x t k => Fr.setK d x t k) dst
noncomputable def guard2 {R : Type} (ops : Array Oper) (j : Nat) (want : Bool) (t : Fr) (yes no : Fr → Option (T R)) : Option (T R) :=
 match (ops[j]?).bind (·.dst) with
  | none => no t
  | some d => match t.get d with
   | .c (.d (.v (.bool b))) => bif b then (bif want then Fr.setK d (.c (.d (.v (.bool true)))) t yes else Fr.setK d (.c (.d (.v (.bool true)))) t no)
    else (bif want then Fr.setK d (.c (.d (.v (.bool false)))) t no else Fr.setK d (.c (.d (.v (.bool false)))) t yes)
   | .tup [] => no t
   | _ => none
noncomputable def guardQ {R : Type} (g : Option (Nat × Bool)) : Array Oper → Fr → (Fr → Option (T R)) → (Fr → Option (T R)) → Option (T R) :=
 Option.rec (motive := fun _ => Array Oper → Fr → (Fr → Option (T R)) → (Fr → Option (T R)) → Option (T R)) (fun _ t yes _ => yes t) (fun p ops t yes no => guard2 ops p.1 p.2 t yes no) g
theorem putQ_eq (dst : Option Nat) (x : AV) {t : Fr} {hi : Nat} (h : Fr.Ok 0 hi t) : ∃ t', Fr.Ok 0 hi t' ∧ t'.toL = put t.toL dst x ∧ ∀ (R : Type) (k : Fr → R), putQ dst x t k = k t' := by
 cases dst with
 | none => exact ⟨t, h, rfl, fun R k => rfl⟩
 | some d =>
  obtain ⟨t', o, e, k⟩ := Fr.setK_eq x h (Nat.zero_le d)
  exact ⟨t', o, e, k⟩
theorem guardQ_eq {R : Type} (ops : Array Oper) {t : Fr} {hi : Nat} (h : Fr.Ok 0 hi t) (o : Oper) (yes no : Fr → Option (T R)) (yes' no' : List AV → Option (T R))
  (hy : ∀ t, Fr.Ok 0 hi t → yes t = yes' t.toL) (hn : ∀ t, Fr.Ok 0 hi t → no t = no' t.toL) : guardQ o.guard ops t yes no = AeF ops t.toL o yes' no' := by
 unfold AeF
 cases o.guard with
 | none => exact hy t h
 | some p =>
  obtain ⟨j, want⟩ := p
  show guard2 ops j want t yes no = _
  unfold guard2
  simp only
  cases (ops[j]?).bind (·.dst) with
  | none => exact hn t h
  | some d =>
   have e := Fr.get_eq h (Nat.zero_le d)
   rw [Nat.sub_zero] at e
   simp only
   rw [e]
   obtain ⟨t1, o1, e1, k1⟩ := Fr.setK_eq (.c (.d (.v (.bool true)))) h (Nat.zero_le d)
   obtain ⟨t2, o2, e2, k2⟩ := Fr.setK_eq (.c (.d (.v (.bool false)))) h (Nat.zero_le d)
   rw [Nat.sub_zero] at e1 e2
   simp only [k1, k2, hy _ o1, hn _ o1, hy _ o2, hn _ o2, e1, e2, hn t h]
   rfl
def leS (a b : IntKind) : Bool := decide (a = b)
noncomputable def intQ (op : BinOp) : IntKind → Int → Int → Option (Bool × Do) := BinOp.rec (motive := fun _ => IntKind → Int → Int → Option (Bool × Do))
 (fun k a b => some (true, .val (.c (.d (.v (.int k (k.wrap (a + b))))))))
 (fun k a b => some (true, .val (.c (.d (.v (.int k (k.wrap (a - b))))))))
 (fun k a b => some (true, .val (.c (.d (.v (.int k (k.wrap (a * b))))))))
 (fun _ _ _ => none) (fun _ _ _ => none) (fun _ _ _ => none) (fun _ _ _ => none) (fun _ _ _ => none) (fun _ _ _ => none) (fun _ _ _ => none) (fun _ _ _ => none)
 (fun _ a b => some (true, .val (.c (.d (.v (.bool (a == b)))))))
 (fun _ a b => some (true, .val (.c (.d (.v (.bool (a != b)))))))
 (fun _ a b => some (true, .val (.c (.d (.v (.bool (decide (a < b))))))))
 (fun _ a b => some (true, .val (.c (.d (.v (.bool (decide (a ≤ b))))))))
 (fun _ a b => some (true, .val (.c (.d (.v (.bool (decide (a > b))))))))
 (fun _ a b => some (true, .val (.c (.d (.v (.bool (decide (a ≥ b)))))))) op
def AgA : BinOp → Bool
 | .add | .sub | .mul | .eql | .neq | .lss | .leq | .gtr | .geq => true
 | _ => false
noncomputable def binInt (p q : AV) (op : BinOp) (slow : Option (Bool × Do)) : Option (Bool × Do) := match p, q with
 | .c (.d (.v (.int k a))), .c (.d (.v (.int k' b))) => bif AgA op && leS k k' then intQ op k a b else slow
 | _, _ => slow
noncomputable def qBinOp (P : Program) (ρ : Operand → AV) (op : BinOp) (t : TypeId) (x y : Operand) : Option (Bool × Do) := binInt (ρ x) (ρ y) op (rBinOp P ρ op t x y)
theorem pr_int (op : BinOp) (hf : AgA op = true) (t : TypeId) (x y : Operand) (k : IntKind) (a b : Int) : (match pr P (do eqGuard op t x y (.int k a) (.int k b); binOp op t (.int k a) (.int k b)) with | some r => val1 r | none => none) = intQ op k a b := by
 cases op <;> first | (cases hf; done) | (cases k <;> rfl)
theorem div_fast {op : BinOp} (hf : AgA op = true) (a b : Value) (s : Option (Bool × Do)) : divOr op a b s = s := by
 cases op <;> first | (cases hf; done) | rfl
theorem qBinOp_eq (ρ : Operand → AV) (op : BinOp) (t : TypeId) (x y : Operand) : qBinOp P ρ op t x y = rBinOp P ρ op t x y := by
 unfold qBinOp binInt
 split
 ·rename_i k a k' b hx hy
  cases hc : (AgA op && leS k k') with
  | false => rfl
  | true =>
   simp only [Bool.and_eq_true] at hc
   have hk : k = k' := of_decide_eq_true hc.2
   subst hk
   simp only [cond_true]
   unfold rBinOp
   rw [hx, hy]
   exact (pr_int op hc.1 t x y k a b).symm.trans (div_fast hc.1 _ _ _).symm
 ·rfl
noncomputable def resQ (o : Op) : Program → (Operand → AV) → Option (Bool × Do) :=
 Op.rec (motive := fun _ => Program → (Operand → AV) → Option (Bool × Do))
  (fun x _ ρ => some (true, .val (ρ x)))
  (fun x _ ρ => some (true, .val (ρ x)))
  (fun c a b P ρ => rPick P ρ c a b)
  (fun e P ρ => rAlloc P ρ e)
  (fun e x P ρ => rBox P ρ e x)
  (fun t parts P ρ => rBuild P ρ t parts)
  (fun t len parts P ρ => AgX P ρ t len parts)
  (fun t m k v P ρ => Aep P ρ t m k v)
  (fun t a P ρ => rLoad P ρ t a)
  (fun t a x P ρ => rStore P ρ t a x)
  (fun _ _ _ => none)
  (fun _ _ _ => none)
  (fun x P ρ => rNilCheck P ρ x)
  (fun op t x y _ P ρ => qBinOp P ρ op t x y)
  (fun op _ x P ρ => rUnOp P ρ op x)
  (fun s t x P ρ => rConvert P ρ s t x)
  (fun _ _ _ _ => none)
  (fun _ _ _ _ => none)
  (fun fn first captured P ρ => rMakeFunc P ρ fn first captured)
  (fun t r P ρ => rMakeMap P ρ t r)
  (fun _ _ _ _ => none)
  (fun _ _ _ _ _ => none)
  (fun t x lo hi mx P ρ => rSlice P ρ t x lo hi mx)
  (fun s x f P ρ => rFieldAddr P ρ s x f)
  (fun t x f P ρ => rField P ρ t x f)
  (fun t x i P ρ => rIndexAddr P ρ t x i)
  (fun t x i P ρ => rIndex P ρ t x i)
  (fun t x i ok P ρ => rLookup P ρ t x i ok)
  (fun t m k v P ρ => Aep P ρ t m k v)
  (fun _ _ _ _ _ => none)
  (fun _ _ _ _ _ _ => none)
  (fun t x P ρ => rRange P ρ t x)
  (fun it str P ρ => rNext P ρ it str)
  (fun _ _ _ => none)
  (fun _ _ _ _ _ _ => none)
  (fun x i P ρ => rExtract P ρ x i)
  (fun c P ρ => rCall P ρ c)
  (fun _ _ _ => none)
  (fun _ _ _ => none)
  (fun _ _ _ => none)
  (fun _ _ _ _ => none)
  (fun _ _ _ _ _ => none)
  (fun _ _ _ _ => none) o
theorem resQ_eq (o : Oper) (ρ : Operand → AV) : resQ o.op P ρ = resF P o ρ := by
 obtain ⟨dst, op, ty, pos, after, guard⟩ := o
 cases op with
 | binOp op t x y u => exact qBinOp_eq ρ op t x y
 | _ => rfl
noncomputable def lookQ (k : Nat) (H : Hp) : Option Blk := List.rec (motive := fun _ => Option Blk) none (fun p _ ih => Bool.rec (motive := fun _ => Option Blk) ih (some p.2) (Nat.beq k p.1)) H
noncomputable def getQ {α : Type} (l : List α) : Nat → Option α := List.rec (motive := fun _ => Nat → Option α) (fun _ => none) (fun x _ ih n => Nat.rec (motive := fun _ => Option α) (some x) (fun m _ => ih m) n) l
theorem lookQ_eq (k : Nat) : ∀ H : Hp, lookQ k H = look H k
 | [] => rfl
 | (h, b) :: r => by
  show Bool.rec (motive := fun _ => Option Blk) (lookQ k r) (some b) (Nat.beq k h) = _
  rw [lookQ_eq k r]
  simp only [look]
  cases Nat.beq k h <;> rfl
theorem getQ_eq {α : Type} : ∀ (l : List α) (n : Nat), getQ l n = l[n]?
 | [], n => by simp [getQ]
 | x :: r, 0 => by simp; rfl
 | x :: r, n + 1 => by
  show getQ r n = _
  rw [getQ_eq r n]; simp
noncomputable def cellQ (cs : List C) (off n : Nat) (ag : Bool) : Option AV :=
 Bool.rec (motive := fun _ => Option AV) none (Bool.rec (motive := fun _ => Option AV) (Option.rec (motive := fun _ => Option AV) none (fun c => some (.c c)) (getQ cs off)) (some (.agg ((cs.drop off).take n))) ag) (Nat.ble (off + n) cs.length)
theorem cellQ_eq (cs : List C) (off n : Nat) (ag : Bool) : cellQ cs off n ag = Aey cs off n ag := by
 unfold cellQ Aey
 rw [bleD, getQ_eq]
 by_cases h : off + n ≤ cs.length
 ·rw [decide_eq_true h, if_pos h]
  cases ag with
  | true => rfl
  | false =>
   simp only [Bool.false_eq_true, if_false]
   cases cs[off]? <;> rfl
 ·rw [decide_eq_false h, if_neg h]
noncomputable def loadQ (b : Option Blk) : Nat → Nat → Nat → Nat → Bool → Option AV :=
 Option.rec (motive := fun _ => Nat → Nat → Nat → Nat → Bool → Option AV) (fun _ _ _ _ _ => none)
  (fun b => Blk.rec (motive := fun _ => Nat → Nat → Nat → Nat → Bool → Option AV) (fun cs _ sz i off n ag => cellQ cs (i * sz + off) n ag)
    (fun _ f sz' _ sz i off n ag => bif Nat.beq sz sz' then Aey ((f i).map .d) off n ag else none) (fun _ _ _ _ _ _ _ => none) (fun _ _ _ _ _ _ _ => none) (fun _ _ _ _ _ => none) b) b
theorem loadQ_eq (H : Hp) (h sz i off n : Nat) (ag : Bool) : loadQ (lookQ h H) sz i off n ag = Ade H h sz i off n ag := by
 rw [lookQ_eq]
 unfold Ade
 cases look H h with
 | none => rfl
 | some b =>
  cases b with
  | cells cs t => exact cellQ_eq cs (i * sz + off) n ag
  | _ => rfl
noncomputable def loadR {R : Type} (x : Option AV) : Nat → (AV → Foot → Ups → Option (T R)) → Option (T R) :=
 Option.rec (motive := fun _ => Nat → (AV → Foot → Ups → Option (T R)) → Option (T R)) (fun _ _ => none) (fun x h k => k x ⟨[h], []⟩ []) x
noncomputable def storeR {R : Type} (x : Option (Ups × List Nat)) : (AV → Foot → Ups → Option (T R)) → Option (T R) :=
 Option.rec (motive := fun _ => (AV → Foot → Ups → Option (T R)) → Option (T R)) (fun _ => none) (fun p k => k (.tup []) ⟨p.2, p.1.map (·.1)⟩ p.1) x
noncomputable def splQ {α : Type} (cs : List α) : Nat → List α → List α :=
 List.rec (motive := fun _ => Nat → List α → List α) (fun _ new => new) (fun c r ih off new => Nat.rec (motive := fun _ => List α) (new ++ (c :: r).drop new.length) (fun m _ => c :: ih m new) off) cs
theorem splQ_eq {α : Type} : ∀ (cs : List α) (off : Nat) (new : List α), off ≤ cs.length → splQ cs off new = splice cs off new
 | [], off, new, h => by
  obtain rfl : off = 0 := by simpa using h
  simp [splQ, splice]
 | c :: r, 0, new, h => by
  show new ++ (c :: r).drop new.length = _
  simp [splice]
 | c :: r, off + 1, new, h => by
  show c :: splQ r off new = _
  rw [splQ_eq r off new (by simpa using h)]
  simp [splice, Nat.add_right_comm]
noncomputable def storeQ (b : Option Blk) : Hp → Nat → Nat → Nat → Nat → List C → Option (Ups × List Nat) :=
 Option.rec (motive := fun _ => Hp → Nat → Nat → Nat → Nat → List C → Option (Ups × List Nat)) (fun _ _ _ _ _ _ => none)
  (fun b => Blk.rec (motive := fun _ => Hp → Nat → Nat → Nat → Nat → List C → Option (Ups × List Nat))
    (fun ds t _ h sz i off cs => bif Nat.ble (i * sz + off + cs.length) ds.length then some ([(h, .cells (splQ ds (i * sz + off) cs) t)], [h]) else none)
    (fun _ _ _ _ H h sz i off cs => Aci H h sz i off cs) (fun _ _ H h sz i off cs => Aci H h sz i off cs) (fun _ _ H h sz i off cs => Aci H h sz i off cs) (fun H h sz i off cs => Aci H h sz i off cs) b) b
theorem storeQ_eq (H : Hp) (h sz i off : Nat) (cs : List C) : storeQ (lookQ h H) H h sz i off cs = Aci H h sz i off cs := by
 rw [lookQ_eq]
 cases hl : look H h with
 | none => unfold Aci; rw [hl]; rfl
 | some b =>
  cases b with
  | cells ds t =>
   show (bif Nat.ble (i * sz + off + cs.length) ds.length then some ([(h, Blk.cells (splQ ds (i * sz + off) cs) t)], [h]) else none) = _
   unfold Aci
   rw [hl]
   simp only
   rw [bleD]
   by_cases hb : i * sz + off + cs.length ≤ ds.length
   ·rw [decide_eq_true hb, splQ_eq ds _ cs (by omega)]
   ·rw [decide_eq_false hb]; rfl
  | _ => rfl
noncomputable def perfQ {R : Type} (a : Do) : Orc → Nat → Hp → (AV → Foot → Ups → Option (T R)) → Option (T R) :=
 Do.rec (motive := fun _ => Orc → Nat → Hp → (AV → Foot → Ups → Option (T R)) → Option (T R))
  (fun x _ _ _ k => k x ⟨[], []⟩ [])
  (fun h sz i off n ag _ _ H k => loadR (loadQ (lookQ h H) sz i off n ag) h k)
  (fun h sz i off cs _ _ H k => storeR (storeQ (lookQ h H) H h sz i off cs) k)
  (fun b mk _ h0 _ k => k (mk h0) ⟨[], [h0]⟩ [(h0, b)])
  (fun d s e sz orc h0 H k => AbG orc h0 (.append d s e sz) H k)
  (fun h orc h0 H k => AbG orc h0 (.next h) H k)
  (fun h kd key ok z orc h0 H k => AbG orc h0 (.look h kd key ok z) H k)
  (fun h kd key v orc h0 H k => AbG orc h0 (.upd h kd key v) H k)
  (fun h x orc h0 H k => AbG orc h0 (.chk h x) H k)
  (fun h off u orc h0 H k => AbG orc h0 (.conv h off u) H k)
  (fun h n e orc h0 H k => AbG orc h0 (.ustr h n e) H k)
  (fun h n orc h0 H k => AbG orc h0 (.cstr h n) H k)
  (fun h n s orc h0 H k => AbG orc h0 (.slarr h n s) H k)
  (fun h orc h0 H k => AbG orc h0 (.mlen h) H k)
  (fun h off s len n orc h0 H k => AbG orc h0 (.idx h off s len n) H k)
  (fun f args orc h0 H k => AbG orc h0 (.call f args) H k) a
theorem perfQ_eq {R : Type} (a : Do) (h0 : Nat) (H : Hp) (k : AV → Foot → Ups → Option (T R)) : perfQ a orc h0 H k = AbG orc h0 a H k := by
 cases a with
 | load h sz i off n ag =>
  show loadR (loadQ (lookQ h H) sz i off n ag) h k = _
  rw [loadQ_eq]
  simp only [AbG, Aas]
  cases Ade H h sz i off n ag <;> rfl
 | store h sz i off cs =>
  show storeR (storeQ (lookQ h H) H h sz i off cs) k = _
  rw [storeQ_eq]
  simp only [AbG, Aas]
  cases Aci H h sz i off cs <;> rfl
 | _ => rfl
noncomputable def okQ {R : Type} (r : Option (Bool × Do)) : (Do → Option (T R)) → Option (T R) :=
 Option.rec (motive := fun _ => (Do → Option (T R)) → Option (T R)) (fun _ => none) (fun p k => Bool.rec (motive := fun _ => Option (T R)) none (k p.2) p.1) r
noncomputable def opsQ {R : Type} (P : Program) (orc : Orc) (ops : Array Oper) (draw : Bool) (nm : Nat) (l : List Oper) : Nat → List (Nat × Tx) → Fr → Hp → (List (Nat × Tx) → Fr → Hp → Option (T R)) → Option (T R) :=
 List.rec (motive := fun _ => Nat → List (Nat × Tx) → Fr → Hp → (List (Nat × Tx) → Fr → Hp → Option (T R)) → Option (T R)) (fun _ tr t H k => k tr t H)
  (fun o _ ih i tr t H k => guardQ o.guard ops t
    (fun t => okQ (resQ o.op P (opQ t)) fun a => perfQ a orc (nm + 16 * i) H (fun x ft u => putQ o.dst x t fun t' => applyK u H fun H' => ih (i + 1) (Bool.rec (motive := fun _ => List (Nat × Tx)) tr (tr ++ [(i, ⟨ft, Afl a x, u⟩)]) draw) t' H' k))
    (fun t => putQ o.dst (.tup []) t fun t' => ih (i + 1) (Bool.rec (motive := fun _ => List (Nat × Tx)) tr (tr ++ [(i, tx0)]) draw) t' H k)) l
theorem perfK_congr {R : Type} {orc : Orc} (h0 : Nat) (a : Do) (H : Hp) (k k' : AV → Foot → Ups → Option (T R)) (h : ∀ x ft u, k x ft u = k' x ft u) : AbG orc h0 a H k = AbG orc h0 a H k' := by
 have : k = k' := by funext x ft u; exact h x ft u
 rw [this]
theorem opsQ_eq {R : Type} (ops : Array Oper) (draw : Bool) (nm : Nat) : ∀ (l : List Oper) (i : Nat), l = ops.toList.drop i → ∀ (tr tr' : List (Nat × Tx)) (t : Fr) (hi : Nat) (H : Hp) (kq : List (Nat × Tx) → Fr → Hp → Option (T R)) (k : List (Nat × Tx) → St → Option (T R)),
  Fr.Ok 0 hi t → tr'.map (·.1) = List.range i → (draw = true → tr = tr') → (∀ tr tr' t H, Fr.Ok 0 hi t → tr'.map (·.1) = List.range (i + l.length) → (draw = true → tr = tr') → kq tr t H = k tr' ⟨t.toL, H, nm⟩) →
  opsQ P orc ops draw nm l i tr t H kq = opsK P orc ops (List.range' i l.length) tr' ⟨t.toL, H, nm⟩ k
 | [], i, hl, tr, tr', t, hi, H, kq, k, ho, hm, htr, hk => by
  show kq tr t H = _
  simp only [List.length_nil, List.range'_zero, opsK]
  exact hk tr tr' t H ho (by simpa using hm) htr
 | o :: r, i, hl, tr, tr', t, hi, H, kq, k, ho, hm, htr, hk => by
  have hget : ops[i]? = some o := by
   have : ops.toList[i]? = some o := by
    have := congrArg (fun x => x[0]?) hl
    simpa using this.symm
   simpa using this
  have hr : r = ops.toList.drop (i + 1) := by
   have := congrArg (List.drop 1) hl
   simpa [List.drop_drop, Nat.add_comm] using this
  have go : ∀ (tr tr' : List (Nat × Tx)) (t : Fr) (H : Hp), Fr.Ok 0 hi t → tr'.map (·.1) = List.range (i + 1) → (draw = true → tr = tr') → opsQ P orc ops draw nm r (i + 1) tr t H kq = opsK P orc ops (List.range' (i + 1) r.length) tr' ⟨t.toL, H, nm⟩ k :=
   fun tr tr' t H ho hm htr => opsQ_eq ops draw nm r (i + 1) hr tr tr' t hi H kq k ho hm htr (fun a b c d e f g => hk a b c d e (by rw [f]; congr 1; simp; omega) g)
  show guardQ o.guard ops t
   (fun t => okQ (resQ o.op P (opQ t)) fun a => perfQ a orc (nm + 16 * i) H (fun x ft u => putQ o.dst x t fun t' => applyK u H fun H' => opsQ P orc ops draw nm r (i + 1) (Bool.rec (motive := fun _ => List (Nat × Tx)) tr (tr ++ [(i, ⟨ft, Afl a x, u⟩)]) draw) t' H' kq))
   (fun t => putQ o.dst (.tup []) t fun t' => opsQ P orc ops draw nm r (i + 1) (Bool.rec (motive := fun _ => List (Nat × Tx)) tr (tr ++ [(i, tx0)]) draw) t' H kq) = _
  simp only [List.length_cons, List.range'_succ, opsK, stepK, hget, Ahm, opF_eq, putF_eq]
  have htr2 : ∀ ft : Tx, draw = true → (Bool.rec (motive := fun _ => List (Nat × Tx)) tr (tr ++ [(i, ft)]) draw) = tr' ++ [(i, ft)] := fun ft hd => by rw [hd, htr hd]
  have hm2 : ∀ ft : Tx, (tr' ++ [(i, ft)]).map (·.1) = List.range (i + 1) := fun ft => by rw [List.map_append, hm, List.range_succ]; rfl
  refine guardQ_eq ops ho o _ _ _ _ (fun t1 o1 => ?_) (fun t1 o1 => ?_)
  ·rw [opQ_eq o1, resQ_eq]
   cases resF P o (opA t1.toL) with
   | none => rfl
   | some p =>
    obtain ⟨ok, a⟩ := p
    cases ok with
    | false => rfl
    | true =>
     simp only [cond_true]
     show perfQ a orc (nm + 16 * i) H _ = _
     rw [perfQ_eq]
     refine perfK_congr _ _ _ _ _ fun x ft u => ?_
     obtain ⟨t2, o2, e2, k2⟩ := putQ_eq o.dst x o1
     rw [k2, applyK_eq, go _ (tr' ++ [(i, ⟨ft, Afl a x, u⟩)]) _ _ o2 (hm2 _) (htr2 _), e2]
  ·obtain ⟨t2, o2, e2, k2⟩ := putQ_eq o.dst (.tup []) o1
   rw [k2, go _ (tr' ++ [(i, tx0)]) _ _ o2 (hm2 _) (htr2 _), e2]
def unP (ops : Array Oper) : List (Nat × Nat) := (List.range ops.size).flatMap fun j => ((List.range j).filter fun i => !((AeQ ops.toList []).getD j 0).testBit i).map fun i => (i, j)
def statQ (ops : Array Oper) : Bool := (unP ops).all (fun p => match ops[p.1]?, ops[p.2]? with | some o, some q => o.apart ops q | _, _ => false) && AbL ops
noncomputable def footQ (tr : List (Nat × Tx)) (i : Nat) : Foot := Option.rec (motive := fun _ => Foot) ⟨[], []⟩ (fun p => p.2.ft) (getQ tr i)
noncomputable def pairsQ (l : List (Nat × Nat)) : List (Nat × Tx) → Bool :=
 List.rec (motive := fun _ => List (Nat × Tx) → Bool) (fun _ => true) (fun p _ ih tr => Bool.rec (motive := fun _ => Bool) false (ih tr) (Afp (footQ tr p.1) (footQ tr p.2))) l
noncomputable def quickQ (ops : Array Oper) (tr : List (Nat × Tx)) : Bool := statQ ops && pairsQ (unP ops) tr
theorem pairsQ_mem : ∀ (l : List (Nat × Nat)) (tr : List (Nat × Tx)), pairsQ l tr = true → ∀ p ∈ l, Afp (footQ tr p.1) (footQ tr p.2) = true
 | [], _, _, p, hp => by simp at hp
 | q :: r, tr, h, p, hp => by
  have h' : Bool.rec (motive := fun _ => Bool) false (pairsQ r tr) (Afp (footQ tr q.1) (footQ tr q.2)) = true := h
  cases hi : Afp (footQ tr q.1) (footQ tr q.2) with
  | false => rw [hi] at h'; cases h'
  | true =>
   rw [hi] at h'
   rcases List.mem_cons.1 hp with rfl | hp
   ·exact hi
   ·exact pairsQ_mem r tr h' p hp
theorem footQ_eq {tr : List (Nat × Tx)} {n i : Nat} (hm : tr.map (·.1) = List.range n) {x : Nat × Tx} (hx : tr[i]? = some x) : x.1 = i ∧ footQ tr i = x.2.ft := by
 constructor
 ·have h1 : (tr.map (·.1))[i]? = some x.1 := by rw [List.getElem?_map, hx]; rfl
  rw [hm] at h1
  have := List.getElem?_eq_some_iff.1 h1
  obtain ⟨hlt, e⟩ := this
  simpa using e.symm
 ·unfold footQ
  rw [getQ_eq, hx]
theorem Agq (ops : Array Oper) (ms : List Nat) : ∀ (tr : List (Nat × Tx)), (∀ (i j : Nat) (x y : Nat × Tx), i < j → tr[i]? = some x → tr[j]? = some y → ((ms.getD y.1 0).testBit x.1 || Afq ops x y) = true) → Aba ops ms tr = true
 | [], _ => rfl
 | x :: r, h => by
  simp only [Aba, Bool.and_eq_true]
  refine ⟨?_, Agq ops ms r fun i j a b hij ha hb => h (i + 1) (j + 1) a b (by omega) (by simpa using ha) (by simpa using hb)⟩
  rw [List.all_eq_true]
  intro y hy
  obtain ⟨j, hj, e⟩ := List.getElem_of_mem hy
  exact h 0 (j + 1) x y (by omega) (by simp) (by simp [List.getElem?_eq_getElem hj, e])
theorem quickQ_ok (ops : Array Oper) (tr : List (Nat × Tx)) (hm : tr.map (·.1) = List.range ops.size) (h : quickQ ops tr = true) : Aba ops (AeQ ops.toList []) tr = true ∧ AbL ops = true := by
 unfold quickQ statQ at h
 simp only [Bool.and_eq_true] at h
 obtain ⟨⟨h1, h2⟩, h3⟩ := h
 refine ⟨Agq ops _ tr fun i j x y hij hx hy => ?_, h2⟩
 obtain ⟨ex, fx⟩ := footQ_eq hm hx
 obtain ⟨ey, fy⟩ := footQ_eq hm hy
 cases ht : ((AeQ ops.toList []).getD y.1 0).testBit x.1 with
 | true => rfl
 | false =>
  have hjn : j < ops.size := by
   have := congrArg List.length hm
   simp at this
   have := (List.getElem?_eq_some_iff.1 hy).1
   omega
  have hmem : (i, j) ∈ unP ops := by
   unfold unP
   rw [List.mem_flatMap]
   refine ⟨j, by simpa using hjn, ?_⟩
   rw [List.mem_map]
   exact ⟨i, by rw [List.mem_filter]; exact ⟨by simpa using hij, by rw [ex, ey] at ht; rw [ht]; rfl⟩, rfl⟩
  have g1 := List.all_eq_true.1 h1 _ hmem
  have g2 := pairsQ_mem _ _ h3 _ hmem
  simp only [fx, fy] at g2
  simp only [Bool.false_or]
  unfold Afq
  rw [ex, ey]
  simp only at g1
  cases ho : ops[i]? with
  | none => rw [ho] at g1; simp at g1
  | some o =>
   cases hp : ops[j]? with
   | none => rw [ho, hp] at g1; simp at g1
   | some q =>
    rw [ho, hp] at g1
    simp only [g1, g2, Bool.true_or, Bool.and_self]
noncomputable def ofStK {R : Type} (s : St) (k : StQ → R) : R := Fr.ofK s.F fun t => k ⟨t, s.H, s.nm⟩
theorem ofStK_eq (s : St) : ∃ q : StQ, q.Ok ∧ q.to = s ∧ ∀ (R : Type) (k : StQ → R), ofStK s k = k q := by
 obtain ⟨t, o, e, h⟩ := Fr.ofK_eq s.F
 exact ⟨⟨t, s.H, s.nm⟩, ⟨_, o⟩, by simp [StQ.to, e], fun R k => h R _⟩
noncomputable def drawQ {R : Type} (draw : Bool) : Program → Array Oper → List (Nat × Tx) → Option (T R) → Option (T R) :=
 Bool.rec (motive := fun _ => Program → Array Oper → List (Nat × Tx) → Option (T R) → Option (T R)) (fun _ _ _ k => k) (fun P ops tr k => Bool.rec (motive := fun _ => Option (T R)) (drawK true P ops tr k) k (quickQ ops tr && P.follows .mixedOrders)) draw
theorem drawQ_eq {R : Type} (draw : Bool) (ops : Array Oper) (tr tr' : List (Nat × Tx)) (hm : tr'.map (·.1) = List.range ops.size) (htr : draw = true → tr = tr') (k : Option (T R)) :
  drawQ draw P ops tr k = drawK draw P ops tr' k := by
 cases draw with
 | false => rfl
 | true =>
  obtain rfl := htr rfl
  show Bool.rec (motive := fun _ => Option (T R)) (drawK true P ops tr k) k (quickQ ops tr && P.follows .mixedOrders) = _
  cases hq : quickQ ops tr with
  | false => rfl
  | true =>
   cases hf : P.follows .mixedOrders with
   | false => rfl
   | true =>
    obtain ⟨h1, h2⟩ := quickQ_ok ops tr hm hq
    rw [drawK_eq, h1, h2, hf]
    rfl
noncomputable def regionQ {R : Type} (P : Program) (orc : Orc) (ops : Array Oper) (draw : Bool) (s : StQ) (k : Out → StQ → Option (T R)) : Option (T R) :=
 bif draw && AcT ops then Acn P orc ops draw s.to fun o s' => ofStK s' fun q => k o q
 else opsQ P orc ops draw s.nm ops.toList 0 [] s.t s.H fun tr t H => drawQ draw P ops tr (natK (s.nm + 16 * ops.size) fun n => k .norm ⟨t, H, n⟩)
def KEq {R : Type} (kq : Out → StQ → Option (T R)) (k : Out → St → Option (T R)) : Prop := ∀ o (s : StQ), s.Ok → kq o s = k o s.to
theorem ofSt_keq {R : Type} {kq : Out → StQ → Option (T R)} {k : Out → St → Option (T R)} (h : KEq kq k) (o : Out) (s : St) : (ofStK s fun q => kq o q) = k o s := by
 obtain ⟨q, ho, e, hk⟩ := ofStK_eq s
 rw [hk, h o q ho, e]
theorem regionQ_eq {R : Type} (ops : Array Oper) (draw : Bool) (s : StQ) (hs : s.Ok) {kq : Out → StQ → Option (T R)} {k : Out → St → Option (T R)} (h : KEq kq k) : regionQ P orc ops draw s kq = Acn P orc ops draw s.to k := by
 unfold regionQ
 cases hd : (draw && AcT ops) with
 | true =>
  simp only [cond_true]
  have : (fun o s' => ofStK s' fun q => kq o q) = k := by funext o s'; exact ofSt_keq h o s'
  rw [this]
 | false =>
  simp only [cond_false]
  unfold Acn
  simp only [hd, cond_false]
  obtain ⟨hi, ho⟩ := hs
  have := opsQ_eq (P := P) (orc := orc) (R := R) ops draw s.nm ops.toList 0 (by simp) [] [] s.t hi s.H (fun tr t H => drawQ draw P ops tr (natK (s.nm + 16 * ops.size) fun n => kq .norm ⟨t, H, n⟩))
   (fun tr s' => drawK draw P ops tr (k .norm ⟨s'.F, s'.H, s.nm + 16 * ops.size⟩)) ho rfl (fun _ => rfl) (fun tr tr' t H ho hm htr => by
     rw [drawQ_eq draw ops tr tr' (by simpa using hm) htr, natK_eq, h .norm ⟨t, H, _⟩ ⟨hi, ho⟩]
     rfl)
  rw [this]
  have e : List.range ops.size = List.range' 0 ops.toList.length := by rw [List.range_eq_range']; rfl
  rw [e]
  rfl
noncomputable def trimQ {R : Type} (k0 : Nat) (note : Option Note) (s : StQ) (k : StQ → Option (T R)) : Option (T R) := match note with
 | none => k s
 | some n => match trim k0 (some n) s.to with
  | none => none
  | some s0 => ofStK s0 k
theorem Agv {R : Type} (k0 : Nat) (note : Option Note) (s : StQ) (hs : s.Ok) {kq : StQ → Option (T R)} {k : St → Option (T R)} (h : ∀ s : StQ, s.Ok → kq s = k s.to) :
  trimQ k0 note s kq = match trim k0 note s.to with | none => none | some s0 => k s0 := by
 cases note with
 | none => exact h s hs
 | some n =>
  simp only [trimQ]
  cases trim k0 (some n) s.to with
  | none => rfl
  | some s0 =>
   obtain ⟨q, ho, e, hk⟩ := ofStK_eq s0
   simp only
   rw [hk, h q ho, e]
noncomputable def outK {R : Type} (o : Out) : (StQ → Option (T R)) → (Out → StQ → Option (T R)) → StQ → Option (T R) :=
 Out.rec (motive := fun _ => (StQ → Option (T R)) → (Out → StQ → Option (T R)) → StQ → Option (T R)) (fun g _ s => g s) (fun id _ k s => k (.exit id) s) (fun l _ k s => k (.goto l) s) (fun _ k s => k .ret s) o
noncomputable def blockK {R : Type} (o : Out) : Nat → (Out → StQ → Option (T R)) → StQ → Option (T R) :=
 Out.rec (motive := fun _ => Nat → (Out → StQ → Option (T R)) → StQ → Option (T R)) (fun _ k s => k .norm s) (fun j id k s => Bool.rec (motive := fun _ => Option (T R)) (k (.exit j) s) (k .norm s) (Nat.beq j id)) (fun l _ k s => k (.goto l) s) (fun _ k s => k .ret s) o
noncomputable def iterQ {R : Type} (k0 : Nat) (note : Option Note) (body : StQ → (Out → StQ → Option (T R)) → Option (T R)) (n : Nat) : StQ → (Out → StQ → Option (T R)) → Option (T R) :=
 Nat.rec (motive := fun _ => StQ → (Out → StQ → Option (T R)) → Option (T R)) (fun _ _ => none) (fun _ ih s k => body s fun o s' => outK o (fun s' => trimQ k0 note s' fun s0 => ih s0 k) k s') n
theorem Agz {R : Type} (k0 : Nat) (note : Option Note) {bq : StQ → (Out → StQ → Option (T R)) → Option (T R)} {b : St → (Out → St → Option (T R)) → Option (T R)}
  (hb : ∀ (s : StQ) kq k, s.Ok → KEq kq k → bq s kq = b s.to k) : ∀ (n : Nat) (s : StQ) kq k, s.Ok → KEq kq k → iterQ k0 note bq n s kq = Acs k0 note b n s.to k
 | 0, s, kq, k, _, _ => rfl
 | n + 1, s, kq, k, hs, hk => by
  show (bq s fun o s' => outK o (fun s' => trimQ k0 note s' fun s0 => iterQ k0 note bq n s0 kq) kq s') = _
  simp only [Acs]
  refine hb s _ _ hs fun o s' hs' => ?_
  cases o with
  | norm => exact Agv k0 note s' hs' (kq := fun s0 => iterQ k0 note bq n s0 kq) (k := fun s0 => Acs k0 note b n s0 k) fun s0 h0 => Agz k0 note hb n s0 kq k h0 hk
  | exit id => exact hk _ _ hs'
  | goto l => exact hk _ _ hs'
  | ret => exact hk _ _ hs'
noncomputable def scopeK {R : Type} (k0 n : Nat) (ann : Ann) (c : Code) (ev : Option Nat → StQ → (Out → StQ → Option (T R)) → Option (T R)) (l : Nat) (k : Out → StQ → Option (T R)) (s' : StQ) : Option (T R) :=
 match findLabel c l with
  | some rest => trimQ k0 ((Abc rest).bind ann) s' fun s0 => iterQ k0 ((Abc rest).bind ann) (fun s' k' => ev (some l) s' fun o s'' => match o with
   | .goto m => bif m == l then k' .norm s'' else none
   | .norm => k' (.goto l) s''
   | .exit id => k' (.exit id) s''
   | .ret => k' .ret s'') n s0 fun o s'' => match o with
    | .goto _ => k .norm s''
    | .norm => none
    | .exit id => k (.exit id) s''
    | .ret => k .ret s''
  | none => none
noncomputable def condQ {R : Type} (x : AV) (a b : Option (T R)) : Option (T R) := match x with
 | .c (.d (.v (.bool t))) => Bool.rec (motive := fun _ => Option (T R)) b a t
 | _ => none
noncomputable def noLab {R : Type} (lab : Option Nat) : Option (T R) → Option (T R) := Option.rec (motive := fun _ => Option (T R) → Option (T R)) (fun x => x) (fun _ _ => none) lab
noncomputable def seqQ {R : Type} (lab : Option Nat) : Code → (Option Nat → StQ → (Out → StQ → Option (T R)) → Option (T R)) → (Option Nat → StQ → (Out → StQ → Option (T R)) → Option (T R)) → StQ → (Out → StQ → Option (T R)) → Option (T R) :=
 Option.rec (motive := fun _ => Code → (Option Nat → StQ → (Out → StQ → Option (T R)) → Option (T R)) → (Option Nat → StQ → (Out → StQ → Option (T R)) → Option (T R)) → StQ → (Out → StQ → Option (T R)) → Option (T R))
  (fun _ ea eb s k => ea none s fun o s' => outK o (fun s' => eb none s' k) k s')
  (fun l a ea eb s k => bif AbN l a then ea (some l) s (fun o s' => outK o (fun s' => eb none s' k) k s') else eb (some l) s k) lab
noncomputable def gateQ {R : Type} (P : Program) (orc : Orc) (ann : Ann) (k0 n : Nat) (id : Nat) (ops : Array Oper) (draw : Bool) (s : StQ) (k : Out → StQ → Option (T R)) : Option (T R) := match ann (id + 100000) with
 | none => regionQ P orc ops draw s k
 | some nt => trimQ k0 (some nt) s fun s0 => iterQ k0 ((Abc (.region id ops draw)).bind ann) (fun s' k' => regionQ P orc ops draw s' fun o s'' => match o with
  | .norm => k' .ret s''
  | _ => none) n s0 fun o s'' => match o with
   | .ret => k .norm s''
   | _ => none
noncomputable def evQ {R : Type} (P : Program) (orc : Orc) (ann : Ann) (k0 n : Nat) (c : Code) : Option Nat → StQ → (Out → StQ → Option (T R)) → Option (T R) :=
 Code.rec (motive := fun _ => Option Nat → StQ → (Out → StQ → Option (T R)) → Option (T R))
  (fun lab s k => noLab lab (k .norm s))
  (fun id ops draw lab s k => noLab lab (gateQ P orc ann k0 n id ops draw s k))
  (fun a _ ea eb lab s k => seqQ lab a ea eb s k)
  (fun c _ _ ex ey lab s k => noLab lab (condQ (opQ s.t c) (ex none s k) (ey none s k)))
  (fun id _ ec lab s k => noLab lab (ec none s fun o s' => blockK o id k s'))
  (fun c ec lab s k => noLab lab (trimQ k0 ((Abc c).bind ann) s fun s0 => iterQ k0 ((Abc c).bind ann) (fun s' k' => ec none s' k') n s0 k))
  (fun _ _ _ _ _ _ _ _ _ => none)
  (fun id lab s k => noLab lab (k (.exit id) s))
  (fun c ec lab s k => noLab lab (ec none s fun o s' => match o with
    | .goto l => scopeK k0 n ann c ec l k s'
    | .norm => k .norm s'
    | .exit id => k (.exit id) s'
    | .ret => k .ret s'))
  (fun m lab s k => match lab with | none => k .norm s | some l => bif m == l then k .norm s else none)
  (fun l lab s k => noLab lab (k (.goto l) s))
  (fun lab s k => noLab lab (k .ret s))
  (fun _ _ _ _ => none) c
theorem condQ_eq {R : Type} (x : AV) (a b : Option (T R)) : condQ x a b = match x with | .c (.d (.v (.bool t))) => bif t then a else b | _ => none := by
 unfold condQ
 split
 ·rename_i t
  cases t <;> rfl
 ·rfl
theorem evQ_eq {R : Type} (ann : Ann) (k0 n : Nat) : ∀ (c : Code) (lab : Option Nat) (s : StQ) (kq : Out → StQ → Option (T R)) (k : Out → St → Option (T R)), s.Ok → KEq kq k → evQ P orc ann k0 n c lab s kq = evK P orc ann k0 n c lab s.to k := by
 intro c
 induction c with
 | skip =>
  intro lab s kq k hs hk
  cases lab with
  | none => simp only [evK]; exact hk _ _ hs
  | some l => simp only [evK]; rfl
 | region id ops draw =>
  intro lab s kq k hs hk
  cases lab with
  | none =>
   simp only [evK]
   show gateQ P orc ann k0 n id ops draw s kq = _
   unfold gateQ
   cases ann (id + 100000) with
   | none => exact regionQ_eq ops draw s hs hk
   | some nt =>
    simp only []
    refine Agv k0 (some nt) s hs fun s0 h0 => ?_
    refine Agz k0 _ (b := fun s' k' => Acn P orc ops draw s' (gateN fun s'' => k' .ret s'')) (fun s1 kq1 k1 h1 hk1 => regionQ_eq ops draw s1 h1 fun o s2 h2 => ?_) n s0 _ _ h0 fun o s2 h2 => ?_
    ·cases o with
     | norm => exact hk1 _ _ h2
     | _ => rfl
    ·cases o with
     | ret => exact hk _ _ h2
     | _ => rfl
  | some l => simp only [evK]; rfl
 | seq a b iha ihb =>
  intro lab s kq k hs hk
  have go : ∀ lab', (evQ P orc ann k0 n a lab' s fun o s' => outK o (fun s' => evQ P orc ann k0 n b none s' kq) kq s') = evK P orc ann k0 n a lab' s.to fun o s' => match o with
   | .norm => evK P orc ann k0 n b none s' k
   | .exit id => k (.exit id) s'
   | .goto l => k (.goto l) s'
   | .ret => k .ret s' := fun lab' => iha lab' s _ _ hs fun o s' hs' => by
    cases o with
    | norm => exact ihb none s' kq k hs' hk
    | exit id => exact hk _ _ hs'
    | goto l => exact hk _ _ hs'
    | ret => exact hk _ _ hs'
  cases lab with
  | none => simp only [evK]; exact go none
  | some l =>
   simp only [evK]
   show (bif AbN l a then (evQ P orc ann k0 n a (some l) s fun o s' => outK o (fun s' => evQ P orc ann k0 n b none s' kq) kq s') else evQ P orc ann k0 n b (some l) s kq) = _
   cases AbN l a with
   | true => simp only [cond_true]; exact go (some l)
   | false => simp only [cond_false]; exact ihb (some l) s kq k hs hk
 | cond c x y ihx ihy =>
  intro lab s kq k hs hk
  cases lab with
  | some l => simp only [evK]; rfl
  | none =>
   simp only [evK]
   show condQ (opQ s.t c) (evQ P orc ann k0 n x none s kq) (evQ P orc ann k0 n y none s kq) = _
   have hs1 := hs
   obtain ⟨hi, ho⟩ := hs
   rw [condQ_eq, opQ_eq ho, ihx none s kq k hs1 hk, ihy none s kq k hs1 hk]
   rfl
 | block id c ih =>
  intro lab s kq k hs hk
  cases lab with
  | some l => simp only [evK]; rfl
  | none =>
   simp only [evK]
   refine ih none s _ _ hs fun o s' hs' => ?_
   cases o with
   | norm => exact hk _ _ hs'
   | exit j =>
    show Bool.rec (motive := fun _ => Option (T R)) (kq (.exit j) s') (kq .norm s') (Nat.beq j id) = bif j == id then _ else _
    have e : (j == id) = Nat.beq j id := by rw [beqD]; exact Bool.beq_eq_decide_eq j id
    rw [e]
    cases Nat.beq j id with
    | true => exact hk _ _ hs'
    | false => exact hk _ _ hs'
   | goto l => exact hk _ _ hs'
   | ret => exact hk _ _ hs'
 | loop c ih =>
  intro lab s kq k hs hk
  cases lab with
  | some l => simp only [evK]; rfl
  | none =>
   simp only [evK]
   exact Agv k0 _ s hs (kq := fun s0 => iterQ k0 ((Abc c).bind ann) (fun s' k' => evQ P orc ann k0 n c none s' k') n s0 kq) (k := fun s0 => Acs k0 ((Abc c).bind ann) (fun s' k' => evK P orc ann k0 n c none s' k') n s0 k) fun s0 h0 => Agz k0 _ (fun s1 kq1 k1 h1 hk1 => ih none s1 kq1 k1 h1 hk1) n s0 kq k h0 hk
 | scope c ih =>
  intro lab s kq k hs hk
  cases lab with
  | some l => simp only [evK]; rfl
  | none =>
   simp only [evK]
   refine ih none s _ _ hs fun o s' hs' => ?_
   cases o with
   | norm => exact hk _ _ hs'
   | exit id => exact hk _ _ hs'
   | ret => exact hk _ _ hs'
   | goto l =>
    show scopeK k0 n ann c (evQ P orc ann k0 n c) l kq s' = _
    unfold scopeK
    simp only []
    cases findLabel c l with
    | none => rfl
    | some rest =>
     simp only []
     refine Agv k0 _ s' hs' fun s0 h0 => ?_
     refine Agz k0 _ (b := fun s' k' => evK P orc ann k0 n c (some l) s' fun o s'' => match o with
      | .goto m => bif m == l then k' .norm s'' else none
      | .norm => k' (.goto l) s''
      | .exit id => k' (.exit id) s''
      | .ret => k' .ret s'') (fun s1 kq1 k1 h1 hk1 => ih (some l) s1 _ _ h1 fun o s2 h2 => ?_) n s0 _ _ h0 fun o s2 h2 => ?_
     ·cases o with
      | goto m => cases hj : (m == l) with
       | true => simp only [hj, cond_true]; exact hk1 _ _ h2
       | false => simp only [hj, cond_false]
      | norm => exact hk1 _ _ h2
      | exit id => exact hk1 _ _ h2
      | ret => exact hk1 _ _ h2
     ·cases o with
      | goto m => exact hk _ _ h2
      | norm => rfl
      | exit id => exact hk _ _ h2
      | ret => exact hk _ _ h2
 | label m =>
  intro lab s kq k hs hk
  cases lab with
  | none => simp only [evK]; exact hk _ _ hs
  | some l =>
   simp only [evK]
   show (bif m == l then kq .norm s else none) = _
   cases hj : (m == l) with
   | true => simp only [cond_true]; exact hk _ _ hs
   | false => simp only [cond_false]
 | goto l => intro lab s kq k hs hk; cases lab with
  | none => simp only [evK]; exact hk _ _ hs
  | some l => simp only [evK]; rfl
 | exit l => intro lab s kq k hs hk; cases lab with
  | none => simp only [evK]; exact hk _ _ hs
  | some l => simp only [evK]; rfl
 | ret => intro lab s kq k hs hk; cases lab with
  | none => simp only [evK]; exact hk _ _ hs
  | some l => simp only [evK]; rfl
 | _ => intro lab s kq k hs hk; cases lab <;> (simp only [evK]; rfl)
noncomputable def resultsQ (P : Program) (fn : Func) (t : Fr) (H : Hp) : Option (List (Bool × List C)) :=
 fn.results.toList.foldr (fun r acc => match acc with
  | none => none
  | some l => match r with
   | .tmp i => (match t.get i with
    | .c x => some ((false, [x]) :: l)
    | .agg cs => some ((true, cs) :: l)
    | _ => none)
   | .cell a ty => (match t.get a, aggT P ty, AaL P ty with
    | .c (.ptr h off), some ag, some n => (match Ade H h 0 0 off (bif ag then n else 1) ag with
     | some (.c x) => some ((false, [x]) :: l)
     | some (.agg cs) => some ((true, cs) :: l)
     | _ => none)
    | _, _, _ => none)) (some [])
theorem resultsQ_eq (fn : Func) (s : StQ) (hs : s.Ok) : resultsQ P fn s.t s.H = Adp P fn s.to := by
 obtain ⟨hi, ho⟩ := hs
 have e : ∀ i, s.t.get i = s.to.F.getD i .u := fun i => by
  have := Fr.get_eq ho (Nat.zero_le i)
  rwa [Nat.sub_zero] at this
 unfold resultsQ Adp
 simp only [e]
 rfl
noncomputable def endQ {R : Type} (P : Program) (fn : Func) (k0 : Nat) (k : AV → Hp → Option (T R)) : Out → StQ → Option (T R) := fun o s => match o with
 | .exit _ => none
 | .goto _ => none
 | _ => match resultsQ P fn s.t s.H with
  | some l => (match AcG l with
   | some x => let L := newL k0 s.H (Acq x); k (renA (newN k0 L) x) (AeI k0 s.H L)
   | none => none)
  | none => none
theorem endQ_eq {R : Type} (fn : Func) (k0 : Nat) (k : AV → Hp → Option (T R)) : KEq (endQ P fn k0 k) (endK P fn k0 k) := fun o s hs => by
 unfold endQ endK
 rw [resultsQ_eq fn s hs]
 rfl
noncomputable def AcO {R : Type} (P : Program) (orc : Orc) (ann : Ann) (n : Nat) (fn : Func) (c : Code) (args : List AV) (H : Hp) (k : AV → Hp → Option (T R)) : Option (T R) :=
 Fr.putsK args 0 (Fr.base (args.length + (fn.ntmps - args.length)) 0 (args.length + (fn.ntmps - args.length))) fun t => evQ P orc ann H.length n c none ⟨t, H, H.length⟩ (endQ P fn H.length k)
theorem callQ_eq {R : Type} (ann : Ann) (n : Nat) (fn : Func) (c : Code) (args : List AV) (H : Hp) (k : AV → Hp → Option (T R)) : AcO P orc ann n fn c args H k = callK P orc ann n fn c args H k := by
 unfold AcO callK
 have hb := Fr.base_ok (args.length + (fn.ntmps - args.length)) 0 (args.length + (fn.ntmps - args.length)) (Nat.le_refl _)
 rw [Nat.zero_add] at hb
 obtain ⟨t, o, e, h⟩ := Fr.putsK_eq args hb.1 (i := 0) (by omega)
 rw [h, evQ_eq (P := P) (orc := orc) ann H.length n c none ⟨t, H, H.length⟩ _ _ ⟨_, o⟩ (endQ_eq fn H.length k)]
 congr 1
 unfold StQ.to
 rw [e, hb.2]
 simp
end
theorem cxQ_of {P : Program} {orc : Orc} (ho : Acg P orc) {ann : Ann} {n : Nat} {f : FuncId} {fn : Func} {c : Code} {args : List AV} {H : Hp} {x : AV} {H' : Hp} (hf : P.funcs[f]? = some fn) (hb : fn.body = some c) (hH : seqN 0 H = true)
 (h : AcO P orc ann n fn c args H (fun x H' => some (.leaf (x, H'))) = some (.leaf (x, H'))) : CX P f args H x H' := cxA_of ho hf hb hH (by rw [callQ_eq] at h; exact h)
end Go.Eb
namespace Go.Eb
open Go.RowKit
def frzP (H : Hp) : List (Bool × List C) → Option (List (Bool × List D))
 | [] => some []
 | p :: r => match frzL H 400 p.2 with
  | some (ds, _) => match frzP H r with
   | some l => some ((p.1, ds) :: l)
   | none => none
  | none => none
def partD (p : Bool × List D) : Bool × List C := (p.1, p.2.map .d)
def frzA (H : Hp) : AV → Option AV
 | .c x => match frz H 400 x with
  | some (d, _) => some (.c (.d d))
  | none => none
 | .agg cs => match frzL H 400 cs with
  | some (ds, _) => some (.agg (ds.map .d))
  | none => none
 | .tup ps => match frzP H ps with
  | some l => some (.tup (l.map partD))
  | none => none
 | .u => some .u
section
variable {β : Bt} {w : World} {I : Im} {H : Hp}
def allB (β : Bt) (I : Im) : Im := fun b o => I b o ∨ ∃ k, (β k).blk = some b
theorem repDs_cs {I' : Im} {β' : Bt} {ds : List D} {vs : List Value} (h : RepDs w I' ds vs) : RepCs β' w I' (ds.map .d) vs := by
 refine ⟨by simpa using h.1, fun i c v h1 h2 => ?_⟩
 rw [List.getElem?_map] at h1
 cases hd : ds[i]? with
 | none => rw [hd] at h1; cases h1
 | some d => rw [hd] at h1; cases h1; exact h.2 i d v hd h2
theorem frzP_ok (hr : RelH β H I w) {β' : Bt} : ∀ (ps : List (Bool × List C)) (l : List (Bool × List D)), frzP H ps = some l → l.length = ps.length ∧ ∀ (i : Nat) p q v, ps[i]? = some p → l[i]? = some q → RepP β w I p v → RepP β' w (allB β I) (partD q) v
 | [], l, h => by simp [frzP] at h; subst h; exact ⟨rfl, fun i p q v h => by simp at h⟩
 | p :: r, l, h => by
  simp only [frzP] at h
  split at h
  ·rename_i ds ks hf
   split at h
   ·rename_i l' hl
    simp only [Option.some.injEq] at h
    subst h
    obtain ⟨h1, h2⟩ := frzP_ok hr r l' hl
    refine ⟨by simp [h1], fun i p' q v e1 e2 hp => ?_⟩
    cases i with
    | succ i => exact h2 i p' q v (by simpa using e1) (by simpa using e2) hp
    | zero =>
     simp at e1 e2
     subst e1 e2
     obtain ⟨b, cs⟩ := p
     have key : ∀ vs, RepCs β w I cs vs → RepDs w (allB β I) ds vs := fun vs hv => (Adv hr 400 cs ds ks vs hf hv).2 _ (fun _ _ hi => .inl hi) (fun k _ b hb o => .inr ⟨k, hb⟩)
     cases b with
     | true => obtain ⟨vs, rfl, hv⟩ := hp; exact ⟨vs, rfl, repDs_cs (key _ hv)⟩
     | false =>
      obtain ⟨c, hcs, hv⟩ := hp
      have hcs : cs = [c] := hcs
      subst hcs
      have := key [v] ⟨rfl, fun i c' v' h1 h2 => by
       cases i with
       | zero => simp at h1 h2; subst h1 h2; exact hv
       | succ i => simp at h1⟩
      match ds, this with
      | [d], this => exact ⟨.d d, rfl, this.2 0 d v rfl rfl⟩
   ·simp at h
  ·simp at h
theorem frzA_ok (hr : RelH β H I w) {β' : Bt} {x y : AV} {v : Value} (h : frzA H x = some y) (hx : RepA β w I x v) : RepA β' w (allB β I) y v := by
 cases x with
 | c x =>
  simp only [frzA] at h
  split at h
  ·rename_i d ks hf
   simp only [Option.some.injEq] at h
   subst h
   exact (frz_ok hr 400 x d ks v hf hx).2 _ (fun _ _ hi => .inl hi) (fun k _ b hb o => .inr ⟨k, hb⟩)
  ·simp at h
 | agg cs =>
  simp only [frzA] at h
  split at h
  ·rename_i ds ks hf
   simp only [Option.some.injEq] at h
   subst h
   obtain ⟨vs, rfl, hv⟩ := hx
   exact ⟨vs, rfl, repDs_cs ((Adv hr 400 cs ds ks _ hf hv).2 _ (fun _ _ hi => .inl hi) (fun k _ b hb o => .inr ⟨k, hb⟩))⟩
  ·simp at h
 | tup ps =>
  simp only [frzA] at h
  split at h
  ·rename_i l hf
   simp only [Option.some.injEq] at h
   subst h
   obtain ⟨vs, rfl, hl, hv⟩ := hx
   obtain ⟨h1, h2⟩ := frzP_ok (β' := β') hr ps l hf
   refine ⟨vs, rfl, by simpa [h1] using hl, fun i p x e1 e2 => ?_⟩
   rw [List.getElem?_map] at e1
   cases hq : l[i]? with
   | none => rw [hq] at e1; cases e1
   | some q =>
    rw [hq] at e1
    simp only [Option.map_some, Option.some.injEq] at e1
    subst e1
    have hlt : i < ps.length := by rw [← h1]; exact (List.getElem?_eq_some_iff.1 hq).1
    exact h2 i _ q x (List.getElem?_eq_getElem hlt) hq (hv i _ x (List.getElem?_eq_getElem hlt) e2)
  ·simp at h
 | u => simp [frzA] at h; subst h; trivial
end
theorem CR.data {P : Program} {f : FuncId} {args : List AV} {x y : AV} {Hr : Hp} (h : CR P f args [] x Hr) (hf : frzA Hr x = some y) : CR P f args [] y [] := by
 intro β I w vs hr ha
 refine (h β I w vs hr ha).mono fun e w' ⟨v, β', I', he, hr', hx, hE, hm⟩ => ?_
 have hfree : ∀ h, β h = .free := fun h => hr.dom h rfl
 refine ⟨v, β, allB β' I', he, ?_, frzA_ok hr' hf hx, ?_, .refl _⟩
 ·refine ⟨⟨fun i j b hi => ?_, fun i b hi => ?_, fun i b o hi => ?_, fun b o hi => ?_, hr'.gl.step (fun _ _ hi => .inl hi) (fun _ _ _ => rfl)⟩, fun i _ => hfree i, fun i B hB => by simp [look] at hB⟩
  ·rw [hfree i] at hi; cases hi
  ·rw [hfree i] at hi; cases hi
  ·rw [hfree i] at hi; cases hi
  ·rcases hi with hi | ⟨k, hk⟩
   ·exact hr'.old b o hi
   ·exact hr'.lt k b hk
 ·refine ⟨hE.os, hE.tape, hE.output, hE.size, hE.block, fun b o hi => .inl (hE.keepI b o hi), hE.cell, fun b o hi => ?_, fun i b hb => .inl ⟨i, hb⟩, hE.shapes⟩
  rcases hi with hi | ⟨k, hk⟩
  ·exact hE.newI b o hi
  ·rcases hE.newB k b hk with ⟨j, hj⟩ | hj
   ·exact .inr (.inr ⟨j, hj⟩)
   ·exact .inr (.inl hj)
def frzAs (H : Hp) : List AV → Option (List AV)
 | [] => some []
 | x :: r => match frzA H x with
  | some y => match frzAs H r with
   | some l => some (y :: l)
   | none => none
  | none => none
theorem frzAs_ok {β β' : Bt} {w : World} {I : Im} {H : Hp} (hr : RelH β H I w) : ∀ (xs ys : List AV), frzAs H xs = some ys → ys.length = xs.length ∧ ∀ (i : Nat) x y v, xs[i]? = some x → ys[i]? = some y → RepA β w I x v → RepA β' w (allB β I) y v
 | [], ys, h => by simp [frzAs] at h; subst h; exact ⟨rfl, fun i x y v h => by simp at h⟩
 | x :: r, ys, h => by
  simp only [frzAs] at h
  split at h
  ·rename_i y hy
   split at h
   ·rename_i l hl
    simp only [Option.some.injEq] at h
    subst h
    obtain ⟨h1, h2⟩ := frzAs_ok (β' := β') hr r l hl
    refine ⟨by simp [h1], fun i x' y' v e1 e2 hx => ?_⟩
    cases i with
    | zero => simp at e1 e2; subst e1 e2; exact frzA_ok hr hy hx
    | succ i => exact h2 i x' y' v (by simpa using e1) (by simpa using e2) hx
   ·simp at h
  ·simp at h
section
variable {α : Type} [Inhabited α]
noncomputable def okE (enc : α → D) (x : D) : Bool := @decide (∃ a, DE x (enc a)) (Classical.propDecidable _)
noncomputable def theE (enc : α → D) (x : D) : α := @dite _ (∃ a, DE x (enc a)) (Classical.propDecidable _) (fun h => Classical.choose h) (fun _ => default)
omit [Inhabited α] in
theorem okE_iff {enc : α → D} {x : D} : okE enc x = true ↔ ∃ a, DE x (enc a) := by unfold okE; simp
theorem Acb {enc : α → D} {x : D} (h : okE enc x = true) : DE x (enc (theE enc x)) := by
 have h' := okE_iff.1 h
 unfold theE
 rw [dif_pos h']
 exact Classical.choose_spec h'
theorem theE_of {enc : α → D} (inj : ∀ a b, DE (enc a) (enc b) → a = b) {x : D} {a : α} (h1 : DE x (enc a)) (h2 : DE (enc a) x) : okE enc x = true ∧ theE enc x = a := by
 have h := okE_iff.2 ⟨a, h1⟩
 exact ⟨h, (inj _ _ (h2.trans (Acb h))).symm⟩
end
def Aab {β : Type} (sz : Nat) (c : β → List D) (d0 : β) (l : List β) : D := .sl sz l.length fun i => c (l.getD i d0)
theorem Ahf {β : Type} {d : β} : ∀ {l l' : List β}, l.length = l'.length → (∀ i, i < l.length → l.getD i d = l'.getD i d) → l = l'
 | [], [], _, _ => rfl
 | x :: r, y :: r', hl, h => by
  have h0 := h 0 (by simp)
  simp at h0
  rw [h0, Ahf (l := r) (l' := r') (by simpa using hl) (fun i hi => by have := h (i + 1) (by simpa using hi); simpa using this)]
 | [], _ :: _, hl, _ => by simp at hl
 | _ :: _, [], hl, _ => by simp at hl
theorem Aax {β : Type} {sz : Nat} {c : β → List D} {d0 : β} (hc : ∀ a b, DEs (c a) (c b) → a = b) (l l' : List β) (h : DE (Aab sz c d0 l) (Aab sz c d0 l')) : l = l' := by
 unfold Aab at h
 generalize he : l'.length = n' at h
 generalize hg : (fun i => c (l'.getD i d0)) = g at h
 generalize hn : l.length = n at h
 generalize hf : (fun i => c (l.getD i d0)) = f at h
 cases h with
 | sl _ _ _ _ h1 h2 =>
  refine Ahf (d := d0) (by omega) fun i hi => ?_
  refine hc _ _ ⟨?_, fun j d e hd he' => ?_⟩
  ·have := h1 i (by omega); rw [← hf, ← hg] at this; exact this
  ·exact h2 i j d e (by omega) (by rw [← hf]; exact hd) (by rw [← hg]; exact he')
theorem dv_inj {a b : Value} (h : DE (.v a) (.v b)) : a = b := by cases h; rfl
end Go.Eb
namespace Go.Eb
open Go.RowKit
theorem AdI {n : Int} (h0 : -9223372036854775808 ≤ n) (h1 : n ≤ 9223372036854775807) : IntKind.wrap IntKind.i64 n = n := by
 have e : IntKind.wrap IntKind.i64 n = (n + 9223372036854775808) % 18446744073709551616 - 9223372036854775808 := by
  unfold IntKind.wrap; simp [IntKind.signed, IntKind.bits]; omega
 rw [e]; omega
theorem lt1 {k n : Nat} (h : k < n) : decide ((k : Int) < (n : Int)) = true := by simp; omega
theorem lt0 {k n : Nat} (h : ¬ k < n) : decide ((k : Int) < (n : Int)) = false := by simp; omega
theorem ge0 (k : Nat) : decide ((0 : Int) ≤ (k : Int)) = true := by simp
theorem tn (k : Nat) : Int.toNat (k : Int) = k := by simp
theorem nx {k n : Nat} (h : k < n) (hn : n ≤ 9223372036854775807) : IntKind.wrap IntKind.i64 ((k : Int) + 1) = ((k + 1 : Nat) : Int) := by rw [AdI (by omega) (by omega)]; omega
theorem Aar {α : Type} {T : List α} {d : α} {a : Nat} (h : a < T.length) : T.drop a = T.getD a d :: T.drop (a + 1) := by
 rw [List.drop_eq_getElem_cons h]; simp [List.getD, h]
end Go.Eb
namespace Go.Eb
open Go.RowKit
section
variable {β : Type} {c : β → List D} {d0 : β}
structure RL (c : β → List D) (d0 : β) (n : Nat) (f : Nat → List D) (l : List β) : Prop where
 len : n = l.length
 le : ∀ i, i < n → DEs (f i) (c (l.getD i d0))
 ge : ∀ i, i < n → DEs (c (l.getD i d0)) (f i)
theorem RL.de {n sz : Nat} {f : Nat → List D} {l : List β} (h : RL c d0 n f l) : DE (.sl sz n f) (Aab sz c d0 l) := by
 obtain ⟨rfl, h1, _⟩ := h
 exact .sls h1
theorem RL.ed {n sz : Nat} {f : Nat → List D} {l : List β} (h : RL c d0 n f l) : DE (Aab sz c d0 l) (.sl sz n f) := by
 obtain ⟨rfl, _, h2⟩ := h
 exact .sls h2
theorem RL.nil (f : Nat → List D) : RL c d0 0 f [] := ⟨rfl, fun i h => by omega, fun i h => by omega⟩
theorem RL.data (l : List β) : RL c d0 l.length (fun i => c (l.getD i d0)) l := ⟨rfl, fun i _ => .refl _, fun i _ => .refl _⟩
theorem RL.eq {n : Nat} {f : Nat → List D} {l : List β} (hn : n = l.length) (h : ∀ i, i < n → f i = c (l.getD i d0)) : RL c d0 n f l := ⟨hn, fun i hi => by rw [h i hi]; exact .refl _, fun i hi => by rw [h i hi]; exact .refl _⟩
theorem Ahn {l l' : List β} {i : Nat} (h : i < l.length) : (l ++ l').getD i d0 = l.getD i d0 := by
 rw [List.getD_eq_getElem?_getD, List.getElem?_append_left h, ← List.getD_eq_getElem?_getD]
theorem Aho {l l' : List β} {i : Nat} (h : l.length ≤ i) : (l ++ l').getD i d0 = l'.getD (i - l.length) d0 := by
 rw [List.getD_eq_getElem?_getD, List.getElem?_append_right h, ← List.getD_eq_getElem?_getD]
theorem RL.cat {n m : Nat} {f g : Nat → List D} {l l' : List β} (h : RL c d0 n f l) (k : RL c d0 m g l') : RL c d0 (n + m) (appF n f g) (l ++ l') := by
 have hf : ∀ i, i < n + m → (i < n ∧ appF n f g i = f i ∧ (l ++ l').getD i d0 = l.getD i d0) ∨ (n ≤ i ∧ appF n f g i = g (i - n) ∧ (l ++ l').getD i d0 = l'.getD (i - n) d0) := fun i hi => by
  unfold appF
  rw [bltD]
  by_cases e : i < n
  ·left; rw [decide_eq_true e]; exact ⟨e, rfl, Ahn (by rw [← h.len]; exact e)⟩
  ·right; rw [decide_eq_false e]; exact ⟨by omega, rfl, by rw [Aho (by rw [← h.len]; omega), ← h.len]⟩
 refine ⟨by rw [h.len, k.len, List.length_append], fun i hi => ?_, fun i hi => ?_⟩
 ·rcases hf i hi with ⟨h1, h2, h3⟩ | ⟨h1, h2, h3⟩
  ·rw [h2, h3]; exact h.le i h1
  ·rw [h2, h3]; exact k.le (i - n) (by omega)
 ·rcases hf i hi with ⟨h1, h2, h3⟩ | ⟨h1, h2, h3⟩
  ·rw [h2, h3]; exact h.ge i h1
  ·rw [h2, h3]; exact k.ge (i - n) (by omega)
theorem RL.one {sz : Nat} {ds : List D} {x : β} (hs : ds.length = sz) (h1 : DEs ds (c x)) (h2 : DEs (c x) ds) : RL c d0 1 (Aat ds sz) [x] := by
 have e : ∀ i, i < 1 → Aat ds sz i = ds ∧ [x].getD i d0 = x := fun i hi => by
  obtain rfl : i = 0 := by omega
  refine ⟨?_, rfl⟩
  unfold Aat
  simp [← hs]
 exact ⟨rfl, fun i hi => by rw [(e i hi).1, (e i hi).2]; exact h1, fun i hi => by rw [(e i hi).1, (e i hi).2]; exact h2⟩
theorem RL.app {n sz : Nat} {f : Nat → List D} {l : List β} {ds : List D} {x : β} (h : RL c d0 n f l) (hs : ds.length = sz) (h1 : DEs ds (c x)) (h2 : DEs (c x) ds) : RL c d0 (n + 1) (appF n f (Aat ds sz)) (l ++ [x]) := h.cat (.one hs h1 h2)
theorem RL.app' {n sz : Nat} {f : Nat → List D} {l : List β} {x : β} (h : RL c d0 n f l) (hs : (c x).length = sz) : RL c d0 (n + 1) (appF n f (Aat (c x) sz)) (l ++ [x]) := h.app hs (.refl _) (.refl _)
theorem RL.ble {n sz : Nat} {t : TypeId} {f : Nat → List D} {l : List β} (h : RL c d0 n f l) : Ble (.row n f sz t) (.row l.length (fun i => c (l.getD i d0)) sz t) := ⟨h.len, rfl, rfl, h.le⟩
end
section
variable {β : Type} {c : β → List D} {d0 : β} {sz : Nat}
theorem RL.the (hc : ∀ a b, DEs (c a) (c b) → a = b) {n : Nat} {f : Nat → List D} {l : List β} (h : RL c d0 n f l) : okE (Aab sz c d0) (.sl sz n f) = true ∧ theE (Aab sz c d0) (.sl sz n f) = l :=
 theE_of (Aax hc) h.de h.ed
theorem AaO (hc : ∀ a b, DEs (c a) (c b) → a = b) (l : List β) : okE (Aab sz c d0) (Aab sz c d0 l) = true ∧ theE (Aab sz c d0) (Aab sz c d0 l) = l := theE_of (Aax hc) (.refl _) (.refl _)
theorem RL.of_ok {n : Nat} {f : Nat → List D} (h : okE (Aab sz c d0) (.sl sz n f) = true) : n = (theE (Aab sz c d0) (.sl sz n f)).length ∧ ∀ i, i < n → DEs (f i) (c ((theE (Aab sz c d0) (.sl sz n f)).getD i d0)) := by
 have := Acb h
 generalize theE (Aab sz c d0) (.sl sz n f) = l at this
 unfold Aab at this
 generalize hy : D.sl sz l.length (fun i => c (l.getD i d0)) = y at this
 cases this with
 | sl _ _ _ g h1 h2 =>
  injection hy with _ e1 e2
  subst e2
  exact ⟨e1.symm, fun i hi => ⟨h1 i hi, fun j d e hd he => h2 i j d e hi hd he⟩⟩
theorem ble_of_ok {n : Nat} {t : TypeId} {f : Nat → List D} (h : okE (Aab sz c d0) (.sl sz n f) = true) : Ble (.row n f sz t) (.row (theE (Aab sz c d0) (.sl sz n f)).length (fun i => c ((theE (Aab sz c d0) (.sl sz n f)).getD i d0)) sz t) :=
 ⟨(RL.of_ok h).1, rfl, rfl, (RL.of_ok h).2⟩
end
def ansB {A : Type} (d : Dec (List AV × Hp) A) (c b : A → Bool) (r : A → AV) (H' : A → Hp) (r2 : A → AV) (H2 : A → Hp) : (R : Type) → List AV → Hp → (AV → Hp → Option (T R)) → Option (T R) := fun _ args H k =>
 match d.dec (args, H) with
 | some a => bif c a then (bif b a then k (r a) (H' a) else k (r2 a) (H2 a)) else none
 | none => none
theorem AnsS.b {P : Program} {f : FuncId} {A : Type} {d : Dec (List AV × Hp) A} {c b : A → Bool} {r : A → AV} {H' : A → Hp} {r2 : A → AV} {H2 : A → Hp} (hc : ∀ a, c a = true → b a = true → CX P f (d.enc a).1 (d.enc a).2 (r a) (H' a))
  (hc2 : ∀ a, c a = true → b a = false → CX P f (d.enc a).1 (d.enc a).2 (r2 a) (H2 a)) : AnsS P f (ansB d c b r H' r2 H2) := by
 refine ⟨fun R args H k t h => ?_, fun args H => ?_⟩
 ·unfold ansB at h
  cases hd : d.dec (args, H) with
  | none => rw [hd] at h; cases h
  | some a =>
   rw [hd] at h
   simp only [] at h
   cases hca : c a with
   | false => rw [hca] at h; cases h
   | true =>
    rw [hca] at h
    simp only [cond_true] at h
    have e := d.ok _ _ hd
    cases hb : b a with
    | true =>
     rw [hb] at h
     have := hc a hca hb
     rw [← e] at this
     exact ⟨_, _, h, this⟩
    | false =>
     rw [hb] at h
     have := hc2 a hca hb
     rw [← e] at this
     exact ⟨_, _, h, this⟩
 ·unfold ansB
  cases d.dec (args, H) with
  | none => exact .no fun R k => rfl
  | some a => exact .bif _ (.bif _ (.one _ _ fun R k => rfl) (.one _ _ fun R k => rfl)) (.no fun R k => rfl)
namespace Dec
def mp (h : Nat) : Dec C Unit := ⟨fun x => match x with | .mp k => bif Nat.beq k h then some () else none | _ => none, fun _ => .mp h, fun x a e => by
 split at e
 ·rename_i k
  cases hb : Nat.beq k h with
  | true => rw [Nat.eq_of_beq_eq_true hb]
  | false => rw [hb] at e; cases e
 ·cases e⟩
def mapB (kd : Nat) : Dec Blk (List (Value × Value)) := ⟨fun x => match x with | .map k l => bif Nat.beq k kd then some l else none | _ => none, fun l => .map kd l, fun x a e => by
 split at e
 ·rename_i k l
  cases hb : Nat.beq k kd with
  | true => rw [hb] at e; simp only [cond_true, Option.some.injEq] at e; rw [Nat.eq_of_beq_eq_true hb, e]
  | false => rw [hb] at e; cases e
 ·cases e⟩
def meth (f : FuncId) : Dec C Unit := ⟨fun x => match x with | .fn g [.ptr 0 0] [] => bif Nat.beq g f then some () else none | _ => none, fun _ => .fn f [.ptr 0 0] [], fun x a e => by
 split at e
 ·rename_i g
  cases hb : Nat.beq g f with
  | true => rw [Nat.eq_of_beq_eq_true hb]
  | false => rw [hb] at e; cases e
 ·cases e⟩
end Dec
noncomputable def same {α : Type} (a b : α) : Bool := @decide (a = b) (Classical.propDecidable _)
theorem same_iff {α : Type} {a b : α} : same a b = true ↔ a = b := by unfold same; simp
theorem strEq (a b : ByteArray) : (a.toList == b.toList) = same a b := by
 rw [Bool.eq_iff_iff, same_iff, beq_iff_eq]
 refine ⟨fun h => ?_, fun h => by rw [h]⟩
 rw [ByteArray.toList_eq, ByteArray.toList_eq] at h
 cases a; cases b
 simp only [ByteArray.mk.injEq]
 exact Array.toList_inj.1 h
abbrev lB (b : Bool) : Option (T (AV × Hp)) := some (.leaf (vB b, []))
theorem bAnd (a b : Bool) : (bif a then lB b else lB false) = lB (a && b) := by cases a <;> rfl
theorem fNot {α : Type} (b : Bool) (X Y : α) : (bif !b then X else Y) = bif b then Y else X := by cases b <;> rfl
theorem fAnd {α : Type} (a b : Bool) (X Y : α) : (bif a then (bif b then Y else X) else X) = bif (a && b) then Y else X := by cases a <;> rfl
theorem fOr {α : Type} (a b : Bool) (X Y : α) : (bif a then X else (bif b then X else Y)) = bif (a || b) then X else Y := by cases a <;> rfl
theorem neN (a b : Int) : (a != b) = !(a == b) := rfl
end Go.Eb
namespace Go.Eb
open Go.RowKit
theorem Aeh (c a b : Bool) : (bif c then some (T.leaf (vB a, ([] : Hp))) else some (T.leaf (vB b, []))) = some (T.leaf (vB (bif c then a else b), [])) := by cases c <;> rfl
theorem iLeaf (c : Bool) (a b : Int) : (bif c then some (T.leaf (vI a, ([] : Hp))) else some (T.leaf (vI b, []))) = some (T.leaf (vI (bif c then a else b), [])) := by cases c <;> rfl
theorem tt : (true && true) = true := rfl
def ansG (ok : List AV → Bool) (r : List AV → AV) : (R : Type) → List AV → Hp → (AV → Hp → Option (T R)) → Option (T R) := fun _ args H k => match H with
 | [] => bif ok args then k (r args) [] else none
 | _ :: _ => none
section
variable {α : Type} [Inhabited α]
noncomputable def okX (enc : α → List AV) (x : List AV) : Bool := @decide (∃ a, Asle x (enc a)) (Classical.propDecidable _)
noncomputable def theT (enc : α → List AV) (x : List AV) : α := @dite _ (∃ a, Asle x (enc a)) (Classical.propDecidable _) (fun h => Classical.choose h) (fun _ => default)
omit [Inhabited α] in
theorem okX_iff {enc : α → List AV} {x : List AV} : okX enc x = true ↔ ∃ a, Asle x (enc a) := by unfold okX; simp
theorem AgM {enc : α → List AV} {x : List AV} (h : okX enc x = true) : Asle x (enc (theT enc x)) := by
 have h' := okX_iff.1 h
 unfold theT
 rw [dif_pos h']
 exact Classical.choose_spec h'
def InjT (enc : α → List AV) : Prop := ∀ a b, Asle (enc a) (enc b) → a = b
omit [Inhabited α] in
theorem okX_enc {enc : α → List AV} (a : α) : okX enc (enc a) = true := okX_iff.2 ⟨a, .refl _⟩
theorem Aah {enc : α → List AV} (inj : InjT enc) (a : α) : theT enc (enc a) = a := (inj _ _ (AgM (okX_enc a))).symm
noncomputable def okG (enc : α → List AV) (c : α → Bool) (x : List AV) : Bool := okX enc x && c (theT enc x)
theorem Aam {enc : α → List AV} (inj : InjT enc) {c : α → Bool} (a : α) (h : c a = true) : okG enc c (enc a) = true := by
 unfold okG; rw [okX_enc, Aah inj, h]; rfl
theorem AnsS.g {P : Program} {f : FuncId} {ok : List AV → Bool} {r : List AV → AV} (hc : ∀ x, ok x = true → CX P f x [] (r x) []) : AnsS P f (ansG ok r) := by
 refine ⟨fun R args H k t h => ?_, fun args H => ?_⟩
 ·unfold ansG at h
  cases H with
  | cons b H => cases h
  | nil =>
   simp only [] at h
   cases hb : ok args with
   | false => rw [hb] at h; cases h
   | true => rw [hb] at h; exact ⟨_, _, h, hc args hb⟩
 ·unfold ansG
  cases H with
  | cons b H => exact .no fun R k => rfl
  | nil => exact .bif _ (.one _ _ fun R k => rfl) (.no fun R k => rfl)
theorem AnsS.t' {P : Program} {f : FuncId} {enc : α → List AV} {c : α → Bool} {r : α → AV} (hc : ∀ a, c a = true → CX P f (enc a) [] (r a) []) : AnsS P f (ansG (okG enc c) fun x => r (theT enc x)) := .g fun x h => by
 unfold okG at h
 simp only [Bool.and_eq_true] at h
 exact (hc _ h.2).ge (AgM h.1) (.refl _)
end
def InjA {α : Type} (e : α → AV) : Prop := ∀ a b, Ale (e a) (e b) → a = b
theorem Aaj {x y : AV} {a b : List AV} (h : Asle (x :: a) (y :: b)) : Ale x y ∧ Asle a b := by
 refine ⟨h.2 0 x y rfl rfl, by simpa using h.1, fun i p q h1 h2 => h.2 (i + 1) p q (by simpa using h1) (by simpa using h2)⟩
section
variable {α β γ δ : Type} {e : α → AV} {f : β → AV} {g : γ → AV} {k : δ → AV}
def en1 (e : α → AV) : α → List AV := fun a => [e a]
def en2 (e : α → AV) (f : β → AV) : α × β → List AV := fun a => [e a.1, f a.2]
def en3 (e : α → AV) (f : β → AV) (g : γ → AV) : α × β × γ → List AV := fun a => [e a.1, f a.2.1, g a.2.2]
theorem AcI (h : InjA e) : InjT (en1 e) := fun a b x => h _ _ (Aaj x).1
theorem Ahr (h : InjA e) (h2 : InjA f) : InjT (en2 e f) := fun a b x => by
 obtain ⟨x1, x⟩ := Aaj x
 obtain ⟨x2, x⟩ := Aaj x
 exact Prod.ext (h _ _ x1) (h2 _ _ x2)
theorem en3_inj (h : InjA e) (h2 : InjA f) (h3 : InjA g) : InjT (en3 e f g) := fun a b x => by
 obtain ⟨x1, x⟩ := Aaj x
 obtain ⟨x2, x⟩ := Aaj x
 obtain ⟨x3, x⟩ := Aaj x
 exact Prod.ext (h _ _ x1) (Prod.ext (h2 _ _ x2) (h3 _ _ x3))
end
def en5 {α β γ δ ε : Type} (e : α → AV) (f : β → AV) (g : γ → AV) (k : δ → AV) (l : ε → AV) : α × β × γ × δ × ε → List AV := fun a => [e a.1, f a.2.1, g a.2.2.1, k a.2.2.2.1, l a.2.2.2.2]
theorem en5_inj {α β γ δ ε : Type} {e : α → AV} {f : β → AV} {g : γ → AV} {k : δ → AV} {l : ε → AV} (h : InjA e) (h2 : InjA f) (h3 : InjA g) (h4 : InjA k) (h5 : InjA l) : InjT (en5 e f g k l) := fun a b x => by
 obtain ⟨x1, x⟩ := Aaj x
 obtain ⟨x2, x⟩ := Aaj x
 obtain ⟨x3, x⟩ := Aaj x
 obtain ⟨x4, x⟩ := Aaj x
 obtain ⟨x5, x⟩ := Aaj x
 exact Prod.ext (h _ _ x1) (Prod.ext (h2 _ _ x2) (Prod.ext (h3 _ _ x3) (Prod.ext (h4 _ _ x4) (h5 _ _ x5))))
def aD {α : Type} (e : α → D) : α → AV := fun a => .c (.d (e a))
def aG {α : Type} (e : α → List D) : α → AV := fun a => .agg ((e a).map .d)
theorem AfC {x y : D} (h : Ale (.c (.d x)) (.c (.d y))) : DE x y := h
theorem ale_agg {x y : List D} (h : Ale (.agg (x.map .d)) (.agg (y.map .d))) : DEs x y := by
 have h : Csle (x.map .d) (y.map .d) := h
 refine ⟨by simpa using h.1, fun j d e hd he => ?_⟩
 exact h.2 j (.d d) (.d e) (by rw [List.getElem?_map, hd]; rfl) (by rw [List.getElem?_map, he]; rfl)
theorem aD_inj {α : Type} {e : α → D} (h : ∀ a b, DE (e a) (e b) → a = b) : InjA (aD e) := fun a b x => h a b (AfC x)
theorem Agt {α : Type} {e : α → List D} (h : ∀ a b, DEs (e a) (e b) → a = b) : InjA (aG e) := fun a b x => h a b (ale_agg x)
theorem AgK : InjA vI := fun a b x => by have := dv_inj (AfC x); simpa using this
def vN (n : Nat) : AV := vI n
theorem vN_inj : InjA vN := fun a b x => by have := AgK _ _ x; omega
theorem vS_inj : InjA vS := fun a b x => by have := dv_inj (AfC x); simpa using this
instance : Inhabited ByteArray := ⟨⟨#[]⟩⟩
theorem list_of {α : Type} (d : α) (R : Nat → α → Prop) : ∀ (n : Nat), (∀ i, i < n → ∃ x, R i x) → ∃ l : List α, l.length = n ∧ ∀ i, i < n → R i (l.getD i d)
 | 0, _ => ⟨[], rfl, fun i h => by omega⟩
 | n + 1, h => by
  obtain ⟨l, hl, hr⟩ := list_of d R n (fun i hi => h i (by omega))
  obtain ⟨x, hx⟩ := h n (by omega)
  refine ⟨l ++ [x], by simp [hl], fun i hi => ?_⟩
  by_cases e : i < n
  ·have := hr i e
   rwa [List.getD_eq_getElem?_getD, List.getElem?_append_left (by omega), ← List.getD_eq_getElem?_getD]
  ·have : i = n := by omega
   subst this
   rw [List.getD_eq_getElem?_getD, List.getElem?_append_right (by omega), hl]
   simpa using hx
def Aaq {α : Type} (l : List α) : Bool := decide (l.length ≤ 9223372036854775807)
theorem AaF {α : Type} {l : List α} (h : Aaq l = true) : l.length ≤ 9223372036854775807 := by unfold Aaq at h; simpa using h
theorem maxLen_le : maxLen ≤ 9223372036854775807 := by unfold maxLen; omega
theorem AbS {P : Program} {t e : TypeId} {ds : List D} {β : Type} {c : β → List D} {d0 : β} {sz : Nat} {ok : β → Bool} (hu : P.underlying t = some (.slice e)) (hc : P.cellsOf e = sz)
  (ho : ∀ ds, Shp P e ds → ∃ x, DEs ds (c x) ∧ ok x = true) (h : Shp P t ds) : ∃ (d : D) (l : List β), ds = [d] ∧ DE d (Aab sz c d0 l) ∧ Aaq l = true ∧ l.all ok = true := by
 obtain ⟨n, f, rfl, hn, hf⟩ := h.sl_inv hu
 obtain ⟨l, hl, hr⟩ := list_of d0 (fun i x => DEs (f i) (c x) ∧ ok x = true) n (fun i hi => ho _ (hf i hi))
 subst hl
 have hM := maxLen_le
 refine ⟨_, l, rfl, ?_, ?_, ?_⟩
 ·rw [hc]; exact .sls fun i hi => (hr i hi).1
 ·unfold Aaq; rw [decide_eq_true (by omega)]
 ·rw [List.all_eq_true]
  intro x hx
  obtain ⟨i, hi, he⟩ := List.getElem_of_mem hx
  have := (hr i hi).2
  rwa [List.getD_eq_getElem?_getD, List.getElem?_eq_getElem hi, he] at this
theorem DEs.app {a b a' b' : List D} (h : DEs a a') (k : DEs b b') : DEs (a ++ b) (a' ++ b') := by
 refine ⟨by simp [h.1, k.1], fun j d e hd he => ?_⟩
 by_cases hj : j < a.length
 ·rw [List.getElem?_append_left hj] at hd
  rw [List.getElem?_append_left (by rw [← h.1]; exact hj)] at he
  exact h.2 j d e hd he
 ·rw [List.getElem?_append_right (by omega)] at hd
  rw [List.getElem?_append_right (by rw [← h.1]; omega), ← h.1] at he
  exact k.2 _ d e hd he
theorem ale_of_des {a b : List D} (h : DEs a b) : Ale (.agg (a.map .d)) (.agg (b.map .d)) := by
 show Csle _ _
 refine ⟨by simpa using h.1, fun j d e hd he => ?_⟩
 rw [List.getElem?_map] at hd he
 cases h1 : a[j]? with
 | none => rw [h1] at hd; cases hd
 | some x =>
  cases h2 : b[j]? with
  | none => rw [h2] at he; cases he
  | some y => rw [h1] at hd; rw [h2] at he; cases hd; cases he; exact h.2 j x y h1 h2
end Go.Eb
namespace Go.Eb
open Go.RowKit
structure SLine where
 name : ByteArray
 r1 : Int
 x1 : Int
 r0 : Int
 x0 : Int
structure SSrc where
 name : ByteArray
 emf : Int
 r1 : Int
 x1 : Int
 r0 : Int
 x0 : Int
structure SLink where
 bus : Int
 pos : Int
structure SBay where
 name : ByteArray
 kind : Int
 off : Int
 fin : Int
 zr : Int
 zx : Int
 links : List SLink
 closed : Bool
 ct : Int
 vt : Int
 sat : Int
 travel : Int
structure SSta where
 name : ByteArray
 buses : List ByteArray
 lines : List SLine
 srcs : List SSrc
 bays : List SBay
abbrev dS (s : ByteArray) : D := .v (.string s)
abbrev dI (n : Int) : D := .v (.int .i64 n)
abbrev dB (b : Bool) : D := .v (.bool b)
def e0 : ByteArray := ⟨#[]⟩
def Aaf : SLine := ⟨e0, 0, 0, 0, 0⟩
def src0 : SSrc := ⟨e0, 0, 0, 0, 0, 0⟩
def AaH : SLink := ⟨0, 0⟩
def bay0 : SBay := ⟨e0, 0, 0, 0, 0, 0, [], false, 0, 0, 0, 0⟩
def Aap (l : SLine) : List D := [dS l.name, dI l.r1, dI l.x1, dI l.r0, dI l.x0]
def Aao (l : SSrc) : List D := [dS l.name, dI l.emf, dI l.r1, dI l.x1, dI l.r0, dI l.x0]
def Adu (l : SLink) : List D := [dI l.bus, dI l.pos]
abbrev Abe (l : List SLink) : D := Aab 2 Adu AaH l
def bayC (b : SBay) : List D := [dS b.name, dI b.kind, dI b.off, dI b.fin, dI b.zr, dI b.zx, Abe b.links, dB b.closed, dI b.ct, dI b.vt, dI b.sat, dI b.travel]
def busC (s : ByteArray) : List D := [dS s]
abbrev Aaa (l : List ByteArray) : D := Aab 1 busC e0 l
abbrev Aal (l : List SLine) : D := Aab 5 Aap Aaf l
abbrev Abn (l : List SSrc) : D := Aab 6 Aao src0 l
abbrev Abj (l : List SBay) : D := Aab 12 bayC bay0 l
def staC (s : SSta) : List D := [dS s.name, Aaa s.buses, Aal s.lines, Abn s.srcs, Abj s.bays]
instance : Inhabited SLine := ⟨Aaf⟩
instance : Inhabited SSrc := ⟨src0⟩
instance : Inhabited SBay := ⟨bay0⟩
theorem AcK {a b : ByteArray} (h : DE (dS a) (dS b)) : a = b := by have := dv_inj h; simpa using this
theorem Aay {a b : Int} (h : DE (dI a) (dI b)) : a = b := by have := dv_inj h; simpa using this
theorem AdC {a b : Bool} (h : DE (dB a) (dB b)) : a = b := by have := dv_inj h; simpa using this
theorem Abu (a b : ByteArray) (h : DEs (busC a) (busC b)) : a = b := AcK (h.2 0 _ _ rfl rfl)
theorem Afn (a b : SLine) (h : DEs (Aap a) (Aap b)) : a = b := by
 cases a; cases b
 have h0 := AcK (h.2 0 _ _ rfl rfl)
 have h1 := Aay (h.2 1 _ _ rfl rfl)
 have h2 := Aay (h.2 2 _ _ rfl rfl)
 have h3 := Aay (h.2 3 _ _ rfl rfl)
 have h4 := Aay (h.2 4 _ _ rfl rfl)
 simp only at h0 h1 h2 h3 h4
 rw [h0, h1, h2, h3, h4]
theorem Agx (a b : SSrc) (h : DEs (Aao a) (Aao b)) : a = b := by
 cases a; cases b
 have h0 := AcK (h.2 0 _ _ rfl rfl)
 have h1 := Aay (h.2 1 _ _ rfl rfl)
 have h2 := Aay (h.2 2 _ _ rfl rfl)
 have h3 := Aay (h.2 3 _ _ rfl rfl)
 have h4 := Aay (h.2 4 _ _ rfl rfl)
 have h5 := Aay (h.2 5 _ _ rfl rfl)
 simp only at h0 h1 h2 h3 h4 h5
 rw [h0, h1, h2, h3, h4, h5]
theorem Afm (a b : SLink) (h : DEs (Adu a) (Adu b)) : a = b := by
 cases a; cases b
 have h0 := Aay (h.2 0 _ _ rfl rfl)
 have h1 := Aay (h.2 1 _ _ rfl rfl)
 simp only at h0 h1
 rw [h0, h1]
theorem AfB (a b : SBay) (h : DEs (bayC a) (bayC b)) : a = b := by
 cases a; cases b
 have h0 := AcK (h.2 0 _ _ rfl rfl)
 have h1 := Aay (h.2 1 _ _ rfl rfl)
 have h2 := Aay (h.2 2 _ _ rfl rfl)
 have h3 := Aay (h.2 3 _ _ rfl rfl)
 have h4 := Aay (h.2 4 _ _ rfl rfl)
 have h5 := Aay (h.2 5 _ _ rfl rfl)
 have h6 := Aax Afm _ _ (h.2 6 _ _ rfl rfl)
 have h7 := AdC (h.2 7 _ _ rfl rfl)
 have h8 := Aay (h.2 8 _ _ rfl rfl)
 have h9 := Aay (h.2 9 _ _ rfl rfl)
 have h10 := Aay (h.2 10 _ _ rfl rfl)
 have h11 := Aay (h.2 11 _ _ rfl rfl)
 simp only at h0 h1 h2 h3 h4 h5 h6 h7 h8 h9 h10 h11
 rw [h0, h1, h2, h3, h4, h5, h6, h7, h8, h9, h10, h11]
theorem staC_inj (a b : SSta) (h : DEs (staC a) (staC b)) : a = b := by
 cases a; cases b
 have h0 := AcK (h.2 0 _ _ rfl rfl)
 have h1 := Aax Abu _ _ (h.2 1 _ _ rfl rfl)
 have h2 := Aax Afn _ _ (h.2 2 _ _ rfl rfl)
 have h3 := Aax Agx _ _ (h.2 3 _ _ rfl rfl)
 have h4 := Aax AfB _ _ (h.2 4 _ _ rfl rfl)
 simp only at h0 h1 h2 h3 h4
 rw [h0, h1, h2, h3, h4]
instance : Inhabited SSta := ⟨⟨e0, [], [], [], []⟩⟩
abbrev aSta (s : SSta) : AV := .agg ((staC s).map .d)
abbrev aBay (b : SBay) : AV := .agg ((bayC b).map .d)
abbrev RBay := ByteArray × Int × Int × Int × Int × Int × D × Bool × Int × Int × Int × Int × Unit
def bayD : Dec (List C) RBay := .cons .str (.cons .i64 (.cons .i64 (.cons .i64 (.cons .i64 (.cons .i64 (.cons .data (.cons .bool (.cons .i64 (.cons .i64 (.cons .i64 (.cons .i64 .nil)))))))))))
abbrev RSta := ByteArray × D × D × D × D × Unit
def staD : Dec (List C) RSta := .cons .str (.cons .data (.cons .data (.cons .data (.cons .data .nil))))
instance : Inhabited SLink := ⟨AaH⟩
noncomputable def okLk (x : D) : Bool := okE Abe x && decide ((theE Abe x).length ≤ 9223372036854775807)
noncomputable def rbay (x : RBay) : SBay := ⟨x.1, x.2.1, x.2.2.1, x.2.2.2.1, x.2.2.2.2.1, x.2.2.2.2.2.1, theE Abe x.2.2.2.2.2.2.1, x.2.2.2.2.2.2.2.1, x.2.2.2.2.2.2.2.2.1, x.2.2.2.2.2.2.2.2.2.1, x.2.2.2.2.2.2.2.2.2.2.1, x.2.2.2.2.2.2.2.2.2.2.2.1⟩
def bayR (b : SBay) : RBay := (b.name, b.kind, b.off, b.fin, b.zr, b.zx, Abe b.links, b.closed, b.ct, b.vt, b.sat, b.travel, ())
noncomputable def okRB (x : RBay) : Bool := okLk x.2.2.2.2.2.2.1
theorem Adb {l : List SLink} (h : l.length ≤ 9223372036854775807) : okLk (Abe l) = true := by
 unfold okLk
 rw [(AaO Afm l).1, (AaO Afm l).2]
 simp only [Bool.true_and]
 exact decide_eq_true h
theorem AdQ (b : SBay) : rbay (bayR b) = b := by
 unfold rbay bayR
 simp only [(AaO Afm b.links).2]
theorem bay_le (x : RBay) (h : okRB x = true) : Ale (.agg (bayD.enc x)) (aBay (rbay x)) := by
 unfold okRB okLk at h
 simp only [Bool.and_eq_true] at h
 exact .cons (.refl _) (.cons (.refl _) (.cons (.refl _) (.cons (.refl _) (.cons (.refl _) (.cons (.refl _) (.cons (Acb h.1) (.cons (.refl _) (.cons (.refl _) (.cons (.refl _) (.cons (.refl _) (.cons (.refl _) .nil)))))))))))
def letterB (c : UInt8) : Bool := (decide (65 ≤ (c.toNat : Int)) && decide ((c.toNat : Int) ≤ 90)) || (decide (97 ≤ (c.toNat : Int)) && decide ((c.toNat : Int) ≤ 122))
def otherB (c : UInt8) : Bool := (decide (48 ≤ (c.toNat : Int)) && decide ((c.toNat : Int) ≤ 57)) || (c.toNat : Int) == 95
def nmT : Nat → List UInt8 → Bool
 | _, [] => true
 | i, c :: r => (letterB c || (i != 0 && otherB c)) && nmT (i + 1) r
def Aae (s : ByteArray) : Bool := !((s.size : Int) == 0) && (!decide ((s.size : Int) > 12) && nmT 0 s.data.toList)
def inB (l : List ByteArray) (s : ByteArray) : Bool := l.any fun t => s.data.toList == t.data.toList
def Abb (l : List ByteArray) (s : ByteArray) : Int := bif !Aae s then 7 else bif inB l s then 8 else 0
def Aac (n lo hi : Int) : Bool := decide (n ≥ lo) && decide (n ≤ hi)
def Ahj (r x : Int) : Bool := Aac r 0 1000 && Aac x 1 1000
def AfP (l : List ByteArray) (x : SLine) : Int := bif Abb l x.name != 0 then Abb l x.name else bif Ahj x.r1 x.x1 && Ahj x.r0 x.x0 then 0 else 2
def srcErr (l : List ByteArray) (x : SSrc) : Int := bif Abb l x.name != 0 then Abb l x.name else bif Aac x.emf 1 1000000 && (Ahj x.r1 x.x1 && Ahj x.r0 x.x0) then 0 else 2
def cntOf (nl ns : Nat) (k : Int) : Option Int := bif k == 1 then some nl else bif k == 2 then some ns else bif k == 3 then some 1 else none
def Acd (b : SBay) : Bool :=
 (bif b.kind == 3 then Ahj b.zr b.zx && b.vt == 0 else (b.zr == 0 && b.zx == 0) && Aac b.vt 1 10000) &&
   (Aac b.fin 0 (bif b.kind == 1 then 1 else 0) && (Aac b.ct 1 100 && (Aac b.sat 0 16383 && Aac b.travel 1 6)))
def AcN (x y : SBay) : Bool := x.kind != 3 && (x.kind == y.kind && (x.off == y.off && x.fin == y.fin))
def AdU (nb : Nat) (k : Int) : Option Int → List SLink → Int
 | _, [] => 0
 | p, l :: r => bif !Aac l.bus 0 ((nb : Int) - 1) then 9 else bif l.pos != 1 && (l.pos != 0 || k == 3) then 16 else bif p == some l.bus then 12 else AdU nb k (some l.bus) r
def Abg (nb : Nat) (b : SBay) : Int := bif decide (b.links.length < 1) || (decide (2 < b.links.length) || (b.kind == 3 && b.links.length != 2)) then 3 else AdU nb b.kind none b.links
def AeW (nb nl ns : Nat) (dup : Bool) (before : List SBay) (b : SBay) : Int :=
 bif !Aae b.name then 7 else bif dup then 8 else match cntOf nl ns b.kind with
  | none => 10
  | some c => bif !Aac b.off 0 (c - 1) then 9 else bif !Acd b then 2 else bif before.any (AcN b) then 12 else Abg nb b
def Ags (nb nl ns : Nat) (l : List ByteArray) (before : List SBay) (b : SBay) : Int := AeW nb nl ns (inB l b.name) before b
def Acm {α : Type} (nm : α → ByteArray) (f : List ByteArray → List α → α → Int) (N : List ByteArray) : List α → List α → Int × List α
 | before, [] => (0, before)
 | before, x :: r => bif f (N ++ before.map nm) before x != 0 then (f (N ++ before.map nm) before x, before) else Acm nm f N (before ++ [x]) r
theorem Agw {α : Type} {nm : α → ByteArray} {f : List ByteArray → List α → α → Int} {N : List ByteArray} : ∀ (before l : List α), (Acm nm f N before l).1 = 0 → (Acm nm f N before l).2 = before ++ l
 | before, [], _ => by simp [Acm]
 | before, x :: r, h => by
  simp only [Acm] at h ⊢
  cases e : (f (N ++ before.map nm) before x != 0) with
  | true => rw [e] at h; simp only [cond_true] at h; rw [h] at e; simp at e
  | false => rw [e] at h; simp only [cond_false] at h ⊢; rw [Agw _ r h]; simp
def tBus (l : List ByteArray) := Acm id (fun N _ x => Abb N x) [] [] l
def AdL (N : List ByteArray) (l : List SLine) := Acm SLine.name (fun N _ x => AfP N x) N [] l
def tSrc (N : List ByteArray) (l : List SSrc) := Acm SSrc.name (fun N _ x => srcErr N x) N [] l
def tBay (nb nl ns : Nat) (N : List ByteArray) (l : List SBay) := Acm SBay.name (fun N before x => Ags nb nl ns N before x) N [] l
def Ahz (s : SSta) : Bool := s.buses.length == 0 || (decide (4 < s.buses.length) || (decide (6 < s.lines.length) || (decide (4 < s.srcs.length) || decide (16 < s.bays.length))))
def AbQ (s : SSta) : Int :=
 bif !Aae s.name then 7 else
 bif Ahz s then 3 else
 bif (tBus s.buses).1 != 0 then (tBus s.buses).1 else
 bif (AdL s.buses s.lines).1 != 0 then (AdL s.buses s.lines).1 else
 bif (tSrc (s.buses ++ s.lines.map SLine.name) s.srcs).1 != 0 then (tSrc (s.buses ++ s.lines.map SLine.name) s.srcs).1 else
 (tBay s.buses.length s.lines.length s.srcs.length (s.buses ++ s.lines.map SLine.name ++ s.srcs.map SSrc.name) s.bays).1
def Aak (l : List ByteArray) : List (Value × Value) := l.reverse.map fun s => (.string s, .bool true)
theorem Abh (l : List ByteArray) (s : ByteArray) : Aak (l ++ [s]) = (.string s, .bool true) :: Aak l := by simp [Aak]
theorem assoc_map (s : ByteArray) : ∀ l : List ByteArray, Abf (Aaz (l.map fun s => (Value.string s, Value.bool true)) (.string s)) = l.any fun t => s.data.toList == t.data.toList
 | [] => rfl
 | t :: r => by
  simp only [List.map_cons, Aaz, Ado, List.any_cons]
  cases (s.data.toList == t.data.toList) with
  | true => rfl
  | false => simp only [cond_false, Bool.false_or]; exact assoc_map s r
theorem Aby (l : List ByteArray) (s : ByteArray) : Abf (Aaz (Aak l) (.string s)) = inB l s := by
 unfold Aak inB
 rw [assoc_map, List.any_reverse]
theorem Adi {α : Type} {nm : α → ByteArray} {F : List ByteArray → List α → α → Int} {N : List ByteArray} {c : α → List D} {d0 : α} {l : List α} {L : Nat → List (Value × Value) → Nat → (Nat → List D) → Int → Option (T (AV × Hp))}
  {HX : List (Value × Value) → Nat → (Nat → List D) → Hp}
  (hst : ∀ (m k : Nat) (before : List α) (f : Nat → List D), k < l.length → before.length = k → RL c d0 k f before → ∃ f1 f2, RL c d0 (k + 1) f1 (before ++ [l.getD k d0]) ∧ RL c d0 k f2 before ∧ L (m + 1) (Aak (N ++ before.map nm)) k f k =
    bif F (N ++ before.map nm) before (l.getD k d0) != 0 then some (.leaf (vI (F (N ++ before.map nm) before (l.getD k d0)), HX (Aak (N ++ before.map nm)) k f2))
    else L m ((.string (nm (l.getD k d0)), .bool true) :: Aak (N ++ before.map nm)) (k + 1) f1 ((k + 1 : Nat) : Int))
  (hend : ∀ m mp n f, L (m + 1) mp n f l.length = some (.leaf (vI 0, HX mp n f))) :
  ∀ (m k : Nat) (before : List α) (f : Nat → List D), k ≤ l.length → l.length - k < m → before.length = k → RL c d0 k f before →
   ∃ f', RL c d0 (Acm nm F N before (l.drop k)).2.length f' (Acm nm F N before (l.drop k)).2 ∧
    L m (Aak (N ++ before.map nm)) k f k = some (.leaf (vI (Acm nm F N before (l.drop k)).1, HX (Aak (N ++ (Acm nm F N before (l.drop k)).2.map nm)) (Acm nm F N before (l.drop k)).2.length f'))
 | 0, k, before, f, _, h, _, _ => by omega
 | m + 1, k, before, f, hk, h, hb, hr => by
  by_cases e : k = l.length
  ·subst e
   rw [List.drop_of_length_le (Nat.le_refl _)]
   simp only [Acm]
   rw [hend, hb]
   exact ⟨f, hr, rfl⟩
  ·have hlt : k < l.length := by omega
   obtain ⟨f1, f2, hr1, hr2, hst1⟩ := hst m k before f hlt hb hr
   rw [hst1, Aar (d := d0) hlt]
   simp only [Acm]
   cases hF : (F (N ++ before.map nm) before (l.getD k d0) != 0) with
   | true =>
    simp only [cond_true]
    rw [hb]
    exact ⟨f2, hr2, rfl⟩
   | false =>
    simp only [cond_false]
    have ih := Adi hst hend m (k + 1) (before ++ [l.getD k d0]) f1 (by omega) (by omega) (by simp [hb]) hr1
    have e1 : N ++ (before ++ [l.getD k d0]).map nm = (N ++ before.map nm) ++ [nm (l.getD k d0)] := by simp
    rw [e1, Abh] at ih
    exact ih
theorem mapOf_inj {a b : List ByteArray} (h : Aak a = Aak b) : a = b := by
 unfold Aak at h
 have h2 := (List.map_inj_right (f := fun s : ByteArray => (Value.string s, Value.bool true)) (fun x y e => by simpa using e)).1 h
 exact List.reverse_inj.1 h2
noncomputable def okM (mp : List (Value × Value)) : Bool := @decide (∃ N, mp = Aak N) (Classical.propDecidable _)
noncomputable def theM (mp : List (Value × Value)) : List ByteArray := @dite _ (∃ N, mp = Aak N) (Classical.propDecidable _) (fun h => Classical.choose h) (fun _ => [])
theorem AdK {mp : List (Value × Value)} (h : okM mp = true) : mp = Aak (theM mp) := by
 have h' : ∃ N, mp = Aak N := by unfold okM at h; simpa using h
 unfold theM
 rw [dif_pos h']
 exact Classical.choose_spec h'
theorem AdS (N : List ByteArray) : okM (Aak N) = true := by unfold okM; simp; exact ⟨N, rfl⟩
theorem Acv (N : List ByteArray) : theM (Aak N) = N := (mapOf_inj (AdK (AdS N))).symm
end Go.Eb
namespace Go.Eb
open Go.RowKit
def AfO (l : List SBay) : Bool := l.all fun b => decide (b.links.length ≤ 9223372036854775807)
theorem lksOk_get {l : List SBay} (h : AfO l = true) (i : Nat) (hi : i < l.length) : (l.getD i bay0).links.length ≤ 9223372036854775807 := by
 unfold AfO at h
 rw [List.all_eq_true] at h
 have := h (l.getD i bay0) (by rw [List.getD_eq_getElem?_getD, List.getElem?_eq_getElem hi]; simp)
 simpa using this
def AcF (s : SSta) : Bool := Aaq s.buses && (Aaq s.lines && (Aaq s.srcs && (Aaq s.bays && s.bays.all fun b => Aaq b.links)))
theorem Ada {s : SSta} (h : AcF s = true) : s.buses.length ≤ 9223372036854775807 ∧ s.lines.length ≤ 9223372036854775807 ∧ s.srcs.length ≤ 9223372036854775807 ∧ s.bays.length ≤ 9223372036854775807 ∧ AfO s.bays = true := by
 unfold AcF Aaq at h
 simp only [Bool.and_eq_true, decide_eq_true_eq] at h
 exact ⟨h.1, h.2.1, h.2.2.1, h.2.2.2.1, h.2.2.2.2⟩
theorem AgH : InjA aSta := Agt staC_inj
end Go.Eb
namespace Go.Eb
open Go.RowKit
structure SRule where
 name : ByteArray
 text : ByteArray
structure SSet where
 name : ByteArray
 sigs : List ByteArray
structure SPub where
 set : ByteArray
 fst : Int
 max : Int
structure SSub where
 loc : ByteArray
 dev : ByteArray
 set : ByteArray
 sig : ByteArray
def AaI : SRule := ⟨e0, e0⟩
def set0 : SSet := ⟨e0, []⟩
def pub0 : SPub := ⟨e0, 0, 0⟩
def sub0 : SSub := ⟨e0, e0, e0, e0⟩
instance : Inhabited SRule := ⟨AaI⟩
instance : Inhabited SSet := ⟨set0⟩
instance : Inhabited SPub := ⟨pub0⟩
instance : Inhabited SSub := ⟨sub0⟩
def AcA (x : SRule) : List D := [dS x.name, dS x.text]
def setC (x : SSet) : List D := [dS x.name, Aaa x.sigs]
def pubC (x : SPub) : List D := [dS x.set, dI x.fst, dI x.max]
def subC (x : SSub) : List D := [dS x.loc, dS x.dev, dS x.set, dS x.sig]
abbrev AgR (l : List SRule) : D := Aab 2 AcA AaI l
abbrev AfH (l : List SSet) : D := Aab 2 setC set0 l
abbrev pubsD (l : List SPub) : D := Aab 3 pubC pub0 l
abbrev subsD (l : List SSub) : D := Aab 4 subC sub0 l
theorem Afc (a b : SRule) (h : DEs (AcA a) (AcA b)) : a = b := by
 cases a; cases b
 have h0 := AcK (h.2 0 _ _ rfl rfl)
 have h1 := AcK (h.2 1 _ _ rfl rfl)
 simp only at h0 h1
 rw [h0, h1]
theorem Aem (a b : SSet) (h : DEs (setC a) (setC b)) : a = b := by
 cases a; cases b
 have h0 := AcK (h.2 0 _ _ rfl rfl)
 have h1 := Aax Abu _ _ (h.2 1 _ _ rfl rfl)
 simp only at h0 h1
 rw [h0, h1]
theorem Afe (a b : SPub) (h : DEs (pubC a) (pubC b)) : a = b := by
 cases a; cases b
 have h0 := AcK (h.2 0 _ _ rfl rfl)
 have h1 := Aay (h.2 1 _ _ rfl rfl)
 have h2 := Aay (h.2 2 _ _ rfl rfl)
 simp only at h0 h1 h2
 rw [h0, h1, h2]
theorem Adm (a b : SSub) (h : DEs (subC a) (subC b)) : a = b := by
 cases a; cases b
 have h0 := AcK (h.2 0 _ _ rfl rfl)
 have h1 := AcK (h.2 1 _ _ rfl rfl)
 have h2 := AcK (h.2 2 _ _ rfl rfl)
 have h3 := AcK (h.2 3 _ _ rfl rfl)
 simp only at h0 h1 h2 h3
 rw [h0, h1, h2, h3]
structure SRel where
 name : ByteArray
 kind : Int
 bay : Int
 zon0 : Bool
 zfw0 : Bool
 zx0 : Int
 zr0 : Int
 zl0 : Int
 zd0 : Int
 zon1 : Bool
 zfw1 : Bool
 zx1 : Int
 zr1 : Int
 zl1 : Int
 zd1 : Int
 zon2 : Bool
 zfw2 : Bool
 zx2 : Int
 zr2 : Int
 zl2 : Int
 zd2 : Int
 min : Int
 kre : Int
 kim : Int
 scheme : Int
 wait : Int
 guard : Int
 don : Bool
 dpk : Int
 ddl : Int
 ion : Bool
 ipk : Int
 idl : Int
 fon : Bool
 fpk : Int
 fdl : Int
 shots : Int
 dead : Int
 reclaim : Int
 uon : Bool
 upk : Int
 udl : Int
 oon : Bool
 opk : Int
 odl : Int
 diff : Int
 num : Int
 den : Int
 harm : Int
 rules : List SRule
 sets : List SSet
 pubs : List SPub
 subs : List SSub
def rel0 : SRel := ⟨e0, 0, 0, false, false, 0, 0, 0, 0, false, false, 0, 0, 0, 0, false, false, 0, 0, 0, 0, 0, 0, 0, 0, 0, 0, false, 0, 0, false, 0, 0, false, 0, 0, 0, 0, 0, false, 0, 0, false, 0, 0, 0, 0, 0, 0, [], [], [], []⟩
instance : Inhabited SRel := ⟨rel0⟩
def relC (r : SRel) : List D := [dS r.name, dI r.kind, dI r.bay, dB r.zon0, dB r.zfw0, dI r.zx0, dI r.zr0, dI r.zl0, dI r.zd0, dB r.zon1, dB r.zfw1, dI r.zx1, dI r.zr1, dI r.zl1, dI r.zd1, dB r.zon2, dB r.zfw2, dI r.zx2, dI r.zr2, dI r.zl2, dI r.zd2, dI r.min, dI r.kre, dI r.kim, dI r.scheme, dI r.wait, dI r.guard, dB r.don, dI r.dpk, dI r.ddl, dB r.ion, dI r.ipk, dI r.idl, dB r.fon, dI r.fpk, dI r.fdl, dI r.shots, dI r.dead, dI r.reclaim, dB r.uon, dI r.upk, dI r.udl, dB r.oon, dI r.opk, dI r.odl, dI r.diff, dI r.num, dI r.den, dI r.harm, AgR r.rules, AfH r.sets, pubsD r.pubs, subsD r.subs]
abbrev AbF (l : List SRel) : D := Aab 53 relC rel0 l
abbrev aRel (r : SRel) : AV := .agg ((relC r).map .d)
theorem Afd (a b : SRel) (h : DEs (relC a) (relC b)) : a = b := by
 cases a; cases b
 have h0 := AcK (h.2 0 _ _ rfl rfl)
 have h1 := Aay (h.2 1 _ _ rfl rfl)
 have h2 := Aay (h.2 2 _ _ rfl rfl)
 have h3 := AdC (h.2 3 _ _ rfl rfl)
 have h4 := AdC (h.2 4 _ _ rfl rfl)
 have h5 := Aay (h.2 5 _ _ rfl rfl)
 have h6 := Aay (h.2 6 _ _ rfl rfl)
 have h7 := Aay (h.2 7 _ _ rfl rfl)
 have h8 := Aay (h.2 8 _ _ rfl rfl)
 have h9 := AdC (h.2 9 _ _ rfl rfl)
 have h10 := AdC (h.2 10 _ _ rfl rfl)
 have h11 := Aay (h.2 11 _ _ rfl rfl)
 have h12 := Aay (h.2 12 _ _ rfl rfl)
 have h13 := Aay (h.2 13 _ _ rfl rfl)
 have h14 := Aay (h.2 14 _ _ rfl rfl)
 have h15 := AdC (h.2 15 _ _ rfl rfl)
 have h16 := AdC (h.2 16 _ _ rfl rfl)
 have h17 := Aay (h.2 17 _ _ rfl rfl)
 have h18 := Aay (h.2 18 _ _ rfl rfl)
 have h19 := Aay (h.2 19 _ _ rfl rfl)
 have h20 := Aay (h.2 20 _ _ rfl rfl)
 have h21 := Aay (h.2 21 _ _ rfl rfl)
 have h22 := Aay (h.2 22 _ _ rfl rfl)
 have h23 := Aay (h.2 23 _ _ rfl rfl)
 have h24 := Aay (h.2 24 _ _ rfl rfl)
 have h25 := Aay (h.2 25 _ _ rfl rfl)
 have h26 := Aay (h.2 26 _ _ rfl rfl)
 have h27 := AdC (h.2 27 _ _ rfl rfl)
 have h28 := Aay (h.2 28 _ _ rfl rfl)
 have h29 := Aay (h.2 29 _ _ rfl rfl)
 have h30 := AdC (h.2 30 _ _ rfl rfl)
 have h31 := Aay (h.2 31 _ _ rfl rfl)
 have h32 := Aay (h.2 32 _ _ rfl rfl)
 have h33 := AdC (h.2 33 _ _ rfl rfl)
 have h34 := Aay (h.2 34 _ _ rfl rfl)
 have h35 := Aay (h.2 35 _ _ rfl rfl)
 have h36 := Aay (h.2 36 _ _ rfl rfl)
 have h37 := Aay (h.2 37 _ _ rfl rfl)
 have h38 := Aay (h.2 38 _ _ rfl rfl)
 have h39 := AdC (h.2 39 _ _ rfl rfl)
 have h40 := Aay (h.2 40 _ _ rfl rfl)
 have h41 := Aay (h.2 41 _ _ rfl rfl)
 have h42 := AdC (h.2 42 _ _ rfl rfl)
 have h43 := Aay (h.2 43 _ _ rfl rfl)
 have h44 := Aay (h.2 44 _ _ rfl rfl)
 have h45 := Aay (h.2 45 _ _ rfl rfl)
 have h46 := Aay (h.2 46 _ _ rfl rfl)
 have h47 := Aay (h.2 47 _ _ rfl rfl)
 have h48 := Aay (h.2 48 _ _ rfl rfl)
 have h49 := Aax Afc _ _ (h.2 49 _ _ rfl rfl)
 have h50 := Aax Aem _ _ (h.2 50 _ _ rfl rfl)
 have h51 := Aax Afe _ _ (h.2 51 _ _ rfl rfl)
 have h52 := Aax Adm _ _ (h.2 52 _ _ rfl rfl)
 simp only at h0 h1 h2 h3 h4 h5 h6 h7 h8 h9 h10 h11 h12 h13 h14 h15 h16 h17 h18 h19 h20 h21 h22 h23 h24 h25 h26 h27 h28 h29 h30 h31 h32 h33 h34 h35 h36 h37 h38 h39 h40 h41 h42 h43 h44 h45 h46 h47 h48 h49 h50 h51 h52
 subst h0 h1 h2 h3 h4 h5 h6 h7 h8 h9 h10 h11 h12 h13 h14 h15 h16 h17 h18 h19 h20 h21 h22 h23 h24 h25 h26 h27 h28 h29 h30 h31 h32 h33 h34 h35 h36 h37 h38 h39 h40 h41 h42 h43 h44 h45 h46 h47 h48 h49 h50 h51 h52
 rfl
theorem Aew : InjA aRel := Agt Afd
end Go.Eb
namespace Go.Eb
open Go.RowKit
abbrev lN (n : Int) : Option (T (AV × Hp)) := some (.leaf (vI n, []))
def AbI {α : Type} (valid : α → Bool) (key : α → ByteArray) (rest : α → Int) (seen : List ByteArray) : List α → Int
 | [] => 0
 | x :: r => bif !valid x then 7 else bif inB seen (key x) then 8 else bif rest x != 0 then rest x else AbI valid key rest (seen ++ [key x]) r
theorem AdN {α : Type} {valid : α → Bool} {key : α → ByteArray} {rest : α → Int} {l : List α} {d0 : α} {L : Nat → List (Value × Value) → Int → Option (T (AV × Hp))}
  (hst : ∀ (m k : Nat) (seen : List ByteArray), k < l.length → L (m + 1) (Aak seen) k = bif !valid (l.getD k d0) then lN 7 else bif inB seen (key (l.getD k d0)) then lN 8 else bif rest (l.getD k d0) != 0 then lN (rest (l.getD k d0)) else L m (Aak (seen ++ [key (l.getD k d0)])) ((k + 1 : Nat) : Int))
  (hend : ∀ m mp, L (m + 1) mp l.length = lN 0) : ∀ (m k : Nat) (seen : List ByteArray), k ≤ l.length → l.length - k < m → L m (Aak seen) k = lN (AbI valid key rest seen (l.drop k))
 | 0, k, _, _, h => by omega
 | m + 1, k, seen, hk, h => by
  by_cases e : k = l.length
  ·subst e
   rw [hend, List.drop_of_length_le (Nat.le_refl _)]
   rfl
  ·have hlt : k < l.length := by omega
   rw [hst m k seen hlt, AdN hst hend m (k + 1) _ (by omega) (by omega), Aar (d := d0) hlt]
   simp only [AbI]
   cases valid (l.getD k d0) with
   | false => rfl
   | true =>
    cases inB seen (key (l.getD k d0)) with
    | true => rfl
    | false =>
     cases (rest (l.getD k d0) != 0) <;> rfl
def idxP {α : Type} (p : α → Bool) : Nat → List α → Int
 | _, [] => -1
 | i, x :: r => bif p x then (i : Int) else idxP p (i + 1) r
theorem Ahk {α : Type} (p : α → Bool) : ∀ (l : List α) (i : Nat), decide (idxP p i l ≥ 0) = l.any p
 | [], i => rfl
 | x :: r, i => by
  have ih := Ahk p r (i + 1)
  have e : idxP p i (x :: r) = bif p x then (i : Int) else idxP p (i + 1) r := rfl
  rw [List.any_cons, ← ih, Bool.eq_iff_iff, Bool.or_eq_true, decide_eq_true_eq, decide_eq_true_eq, e]
  cases p x with
  | true => simp
  | false => simp
theorem Afr {α : Type} {p : α → Bool} {l : List α} {d0 : α} {L : Nat → Int → Option (T (AV × Hp))}
  (hst : ∀ (m k : Nat), k < l.length → L (m + 1) k = bif p (l.getD k d0) then lN k else L m ((k + 1 : Nat) : Int)) (hend : ∀ m, L (m + 1) l.length = lN (-1)) :
  ∀ (m k : Nat), k ≤ l.length → l.length - k < m → L m k = lN (idxP p k (l.drop k))
 | 0, k, _, h => by omega
 | m + 1, k, hk, h => by
  by_cases e : k = l.length
  ·subst e
   rw [hend, List.drop_of_length_le (Nat.le_refl _)]
   rfl
  ·have hlt : k < l.length := by omega
   rw [hst m k hlt, Afr hst hend m (k + 1) (by omega) (by omega), Aar (d := d0) hlt]
   simp only [idxP]
   cases p (l.getD k d0) <;> rfl
theorem Adc {α : Type} {nm : α → ByteArray} {l : List α} {d0 : α} {L : Nat → List (Value × Value) → Int → Option (T (AV × Hp))} {NX : List (Value × Value) → Option (T (AV × Hp))}
  (hst : ∀ (m k : Nat) (N : List ByteArray), k < l.length → L (m + 1) (Aak N) k = L m (Aak (N ++ [nm (l.getD k d0)])) ((k + 1 : Nat) : Int)) (hend : ∀ m mp, L (m + 1) mp l.length = NX mp) :
  ∀ (m k : Nat) (N : List ByteArray), k ≤ l.length → l.length - k < m → L m (Aak N) k = NX (Aak (N ++ (l.drop k).map nm))
 | 0, k, _, _, h => by omega
 | m + 1, k, N, hk, h => by
  by_cases e : k = l.length
  ·subst e
   rw [hend, List.drop_of_length_le (Nat.le_refl _)]
   simp
  ·have hlt : k < l.length := by omega
   rw [hst m k N hlt, Adc hst hend m (k + 1) _ (by omega) (by omega), Aar (d := d0) hlt]
   simp
def AfY (c : UInt8) : Bool := decide ((c.toNat : Int) < 32) || (decide ((c.toNat : Int) > 126) || (c.toNat : Int) == 34)
def AcR (s : ByteArray) : Int := bif decide (120 < s.size) then 4 else bif s.data.toList.any AfY then 5 else 0
def Afg (x : SSet) : Bool := Aaq x.sigs
def Abk (r : SRel) : Bool := Aaq r.rules && (Aaq r.sets && (Aaq r.pubs && (Aaq r.subs && r.sets.all Afg)))
theorem AdR {r : SRel} (h : Abk r = true) : r.rules.length ≤ 9223372036854775807 ∧ r.sets.length ≤ 9223372036854775807 ∧ r.pubs.length ≤ 9223372036854775807 ∧ r.subs.length ≤ 9223372036854775807 ∧ r.sets.all Afg = true := by
 unfold Abk Aaq at h
 simp only [Bool.and_eq_true, decide_eq_true_eq] at h
 exact h
theorem Acu {α : Type} {p : α → Bool} {l : List α} {d : α} (h : l.all p = true) (hd : p d = true) (i : Nat) : p (l.getD i d) = true := by
 by_cases hi : i < l.length
 ·rw [List.all_eq_true] at h
  exact h _ (by simp [List.getD, hi])
 ·have : l.getD i d = d := by simp [List.getD, hi]
  rw [this]; exact hd
end Go.Eb
namespace Go.Eb
open Go.RowKit
theorem Asle.trans {a b c : List AV} (h : Asle a b) (k : Asle b c) : Asle a c := by
 refine ⟨h.1.trans k.1, fun i x z h1 h3 => ?_⟩
 have hlt : i < b.length := by rw [← h.1]; exact (List.getElem?_eq_some_iff.1 h1).1
 exact (h.2 i x _ h1 (List.getElem?_eq_getElem hlt)).trans (k.2 i _ z (List.getElem?_eq_getElem hlt) h3)
section
variable {α : Type} [Inhabited α] {enc : α → List AV}
theorem AfG (inj : InjT enc) {x : List AV} {a : α} (h1 : Asle x (enc a)) (h2 : Asle (enc a) x) : theT enc x = a :=
 (inj _ _ (h2.trans (AgM (okX_iff.2 ⟨a, h1⟩)))).symm
theorem okG_of (inj : InjT enc) {x : List AV} {a : α} {c : α → Bool} (h1 : Asle x (enc a)) (h2 : Asle (enc a) x) (h : c a = true) : okG enc c x = true := by
 unfold okG
 rw [AfG inj h1 h2, okX_iff.2 ⟨a, h1⟩, h]; rfl
end
def plainC : C → Bool
 | .d (.v _) => true
 | _ => false
def plainA : AV → Bool
 | .c x => plainC x
 | .agg cs => cs.all plainC
 | .tup ps => ps.all fun p => p.2.all plainC
 | .u => true
section
variable {β β' : Bt} {w w' : World} {I I' : Im}
theorem AgY {x : C} {v : Value} (h : plainC x = true) (hx : RepC β w I x v) : RepC β' w' I' x v := by
 match x, h with
 | .d (.v y), _ =>
  have hx : RepD w I (.v y) v := hx
  cases hx with
  | v _ h1 => exact RepD.v _ h1
theorem plainCs_ok {cs : List C} {vs : List Value} (h : cs.all plainC = true) (hx : RepCs β w I cs vs) : RepCs β' w' I' cs vs := by
 refine ⟨hx.1, fun i c v h1 h2 => AgY ?_ (hx.2 i c v h1 h2)⟩
 rw [List.all_eq_true] at h
 exact h c (List.mem_of_getElem? h1)
theorem plainA_ok {x : AV} {v : Value} (h : plainA x = true) (hx : RepA β w I x v) : RepA β' w' I' x v := by
 cases x with
 | c x => exact AgY h hx
 | agg cs => obtain ⟨vs, rfl, hv⟩ := hx; exact ⟨vs, rfl, plainCs_ok h hv⟩
 | tup ps =>
  obtain ⟨vs, rfl, hl, hv⟩ := hx
  refine ⟨vs, rfl, hl, fun i p x h1 h2 => ?_⟩
  have hp := hv i p x h1 h2
  have h : (ps.all fun p => p.2.all plainC) = true := h
  rw [List.all_eq_true] at h
  have hq := h p (List.mem_of_getElem? h1)
  obtain ⟨b, cs⟩ := p
  cases b with
  | true => obtain ⟨us, rfl, hu⟩ := hp; exact ⟨us, rfl, plainCs_ok hq hu⟩
  | false =>
   obtain ⟨c, hc, hu⟩ := hp
   have hc : cs = [c] := hc
   subst hc
   exact ⟨c, rfl, AgY (by simpa using hq) hu⟩
 | u => trivial
end
theorem CR.lends {P : Program} {f : FuncId} {args ds : List AV} {H : Hp} {x : AV} (h : CR P f ds [] x []) (hp : plainA x = true) (hf : frzAs H args = some ds) : CR P f args H x H := by
 intro β I w vs hr ha
 have hr0 : RelH (fun _ => .free) [] (allB β I) w := by
  refine ⟨⟨(fun i j b hi => by cases hi), (fun i b hi => by cases hi), (fun i b o hi => by cases hi), (fun b o hi => ?_), hr.gl.step (fun _ _ hi => .inl hi) (fun _ _ _ => rfl)⟩, fun i _ => rfl, fun i B hB => by simp [look] at hB⟩
  rcases hi with hi | ⟨k, hk⟩
  ·exact hr.old b o hi
  ·exact hr.lt k b hk
 obtain ⟨hl, hreps⟩ := frzAs_ok (β' := fun _ => .free) hr args ds hf
 have ha0 : RepF (fun _ => .free) w (allB β I) ds vs := by
  refine ⟨by rw [hl]; exact ha.1, fun i y v h1 h2 => ?_⟩
  have hlt : i < args.length := by rw [← hl]; exact (List.getElem?_eq_some_iff.1 h1).1
  exact hreps i _ y v (List.getElem?_eq_getElem hlt) h1 (ha.2 i _ v (List.getElem?_eq_getElem hlt) h2)
 refine (h _ _ w vs hr0 ha0).mono fun e w' ⟨v, β', I', he, hr', hx, hE, hm⟩ => ?_
 have hblk : ∀ b, b < w.heap.size → w'.heap[b]? = w.heap[b]? := fun b hb => hE.block b hb (fun k hk => by cases hk)
 have hcell : ∀ b o, I b o → w'.cell? ⟨b, o, none⟩ = w.cell? ⟨b, o, none⟩ := fun b o hi => hE.cell b o (.inl hi)
 have hk : Keep β I w β I w' := ⟨.refl _, fun _ _ hi => hi, hcell, hE.shapes⟩
 have hpl : Place β I w' := ⟨hr.inj, fun i b hb => Nat.lt_of_lt_of_le (hr.lt i b hb) hE.size, hr.off, fun b o hi => Nat.lt_of_lt_of_le (hr.old b o hi) hE.size, hr.gl.step (fun _ _ hi => hi) hcell⟩
 refine ⟨v, β, I, he, ?_, plainA_ok hp hx, ⟨hE.os, hE.tape, hE.output, hE.size, fun b hb _ => hblk b hb, fun _ _ hi => hi, hcell, fun _ _ hi => .inl hi, fun i b hb => .inl ⟨i, hb⟩, hE.shapes⟩, .refl _⟩
 exact ⟨hpl, hr.dom, fun i B hB => (hr.blk i B hB).keep hk rfl (fun b hb => hblk b (hr.lt i b hb))⟩
theorem CX.cr {P : Program} {f : FuncId} {fn : Func} {c : Code} {args : List AV} {H : Hp} {x : AV} {H' : Hp} (hf : P.funcs[f]? = some fn) (hb : fn.body = some c) (h : CX P f args H x H') : CR P f args H x H' := by
 unfold CX at h
 rw [hf] at h
 simp only [hb, Option.isNone_some, Bool.false_eq_true, if_false] at h
 exact h
theorem CX.lends {P : Program} {f : FuncId} {fn : Func} {c : Code} {args ds : List AV} {H : Hp} {x : AV} (hf : P.funcs[f]? = some fn) (hb : fn.body = some c) (h : CX P f ds [] x []) (hp : plainA x = true) (hz : frzAs H args = some ds) : CX P f args H x H :=
 .of_cr hf hb ((h.cr hf hb).lends hp hz)
def ansL (ok : List AV → Bool) (r : List AV → AV) : (R : Type) → List AV → Hp → (AV → Hp → Option (T R)) → Option (T R) := fun _ args H k =>
 match frzAs H args with
 | some ds => bif ok ds then k (r ds) H else none
 | none => none
theorem AnsS.l {P : Program} {f : FuncId} {fn : Func} {ok : List AV → Bool} {r : List AV → AV} (hf : P.funcs[f]? = some fn) (hb : fn.body = some (Aad fn)) (hc : ∀ x, ok x = true → CX P f x [] (r x) [] ∧ plainA (r x) = true) : AnsS P f (ansL ok r) := by
 refine ⟨fun R args H k t h => ?_, fun args H => ?_⟩
 ·unfold ansL at h
  cases hd : frzAs H args with
  | none => rw [hd] at h; cases h
  | some ds =>
   rw [hd] at h
   simp only [] at h
   cases hb' : ok ds with
   | false => rw [hb'] at h; cases h
   | true =>
    rw [hb'] at h
    obtain ⟨h1, h2⟩ := hc ds hb'
    exact ⟨_, _, h, h1.lends hf hb h2 hd⟩
 ·unfold ansL
  cases frzAs H args with
  | none => exact .no fun R k => rfl
  | some ds => exact .bif _ (.one _ _ fun R k => rfl) (.no fun R k => rfl)
theorem AnsS.lt {P : Program} {f : FuncId} {fn : Func} {α : Type} [Inhabited α] {enc : α → List AV} {c : α → Bool} {r : α → AV} (hf : P.funcs[f]? = some fn) (hb : fn.body = some (Aad fn)) (hp : ∀ a, plainA (r a) = true)
  (hc : ∀ a, c a = true → CX P f (enc a) [] (r a) []) : AnsS P f (ansL (okG enc c) fun x => r (theT enc x)) := .l hf hb fun x h => by
 unfold okG at h
 simp only [Bool.and_eq_true] at h
 exact ⟨(hc _ h.2).ge (AgM h.1) (.refl _), hp _⟩
theorem Adk {α : Type} {p : α → Bool} {l : List α} {d0 : α} {L : Nat → Int → Option (T (AV × Hp))} {A B : Option (T (AV × Hp))}
  (hst : ∀ (m k : Nat), k < l.length → L (m + 1) k = bif p (l.getD k d0) then A else L m ((k + 1 : Nat) : Int)) (hend : ∀ m, L (m + 1) l.length = B) :
  ∀ (m k : Nat), k ≤ l.length → l.length - k < m → L m k = bif (l.drop k).any p then A else B
 | 0, k, _, h => by omega
 | m + 1, k, hk, h => by
  by_cases e : k = l.length
  ·subst e
   rw [hend, List.drop_of_length_le (Nat.le_refl _)]
   rfl
  ·have hlt : k < l.length := by omega
   rw [hst m k hlt, Adk hst hend m (k + 1) (by omega) (by omega), Aar (d := d0) hlt]
   simp only [List.any_cons]
   cases p (l.getD k d0) <;> rfl
theorem AcY {α : Type} {valid : α → Bool} {key : α → ByteArray} {rest : α → Int} {l : List α} {d0 : α} {L : Nat → Nat → (Nat → List D) → Int → Option (T (AV × Hp))} {NX : Option (T (AV × Hp))} (hl : l.length ≤ 9000)
  (hst : ∀ (m k n : Nat) (f : Nat → List D) (seen : List ByteArray), k < l.length → RL busC e0 n f seen → n ≤ 9000 → L (m + 1) n f k = bif !valid (l.getD k d0) then lN 7 else bif inB seen (key (l.getD k d0)) then lN 8 else bif rest (l.getD k d0) != 0 then lN (rest (l.getD k d0)) else L m (n + 1) (appF n f (Aat (busC (key (l.getD k d0))) 1)) ((k + 1 : Nat) : Int))
  (hend : ∀ m n f, L (m + 1) n f l.length = NX) : ∀ (m k n : Nat) (f : Nat → List D) (seen : List ByteArray), RL busC e0 n f seen → seen.length = k → k ≤ l.length → l.length - k < m →
    L m n f k = bif AbI valid key rest seen (l.drop k) != 0 then lN (AbI valid key rest seen (l.drop k)) else NX
 | 0, k, n, f, seen, _, _, _, h => by omega
 | m + 1, k, n, f, seen, hr, hn, hk, h => by
  by_cases e : k = l.length
  ·rw [e, hend, List.drop_of_length_le (Nat.le_refl _)]
   rfl
  ·have hlt : k < l.length := by omega
   have hr' := hr.app' (x := key (l.getD k d0)) (sz := 1) rfl
   rw [hst m k n f seen hlt hr (by have := hr.len; omega), AcY hl hst hend m (k + 1) _ _ _ hr' (by simp; omega) (by omega) (by omega), Aar (d := d0) hlt]
   simp only [AbI]
   cases valid (l.getD k d0) with
   | false => rfl
   | true =>
    cases inB seen (key (l.getD k d0)) with
    | true => rfl
    | false =>
     cases hz : (rest (l.getD k d0) != 0) with
     | true => simp only [Bool.not_true, cond_false, cond_true, hz]
     | false => rfl
theorem AdE {n : Nat} (h : n ≤ 9000) : (decide ((n + 1) * 16 ≤ 140737488355328) && decide (n + 1 ≤ 9223372036854775807)) = true := by
 rw [decide_eq_true (by omega), decide_eq_true (by omega)]; rfl
abbrev eIx := en2 (aD Aaa) vS
theorem AbU : InjT eIx := Ahr (aD_inj (Aax (sz := 1) (d0 := e0) Abu)) vS_inj
def cIx (a : List ByteArray × ByteArray) : Bool := Aaq a.1
theorem ix_row {n : Nat} {f : Nat → List D} {l : List ByteArray} (hr : RL busC e0 n f l) (s : ByteArray) : Asle [.c (.d (.sl 1 n f)), vS s] (eIx (l, s)) ∧ Asle (eIx (l, s)) [.c (.d (.sl 1 n f)), vS s] :=
 ⟨.cons hr.de (.cons (.refl _) .nil), .cons hr.ed (.cons (.refl _) .nil)⟩
theorem ix_okr {n : Nat} {f : Nat → List D} {l : List ByteArray} (hr : RL busC e0 n f l) (hn : n ≤ 9000) (s : ByteArray) : okG eIx cIx [.c (.d (.sl 1 n f)), vS s] = true ∧ theT eIx [.c (.d (.sl 1 n f)), vS s] = (l, s) := by
 obtain ⟨h1, h2⟩ := ix_row hr s
 refine ⟨okG_of AbU h1 h2 ?_, AfG AbU h1 h2⟩
 unfold cIx Aaq
 rw [decide_eq_true (by have := hr.len; simp only; omega)]
end Go.Eb
namespace Go.Eb
open Go.RowKit
theorem CR.cellsRow {P : Program} {f : FuncId} {args : List AV} {ds : List D} {n : Nat} {t : TypeId} {g : Nat → List D} (hn : ds.length = n) (hg : ∀ i, i < n → g i = [ds.getD i (dI 0)])
  (h : CR P f args [] (.c (.row 0 1 n)) [(0, .cells (ds.map .d) t)]) : CR P f args [] (.c (.row 0 1 n)) [(0, .row n g 1 t)] := by
 intro β I w vs hr ha
 have hfree : ∀ h, β h = .free := fun h => hr.dom h rfl
 refine (h β I w vs hr ha).mono fun e w' ⟨v, β', I', he, hr', hx, hE, hm⟩ => ?_
 obtain ⟨b, us, hb, hheap, hle, hcs⟩ := hr'.blk 0 _ (rfl : look [(0, Blk.cells (ds.map .d) t)] 0 = some _)
 have hblk : ∀ k, (setB β' 0 (.row (some b) n) k).blk = (β' k).blk := fun k => by
  by_cases ek : k = 0
  ·subst ek; rw [Aag, hb]; rfl
  ·rw [AaN ek]
 refine ⟨v, setB β' 0 (.row (some b) n), I', he, ⟨⟨fun i j c h1 h2 => hr'.inj i j c (by rw [← hblk]; exact h1) (by rw [← hblk]; exact h2), fun k c hk => hr'.lt k c (by rw [← hblk]; exact hk), fun k c o hk => hr'.off k c o (by rw [← hblk]; exact hk), hr'.old, hr'.gl⟩, fun k hk => ?_, fun k B hB => ?_⟩, ?_,
  ⟨hE.os, hE.tape, hE.output, hE.size, hE.block, hE.keepI, hE.cell, hE.newI, fun k c hk => hE.newB k c (by rw [← hblk]; exact hk), hE.shapes⟩, fun k => by rw [hfree k]; trivial⟩
 ·by_cases ek : k = 0
  ·subst ek
   have hk' : (some (Blk.row n g 1 t) : Option Blk) = none := hk
   cases hk'
  ·rw [AaN ek]
   refine hr'.dom k ?_
   show (bif Nat.beq k 0 then some _ else none) = none
   rw [beqD, decide_eq_false ek]
   rfl
 ·by_cases ek : k = 0
  ·subst ek
   have hB' : some (Blk.row n g 1 t) = some B := hB
   cases hB'
   refine ⟨by omega, .inr ⟨b, us, Aag _ _ _, hheap, by simp at hle; omega, fun i hi => ⟨by rw [hg i hi]; rfl, fun j d hj => ?_⟩⟩⟩
   rw [hg i hi] at hj
   match j, hj with
   | 0, hj =>
    have hj' : ds.getD i (dI 0) = d := by simpa using hj
    have hd : (ds.map C.d)[i]? = some (.d d) := by
     rw [List.getElem?_map, List.getElem?_eq_getElem (by omega), ← hj']
     simp [List.getD, show i < ds.length by omega]
    have hu : i < us.size := by simp at hle; omega
    exact ⟨us[i], by rw [Nat.mul_one, Nat.add_zero]; exact Array.getElem?_eq_getElem hu, hcs i _ _ hd (Array.getElem?_eq_getElem hu)⟩
   | j + 1, hj => simp at hj
  ·have hB' : (bif Nat.beq k 0 then some (Blk.row n g 1 t) else none) = some B := hB
   rw [beqD, decide_eq_false ek] at hB'
   cases hB'
 ·have hx : RowAt β' w' 0 1 n v := hx
  show RowAt _ w' 0 1 n v
  rcases hx with ⟨h0, rfl, h2⟩ | ⟨c, cap, rfl, hcap, h2⟩
  ·rcases h2 with h2 | ⟨m, h2⟩ <;> (rw [hb] at h2; cases h2)
  ·refine .inr ⟨c, cap, rfl, hcap, ?_⟩
   rcases h2 with h2 | ⟨h2, _, h4⟩
   ·rw [hb] at h2; cases h2
   ·have : c = b := by rw [hb] at h2; simpa [Nst.blk] using h2.symm
    subst this
    refine .inr ⟨by rw [Aag]; rfl, fun ob m hm => ?_, h4⟩
    rw [Aag] at hm
    cases hm
    omega
def ansN (ok : List AV → Bool) (r : List AV → AV) (H' : List AV → Hp) : (R : Type) → List AV → Hp → (AV → Hp → Option (T R)) → Option (T R) := fun _ args H k => match H with
 | [] => bif ok args then k (r args) (H' args) else none
 | _ :: _ => none
theorem AnsS.n {P : Program} {f : FuncId} {ok : List AV → Bool} {r : List AV → AV} {H' : List AV → Hp} (hc : ∀ x, ok x = true → CX P f x [] (r x) (H' x)) : AnsS P f (ansN ok r H') := by
 refine ⟨fun R args H k t h => ?_, fun args H => ?_⟩
 ·unfold ansN at h
  cases H with
  | cons b H => cases h
  | nil =>
   simp only [] at h
   cases hb : ok args with
   | false => rw [hb] at h; cases h
   | true => rw [hb] at h; exact ⟨_, _, h, hc args hb⟩
 ·unfold ansN
  cases H with
  | cons b H => exact .no fun R k => rfl
  | nil => exact .bif _ (.one _ _ fun R k => rfl) (.no fun R k => rfl)
theorem AnsS.nt {P : Program} {f : FuncId} {α : Type} [Inhabited α] {enc : α → List AV} {c : α → Bool} {r : α → AV} {H' : α → Hp} (hc : ∀ a, c a = true → CX P f (enc a) [] (r a) (H' a)) : AnsS P f (ansN (okG enc c) (fun x => r (theT enc x)) fun x => H' (theT enc x)) := .n fun x h => by
 unfold okG at h
 simp only [Bool.and_eq_true] at h
 exact (hc _ h.2).ge (AgM h.1) (.refl _)
end Go.Eb
namespace Go.Eb
open Go.RowKit
def ansM (ok : List AV → Hp → Bool) (r : List AV → Hp → AV) (H' : List AV → Hp → Hp) : (R : Type) → List AV → Hp → (AV → Hp → Option (T R)) → Option (T R) := fun _ args H k =>
 bif ok args H then k (r args H) (H' args H) else none
theorem AnsS.mg {P : Program} {f : FuncId} {ok : List AV → Hp → Bool} {r : List AV → Hp → AV} {H' : List AV → Hp → Hp} (hc : ∀ x H, ok x H = true → CX P f x H (r x H) (H' x H)) : AnsS P f (ansM ok r H') := by
 refine ⟨fun R args H k t h => ?_, fun args H => ?_⟩
 ·unfold ansM at h
  cases hb : ok args H with
  | false => rw [hb] at h; cases h
  | true => rw [hb] at h; exact ⟨_, _, h, hc args H hb⟩
 ·unfold ansM
  exact .bif _ (.one _ _ fun R k => rfl) (.no fun R k => rfl)
section
variable {α : Type} [Inhabited α]
noncomputable def okY (enc : α → List AV × Hp) (x : List AV) (H : Hp) : Bool := @decide (∃ a, Asle x (enc a).1 ∧ Hle H (enc a).2) (Classical.propDecidable _)
noncomputable def theY (enc : α → List AV × Hp) (x : List AV) (H : Hp) : α := @dite _ (∃ a, Asle x (enc a).1 ∧ Hle H (enc a).2) (Classical.propDecidable _) (fun h => Classical.choose h) (fun _ => default)
omit [Inhabited α] in
theorem okY_iff {enc : α → List AV × Hp} {x : List AV} {H : Hp} : okY enc x H = true ↔ ∃ a, Asle x (enc a).1 ∧ Hle H (enc a).2 := by unfold okY; simp
theorem theY_le {enc : α → List AV × Hp} {x : List AV} {H : Hp} (h : okY enc x H = true) : Asle x (enc (theY enc x H)).1 ∧ Hle H (enc (theY enc x H)).2 := by
 have h' := okY_iff.1 h
 unfold theY
 rw [dif_pos h']
 exact Classical.choose_spec h'
def InjY (enc : α → List AV × Hp) : Prop := ∀ a b, Asle (enc a).1 (enc b).1 → Hle (enc a).2 (enc b).2 → a = b
noncomputable def okZ (enc : α → List AV × Hp) (c : α → Bool) (x : List AV) (H : Hp) : Bool := okY enc x H && c (theY enc x H)
omit [Inhabited α] in
theorem okY_enc {enc : α → List AV × Hp} (a : α) : okY enc (enc a).1 (enc a).2 = true := okY_iff.2 ⟨a, .refl _, .refl _⟩
theorem Adl {enc : α → List AV × Hp} (inj : InjY enc) (a : α) : theY enc (enc a).1 (enc a).2 = a := (inj _ _ (theY_le (okY_enc a)).1 (theY_le (okY_enc a)).2).symm
theorem AeP {enc : α → List AV × Hp} (inj : InjY enc) {c : α → Bool} (a : α) (h : c a = true) : okZ enc c (enc a).1 (enc a).2 = true := by
 unfold okZ; rw [okY_enc, Adl inj, h]; rfl
theorem AnsS.m {P : Program} {f : FuncId} {enc : α → List AV × Hp} {c : α → Bool} {r : α → AV} {H' : α → Hp} (hc : ∀ a, c a = true → CX P f (enc a).1 (enc a).2 (r a) (H' a)) :
  AnsS P f (ansM (okZ enc c) (fun x H => r (theY enc x H)) fun x H => H' (theY enc x H)) := .mg fun x H h => by
 unfold okZ at h
 simp only [Bool.and_eq_true] at h
 exact (hc _ h.2).ge (theY_le h.1).1 (theY_le h.1).2
end
theorem Aeu {H K : Hp} (h : Hle H K) (n : Nat) {a b : Blk} (h1 : look H n = some a) (h2 : look K n = some b) : Ble a b := by
 have := h n
 rw [h1, h2] at this
 exact this
theorem ble_map {a b : Nat} {l l' : List (Value × Value)} (h : Ble (.map a l) (.map b l')) : l = l' := by
 have h : Blk.map a l = Blk.map b l' := h
 injection h
theorem AfA {a b : List C} {t u : TypeId} (h : Ble (.cells a t) (.cells b u)) : Csle a b := h.2
def AbH (l : List Int) : List (Value × Value) := l.reverse.map fun n => (.int .i64 n, .bool true)
theorem mapIn_app (l : List Int) (n : Int) : AbH (l ++ [n]) = (.int .i64 n, .bool true) :: AbH l := by simp [AbH]
theorem assoc_mapIn (l : List Int) (n : Int) : Abf (Aaz (AbH l) (.int .i64 n)) = l.any fun m => n == m := by
 have key : ∀ l : List Int, Abf (Aaz (l.map fun n => (Value.int .i64 n, Value.bool true)) (.int .i64 n)) = l.any fun m => n == m := by
  intro l
  induction l with
  | nil => rfl
  | cons m r ih =>
   simp only [List.map_cons, Aaz, Ado, List.any_cons]
   cases (n == m) with
   | true => rfl
   | false => simp only [cond_false, Bool.false_or]; exact ih
 unfold AbH
 rw [key, List.any_reverse]
theorem mapIn_inj {a b : List Int} (h : AbH a = AbH b) : a = b := by
 unfold AbH at h
 have h2 := (List.map_inj_right (f := fun n : Int => (Value.int .i64 n, Value.bool true)) (fun x y e => by simpa using e)).1 h
 exact List.reverse_inj.1 h2
end Go.Eb
namespace Go.Eb
open Go.RowKit
namespace It
end It
end Go.Eb
namespace Go.Eb
open Go.RowKit
def decB (n : Nat) : ByteArray := if h : n < 10 then ⟨#[UInt8.ofNat (48 + n)]⟩ else decB (n / 10) ++ decB (n % 10)
termination_by n
decreasing_by all_goals omega
theorem AaT {n : Nat} (h : n < 10) : decB n = ⟨#[UInt8.ofNat (48 + n)]⟩ := by rw [decB, dif_pos h]
theorem Aea {n : Nat} (h : ¬ n < 10) : decB n = decB (n / 10) ++ decB (n % 10) := by rw [decB, dif_neg h]
structure RLe {β : Type} (c : β → List D) (d0 : β) (n : Nat) (f : Nat → List D) (l : List β) : Prop where
 len : n = l.length
 le : ∀ i, i < n → DEs (f i) (c (l.getD i d0))
section
variable {β : Type} {c : β → List D} {d0 : β}
theorem RLe.de {n sz : Nat} {f : Nat → List D} {l : List β} (h : RLe c d0 n f l) : DE (.sl sz n f) (.sl sz l.length fun i => c (l.getD i d0)) := by
 obtain ⟨rfl, h1⟩ := h
 exact .sls h1
theorem RLe.nil (f : Nat → List D) : RLe c d0 0 f [] := ⟨rfl, fun i h => by omega⟩
theorem chunk_one (ds : List D) : Aat ds ds.length 0 = ds := by unfold Aat; simp
theorem RLe.one {sz : Nat} {ds : List D} {x : β} (hs : ds.length = sz) (h1 : DEs ds (c x)) : RLe c d0 1 (Aat ds sz) [x] := ⟨rfl, fun i hi => by
 obtain rfl : i = 0 := by omega
 rw [← hs, chunk_one]
 exact h1⟩
theorem RLe.app {n sz : Nat} {f : Nat → List D} {l : List β} {ds : List D} {x : β} (h : RLe c d0 n f l) (hs : ds.length = sz) (h1 : DEs ds (c x)) : RLe c d0 (n + 1) (appF n f (Aat ds sz)) (l ++ [x]) := by
 refine ⟨by rw [h.len]; simp, fun i hi => ?_⟩
 unfold appF
 rw [bltD]
 by_cases e : i < n
 ·rw [decide_eq_true e, Ahn (by rw [← h.len]; exact e)]; exact h.le i e
 ·obtain rfl : i = n := by omega
  rw [decide_eq_false e, Aho (by rw [← h.len]; omega), ← h.len, Nat.sub_self]
  exact (RLe.one (d0 := d0) hs h1).le 0 (by omega)
theorem app_loop {α ρ : Type} {L : Nat → Nat → (Nat → List D) → Int → ρ} {K : Nat → (Nat → List D) → ρ} {l : List α} {d : α} {ch : α → List D} {e : α → β} {sz : Nat}
  (hst : ∀ (m k n : Nat) (f : Nat → List D), k < l.length → n ≤ 5000 → L (m + 1) n f k = L m (n + 1) (appF n f (Aat (ch (l.getD k d)) sz)) ((k + 1 : Nat) : Int))
  (hend : ∀ (m n : Nat) (f : Nat → List D), L (m + 1) n f (l.length : Int) = K n f) (hs : ∀ x, (ch x).length = sz) (hch : ∀ k, k < l.length → DEs (ch (l.getD k d)) (c (e (l.getD k d)))) :
  ∀ (m k n : Nat) (f : Nat → List D) (bef : List β), k ≤ l.length → l.length - k < m → n + (l.length - k) ≤ 5000 → RLe c d0 n f bef →
   ∃ f', RLe c d0 (n + (l.length - k)) f' (bef ++ (l.drop k).map e) ∧ L m n f k = K (n + (l.length - k)) f' := by
 intro m
 induction m with
 | zero => intro k n f bef _ h; omega
 | succ m ih =>
  intro k n f bef hk hm hn hr
  by_cases hlt : k < l.length
  ·rw [hst m k n f hlt (by omega)]
   obtain ⟨f', h1, h2⟩ := ih (k + 1) (n + 1) _ (bef ++ [e (l.getD k d)]) (by omega) (by omega) (by omega) (hr.app (hs _) (hch k hlt))
   have e1 : n + 1 + (l.length - (k + 1)) = n + (l.length - k) := by omega
   rw [e1] at h1 h2
   refine ⟨f', ?_, h2⟩
   rw [Aar (d := d) hlt]
   simpa using h1
  ·obtain rfl : k = l.length := by omega
   rw [hend]
   refine ⟨f, ?_, by rw [Nat.sub_self, Nat.add_zero]⟩
   simpa using hr
end
end Go.Eb
namespace Go.Eb
open Go.RowKit
def decI (n : Int) : ByteArray := bif decide (n < 0) then (⟨#[45]⟩ : ByteArray) ++ decB n.natAbs else decB n.toNat
end Go.Eb
namespace Go.Eb
open Go.RowKit
abbrev isT (a b : ByteArray) : Bool := a.toList == b.toList
end Go.Eb
namespace Go.Eb
open Go.RowKit
end Go.Eb
namespace Go.Eb
open Go.RowKit
def sgTrip : ByteArray := ⟨#[116, 114, 105, 112]⟩
def sgLine : List ByteArray := [⟨#[116, 114, 105, 112]⟩, ⟨#[99, 108, 111, 115, 101]⟩, ⟨#[102, 97, 105, 108]⟩, ⟨#[115, 101, 110, 100]⟩, ⟨#[116, 114, 97, 110, 115, 102, 101, 114]⟩, ⟨#[122, 111, 110, 101, 49]⟩, ⟨#[122, 111, 110, 101, 50]⟩, ⟨#[122, 111, 110, 101, 51]⟩, ⟨#[116, 105, 109, 101]⟩, ⟨#[115, 116, 97, 114, 116, 101, 100]⟩]
def sgSrc : List ByteArray := [⟨#[116, 114, 105, 112]⟩, ⟨#[99, 108, 111, 115, 101]⟩, ⟨#[102, 97, 105, 108]⟩, ⟨#[116, 105, 109, 101]⟩, ⟨#[115, 116, 97, 114, 116, 101, 100]⟩, ⟨#[117, 110, 100, 101, 114]⟩, ⟨#[111, 118, 101, 114]⟩]
def sgDig : List ByteArray := [⟨#[48]⟩, ⟨#[49]⟩, ⟨#[50]⟩, ⟨#[51]⟩, ⟨#[52]⟩, ⟨#[53]⟩, ⟨#[54]⟩, ⟨#[55]⟩, ⟨#[56]⟩, ⟨#[57]⟩, ⟨#[49, 48]⟩, ⟨#[49, 49]⟩, ⟨#[49, 50]⟩, ⟨#[49, 51]⟩, ⟨#[49, 52]⟩, ⟨#[49, 53]⟩]
def sgBus : List ByteArray := (List.range 16).map fun i => sgTrip ++ sgDig.getD i e0
def Abt (k : Int) : List ByteArray := bif k == 1 then sgLine else bif k == 2 || k == 3 then sgSrc else bif k == 4 then sgBus else []
def outS (r : SRel) : List ByteArray := Abt r.kind ++ r.rules.map SRule.name
def inS (r : SRel) : List ByteArray := r.subs.map SSub.loc
def repS (seen : List ByteArray) : List ByteArray → Bool
 | [] => false
 | x :: t => inB seen x || repS (seen ++ [x]) t
def Acz (known seen : List ByteArray) : List ByteArray → Int
 | [] => 0
 | x :: t => bif !inB known x then 9 else bif inB seen x then 8 else Acz known (seen ++ [x]) t
def AbE (known : List ByteArray) : List SSet → Int
 | [] => 0
 | x :: t => bif Acz known [] x.sigs != 0 then Acz known [] x.sigs else AbE known t
def Aaw (r : SRel) (n : ByteArray) : Int := idxP (fun s : SSet => isT s.name n) 0 r.sets
def AcD (r : SRel) : List SPub → Int
 | [] => 0
 | x :: t => bif decide (Aaw r x.set < 0) then 9 else AcD r t
def AcE (r : SRel) : Int := bif repS [] (outS r ++ inS r) then 8 else bif AbE (outS r) r.sets != 0 then AbE (outS r) r.sets else AcD r r.pubs
structure Plc where
 rel : Int
 set : Int
 item : Int
 err : Int
def Abs (rels : List SRel) (n : ByteArray) : Int := idxP (fun r : SRel => isT r.name n) 0 rels
def AaX (l : List ByteArray) (n : ByteArray) : Int := idxP (fun x : ByteArray => isT x n) 0 l
def findC (r : SRel) (dev : Int) (x : SSub) : Plc :=
 bif decide (Aaw r x.set < 0) then ⟨0, 0, 0, 9⟩ else bif !(r.pubs.any fun p => isT p.set x.set) then ⟨0, 0, 0, 11⟩ else
  bif decide (AaX (r.sets.getD (Aaw r x.set).toNat set0).sigs x.sig < 0) then ⟨0, 0, 0, 9⟩ else ⟨dev, Aaw r x.set, AaX (r.sets.getD (Aaw r x.set).toNat set0).sigs x.sig, 0⟩
def AdW (rels : List SRel) (of dev : Int) (x : SSub) : Plc :=
 bif decide (dev < 0) then ⟨0, 0, 0, 9⟩ else bif dev == of then ⟨0, 0, 0, 12⟩ else findC (rels.getD dev.toNat rel0) dev x
def Abd (rels : List SRel) (of : Int) (x : SSub) : Plc := AdW rels of (Abs rels x.dev) x
def Acx (rels : List SRel) (of : Int) : List SSub → Int
 | [] => 0
 | x :: t => bif (Abd rels of x).err != 0 then (Abd rels of x).err else Acx rels of t
def AcB (rels : List SRel) (i : Int) (r : SRel) : Int := bif AcE r != 0 then AcE r else Acx rels i r.subs
def AbR (rels : List SRel) (i : Nat) : List SRel → Int × Int
 | [] => (0, 0)
 | r :: t => bif AcB rels i r != 0 then ((i : Int), AcB rels i r) else AbR rels (i + 1) t
structure Pbl where
 rel : Int
 set : Int
 fst : Int
 max : Int
 sigs : List Int
def AaS (i : Nat) (r : SRel) (p : SPub) : Pbl := ⟨i, Aaw r p.set, p.fst, p.max, (r.sets.getD (Aaw r p.set).toNat set0).sigs.map (AaX (outS r))⟩
def AaU (i : Nat) (r : SRel) : List Pbl := r.pubs.map (AaS i r)
def pbls (i : Nat) : List SRel → List Pbl
 | [] => []
 | r :: t => AaU i r ++ pbls (i + 1) t
structure Dev where
 outs : List ByteArray
 sends : List Int
 ins : List (Int × Int)
def pblIx (l : List Pbl) (r s : Int) : Int := idxP (fun p : Pbl => p.rel == r && p.set == s) 0 l
def devOf (rels : List SRel) (all : List Pbl) (n i : Nat) (r : SRel) : Dev :=
 ⟨outS r, (List.range r.pubs.length).map fun k => ((n + k : Nat) : Int), r.subs.map fun x => (pblIx all (Abd rels i x).rel (Abd rels i x).set, (Abd rels i x).item)⟩
def devs (rels : List SRel) (all : List Pbl) (n i : Nat) : List SRel → List Dev
 | [] => []
 | r :: t => devOf rels all n i r :: devs rels all (n + r.pubs.length) (i + 1) t
structure SCfg where
 sta : SSta
 rels : List SRel
instance : Inhabited SCfg := ⟨⟨default, []⟩⟩
def cfgC (c : SCfg) : List D := staC c.sta ++ [AbF c.rels]
abbrev aCfg (c : SCfg) : AV := .agg ((cfgC c).map .d)
theorem cfgC_inj (c k : SCfg) (h : DEs (cfgC c) (cfgC k)) : c = k := by
 have hs : DEs (staC c.sta) (staC k.sta) := ⟨rfl, fun j d e hd he => by
  have hj : j < 5 := (List.getElem?_eq_some_iff.1 hd).1
  refine h.2 j d e ?_ ?_
  ·unfold cfgC; rw [List.getElem?_append_left hj]; exact hd
  ·unfold cfgC; rw [List.getElem?_append_left hj]; exact he⟩
 have h1 := staC_inj _ _ hs
 have h2 := Aax (sz := 53) (d0 := rel0) Afd _ _ (h.2 5 _ _ rfl rfl)
 cases c; cases k
 cases h1; cases h2
 rfl
def nC (n : Int) : List D := [dI n]
abbrev nsD (l : List Int) : D := Aab 1 nC 0 l
def inC (p : Int × Int) : List D := [dI p.1, dI p.2]
abbrev insD (l : List (Int × Int)) : D := Aab 2 inC (0, 0) l
def pbl0 : Pbl := ⟨0, 0, 0, 0, []⟩
def dev0 : Dev := ⟨[], [], []⟩
def pblC (p : Pbl) : List D := [dI p.rel, dI p.set, dI p.fst, dI p.max, nsD p.sigs]
def devC (d : Dev) : List D := [Aaa d.outs, nsD d.sends, insD d.ins]
abbrev pblsD (l : List Pbl) : D := Aab 5 pblC pbl0 l
abbrev devsD (l : List Dev) : D := Aab 3 devC dev0 l
end Go.Eb
namespace Go.Eb
open Go.RowKit
theorem inB_iff (l : List ByteArray) (s : ByteArray) : inB l s = true ↔ s ∈ l := by
 unfold inB
 rw [List.any_eq_true]
 constructor
 ·rintro ⟨t, ht, h⟩
  have : s = t := by
   cases s; cases t
   simp only [beq_iff_eq] at h
   simp only [ByteArray.mk.injEq]
   exact Array.toList_inj.1 h
  rw [this]; exact ht
 ·exact fun h => ⟨s, h, by simp⟩
def AaG (s : SSta) : List ByteArray := s.buses ++ (s.lines.map SLine.name ++ (s.srcs.map SSrc.name ++ s.bays.map SBay.name))
end Go.Eb
namespace Go.Eb
open Go.RowKit
theorem AcH {a b : ByteArray} : isT a b = true ↔ a = b := by
 show (a.toList == b.toList) = true ↔ _
 rw [strEq, same_iff]
theorem isT_self (a : ByteArray) : isT a a = true := AcH.2 rfl
theorem isT_symm (a b : ByteArray) : isT a b = isT b a := by
 rw [Bool.eq_iff_iff, AcH, AcH]
 exact ⟨fun h => h.symm, fun h => h.symm⟩
theorem Adg {α : Type} (p : α → Bool) (d : α) : ∀ (l : List α) (i : Nat), (idxP p i l = -1 ∧ ∀ x ∈ l, p x = false) ∨ ∃ k, k < l.length ∧ idxP p i l = ((i + k : Nat) : Int) ∧ p (l.getD k d) = true ∧ ∀ j, j < k → p (l.getD j d) = false
 | [], i => .inl ⟨rfl, fun x h => by cases h⟩
 | x :: t, i => by
  cases hp : p x with
  | true => exact .inr ⟨0, by simp, by simp [idxP, hp], by simpa using hp, fun j h => by omega⟩
  | false =>
   rcases Adg p d t (i + 1) with ⟨h1, h2⟩ | ⟨k, hk, h1, h2, h3⟩
   ·refine .inl ⟨by simp [idxP, hp, h1], fun y hy => ?_⟩
    rcases List.mem_cons.1 hy with rfl | hy
    ·exact hp
    ·exact h2 y hy
   ·refine .inr ⟨k + 1, by simpa using hk, ?_, by simpa using h2, fun j hj => ?_⟩
    ·simp only [idxP, hp, cond_false, h1]
     congr 1; omega
    ·cases j with
     | zero => simpa using hp
     | succ j => simpa using h3 j (by omega)
theorem Aco {α : Type} {p : α → Bool} (d : α) {l : List α} (h : 0 ≤ idxP p 0 l) : ∃ k, k < l.length ∧ idxP p 0 l = (k : Int) ∧ p (l.getD k d) = true ∧ ∀ j, j < k → p (l.getD j d) = false := by
 rcases Adg p d l 0 with ⟨h1, _⟩ | ⟨k, hk, h1, h2, h3⟩
 ·rw [h1] at h; exact absurd h (by decide)
 ·exact ⟨k, hk, by rw [h1]; congr 1; omega, h2, h3⟩
theorem idxP_eq {α : Type} (p : α → Bool) (d : α) {l : List α} {k : Nat} (hk : k < l.length) (h : p (l.getD k d) = true) (hf : ∀ j, j < k → p (l.getD j d) = false) : idxP p 0 l = (k : Int) := by
 rcases Adg p d l 0 with ⟨_, h2⟩ | ⟨j, hj, h1, h2, h3⟩
 ·have : l.getD k d ∈ l := by simp [List.getD, hk]
  rw [h2 _ this] at h; cases h
 ·rw [h1]
  have : j = k := by
   rcases Nat.lt_trichotomy j k with h' | h' | h'
   ·rw [hf j h'] at h2; cases h2
   ·exact h'
   ·rw [h3 k h'] at h; cases h
  rw [this]; congr 1; omega
theorem AaP {α : Type} {l : List α} {k : Nat} (d : α) (h : k < l.length) : l.getD k d ∈ l := by simp [List.getD, h]
def devA (acc : List (Value × Value)) (i : Nat) : List SRel → List (Value × Value)
 | [] => acc
 | r :: t => devA (bif !(Aaz acc (.string r.name)).isSome then (.string r.name, .int .i64 i) :: acc else acc) (i + 1) t
theorem sameK_s (a b : ByteArray) : Ado (.string a) (.string b) = isT a b := by
 show (a.data.toList == b.data.toList) = (a.toList == b.toList)
 rw [ByteArray.toList_eq, ByteArray.toList_eq]
theorem assoc_devA (n : ByteArray) : ∀ (l : List SRel) (acc : List (Value × Value)) (i : Nat), Aaz (devA acc i l) (.string n) = match Aaz acc (.string n) with
  | some v => some v
  | none => bif decide (idxP (fun r : SRel => isT r.name n) i l < 0) then none else some (.int .i64 (idxP (fun r : SRel => isT r.name n) i l))
 | [], acc, i => by
  show Aaz acc (.string n) = _
  cases Aaz acc (.string n) <;> rfl
 | r :: t, acc, i => by
  show Aaz (devA _ (i + 1) t) (.string n) = _
  rw [assoc_devA n t]
  cases hn : isT r.name n with
  | true =>
   have e : r.name = n := AcH.1 hn
   simp only [idxP, hn, cond_true, e]
   cases h : Aaz acc (.string n) with
   | some v => simp [h]
   | none =>
    simp only [Option.isSome_none, Bool.not_false, cond_true, Aaz, sameK_s, isT_self]
    rw [decide_eq_false (by omega)]; rfl
  | false =>
   have hn' : isT n r.name = false := by rw [isT_symm]; exact hn
   simp only [idxP, hn, cond_false]
   cases h2 : (Aaz acc (.string r.name)).isSome with
   | true => rfl
   | false => simp only [Bool.not_false, cond_true, Aaz, sameK_s, hn', cond_false]
theorem assoc_dev (l : List SRel) (n : ByteArray) : Aaz (devA [] 0 l) (.string n) = bif decide (Abs l n < 0) then none else some (.int .i64 (Abs l n)) := assoc_devA n l [] 0
theorem sig_all (rels : List SRel) : ∀ (l : List SRel) (i : Nat), (AbR rels i l).2 = 0 → ∀ k, k < l.length → AcB rels ((i + k : Nat) : Int) (l.getD k rel0) = 0
 | [], i, _, k, h => by simp at h
 | r :: t, i, h, k, hk => by
  unfold AbR at h
  cases he : (AcB rels i r != 0) with
  | true => rw [he] at h; have h : AcB rels i r = 0 := h; rw [h] at he; cases he
  | false =>
   have e0 : AcB rels i r = 0 := by simpa using he
   rw [he] at h
   cases k with
   | zero => exact e0
   | succ k =>
    have := sig_all rels t (i + 1) h k (by simpa using hk)
    rw [show i + (k + 1) = i + 1 + k by omega]
    exact this
theorem AeO {rels : List SRel} {i : Int} {r : SRel} (h : AcB rels i r = 0) : AcE r = 0 ∧ Acx rels i r.subs = 0 := by
 unfold AcB at h
 cases he : (AcE r != 0) with
 | true => rw [he] at h; have h : AcE r = 0 := h; rw [h] at he; cases he
 | false => rw [he] at h; exact ⟨by simpa using he, h⟩
theorem subs_zero {rels : List SRel} {i : Int} : ∀ {l : List SSub}, Acx rels i l = 0 → ∀ x ∈ l, (Abd rels i x).err = 0
 | [], _, x, h => by cases h
 | y :: t, h, x, hx => by
  unfold Acx at h
  cases he : ((Abd rels i y).err != 0) with
  | true => rw [he] at h; have h : (Abd rels i y).err = 0 := h; rw [h] at he; cases he
  | false =>
   rw [he] at h
   rcases List.mem_cons.1 hx with rfl | hx
   ·simpa using he
   ·exact subs_zero (l := t) h x hx
theorem own_zero {r : SRel} (h : AcE r = 0) : AbE (outS r) r.sets = 0 ∧ AcD r r.pubs = 0 := by
 unfold AcE at h
 cases h1 : repS [] (outS r ++ inS r) with
 | true => rw [h1] at h; cases h
 | false =>
  rw [h1] at h
  cases he : (AbE (outS r) r.sets != 0) with
  | true => rw [he] at h; have h : AbE (outS r) r.sets = 0 := h; rw [h] at he; cases he
  | false => rw [he] at h; exact ⟨by simpa using he, h⟩
theorem AgO {K : List ByteArray} : ∀ {l seen : List ByteArray}, Acz K seen l = 0 → ∀ x ∈ l, inB K x = true
 | [], _, _, x, h => by cases h
 | y :: t, seen, h, x, hx => by
  unfold Acz at h
  cases h1 : inB K y with
  | false => rw [h1] at h; cases h
  | true =>
   rw [h1] at h
   cases h2 : inB seen y with
   | true => rw [h2] at h; cases h
   | false =>
    rw [h2] at h
    rcases List.mem_cons.1 hx with rfl | hx
    ·exact h1
    ·exact AgO (l := t) h x hx
theorem sets_zero {K : List ByteArray} : ∀ {l : List SSet}, AbE K l = 0 → ∀ s ∈ l, ∀ x ∈ s.sigs, inB K x = true
 | [], _, x, h => by cases h
 | y :: t, h, s, hs => by
  unfold AbE at h
  cases he : (Acz K [] y.sigs != 0) with
  | true => rw [he] at h; have h : Acz K [] y.sigs = 0 := h; rw [h] at he; cases he
  | false =>
   rw [he] at h
   rcases List.mem_cons.1 hs with rfl | hs
   ·exact AgO (by simpa using he)
   ·exact sets_zero (l := t) h s hs
theorem pubs_zero {r : SRel} : ∀ {l : List SPub}, AcD r l = 0 → ∀ p ∈ l, 0 ≤ Aaw r p.set
 | [], _, x, h => by cases h
 | y :: t, h, p, hp => by
  unfold AcD at h
  cases he : decide (Aaw r y.set < 0) with
  | true => rw [he] at h; cases h
  | false =>
   rw [he] at h
   rcases List.mem_cons.1 hp with rfl | hp
   ·have := of_decide_eq_false he; omega
   ·exact pubs_zero (l := t) h p hp
structure Found (rels : List SRel) (of : Int) (x : SSub) (d st it : Nat) : Prop where
 hd : d < rels.length
 hdi : Abs rels x.dev = d
 hdn : (rels.getD d rel0).name = x.dev
 hs : st < (rels.getD d rel0).sets.length
 hsi : Aaw (rels.getD d rel0) x.set = st
 hsn : ((rels.getD d rel0).sets.getD st set0).name = x.set
 hp : ∃ p ∈ (rels.getD d rel0).pubs, p.set = x.set
 hi : it < ((rels.getD d rel0).sets.getD st set0).sigs.length
 hin : ((rels.getD d rel0).sets.getD st set0).sigs.getD it e0 = x.sig
 he : Abd rels of x = ⟨d, st, it, 0⟩
theorem findC_zero {r : SRel} {dev : Int} {x : SSub} (h : (findC r dev x).err = 0) : ∃ st it : Nat, st < r.sets.length ∧ Aaw r x.set = st ∧ (r.sets.getD st set0).name = x.set ∧ (∃ p ∈ r.pubs, p.set = x.set) ∧
  it < (r.sets.getD st set0).sigs.length ∧ (r.sets.getD st set0).sigs.getD it e0 = x.sig ∧ findC r dev x = ⟨dev, st, it, 0⟩ := by
 unfold findC at h ⊢
 cases h3 : decide (Aaw r x.set < 0) with
 | true => rw [h3] at h; cases h
 | false =>
  rw [h3] at h
  have h3' : 0 ≤ Aaw r x.set := by have := of_decide_eq_false h3; omega
  obtain ⟨st, hs, hsi, hsn, _⟩ := Aco set0 h3'
  have hsi : Aaw r x.set = st := hsi
  have e2 : r.sets.getD (Aaw r x.set).toNat set0 = r.sets.getD st set0 := by rw [hsi]; rfl
  rw [e2] at h ⊢
  cases h4 : (r.pubs.any fun p => isT p.set x.set) with
  | false => rw [h4] at h; cases h
  | true =>
   rw [h4] at h
   cases h5 : decide (AaX (r.sets.getD st set0).sigs x.sig < 0) with
   | true => rw [h5] at h; cases h
   | false =>
    have h5' : 0 ≤ AaX (r.sets.getD st set0).sigs x.sig := by have := of_decide_eq_false h5; omega
    obtain ⟨it, hi, hii, hin, _⟩ := Aco e0 h5'
    have hii : AaX (r.sets.getD st set0).sigs x.sig = it := hii
    obtain ⟨p, hp, hpe⟩ := List.any_eq_true.1 h4
    exact ⟨st, it, hs, hsi, AcH.1 hsn, ⟨p, hp, AcH.1 hpe⟩, hi, AcH.1 hin, by rw [hsi, hii]; rfl⟩
theorem find_zero {rels : List SRel} {of : Int} {x : SSub} (h : (Abd rels of x).err = 0) : ∃ d st it, Found rels of x d st it := by
 rw [show Abd rels of x = AdW rels of (Abs rels x.dev) x from rfl] at h
 have hU : Abd rels of x = AdW rels of (Abs rels x.dev) x := rfl
 unfold AdW at h hU
 cases h1 : decide (Abs rels x.dev < 0) with
 | true => rw [h1] at h; cases h
 | false =>
  rw [h1] at h hU
  have h1' : 0 ≤ Abs rels x.dev := by have := of_decide_eq_false h1; omega
  obtain ⟨d, hd, hdi, hdn, _⟩ := Aco rel0 h1'
  have hdi : Abs rels x.dev = d := hdi
  rw [hdi] at h hU
  cases h2 : ((d : Int) == of) with
  | true => rw [h2] at h; cases h
  | false =>
   rw [h2] at h hU
   obtain ⟨st, it, a1, a2, a3, a4, a5, a6, a7⟩ := findC_zero h
   exact ⟨d, st, it, hd, hdi, AcH.1 hdn, a1, a2, a3, a4, a5, a6, hU.trans a7⟩
def offs (l : List SRel) : Nat → Nat
 | 0 => 0
 | i + 1 => offs l i + (l.getD i rel0).pubs.length
theorem Ahb (r : SRel) (t : List SRel) : ∀ k, offs (r :: t) (k + 1) = r.pubs.length + offs t k
 | 0 => by simp [offs]
 | k + 1 => by
  have := Ahb r t k
  rw [show offs (r :: t) (k + 1 + 1) = offs (r :: t) (k + 1) + ((r :: t).getD (k + 1) rel0).pubs.length from rfl, this]
  show _ = r.pubs.length + (offs t k + (t.getD k rel0).pubs.length)
  simp only [List.getD_cons_succ]
  omega
theorem pbls_at : ∀ (l : List SRel) (i k j : Nat), k < l.length → j < (l.getD k rel0).pubs.length →
  offs l k + j < (pbls i l).length ∧ (pbls i l).getD (offs l k + j) pbl0 = AaS (i + k) (l.getD k rel0) ((l.getD k rel0).pubs.getD j pub0)
 | [], i, k, j, h, _ => by simp at h
 | r :: t, i, 0, j, _, hj => by
  have hj : j < r.pubs.length := hj
  have hl : j < (AaU i r).length := by simpa [AaU] using hj
  show 0 + j < (AaU i r ++ pbls (i + 1) t).length ∧ (AaU i r ++ pbls (i + 1) t).getD (0 + j) pbl0 = AaS (i + 0) r (r.pubs.getD j pub0)
  rw [Nat.zero_add, List.length_append]
  refine ⟨by omega, ?_⟩
  rw [List.getD_eq_getElem?_getD, List.getElem?_append_left hl]
  simp [AaU, hj]
 | r :: t, i, k + 1, j, h, hj => by
  obtain ⟨h1, h2⟩ := pbls_at t (i + 1) k j (by simpa using h) (by simpa using hj)
  have hl : (AaU i r).length = r.pubs.length := by simp [AaU]
  rw [Ahb]
  show _ < (AaU i r ++ pbls (i + 1) t).length ∧ (AaU i r ++ pbls (i + 1) t).getD _ pbl0 = _
  rw [List.length_append, hl]
  refine ⟨by omega, ?_⟩
  rw [List.getD_eq_getElem?_getD, List.getElem?_append_right (by rw [hl]; omega), hl, show r.pubs.length + offs t k + j - r.pubs.length = offs t k + j by omega, ← List.getD_eq_getElem?_getD, h2]
  rw [show i + 1 + k = i + (k + 1) by omega]
  simp only [List.getD_cons_succ]
theorem Afv (rels : List SRel) (all : List Pbl) : ∀ (l : List SRel) (n i : Nat), (devs rels all n i l).length = l.length
 | [], n, i => rfl
 | r :: t, n, i => by simp [devs, Afv rels all t]
theorem Ahw (rels : List SRel) (all : List Pbl) : ∀ (l : List SRel) (n i k : Nat), k < l.length → (devs rels all n i l).getD k dev0 = devOf rels all (n + offs l k) (i + k) (l.getD k rel0)
 | [], n, i, k, h => by simp at h
 | r :: t, n, i, 0, h => rfl
 | r :: t, n, i, k + 1, h => by
  have := Ahw rels all t (n + r.pubs.length) (i + 1) k (by simpa using h)
  show (devOf rels all n i r :: devs rels all (n + r.pubs.length) (i + 1) t).getD (k + 1) dev0 = _
  rw [List.getD_cons_succ, List.getD_cons_succ, this, Ahb]
  rw [show n + r.pubs.length + offs t k = n + (r.pubs.length + offs t k) by omega, show i + 1 + k = i + (k + 1) by omega]
end Go.Eb
namespace Go.Eb
open Go.RowKit
theorem Adt {α : Type} {valid : α → Bool} {key : α → ByteArray} {rest : α → Int} : ∀ {l : List α} {seen : List ByteArray}, AbI valid key rest seen l = 0 → (l.map key).Nodup ∧ ∀ x ∈ l, key x ∉ seen
 | [], seen, _ => ⟨by simp, fun x h => by cases h⟩
 | x :: t, seen, h => by
  unfold AbI at h
  cases h1 : valid x with
  | false => rw [h1] at h; cases h
  | true =>
   rw [h1] at h
   cases h2 : inB seen (key x) with
   | true => rw [h2] at h; cases h
   | false =>
    rw [h2] at h
    cases h3 : (rest x != 0) with
    | true => rw [h3] at h; have h : rest x = 0 := h; rw [h] at h3; cases h3
    | false =>
     rw [h3] at h
     obtain ⟨a, b⟩ := Adt (l := t) h
     have hx : key x ∉ seen := fun hm => by rw [(inB_iff _ _).2 hm] at h2; cases h2
     refine ⟨?_, fun y hy => ?_⟩
     ·rw [List.map_cons, List.nodup_cons]
      refine ⟨fun hm => ?_, a⟩
      obtain ⟨y, hy, e⟩ := List.mem_map.1 hm
      exact b y hy (by simp [e])
     ·rcases List.mem_cons.1 hy with rfl | hy
      ·exact hx
      ·exact fun hm => b y hy (by simp [hm])
structure Uq (r : SRel) : Prop where
 sets : (r.sets.map SSet.name).Nodup
 pubs : (r.pubs.map SPub.set).Nodup
theorem setIx_inj {r : SRel} {a b : ByteArray} (h : 0 ≤ Aaw r a) (e : Aaw r a = Aaw r b) : a = b := by
 obtain ⟨k, _, h1, h2, _⟩ := Aco set0 h
 obtain ⟨j, _, h3, h4, _⟩ := Aco (p := fun s : SSet => isT s.name b) set0 (l := r.sets) (show 0 ≤ Aaw r b by rw [← e]; exact h)
 have h1 : Aaw r a = k := h1
 have h3 : Aaw r b = j := h3
 have : k = j := by omega
 subst this
 rw [← AcH.1 h2, ← AcH.1 h4]
def pkey (p : Pbl) : Int × Int := (p.rel, p.set)
theorem pubs_nodup (i : Int) (r : SRel) : ∀ (l : List SPub), (l.map SPub.set).Nodup → (∀ p ∈ l, 0 ≤ Aaw r p.set) → (l.map fun p => (i, Aaw r p.set)).Nodup
 | [], _, _ => by simp
 | p :: t, hn, h0 => by
  rw [List.map_cons, List.nodup_cons] at hn ⊢
  refine ⟨fun hm => ?_, pubs_nodup i r t hn.2 fun q hq => h0 q (by simp [hq])⟩
  obtain ⟨q, hq, e⟩ := List.mem_map.1 hm
  have e2 : Aaw r q.set = Aaw r p.set := (Prod.mk.inj e).2
  exact hn.1 (List.mem_map.2 ⟨q, hq, setIx_inj (h0 q (by simp [hq])) e2⟩)
theorem AfK : ∀ (l : List SRel) (i : Nat), (∀ r ∈ l, Uq r ∧ ∀ p ∈ r.pubs, 0 ≤ Aaw r p.set) → ((pbls i l).map pkey).Nodup ∧ ∀ p ∈ pbls i l, (i : Int) ≤ p.rel
 | [], i, _ => ⟨by simp [pbls], fun p h => by cases h⟩
 | r :: t, i, h => by
  obtain ⟨a, b⟩ := AfK t (i + 1) fun q hq => h q (by simp [hq])
  obtain ⟨hu, h0⟩ := h r (by simp)
  have e : (AaU i r).map pkey = r.pubs.map fun p => ((i : Int), Aaw r p.set) := by
   unfold AaU
   rw [List.map_map]
   rfl
  have e1 : ∀ p ∈ AaU i r, p.rel = (i : Int) := fun p hp => by
   unfold AaU at hp
   obtain ⟨q, _, rfl⟩ := List.mem_map.1 hp
   rfl
  show ((AaU i r ++ pbls (i + 1) t).map pkey).Nodup ∧ ∀ p ∈ AaU i r ++ pbls (i + 1) t, (i : Int) ≤ p.rel
  refine ⟨?_, fun p hp => ?_⟩
  ·rw [List.map_append, List.nodup_append]
   refine ⟨by rw [e]; exact pubs_nodup i r r.pubs hu.pubs h0, a, fun x hx y hy hxy => ?_⟩
   subst hxy
   obtain ⟨p, hp, rfl⟩ := List.mem_map.1 hx
   obtain ⟨q, hq, e2⟩ := List.mem_map.1 hy
   have h3 : q.rel = p.rel := (Prod.mk.inj e2).1
   have := b q hq
   rw [h3, e1 p hp] at this
   omega
  ·rcases List.mem_append.1 hp with hp | hp
   ·rw [e1 p hp]; exact Int.le_refl _
   ·have := b p hp; omega
theorem nodup_ne {α : Type} {l : List α} (h : l.Nodup) {i j : Nat} (hi : i < l.length) (hj : j < l.length) (hne : i ≠ j) (d : α) : l.getD i d ≠ l.getD j d := by
 have h' := List.pairwise_iff_getElem.1 h
 have ei : l.getD i d = l[i] := by simp [List.getD, hi]
 have ej : l.getD j d = l[j] := by simp [List.getD, hj]
 rw [ei, ej]
 rcases Nat.lt_or_gt_of_ne hne with h1 | h1
 ·exact h' i j hi hj h1
 ·exact (h' j i hj hi h1).symm
theorem pblIx_at {all : List Pbl} (hn : (all.map pkey).Nodup) {n : Nat} (h : n < all.length) : pblIx all (all.getD n pbl0).rel (all.getD n pbl0).set = n := by
 refine idxP_eq _ pbl0 h (by simp) fun j hj => ?_
 have := nodup_ne hn (i := j) (j := n) (by simp; omega) (by simpa using h) (by omega) (pkey pbl0)
 have g : ∀ i, (all.map pkey).getD i (pkey pbl0) = pkey (all.getD i pbl0) := fun i => by simp [List.getD, List.getElem?_map]
 rw [g, g] at this
 cases h1 : ((all.getD j pbl0).rel == (all.getD n pbl0).rel) with
 | false => rfl
 | true =>
  cases h2 : ((all.getD j pbl0).set == (all.getD n pbl0).set) with
  | false => rfl
  | true => exact absurd (Prod.ext (eq_of_beq h1) (eq_of_beq h2)) this
def kPr (r s : Int) : Value := .agg #[.int .i64 r, .int .i64 s]
def AeE : List Pbl → List (Value × Value)
 | [] => []
 | p :: t => (kPr p.rel p.set, .int .i64 t.length) :: AeE t
def AaZ (ps : List Pbl) : List (Value × Value) := AeE ps.reverse
theorem Afj (ps : List Pbl) (p : Pbl) : AaZ (ps ++ [p]) = (kPr p.rel p.set, .int .i64 ps.length) :: AaZ ps := by
 unfold AaZ
 rw [List.reverse_append]
 simp [AeE]
theorem sameK_pr (a b c d : Int) : Ado (kPr a b) (kPr c d) = (a == c && b == d) := rfl
theorem sameK_ne {a b : Pbl} (h : pkey a ≠ pkey b) : Ado (kPr a.rel a.set) (kPr b.rel b.set) = false := by
 rw [sameK_pr]
 cases h1 : (a.rel == b.rel) with
 | false => rfl
 | true =>
  cases h2 : (a.set == b.set) with
  | false => rfl
  | true => exact absurd (Prod.ext (eq_of_beq h1) (eq_of_beq h2)) h
theorem assoc_prN : ∀ (q : List Pbl) (p : Pbl), pkey p ∉ q.map pkey → Aaz (AeE q) (kPr p.rel p.set) = none
 | [], _, _ => rfl
 | a :: t, p, h => by
  rw [List.map_cons, List.mem_cons, not_or] at h
  show (bif Ado _ _ then _ else _) = _
  rw [sameK_ne h.1]
  exact assoc_prN t p h.2
theorem assoc_prR : ∀ (q : List Pbl), (q.map pkey).Nodup → ∀ n, n < q.length → Aaz (AeE q) (kPr (q.getD n pbl0).rel (q.getD n pbl0).set) = some (.int .i64 ((q.length - 1 - n : Nat) : Int))
 | [], _, n, h => by simp at h
 | a :: t, hn, 0, _ => by
  show (bif Ado (kPr a.rel a.set) (kPr a.rel a.set) then _ else _) = _
  rw [sameK_pr]
  simp
 | a :: t, hn, n + 1, h => by
  rw [List.map_cons, List.nodup_cons] at hn
  have hlt : n < t.length := by simpa using h
  rw [List.getD_cons_succ]
  show (bif Ado _ _ then _ else _) = _
  rw [sameK_ne (fun e => hn.1 (by rw [← e]; exact List.mem_map.2 ⟨_, AaP pbl0 hlt, rfl⟩))]
  rw [cond_false, assoc_prR t hn.2 n hlt]
  congr 3
  simp; omega
theorem dlen_prR : ∀ (q : List Pbl), (q.map pkey).Nodup → dlen (AeE q) = q.length
 | [], _ => rfl
 | a :: t, hn => by
  rw [List.map_cons, List.nodup_cons] at hn
  show (match Aaz (AeE t) (kPr a.rel a.set) with | some _ => dlen (AeE t) | none => dlen (AeE t) + 1) = _
  rw [assoc_prN t a hn.1, dlen_prR t hn.2]
  rfl
theorem nodup_rev {α : Type} {l : List α} (h : l.Nodup) : l.reverse.Nodup := by
 unfold List.Nodup at h ⊢
 rw [List.pairwise_reverse]
 exact h.imp fun a => Ne.symm a
theorem dlen_pr {ps : List Pbl} (h : (ps.map pkey).Nodup) : dlen (AaZ ps) = ps.length := by
 unfold AaZ
 rw [dlen_prR _ (by rw [List.map_reverse]; exact nodup_rev h), List.length_reverse]
theorem assoc_pr {ps : List Pbl} (h : (ps.map pkey).Nodup) {n : Nat} (hn : n < ps.length) : Aaz (AaZ ps) (kPr (ps.getD n pbl0).rel (ps.getD n pbl0).set) = some (.int .i64 n) := by
 have := assoc_prR ps.reverse (by rw [List.map_reverse]; exact nodup_rev h) (ps.length - 1 - n) (by rw [List.length_reverse]; omega)
 have e : ps.reverse.getD (ps.length - 1 - n) pbl0 = ps.getD n pbl0 := by
  rw [List.getD_eq_getElem?_getD, List.getElem?_reverse (by omega), List.getD_eq_getElem?_getD]
  congr 2; omega
 rw [e, List.length_reverse] at this
 rw [show AaZ ps = AeE ps.reverse from rfl, this]
 congr 3; omega
theorem getD_map {α β : Type} (f : α → β) {l : List α} {i : Nat} (h : i < l.length) (d : β) (d' : α) : (l.map f).getD i d = f (l.getD i d') := by
 simp [List.getD, h]
structure InOk (rels : List SRel) (i : Int) (x : SSub) (n d it o : Nat) : Prop where
 hn : n < (pbls 0 rels).length
 hx : pblIx (pbls 0 rels) (Abd rels i x).rel (Abd rels i x).set = n
 hd : d < rels.length
 hr : ((pbls 0 rels).getD n pbl0).rel = d
 hs : ((pbls 0 rels).getD n pbl0).set = (Abd rels i x).set
 hf : (Abd rels i x).rel = d
 hnm : (rels.getD d rel0).name = x.dev
 hit : (Abd rels i x).item = it
 hil : it < ((pbls 0 rels).getD n pbl0).sigs.length
 ho : o < (outS (rels.getD d rel0)).length
 hso : ((pbls 0 rels).getD n pbl0).sigs.getD it 0 = o
 hon : (outS (rels.getD d rel0)).getD o e0 = x.sig
theorem uq_all {rels : List SRel} (h : (AbR rels 0 rels).2 = 0) (hu : ∀ r ∈ rels, Uq r) : ∀ r ∈ rels, Uq r ∧ ∀ p ∈ r.pubs, 0 ≤ Aaw r p.set := fun r hr => by
 obtain ⟨k, hk, rfl⟩ := List.getElem_of_mem hr
 have h1 := sig_all rels rels 0 h k hk
 have e : rels.getD k rel0 = rels[k] := by simp [List.getD, hk]
 rw [e] at h1
 exact ⟨hu _ hr, pubs_zero (own_zero (AeO h1).1).2⟩
theorem in_ok {rels : List SRel} (h : (AbR rels 0 rels).2 = 0) (hu : ∀ r ∈ rels, Uq r) {i : Nat} (hi : i < rels.length) {x : SSub} (hx : x ∈ (rels.getD i rel0).subs) : ∃ n d it o, InOk rels i x n d it o := by
 have h1 := sig_all rels rels 0 h i hi
 rw [Nat.zero_add] at h1
 obtain ⟨d, st, it, F⟩ := find_zero (subs_zero (AeO h1).2 x hx)
 have hN := (AfK rels 0 (uq_all h hu)).1
 have hd1 := sig_all rels rels 0 h d F.hd
 obtain ⟨p, hp, hps⟩ := F.hp
 obtain ⟨j, hj, hpj⟩ := List.getElem_of_mem hp
 have hpj' : (rels.getD d rel0).pubs.getD j pub0 = p := by
  rw [List.getD_eq_getElem?_getD, List.getElem?_eq_getElem hj, hpj]; rfl
 obtain ⟨g1, g2⟩ := pbls_at rels 0 d j F.hd hj
 rw [hpj', Nat.zero_add] at g2
 have e1 : ((pbls 0 rels).getD (offs rels d + j) pbl0).rel = d := by rw [g2]; rfl
 have e2 : ((pbls 0 rels).getD (offs rels d + j) pbl0).set = st := by
  rw [g2]
  show Aaw _ p.set = _
  rw [hps]; exact F.hsi
 have e3 : ((pbls 0 rels).getD (offs rels d + j) pbl0).sigs = ((rels.getD d rel0).sets.getD st set0).sigs.map (AaX (outS (rels.getD d rel0))) := by
  rw [g2]
  show ((rels.getD d rel0).sets.getD (Aaw (rels.getD d rel0) p.set).toNat set0).sigs.map _ = _
  rw [hps, F.hsi, Int.toNat_natCast]
 have hk : inB (outS (rels.getD d rel0)) x.sig = true := by
  have := sets_zero (own_zero (AeO hd1).1).1 _ (AaP set0 F.hs) _ (AaP e0 F.hi)
  rwa [F.hin] at this
 have h0 : 0 ≤ AaX (outS (rels.getD d rel0)) x.sig := by
  rcases Adg (fun y : ByteArray => isT y x.sig) e0 (outS (rels.getD d rel0)) 0 with ⟨_, h2⟩ | ⟨k, _, h2, _⟩
  ·have := h2 x.sig ((inB_iff _ _).1 hk)
   rw [isT_self] at this; cases this
  ·rw [show AaX (outS (rels.getD d rel0)) x.sig = _ from h2]; omega
 obtain ⟨o, ho, hoe, hon, _⟩ := Aco e0 h0
 refine ⟨offs rels d + j, d, it, o, g1, ?_, F.hd, e1, by rw [e2, F.he], by rw [F.he], F.hdn, by rw [F.he], ?_, ho, ?_, AcH.1 hon⟩
 ·have := pblIx_at hN g1
  rw [e1, e2] at this
  rw [F.he]; exact this
 ·rw [e3, List.length_map]; exact F.hi
 ·rw [e3]
  rw [getD_map _ F.hi 0 e0, F.hin]; exact hoe
end Go.Eb
namespace Go.Proofs.YtbpndheehcbldaaGreatDoor.st
open Go.RowKit Go.Eb
noncomputable def ann15 := AaE [(4, ⟨[0, 16, 17], []⟩)]
noncomputable def L15 (s : ByteArray) (g m : Nat) (i : Int) := LK Tryz.prog Orc.nil ann15 0 g Tryz.f65 4 m ⟨frm [(0, vS s), (16, vI s.size), (17, vI i)] 0 Tryz.f65.ntmps, [], 0⟩
theorem ev15 (s : ByteArray) (g : Nat) : Aai Tryz.prog Orc.nil ann15 g Tryz.f65 (Aad Tryz.f65) [vS s] [] =
 (bif (↑(ByteArray.size s) : Int) == 0 then leB false else (bif decide ((↑(ByteArray.size s) : Int) > 12) then leB false else L15 s g g 0)) := by kernel_rfl
theorem st15 (s : ByteArray) (g m : Nat) (i : Int) : L15 s g (m + 1) i =
 (bif decide (i < (↑(ByteArray.size s) : Int)) then (bif decide (0 ≤ i) && decide (i < (↑(ByteArray.size s) : Int)) then (bif decide ((↑(UInt8.toNat ((Array.toList (ByteArray.data
 s)).getD i.toNat 0)) : Int) ≥ 65) then (bif decide ((↑(UInt8.toNat ((Array.toList (ByteArray.data s)).getD i.toNat 0)) : Int) ≤ 90) then (bif decide ((↑(UInt8.toNat ((Array.toList
 (ByteArray.data s)).getD i.toNat 0)) : Int) ≥ 48) then (bif decide ((↑(UInt8.toNat ((Array.toList (ByteArray.data s)).getD i.toNat 0)) : Int) ≤ 57) then L15 s g m (IntKind.wrap
 .i64 (i + 1)) else L15 s g m (IntKind.wrap IntKind.i64 (i + 1))) else L15 s g m (IntKind.wrap .i64 (i + 1))) else (bif decide ((↑(UInt8.toNat ((Array.toList (ByteArray.data
 s)).getD i.toNat 0)) : Int) ≥ 97) then (bif decide ((↑(UInt8.toNat ((Array.toList (ByteArray.data s)).getD i.toNat 0)) : Int) ≥ 48) then (bif decide ((↑(UInt8.toNat ((Array.toList
 (ByteArray.data s)).getD i.toNat 0)) : Int) ≤ 57) then (bif !decide ((↑(UInt8.toNat ((Array.toList (ByteArray.data s)).getD i.toNat 0)) : Int) ≤ 122) then (bif i == 0 then leB
 false else L15 s g m (IntKind.wrap .i64 (i + 1))) else L15 s g m (IntKind.wrap .i64 (i + 1))) else (bif !decide ((↑(UInt8.toNat ((Array.toList (ByteArray.data s)).getD i.toNat 0))
 : Int) ≤ 122) then (bif i == 0 then leB false else (bif !(↑(UInt8.toNat ((Array.toList (ByteArray.data s)).getD i.toNat 0)) : Int) == 95 then leB false else L15 s g m (IntKind.wrap
 IntKind.i64 (i + 1)))) else L15 s g m (IntKind.wrap .i64 (i + 1)))) else (bif !decide ((↑(UInt8.toNat ((Array.toList (ByteArray.data s)).getD i.toNat 0)) : Int) ≤ 122) then (bif i
 == 0 then leB false else (bif !(↑(UInt8.toNat ((Array.toList (ByteArray.data s)).getD i.toNat 0)) : Int) == 95 then leB false else L15 s g m (IntKind.wrap .i64 (i + 1)))) else L15
 s g m (IntKind.wrap .i64 (i + 1)))) else (bif decide ((↑(UInt8.toNat ((Array.toList (ByteArray.data s)).getD i.toNat 0)) : Int) ≥ 48) then (bif decide ((↑(UInt8.toNat
 ((Array.toList (ByteArray.data s)).getD i.toNat 0)) : Int) ≤ 57) then (bif i == 0 then leB false else L15 s g m (IntKind.wrap .i64 (i + 1))) else (bif i == 0 then leB false else
 (bif !(↑(UInt8.toNat ((Array.toList (ByteArray.data s)).getD i.toNat 0)) : Int) == 95 then leB false else L15 s g m (IntKind.wrap .i64 (i + 1))))) else (bif i == 0 then leB false
 else (bif !(↑(UInt8.toNat ((Array.toList (ByteArray.data s)).getD i.toNat 0)) : Int) == 95 then leB false else L15 s g m (IntKind.wrap .i64 (i + 1))))))) else (bif decide
 ((↑(UInt8.toNat ((Array.toList (ByteArray.data s)).getD i.toNat 0)) : Int) ≥ 97) then (bif decide ((↑(UInt8.toNat ((Array.toList (ByteArray.data s)).getD i.toNat 0)) : Int) ≥ 48)
 then (bif decide ((↑(UInt8.toNat ((Array.toList (ByteArray.data s)).getD i.toNat 0)) : Int) ≤ 57) then (bif !decide ((↑(UInt8.toNat ((Array.toList (ByteArray.data s)).getD i.toNat
 (0 : UInt8))) : Int) ≤ 122) then (bif i == 0 then leB false else L15 s g m (IntKind.wrap .i64 (i + 1))) else L15 s g m (IntKind.wrap .i64 (i + 1))) else (bif !decide
 ((↑(UInt8.toNat ((Array.toList (ByteArray.data s)).getD i.toNat 0)) : Int) ≤ 122) then (bif i == 0 then leB false else (bif !(↑(UInt8.toNat ((Array.toList (ByteArray.data s)).getD
 i.toNat (0 : UInt8))) : Int) == 95 then leB false else L15 s g m (IntKind.wrap .i64 (i + 1)))) else L15 s g m (IntKind.wrap IntKind.i64 (i + 1)))) else (bif !decide ((↑(UInt8.toNat
 ((Array.toList (ByteArray.data s)).getD i.toNat 0)) : Int) ≤ 122) then (bif i == 0 then leB false else (bif !(↑(UInt8.toNat ((Array.toList (ByteArray.data s)).getD i.toNat 0)) :
 Int) == 95 then leB false else L15 s g m (IntKind.wrap .i64 (i + 1)))) else L15 s g m (IntKind.wrap .i64 (i + 1)))) else (bif decide ((↑(UInt8.toNat ((Array.toList (ByteArray.data
 s)).getD i.toNat 0)) : Int) ≥ 48) then (bif decide ((↑(UInt8.toNat ((Array.toList (ByteArray.data s)).getD i.toNat 0)) : Int) ≤ 57) then (bif i == 0 then leB false else L15 s g m
 (IntKind.wrap .i64 (i + 1))) else (bif i == 0 then leB false else (bif !(↑(UInt8.toNat ((Array.toList (ByteArray.data s)).getD i.toNat 0)) : Int) == 95 then leB false else L15 s g
 m (IntKind.wrap IntKind.i64 (i + 1))))) else (bif i == 0 then leB false else (bif !(↑(UInt8.toNat ((Array.toList (ByteArray.data s)).getD i.toNat 0)) : Int) == 95 then leB false
 else L15 s g m (IntKind.wrap .i64 (i + 1))))))) else none) else leB true) := by kernel_rfl
noncomputable def ann16 := AaE [(4, ⟨[0, 3], []⟩)]
noncomputable def L16 (s : ByteArray) (g m : Nat) (i : Int) := LK Tryz.prog Orc.nil ann16 0 g Tryz.f57 4 m ⟨frm [(0, vS s), (3, vI i)] 0 Tryz.f57.ntmps, [], 0⟩
theorem ev16 (s : ByteArray) (g : Nat) : Aai Tryz.prog Orc.nil ann16 g Tryz.f57 (Aad Tryz.f57) [vS s] [] =
 (bif decide ((↑(ByteArray.size s) : Int) < 1) then leB false else (bif decide ((↑(ByteArray.size s) : Int) > 12) then leB false else L16 s g g 0)) := by kernel_rfl
theorem st16 (s : ByteArray) (g m : Nat) (i : Int) : L16 s g (m + 1) i =
 (bif decide (i < (↑(ByteArray.size s) : Int)) then (bif decide (0 ≤ i) && decide (i < (↑(ByteArray.size s) : Int)) then (bif decide ((↑(UInt8.toNat ((Array.toList (ByteArray.data
 s)).getD i.toNat 0)) : Int) ≥ 97) then (bif decide ((↑(UInt8.toNat ((Array.toList (ByteArray.data s)).getD i.toNat 0)) : Int) ≤ 122) then L16 s g m (IntKind.wrap .i64 (i + 1)) else
 (bif decide ((↑(UInt8.toNat ((Array.toList (ByteArray.data s)).getD i.toNat 0)) : Int) ≥ 65) then (bif !decide ((↑(UInt8.toNat ((Array.toList (ByteArray.data s)).getD i.toNat 0)) :
 Int) ≤ 90) then (bif i == 0 then leB false else (bif decide ((↑(UInt8.toNat ((Array.toList (ByteArray.data s)).getD i.toNat 0)) : Int) < 48) then (bif (↑(UInt8.toNat ((Array.toList
 (ByteArray.data s)).getD i.toNat 0)) : Int) != 95 then leB false else L16 s g m (IntKind.wrap .i64 (i + 1))) else (bif decide ((↑(UInt8.toNat ((Array.toList (ByteArray.data
 s)).getD i.toNat 0)) : Int) > 57) then (bif (↑(UInt8.toNat ((Array.toList (ByteArray.data s)).getD i.toNat 0)) : Int) != 95 then leB false else L16 s g m (IntKind.wrap .i64 (i +
 1))) else L16 s g m (IntKind.wrap .i64 (i + 1))))) else L16 s g m (IntKind.wrap .i64 (i + 1))) else (bif i == 0 then leB false else (bif decide ((↑(UInt8.toNat ((Array.toList
 (ByteArray.data s)).getD i.toNat 0)) : Int) < 48) then (bif (↑(UInt8.toNat ((Array.toList (ByteArray.data s)).getD i.toNat 0)) : Int) != 95 then leB false else L16 s g m
 (IntKind.wrap .i64 (i + 1))) else (bif decide ((↑(UInt8.toNat ((Array.toList (ByteArray.data s)).getD i.toNat 0)) : Int) > 57) then (bif (↑(UInt8.toNat ((Array.toList
 (ByteArray.data s)).getD i.toNat 0)) : Int) != 95 then leB false else L16 s g m (IntKind.wrap .i64 (i + 1))) else L16 s g m (IntKind.wrap .i64 (i + 1))))))) else (bif decide
 ((↑(UInt8.toNat ((Array.toList (ByteArray.data s)).getD i.toNat 0)) : Int) ≥ 65) then (bif !decide ((↑(UInt8.toNat ((Array.toList (ByteArray.data s)).getD i.toNat 0)) : Int) ≤ 90)
 then (bif i == 0 then leB false else (bif decide ((↑(UInt8.toNat ((Array.toList (ByteArray.data s)).getD i.toNat 0)) : Int) < 48) then (bif (↑(UInt8.toNat ((Array.toList
 (ByteArray.data s)).getD i.toNat 0)) : Int) != 95 then leB false else L16 s g m (IntKind.wrap .i64 (i + 1))) else (bif decide ((↑(UInt8.toNat ((Array.toList (ByteArray.data
 s)).getD i.toNat 0)) : Int) > 57) then (bif (↑(UInt8.toNat ((Array.toList (ByteArray.data s)).getD i.toNat 0)) : Int) != 95 then leB false else L16 s g m (IntKind.wrap IntKind.i64
 (i + 1))) else L16 s g m (IntKind.wrap .i64 (i + 1))))) else L16 s g m (IntKind.wrap .i64 (i + 1))) else (bif i == 0 then leB false else (bif decide ((↑(UInt8.toNat ((Array.toList
 (ByteArray.data s)).getD i.toNat 0)) : Int) < 48) then (bif (↑(UInt8.toNat ((Array.toList (ByteArray.data s)).getD i.toNat 0)) : Int) != 95 then leB false else L16 s g m
 (IntKind.wrap .i64 (i + 1))) else (bif decide ((↑(UInt8.toNat ((Array.toList (ByteArray.data s)).getD i.toNat 0)) : Int) > 57) then (bif (↑(UInt8.toNat ((Array.toList
 (ByteArray.data s)).getD i.toNat 0)) : Int) != 95 then leB false else L16 s g m (IntKind.wrap .i64 (i + 1))) else L16 s g m (IntKind.wrap .i64 (i + 1))))))) else none) else leB
 true) := by kernel_rfl
noncomputable def ann46 := AaE [(2, ⟨[0, 1, 5], []⟩)]
noncomputable def L46 (l : List ByteArray) (s : ByteArray) (g m : Nat) (i : Int) := LK Tryz.prog Orc.nil ann46 0 g Tryz.f52 2 m ⟨frm [(0, .c (.d (Aaa l))), (1, vS s), (5, vI i)] 0 Tryz.f52.ntmps, [], 0⟩
theorem ev46 (l : List ByteArray) (s : ByteArray) (g : Nat) : Aai Tryz.prog Orc.nil ann46 g Tryz.f52 (Aad Tryz.f52) [.c (.d (Aaa l)), vS s] [] =
 L46 l s g g 0 := by kernel_rfl
theorem st46 (l : List ByteArray) (s : ByteArray) (g m : Nat) (i : Int) : L46 l s g (m + 1) i =
 (bif decide (i < (↑l.length : Int)) then (bif decide (0 ≤ i) && decide (i < (↑l.length : Int)) then (bif (l.getD i.toNat e0).toList == s.toList then leI i else L46 l s g m
 (IntKind.wrap .i64 (i + 1))) else none) else leI (-1)) := by kernel_rfl
noncomputable def ann7 := AaE [(4, ⟨[1, 3], []⟩)]
noncomputable def L7 (s : SSta) (g m : Nat) (i : Int) := LK Tryz.prog Orc.nil ann7 0 g Tryz.f19 4 m ⟨frm [(1, .c (.ptr 0 0)), (3, vI i)] 0 Tryz.f19.ntmps, [(0, .cells ((staC s).map .d) 27)], 1⟩
theorem ev7 (s : SSta) (g : Nat) : Aai Tryz.prog Orc.nil ann7 g Tryz.f19 (Aad Tryz.f19) [aSta s] [] =
 (bif decide ((↑s.buses.length : Int) > 8) then leB true else (bif decide ((↑s.lines.length : Int) > 10) then leB true else (bif decide ((↑s.srcs.length : Int) > 8) then leB true
 else (bif decide ((↑s.bays.length : Int) > 20) then leB true else L7 s g g 0)))) := by kernel_rfl
theorem st7 (s : SSta) (g m : Nat) (i : Int) : L7 s g (m + 1) i =
 (bif decide (i < (↑s.bays.length : Int)) then (bif decide (0 ≤ i) && decide (i < (↑s.bays.length : Int)) then (bif decide ((↑(SBay.links (s.bays.getD i.toNat bay0)).length : Int) >
 6) then leB true else L7 s g m (IntKind.wrap .i64 (i + 1))) else none) else leB false) := by kernel_rfl
end Go.Proofs.YtbpndheehcbldaaGreatDoor.st
namespace Go.Proofs.YtbpndheehcbldaaGreatDoor.st
open Go.RowKit Go.Eb
theorem b15 : Tryz.f65.body = some (Aad Tryz.f65) := by kernel_rfl
theorem b16 : Tryz.f57.body = some (Aad Tryz.f57) := by kernel_rfl
theorem z0 (k : Nat) : ((k : Int) == 0) = (k == 0) := by cases k <;> rfl
theorem lp15 (s : ByteArray) (g : Nat) (hs : s.size ≤ 12) : ∀ (m k : Nat), k ≤ s.size → s.size - k < m → L15 s g m k = some (.leaf (vB (nmT k (s.data.toList.drop k)), []))
 | 0, k, _, h => by omega
 | m + 1, k, hk, h => by
  rw [st15]
  by_cases hlt : k < s.size
  ·have hl : k < s.data.toList.length := by simpa using hlt
   have ih := lp15 s g hs m (k + 1) (by omega) (by omega)
   rw [Aar (d := 0) hl]
   simp only [lt1 hlt, ge0, tn, Bool.and_self, cond_true, nx hlt (by omega), ih, nmT, letterB, otherB, ge_iff_le, z0, bne]
   generalize s.data.toList.getD k 0 = c
   generalize nmT (k + 1) (s.data.toList.drop (k + 1)) = t
   generalize decide (65 ≤ (c.toNat : Int)) = a1
   generalize decide ((c.toNat : Int) ≤ 90) = a2
   generalize decide (97 ≤ (c.toNat : Int)) = b1
   generalize decide ((c.toNat : Int) ≤ 122) = b2
   generalize decide (48 ≤ (c.toNat : Int)) = d1
   generalize decide ((c.toNat : Int) ≤ 57) = d2
   generalize ((c.toNat : Int) == 95) = e1
   generalize (k == 0) = z
   cases a1 <;> cases a2 <;> cases b1 <;> cases b2 <;> cases d1 <;> cases d2 <;> cases e1 <;> cases z <;> rfl
  ·rw [lt0 hlt, List.drop_of_length_le (by simp; omega)]
   rfl
theorem c15 (s : ByteArray) : CX Tryz.prog 65 [vS s] [] (vB (Aae s)) [] := by
 refine Aau (Orc.nil_ok _) Tryz.func65 b15 rfl ((ev15 s (s.size + 1)).trans ?_)
 generalize hg : s.size + 1 = g
 unfold Aae
 cases h0 : ((s.size : Int) == 0) with
 | true => rfl
 | false =>
  cases h1 : decide ((s.size : Int) > 12) with
  | true => rfl
  | false =>
   have hs : s.size ≤ 12 := by simp at h1; omega
   have := lp15 s g hs g 0 (by omega) (by omega)
   simp only [cond_false, Bool.not_false, Bool.true_and]
   exact this
theorem ltn (x y : Int) : decide (x < y) = !decide (y ≤ x) := by
 by_cases h : x < y
 ·rw [decide_eq_true h, decide_eq_false (by omega)]; rfl
 ·rw [decide_eq_false h, decide_eq_true (by omega)]; rfl
theorem gtn (x y : Int) : decide (x > y) = !decide (x ≤ y) := by
 by_cases h : x > y
 ·rw [decide_eq_true h, decide_eq_false (by omega)]; rfl
 ·rw [decide_eq_false h, decide_eq_true (by omega)]; rfl
theorem lt1z (n : Nat) : decide ((n : Int) < 1) = ((n : Int) == 0) := by
 by_cases h : n = 0
 ·subst h; rfl
 ·have h2 : ((n : Int) == 0) = false := beq_eq_false_iff_ne.2 (by omega)
  rw [decide_eq_false (by omega), h2]
theorem lp16 (s : ByteArray) (g : Nat) (hs : s.size ≤ 12) : ∀ (m k : Nat), k ≤ s.size → s.size - k < m → L16 s g m k = some (.leaf (vB (nmT k (s.data.toList.drop k)), []))
 | 0, k, _, h => by omega
 | m + 1, k, hk, h => by
  rw [st16]
  by_cases hlt : k < s.size
  ·have hl : k < s.data.toList.length := by simpa using hlt
   have ih := lp16 s g hs m (k + 1) (by omega) (by omega)
   rw [Aar (d := 0) hl]
   generalize hc : s.data.toList.getD k 0 = c
   have e48 : decide ((c.toNat : Int) < 48) = !decide (48 ≤ (c.toNat : Int)) := ltn _ _
   have e57 : decide ((c.toNat : Int) > 57) = !decide ((c.toNat : Int) ≤ 57) := gtn _ _
   simp only [lt1 hlt, ge0, tn, hc, Bool.and_self, cond_true, nx hlt (by omega), ih, nmT, letterB, otherB, e48, e57, z0, bne, ge_iff_le]
   generalize nmT (k + 1) (s.data.toList.drop (k + 1)) = t
   generalize decide (65 ≤ (c.toNat : Int)) = a1
   generalize decide ((c.toNat : Int) ≤ 90) = a2
   generalize decide (97 ≤ (c.toNat : Int)) = b1
   generalize decide ((c.toNat : Int) ≤ 122) = b2
   generalize decide (48 ≤ (c.toNat : Int)) = d1
   generalize decide ((c.toNat : Int) ≤ 57) = d2
   generalize ((c.toNat : Int) == 95) = e1
   generalize (k == 0) = z
   cases a1 <;> cases a2 <;> cases b1 <;> cases b2 <;> cases d1 <;> cases d2 <;> cases e1 <;> cases z <;> rfl
  ·rw [lt0 hlt, List.drop_of_length_le (by simp; omega)]
   rfl
theorem r16 (s : ByteArray) (g : Nat) (hg : s.size < g) : Aai Tryz.prog Orc.nil ann16 g Tryz.f57 (Aad Tryz.f57) [vS s] [] = some (.leaf (vB (Aae s), [])) := by
 rw [ev16, lt1z]
 unfold Aae
 cases h0 : ((s.size : Int) == 0) with
 | true => rfl
 | false =>
  cases h1 : decide ((s.size : Int) > 12) with
  | true => rfl
  | false =>
   have hs : s.size ≤ 12 := by simp at h1; omega
   have := lp16 s g hs g 0 (by omega) (by omega)
   simp only [cond_false, Bool.not_false, Bool.true_and]
   exact this
theorem c16 (s : ByteArray) : CX Tryz.prog 57 [vS s] [] (vB (Aae s)) [] := Aau (Orc.nil_ok _) Tryz.func57 b16 rfl (r16 s (s.size + 1) (by omega))
end Go.Proofs.YtbpndheehcbldaaGreatDoor.st
namespace Go.Proofs.YtbpndheehcbldaaGreatDoor.tb
open Go.RowKit Go.Eb Go.Proofs.YtbpndheehcbldaaGreatDoor.st
set_option maxRecDepth 100000
structure KLw where
 okl : List AV → Bool
 lg : List AV → Bool
 okc : List AV → Bool
 chk : List AV → Int
 okt : List AV → Bool
 ps : List AV → List Pbl
 ds : List AV → List Dev
 er : List AV → Int
noncomputable def oLw (Z : KLw) : Orc := Orc.cons 7 (ansP dec0 fun _ => vB true) (Orc.cons 8 (ansG Z.okl fun x => vB (Z.lg x)) (Orc.cons 12 (ansG Z.okc fun x => vI (Z.chk x)) (Orc.cons 9 (ansG Z.okt fun x => .tup [(true, [.d (pblsD (Z.ps x)), .d (devsD (Z.ds x))]), (false, [.d (dI (Z.er x))])]) Orc.nil)))
noncomputable def annlin : Ann := AaE [(9, ⟨[3, 1, 5], []⟩), (14, ⟨[3, 1, 5, 6], []⟩)]
noncomputable def Llin_9 (Z : KLw) (c : SCfg) (g m : Nat) (i5 : Int) := LK Tryz.prog (oLw Z) annlin 0 g Tryz.f4 9 m ⟨frm [(1, .c (.ptr 0 0)), (3, .c (.ptr 1 0)), (5, .c (.d (.v (.int .i64 i5))))] 0 Tryz.f4.ntmps, [(0, Blk.cells (List.map C.d (cfgC c)) 30), (1, Blk.cells [C.d (Aab 5 pblC pbl0 (KLw.ps Z [.agg (List.map C.d (cfgC c))])), C.d (Aab 3 devC dev0 (KLw.ds Z [.agg (List.map C.d (cfgC c))]))] 36)], 2⟩
noncomputable def Llin_14 (Z : KLw) (c : SCfg) (g mo m : Nat) (i5 : Int) (i6 : Int) := LK2 Tryz.prog (oLw Z) annlin 0 g Tryz.f4 9 mo 14 m ⟨frm [(1, .c (.ptr 0 0)), (3, .c (.ptr 1 0)), (5, .c (.d (.v (.int .i64 i5)))), (6, .c (.d (.v (.int .i64 i6))))] 0 Tryz.f4.ntmps, [(0, Blk.cells (List.map C.d (cfgC c)) 30), (1, Blk.cells [C.d (Aab 5 pblC pbl0 (KLw.ps Z [.agg (List.map C.d (cfgC c))])), C.d (Aab 3 devC dev0 (KLw.ds Z [.agg (List.map C.d (cfgC c))]))] 36)], 2⟩
theorem blin : Tryz.f4.body = some (Aad Tryz.f4) := by kernel_rfl
theorem evlin (Z : KLw) (c : SCfg) (g : Nat) : Aai Tryz.prog (oLw Z) annlin g Tryz.f4 (Aad Tryz.f4) [aCfg c] [] =
 (bif KLw.okl Z [AV.agg (List.map C.d (cfgC c))] then (bif KLw.lg Z [AV.agg (List.map C.d (cfgC c))] then leB true else (bif KLw.okc Z [AV.agg (List.map C.d (cfgC c))] then (bif
 KLw.chk Z [AV.agg (List.map C.d (cfgC c))] != 0 then leB true else (bif KLw.okt Z [AV.agg (List.map C.d (cfgC c))] then (bif KLw.er Z [AV.agg (List.map C.d (cfgC c))] != 0 then leB
 false else (bif (↑(KLw.ds Z [AV.agg (List.map C.d (cfgC c))]).length : Int) != (↑c.rels.length : Int) then leB false else Llin_9 Z c g g 0)) else none)) else none)) else none) := by kernel_rfl
theorem stlin_9 (Z : KLw) (c : SCfg) (g m : Nat) (i5 : Int) : Llin_9 Z c g (m + 1) i5 =
 (bif decide (i5 < (↑c.rels.length : Int)) then (bif decide (0 ≤ i5) && decide (i5 < (↑(KLw.ds Z [AV.agg (List.map C.d (cfgC c))]).length : Int)) then (bif decide (0 ≤ i5) && decide
 (i5 < (↑c.rels.length : Int)) then (bif (↑(Dev.ins ((KLw.ds Z [AV.agg (List.map C.d (cfgC c))]).getD i5.toNat dev0)).length : Int) != (↑(SRel.subs (c.rels.getD i5.toNat
 rel0)).length : Int) then leB false else Llin_14 Z c g m g i5 0) else none) else none) else leB true) := by kernel_rfl
theorem stlin_14 (Z : KLw) (c : SCfg) (g mo m : Nat) (i5 : Int) (i6 : Int) : Llin_14 Z c g mo (m + 1) i5 i6 =
 (bif decide (0 ≤ i5) && decide (i5 < (↑c.rels.length : Int)) then (bif decide (i6 < (↑(SRel.subs (c.rels.getD i5.toNat rel0)).length : Int)) then (bif decide (0 ≤ i5) && decide (i5
 < (↑(KLw.ds Z [AV.agg (List.map C.d (cfgC c))]).length : Int)) then (bif decide (0 ≤ i6) && decide (i6 < (↑(Dev.ins ((KLw.ds Z [AV.agg (List.map C.d (cfgC c))]).getD i5.toNat
 dev0)).length : Int)) then (bif decide (0 ≤ i5) && decide (i5 < (↑c.rels.length : Int)) then (bif decide (0 ≤ i6) && decide (i6 < (↑(SRel.subs (c.rels.getD i5.toNat rel0)).length :
 Int)) then (bif decide (Prod.fst ((Dev.ins ((KLw.ds Z [AV.agg (List.map C.d (cfgC c))]).getD i5.toNat dev0)).getD i6.toNat (0, 0)) < 0) then leB false else (bif decide (Prod.fst
 ((Dev.ins ((KLw.ds Z [AV.agg (List.map C.d (cfgC c))]).getD i5.toNat dev0)).getD i6.toNat (0, 0)) ≥ (↑(KLw.ps Z [AV.agg (List.map C.d (cfgC c))]).length : Int)) then leB false else
 (bif decide (0 ≤ Prod.fst ((Dev.ins ((KLw.ds Z [AV.agg (List.map C.d (cfgC c))]).getD i5.toNat dev0)).getD i6.toNat (0, 0))) && decide (Prod.fst ((Dev.ins ((KLw.ds Z [AV.agg
 (List.map C.d (cfgC c))]).getD i5.toNat dev0)).getD i6.toNat (0, 0)) < (↑(KLw.ps Z [AV.agg (List.map C.d (cfgC c))]).length : Int)) then (bif decide (Pbl.rel ((KLw.ps Z [AV.agg
 (List.map C.d (cfgC c))]).getD (Int.toNat (Prod.fst ((Dev.ins ((KLw.ds Z [AV.agg (List.map C.d (cfgC c))]).getD i5.toNat dev0)).getD i6.toNat (0, 0)))) pbl0) < 0) then leB false
 else (bif decide (Pbl.rel ((KLw.ps Z [AV.agg (List.map C.d (cfgC c))]).getD (Int.toNat (Prod.fst ((Dev.ins ((KLw.ds Z [AV.agg (List.map C.d (cfgC c))]).getD i5.toNat dev0)).getD
 i6.toNat (0, 0)))) pbl0) ≥ (↑c.rels.length : Int)) then leB false else (bif decide (0 ≤ Pbl.rel ((KLw.ps Z [AV.agg (List.map C.d (cfgC c))]).getD (Int.toNat (Prod.fst ((Dev.ins
 ((KLw.ds Z [AV.agg (List.map C.d (cfgC c))]).getD i5.toNat dev0)).getD i6.toNat (0, 0)))) pbl0)) && decide (Pbl.rel ((KLw.ps Z [AV.agg (List.map C.d (cfgC c))]).getD (Int.toNat
 (Prod.fst ((Dev.ins ((KLw.ds Z [AV.agg (List.map C.d (cfgC c))]).getD i5.toNat dev0)).getD i6.toNat (0, 0)))) pbl0) < (↑c.rels.length : Int)) then (bif !(SRel.name (c.rels.getD
 (Int.toNat (Pbl.rel ((KLw.ps Z [AV.agg (List.map C.d (cfgC c))]).getD (Int.toNat (Prod.fst ((Dev.ins ((KLw.ds Z [AV.agg (List.map C.d (cfgC c))]).getD i5.toNat dev0)).getD i6.toNat
 (0, 0)))) pbl0))) rel0)).toList == (SSub.dev ((SRel.subs (c.rels.getD i5.toNat rel0)).getD i6.toNat sub0)).toList then leB false else (bif decide (Prod.snd ((Dev.ins ((KLw.ds Z
 [AV.agg (List.map C.d (cfgC c))]).getD i5.toNat dev0)).getD i6.toNat (0, 0)) < 0) then leB false else (bif decide (Prod.snd ((Dev.ins ((KLw.ds Z [AV.agg (List.map C.d (cfgC
 c))]).getD i5.toNat dev0)).getD i6.toNat (0, 0)) ≥ (↑(Pbl.sigs ((KLw.ps Z [AV.agg (List.map C.d (cfgC c))]).getD (Int.toNat (Prod.fst ((Dev.ins ((KLw.ds Z [AV.agg (List.map C.d
 (cfgC c))]).getD i5.toNat dev0)).getD i6.toNat (0, 0)))) pbl0)).length : Int)) then leB false else (bif decide (0 ≤ Pbl.rel ((KLw.ps Z [AV.agg (List.map C.d (cfgC c))]).getD
 (Int.toNat (Prod.fst ((Dev.ins ((KLw.ds Z [AV.agg (List.map C.d (cfgC c))]).getD i5.toNat dev0)).getD i6.toNat (0, 0)))) pbl0)) && decide (Pbl.rel ((KLw.ps Z [AV.agg (List.map C.d
 (cfgC c))]).getD (Int.toNat (Prod.fst ((Dev.ins ((KLw.ds Z [AV.agg (List.map C.d (cfgC c))]).getD i5.toNat dev0)).getD i6.toNat (0, 0)))) pbl0) < (↑(KLw.ds Z [AV.agg (List.map C.d
 (cfgC c))]).length : Int)) then (bif decide (0 ≤ Prod.snd ((Dev.ins ((KLw.ds Z [AV.agg (List.map C.d (cfgC c))]).getD i5.toNat dev0)).getD i6.toNat (0, 0))) && decide (Prod.snd
 ((Dev.ins ((KLw.ds Z [AV.agg (List.map C.d (cfgC c))]).getD i5.toNat dev0)).getD i6.toNat (0, 0)) < (↑(Pbl.sigs ((KLw.ps Z [AV.agg (List.map C.d (cfgC c))]).getD (Int.toNat
 (Prod.fst ((Dev.ins ((KLw.ds Z [AV.agg (List.map C.d (cfgC c))]).getD i5.toNat dev0)).getD i6.toNat (0, 0)))) pbl0)).length : Int)) then (bif decide ((Pbl.sigs ((KLw.ps Z [AV.agg
 (List.map C.d (cfgC c))]).getD (Int.toNat (Prod.fst ((Dev.ins ((KLw.ds Z [AV.agg (List.map C.d (cfgC c))]).getD i5.toNat dev0)).getD i6.toNat (0, 0)))) pbl0)).getD (Int.toNat
 (Prod.snd ((Dev.ins ((KLw.ds Z [AV.agg (List.map C.d (cfgC c))]).getD i5.toNat dev0)).getD i6.toNat (0, 0)))) 0 < 0) then leB false else (bif decide (0 ≤ Prod.snd ((Dev.ins
 ((KLw.ds Z [AV.agg (List.map C.d (cfgC c))]).getD i5.toNat dev0)).getD i6.toNat (0, 0))) && decide (Prod.snd ((Dev.ins ((KLw.ds Z [AV.agg (List.map C.d (cfgC c))]).getD i5.toNat
 dev0)).getD i6.toNat (0, 0)) < (↑(Pbl.sigs ((KLw.ps Z [AV.agg (List.map C.d (cfgC c))]).getD (Int.toNat (Prod.fst ((Dev.ins ((KLw.ds Z [AV.agg (List.map C.d (cfgC c))]).getD
 i5.toNat dev0)).getD i6.toNat (0, 0)))) pbl0)).length : Int)) then (bif decide ((Pbl.sigs ((KLw.ps Z [AV.agg (List.map C.d (cfgC c))]).getD (Int.toNat (Prod.fst ((Dev.ins ((KLw.ds
 Z [AV.agg (List.map C.d (cfgC c))]).getD i5.toNat dev0)).getD i6.toNat (0, 0)))) pbl0)).getD (Int.toNat (Prod.snd ((Dev.ins ((KLw.ds Z [AV.agg (List.map C.d (cfgC c))]).getD
 i5.toNat dev0)).getD i6.toNat (0, 0)))) 0 ≥ (↑(Dev.outs ((KLw.ds Z [AV.agg (List.map C.d (cfgC c))]).getD (Int.toNat (Pbl.rel ((KLw.ps Z [AV.agg (List.map C.d (cfgC c))]).getD
 (Int.toNat (Prod.fst ((Dev.ins ((KLw.ds Z [AV.agg (List.map C.d (cfgC c))]).getD i5.toNat dev0)).getD i6.toNat (0, 0)))) pbl0))) dev0)).length : Int)) then leB false else (bif
 decide (0 ≤ Prod.snd ((Dev.ins ((KLw.ds Z [AV.agg (List.map C.d (cfgC c))]).getD i5.toNat dev0)).getD i6.toNat (0, 0))) && decide (Prod.snd ((Dev.ins ((KLw.ds Z [AV.agg (List.map
 C.d (cfgC c))]).getD i5.toNat dev0)).getD i6.toNat (0, 0)) < (↑(Pbl.sigs ((KLw.ps Z [AV.agg (List.map C.d (cfgC c))]).getD (Int.toNat (Prod.fst ((Dev.ins ((KLw.ds Z [AV.agg
 (List.map C.d (cfgC c))]).getD i5.toNat dev0)).getD i6.toNat (0, 0)))) pbl0)).length : Int)) then (bif decide (0 ≤ (Pbl.sigs ((KLw.ps Z [AV.agg (List.map C.d (cfgC c))]).getD
 (Int.toNat (Prod.fst ((Dev.ins ((KLw.ds Z [AV.agg (List.map C.d (cfgC c))]).getD i5.toNat dev0)).getD i6.toNat (0, 0)))) pbl0)).getD (Int.toNat (Prod.snd ((Dev.ins ((KLw.ds Z
 [AV.agg (List.map C.d (cfgC c))]).getD i5.toNat dev0)).getD i6.toNat (0, 0)))) 0) && decide ((Pbl.sigs ((KLw.ps Z [AV.agg (List.map C.d (cfgC c))]).getD (Int.toNat (Prod.fst
 ((Dev.ins ((KLw.ds Z [AV.agg (List.map C.d (cfgC c))]).getD i5.toNat dev0)).getD i6.toNat (0, 0)))) pbl0)).getD (Int.toNat (Prod.snd ((Dev.ins ((KLw.ds Z [AV.agg (List.map C.d
 (cfgC c))]).getD i5.toNat dev0)).getD i6.toNat (0, 0)))) 0 < (↑(Dev.outs ((KLw.ds Z [AV.agg (List.map C.d (cfgC c))]).getD (Int.toNat (Pbl.rel ((KLw.ps Z [AV.agg (List.map C.d
 (cfgC c))]).getD (Int.toNat (Prod.fst ((Dev.ins ((KLw.ds Z [AV.agg (List.map C.d (cfgC c))]).getD i5.toNat dev0)).getD i6.toNat (0, 0)))) pbl0))) dev0)).length : Int)) then (bif
 !((Dev.outs ((KLw.ds Z [AV.agg (List.map C.d (cfgC c))]).getD (Int.toNat (Pbl.rel ((KLw.ps Z [AV.agg (List.map C.d (cfgC c))]).getD (Int.toNat (Prod.fst ((Dev.ins ((KLw.ds Z
 [AV.agg (List.map C.d (cfgC c))]).getD i5.toNat dev0)).getD i6.toNat (0, 0)))) pbl0))) dev0)).getD (Int.toNat ((Pbl.sigs ((KLw.ps Z [AV.agg (List.map C.d (cfgC c))]).getD
 (Int.toNat (Prod.fst ((Dev.ins ((KLw.ds Z [AV.agg (List.map C.d (cfgC c))]).getD i5.toNat dev0)).getD i6.toNat (0, 0)))) pbl0)).getD (Int.toNat (Prod.snd ((Dev.ins ((KLw.ds Z
 [AV.agg (List.map C.d (cfgC c))]).getD i5.toNat dev0)).getD i6.toNat (0, 0)))) 0)) e0).toList == (SSub.sig ((SRel.subs (c.rels.getD i5.toNat rel0)).getD i6.toNat sub0)).toList then
 leB false else Llin_14 Z c g mo m i5 (IntKind.wrap .i64 (i6 + 1))) else none) else none)) else none)) else none) else none)))) else none))) else none))) else none) else none) else
 none) else none) else Llin_9 Z c g mo (IntKind.wrap .i64 (i5 + 1))) else none) := by kernel_rfl
end Go.Proofs.YtbpndheehcbldaaGreatDoor.tb
namespace Go.Proofs.YtbpndheehcbldaaGreatDoor.tb
open Go.RowKit Go.Eb Go.Proofs.YtbpndheehcbldaaGreatDoor.st
set_option maxRecDepth 100000
def HKB (c : SCfg) (mp : List (Value × Value)) (np : Nat) (fp : Nat → List D) (nd : Nat) (fd : Nat → List D) : Hp := [(0, .cells ((cfgC c).map .d ++ [.mp 1, .row 2 5 np, .row 3 3 nd]) 81), (1, .map 4 mp), (2, .row np fp 5 70), (3, .row nd fd 3 51)]
def HP (p : SPub) : Hp := [(0, .cells ((pubC p).map .d) 122)]
def HKA (c : SCfg) (np : Nat) (fp : Nat → List D) (nd : Nat) (fd : Nat → List D) : Hp := [(0, .cells ((cfgC c).map .d ++ [.d (.v (.map none)), .row 1 5 np, .row 2 3 nd]) 81), (1, .row np fp 5 70), (2, .row nd fd 3 51)]
structure KSn where
 oko : List AV → Bool
 ou : List AV → List ByteArray
 oki : List AV → Hp → Bool
 ix : List AV → Hp → Int
 pb : List AV → Hp → SPub
 okx : List AV → Bool
 sx : List AV → Int
noncomputable def oSn (Z : KSn) : Orc := Orc.cons 45 (ansG Z.oko fun x => .c (.d (Aaa (Z.ou x)))) (Orc.cons 46 (ansM Z.oki (fun x H => vI (Z.ix x H)) fun x H => [(0, .cells ((pubC (Z.pb x H)).map .d) 122)])
 (Orc.cons 48 (ansG Z.okx fun x => vI (Z.sx x)) (Orc.cons 49 (inl Tryz.prog Orc.nil na 5 Tryz.f49) Orc.nil)))
noncomputable def annsnb : Ann := AaE [(4, ⟨[6, 0, 1, 5, 25, 4, 26, 27], [(6, 1, 1, 3), (0, 7, 5, 70)]⟩), (9, ⟨[10, 6, 47, 0, 1, 5, 25, 4, 26, 27, 9, 48, 49], [(10, 4, 1, 3)]⟩)]
noncomputable def Lsnb_4 (Z : KSn) (c : SCfg) (mp : List (Value × Value)) (np : Nat) (fp : Nat → List D) (nd : Nat) (fd : Nat → List D) (rel : Int) (g m : Nat) (l1 : List (Value × Value)) (n2 : Nat) (f2 : Nat → List D) (n3 : Nat) (f3 : Nat → List D) (n7 : Nat) (f7 : Nat → List D) (i27 : Int) := LK Tryz.prog (oSn Z) annsnb (List.length (α := Nat × Blk) (HKB c mp np fp nd fd)) g Tryz.f21 4 m ⟨frm [(0, .c (.ptr 0 0)), (1, .c (.d (.v (.int .i64 rel)))), (4, .c (.ptr 4 0)), (5, .c (.ptr 5 0)), (6, .c (.ptr 6 0)), (25, .c (.d (Aab 3 pubC pub0 (SRel.pubs (List.getD (SCfg.rels c) (Int.toNat rel) rel0))))), (26, .c (.d (.v (.int .i64 (↑(List.length (SRel.pubs (List.getD (SCfg.rels c) (Int.toNat rel) rel0))) : Int))))), (27, .c (.d (.v (.int .i64 i27))))] 0 Tryz.f21.ntmps, [(0, Blk.cells [.d (.v (.string (SSta.name (SCfg.sta c)))), C.d (Aab 1 busC e0 (SSta.buses (SCfg.sta c))), C.d (Aab 5 Aap Aaf (SSta.lines (SCfg.sta c))), C.d (Aab 6 Aao src0 (SSta.srcs (SCfg.sta c))), C.d (Aab 12 bayC bay0 (SSta.bays (SCfg.sta c))), C.d (Aab 53 relC rel0 (SCfg.rels c)), C.mp 1, C.row 2 5 n2, C.row 3 3 n3] 81), (1, Blk.map 4 l1), (2, Blk.row n2 f2 5 70), (3, Blk.row n3 f3 3 51), (4, Blk.cells [.d (.v (.slice none 0 0)), .d (.v (.slice none 0 0)), .d (.v (.slice none 0 0))] 51), (5, Blk.cells (List.map C.d (relC (List.getD (SCfg.rels c) (Int.toNat rel) rel0))) 64), (6, Blk.cells [C.d (Aab 1 busC e0 (KSn.ou Z [.agg (List.map C.d (relC (List.getD (SCfg.rels c) (Int.toNat rel) rel0)))])), C.row 7 1 n7, .d (.v (.slice none 0 0))] 51), (7, Blk.row n7 f7 1 3)], 8⟩
noncomputable def Lsnb_9 (Z : KSn) (c : SCfg) (mp : List (Value × Value)) (np : Nat) (fp : Nat → List D) (nd : Nat) (fd : Nat → List D) (rel : Int) (g mo m : Nat) (l1 : List (Value × Value)) (n2 : Nat) (f2 : Nat → List D) (n3 : Nat) (f3 : Nat → List D) (n7 : Nat) (f7 : Nat → List D) (n9 : Nat) (f9 : Nat → List D) (i9 : Int) (i27 : Int) (i48 : Int) (i49 : Int) (x8 : Int) (x8_2 : Int) (x8_3 : Int) := LK2 Tryz.prog (oSn Z) annsnb (List.length (α := Nat × Blk) (HKB c mp np fp nd fd)) g Tryz.f21 4 mo 9 m ⟨frm [(0, .c (.ptr 0 0)), (1, .c (.d (.v (.int .i64 rel)))), (4, .c (.ptr 4 0)), (5, .c (.ptr 5 0)), (6, .c (.ptr 6 0)), (9, .c (.d (.v (.int .i64 i9)))), (10, .c (.ptr 8 0)), (25, .c (.d (Aab 3 pubC pub0 (SRel.pubs (List.getD (SCfg.rels c) (Int.toNat rel) rel0))))), (26, .c (.d (.v (.int .i64 (↑(List.length (SRel.pubs (List.getD (SCfg.rels c) (Int.toNat rel) rel0))) : Int))))), (27, .c (.d (.v (.int .i64 i27)))), (47, .c (.d (Aab 1 busC e0 (SSet.sigs (List.getD (SRel.sets (List.getD (SCfg.rels c) (Int.toNat rel) rel0)) (Int.toNat (KSn.ix Z [.c (.d (Aab 2 setC set0 (SRel.sets (List.getD (SCfg.rels c) (Int.toNat rel) rel0)))), .c (.fn 47 [] [Rf.ptr 0 0])] [(0, Blk.cells (List.map C.d (pubC (List.getD (SRel.pubs (List.getD (SCfg.rels c) (Int.toNat rel) rel0)) (Int.toNat i27) pub0))) 122)])) set0))))), (48, .c (.d (.v (.int .i64 i48)))), (49, .c (.d (.v (.int .i64 i49))))] 0 Tryz.f21.ntmps, [(0, Blk.cells [.d (.v (.string (SSta.name (SCfg.sta c)))), C.d (Aab 1 busC e0 (SSta.buses (SCfg.sta c))), C.d (Aab 5 Aap Aaf (SSta.lines (SCfg.sta c))), C.d (Aab 6 Aao src0 (SSta.srcs (SCfg.sta c))), C.d (Aab 12 bayC bay0 (SSta.bays (SCfg.sta c))), C.d (Aab 53 relC rel0 (SCfg.rels c)), C.mp 1, C.row 2 5 n2, C.row 3 3 n3] 81), (1, Blk.map 4 l1), (2, Blk.row n2 f2 5 70), (3, Blk.row n3 f3 3 51), (4, Blk.cells [.d (.v (.slice none 0 0)), .d (.v (.slice none 0 0)), .d (.v (.slice none 0 0))] 51), (5, Blk.cells (List.map C.d (relC (List.getD (SCfg.rels c) (Int.toNat rel) rel0))) 64), (6, Blk.cells [C.d (Aab 1 busC e0 (KSn.ou Z [.agg (List.map C.d (relC (List.getD (SCfg.rels c) (Int.toNat rel) rel0)))])), C.row 7 1 n7, .d (.v (.slice none 0 0))] 51), (7, Blk.row n7 f7 1 3), (8, Blk.cells [.d (.v (.int .i64 rel)), .d (.v (.int .i64 x8)), .d (.v (.int .i64 x8_2)), .d (.v (.int .i64 x8_3)), C.row 9 1 n9] 70), (9, Blk.row n9 f9 1 3)], 10⟩
noncomputable def AcL (Z : KSn) (c : SCfg) (mp : List (Value × Value)) (np : Nat) (fp : Nat → List D) (nd : Nat) (fd : Nat → List D) (rel : Int) (g m : Nat) (l1 : List (Value × Value)) (n3 : Nat) (f3 : Nat → List D) (n4 : Nat) (f4 : Nat → List D) (n8 : Nat) (f8 : Nat → List D) (i27 : Int) := LK Tryz.prog (oSn Z) annsnb (List.length (α := Nat × Blk) (HKB c mp np fp nd fd)) g Tryz.f21 4 m ⟨frm [(0, .c (.ptr 0 0)), (1, .c (.d (.v (.int .i64 rel)))), (4, .c (.ptr 5 0)), (5, .c (.ptr 6 0)), (6, .c (.ptr 7 0)), (25, .c (.d (Aab 3 pubC pub0 (SRel.pubs (List.getD (SCfg.rels c) (Int.toNat rel) rel0))))), (26, .c (.d (.v (.int .i64 (↑(List.length (SRel.pubs (List.getD (SCfg.rels c) (Int.toNat rel) rel0))) : Int))))), (27, .c (.d (.v (.int .i64 i27))))] 0 Tryz.f21.ntmps, [(0, Blk.cells [.d (.v (.string (SSta.name (SCfg.sta c)))), C.d (Aab 1 busC e0 (SSta.buses (SCfg.sta c))), C.d (Aab 5 Aap Aaf (SSta.lines (SCfg.sta c))), C.d (Aab 6 Aao src0 (SSta.srcs (SCfg.sta c))), C.d (Aab 12 bayC bay0 (SSta.bays (SCfg.sta c))), C.d (Aab 53 relC rel0 (SCfg.rels c)), C.mp 1, C.row 4 5 n4, C.row 3 3 n3] 81), (1, Blk.map 4 l1), (2, Blk.dead), (3, Blk.row n3 f3 3 51), (4, Blk.row n4 f4 5 70), (5, Blk.cells [.d (.v (.slice none 0 0)), .d (.v (.slice none 0 0)), .d (.v (.slice none 0 0))] 51), (6, Blk.cells (List.map C.d (relC (List.getD (SCfg.rels c) (Int.toNat rel) rel0))) 64), (7, Blk.cells [C.d (Aab 1 busC e0 (KSn.ou Z [.agg (List.map C.d (relC (List.getD (SCfg.rels c) (Int.toNat rel) rel0)))])), C.row 8 1 n8, .d (.v (.slice none 0 0))] 51), (8, Blk.row n8 f8 1 3)], 9⟩
noncomputable def AhJ (Z : KSn) (c : SCfg) (mp : List (Value × Value)) (np : Nat) (fp : Nat → List D) (nd : Nat) (fd : Nat → List D) (rel : Int) (g mo m : Nat) (l1 : List (Value × Value)) (n3 : Nat) (f3 : Nat → List D) (n4 : Nat) (f4 : Nat → List D) (n8 : Nat) (f8 : Nat → List D) (n10 : Nat) (f10 : Nat → List D) (i9 : Int) (i27 : Int) (i48 : Int) (i49 : Int) (x9 : Int) (x9_2 : Int) (x9_3 : Int) := LK2 Tryz.prog (oSn Z) annsnb (List.length (α := Nat × Blk) (HKB c mp np fp nd fd)) g Tryz.f21 4 mo 9 m ⟨frm [(0, .c (.ptr 0 0)), (1, .c (.d (.v (.int .i64 rel)))), (4, .c (.ptr 5 0)), (5, .c (.ptr 6 0)), (6, .c (.ptr 7 0)), (9, .c (.d (.v (.int .i64 i9)))), (10, .c (.ptr 9 0)), (25, .c (.d (Aab 3 pubC pub0 (SRel.pubs (List.getD (SCfg.rels c) (Int.toNat rel) rel0))))), (26, .c (.d (.v (.int .i64 (↑(List.length (SRel.pubs (List.getD (SCfg.rels c) (Int.toNat rel) rel0))) : Int))))), (27, .c (.d (.v (.int .i64 i27)))), (47, .c (.d (Aab 1 busC e0 (SSet.sigs (List.getD (SRel.sets (List.getD (SCfg.rels c) (Int.toNat rel) rel0)) (Int.toNat (KSn.ix Z [.c (.d (Aab 2 setC set0 (SRel.sets (List.getD (SCfg.rels c) (Int.toNat rel) rel0)))), .c (.fn 47 [] [Rf.ptr 0 0])] [(0, Blk.cells (List.map C.d (pubC (List.getD (SRel.pubs (List.getD (SCfg.rels c) (Int.toNat rel) rel0)) (Int.toNat i27) pub0))) 122)])) set0))))), (48, .c (.d (.v (.int .i64 i48)))), (49, .c (.d (.v (.int .i64 i49))))] 0 Tryz.f21.ntmps, [(0, Blk.cells [.d (.v (.string (SSta.name (SCfg.sta c)))), C.d (Aab 1 busC e0 (SSta.buses (SCfg.sta c))), C.d (Aab 5 Aap Aaf (SSta.lines (SCfg.sta c))), C.d (Aab 6 Aao src0 (SSta.srcs (SCfg.sta c))), C.d (Aab 12 bayC bay0 (SSta.bays (SCfg.sta c))), C.d (Aab 53 relC rel0 (SCfg.rels c)), C.mp 1, C.row 4 5 n4, C.row 3 3 n3] 81), (1, Blk.map 4 l1), (2, Blk.dead), (3, Blk.row n3 f3 3 51), (4, Blk.row n4 f4 5 70), (5, Blk.cells [.d (.v (.slice none 0 0)), .d (.v (.slice none 0 0)), .d (.v (.slice none 0 0))] 51), (6, Blk.cells (List.map C.d (relC (List.getD (SCfg.rels c) (Int.toNat rel) rel0))) 64), (7, Blk.cells [C.d (Aab 1 busC e0 (KSn.ou Z [.agg (List.map C.d (relC (List.getD (SCfg.rels c) (Int.toNat rel) rel0)))])), C.row 8 1 n8, .d (.v (.slice none 0 0))] 51), (8, Blk.row n8 f8 1 3), (9, Blk.cells [.d (.v (.int .i64 rel)), .d (.v (.int .i64 x9)), .d (.v (.int .i64 x9_2)), .d (.v (.int .i64 x9_3)), C.row 10 1 n10] 70), (10, Blk.row n10 f10 1 3)], 11⟩
theorem bsnb : Tryz.f21.body = some (Aad Tryz.f21) := by kernel_rfl
theorem evsnb (Z : KSn) (c : SCfg) (mp : List (Value × Value)) (np : Nat) (fp : Nat → List D) (nd : Nat) (fd : Nat → List D) (rel : Int) (g : Nat) : Aai Tryz.prog (oSn Z) annsnb g Tryz.f21 (Aad Tryz.f21) [.c (.ptr 0 0), vI rel] (HKB c mp np fp nd fd) =
 (bif decide (0 ≤ rel) && decide (rel < (↑c.rels.length : Int)) then (bif KSn.oko Z [AV.agg (List.map C.d (relC (c.rels.getD rel.toNat rel0)))] then Lsnb_4 Z c mp np fp nd fd rel g
 g mp np fp nd fd 0 (fun x => []) 0 else none) else none) := by kernel_rfl
theorem stsnb_4 (Z : KSn) (c : SCfg) (mp : List (Value × Value)) (np : Nat) (fp : Nat → List D) (nd : Nat) (fd : Nat → List D) (rel : Int) (g m : Nat) (l1 : List (Value × Value)) (n2 : Nat) (f2 : Nat → List D) (n3 : Nat) (f3 : Nat → List D) (n7 : Nat) (f7 : Nat → List D) (i27 : Int) : Lsnb_4 Z c mp np fp nd fd rel g (m + 1) l1 n2 f2 n3 f3 n7 f7 i27 =
 (bif decide (i27 < (↑(SRel.pubs (c.rels.getD rel.toNat rel0)).length : Int)) then (bif decide (0 ≤ i27) && decide (i27 < (↑(SRel.pubs (c.rels.getD rel.toNat rel0)).length : Int))
 then (bif KSn.oki Z [AV.c (C.d (Aab (2) setC set0 (SRel.sets (c.rels.getD rel.toNat rel0)))), AV.c (C.fn (47) [] [Rf.ptr (0) (0)])] [(0, Blk.cells (List.map C.d (pubC ((SRel.pubs
 (c.rels.getD rel.toNat rel0)).getD i27.toNat pub0))) (122))] then (bif decide (0 ≤ KSn.ix Z [AV.c (C.d (Aab (2) setC set0 (SRel.sets (c.rels.getD rel.toNat rel0)))), AV.c (C.fn
 (47) [] [Rf.ptr (0) (0)])] [(0, Blk.cells (List.map C.d (pubC ((SRel.pubs (c.rels.getD rel.toNat rel0)).getD i27.toNat pub0))) (122))]) && decide (KSn.ix Z [AV.c (C.d (Aab (2) setC
 set0 (SRel.sets (c.rels.getD rel.toNat rel0)))), AV.c (C.fn ((47 : Nat)) [] [Rf.ptr (0) (0)])] [(0, Blk.cells (List.map C.d (pubC ((SRel.pubs (c.rels.getD rel.toNat rel0)).getD
 i27.toNat pub0))) (122))] < (↑(SRel.sets (c.rels.getD rel.toNat rel0)).length : Int)) then Lsnb_9 Z c mp np fp nd fd rel g m g l1 n2 f2 n3 f3 n7 f7 0 (fun x => []) (KSn.ix Z [AV.c
 (C.d (Aab (2) setC set0 (SRel.sets (c.rels.getD rel.toNat rel0)))), AV.c (C.fn (47) [] [Rf.ptr (0) (0)])] [(0, Blk.cells (List.map C.d (pubC ((SRel.pubs (c.rels.getD rel.toNat
 rel0)).getD i27.toNat pub0))) (122))]) i27 ((↑(SSet.sigs ((SRel.sets (c.rels.getD rel.toNat rel0)).getD (Int.toNat (KSn.ix Z [AV.c (C.d (Aab (2) setC set0 (SRel.sets (c.rels.getD
 rel.toNat rel0)))), AV.c (C.fn (47) [] [Rf.ptr (0) (0)])] [(0, Blk.cells (List.map C.d (pubC ((SRel.pubs (c.rels.getD rel.toNat rel0)).getD i27.toNat pub0))) (122))]))
 set0)).length : Int)) 0 (KSn.ix Z [AV.c (C.d (Aab (2) setC set0 (SRel.sets (c.rels.getD rel.toNat rel0)))), AV.c (C.fn (47) [] [Rf.ptr (0) (0)])] [(0, Blk.cells (List.map C.d (pubC
 ((SRel.pubs (c.rels.getD rel.toNat rel0)).getD i27.toNat pub0))) (122))]) (SPub.fst (KSn.pb Z [AV.c (C.d (Aab (2) setC set0 (SRel.sets (c.rels.getD rel.toNat rel0)))), AV.c (C.fn
 (47) [] [Rf.ptr (0) (0)])] [(0, Blk.cells (List.map C.d (pubC ((SRel.pubs (c.rels.getD rel.toNat rel0)).getD i27.toNat pub0))) (122))])) (SPub.max (KSn.pb Z [AV.c (C.d (Aab (2)
 setC set0 (SRel.sets (c.rels.getD rel.toNat rel0)))), AV.c (C.fn (47) [] [Rf.ptr (0) (0)])] [(0, Blk.cells (List.map C.d (pubC ((SRel.pubs (c.rels.getD rel.toNat rel0)).getD
 i27.toNat pub0))) (122))])) else none) else none) else none) else some (T.leaf (AV.agg [C.d (Aab (1) busC e0 (KSn.ou Z [AV.agg (List.map C.d (relC (c.rels.getD rel.toNat
 rel0)))])), C.row (4) (1) n7, C.d (.v (.slice none 0 0))], [(0, Blk.cells [C.d (.v (.string (SSta.name c.sta))), C.d (Aab (1) busC e0 (SSta.buses c.sta)), C.d (Aab (5) Aap Aaf
 (SSta.lines c.sta)), C.d (Aab (6) Aao src0 (SSta.srcs c.sta)), C.d (Aab (12) bayC bay0 (SSta.bays c.sta)), C.d (Aab (53) relC rel0 c.rels), C.mp (1), C.row (2) (5) n2, C.row (3)
 (3) n3] (81)), (1, Blk.map (4) l1), (2, Blk.row n2 f2 (5) (70)), (3, Blk.row n3 f3 (3) ((51 : Nat))), (4, Blk.row n7 f7 (1) (3))]))) := by kernel_rfl
theorem stsnb_9 (Z : KSn) (c : SCfg) (mp : List (Value × Value)) (np : Nat) (fp : Nat → List D) (nd : Nat) (fd : Nat → List D) (rel : Int) (g mo m : Nat) (l1 : List (Value × Value)) (n2 : Nat) (f2 : Nat → List D) (n3 : Nat) (f3 : Nat → List D) (n7 : Nat) (f7 : Nat → List D) (n9 : Nat) (f9 : Nat → List D) (i9 : Int) (i27 : Int) (i48 : Int) (i49 : Int) (x8 : Int) (x8_2 : Int) (x8_3 : Int) : Lsnb_9 Z c mp np fp nd fd rel g mo (m + 1) l1 n2 f2 n3 f3 n7 f7 n9 f9 i9 i27 i48 i49 x8 x8_2 x8_3 =
 (bif decide (i49 < i48) then (bif decide (0 ≤ i49) && decide (i49 < (↑(SSet.sigs ((SRel.sets (c.rels.getD rel.toNat rel0)).getD (Int.toNat (KSn.ix Z [AV.c (C.d (Aab (2) setC set0
 (SRel.sets (c.rels.getD rel.toNat rel0)))), AV.c (C.fn (47) [] [Rf.ptr (0) ((0 : Nat))])] [(0, Blk.cells (List.map C.d (pubC ((SRel.pubs (c.rels.getD rel.toNat rel0)).getD
 i27.toNat pub0))) (122))])) set0)).length : Int)) then (bif KSn.okx Z [AV.c (C.d (Aab (1) busC e0 (KSn.ou Z [AV.agg (List.map C.d (relC (c.rels.getD rel.toNat rel0)))]))), AV.c
 (C.d (D.v (Value.string ((SSet.sigs ((SRel.sets (c.rels.getD rel.toNat rel0)).getD (Int.toNat (KSn.ix Z [AV.c (C.d (Aab (2) setC set0 (SRel.sets (c.rels.getD rel.toNat rel0)))),
 AV.c (C.fn (47) [] [Rf.ptr (0) (0)])] [(0, Blk.cells (List.map C.d (pubC ((SRel.pubs (c.rels.getD rel.toNat rel0)).getD i27.toNat pub0))) (122))])) set0)).getD i49.toNat e0))))]
 then (bif decide ((n9 + 1) * 8 ≤ (140737488355328 : Nat)) && decide (n9 + 1 ≤ 9223372036854775807) then Lsnb_9 Z c mp np fp nd fd rel g mo m l1 n2 f2 n3 f3 n7 f7 (n9 + 1) (appF n9
 f9 (Aat [D.v (Value.int IntKind.i64 (KSn.sx Z [AV.c (C.d (Aab (1) busC e0 (KSn.ou Z [AV.agg (List.map C.d (relC (c.rels.getD rel.toNat rel0)))]))), AV.c (C.d (D.v (Value.string
 ((SSet.sigs ((SRel.sets (c.rels.getD rel.toNat rel0)).getD (Int.toNat (KSn.ix Z [AV.c (C.d (Aab (2) setC set0 (SRel.sets (c.rels.getD rel.toNat rel0)))), AV.c (C.fn (47) [] [Rf.ptr
 (0) (0)])] [(0, Blk.cells (List.map C.d (pubC ((SRel.pubs (c.rels.getD rel.toNat rel0)).getD i27.toNat pub0))) (122))])) set0)).getD i49.toNat e0))))]))] (0 + 1))) i9 i27 i48
 (IntKind.wrap .i64 (i49 + 1)) x8 x8_2 x8_3 else none) else none) else none) else (bif decide ((n7 + 1) * 8 ≤ 140737488355328) && decide (n7 + 1 ≤ 9223372036854775807) then (bif
 decide ((n2 + 1) * 56 ≤ 140737488355328) && decide (n2 + 1 ≤ 9223372036854775807) then AcL Z c mp np fp nd fd rel g mo ((Value.agg #[Value.int IntKind.i64 rel, Value.int
 IntKind.i64 i9], Value.int IntKind.i64 (↑(dlen l1) : Int)) :: l1) n3 f3 (n2 + 1) (appF n2 f2 (Aat [D.v (.int .i64 rel), D.v (.int .i64 x8), D.v (.int .i64 x8_2), D.v (.int .i64
 x8_3), D.sl 1 n9 f9] (4 + 1))) (n7 + 1) (appF n7 f7 (Aat [D.v (.int .i64 (↑(dlen l1) : Int))] (0 + 1))) (IntKind.wrap .i64 (i27 + 1)) else none) else none)) := by kernel_rfl
theorem stsnb_4b (Z : KSn) (c : SCfg) (mp : List (Value × Value)) (np : Nat) (fp : Nat → List D) (nd : Nat) (fd : Nat → List D) (rel : Int) (g m : Nat) (l1 : List (Value × Value)) (n3 : Nat) (f3 : Nat → List D) (n4 : Nat) (f4 : Nat → List D) (n8 : Nat) (f8 : Nat → List D) (i27 : Int) : AcL Z c mp np fp nd fd rel g (m + 1) l1 n3 f3 n4 f4 n8 f8 i27 =
 (bif decide (i27 < (↑(SRel.pubs (c.rels.getD rel.toNat rel0)).length : Int)) then (bif decide (0 ≤ i27) && decide (i27 < (↑(SRel.pubs (c.rels.getD rel.toNat rel0)).length : Int))
 then (bif KSn.oki Z [AV.c (C.d (Aab (2) setC set0 (SRel.sets (c.rels.getD rel.toNat rel0)))), AV.c (C.fn (47) [] [Rf.ptr (0) (0)])] [(0, Blk.cells (List.map C.d (pubC ((SRel.pubs
 (c.rels.getD rel.toNat rel0)).getD i27.toNat pub0))) (122))] then (bif decide (0 ≤ KSn.ix Z [AV.c (C.d (Aab (2) setC set0 (SRel.sets (c.rels.getD rel.toNat rel0)))), AV.c (C.fn
 (47) [] [Rf.ptr (0) (0)])] [(0, Blk.cells (List.map C.d (pubC ((SRel.pubs (c.rels.getD rel.toNat rel0)).getD i27.toNat pub0))) (122))]) && decide (KSn.ix Z [AV.c (C.d (Aab (2) setC
 set0 (SRel.sets (c.rels.getD rel.toNat rel0)))), AV.c (C.fn ((47 : Nat)) [] [Rf.ptr (0) (0)])] [(0, Blk.cells (List.map C.d (pubC ((SRel.pubs (c.rels.getD rel.toNat rel0)).getD
 i27.toNat pub0))) (122))] < (↑(SRel.sets (c.rels.getD rel.toNat rel0)).length : Int)) then AhJ Z c mp np fp nd fd rel g m g l1 n3 f3 n4 f4 n8 f8 0 (fun x => []) (KSn.ix Z [AV.c
 (C.d (Aab (2) setC set0 (SRel.sets (c.rels.getD rel.toNat rel0)))), AV.c (C.fn (47) [] [Rf.ptr (0) (0)])] [(0, Blk.cells (List.map C.d (pubC ((SRel.pubs (c.rels.getD rel.toNat
 rel0)).getD i27.toNat pub0))) (122))]) i27 ((↑(SSet.sigs ((SRel.sets (c.rels.getD rel.toNat rel0)).getD (Int.toNat (KSn.ix Z [AV.c (C.d (Aab (2) setC set0 (SRel.sets (c.rels.getD
 rel.toNat rel0)))), AV.c (C.fn (47) [] [Rf.ptr (0) (0)])] [(0, Blk.cells (List.map C.d (pubC ((SRel.pubs (c.rels.getD rel.toNat rel0)).getD i27.toNat pub0))) (122))]))
 set0)).length : Int)) 0 (KSn.ix Z [AV.c (C.d (Aab (2) setC set0 (SRel.sets (c.rels.getD rel.toNat rel0)))), AV.c (C.fn (47) [] [Rf.ptr (0) (0)])] [(0, Blk.cells (List.map C.d (pubC
 ((SRel.pubs (c.rels.getD rel.toNat rel0)).getD i27.toNat pub0))) (122))]) (SPub.fst (KSn.pb Z [AV.c (C.d (Aab (2) setC set0 (SRel.sets (c.rels.getD rel.toNat rel0)))), AV.c (C.fn
 (47) [] [Rf.ptr (0) (0)])] [(0, Blk.cells (List.map C.d (pubC ((SRel.pubs (c.rels.getD rel.toNat rel0)).getD i27.toNat pub0))) (122))])) (SPub.max (KSn.pb Z [AV.c (C.d (Aab (2)
 setC set0 (SRel.sets (c.rels.getD rel.toNat rel0)))), AV.c (C.fn (47) [] [Rf.ptr (0) (0)])] [(0, Blk.cells (List.map C.d (pubC ((SRel.pubs (c.rels.getD rel.toNat rel0)).getD
 i27.toNat pub0))) (122))])) else none) else none) else none) else some (T.leaf (AV.agg [C.d (Aab (1) busC e0 (KSn.ou Z [AV.agg (List.map C.d (relC (c.rels.getD rel.toNat
 rel0)))])), C.row (5) (1) n8, C.d (.v (.slice none 0 0))], [(0, Blk.cells [C.d (.v (.string (SSta.name c.sta))), C.d (Aab (1) busC e0 (SSta.buses c.sta)), C.d (Aab (5) Aap Aaf
 (SSta.lines c.sta)), C.d (Aab (6) Aao src0 (SSta.srcs c.sta)), C.d (Aab (12) bayC bay0 (SSta.bays c.sta)), C.d (Aab (53) relC rel0 c.rels), C.mp (1), C.row (4) (5) n4, C.row (3)
 (3) n3] (81)), (1, Blk.map (4) l1), (2, Blk.dead), (3, Blk.row n3 f3 (3) (51)), (4, Blk.row n4 f4 (5) (70)), (5, Blk.row n8 f8 (1) (3))]))) := by kernel_rfl
theorem stsnb_9b (Z : KSn) (c : SCfg) (mp : List (Value × Value)) (np : Nat) (fp : Nat → List D) (nd : Nat) (fd : Nat → List D) (rel : Int) (g mo m : Nat) (l1 : List (Value × Value)) (n3 : Nat) (f3 : Nat → List D) (n4 : Nat) (f4 : Nat → List D) (n8 : Nat) (f8 : Nat → List D) (n10 : Nat) (f10 : Nat → List D) (i9 : Int) (i27 : Int) (i48 : Int) (i49 : Int) (x9 : Int) (x9_2 : Int) (x9_3 : Int) : AhJ Z c mp np fp nd fd rel g mo (m + 1) l1 n3 f3 n4 f4 n8 f8 n10 f10 i9 i27 i48 i49 x9 x9_2 x9_3 =
 (bif decide (i49 < i48) then (bif decide (0 ≤ i49) && decide (i49 < (↑(SSet.sigs ((SRel.sets (c.rels.getD rel.toNat rel0)).getD (Int.toNat (KSn.ix Z [AV.c (C.d (Aab (2) setC set0
 (SRel.sets (c.rels.getD rel.toNat rel0)))), AV.c (C.fn (47) [] [Rf.ptr (0) ((0 : Nat))])] [(0, Blk.cells (List.map C.d (pubC ((SRel.pubs (c.rels.getD rel.toNat rel0)).getD
 i27.toNat pub0))) (122))])) set0)).length : Int)) then (bif KSn.okx Z [AV.c (C.d (Aab (1) busC e0 (KSn.ou Z [AV.agg (List.map C.d (relC (c.rels.getD rel.toNat rel0)))]))), AV.c
 (C.d (D.v (Value.string ((SSet.sigs ((SRel.sets (c.rels.getD rel.toNat rel0)).getD (Int.toNat (KSn.ix Z [AV.c (C.d (Aab (2) setC set0 (SRel.sets (c.rels.getD rel.toNat rel0)))),
 AV.c (C.fn (47) [] [Rf.ptr (0) (0)])] [(0, Blk.cells (List.map C.d (pubC ((SRel.pubs (c.rels.getD rel.toNat rel0)).getD i27.toNat pub0))) (122))])) set0)).getD i49.toNat e0))))]
 then (bif decide ((n10 + 1) * 8 ≤ (140737488355328 : Nat)) && decide (n10 + 1 ≤ 9223372036854775807) then AhJ Z c mp np fp nd fd rel g mo m l1 n3 f3 n4 f4 n8 f8 (n10 + 1) (appF n10
 f10 (Aat [D.v (Value.int IntKind.i64 (KSn.sx Z [AV.c (C.d (Aab (1) busC e0 (KSn.ou Z [AV.agg (List.map C.d (relC (c.rels.getD rel.toNat rel0)))]))), AV.c (C.d (D.v (Value.string
 ((SSet.sigs ((SRel.sets (c.rels.getD rel.toNat rel0)).getD (Int.toNat (KSn.ix Z [AV.c (C.d (Aab (2) setC set0 (SRel.sets (c.rels.getD rel.toNat rel0)))), AV.c (C.fn (47) [] [Rf.ptr
 (0) (0)])] [(0, Blk.cells (List.map C.d (pubC ((SRel.pubs (c.rels.getD rel.toNat rel0)).getD i27.toNat pub0))) (122))])) set0)).getD i49.toNat e0))))]))] (0 + 1))) i9 i27 i48
 (IntKind.wrap IntKind.i64 (i49 + 1)) x9 x9_2 x9_3 else none) else none) else none) else (bif decide ((n8 + 1) * 8 ≤ 140737488355328) && decide (n8 + 1 ≤ 9223372036854775807) then
 (bif decide ((n4 + 1) * 56 ≤ 140737488355328) && decide (n4 + 1 ≤ 9223372036854775807) then AcL Z c mp np fp nd fd rel g mo ((Value.agg #[Value.int IntKind.i64 rel, Value.int
 IntKind.i64 i9], Value.int IntKind.i64 (↑(dlen l1) : Int)) :: l1) n3 f3 (n4 + 1) (appF n4 f4 (Aat [D.v (.int .i64 rel), D.v (.int .i64 x9), D.v (.int .i64 x9_2), D.v (.int .i64
 x9_3), D.sl 1 n10 f10] (4 + (1 : Nat)))) (n8 + 1) (appF n8 f8 (Aat [D.v (.int .i64 (↑(dlen l1) : Int))] (0 + 1))) (IntKind.wrap .i64 (i27 + 1)) else none) else none)) := by kernel_rfl
noncomputable def annsna : Ann := AaE [(4, ⟨[6, 0, 1, 5, 25, 4, 26, 27], [(6, 1, 1, 3), (0, 7, 5, 70)]⟩), (9, ⟨[10, 6, 47, 0, 1, 5, 25, 4, 26, 27, 9, 48, 49], [(10, 4, 1, 3)]⟩)]
noncomputable def Lsna_4 (Z : KSn) (c : SCfg) (np : Nat) (fp : Nat → List D) (nd : Nat) (fd : Nat → List D) (rel : Int) (g m : Nat) (n1 : Nat) (f1 : Nat → List D) (n2 : Nat) (f2 : Nat → List D) (n6 : Nat) (f6 : Nat → List D) (i27 : Int) := LK Tryz.prog (oSn Z) annsna (List.length (α := Nat × Blk) (HKA c np fp nd fd)) g Tryz.f21 4 m ⟨frm [(0, .c (.ptr 0 0)), (1, .c (.d (.v (.int .i64 rel)))), (4, .c (.ptr 3 0)), (5, .c (.ptr 4 0)), (6, .c (.ptr 5 0)), (25, .c (.d (Aab 3 pubC pub0 (SRel.pubs (List.getD (SCfg.rels c) (Int.toNat rel) rel0))))), (26, .c (.d (.v (.int .i64 (↑(List.length (SRel.pubs (List.getD (SCfg.rels c) (Int.toNat rel) rel0))) : Int))))), (27, .c (.d (.v (.int .i64 i27))))] 0 Tryz.f21.ntmps, [(0, Blk.cells [.d (.v (.string (SSta.name (SCfg.sta c)))), C.d (Aab 1 busC e0 (SSta.buses (SCfg.sta c))), C.d (Aab 5 Aap Aaf (SSta.lines (SCfg.sta c))), C.d (Aab 6 Aao src0 (SSta.srcs (SCfg.sta c))), C.d (Aab 12 bayC bay0 (SSta.bays (SCfg.sta c))), C.d (Aab 53 relC rel0 (SCfg.rels c)), C.d (D.v (Value.map none)), C.row 1 5 n1, C.row 2 3 n2] 81), (1, Blk.row n1 f1 5 70), (2, Blk.row n2 f2 3 51), (3, Blk.cells [.d (.v (.slice none 0 0)), .d (.v (.slice none 0 0)), .d (.v (.slice none 0 0))] 51), (4, Blk.cells (List.map C.d (relC (List.getD (SCfg.rels c) (Int.toNat rel) rel0))) 64), (5, Blk.cells [C.d (Aab 1 busC e0 (KSn.ou Z [.agg (List.map C.d (relC (List.getD (SCfg.rels c) (Int.toNat rel) rel0)))])), C.row 6 1 n6, .d (.v (.slice none 0 0))] 51), (6, Blk.row n6 f6 1 3)], 7⟩
noncomputable def Lsna_9 (Z : KSn) (c : SCfg) (np : Nat) (fp : Nat → List D) (nd : Nat) (fd : Nat → List D) (rel : Int) (g mo m : Nat) (n1 : Nat) (f1 : Nat → List D) (n2 : Nat) (f2 : Nat → List D) (n6 : Nat) (f6 : Nat → List D) (n8 : Nat) (f8 : Nat → List D) (i9 : Int) (i27 : Int) (i48 : Int) (i49 : Int) (x7 : Int) (x7_2 : Int) (x7_3 : Int) := LK2 Tryz.prog (oSn Z) annsna (List.length (α := Nat × Blk) (HKA c np fp nd fd)) g Tryz.f21 4 mo 9 m ⟨frm [(0, .c (.ptr 0 0)), (1, .c (.d (.v (.int .i64 rel)))), (4, .c (.ptr 3 0)), (5, .c (.ptr 4 0)), (6, .c (.ptr 5 0)), (9, .c (.d (.v (.int .i64 i9)))), (10, .c (.ptr 7 0)), (25, .c (.d (Aab 3 pubC pub0 (SRel.pubs (List.getD (SCfg.rels c) (Int.toNat rel) rel0))))), (26, .c (.d (.v (.int .i64 (↑(List.length (SRel.pubs (List.getD (SCfg.rels c) (Int.toNat rel) rel0))) : Int))))), (27, .c (.d (.v (.int .i64 i27)))), (47, .c (.d (Aab 1 busC e0 (SSet.sigs (List.getD (SRel.sets (List.getD (SCfg.rels c) (Int.toNat rel) rel0)) (Int.toNat (KSn.ix Z [.c (.d (Aab 2 setC set0 (SRel.sets (List.getD (SCfg.rels c) (Int.toNat rel) rel0)))), .c (.fn 47 [] [Rf.ptr 0 0])] [(0, Blk.cells (List.map C.d (pubC (List.getD (SRel.pubs (List.getD (SCfg.rels c) (Int.toNat rel) rel0)) (Int.toNat i27) pub0))) 122)])) set0))))), (48, .c (.d (.v (.int .i64 i48)))), (49, .c (.d (.v (.int .i64 i49))))] 0 Tryz.f21.ntmps, [(0, Blk.cells [.d (.v (.string (SSta.name (SCfg.sta c)))), C.d (Aab 1 busC e0 (SSta.buses (SCfg.sta c))), C.d (Aab 5 Aap Aaf (SSta.lines (SCfg.sta c))), C.d (Aab 6 Aao src0 (SSta.srcs (SCfg.sta c))), C.d (Aab 12 bayC bay0 (SSta.bays (SCfg.sta c))), C.d (Aab 53 relC rel0 (SCfg.rels c)), C.d (D.v (Value.map none)), C.row 1 5 n1, C.row 2 3 n2] 81), (1, Blk.row n1 f1 5 70), (2, Blk.row n2 f2 3 51), (3, Blk.cells [.d (.v (.slice none 0 0)), .d (.v (.slice none 0 0)), .d (.v (.slice none 0 0))] 51), (4, Blk.cells (List.map C.d (relC (List.getD (SCfg.rels c) (Int.toNat rel) rel0))) 64), (5, Blk.cells [C.d (Aab 1 busC e0 (KSn.ou Z [.agg (List.map C.d (relC (List.getD (SCfg.rels c) (Int.toNat rel) rel0)))])), C.row 6 1 n6, .d (.v (.slice none 0 0))] 51), (6, Blk.row n6 f6 1 3), (7, Blk.cells [.d (.v (.int .i64 rel)), .d (.v (.int .i64 x7)), .d (.v (.int .i64 x7_2)), .d (.v (.int .i64 x7_3)), C.row 8 1 n8] 70), (8, Blk.row n8 f8 1 3)], 9⟩
noncomputable def AcM (Z : KSn) (c : SCfg) (np : Nat) (fp : Nat → List D) (nd : Nat) (fd : Nat → List D) (rel : Int) (g m : Nat) (n2 : Nat) (f2 : Nat → List D) (l3 : List (Value × Value)) (n4 : Nat) (f4 : Nat → List D) (n8 : Nat) (f8 : Nat → List D) (i27 : Int) := LK Tryz.prog (oSn Z) annsna (List.length (α := Nat × Blk) (HKA c np fp nd fd)) g Tryz.f21 4 m ⟨frm [(0, .c (.ptr 0 0)), (1, .c (.d (.v (.int .i64 rel)))), (4, .c (.ptr 5 0)), (5, .c (.ptr 6 0)), (6, .c (.ptr 7 0)), (25, .c (.d (Aab 3 pubC pub0 (SRel.pubs (List.getD (SCfg.rels c) (Int.toNat rel) rel0))))), (26, .c (.d (.v (.int .i64 (↑(List.length (SRel.pubs (List.getD (SCfg.rels c) (Int.toNat rel) rel0))) : Int))))), (27, .c (.d (.v (.int .i64 i27))))] 0 Tryz.f21.ntmps, [(0, Blk.cells [.d (.v (.string (SSta.name (SCfg.sta c)))), C.d (Aab 1 busC e0 (SSta.buses (SCfg.sta c))), C.d (Aab 5 Aap Aaf (SSta.lines (SCfg.sta c))), C.d (Aab 6 Aao src0 (SSta.srcs (SCfg.sta c))), C.d (Aab 12 bayC bay0 (SSta.bays (SCfg.sta c))), C.d (Aab 53 relC rel0 (SCfg.rels c)), C.mp 3, C.row 4 5 n4, C.row 2 3 n2] 81), (1, Blk.dead), (2, Blk.row n2 f2 3 51), (3, Blk.map 4 l3), (4, Blk.row n4 f4 5 70), (5, Blk.cells [.d (.v (.slice none 0 0)), .d (.v (.slice none 0 0)), .d (.v (.slice none 0 0))] 51), (6, Blk.cells (List.map C.d (relC (List.getD (SCfg.rels c) (Int.toNat rel) rel0))) 64), (7, Blk.cells [C.d (Aab 1 busC e0 (KSn.ou Z [.agg (List.map C.d (relC (List.getD (SCfg.rels c) (Int.toNat rel) rel0)))])), C.row 8 1 n8, .d (.v (.slice none 0 0))] 51), (8, Blk.row n8 f8 1 3)], 9⟩
noncomputable def AhK (Z : KSn) (c : SCfg) (np : Nat) (fp : Nat → List D) (nd : Nat) (fd : Nat → List D) (rel : Int) (g mo m : Nat) (n2 : Nat) (f2 : Nat → List D) (l3 : List (Value × Value)) (n4 : Nat) (f4 : Nat → List D) (n8 : Nat) (f8 : Nat → List D) (n10 : Nat) (f10 : Nat → List D) (i9 : Int) (i27 : Int) (i48 : Int) (i49 : Int) (x9 : Int) (x9_2 : Int) (x9_3 : Int) := LK2 Tryz.prog (oSn Z) annsna (List.length (α := Nat × Blk) (HKA c np fp nd fd)) g Tryz.f21 4 mo 9 m ⟨frm [(0, .c (.ptr 0 0)), (1, .c (.d (.v (.int .i64 rel)))), (4, .c (.ptr 5 0)), (5, .c (.ptr 6 0)), (6, .c (.ptr 7 0)), (9, .c (.d (.v (.int .i64 i9)))), (10, .c (.ptr 9 0)), (25, .c (.d (Aab 3 pubC pub0 (SRel.pubs (List.getD (SCfg.rels c) (Int.toNat rel) rel0))))), (26, .c (.d (.v (.int .i64 (↑(List.length (SRel.pubs (List.getD (SCfg.rels c) (Int.toNat rel) rel0))) : Int))))), (27, .c (.d (.v (.int .i64 i27)))), (47, .c (.d (Aab 1 busC e0 (SSet.sigs (List.getD (SRel.sets (List.getD (SCfg.rels c) (Int.toNat rel) rel0)) (Int.toNat (KSn.ix Z [.c (.d (Aab 2 setC set0 (SRel.sets (List.getD (SCfg.rels c) (Int.toNat rel) rel0)))), .c (.fn 47 [] [Rf.ptr 0 0])] [(0, Blk.cells (List.map C.d (pubC (List.getD (SRel.pubs (List.getD (SCfg.rels c) (Int.toNat rel) rel0)) (Int.toNat i27) pub0))) 122)])) set0))))), (48, .c (.d (.v (.int .i64 i48)))), (49, .c (.d (.v (.int .i64 i49))))] 0 Tryz.f21.ntmps, [(0, Blk.cells [.d (.v (.string (SSta.name (SCfg.sta c)))), C.d (Aab 1 busC e0 (SSta.buses (SCfg.sta c))), C.d (Aab 5 Aap Aaf (SSta.lines (SCfg.sta c))), C.d (Aab 6 Aao src0 (SSta.srcs (SCfg.sta c))), C.d (Aab 12 bayC bay0 (SSta.bays (SCfg.sta c))), C.d (Aab 53 relC rel0 (SCfg.rels c)), C.mp 3, C.row 4 5 n4, C.row 2 3 n2] 81), (1, Blk.dead), (2, Blk.row n2 f2 3 51), (3, Blk.map 4 l3), (4, Blk.row n4 f4 5 70), (5, Blk.cells [.d (.v (.slice none 0 0)), .d (.v (.slice none 0 0)), .d (.v (.slice none 0 0))] 51), (6, Blk.cells (List.map C.d (relC (List.getD (SCfg.rels c) (Int.toNat rel) rel0))) 64), (7, Blk.cells [C.d (Aab 1 busC e0 (KSn.ou Z [.agg (List.map C.d (relC (List.getD (SCfg.rels c) (Int.toNat rel) rel0)))])), C.row 8 1 n8, .d (.v (.slice none 0 0))] 51), (8, Blk.row n8 f8 1 3), (9, Blk.cells [.d (.v (.int .i64 rel)), .d (.v (.int .i64 x9)), .d (.v (.int .i64 x9_2)), .d (.v (.int .i64 x9_3)), C.row 10 1 n10] 70), (10, Blk.row n10 f10 1 3)], 11⟩
theorem bsna : Tryz.f21.body = some (Aad Tryz.f21) := by kernel_rfl
theorem evsna (Z : KSn) (c : SCfg) (np : Nat) (fp : Nat → List D) (nd : Nat) (fd : Nat → List D) (rel : Int) (g : Nat) : Aai Tryz.prog (oSn Z) annsna g Tryz.f21 (Aad Tryz.f21) [.c (.ptr 0 0), vI rel] (HKA c np fp nd fd) =
 (bif decide (0 ≤ rel) && decide (rel < (↑c.rels.length : Int)) then (bif KSn.oko Z [AV.agg (List.map C.d (relC (c.rels.getD rel.toNat rel0)))] then Lsna_4 Z c np fp nd fd rel g g
 np fp nd fd 0 (fun x => []) 0 else none) else none) := by kernel_rfl
theorem stsna_4 (Z : KSn) (c : SCfg) (np : Nat) (fp : Nat → List D) (nd : Nat) (fd : Nat → List D) (rel : Int) (g m : Nat) (n1 : Nat) (f1 : Nat → List D) (n2 : Nat) (f2 : Nat → List D) (n6 : Nat) (f6 : Nat → List D) (i27 : Int) : Lsna_4 Z c np fp nd fd rel g (m + 1) n1 f1 n2 f2 n6 f6 i27 =
 (bif decide (i27 < (↑(SRel.pubs (c.rels.getD rel.toNat rel0)).length : Int)) then (bif decide (0 ≤ i27) && decide (i27 < (↑(SRel.pubs (c.rels.getD rel.toNat rel0)).length : Int))
 then (bif KSn.oki Z [AV.c (C.d (Aab (2) setC set0 (SRel.sets (c.rels.getD rel.toNat rel0)))), AV.c (C.fn (47) [] [Rf.ptr (0) (0)])] [(0, Blk.cells (List.map C.d (pubC ((SRel.pubs
 (c.rels.getD rel.toNat rel0)).getD i27.toNat pub0))) (122))] then (bif decide (0 ≤ KSn.ix Z [AV.c (C.d (Aab (2) setC set0 (SRel.sets (c.rels.getD rel.toNat rel0)))), AV.c (C.fn
 (47) [] [Rf.ptr (0) (0)])] [(0, Blk.cells (List.map C.d (pubC ((SRel.pubs (c.rels.getD rel.toNat rel0)).getD i27.toNat pub0))) (122))]) && decide (KSn.ix Z [AV.c (C.d (Aab (2) setC
 set0 (SRel.sets (c.rels.getD rel.toNat rel0)))), AV.c (C.fn ((47 : Nat)) [] [Rf.ptr (0) (0)])] [(0, Blk.cells (List.map C.d (pubC ((SRel.pubs (c.rels.getD rel.toNat rel0)).getD
 i27.toNat pub0))) (122))] < (↑(SRel.sets (c.rels.getD rel.toNat rel0)).length : Int)) then Lsna_9 Z c np fp nd fd rel g m g n1 f1 n2 f2 n6 f6 0 (fun x => []) (KSn.ix Z [AV.c (C.d
 (Aab (2) setC set0 (SRel.sets (c.rels.getD rel.toNat rel0)))), AV.c (C.fn (47) [] [Rf.ptr (0) (0)])] [((0 : Nat), Blk.cells (List.map C.d (pubC ((SRel.pubs (c.rels.getD rel.toNat
 rel0)).getD i27.toNat pub0))) (122))]) i27 ((↑(SSet.sigs ((SRel.sets (c.rels.getD rel.toNat rel0)).getD (Int.toNat (KSn.ix Z [AV.c (C.d (Aab (2) setC set0 (SRel.sets (c.rels.getD
 rel.toNat rel0)))), AV.c (C.fn (47) [] [Rf.ptr (0) (0)])] [(0, Blk.cells (List.map C.d (pubC ((SRel.pubs (c.rels.getD rel.toNat rel0)).getD i27.toNat pub0))) (122))]))
 set0)).length : Int)) 0 (KSn.ix Z [AV.c (C.d (Aab (2) setC set0 (SRel.sets (c.rels.getD rel.toNat rel0)))), AV.c (C.fn (47) [] [Rf.ptr (0) (0)])] [(0, Blk.cells (List.map C.d (pubC
 ((SRel.pubs (c.rels.getD rel.toNat rel0)).getD i27.toNat pub0))) (122))]) (SPub.fst (KSn.pb Z [AV.c (C.d (Aab (2) setC set0 (SRel.sets (c.rels.getD rel.toNat rel0)))), AV.c (C.fn
 (47) [] [Rf.ptr (0) (0)])] [(0, Blk.cells (List.map C.d (pubC ((SRel.pubs (c.rels.getD rel.toNat rel0)).getD i27.toNat pub0))) (122))])) (SPub.max (KSn.pb Z [AV.c (C.d (Aab (2)
 setC set0 (SRel.sets (c.rels.getD rel.toNat rel0)))), AV.c (C.fn (47) [] [Rf.ptr (0) (0)])] [(0, Blk.cells (List.map C.d (pubC ((SRel.pubs (c.rels.getD rel.toNat rel0)).getD
 i27.toNat pub0))) ((122 : Nat)))])) else none) else none) else none) else some (T.leaf (AV.agg [C.d (Aab (1) busC e0 (KSn.ou Z [AV.agg (List.map C.d (relC (c.rels.getD rel.toNat
 rel0)))])), C.row (3) (1) n6, C.d (.v (.slice none 0 0))], [(0, Blk.cells [C.d (.v (.string (SSta.name c.sta))), C.d (Aab (1) busC e0 (SSta.buses c.sta)), C.d (Aab (5) Aap Aaf
 (SSta.lines c.sta)), C.d (Aab (6) Aao src0 (SSta.srcs c.sta)), C.d (Aab (12) bayC bay0 (SSta.bays c.sta)), C.d (Aab (53) relC rel0 c.rels), C.d (D.v (Value.map none)), C.row (1)
 (5) n1, C.row (2) (3) n2] (81)), (1, Blk.row n1 f1 (5) (70)), (2, Blk.row n2 f2 (3) (51)), (3, Blk.row n6 f6 ((1 : Nat)) (3))]))) := by kernel_rfl
theorem stsna_9 (Z : KSn) (c : SCfg) (np : Nat) (fp : Nat → List D) (nd : Nat) (fd : Nat → List D) (rel : Int) (g mo m : Nat) (n1 : Nat) (f1 : Nat → List D) (n2 : Nat) (f2 : Nat → List D) (n6 : Nat) (f6 : Nat → List D) (n8 : Nat) (f8 : Nat → List D) (i9 : Int) (i27 : Int) (i48 : Int) (i49 : Int) (x7 : Int) (x7_2 : Int) (x7_3 : Int) : Lsna_9 Z c np fp nd fd rel g mo (m + 1) n1 f1 n2 f2 n6 f6 n8 f8 i9 i27 i48 i49 x7 x7_2 x7_3 =
 (bif decide (i49 < i48) then (bif decide (0 ≤ i49) && decide (i49 < (↑(SSet.sigs ((SRel.sets (c.rels.getD rel.toNat rel0)).getD (Int.toNat (KSn.ix Z [AV.c (C.d (Aab (2) setC set0
 (SRel.sets (c.rels.getD rel.toNat rel0)))), AV.c (C.fn (47) [] [Rf.ptr (0) ((0 : Nat))])] [(0, Blk.cells (List.map C.d (pubC ((SRel.pubs (c.rels.getD rel.toNat rel0)).getD
 i27.toNat pub0))) (122))])) set0)).length : Int)) then (bif KSn.okx Z [AV.c (C.d (Aab (1) busC e0 (KSn.ou Z [AV.agg (List.map C.d (relC (c.rels.getD rel.toNat rel0)))]))), AV.c
 (C.d (D.v (Value.string ((SSet.sigs ((SRel.sets (c.rels.getD rel.toNat rel0)).getD (Int.toNat (KSn.ix Z [AV.c (C.d (Aab (2) setC set0 (SRel.sets (c.rels.getD rel.toNat rel0)))),
 AV.c (C.fn (47) [] [Rf.ptr (0) (0)])] [(0, Blk.cells (List.map C.d (pubC ((SRel.pubs (c.rels.getD rel.toNat rel0)).getD i27.toNat pub0))) (122))])) set0)).getD i49.toNat e0))))]
 then (bif decide ((n8 + 1) * 8 ≤ (140737488355328 : Nat)) && decide (n8 + 1 ≤ 9223372036854775807) then Lsna_9 Z c np fp nd fd rel g mo m n1 f1 n2 f2 n6 f6 (n8 + 1) (appF n8 f8
 (Aat [D.v (Value.int IntKind.i64 (KSn.sx Z [AV.c (C.d (Aab (1) busC e0 (KSn.ou Z [AV.agg (List.map C.d (relC (c.rels.getD rel.toNat rel0)))]))), AV.c (C.d (D.v (Value.string
 ((SSet.sigs ((SRel.sets (c.rels.getD rel.toNat rel0)).getD (Int.toNat (KSn.ix Z [AV.c (C.d (Aab (2) setC set0 (SRel.sets (c.rels.getD rel.toNat rel0)))), AV.c (C.fn (47) [] [Rf.ptr
 (0) (0)])] [(0, Blk.cells (List.map C.d (pubC ((SRel.pubs (c.rels.getD rel.toNat rel0)).getD i27.toNat pub0))) (122))])) set0)).getD i49.toNat e0))))]))] (0 + 1))) i9 i27 i48
 (IntKind.wrap .i64 (i49 + 1)) x7 x7_2 x7_3 else none) else none) else none) else (bif decide ((n6 + 1) * 8 ≤ 140737488355328) && decide (n6 + 1 ≤ 9223372036854775807) then (bif
 decide ((n1 + 1) * 56 ≤ 140737488355328) && decide (n1 + 1 ≤ 9223372036854775807) then AcM Z c np fp nd fd rel g mo n2 f2 ([(Value.agg #[Value.int IntKind.i64 rel, Value.int
 IntKind.i64 i9], Value.int IntKind.i64 (↑(dlen []) : Int))]) (n1 + 1) (appF n1 f1 (Aat [D.v (Value.int IntKind.i64 rel), D.v (.int .i64 x7), D.v (.int .i64 x7_2), D.v (.int .i64
 x7_3), D.sl 1 n8 f8] (4 + 1))) (n6 + 1) (appF n6 f6 (Aat [D.v (.int .i64 (↑(dlen []) : Int))] (0 + 1))) (IntKind.wrap .i64 (i27 + 1)) else none) else none)) := by kernel_rfl
theorem stsna_4b (Z : KSn) (c : SCfg) (np : Nat) (fp : Nat → List D) (nd : Nat) (fd : Nat → List D) (rel : Int) (g m : Nat) (n2 : Nat) (f2 : Nat → List D) (l3 : List (Value × Value)) (n4 : Nat) (f4 : Nat → List D) (n8 : Nat) (f8 : Nat → List D) (i27 : Int) : AcM Z c np fp nd fd rel g (m + 1) n2 f2 l3 n4 f4 n8 f8 i27 =
 (bif decide (i27 < (↑(SRel.pubs (c.rels.getD rel.toNat rel0)).length : Int)) then (bif decide (0 ≤ i27) && decide (i27 < (↑(SRel.pubs (c.rels.getD rel.toNat rel0)).length : Int))
 then (bif KSn.oki Z [AV.c (C.d (Aab (2) setC set0 (SRel.sets (c.rels.getD rel.toNat rel0)))), AV.c (C.fn (47) [] [Rf.ptr (0) (0)])] [(0, Blk.cells (List.map C.d (pubC ((SRel.pubs
 (c.rels.getD rel.toNat rel0)).getD i27.toNat pub0))) (122))] then (bif decide (0 ≤ KSn.ix Z [AV.c (C.d (Aab (2) setC set0 (SRel.sets (c.rels.getD rel.toNat rel0)))), AV.c (C.fn
 (47) [] [Rf.ptr (0) (0)])] [(0, Blk.cells (List.map C.d (pubC ((SRel.pubs (c.rels.getD rel.toNat rel0)).getD i27.toNat pub0))) (122))]) && decide (KSn.ix Z [AV.c (C.d (Aab (2) setC
 set0 (SRel.sets (c.rels.getD rel.toNat rel0)))), AV.c (C.fn ((47 : Nat)) [] [Rf.ptr (0) (0)])] [(0, Blk.cells (List.map C.d (pubC ((SRel.pubs (c.rels.getD rel.toNat rel0)).getD
 i27.toNat pub0))) (122))] < (↑(SRel.sets (c.rels.getD rel.toNat rel0)).length : Int)) then AhK Z c np fp nd fd rel g m g n2 f2 l3 n4 f4 n8 f8 0 (fun x => []) (KSn.ix Z [AV.c (C.d
 (Aab (2) setC set0 (SRel.sets (c.rels.getD rel.toNat rel0)))), AV.c (C.fn (47) [] [Rf.ptr (0) (0)])] [(0, Blk.cells (List.map C.d (pubC ((SRel.pubs (c.rels.getD rel.toNat
 rel0)).getD i27.toNat pub0))) (122))]) i27 ((↑(SSet.sigs ((SRel.sets (c.rels.getD rel.toNat rel0)).getD (Int.toNat (KSn.ix Z [AV.c (C.d (Aab (2) setC set0 (SRel.sets (c.rels.getD
 rel.toNat rel0)))), AV.c (C.fn (47) [] [Rf.ptr (0) (0)])] [(0, Blk.cells (List.map C.d (pubC ((SRel.pubs (c.rels.getD rel.toNat rel0)).getD i27.toNat pub0))) (122))]))
 set0)).length : Int)) 0 (KSn.ix Z [AV.c (C.d (Aab (2) setC set0 (SRel.sets (c.rels.getD rel.toNat rel0)))), AV.c (C.fn (47) [] [Rf.ptr (0) (0)])] [(0, Blk.cells (List.map C.d (pubC
 ((SRel.pubs (c.rels.getD rel.toNat rel0)).getD i27.toNat pub0))) (122))]) (SPub.fst (KSn.pb Z [AV.c (C.d (Aab (2) setC set0 (SRel.sets (c.rels.getD rel.toNat rel0)))), AV.c (C.fn
 (47) [] [Rf.ptr (0) (0)])] [(0, Blk.cells (List.map C.d (pubC ((SRel.pubs (c.rels.getD rel.toNat rel0)).getD i27.toNat pub0))) (122))])) (SPub.max (KSn.pb Z [AV.c (C.d (Aab (2)
 setC set0 (SRel.sets (c.rels.getD rel.toNat rel0)))), AV.c (C.fn (47) [] [Rf.ptr (0) (0)])] [(0, Blk.cells (List.map C.d (pubC ((SRel.pubs (c.rels.getD rel.toNat rel0)).getD
 i27.toNat pub0))) (122))])) else none) else none) else none) else some (T.leaf (AV.agg [C.d (Aab (1) busC e0 (KSn.ou Z [AV.agg (List.map C.d (relC (c.rels.getD rel.toNat
 rel0)))])), C.row (5) (1) n8, C.d (.v (.slice none 0 0))], [(0, Blk.cells [C.d (.v (.string (SSta.name c.sta))), C.d (Aab (1) busC e0 (SSta.buses c.sta)), C.d (Aab (5) Aap Aaf
 (SSta.lines c.sta)), C.d (Aab (6) Aao src0 (SSta.srcs c.sta)), C.d (Aab (12) bayC bay0 (SSta.bays c.sta)), C.d (Aab (53) relC rel0 c.rels), C.mp (3), C.row (4) (5) n4, C.row (2)
 (3) n2] (81)), (1, Blk.dead), (2, Blk.row n2 f2 (3) (51)), (3, Blk.map (4) l3), (4, Blk.row n4 f4 (5) (70)), (5, Blk.row n8 f8 (1) (3))]))) := by kernel_rfl
theorem stsna_9b (Z : KSn) (c : SCfg) (np : Nat) (fp : Nat → List D) (nd : Nat) (fd : Nat → List D) (rel : Int) (g mo m : Nat) (n2 : Nat) (f2 : Nat → List D) (l3 : List (Value × Value)) (n4 : Nat) (f4 : Nat → List D) (n8 : Nat) (f8 : Nat → List D) (n10 : Nat) (f10 : Nat → List D) (i9 : Int) (i27 : Int) (i48 : Int) (i49 : Int) (x9 : Int) (x9_2 : Int) (x9_3 : Int) : AhK Z c np fp nd fd rel g mo (m + 1) n2 f2 l3 n4 f4 n8 f8 n10 f10 i9 i27 i48 i49 x9 x9_2 x9_3 =
 (bif decide (i49 < i48) then (bif decide (0 ≤ i49) && decide (i49 < (↑(SSet.sigs ((SRel.sets (c.rels.getD rel.toNat rel0)).getD (Int.toNat (KSn.ix Z [AV.c (C.d (Aab (2) setC set0
 (SRel.sets (c.rels.getD rel.toNat rel0)))), AV.c (C.fn (47) [] [Rf.ptr (0) ((0 : Nat))])] [(0, Blk.cells (List.map C.d (pubC ((SRel.pubs (c.rels.getD rel.toNat rel0)).getD
 i27.toNat pub0))) (122))])) set0)).length : Int)) then (bif KSn.okx Z [AV.c (C.d (Aab (1) busC e0 (KSn.ou Z [AV.agg (List.map C.d (relC (c.rels.getD rel.toNat rel0)))]))), AV.c
 (C.d (D.v (Value.string ((SSet.sigs ((SRel.sets (c.rels.getD rel.toNat rel0)).getD (Int.toNat (KSn.ix Z [AV.c (C.d (Aab (2) setC set0 (SRel.sets (c.rels.getD rel.toNat rel0)))),
 AV.c (C.fn (47) [] [Rf.ptr (0) (0)])] [(0, Blk.cells (List.map C.d (pubC ((SRel.pubs (c.rels.getD rel.toNat rel0)).getD i27.toNat pub0))) (122))])) set0)).getD i49.toNat e0))))]
 then (bif decide ((n10 + 1) * 8 ≤ (140737488355328 : Nat)) && decide (n10 + 1 ≤ 9223372036854775807) then AhK Z c np fp nd fd rel g mo m n2 f2 l3 n4 f4 n8 f8 (n10 + 1) (appF n10
 f10 (Aat [D.v (Value.int IntKind.i64 (KSn.sx Z [AV.c (C.d (Aab (1) busC e0 (KSn.ou Z [AV.agg (List.map C.d (relC (c.rels.getD rel.toNat rel0)))]))), AV.c (C.d (D.v (Value.string
 ((SSet.sigs ((SRel.sets (c.rels.getD rel.toNat rel0)).getD (Int.toNat (KSn.ix Z [AV.c (C.d (Aab (2) setC set0 (SRel.sets (c.rels.getD rel.toNat rel0)))), AV.c (C.fn (47) [] [Rf.ptr
 (0) (0)])] [(0, Blk.cells (List.map C.d (pubC ((SRel.pubs (c.rels.getD rel.toNat rel0)).getD i27.toNat pub0))) (122))])) set0)).getD i49.toNat e0))))]))] (0 + 1))) i9 i27 i48
 (IntKind.wrap .i64 (i49 + 1)) x9 x9_2 x9_3 else none) else none) else none) else (bif decide ((n8 + 1) * 8 ≤ 140737488355328) && decide (n8 + 1 ≤ 9223372036854775807) then (bif
 decide ((n4 + 1) * 56 ≤ 140737488355328) && decide (n4 + 1 ≤ 9223372036854775807) then AcM Z c np fp nd fd rel g mo n2 f2 ((Value.agg #[Value.int IntKind.i64 rel, Value.int
 IntKind.i64 i9], Value.int IntKind.i64 (↑(dlen l3) : Int)) :: l3) (n4 + 1) (appF n4 f4 (Aat [D.v (Value.int IntKind.i64 rel), D.v (.int .i64 x9), D.v (.int .i64 x9_2), D.v (.int
 .i64 x9_3), D.sl 1 n10 f10] (4 + 1))) (n8 + 1) (appF n8 f8 (Aat [D.v (.int .i64 (↑(dlen l3) : Int))] (0 + 1))) (IntKind.wrap .i64 (i27 + 1)) else none) else none)) := by kernel_rfl
end Go.Proofs.YtbpndheehcbldaaGreatDoor.tb
namespace Go.Proofs.YtbpndheehcbldaaGreatDoor.sg
open Go.RowKit Go.Eb Go.Proofs.YtbpndheehcbldaaGreatDoor.st
set_option maxRecDepth 100000
abbrev aPl (p : Plc) : AV := .tup [(true, [.d (dI p.rel), .d (dI p.set), .d (dI p.item)]), (false, [.d (dI p.err)])]
abbrev aSub' (x : SSub) : AV := .agg ((subC x).map .d)
def HN (n : ByteArray) : Hp := [(0, .cells [.d (dS n)] 9)]
def HSb (x : SSub) : Hp := [(0, .cells ((subC x).map .d) 68)]
noncomputable def annisx : Ann := AaE [(2, ⟨[0, 1, 7, 8], []⟩)]
noncomputable def Lisx_2 (l : List SSet) (n : ByteArray) (g m : Nat) (i8 : Int) := LK Tryz.prog (Orc.cons 212 (inl Tryz.prog Orc.nil na 1 Tryz.f212) Orc.nil) annisx (List.length (α := Nat × Blk) (HN n)) g Tryz.f46 2 m ⟨frm [(0, .c (.d (Aab 2 setC set0 l))), (1, .c (.fn 212 [] [Rf.ptr 0 0])), (7, .c (.d (.v (.int .i64 (↑(List.length l) : Int))))), (8, .c (.d (.v (.int .i64 i8))))] 0 Tryz.f46.ntmps, [(0, Blk.cells [.d (.v (.string n))] 9)], 1⟩
theorem bisx : Tryz.f46.body = some (Aad Tryz.f46) := by kernel_rfl
theorem evisx (l : List SSet) (n : ByteArray) (g : Nat) : Aai Tryz.prog (Orc.cons 212 (inl Tryz.prog Orc.nil na 1 Tryz.f212) Orc.nil) annisx g Tryz.f46 (Aad Tryz.f46) [.c (.d (AfH l)), .c (.fn 212 [] [.ptr 0 0])] (HN n) =
 Lisx_2 l n g g 0 := by kernel_rfl
theorem stisx_2 (l : List SSet) (n : ByteArray) (g m : Nat) (i8 : Int) : Lisx_2 l n g (m + 1) i8 =
 (bif decide (i8 < (↑l.length : Int)) then (bif decide (0 ≤ i8) && decide (i8 < (↑l.length : Int)) then (bif (SSet.name (l.getD i8.toNat set0)).toList == n.toList then some (T.leaf
 (AV.c (.d (.v (.int .i64 i8))), [(0, Blk.cells [C.d (.v (.string n))] (9))])) else Lisx_2 l n g m (IntKind.wrap .i64 (i8 + 1))) else none) else some (T.leaf (AV.c (.d (.v (.int
 .i64 (-1)))), [(0, Blk.cells [C.d (D.v (Value.string n))] (9))]))) := by kernel_rfl
noncomputable def annipx : Ann := AaE [(2, ⟨[0, 1, 7, 8], []⟩)]
noncomputable def Lipx_2 (l : List SPub) (x : SSub) (g m : Nat) (i8 : Int) := LK Tryz.prog (Orc.cons 146 (inl Tryz.prog Orc.nil na 1 Tryz.f146) Orc.nil) annipx (List.length (α := Nat × Blk) (HSb x)) g Tryz.f213 2 m ⟨frm [(0, .c (.d (Aab 3 pubC pub0 l))), (1, .c (.fn 146 [] [Rf.ptr 0 0])), (7, .c (.d (.v (.int .i64 (↑(List.length l) : Int))))), (8, .c (.d (.v (.int .i64 i8))))] 0 Tryz.f213.ntmps, [(0, Blk.cells (List.map C.d (subC x)) 68)], 1⟩
theorem bipx : Tryz.f213.body = some (Aad Tryz.f213) := by kernel_rfl
theorem evipx (l : List SPub) (x : SSub) (g : Nat) : Aai Tryz.prog (Orc.cons 146 (inl Tryz.prog Orc.nil na 1 Tryz.f146) Orc.nil) annipx g Tryz.f213 (Aad Tryz.f213) [.c (.d (pubsD l)), .c (.fn 146 [] [.ptr 0 0])] (HSb x) =
 Lipx_2 l x g g 0 := by kernel_rfl
theorem stipx_2 (l : List SPub) (x : SSub) (g m : Nat) (i8 : Int) : Lipx_2 l x g (m + 1) i8 =
 (bif decide (i8 < (↑l.length : Int)) then (bif decide (0 ≤ i8) && decide (i8 < (↑l.length : Int)) then (bif (SPub.set (l.getD i8.toNat pub0)).toList == x.set.toList then some
 (T.leaf (AV.c (.d (.v (.int .i64 i8))), [(0, Blk.cells (List.map C.d (subC x)) (68))])) else Lipx_2 l x g m (IntKind.wrap .i64 (i8 + 1))) else none) else some (T.leaf (AV.c (.d (.v
 (.int .i64 (-1)))), [(0, Blk.cells (List.map C.d (subC x)) (68))]))) := by kernel_rfl
end Go.Proofs.YtbpndheehcbldaaGreatDoor.sg
