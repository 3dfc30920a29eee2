/-
  An evaluator of Go code on abstract values, proved sound, and what it computes of the functions that the statement reaches (part 3). No condition.
-/
import Derived.Test.YtbpndheehcbldaaGreatDoorQ2
import Derived.Test.YtbpndheehcbldaaGreatDoorProg
import Derived.KernelRfl
noncomputable section
open Go.Proofs.Tryz
namespace Go.Eb
abbrev leB (b : Bool) : Option (T (AV × Hp)) := some (.leaf (.c (.d (.v (.bool b))), []))
abbrev leI (n : Int) : Option (T (AV × Hp)) := some (.leaf (.c (.d (.v (.int .i64 n))), []))
end Go.Eb
set_option maxRecDepth 100000
namespace Go.Eb
open Go.RowKit
def Det {α β : Type} (F : (R : Type) -> (α -> β -> Option (T R)) -> Option (T R)) : Prop :=
 (∀ (R : Type) (k : α -> β -> Option (T R)), F R k = none) \/ ∃ a b, ∀ (R : Type) (k : α -> β -> Option (T R)), F R k = k a b
def Fx (orc : Orc) : Prop := ∀ f args H, Det fun R k => orc R f args H k
theorem Det.no {α β : Type} {F : (R : Type) -> (α -> β -> Option (T R)) -> Option (T R)} (h : ∀ (R : Type) k, F R k = none) : Det F := .inl h
theorem Det.one {α β : Type} {F : (R : Type) -> (α -> β -> Option (T R)) -> Option (T R)} (a : α) (b : β) (h : ∀ (R : Type) k, F R k = k a b) : Det F := .inr ⟨a, b, h⟩
theorem Det.bif {α β : Type} {F G : (R : Type) -> (α -> β -> Option (T R)) -> Option (T R)} (c : Bool) (h : Det F) (k : Det G) : Det fun R q => bif c then F R q else G R q := by
 cases c with
 | true => exact h
 | false => exact k
theorem Det.congr {α β : Type} {F G : (R : Type) -> (α -> β -> Option (T R)) -> Option (T R)} (h : Det F) (e : ∀ (R : Type) k, G R k = F R k) : Det G := by
 rcases h with h | ⟨a, b, h⟩
 ·exact .inl fun R k => (e R k).trans (h R k)
 ·exact .inr ⟨a, b, fun R k => (e R k).trans (h R k)⟩
theorem Det.bind {α β γ δ : Type} {F : (R : Type) -> (α -> β -> Option (T R)) -> Option (T R)} (h : Det F) {G : α -> β -> (R : Type) -> (γ -> δ -> Option (T R)) -> Option (T R)} (hG : ∀ a b, Det (G a b)) :
  Det fun R k => F R fun a b => G a b R k := by
 rcases h with h | ⟨a, b, h⟩
 ·exact .inl fun R k => h R _
 ·rcases hG a b with g | ⟨c, d, g⟩
  ·exact .inl fun R k => (h R _).trans (g R k)
  ·exact .inr ⟨c, d, fun R k => (h R _).trans (g R k)⟩
section
variable {P : Program} {orc : Orc}
theorem Aaq (ho : Fx orc) (h0 : Nat) (a : Do) (H : Hp) : (∀ (R : Type) k, Cr (R := R) orc h0 a H k = none) \/ ∃ x ft u, ∀ (R : Type) k, Cr (R := R) orc h0 a H k = k x ft u := by
 cases a with
 | call f args =>
  simp only [Cr]
  cases hL : AbZ H args with
  | none => exact .inl fun R k => rfl
  | some L =>
   rcases ho f (Lp L args) (Uw H L) with h | ⟨x, Hr, h⟩
   ·exact .inl fun R k => h R _
   ·exact .inr ⟨_, _, _, fun R k => h R _⟩
 | next h =>
  simp only [Cr]
  cases look H h with
  | none => exact .inl fun R k => rfl
  | some b =>
   cases b with
   | iter s pos =>
    cases hb : Nat.blt pos s.size with
    | true => exact .inr ⟨_, _, _, fun R k => by simp only [hb, cond_true]; rfl⟩
    | false => exact .inr ⟨_, _, _, fun R k => by simp only [hb, cond_false]; rfl⟩
   | _ => exact .inl fun R k => rfl
 | ustr h n e =>
  simp only [Cr]
  cases look H h with
  | none => exact .inl fun R k => rfl
  | some b =>
   cases b with
   | row m f sz t =>
    cases hb : (Nat.ble n m && Nat.beq sz 1 && Nat.beq t e && Gp n f) with
    | true => exact .inr ⟨_, _, _, fun R k => by simp only [hb, cond_true]; rfl⟩
    | false => exact .inl fun R k => by simp only [hb, cond_false]
   | _ => exact .inl fun R k => rfl
 | cstr h n =>
  simp only [Cr]
  cases hb : Fu n (look H h) with
  | true => exact .inr ⟨_, _, _, fun R k => by simp only [cond_true]; rfl⟩
  | false => exact .inl fun R k => by simp only [cond_false]
 | idx h off s len n =>
  simp only [Cr]
  cases n == 0 with
  | true => exact .inr ⟨_, _, _, fun R k => rfl⟩
  | false =>
   cases Nat.ble 2 len && n == 1 with
   | true => exact .inr ⟨_, _, _, fun R k => rfl⟩
   | false =>
    cases Nat.ble 3 len && n == 2 with
    | true => exact .inr ⟨_, _, _, fun R k => rfl⟩
    | false =>
     cases Nat.ble 4 len && n == 3 with
     | true => exact .inr ⟨_, _, _, fun R k => rfl⟩
     | false => exact .inl fun R k => rfl
 | look h kd key ok z =>
  simp only [Pe]
  split
  ·exact .inr ⟨_, _, _, fun R k => rfl⟩
  ·exact .inl fun R k => rfl
 | _ =>
  all_goals
   simp only [Cr]
   split
   ·exact .inr ⟨_, _, _, fun R k => rfl⟩
   ·exact .inl fun R k => rfl
theorem X7 (ops : Array Oper) (F : List AV) (o : Oper) : (∀ (R : Type) yes no, Hg (R := R) ops F o yes no = none) \/ (∃ F', ∀ (R : Type) yes no, Hg (R := R) ops F o yes no = yes F') \/ ∃ F', ∀ (R : Type) yes no, Hg (R := R) ops F o yes no = no F' := by
 unfold Hg
 split
 ·exact .inr (.inl ⟨_, fun R yes no => rfl⟩)
 ·rename_i j want _
  split
  ·exact .inr (.inr ⟨_, fun R yes no => rfl⟩)
  ·split
   ·rename_i b _
    cases b <;> cases want
    ·exact .inr (.inl ⟨_, fun R yes no => rfl⟩)
    ·exact .inr (.inr ⟨_, fun R yes no => rfl⟩)
    ·exact .inr (.inr ⟨_, fun R yes no => rfl⟩)
    ·exact .inr (.inl ⟨_, fun R yes no => rfl⟩)
   ·exact .inr (.inr ⟨_, fun R yes no => rfl⟩)
   ·exact .inl fun R yes no => rfl
theorem Zl (ho : Fx orc) (ops : Array Oper) (i : Nat) (s : St) : Det fun R k => Tu (R := R) P orc ops i s k := by
 unfold Tu
 simp only [Mr, Aac, Aay, T0]
 split
 ·exact .no fun R k => rfl
 ·rename_i o _
  rcases X7 ops s.F o with h | ⟨F', h⟩ | ⟨F', h⟩
  ·exact .no fun R k => h R _ _
  ·cases hr : res P o (opA F') with
   | none => exact .no fun R k => by rw [h]; simp only [hr]
   | some p =>
    obtain ⟨ok, a⟩ := p
    cases ok with
    | false => exact .no fun R k => by rw [h]; simp only [hr, cond_false]
    | true =>
     rcases Aaq ho (s.nm + 16 * i) a s.H with g | ⟨x, ft, u, g⟩
     ·exact .no fun R k => by rw [h]; simp only [hr, cond_true]; exact g R _
     ·exact .one _ _ fun R k => by rw [h]; simp only [hr, cond_true]; exact g R _
  ·exact .one _ _ fun R k => h R _ _
theorem V1 (ho : Fx orc) (ops : Array Oper) : ∀ (l : List Nat) (tr : List (Nat × Tx)) (s : St), Det fun R k => opsK (R := R) P orc ops l tr s k
 | [], tr, s => .one tr s fun R k => rfl
 | i :: rest, tr, s => (Zl ho ops i s).bind fun a s' => V1 ho ops rest (tr ++ [(i, a)]) s'
def C7 : Code -> Bool
 | .region _ ops draw => !(draw && El ops)
 | .seq a b => C7 a && C7 b
 | .cond _ a b => C7 a && C7 b
 | .block _ c => C7 c
 | .loop c => C7 c
 | .scope c => C7 c
 | _ => true
theorem Mc (ho : Fx orc) (ops : Array Oper) (draw : Bool) (s : St) (hd : (draw && El ops) = false) : Det fun R k => Dq (R := R) P orc ops draw s k := by
 unfold Dq
 simp only [hd, cond_false]
 simp only [Q1]
 refine (V1 ho ops _ _ s).bind fun tr s' => ?_
 cases (!draw || (Bv ops (Ht ops.toList []) tr && Cw ops && P.follows .mixedOrders)) with
 | true => exact .one _ _ fun R k => rfl
 | false => exact .no fun R k => rfl
theorem Mn {k0 : Nat} {note : Option Note} {body : (R : Type) -> St -> (Out -> St -> Option (T R)) -> Option (T R)} (hb : ∀ s, Det fun R k => body R s k) : ∀ (n : Nat) (s : St), Det fun R k => Du (R := R) k0 note (body R) n s k
 | 0, s => .no fun R k => rfl
 | n + 1, s => (hb s).bind (G := fun (o : Out) (s' : St) (R : Type) (k : Out -> St -> Option (T R)) => match o with
  | .norm => (match trim k0 note s' with
   | none => none
   | some s0 => Du k0 note (body R) n s0 k)
  | .exit id => k (.exit id) s'
  | .goto l => k (.goto l) s'
  | .ret => k .ret s') fun o s' => by
   cases o with
   | norm =>
    simp only []
    cases trim k0 note s' with
    | none => exact .no fun R k => rfl
    | some s0 => exact Mn hb n s0
   | exit id => exact .one _ _ fun R k => rfl
   | goto l => exact .one _ _ fun R k => rfl
   | ret => exact .one _ _ fun R k => rfl
theorem Ahn (ho : Fx orc) (ann : Ann) (k0 n : Nat) : ∀ (c : Code), C7 c = true -> ∀ (lab : Option Nat) (s : St), Det fun R k => evK (R := R) P orc ann k0 n c lab s k := by
 intro c
 induction c with
 | skip => intro _ lab s; cases lab with
  | none => exact .one _ _ fun R k => by simp only [evK]; rfl
  | some l => exact .no fun R k => by simp only [evK]
 | region id ops draw =>
  intro hn lab s
  cases lab with
  | none =>
   have hd : (draw && El ops) = false := by simp only [C7, Bool.not_eq_true'] at hn; exact hn
   simp only [evK]
   split
   ·exact Mc ho ops draw s hd
   ·split
    ·exact .no fun R k => rfl
    ·rename_i s0 hs0
     cases n with
     | zero => exact .no fun R k => by simp only [Du]
     | succ m =>
      have h := (Mc (P := P) ho ops draw s0 hd).bind (G := fun (o : Out) (s' : St) (R : Type) (k : Out -> St -> Option (T R)) => Sd (fun s'' => k .norm s'') o s') fun o s' => by
       cases o with
       | norm => exact .one _ _ fun R k => rfl
       | _ => exact .no fun R k => rfl
      refine h.congr fun R k => ?_
      simp only [Du]
      exact congrArg _ (funext fun o => funext fun s'' => by cases o <;> rfl)
  | some l => exact .no fun R k => by simp only [evK]
 | seq a b iha ihb =>
  intro hn lab s
  simp only [C7, Bool.and_eq_true] at hn
  have go : ∀ lab', Det fun (R : Type) (k : Out -> St -> Option (T R)) => evK P orc ann k0 n a lab' s fun o s' => match o with
   | .norm => evK P orc ann k0 n b none s' k
   | .exit id => k (.exit id) s'
   | .goto l => k (.goto l) s'
   | .ret => k .ret s' := fun lab' => (iha hn.1 lab' s).bind (G := fun (o : Out) (s' : St) (R : Type) (k : Out -> St -> Option (T R)) => match o with
   | .norm => evK P orc ann k0 n b none s' k
   | .exit id => k (.exit id) s'
   | .goto l => k (.goto l) s'
   | .ret => k .ret s') fun o s' => by
    cases o with
    | norm => exact ihb hn.2 none s'
    | exit id => exact .one _ _ fun R k => rfl
    | goto l => exact .one _ _ fun R k => rfl
    | ret => exact .one _ _ fun R k => rfl
  cases lab with
  | none => simp only [evK]; exact go none
  | some l =>
   simp only [evK]
   cases Cy l a with
   | true => exact go (some l)
   | false => exact ihb hn.2 (some l) s
 | cond c x y ihx ihy =>
  intro hn lab s
  simp only [C7, Bool.and_eq_true] at hn
  cases lab with
  | some l => exact .no fun R k => by simp only [evK]
  | none =>
   simp only [evK]
   split
   ·rename_i b _
    cases b with
    | true => exact ihx hn.1 none s
    | false => exact ihy hn.2 none s
   ·exact .no fun R k => rfl
 | block id c ih =>
  intro hn lab s
  simp only [C7] at hn
  cases lab with
  | some l => exact .no fun R k => by simp only [evK]
  | none =>
   simp only [evK]
   exact (ih hn none s).bind (G := fun (o : Out) (s' : St) (R : Type) (k : Out -> St -> Option (T R)) => match o with
    | .norm => k .norm s'
    | .exit j => bif j == id then k .norm s' else k (.exit j) s'
    | .goto l => k (.goto l) s'
    | .ret => k .ret s') fun o s' => by
     cases o with
     | norm => exact .one _ _ fun R k => rfl
     | exit j => cases hj : (j == id) with
      | true => exact .one _ _ fun R k => by simp only [hj, cond_true]; rfl
      | false => exact .one _ _ fun R k => by simp only [hj, cond_false]; rfl
     | goto l => exact .one _ _ fun R k => rfl
     | ret => exact .one _ _ fun R k => rfl
 | loop c ih =>
  intro hn lab s
  simp only [C7] at hn
  cases lab with
  | some l => exact .no fun R k => by simp only [evK]
  | none =>
   simp only [evK]
   split
   ·exact .no fun R k => rfl
   ·rename_i s0 _
    exact Mn (body := fun (R : Type) (s' : St) (k' : Out -> St -> Option (T R)) => evK P orc ann k0 n c none s' k') (fun s' => ih hn none s') n s0
 | scope c ih =>
  intro hn lab s
  simp only [C7] at hn
  cases lab with
  | some l => exact .no fun R k => by simp only [evK]
  | none =>
   simp only [evK]
   refine (ih hn none s).bind (G := fun (o : Out) (s' : St) (R : Type) (k : Out -> St -> Option (T R)) => match o with
    | .goto l => (match findLabel c l with
     | some rest => (match trim k0 ((Bx rest).bind ann) s' with
      | none => none
      | some s0 => Du k0 ((Bx rest).bind ann) (fun s' k' => evK P orc ann k0 n c (some l) s' fun o s'' => match o with
       | .goto m => bif m == l then k' .norm s'' else none
       | .norm => k' (.goto l) s''
       | .exit id => k' (.exit id) s''
       | .ret => k' .ret s'') n s0 fun o s'' => match o with
        | .goto _ => k .norm s''
        | .norm => none
        | .exit id => k (.exit id) s''
        | .ret => k .ret s'')
     | none => none)
    | .norm => k .norm s'
    | .exit id => k (.exit id) s'
    | .ret => k .ret s') fun o s' => ?_
   cases o with
   | norm => exact .one _ _ fun R k => rfl
   | exit id => exact .one _ _ fun R k => rfl
   | ret => exact .one _ _ fun R k => rfl
   | goto l =>
    simp only []
    split
    ·split
     ·exact .no fun R k => rfl
     ·rename_i rest _ _ s0 _
      refine (Mn (body := fun (R : Type) (s' : St) (k' : Out -> St -> Option (T R)) => evK P orc ann k0 n c (some l) s' fun o s'' => match o with
       | .goto m => bif m == l then k' .norm s'' else none
       | .norm => k' (.goto l) s''
       | .exit id => k' (.exit id) s''
       | .ret => k' .ret s'') (fun s1 => ?_) n s0).bind (G := fun (o : Out) (s'' : St) (R : Type) (k : Out -> St -> Option (T R)) => match o with
        | .goto _ => k .norm s''
        | .norm => none
        | .exit id => k (.exit id) s''
        | .ret => k .ret s'') fun o s'' => ?_
      ·refine (ih hn (some l) s1).bind (G := fun (o : Out) (s'' : St) (R : Type) (k' : Out -> St -> Option (T R)) => match o with
        | .goto m => bif m == l then k' .norm s'' else none
        | .norm => k' (.goto l) s''
        | .exit id => k' (.exit id) s''
        | .ret => k' .ret s'') fun o s'' => ?_
       cases o with
       | goto m => cases hj : (m == l) with
        | true => exact .one _ _ fun R k => by simp only [hj, cond_true]; rfl
        | false => exact .no fun R k => by simp only [hj, cond_false]
       | norm => exact .one _ _ fun R k => rfl
       | exit id => exact .one _ _ fun R k => rfl
       | ret => exact .one _ _ fun R k => rfl
      ·cases o with
       | goto m => exact .one _ _ fun R k => rfl
       | norm => exact .no fun R k => rfl
       | exit id => exact .one _ _ fun R k => rfl
       | ret => exact .one _ _ fun R k => rfl
    ·exact .no fun R k => rfl
 | label m =>
  intro hn lab s
  cases lab with
  | none => exact .one _ _ fun R k => by simp only [evK]; rfl
  | some l =>
   cases hj : (m == l) with
   | true => exact .one _ _ fun R k => by simp only [evK, hj, cond_true]; rfl
   | false => exact .no fun R k => by simp only [evK, hj, cond_false]
 | goto l => intro _ lab s; cases lab with
  | none => exact .one _ _ fun R k => by simp only [evK]; rfl
  | some l => exact .no fun R k => by simp only [evK]
 | exit l => intro _ lab s; cases lab with
  | none => exact .one _ _ fun R k => by simp only [evK]; rfl
  | some l => exact .no fun R k => by simp only [evK]
 | ret => intro _ lab s; cases lab with
  | none => exact .one _ _ fun R k => by simp only [evK]; rfl
  | some l => exact .no fun R k => by simp only [evK]
 | _ => intro _ lab s; exact .no fun R k => by cases lab <;> simp only [evK]
theorem Adw (fn : Func) (k0 : Nat) (o : Out) (s : St) : Det fun R k => endK (R := R) P fn k0 k o s := by
 unfold endK
 cases o with
 | exit _ => exact .no fun R k => rfl
 | goto _ => exact .no fun R k => rfl
 | _ =>
  all_goals
   simp only []
   cases Fa P fn s with
   | none => exact .no fun R k => rfl
   | some l =>
    simp only []
    cases D8 l with
    | none => exact .no fun R k => rfl
    | some x => exact .one _ _ fun R k => rfl
theorem Sj (ho : Fx orc) (ann : Ann) (n : Nat) (fn : Func) (c : Code) (hc : C7 c = true) (args : List AV) (H : Hp) : Det fun R k => Sk (R := R) P orc ann n fn c args H k := by
 unfold Sk
 exact (Ahn ho ann H.length n c hc none _).bind (G := fun o s R k => endK P fn H.length k o s) fun o s => Adw fn H.length o s
end
def inl (P : Program) (orc : Orc) (ann : Ann) (n : Nat) (fn : Func) : (R : Type) -> List AV -> Hp -> (AV -> Hp -> Option (T R)) -> Option (T R) := fun _ args H k =>
 bif C7 (Ad fn) && seqN 0 H then Sk P orc ann n fn (Ad fn) args H k else none
def Tq (g : (R : Type) -> List AV -> Hp -> (AV -> Hp -> Option (T R)) -> Option (T R)) : Prop := ∀ args H, Det fun R k => g R args H k
theorem Ahd {P : Program} {orc : Orc} (ho : Fx orc) {ann : Ann} {n : Nat} {fn : Func} : Tq (inl P orc ann n fn) := fun args H => by
 unfold inl
 cases hc : (C7 (Ad fn) && seqN 0 H) with
 | false => exact .no fun R k => rfl
 | true =>
  simp only [Bool.and_eq_true] at hc
  exact Sj ho ann n fn _ hc.1 args H
theorem AiV {P : Program} {orc : Orc} (ho : Dh P orc) (hd : Fx orc) {ann : Ann} {n : Nat} {f : FuncId} {fn : Func} (hf : P.funcs[f]? = some fn) (hb : fn.body = some (Ad fn)) :
  ∀ (R : Type) args H (k : AV -> Hp -> Option (T R)) t, inl P orc ann n fn R args H k = some t -> ∃ x H', k x H' = some t /\ CX P f args H x H' := fun R args H k t h => by
 unfold inl at h
 cases hc : (C7 (Ad fn) && seqN 0 H) with
 | false => rw [hc] at h; cases h
 | true =>
  rw [hc] at h
  simp only [cond_true] at h
  simp only [Bool.and_eq_true] at hc
  rcases Sj (P := P) hd ann n fn _ hc.1 args H with g | ⟨x, H', g⟩
  ·exact absurd ((g R k).symm.trans h) (by simp)
  ·exact ⟨x, H', (g R k).symm.trans h, Afd ho (ann := ann) (n := n) hf hb hc.2 (by unfold Sl; exact g _ _)⟩
theorem Orc.nil_det : Fx Orc.nil := fun f args H => .no fun R k => rfl
theorem Orc.cons_det {f0 : FuncId} {g : (R : Type) -> List AV -> Hp -> (AV -> Hp -> Option (T R)) -> Option (T R)} {rest : Orc} (hg : Tq g) (hr : Fx rest) : Fx (Orc.cons f0 g rest) := fun f args H => by
 unfold Orc.cons
 exact .bif _ (hg args H) (hr f args H)
theorem AdV {α : Type} {dec : List AV -> Option α} {g : α -> AV} : Tq (ansP dec g) := fun args H => by
 unfold ansP
 cases H with
 | nil =>
  simp only []
  cases dec args with
  | none => exact .no fun R k => rfl
  | some a => exact .one _ _ fun R k => rfl
 | cons _ _ => exact .no fun R k => rfl
structure OrcS (P : Program) (orc : Orc) : Prop where
 ok : Dh P orc
 det : Fx orc
structure AnsS (P : Program) (f : FuncId) (g : (R : Type) -> List AV -> Hp -> (AV -> Hp -> Option (T R)) -> Option (T R)) : Prop where
 ok : ∀ (R : Type) args H (k : AV -> Hp -> Option (T R)) t, g R args H k = some t -> ∃ x H', k x H' = some t /\ CX P f args H x H'
 det : Tq g
theorem OrcS.nil {P : Program} : OrcS P Orc.nil := ⟨Orc.nil_ok P, Orc.nil_det⟩
theorem OrcS.cons {P : Program} {f0 : FuncId} {g : (R : Type) -> List AV -> Hp -> (AV -> Hp -> Option (T R)) -> Option (T R)} {rest : Orc} (h : AnsS P f0 g) (r : OrcS P rest) : OrcS P (Orc.cons f0 g rest) := ⟨Orc.cons_ok r.ok h.ok, Orc.cons_det h.det r.det⟩
theorem AnsS.inl {P : Program} {orc : Orc} (h : OrcS P orc) {ann : Ann} {n : Nat} {f : FuncId} {fn : Func} (hf : P.funcs[f]? = some fn) (hb : fn.body = some (Ad fn)) : AnsS P f (inl P orc ann n fn) := ⟨AiV h.ok h.det hf hb, Ahd h.det⟩
theorem AnsS.p {P : Program} {f0 : FuncId} {α : Type} {dec : List AV -> Option α} {g : α -> AV} {enc : α -> List AV} (hd : ∀ args a, dec args = some a -> args = enc a) (hc : ∀ a, CX P f0 (enc a) [] (g a) []) : AnsS P f0 (ansP dec g) := ⟨AhO hd hc, AdV⟩
structure Dec (X A : Type) where
 dec : X -> Option A
 enc : A -> X
 ok : ∀ x a, dec x = some a -> x = enc a
namespace Dec
def nil {X : Type} : Dec (List X) Unit := ⟨fun x => match x with | [] => some () | _ :: _ => none, fun _ => [], fun x a h => by cases x <;> simp_all⟩
def cons {X A B : Type} (d : Dec X A) (e : Dec (List X) B) : Dec (List X) (A × B) :=
 ⟨fun x => match x with
  | [] => none
  | y :: r => match d.dec y with
   | none => none
   | some a => match e.dec r with
    | none => none
    | some b => some (a, b),
  fun p => d.enc p.1 :: e.enc p.2, fun x p h => by
   cases x with
   | nil => simp at h
   | cons y r =>
    simp only [] at h
    cases hd : d.dec y with
    | none => rw [hd] at h; simp at h
    | some a =>
     rw [hd] at h
     simp only [] at h
     cases he : e.dec r with
     | none => rw [he] at h; simp at h
     | some b =>
      rw [he] at h
      simp only [Option.some.injEq] at h
      subst h
      rw [d.ok y a hd, e.ok r b he]⟩
def pair {X Y A B : Type} (d : Dec X A) (e : Dec Y B) : Dec (X × Y) (A × B) :=
 ⟨fun x => match d.dec x.1 with
  | none => none
  | some a => match e.dec x.2 with
   | none => none
   | some b => some (a, b),
  fun p => (d.enc p.1, e.enc p.2), fun x p h => by
   obtain ⟨y, r⟩ := x
   simp only [] at h
   cases hd : d.dec y with
   | none => rw [hd] at h; simp at h
   | some a =>
    rw [hd] at h
    simp only [] at h
    cases he : e.dec r with
    | none => rw [he] at h; simp at h
    | some b =>
     rw [he] at h
     simp only [Option.some.injEq] at h
     subst h
     rw [d.ok y a hd, e.ok r b he]⟩
def blk {A : Type} (n : Nat) (d : Dec Blk A) : Dec (Nat × Blk) A := 
 ⟨fun x => bif Nat.beq x.1 n then d.dec x.2 else none, fun a => (n, d.enc a), fun x a h => by
  obtain ⟨m, b⟩ := x
  cases hb : Nat.beq m n with
  | true => simp only [hb, cond_true] at h; rw [Nat.eq_of_beq_eq_true hb, d.ok b a h]
  | false => simp only [hb, cond_false] at h; cases h⟩
def cells {A : Type} (t : TypeId) (d : Dec (List C) A) : Dec Blk A :=
 ⟨fun x => match x with | .cells cs u => bif Nat.beq u t then d.dec cs else none | _ => none, fun a => .cells (d.enc a) t, fun x a h => by
  cases x with
  | cells cs u =>
   simp only [] at h
   cases hb : Nat.beq u t with
   | true => rw [hb] at h; simp only [cond_true] at h; rw [Nat.eq_of_beq_eq_true hb, d.ok cs a h]
   | false => rw [hb] at h; cases h
  | _ => cases h⟩
def rowB (sz : Nat) (t : TypeId) : Dec Blk (Nat × RD) :=
 ⟨fun x => match x with | .row n f z u => bif Nat.beq z sz && Nat.beq u t then some (n, f) else none | _ => none, fun a => .row a.1 a.2 sz t, fun x a h => by
  cases x with
  | row n f z u =>
   simp only [] at h
   cases hb : (Nat.beq z sz && Nat.beq u t) with
   | true =>
    rw [hb] at h
    simp only [cond_true, Option.some.injEq] at h
    subst h
    simp only [Bool.and_eq_true] at hb
    rw [Nat.eq_of_beq_eq_true hb.1, Nat.eq_of_beq_eq_true hb.2]
   | false => rw [hb] at h; cases h
  | _ => cases h⟩
def i64 : Dec C Int := ⟨fun x => match x with | .d (.v (.int .i64 n)) => some n | _ => none, fun n => .d (.v (.int .i64 n)), fun x a h => by
 split at h
 ·cases h; rfl
 ·cases h⟩
def bool : Dec C Bool := ⟨fun x => match x with | .d (.v (.bool n)) => some n | _ => none, fun n => .d (.v (.bool n)), fun x a h => by
 split at h
 ·cases h; rfl
 ·cases h⟩
def str : Dec C ByteArray := ⟨fun x => match x with | .d (.v (.string n)) => some n | _ => none, fun n => .d (.v (.string n)), fun x a h => by
 split at h
 ·cases h; rfl
 ·cases h⟩
def nilS : Dec C Unit := ⟨fun x => match x with | .d (.v (.slice none 0 0)) => some () | _ => none, fun _ => .d (.v (.slice none 0 0)), fun x a h => by
 split at h
 ·rfl
 ·cases h⟩
def data : Dec C D := ⟨fun x => match x with | .d y => some y | _ => none, fun n => .d n, fun x a h => by
 split at h
 ·cases h; rfl
 ·cases h⟩
def row (h sz : Nat) : Dec C Nat := ⟨fun x => match x with | .row k z n => bif Nat.beq k h && Nat.beq z sz then some n else none | _ => none, fun n => .row h sz n, fun x a e => by
 split at e
 ·rename_i k z n
  cases hb : (Nat.beq k h && Nat.beq z sz) with
  | true =>
   rw [hb] at e
   simp only [cond_true, Option.some.injEq] at e
   subst e
   simp only [Bool.and_eq_true] at hb
   rw [Nat.eq_of_beq_eq_true hb.1, Nat.eq_of_beq_eq_true hb.2]
  | false => rw [hb] at e; cases e
 ·cases e⟩
def ptr (h o : Nat) : Dec C Unit := ⟨fun x => match x with | .ptr k p => bif Nat.beq k h && Nat.beq p o then some () else none | _ => none, fun _ => .ptr h o, fun x a e => by
 split at e
 ·rename_i k p
  cases hb : (Nat.beq k h && Nat.beq p o) with
  | true =>
   simp only [Bool.and_eq_true] at hb
   rw [Nat.eq_of_beq_eq_true hb.1, Nat.eq_of_beq_eq_true hb.2]
  | false => rw [hb] at e; cases e
 ·cases e⟩
def c {A : Type} (d : Dec C A) : Dec AV A := ⟨fun x => match x with | .c y => d.dec y | _ => none, fun a => .c (d.enc a), fun x a h => by
 cases x with
 | c y => rw [d.ok y a h]
 | _ => cases h⟩
def agg {A : Type} (d : Dec (List C) A) : Dec AV A := ⟨fun x => match x with | .agg y => d.dec y | _ => none, fun a => .agg (d.enc a), fun x a h => by
 cases x with
 | agg y => rw [d.ok y a h]
 | _ => cases h⟩
end Dec
def ansD {A : Type} (d : Dec (List AV × Hp) A) (c : A -> Bool) (r : A -> AV) (H' : A -> Hp) : (R : Type) -> List AV -> Hp -> (AV -> Hp -> Option (T R)) -> Option (T R) := fun _ args H k =>
 match d.dec (args, H) with
 | some a => bif c a then k (r a) (H' a) else none
 | none => none
theorem AnsS.d {P : Program} {f : FuncId} {A : Type} {d : Dec (List AV × Hp) A} {c : A -> Bool} {r : A -> AV} {H' : A -> Hp} (hc : ∀ a, c a = true -> CX P f (d.enc a).1 (d.enc a).2 (r a) (H' a)) : AnsS P f (ansD d c r H') := by
 refine ⟨fun R args H k t h => ?_, fun args H => ?_⟩
 ·unfold ansD at h
  cases hd : d.dec (args, H) with
  | none => rw [hd] at h; cases h
  | some a =>
   rw [hd] at h
   simp only [] at h
   cases hca : c a with
   | false => rw [hca] at h; cases h
   | true =>
    rw [hca] at h
    have e := d.ok _ _ hd
    have := hc a hca
    rw [<- e] at this
    exact ⟨_, _, h, this⟩
 ·unfold ansD
  cases d.dec (args, H) with
  | none => exact .no fun R k => rfl
  | some a => exact .bif _ (.one _ _ fun R k => rfl) (.no fun R k => rfl)
end Go.Eb
namespace Go.Eb
open Go.RowKit
inductive Fr where
 | nil
 | leaf (j : Nat) (x : AV)
 | node (k : Nat) (l r : Fr)
namespace Fr
def get (i : Nat) (t : Fr) : AV :=
 Fr.rec (motive := fun _ => AV) .u (fun j x => Bool.rec (motive := fun _ => AV) .u x (Nat.beq i j)) (fun k _ _ a b => Bool.rec (motive := fun _ => AV) a b (Nat.ble k i)) t
def setK {R : Type} (i : Nat) (x : AV) (t : Fr) : (Fr -> R) -> R :=
 Fr.rec (motive := fun _ => (Fr -> R) -> R) (fun k => k .nil) (fun j y k => Bool.rec (motive := fun _ => R) (k (.leaf j y)) (k (.leaf j x)) (Nat.beq i j))
  (fun m l r a b k => Bool.rec (motive := fun _ => R) (a fun l' => k (.node m l' r)) (b fun r' => k (.node m l r')) (Nat.ble m i)) t
def toL : Fr -> List AV
 | nil => []
 | leaf _ x => [x]
 | node _ l r => toL l ++ toL r
def Ok : Nat -> Nat -> Fr -> Prop
 | lo, hi, nil => lo = hi
 | lo, hi, leaf j _ => j = lo /\ hi = lo + 1
 | lo, hi, node k l r => Ok lo k l /\ Ok k hi r
theorem Ok.len : ∀ {t : Fr} {lo hi : Nat}, Ok lo hi t -> lo + (toL t).length = hi
 | nil, lo, hi, h => by simpa [Ok, toL] using h
 | leaf j x, lo, hi, h => by simp only [Ok] at h; simp [toL, h.2]
 | node k l r, lo, hi, h => by
  simp only [Ok] at h
  have h1 := Ok.len h.1
  have h2 := Ok.len h.2
  simp only [toL, List.length_append]
  omega
theorem get_eq : ∀ {t : Fr} {lo hi i : Nat}, Ok lo hi t -> lo <= i -> get i t = (toL t).getD (i - lo) .u
 | nil, lo, hi, i, h, hi' => by simp [get, toL]
 | leaf j x, lo, hi, i, h, hi' => by
  simp only [Ok] at h
  obtain ⟨rfl, _⟩ := h
  show Bool.rec (motive := fun _ => AV) .u x (Nat.beq i j) = _
  rw [beqD]
  by_cases e : i = j
  ·subst e; simp [toL]
  ·rw [decide_eq_false e]
   have : i - j = (i - j - 1) + 1 := by omega
   rw [this]; simp [toL]
 | node k l r, lo, hi, i, h, hi' => by
  simp only [Ok] at h
  have h1 := Ok.len h.1
  show Bool.rec (motive := fun _ => AV) (get i l) (get i r) (Nat.ble k i) = _
  rw [bleD]
  by_cases e : k <= i
  ·rw [decide_eq_true e]
   have := get_eq (t := r) h.2 e
   simp only [toL]
   rw [List.getD_eq_getElem?_getD, List.getElem?_append_right (by omega), this, List.getD_eq_getElem?_getD]
   congr 2; omega
  ·rw [decide_eq_false e]
   have := get_eq (t := l) h.1 hi'
   simp only [toL]
   rw [List.getD_eq_getElem?_getD, List.getElem?_append_left (by omega), this, List.getD_eq_getElem?_getD]
theorem setK_eq (x : AV) : ∀ {t : Fr} {lo hi i : Nat}, Ok lo hi t -> lo <= i -> ∃ t', Ok lo hi t' /\ toL t' = (toL t).set (i - lo) x /\ ∀ (R : Type) (k : Fr -> R), setK i x t k = k t'
 | nil, lo, hi, i, h, hi' => ⟨nil, h, by simp [toL], fun R k => rfl⟩
 | leaf j y, lo, hi, i, h, hi' => by
  simp only [Ok] at h
  obtain ⟨rfl, rfl⟩ := h
  by_cases e : i = j
  ·subst e
   refine ⟨leaf i x, ⟨rfl, rfl⟩, by simp [toL], fun R k => ?_⟩
   show Bool.rec (motive := fun _ => R) (k (.leaf i y)) (k (.leaf i x)) (Nat.beq i i) = _
   rw [beqD]; simp
  ·refine ⟨leaf j y, ⟨rfl, rfl⟩, ?_, fun R k => ?_⟩
   ·have : i - j = (i - j - 1) + 1 := by omega
    rw [this]; simp [toL]
   ·show Bool.rec (motive := fun _ => R) (k (.leaf j y)) (k (.leaf j x)) (Nat.beq i j) = _
    rw [beqD, decide_eq_false e]
 | node m l r, lo, hi, i, h, hi' => by
  simp only [Ok] at h
  have h1 := Ok.len h.1
  by_cases e : m <= i
  ·obtain ⟨r', o, e1, e2⟩ := setK_eq x (t := r) h.2 e
   refine ⟨node m l r', ⟨h.1, o⟩, ?_, fun R k => ?_⟩
   ·simp only [toL]
    rw [e1, List.set_append_right _ _ (by omega : (toL l).length <= i - lo)]
    congr 2; omega
   ·show Bool.rec (motive := fun _ => R) (setK i x l fun l' => k (.node m l' r)) (setK i x r fun r' => k (.node m l r')) (Nat.ble m i) = _
    rw [bleD, decide_eq_true e]
    exact e2 R _
  ·obtain ⟨l', o, e1, e2⟩ := setK_eq x (t := l) h.1 hi'
   refine ⟨node m l' r, ⟨o, h.2⟩, ?_, fun R k => ?_⟩
   ·simp only [toL]
    rw [e1, List.set_append_left _ _ (by omega : i - lo < (toL l).length)]
   ·show Bool.rec (motive := fun _ => R) (setK i x l fun l' => k (.node m l' r)) (setK i x r fun r' => k (.node m l r')) (Nat.ble m i) = _
    rw [bleD, decide_eq_false e]
    exact e2 R _
def base : Nat -> Nat -> Nat -> Fr
 | 0, _, _ => nil
 | _ + 1, _, 0 => nil
 | _ + 1, lo, 1 => leaf lo (.tup [])
 | d + 1, lo, n + 2 => node (lo + (n + 2) / 2) (base d lo ((n + 2) / 2)) (base d (lo + (n + 2) / 2) (n + 2 - (n + 2) / 2))
theorem base_ok : ∀ (d lo n : Nat), n <= d -> Ok lo (lo + n) (base d lo n) /\ toL (base d lo n) = List.replicate n (.tup [])
 | 0, lo, n, h => by
  obtain rfl : n = 0 := by omega
  simp [base, Ok, toL]
 | d + 1, lo, 0, h => by simp [base, Ok, toL]
 | d + 1, lo, 1, h => by simp [base, Ok, toL]
 | d + 1, lo, n + 2, h => by
  have h1 := base_ok d lo ((n + 2) / 2) (by omega)
  have h2 := base_ok d (lo + (n + 2) / 2) (n + 2 - (n + 2) / 2) (by omega)
  have e : lo + (n + 2) / 2 + (n + 2 - (n + 2) / 2) = lo + (n + 2) := by omega
  rw [e] at h2
  refine ⟨?_, ?_⟩
  ·simp only [base, Ok]
   exact ⟨h1.1, h2.1⟩
  ·simp only [base, toL, h1.2, h2.2, List.replicate_append_replicate]
   congr 1; omega
def putsK {R : Type} (l : List AV) : Nat -> Fr -> (Fr -> R) -> R :=
 List.rec (motive := fun _ => Nat -> Fr -> (Fr -> R) -> R) (fun _ t k => k t) (fun x _ ih i t k => setK i x t fun t' => ih (i + 1) t' k) l
theorem putsK_eq : ∀ (l : List AV) {t : Fr} {hi i : Nat}, Ok 0 hi t -> i + l.length <= hi -> ∃ t', Ok 0 hi t' /\ toL t' = (toL t).take i ++ l ++ (toL t).drop (i + l.length) /\ ∀ (R : Type) (k : Fr -> R), putsK l i t k = k t'
 | [], t, hi, i, h, hl => ⟨t, h, by simp, fun R k => rfl⟩
 | x :: r, t, hi, i, h, hl => by
  obtain ⟨t1, o1, e1, k1⟩ := setK_eq x h (Nat.zero_le i)
  have hlen := h.len
  simp only [List.length_cons] at hl
  obtain ⟨t2, o2, e2, k2⟩ := putsK_eq r (t := t1) (i := i + 1) o1 (by omega)
  refine ⟨t2, o2, ?_, fun R k => ?_⟩
  ·rw [e2, e1]
   simp only [Nat.sub_zero, List.length_cons]
   have hi2 : i < (toL t).length := by omega
   rw [List.drop_set_of_lt (by omega), List.take_add_one, List.getElem?_set_self (by omega)]
   simp only [Option.toList_some, List.take_set, List.append_assoc, List.cons_append, List.nil_append]
   rw [List.set_eq_of_length_le (by simp; omega)]
   have e9 : i + 1 + r.length = i + (r.length + 1) := by omega
   rw [e9]
  ·show setK i x t (fun t' => putsK r (i + 1) t' k) = _
   rw [k1]
   exact k2 R k
def ofK {R : Type} (l : List AV) (k : Fr -> R) : R := putsK l 0 (base l.length 0 l.length) k
theorem ofK_eq (l : List AV) : ∃ t, Ok 0 l.length t /\ toL t = l /\ ∀ (R : Type) (k : Fr -> R), ofK l k = k t := by
 have hb := base_ok l.length 0 l.length (Nat.le_refl _)
 rw [Nat.zero_add] at hb
 obtain ⟨t, o, e, h⟩ := putsK_eq l hb.1 (i := 0) (by omega)
 refine ⟨t, o, ?_, h⟩
 rw [e, hb.2]
 simp
end Fr
def insK {R : Type} (h : Nat) (b : Blk) (H : Hp) : (Hp -> R) -> R :=
 List.rec (motive := fun _ => (Hp -> R) -> R) (fun k => k [(h, b)])
  (fun p r ih k => Bool.rec (motive := fun _ => R) (ih fun r' => k (p :: r')) (Bool.rec (motive := fun _ => R) (k ((h, b) :: p :: r)) (k ((h, b) :: r)) (Nat.beq h p.1)) (Nat.ble h p.1)) H
theorem Aba {R : Type} (h : Nat) (b : Blk) : ∀ (H : Hp) (k : Hp -> R), insK h b H k = k (ins h b H)
 | [], k => rfl
 | (m, c) :: r, k => by
  show Bool.rec (motive := fun _ => R) (insK h b r fun r' => k ((m, c) :: r')) (Bool.rec (motive := fun _ => R) (k ((h, b) :: (m, c) :: r)) (k ((h, b) :: r)) (Nat.beq h m)) (Nat.ble h m) = _
  simp only [ins]
  cases h1 : Nat.ble h m with
  | false => simp only [cond_false]; exact Aba h b r _
  | true =>
   cases h2 : Nat.beq h m with
   | false => simp only [cond_true, cond_false]
   | true => simp only [cond_true]
def Wt {R : Type} (u : Ups) : Hp -> (Hp -> R) -> R :=
 List.rec (motive := fun _ => Hp -> (Hp -> R) -> R) (fun H k => k H) (fun p _ ih H k => insK p.1 p.2 H fun H' => ih H' k) u
theorem Su {R : Type} : ∀ (u : Ups) (H : Hp) (k : Hp -> R), Wt u H k = k (A6 u H)
 | [], H, k => rfl
 | (h, b) :: r, H, k => by
  show insK h b H (fun H' => Wt r H' k) = _
  rw [Aba, Su r]
  rfl
def natK {R : Type} (n : Nat) (k : Nat -> R) : R := Nat.rec (motive := fun _ => R) (k 0) (fun m _ => k (Nat.succ m)) n
theorem AgP {R : Type} (n : Nat) (k : Nat -> R) : natK n k = k n := by cases n <;> rfl
structure StQ where
 t : Fr
 H : Hp
 nm : Nat
def StQ.to (s : StQ) : St := ⟨s.t.toL, s.H, s.nm⟩
def StQ.Ok (s : StQ) : Prop := ∃ hi, Fr.Ok 0 hi s.t
section
variable {P : Program} {orc : Orc}
def opQ (t : Fr) (o : Operand) : AV :=
 Operand.rec (motive := fun _ => Fr -> AV) (fun i t => t.get i) (fun v _ => absA v) (fun g _ => gOp g) (fun f _ => .c (.d (.v (.func (.func f) #[] #[])))) o t
theorem AeN {t : Fr} {hi : Nat} (h : Fr.Ok 0 hi t) : opQ t = opA t.toL := by
 funext o
 cases o with
 | tmp i => exact (Fr.get_eq h (Nat.zero_le _)).trans (by simp only [opA, Nat.sub_zero])
 | _ => rfl
def putQ {R : Type} (dst : Option Nat) : AV -> Fr -> (Fr -> R) -> R := Option.rec (motive := fun _ => AV -> Fr -> (Fr -> R) -> R) (fun _ t k => k t) (fun d x t k => Fr.setK d x t k) dst
def Abi {R : Type} (ops : Array Oper) (j : Nat) (want : Bool) (t : Fr) (yes no : Fr -> Option (T R)) : Option (T R) :=
 match (ops[j]?).bind (·.dst) with
  | none => no t
  | some d => match t.get d with
   | .c (.d (.v (.bool b))) => bif b then (bif want then Fr.setK d (.c (.d (.v (.bool true)))) t yes else Fr.setK d (.c (.d (.v (.bool true)))) t no)
    else (bif want then Fr.setK d (.c (.d (.v (.bool false)))) t no else Fr.setK d (.c (.d (.v (.bool false)))) t yes)
   | .tup [] => no t
   | _ => none
def Abf {R : Type} (g : Option (Nat × Bool)) : Array Oper -> Fr -> (Fr -> Option (T R)) -> (Fr -> Option (T R)) -> Option (T R) :=
 Option.rec (motive := fun _ => Array Oper -> Fr -> (Fr -> Option (T R)) -> (Fr -> Option (T R)) -> Option (T R)) (fun _ t yes _ => yes t) (fun p ops t yes no => Abi ops p.1 p.2 t yes no) g
theorem Aal (dst : Option Nat) (x : AV) {t : Fr} {hi : Nat} (h : Fr.Ok 0 hi t) : ∃ t', Fr.Ok 0 hi t' /\ t'.toL = put t.toL dst x /\ ∀ (R : Type) (k : Fr -> R), putQ dst x t k = k t' := by
 cases dst with
 | none => exact ⟨t, h, rfl, fun R k => rfl⟩
 | some d =>
  obtain ⟨t', o, e, k⟩ := Fr.setK_eq x h (Nat.zero_le d)
  exact ⟨t', o, e, k⟩
theorem Abe {R : Type} (ops : Array Oper) {t : Fr} {hi : Nat} (h : Fr.Ok 0 hi t) (o : Oper) (yes no : Fr -> Option (T R)) (yes' no' : List AV -> Option (T R))
  (hy : ∀ t, Fr.Ok 0 hi t -> yes t = yes' t.toL) (hn : ∀ t, Fr.Ok 0 hi t -> no t = no' t.toL) : Abf o.guard ops t yes no = Hg ops t.toL o yes' no' := by
 unfold Hg
 cases o.guard with
 | none => exact hy t h
 | some p =>
  obtain ⟨j, want⟩ := p
  show Abi ops j want t yes no = _
  unfold Abi
  simp only
  cases (ops[j]?).bind (·.dst) with
  | none => exact hn t h
  | some d =>
   have e := Fr.get_eq h (Nat.zero_le d)
   rw [Nat.sub_zero] at e
   simp only
   rw [e]
   obtain ⟨t1, o1, e1, k1⟩ := Fr.setK_eq (.c (.d (.v (.bool true)))) h (Nat.zero_le d)
   obtain ⟨t2, o2, e2, k2⟩ := Fr.setK_eq (.c (.d (.v (.bool false)))) h (Nat.zero_le d)
   rw [Nat.sub_zero] at e1 e2
   simp only [k1, k2, hy _ o1, hn _ o1, hy _ o2, hn _ o2, e1, e2, hn t h]
   rfl
def leS (a b : IntKind) : Bool := decide (a = b)
def intQ (op : BinOp) : IntKind -> Int -> Int -> Option (Bool × Do) := BinOp.rec (motive := fun _ => IntKind -> Int -> Int -> Option (Bool × Do))
 (fun k a b => some (true, .val (.c (.d (.v (.int k (k.wrap (a + b))))))))
 (fun k a b => some (true, .val (.c (.d (.v (.int k (k.wrap (a - b))))))))
 (fun k a b => some (true, .val (.c (.d (.v (.int k (k.wrap (a * b))))))))
 (fun _ _ _ => none) (fun _ _ _ => none) (fun _ _ _ => none) (fun _ _ _ => none) (fun _ _ _ => none) (fun _ _ _ => none) (fun _ _ _ => none) (fun _ _ _ => none)
 (fun _ a b => some (true, .val (.c (.d (.v (.bool (a == b)))))))
 (fun _ a b => some (true, .val (.c (.d (.v (.bool (a != b)))))))
 (fun _ a b => some (true, .val (.c (.d (.v (.bool (decide (a < b))))))))
 (fun _ a b => some (true, .val (.c (.d (.v (.bool (decide (a <= b))))))))
 (fun _ a b => some (true, .val (.c (.d (.v (.bool (decide (a > b))))))))
 (fun _ a b => some (true, .val (.c (.d (.v (.bool (decide (a >= b)))))))) op
def Ll : BinOp -> Bool
 | .add | .sub | .mul | .eql | .neq | .lss | .leq | .gtr | .geq => true
 | _ => false
def Aff (p q : AV) (op : BinOp) (slow : Option (Bool × Do)) : Option (Bool × Do) := match p, q with
 | .c (.d (.v (.int k a))), .c (.d (.v (.int k' b))) => bif Ll op && leS k k' then intQ op k a b else slow
 | _, _ => slow
def Aaj (P : Program) (ρ : Operand -> AV) (op : BinOp) (t : TypeId) (x y : Operand) : Option (Bool × Do) := Aff (ρ x) (ρ y) op (Vu P ρ op t x y)
theorem Air (op : BinOp) (hf : Ll op = true) (t : TypeId) (x y : Operand) (k : IntKind) (a b : Int) : (match pr P (do eqGuard op t x y (.int k a) (.int k b); binOp op t (.int k a) (.int k b)) with | some r => val1 r | none => none) = intQ op k a b := by
 cases op <;> first | (cases hf; done) | (cases k <;> rfl)
theorem Adz {op : BinOp} (hf : Ll op = true) (a b : Value) (s : Option (Bool × Do)) : Yf op a b s = s := by
 cases op <;> first | (cases hf; done) | rfl
theorem Aai (ρ : Operand -> AV) (op : BinOp) (t : TypeId) (x y : Operand) : Aaj P ρ op t x y = Vu P ρ op t x y := by
 unfold Aaj Aff
 split
 ·rename_i k a k' b hx hy
  cases hc : (Ll op && leS k k') with
  | false => rfl
  | true =>
   simp only [Bool.and_eq_true] at hc
   have hk : k = k' := of_decide_eq_true hc.2
   subst hk
   simp only [cond_true]
   unfold Vu
   rw [hx, hy]
   exact (Air op hc.1 t x y k a b).symm.trans (Adz hc.1 _ _ _).symm
 ·rfl
def resQ (o : Op) : Program -> (Operand -> AV) -> Option (Bool × Do) :=
 Op.rec (motive := fun _ => Program -> (Operand -> AV) -> Option (Bool × Do))
  (fun x _ ρ => some (true, .val (ρ x)))
  (fun x _ ρ => some (true, .val (ρ x)))
  (fun c a b P ρ => Ain P ρ c a b)
  (fun e P ρ => AeM P ρ e)
  (fun e x P ρ => rBox P ρ e x)
  (fun t parts P ρ => AeL P ρ t parts)
  (fun t len parts P ρ => Md P ρ t len parts)
  (fun t m k v P ρ => G0 P ρ t m k v)
  (fun t a P ρ => Aip P ρ t a)
  (fun t a x P ρ => AeG P ρ t a x)
  (fun _ _ _ => none)
  (fun _ _ _ => none)
  (fun x P ρ => Rp P ρ x)
  (fun op t x y _ P ρ => Aaj P ρ op t x y)
  (fun op _ x P ρ => Aim P ρ op x)
  (fun s t x P ρ => Vt P ρ s t x)
  (fun _ _ _ _ => none)
  (fun _ _ _ _ => none)
  (fun fn first captured P ρ => Rq P ρ fn first captured)
  (fun t r P ρ => Vr P ρ t r)
  (fun _ _ _ _ => none)
  (fun _ _ _ _ _ => none)
  (fun t x lo hi mx P ρ => AeH P ρ t x lo hi mx)
  (fun s x f P ρ => N9 P ρ s x f)
  (fun t x f P ρ => AeK P ρ t x f)
  (fun t x i P ρ => N8 P ρ t x i)
  (fun t x i P ρ => AeJ P ρ t x i)
  (fun t x i ok P ρ => Aag P ρ t x i ok)
  (fun t m k v P ρ => G0 P ρ t m k v)
  (fun _ _ _ _ _ => none)
  (fun _ _ _ _ _ _ => none)
  (fun t x P ρ => AeI P ρ t x)
  (fun it str P ρ => Aio P ρ it str)
  (fun _ _ _ => none)
  (fun _ _ _ _ _ _ => none)
  (fun x i P ρ => Vs P ρ x i)
  (fun c P ρ => Aiq P ρ c)
  (fun _ _ _ => none)
  (fun _ _ _ => none)
  (fun _ _ _ => none)
  (fun _ _ _ _ => none)
  (fun _ _ _ _ _ => none)
  (fun _ _ _ _ => none) o
theorem AgA (o : Oper) (ρ : Operand -> AV) : resQ o.op P ρ = resF P o ρ := by
 obtain ⟨dst, op, ty, pos, after, guard⟩ := o
 cases op with
 | binOp op t x y u => exact Aai ρ op t x y
 | _ => rfl
def R6 (k : Nat) (H : Hp) : Option Blk := List.rec (motive := fun _ => Option Blk) none (fun p _ ih => Bool.rec (motive := fun _ => Option Blk) ih (some p.2) (Nat.beq k p.1)) H
def getQ {α : Type} (l : List α) : Nat -> Option α := List.rec (motive := fun _ => Nat -> Option α) (fun _ => none) (fun x _ ih n => Nat.rec (motive := fun _ => Option α) (some x) (fun m _ => ih m) n) l
theorem Qq (k : Nat) : ∀ H : Hp, R6 k H = look H k
 | [] => rfl
 | (h, b) :: r => by
  show Bool.rec (motive := fun _ => Option Blk) (R6 k r) (some b) (Nat.beq k h) = _
  rw [Qq k r]
  simp only [look]
  cases Nat.beq k h <;> rfl
theorem Uj {α : Type} : ∀ (l : List α) (n : Nat), getQ l n = l[n]?
 | [], n => by simp [getQ]
 | x :: r, 0 => by simp; rfl
 | x :: r, n + 1 => by
  show getQ r n = _
  rw [Uj r n]; simp
def AhG (cs : List C) (off n : Nat) (ag : Bool) : Option AV :=
 Bool.rec (motive := fun _ => Option AV) none (Bool.rec (motive := fun _ => Option AV) (Option.rec (motive := fun _ => Option AV) none (fun c => some (.c c)) (getQ cs off)) (some (.agg ((cs.drop off).take n))) ag) (Nat.ble (off + n) cs.length)
theorem AdH (cs : List C) (off n : Nat) (ag : Bool) : AhG cs off n ag = G9 cs off n ag := by
 unfold AhG G9
 rw [bleD, Uj]
 by_cases h : off + n <= cs.length
 ·rw [decide_eq_true h, if_pos h]
  cases ag with
  | true => rfl
  | false =>
   simp only [Bool.false_eq_true, if_false]
   cases cs[off]? <;> rfl
 ·rw [decide_eq_false h, if_neg h]
def AgX (b : Option Blk) : Nat -> Nat -> Nat -> Nat -> Bool -> Option AV :=
 Option.rec (motive := fun _ => Nat -> Nat -> Nat -> Nat -> Bool -> Option AV) (fun _ _ _ _ _ => none)
  (fun b => Blk.rec (motive := fun _ => Nat -> Nat -> Nat -> Nat -> Bool -> Option AV) (fun cs _ sz i off n ag => AhG cs (i * sz + off) n ag)
    (fun _ f sz' _ sz i off n ag => bif Nat.beq sz sz' then G9 ((f i).map .d) off n ag else none) (fun _ _ _ _ _ _ _ => none) (fun _ _ _ _ _ _ _ => none) (fun _ _ _ _ _ => none) b) b
theorem Adj (H : Hp) (h sz i off n : Nat) (ag : Bool) : AgX (R6 h H) sz i off n ag = Ew H h sz i off n ag := by
 rw [Qq]
 unfold Ew
 cases look H h with
 | none => rfl
 | some b =>
  cases b with
  | cells cs t => exact AdH cs (i * sz + off) n ag
  | _ => rfl
def AiR {R : Type} (x : Option AV) : Nat -> (AV -> Foot -> Ups -> Option (T R)) -> Option (T R) :=
 Option.rec (motive := fun _ => Nat -> (AV -> Foot -> Ups -> Option (T R)) -> Option (T R)) (fun _ _ => none) (fun x h k => k x ⟨[h], []⟩ []) x
def Aem {R : Type} (x : Option (Ups × List Nat)) : (AV -> Foot -> Ups -> Option (T R)) -> Option (T R) :=
 Option.rec (motive := fun _ => (AV -> Foot -> Ups -> Option (T R)) -> Option (T R)) (fun _ => none) (fun p k => k (.tup []) ⟨p.2, p.1.map (·.1)⟩ p.1) x
def splQ {α : Type} (cs : List α) : Nat -> List α -> List α :=
 List.rec (motive := fun _ => Nat -> List α -> List α) (fun _ new => new) (fun c r ih off new => Nat.rec (motive := fun _ => List α) (new ++ (c :: r).drop new.length) (fun m _ => c :: ih m new) off) cs
theorem Z0 {α : Type} : ∀ (cs : List α) (off : Nat) (new : List α), off <= cs.length -> splQ cs off new = splice cs off new
 | [], off, new, h => by
  obtain rfl : off = 0 := by simpa using h
  simp [splQ, splice]
 | c :: r, 0, new, h => by
  show new ++ (c :: r).drop new.length = _
  simp [splice]
 | c :: r, off + 1, new, h => by
  show c :: splQ r off new = _
  rw [Z0 r off new (by simpa using h)]
  simp [splice, Nat.add_right_comm]
def Zb (b : Option Blk) : Hp -> Nat -> Nat -> Nat -> Nat -> List C -> Option (Ups × List Nat) :=
 Option.rec (motive := fun _ => Hp -> Nat -> Nat -> Nat -> Nat -> List C -> Option (Ups × List Nat)) (fun _ _ _ _ _ _ => none)
  (fun b => Blk.rec (motive := fun _ => Hp -> Nat -> Nat -> Nat -> Nat -> List C -> Option (Ups × List Nat))
    (fun ds t _ h sz i off cs => bif Nat.ble (i * sz + off + cs.length) ds.length then some ([(h, .cells (splQ ds (i * sz + off) cs) t)], [h]) else none)
    (fun _ _ _ _ H h sz i off cs => Dk H h sz i off cs) (fun _ _ H h sz i off cs => Dk H h sz i off cs) (fun _ _ H h sz i off cs => Dk H h sz i off cs) (fun H h sz i off cs => Dk H h sz i off cs) b) b
theorem Za (H : Hp) (h sz i off : Nat) (cs : List C) : Zb (R6 h H) H h sz i off cs = Dk H h sz i off cs := by
 rw [Qq]
 cases hl : look H h with
 | none => unfold Dk; rw [hl]; rfl
 | some b =>
  cases b with
  | cells ds t =>
   show (bif Nat.ble (i * sz + off + cs.length) ds.length then some ([(h, Blk.cells (splQ ds (i * sz + off) cs) t)], [h]) else none) = _
   unfold Dk
   rw [hl]
   simp only
   rw [bleD]
   by_cases hb : i * sz + off + cs.length <= ds.length
   ·rw [decide_eq_true hb, Z0 ds _ cs (by omega)]
   ·rw [decide_eq_false hb]; rfl
  | _ => rfl
def AcY {R : Type} (a : Do) : Orc -> Nat -> Hp -> (AV -> Foot -> Ups -> Option (T R)) -> Option (T R) :=
 Do.rec (motive := fun _ => Orc -> Nat -> Hp -> (AV -> Foot -> Ups -> Option (T R)) -> Option (T R))
  (fun x _ _ _ k => k x ⟨[], []⟩ [])
  (fun h sz i off n ag _ _ H k => AiR (AgX (R6 h H) sz i off n ag) h k)
  (fun h sz i off cs _ _ H k => Aem (Zb (R6 h H) H h sz i off cs) k)
  (fun b mk _ h0 _ k => k (mk h0) ⟨[], [h0]⟩ [(h0, b)])
  (fun d s e sz orc h0 H k => Cr orc h0 (.append d s e sz) H k)
  (fun h orc h0 H k => Cr orc h0 (.next h) H k)
  (fun h kd key ok z orc h0 H k => Cr orc h0 (.look h kd key ok z) H k)
  (fun h kd key v orc h0 H k => Cr orc h0 (.upd h kd key v) H k)
  (fun h x orc h0 H k => Cr orc h0 (.chk h x) H k)
  (fun h off u orc h0 H k => Cr orc h0 (.conv h off u) H k)
  (fun h n e orc h0 H k => Cr orc h0 (.ustr h n e) H k)
  (fun h n orc h0 H k => Cr orc h0 (.cstr h n) H k)
  (fun h n s orc h0 H k => Cr orc h0 (.slarr h n s) H k)
  (fun h orc h0 H k => Cr orc h0 (.mlen h) H k)
  (fun h off s len n orc h0 H k => Cr orc h0 (.idx h off s len n) H k)
  (fun f args orc h0 H k => Cr orc h0 (.call f args) H k) a
theorem AcX {R : Type} (a : Do) (h0 : Nat) (H : Hp) (k : AV -> Foot -> Ups -> Option (T R)) : AcY a orc h0 H k = Cr orc h0 a H k := by
 cases a with
 | load h sz i off n ag =>
  show AiR (AgX (R6 h H) sz i off n ag) h k = _
  rw [Adj]
  simp only [Cr, Ay]
  cases Ew H h sz i off n ag <;> rfl
 | store h sz i off cs =>
  show Aem (Zb (R6 h H) H h sz i off cs) k = _
  rw [Za]
  simp only [Cr, Ay]
  cases Dk H h sz i off cs <;> rfl
 | _ => rfl
def okQ {R : Type} (r : Option (Bool × Do)) : (Do -> Option (T R)) -> Option (T R) :=
 Option.rec (motive := fun _ => (Do -> Option (T R)) -> Option (T R)) (fun _ => none) (fun p k => Bool.rec (motive := fun _ => Option (T R)) none (k p.2) p.1) r
def opsQ {R : Type} (P : Program) (orc : Orc) (ops : Array Oper) (draw : Bool) (nm : Nat) (l : List Oper) : Nat -> List (Nat × Tx) -> Fr -> Hp -> (List (Nat × Tx) -> Fr -> Hp -> Option (T R)) -> Option (T R) :=
 List.rec (motive := fun _ => Nat -> List (Nat × Tx) -> Fr -> Hp -> (List (Nat × Tx) -> Fr -> Hp -> Option (T R)) -> Option (T R)) (fun _ tr t H k => k tr t H)
  (fun o _ ih i tr t H k => Abf o.guard ops t
    (fun t => okQ (resQ o.op P (opQ t)) fun a => AcY a orc (nm + 16 * i) H (fun x ft u => putQ o.dst x t fun t' => Wt u H fun H' => ih (i + 1) (Bool.rec (motive := fun _ => List (Nat × Tx)) tr (tr ++ [(i, ⟨ft, Jp a x, u⟩)]) draw) t' H' k))
    (fun t => putQ o.dst (.tup []) t fun t' => ih (i + 1) (Bool.rec (motive := fun _ => List (Nat × Tx)) tr (tr ++ [(i, tx0)]) draw) t' H k)) l
theorem T2 {R : Type} {orc : Orc} (h0 : Nat) (a : Do) (H : Hp) (k k' : AV -> Foot -> Ups -> Option (T R)) (h : ∀ x ft u, k x ft u = k' x ft u) : Cr orc h0 a H k = Cr orc h0 a H k' := by
 have : k = k' := by funext x ft u; exact h x ft u
 rw [this]
theorem Aaw {R : Type} (ops : Array Oper) (draw : Bool) (nm : Nat) : ∀ (l : List Oper) (i : Nat), l = ops.toList.drop i -> ∀ (tr tr' : List (Nat × Tx)) (t : Fr) (hi : Nat) (H : Hp) (kq : List (Nat × Tx) -> Fr -> Hp -> Option (T R)) (k : List (Nat × Tx) -> St -> Option (T R)),
  Fr.Ok 0 hi t -> tr'.map (·.1) = List.range i -> (draw = true -> tr = tr') -> (∀ tr tr' t H, Fr.Ok 0 hi t -> tr'.map (·.1) = List.range (i + l.length) -> (draw = true -> tr = tr') -> kq tr t H = k tr' ⟨t.toL, H, nm⟩) ->
  opsQ P orc ops draw nm l i tr t H kq = opsK P orc ops (List.range' i l.length) tr' ⟨t.toL, H, nm⟩ k
 | [], i, hl, tr, tr', t, hi, H, kq, k, ho, hm, htr, hk => by
  show kq tr t H = _
  simp only [List.length_nil, List.range'_zero, opsK]
  exact hk tr tr' t H ho (by simpa using hm) htr
 | o :: r, i, hl, tr, tr', t, hi, H, kq, k, ho, hm, htr, hk => by
  have hget : ops[i]? = some o := by
   have : ops.toList[i]? = some o := by
    have := congrArg (fun x => x[0]?) hl
    simpa using this.symm
   simpa using this
  have hr : r = ops.toList.drop (i + 1) := by
   have := congrArg (List.drop 1) hl
   simpa [List.drop_drop, Nat.add_comm] using this
  have go : ∀ (tr tr' : List (Nat × Tx)) (t : Fr) (H : Hp), Fr.Ok 0 hi t -> tr'.map (·.1) = List.range (i + 1) -> (draw = true -> tr = tr') -> opsQ P orc ops draw nm r (i + 1) tr t H kq = opsK P orc ops (List.range' (i + 1) r.length) tr' ⟨t.toL, H, nm⟩ k :=
   fun tr tr' t H ho hm htr => Aaw ops draw nm r (i + 1) hr tr tr' t hi H kq k ho hm htr (fun a b c d e f g => hk a b c d e (by rw [f]; congr 1; simp; omega) g)
  show Abf o.guard ops t
   (fun t => okQ (resQ o.op P (opQ t)) fun a => AcY a orc (nm + 16 * i) H (fun x ft u => putQ o.dst x t fun t' => Wt u H fun H' => opsQ P orc ops draw nm r (i + 1) (Bool.rec (motive := fun _ => List (Nat × Tx)) tr (tr ++ [(i, ⟨ft, Jp a x, u⟩)]) draw) t' H' kq))
   (fun t => putQ o.dst (.tup []) t fun t' => opsQ P orc ops draw nm r (i + 1) (Bool.rec (motive := fun _ => List (Nat × Tx)) tr (tr ++ [(i, tx0)]) draw) t' H kq) = _
  simp only [List.length_cons, List.range'_succ, opsK, Tu, hget, Mr, Aay, T0]
  have htr2 : ∀ ft : Tx, draw = true -> (Bool.rec (motive := fun _ => List (Nat × Tx)) tr (tr ++ [(i, ft)]) draw) = tr' ++ [(i, ft)] := fun ft hd => by rw [hd, htr hd]
  have hm2 : ∀ ft : Tx, (tr' ++ [(i, ft)]).map (·.1) = List.range (i + 1) := fun ft => by rw [List.map_append, hm, List.range_succ]; rfl
  refine Abe ops ho o _ _ _ _ (fun t1 o1 => ?_) (fun t1 o1 => ?_)
  ·rw [AeN o1, AgA]
   cases resF P o (opA t1.toL) with
   | none => rfl
   | some p =>
    obtain ⟨ok, a⟩ := p
    cases ok with
    | false => rfl
    | true =>
     simp only [cond_true]
     show AcY a orc (nm + 16 * i) H _ = _
     rw [AcX]
     refine T2 _ _ _ _ _ fun x ft u => ?_
     obtain ⟨t2, o2, e2, k2⟩ := Aal o.dst x o1
     rw [k2, Su, go _ (tr' ++ [(i, ⟨ft, Jp a x, u⟩)]) _ _ o2 (hm2 _) (htr2 _), e2]
  ·obtain ⟨t2, o2, e2, k2⟩ := Aal o.dst (.tup []) o1
   rw [k2, go _ (tr' ++ [(i, tx0)]) _ _ o2 (hm2 _) (htr2 _), e2]
def unP (ops : Array Oper) : List (Nat × Nat) := (List.range ops.size).flatMap fun j => ((List.range j).filter fun i => !((Ht ops.toList []).getD j 0).testBit i).map fun i => (i, j)
def AhZ (ops : Array Oper) : Bool := (unP ops).all (fun p => match ops[p.1]?, ops[p.2]? with | some o, some q => o.apart ops q | _, _ => false) && Cw ops
def Nx (tr : List (Nat × Tx)) (i : Nat) : Foot := Option.rec (motive := fun _ => Foot) ⟨[], []⟩ (fun p => p.2.ft) (getQ tr i)
def Aas (l : List (Nat × Nat)) : List (Nat × Tx) -> Bool :=
 List.rec (motive := fun _ => List (Nat × Tx) -> Bool) (fun _ => true) (fun p _ ih tr => Bool.rec (motive := fun _ => Bool) false (ih tr) (Jt (Nx tr p.1) (Nx tr p.2))) l
def Rr (ops : Array Oper) (tr : List (Nat × Tx)) : Bool := AhZ ops && Aas (unP ops) tr
theorem Pg : ∀ (l : List (Nat × Nat)) (tr : List (Nat × Tx)), Aas l tr = true -> ∀ p ∈ l, Jt (Nx tr p.1) (Nx tr p.2) = true
 | [], _, _, p, hp => by simp at hp
 | q :: r, tr, h, p, hp => by
  have h' : Bool.rec (motive := fun _ => Bool) false (Aas r tr) (Jt (Nx tr q.1) (Nx tr q.2)) = true := h
  cases hi : Jt (Nx tr q.1) (Nx tr q.2) with
  | false => rw [hi] at h'; cases h'
  | true =>
   rw [hi] at h'
   rcases List.mem_cons.1 hp with rfl | hp
   ·exact hi
   ·exact Pg r tr h' p hp
theorem Wa {tr : List (Nat × Tx)} {n i : Nat} (hm : tr.map (·.1) = List.range n) {x : Nat × Tx} (hx : tr[i]? = some x) : x.1 = i /\ Nx tr i = x.2.ft := by
 constructor
 ·have h1 : (tr.map (·.1))[i]? = some x.1 := by rw [List.getElem?_map, hx]; rfl
  rw [hm] at h1
  have := List.getElem?_eq_some_iff.1 h1
  obtain ⟨hlt, e⟩ := this
  simpa using e.symm
 ·unfold Nx
  rw [Uj, hx]
theorem Lb (ops : Array Oper) (ms : List Nat) : ∀ (tr : List (Nat × Tx)), (∀ (i j : Nat) (x y : Nat × Tx), i < j -> tr[i]? = some x -> tr[j]? = some y -> ((ms.getD y.1 0).testBit x.1 || Ju ops x y) = true) -> Bv ops ms tr = true
 | [], _ => rfl
 | x :: r, h => by
  simp only [Bv, Bool.and_eq_true]
  refine ⟨?_, Lb ops ms r fun i j a b hij ha hb => h (i + 1) (j + 1) a b (by omega) (by simpa using ha) (by simpa using hb)⟩
  rw [List.all_eq_true]
  intro y hy
  obtain ⟨j, hj, e⟩ := List.getElem_of_mem hy
  exact h 0 (j + 1) x y (by omega) (by simp) (by simp [List.getElem?_eq_getElem hj, e])
theorem Aah (ops : Array Oper) (tr : List (Nat × Tx)) (hm : tr.map (·.1) = List.range ops.size) (h : Rr ops tr = true) : Bv ops (Ht ops.toList []) tr = true /\ Cw ops = true := by
 unfold Rr AhZ at h
 simp only [Bool.and_eq_true] at h
 obtain ⟨⟨h1, h2⟩, h3⟩ := h
 refine ⟨Lb ops _ tr fun i j x y hij hx hy => ?_, h2⟩
 obtain ⟨ex, fx⟩ := Wa hm hx
 obtain ⟨ey, fy⟩ := Wa hm hy
 cases ht : ((Ht ops.toList []).getD y.1 0).testBit x.1 with
 | true => rfl
 | false =>
  have hjn : j < ops.size := by
   have := congrArg List.length hm
   simp at this
   have := (List.getElem?_eq_some_iff.1 hy).1
   omega
  have hmem : (i, j) ∈ unP ops := by
   unfold unP
   rw [List.mem_flatMap]
   refine ⟨j, by simpa using hjn, ?_⟩
   rw [List.mem_map]
   exact ⟨i, by rw [List.mem_filter]; exact ⟨by simpa using hij, by rw [ex, ey] at ht; rw [ht]; rfl⟩, rfl⟩
  have g1 := List.all_eq_true.1 h1 _ hmem
  have g2 := Pg _ _ h3 _ hmem
  simp only [fx, fy] at g2
  simp only [Bool.false_or]
  unfold Ju
  rw [ex, ey]
  simp only at g1
  cases ho : ops[i]? with
  | none => rw [ho] at g1; simp at g1
  | some o =>
   cases hp : ops[j]? with
   | none => rw [ho, hp] at g1; simp at g1
   | some q =>
    rw [ho, hp] at g1
    simp only [g1, g2, Bool.true_or, Bool.and_self]
def AaD {R : Type} (s : St) (k : StQ -> R) : R := Fr.ofK s.F fun t => k ⟨t, s.H, s.nm⟩
theorem V2 (s : St) : ∃ q : StQ, q.Ok /\ q.to = s /\ ∀ (R : Type) (k : StQ -> R), AaD s k = k q := by
 obtain ⟨t, o, e, h⟩ := Fr.ofK_eq s.F
 exact ⟨⟨t, s.H, s.nm⟩, ⟨_, o⟩, by simp [StQ.to, e], fun R k => h R _⟩
def AhA {R : Type} (draw : Bool) : Program -> Array Oper -> List (Nat × Tx) -> Option (T R) -> Option (T R) :=
 Bool.rec (motive := fun _ => Program -> Array Oper -> List (Nat × Tx) -> Option (T R) -> Option (T R)) (fun _ _ _ k => k) (fun P ops tr k => Bool.rec (motive := fun _ => Option (T R)) (Up true P ops tr k) k (Rr ops tr && P.follows .mixedOrders)) draw
theorem Adx {R : Type} (draw : Bool) (ops : Array Oper) (tr tr' : List (Nat × Tx)) (hm : tr'.map (·.1) = List.range ops.size) (htr : draw = true -> tr = tr') (k : Option (T R)) :
  AhA draw P ops tr k = Up draw P ops tr' k := by
 cases draw with
 | false => rfl
 | true =>
  obtain rfl := htr rfl
  show Bool.rec (motive := fun _ => Option (T R)) (Up true P ops tr k) k (Rr ops tr && P.follows .mixedOrders) = _
  cases hq : Rr ops tr with
  | false => rfl
  | true =>
   cases hf : P.follows .mixedOrders with
   | false => rfl
   | true =>
    obtain ⟨h1, h2⟩ := Aah ops tr hm hq
    rw [Q1, h1, h2, hf]
    rfl
def Qc {R : Type} (P : Program) (orc : Orc) (ops : Array Oper) (draw : Bool) (s : StQ) (k : Out -> StQ -> Option (T R)) : Option (T R) :=
 bif draw && El ops then Dq P orc ops draw s.to fun o s' => AaD s' fun q => k o q
 else opsQ P orc ops draw s.nm ops.toList 0 [] s.t s.H fun tr t H => AhA draw P ops tr (natK (s.nm + 16 * ops.size) fun n => k .norm ⟨t, H, n⟩)
def KEq {R : Type} (kq : Out -> StQ -> Option (T R)) (k : Out -> St -> Option (T R)) : Prop := ∀ o (s : StQ), s.Ok -> kq o s = k o s.to
theorem Adg {R : Type} {kq : Out -> StQ -> Option (T R)} {k : Out -> St -> Option (T R)} (h : KEq kq k) (o : Out) (s : St) : (AaD s fun q => kq o q) = k o s := by
 obtain ⟨q, ho, e, hk⟩ := V2 s
 rw [hk, h o q ho, e]
theorem N6 {R : Type} (ops : Array Oper) (draw : Bool) (s : StQ) (hs : s.Ok) {kq : Out -> StQ -> Option (T R)} {k : Out -> St -> Option (T R)} (h : KEq kq k) : Qc P orc ops draw s kq = Dq P orc ops draw s.to k := by
 unfold Qc
 cases hd : (draw && El ops) with
 | true =>
  simp only [cond_true]
  have : (fun o s' => AaD s' fun q => kq o q) = k := by funext o s'; exact Adg h o s'
  rw [this]
 | false =>
  simp only [cond_false]
  unfold Dq
  simp only [hd, cond_false]
  obtain ⟨hi, ho⟩ := hs
  have := Aaw (P := P) (orc := orc) (R := R) ops draw s.nm ops.toList 0 (by simp) [] [] s.t hi s.H (fun tr t H => AhA draw P ops tr (natK (s.nm + 16 * ops.size) fun n => kq .norm ⟨t, H, n⟩))
   (fun tr s' => Up draw P ops tr (k .norm ⟨s'.F, s'.H, s.nm + 16 * ops.size⟩)) ho rfl (fun _ => rfl) (fun tr tr' t H ho hm htr => by
     rw [Adx draw ops tr tr' (by simpa using hm) htr, AgP, h .norm ⟨t, H, _⟩ ⟨hi, ho⟩]
     rfl)
  rw [this]
  have e : List.range ops.size = List.range' 0 ops.toList.length := by rw [List.range_eq_range']; rfl
  rw [e]
  rfl
def Tr {R : Type} (k0 : Nat) (note : Option Note) (s : StQ) (k : StQ -> Option (T R)) : Option (T R) := match note with
 | none => k s
 | some n => match trim k0 (some n) s.to with
  | none => none
  | some s0 => AaD s0 k
theorem Lg {R : Type} (k0 : Nat) (note : Option Note) (s : StQ) (hs : s.Ok) {kq : StQ -> Option (T R)} {k : St -> Option (T R)} (h : ∀ s : StQ, s.Ok -> kq s = k s.to) :
  Tr k0 note s kq = match trim k0 note s.to with | none => none | some s0 => k s0 := by
 cases note with
 | none => exact h s hs
 | some n =>
  simp only [Tr]
  cases trim k0 (some n) s.to with
  | none => rfl
  | some s0 =>
   obtain ⟨q, ho, e, hk⟩ := V2 s0
   simp only
   rw [hk, h q ho, e]
def outK {R : Type} (o : Out) : (StQ -> Option (T R)) -> (Out -> StQ -> Option (T R)) -> StQ -> Option (T R) :=
 Out.rec (motive := fun _ => (StQ -> Option (T R)) -> (Out -> StQ -> Option (T R)) -> StQ -> Option (T R)) (fun g _ s => g s) (fun id _ k s => k (.exit id) s) (fun l _ k s => k (.goto l) s) (fun _ k s => k .ret s) o
def Ajz {R : Type} (o : Out) : Nat -> (Out -> StQ -> Option (T R)) -> StQ -> Option (T R) :=
 Out.rec (motive := fun _ => Nat -> (Out -> StQ -> Option (T R)) -> StQ -> Option (T R)) (fun _ k s => k .norm s) (fun j id k s => Bool.rec (motive := fun _ => Option (T R)) (k (.exit j) s) (k .norm s) (Nat.beq j id)) (fun l _ k s => k (.goto l) s) (fun _ k s => k .ret s) o
def Ug {R : Type} (k0 : Nat) (note : Option Note) (body : StQ -> (Out -> StQ -> Option (T R)) -> Option (T R)) (n : Nat) : StQ -> (Out -> StQ -> Option (T R)) -> Option (T R) :=
 Nat.rec (motive := fun _ => StQ -> (Out -> StQ -> Option (T R)) -> Option (T R)) (fun _ _ => none) (fun _ ih s k => body s fun o s' => outK o (fun s' => Tr k0 note s' fun s0 => ih s0 k) k s') n
theorem Lk {R : Type} (k0 : Nat) (note : Option Note) {bq : StQ -> (Out -> StQ -> Option (T R)) -> Option (T R)} {b : St -> (Out -> St -> Option (T R)) -> Option (T R)}
  (hb : ∀ (s : StQ) kq k, s.Ok -> KEq kq k -> bq s kq = b s.to k) : ∀ (n : Nat) (s : StQ) kq k, s.Ok -> KEq kq k -> Ug k0 note bq n s kq = Du k0 note b n s.to k
 | 0, s, kq, k, _, _ => rfl
 | n + 1, s, kq, k, hs, hk => by
  show (bq s fun o s' => outK o (fun s' => Tr k0 note s' fun s0 => Ug k0 note bq n s0 kq) kq s') = _
  simp only [Du]
  refine hb s _ _ hs fun o s' hs' => ?_
  cases o with
  | norm => exact Lg k0 note s' hs' (kq := fun s0 => Ug k0 note bq n s0 kq) (k := fun s0 => Du k0 note b n s0 k) fun s0 h0 => Lk k0 note hb n s0 kq k h0 hk
  | exit id => exact hk _ _ hs'
  | goto l => exact hk _ _ hs'
  | ret => exact hk _ _ hs'
def Z5 {R : Type} (k0 n : Nat) (ann : Ann) (c : Code) (ev : Option Nat -> StQ -> (Out -> StQ -> Option (T R)) -> Option (T R)) (l : Nat) (k : Out -> StQ -> Option (T R)) (s' : StQ) : Option (T R) :=
 match findLabel c l with
  | some rest => Tr k0 ((Bx rest).bind ann) s' fun s0 => Ug k0 ((Bx rest).bind ann) (fun s' k' => ev (some l) s' fun o s'' => match o with
   | .goto m => bif m == l then k' .norm s'' else none
   | .norm => k' (.goto l) s''
   | .exit id => k' (.exit id) s''
   | .ret => k' .ret s'') n s0 fun o s'' => match o with
    | .goto _ => k .norm s''
    | .norm => none
    | .exit id => k (.exit id) s''
    | .ret => k .ret s''
  | none => none
def AdE {R : Type} (x : AV) (a b : Option (T R)) : Option (T R) := match x with
 | .c (.d (.v (.bool t))) => Bool.rec (motive := fun _ => Option (T R)) b a t
 | _ => none
def Qn {R : Type} (lab : Option Nat) : Option (T R) -> Option (T R) := Option.rec (motive := fun _ => Option (T R) -> Option (T R)) (fun x => x) (fun _ _ => none) lab
def seqQ {R : Type} (lab : Option Nat) : Code -> (Option Nat -> StQ -> (Out -> StQ -> Option (T R)) -> Option (T R)) -> (Option Nat -> StQ -> (Out -> StQ -> Option (T R)) -> Option (T R)) -> StQ -> (Out -> StQ -> Option (T R)) -> Option (T R) :=
 Option.rec (motive := fun _ => Code -> (Option Nat -> StQ -> (Out -> StQ -> Option (T R)) -> Option (T R)) -> (Option Nat -> StQ -> (Out -> StQ -> Option (T R)) -> Option (T R)) -> StQ -> (Out -> StQ -> Option (T R)) -> Option (T R))
  (fun _ ea eb s k => ea none s fun o s' => outK o (fun s' => eb none s' k) k s')
  (fun l a ea eb s k => bif Cy l a then ea (some l) s (fun o s' => outK o (fun s' => eb none s' k) k s') else eb (some l) s k) lab
def Ahj {R : Type} (P : Program) (orc : Orc) (ann : Ann) (k0 n : Nat) (id : Nat) (ops : Array Oper) (draw : Bool) (s : StQ) (k : Out -> StQ -> Option (T R)) : Option (T R) := match ann (id + 100000) with
 | none => Qc P orc ops draw s k
 | some nt => Tr k0 (some nt) s fun s0 => Ug k0 ((Bx (.region id ops draw)).bind ann) (fun s' k' => Qc P orc ops draw s' fun o s'' => match o with
  | .norm => k' .ret s''
  | _ => none) n s0 fun o s'' => match o with
   | .ret => k .norm s''
   | _ => none
def evQ {R : Type} (P : Program) (orc : Orc) (ann : Ann) (k0 n : Nat) (c : Code) : Option Nat -> StQ -> (Out -> StQ -> Option (T R)) -> Option (T R) :=
 Code.rec (motive := fun _ => Option Nat -> StQ -> (Out -> StQ -> Option (T R)) -> Option (T R))
  (fun lab s k => Qn lab (k .norm s))
  (fun id ops draw lab s k => Qn lab (Ahj P orc ann k0 n id ops draw s k))
  (fun a _ ea eb lab s k => seqQ lab a ea eb s k)
  (fun c _ _ ex ey lab s k => Qn lab (AdE (opQ s.t c) (ex none s k) (ey none s k)))
  (fun id _ ec lab s k => Qn lab (ec none s fun o s' => Ajz o id k s'))
  (fun c ec lab s k => Qn lab (Tr k0 ((Bx c).bind ann) s fun s0 => Ug k0 ((Bx c).bind ann) (fun s' k' => ec none s' k') n s0 k))
  (fun _ _ _ _ _ _ _ _ _ => none)
  (fun id lab s k => Qn lab (k (.exit id) s))
  (fun c ec lab s k => Qn lab (ec none s fun o s' => match o with
    | .goto l => Z5 k0 n ann c ec l k s'
    | .norm => k .norm s'
    | .exit id => k (.exit id) s'
    | .ret => k .ret s'))
  (fun m lab s k => match lab with | none => k .norm s | some l => bif m == l then k .norm s else none)
  (fun l lab s k => Qn lab (k (.goto l) s))
  (fun lab s k => Qn lab (k .ret s))
  (fun _ _ _ _ => none) c
theorem AdD {R : Type} (x : AV) (a b : Option (T R)) : AdE x a b = match x with | .c (.d (.v (.bool t))) => bif t then a else b | _ => none := by
 unfold AdE
 split
 ·rename_i t
  cases t <;> rfl
 ·rfl
theorem Ajc {R : Type} (ann : Ann) (k0 n : Nat) : ∀ (c : Code) (lab : Option Nat) (s : StQ) (kq : Out -> StQ -> Option (T R)) (k : Out -> St -> Option (T R)), s.Ok -> KEq kq k -> evQ P orc ann k0 n c lab s kq = evK P orc ann k0 n c lab s.to k := by
 intro c
 induction c with
 | skip =>
  intro lab s kq k hs hk
  cases lab with
  | none => simp only [evK]; exact hk _ _ hs
  | some l => simp only [evK]; rfl
 | region id ops draw =>
  intro lab s kq k hs hk
  cases lab with
  | none =>
   simp only [evK]
   show Ahj P orc ann k0 n id ops draw s kq = _
   unfold Ahj
   cases ann (id + 100000) with
   | none => exact N6 ops draw s hs hk
   | some nt =>
    simp only []
    refine Lg k0 (some nt) s hs fun s0 h0 => ?_
    refine Lk k0 _ (b := fun s' k' => Dq P orc ops draw s' (Sd fun s'' => k' .ret s'')) (fun s1 kq1 k1 h1 hk1 => N6 ops draw s1 h1 fun o s2 h2 => ?_) n s0 _ _ h0 fun o s2 h2 => ?_
    ·cases o with
     | norm => exact hk1 _ _ h2
     | _ => rfl
    ·cases o with
     | ret => exact hk _ _ h2
     | _ => rfl
  | some l => simp only [evK]; rfl
 | seq a b iha ihb =>
  intro lab s kq k hs hk
  have go : ∀ lab', (evQ P orc ann k0 n a lab' s fun o s' => outK o (fun s' => evQ P orc ann k0 n b none s' kq) kq s') = evK P orc ann k0 n a lab' s.to fun o s' => match o with
   | .norm => evK P orc ann k0 n b none s' k
   | .exit id => k (.exit id) s'
   | .goto l => k (.goto l) s'
   | .ret => k .ret s' := fun lab' => iha lab' s _ _ hs fun o s' hs' => by
    cases o with
    | norm => exact ihb none s' kq k hs' hk
    | exit id => exact hk _ _ hs'
    | goto l => exact hk _ _ hs'
    | ret => exact hk _ _ hs'
  cases lab with
  | none => simp only [evK]; exact go none
  | some l =>
   simp only [evK]
   show (bif Cy l a then (evQ P orc ann k0 n a (some l) s fun o s' => outK o (fun s' => evQ P orc ann k0 n b none s' kq) kq s') else evQ P orc ann k0 n b (some l) s kq) = _
   cases Cy l a with
   | true => simp only [cond_true]; exact go (some l)
   | false => simp only [cond_false]; exact ihb (some l) s kq k hs hk
 | cond c x y ihx ihy =>
  intro lab s kq k hs hk
  cases lab with
  | some l => simp only [evK]; rfl
  | none =>
   simp only [evK]
   show AdE (opQ s.t c) (evQ P orc ann k0 n x none s kq) (evQ P orc ann k0 n y none s kq) = _
   have hs1 := hs
   obtain ⟨hi, ho⟩ := hs
   rw [AdD, AeN ho, ihx none s kq k hs1 hk, ihy none s kq k hs1 hk]
   rfl
 | block id c ih =>
  intro lab s kq k hs hk
  cases lab with
  | some l => simp only [evK]; rfl
  | none =>
   simp only [evK]
   refine ih none s _ _ hs fun o s' hs' => ?_
   cases o with
   | norm => exact hk _ _ hs'
   | exit j =>
    show Bool.rec (motive := fun _ => Option (T R)) (kq (.exit j) s') (kq .norm s') (Nat.beq j id) = bif j == id then _ else _
    have e : (j == id) = Nat.beq j id := by rw [beqD]; exact Bool.beq_eq_decide_eq j id
    rw [e]
    cases Nat.beq j id with
    | true => exact hk _ _ hs'
    | false => exact hk _ _ hs'
   | goto l => exact hk _ _ hs'
   | ret => exact hk _ _ hs'
 | loop c ih =>
  intro lab s kq k hs hk
  cases lab with
  | some l => simp only [evK]; rfl
  | none =>
   simp only [evK]
   exact Lg k0 _ s hs (kq := fun s0 => Ug k0 ((Bx c).bind ann) (fun s' k' => evQ P orc ann k0 n c none s' k') n s0 kq) (k := fun s0 => Du k0 ((Bx c).bind ann) (fun s' k' => evK P orc ann k0 n c none s' k') n s0 k) fun s0 h0 => Lk k0 _ (fun s1 kq1 k1 h1 hk1 => ih none s1 kq1 k1 h1 hk1) n s0 kq k h0 hk
 | scope c ih =>
  intro lab s kq k hs hk
  cases lab with
  | some l => simp only [evK]; rfl
  | none =>
   simp only [evK]
   refine ih none s _ _ hs fun o s' hs' => ?_
   cases o with
   | norm => exact hk _ _ hs'
   | exit id => exact hk _ _ hs'
   | ret => exact hk _ _ hs'
   | goto l =>
    show Z5 k0 n ann c (evQ P orc ann k0 n c) l kq s' = _
    unfold Z5
    simp only []
    cases findLabel c l with
    | none => rfl
    | some rest =>
     simp only []
     refine Lg k0 _ s' hs' fun s0 h0 => ?_
     refine Lk k0 _ (b := fun s' k' => evK P orc ann k0 n c (some l) s' fun o s'' => match o with
      | .goto m => bif m == l then k' .norm s'' else none
      | .norm => k' (.goto l) s''
      | .exit id => k' (.exit id) s''
      | .ret => k' .ret s'') (fun s1 kq1 k1 h1 hk1 => ih (some l) s1 _ _ h1 fun o s2 h2 => ?_) n s0 _ _ h0 fun o s2 h2 => ?_
     ·cases o with
      | goto m => cases hj : (m == l) with
       | true => simp only [hj, cond_true]; exact hk1 _ _ h2
       | false => simp only [hj, cond_false]
      | norm => exact hk1 _ _ h2
      | exit id => exact hk1 _ _ h2
      | ret => exact hk1 _ _ h2
     ·cases o with
      | goto m => exact hk _ _ h2
      | norm => rfl
      | exit id => exact hk _ _ h2
      | ret => exact hk _ _ h2
 | label m =>
  intro lab s kq k hs hk
  cases lab with
  | none => simp only [evK]; exact hk _ _ hs
  | some l =>
   simp only [evK]
   show (bif m == l then kq .norm s else none) = _
   cases hj : (m == l) with
   | true => simp only [cond_true]; exact hk _ _ hs
   | false => simp only [cond_false]
 | goto l => intro lab s kq k hs hk; cases lab with
  | none => simp only [evK]; exact hk _ _ hs
  | some l => simp only [evK]; rfl
 | exit l => intro lab s kq k hs hk; cases lab with
  | none => simp only [evK]; exact hk _ _ hs
  | some l => simp only [evK]; rfl
 | ret => intro lab s kq k hs hk; cases lab with
  | none => simp only [evK]; exact hk _ _ hs
  | some l => simp only [evK]; rfl
 | _ => intro lab s kq k hs hk; cases lab <;> (simp only [evK]; rfl)
def Qb (P : Program) (fn : Func) (t : Fr) (H : Hp) : Option (List (Bool × List C)) :=
 fn.results.toList.foldr (fun r acc => match acc with
  | none => none
  | some l => match r with
   | .tmp i => (match t.get i with
    | .c x => some ((false, [x]) :: l)
    | .agg cs => some ((true, cs) :: l)
    | _ => none)
   | .cell a ty => (match t.get a, aggT P ty, Bh P ty with
    | .c (.ptr h off), some ag, some n => (match Ew H h 0 0 off (bif ag then n else 1) ag with
     | some (.c x) => some ((false, [x]) :: l)
     | some (.agg cs) => some ((true, cs) :: l)
     | _ => none)
    | _, _, _ => none)) (some [])
theorem Ty (fn : Func) (s : StQ) (hs : s.Ok) : Qb P fn s.t s.H = Fa P fn s.to := by
 obtain ⟨hi, ho⟩ := hs
 have e : ∀ i, s.t.get i = s.to.F.getD i .u := fun i => by
  have := Fr.get_eq ho (Nat.zero_le i)
  rwa [Nat.sub_zero] at this
 unfold Qb Fa
 simp only [e]
 rfl
def endQ {R : Type} (P : Program) (fn : Func) (k0 : Nat) (k : AV -> Hp -> Option (T R)) : Out -> StQ -> Option (T R) := fun o s => match o with
 | .exit _ => none
 | .goto _ => none
 | _ => match Qb P fn s.t s.H with
  | some l => (match D8 l with
   | some x => let L := newL k0 s.H (Ds x); k (renA (newN k0 L) x) (Hj k0 s.H L)
   | none => none)
  | none => none
theorem Ahv {R : Type} (fn : Func) (k0 : Nat) (k : AV -> Hp -> Option (T R)) : KEq (endQ P fn k0 k) (endK P fn k0 k) := fun o s hs => by
 unfold endQ endK
 rw [Ty fn s hs]
 rfl
def Eh {R : Type} (P : Program) (orc : Orc) (ann : Ann) (n : Nat) (fn : Func) (c : Code) (args : List AV) (H : Hp) (k : AV -> Hp -> Option (T R)) : Option (T R) :=
 Fr.putsK args 0 (Fr.base (args.length + (fn.ntmps - args.length)) 0 (args.length + (fn.ntmps - args.length))) fun t => evQ P orc ann H.length n c none ⟨t, H, H.length⟩ (endQ P fn H.length k)
theorem Wo {R : Type} (ann : Ann) (n : Nat) (fn : Func) (c : Code) (args : List AV) (H : Hp) (k : AV -> Hp -> Option (T R)) : Eh P orc ann n fn c args H k = Sk P orc ann n fn c args H k := by
 unfold Eh Sk
 have hb := Fr.base_ok (args.length + (fn.ntmps - args.length)) 0 (args.length + (fn.ntmps - args.length)) (Nat.le_refl _)
 rw [Nat.zero_add] at hb
 obtain ⟨t, o, e, h⟩ := Fr.putsK_eq args hb.1 (i := 0) (by omega)
 rw [h, Ajc (P := P) (orc := orc) ann H.length n c none ⟨t, H, H.length⟩ _ _ ⟨_, o⟩ (Ahv fn H.length k)]
 congr 1
 unfold StQ.to
 rw [e, hb.2]
 simp
end
theorem Ajr {P : Program} {orc : Orc} (ho : Dh P orc) {ann : Ann} {n : Nat} {f : FuncId} {fn : Func} {c : Code} {args : List AV} {H : Hp} {x : AV} {H' : Hp} (hf : P.funcs[f]? = some fn) (hb : fn.body = some c) (hH : seqN 0 H = true)
 (h : Eh P orc ann n fn c args H (fun x H' => some (.leaf (x, H'))) = some (.leaf (x, H'))) : CX P f args H x H' := Afd ho hf hb hH (by rw [Wo] at h; exact h)
end Go.Eb
namespace Go.Eb
open Go.RowKit
def frzP (H : Hp) : List (Bool × List C) -> Option (List (Bool × List D))
 | [] => some []
 | p :: r => match frzL H 400 p.2 with
  | some (ds, _) => match frzP H r with
   | some l => some ((p.1, ds) :: l)
   | none => none
  | none => none
def Ait (p : Bool × List D) : Bool × List C := (p.1, p.2.map .d)
def frzA (H : Hp) : AV -> Option AV
 | .c x => match frz H 400 x with
  | some (d, _) => some (.c (.d d))
  | none => none
 | .agg cs => match frzL H 400 cs with
  | some (ds, _) => some (.agg (ds.map .d))
  | none => none
 | .tup ps => match frzP H ps with
  | some l => some (.tup (l.map Ait))
  | none => none
 | .u => some .u
section
variable {β : Bt} {w : World} {I : Im} {H : Hp}
def allB (β : Bt) (I : Im) : Im := fun b o => I b o \/ ∃ k, (β k).blk = some b
theorem Vq {I' : Im} {β' : Bt} {ds : List D} {vs : List Value} (h : RepDs w I' ds vs) : RepCs β' w I' (ds.map .d) vs := by
 refine ⟨by simpa using h.1, fun i c v h1 h2 => ?_⟩
 rw [List.getElem?_map] at h1
 cases hd : ds[i]? with
 | none => rw [hd] at h1; cases h1
 | some d => rw [hd] at h1; cases h1; exact h.2 i d v hd h2
theorem Abo (hr : RelH β H I w) {β' : Bt} : ∀ (ps : List (Bool × List C)) (l : List (Bool × List D)), frzP H ps = some l -> l.length = ps.length /\ ∀ (i : Nat) p q v, ps[i]? = some p -> l[i]? = some q -> RepP β w I p v -> RepP β' w (allB β I) (Ait q) v
 | [], l, h => by simp [frzP] at h; subst h; exact ⟨rfl, fun i p q v h => by simp at h⟩
 | p :: r, l, h => by
  simp only [frzP] at h
  split at h
  ·rename_i ds ks hf
   split at h
   ·rename_i l' hl
    simp only [Option.some.injEq] at h
    subst h
    obtain ⟨h1, h2⟩ := Abo hr r l' hl
    refine ⟨by simp [h1], fun i p' q v e1 e2 hp => ?_⟩
    cases i with
    | succ i => exact h2 i p' q v (by simpa using e1) (by simpa using e2) hp
    | zero =>
     simp at e1 e2
     subst e1 e2
     obtain ⟨b, cs⟩ := p
     have key : ∀ vs, RepCs β w I cs vs -> RepDs w (allB β I) ds vs := fun vs hv => (Fh hr 400 cs ds ks vs hf hv).2 _ (fun _ _ hi => .inl hi) (fun k _ b hb o => .inr ⟨k, hb⟩)
     cases b with
     | true => obtain ⟨vs, rfl, hv⟩ := hp; exact ⟨vs, rfl, Vq (key _ hv)⟩
     | false =>
      obtain ⟨c, hcs, hv⟩ := hp
      have hcs : cs = [c] := hcs
      subst hcs
      have := key [v] ⟨rfl, fun i c' v' h1 h2 => by
       cases i with
       | zero => simp at h1 h2; subst h1 h2; exact hv
       | succ i => simp at h1⟩
      match ds, this with
      | [d], this => exact ⟨.d d, rfl, this.2 0 d v rfl rfl⟩
   ·simp at h
  ·simp at h
theorem Abp (hr : RelH β H I w) {β' : Bt} {x y : AV} {v : Value} (h : frzA H x = some y) (hx : RepA β w I x v) : RepA β' w (allB β I) y v := by
 cases x with
 | c x =>
  simp only [frzA] at h
  split at h
  ·rename_i d ks hf
   simp only [Option.some.injEq] at h
   subst h
   exact (Abm hr 400 x d ks v hf hx).2 _ (fun _ _ hi => .inl hi) (fun k _ b hb o => .inr ⟨k, hb⟩)
  ·simp at h
 | agg cs =>
  simp only [frzA] at h
  split at h
  ·rename_i ds ks hf
   simp only [Option.some.injEq] at h
   subst h
   obtain ⟨vs, rfl, hv⟩ := hx
   exact ⟨vs, rfl, Vq ((Fh hr 400 cs ds ks _ hf hv).2 _ (fun _ _ hi => .inl hi) (fun k _ b hb o => .inr ⟨k, hb⟩))⟩
  ·simp at h
 | tup ps =>
  simp only [frzA] at h
  split at h
  ·rename_i l hf
   simp only [Option.some.injEq] at h
   subst h
   obtain ⟨vs, rfl, hl, hv⟩ := hx
   obtain ⟨h1, h2⟩ := Abo (β' := β') hr ps l hf
   refine ⟨vs, rfl, by simpa [h1] using hl, fun i p x e1 e2 => ?_⟩
   rw [List.getElem?_map] at e1
   cases hq : l[i]? with
   | none => rw [hq] at e1; cases e1
   | some q =>
    rw [hq] at e1
    simp only [Option.map_some, Option.some.injEq] at e1
    subst e1
    have hlt : i < ps.length := by rw [<- h1]; exact (List.getElem?_eq_some_iff.1 hq).1
    exact h2 i _ q x (List.getElem?_eq_getElem hlt) hq (hv i _ x (List.getElem?_eq_getElem hlt) e2)
  ·simp at h
 | u => simp [frzA] at h; subst h; trivial
end
theorem CR.data {P : Program} {f : FuncId} {args : List AV} {x y : AV} {Hr : Hp} (h : CR P f args [] x Hr) (hf : frzA Hr x = some y) : CR P f args [] y [] := by
 intro β I w vs hr ha
 refine (h β I w vs hr ha).mono fun e w' ⟨v, β', I', he, hr', hx, hE, hm⟩ => ?_
 have hfree : ∀ h, β h = .free := fun h => hr.dom h rfl
 refine ⟨v, β, allB β' I', he, ?_, Abp hr' hf hx, ?_, .refl _⟩
 ·refine ⟨⟨fun i j b hi => ?_, fun i b hi => ?_, fun i b o hi => ?_, fun b o hi => ?_, hr'.gl.step (fun _ _ hi => .inl hi) (fun _ _ _ => rfl)⟩, fun i _ => hfree i, fun i B hB => by simp [look] at hB⟩
  ·rw [hfree i] at hi; cases hi
  ·rw [hfree i] at hi; cases hi
  ·rw [hfree i] at hi; cases hi
  ·rcases hi with hi | ⟨k, hk⟩
   ·exact hr'.old b o hi
   ·exact hr'.lt k b hk
 ·refine ⟨hE.os, hE.tape, hE.output, hE.size, hE.block, fun b o hi => .inl (hE.keepI b o hi), hE.cell, fun b o hi => ?_, fun i b hb => .inl ⟨i, hb⟩, hE.shapes⟩
  rcases hi with hi | ⟨k, hk⟩
  ·exact hE.newI b o hi
  ·rcases hE.newB k b hk with ⟨j, hj⟩ | hj
   ·exact .inr (.inr ⟨j, hj⟩)
   ·exact .inr (.inl hj)
def Qx (H : Hp) : List AV -> Option (List AV)
 | [] => some []
 | x :: r => match frzA H x with
  | some y => match Qx H r with
   | some l => some (y :: l)
   | none => none
  | none => none
theorem V9 {β β' : Bt} {w : World} {I : Im} {H : Hp} (hr : RelH β H I w) : ∀ (xs ys : List AV), Qx H xs = some ys -> ys.length = xs.length /\ ∀ (i : Nat) x y v, xs[i]? = some x -> ys[i]? = some y -> RepA β w I x v -> RepA β' w (allB β I) y v
 | [], ys, h => by simp [Qx] at h; subst h; exact ⟨rfl, fun i x y v h => by simp at h⟩
 | x :: r, ys, h => by
  simp only [Qx] at h
  split at h
  ·rename_i y hy
   split at h
   ·rename_i l hl
    simp only [Option.some.injEq] at h
    subst h
    obtain ⟨h1, h2⟩ := V9 (β' := β') hr r l hl
    refine ⟨by simp [h1], fun i x' y' v e1 e2 hx => ?_⟩
    cases i with
    | zero => simp at e1 e2; subst e1 e2; exact Abp hr hy hx
    | succ i => exact h2 i x' y' v (by simpa using e1) (by simpa using e2) hx
   ·simp at h
  ·simp at h
section
variable {α : Type} [Inhabited α]
def okE (enc : α -> D) (x : D) : Bool := @decide (∃ a, DE x (enc a)) (Classical.propDecidable _)
def theE (enc : α -> D) (x : D) : α := @dite _ (∃ a, DE x (enc a)) (Classical.propDecidable _) (fun h => Classical.choose h) (fun _ => default)
omit [Inhabited α] in
theorem AaC {enc : α -> D} {x : D} : okE enc x = true ↔ ∃ a, DE x (enc a) := by unfold okE; simp
theorem Db {enc : α -> D} {x : D} (h : okE enc x = true) : DE x (enc (theE enc x)) := by
 have h' := AaC.1 h
 unfold theE
 rw [dif_pos h']
 exact Classical.choose_spec h'
theorem Ys {enc : α -> D} (inj : ∀ a b, DE (enc a) (enc b) -> a = b) {x : D} {a : α} (h1 : DE x (enc a)) (h2 : DE (enc a) x) : okE enc x = true /\ theE enc x = a := by
 have h := AaC.2 ⟨a, h1⟩
 exact ⟨h, (inj _ _ (h2.trans (Db h))).symm⟩
end
def Aa {β : Type} (sz : Nat) (c : β -> List D) (d0 : β) (l : List β) : D := .sl sz l.length fun i => c (l.getD i d0)
theorem Mk {β : Type} {d : β} : ∀ {l l' : List β}, l.length = l'.length -> (∀ i, i < l.length -> l.getD i d = l'.getD i d) -> l = l'
 | [], [], _, _ => rfl
 | x :: r, y :: r', hl, h => by
  have h0 := h 0 (by simp)
  simp at h0
  rw [h0, Mk (l := r) (l' := r') (by simpa using hl) (fun i hi => by have := h (i + 1) (by simpa using hi); simpa using this)]
 | [], _ :: _, hl, _ => by simp at hl
 | _ :: _, [], hl, _ => by simp at hl
theorem At {β : Type} {sz : Nat} {c : β -> List D} {d0 : β} (hc : ∀ a b, DEs (c a) (c b) -> a = b) (l l' : List β) (h : DE (Aa sz c d0 l) (Aa sz c d0 l')) : l = l' := by
 unfold Aa at h
 generalize he : l'.length = n' at h
 generalize hg : (fun i => c (l'.getD i d0)) = g at h
 generalize hn : l.length = n at h
 generalize hf : (fun i => c (l.getD i d0)) = f at h
 cases h with
 | sl _ _ _ _ h1 h2 =>
  refine Mk (d := d0) (by omega) fun i hi => ?_
  refine hc _ _ ⟨?_, fun j d e hd he' => ?_⟩
  ·have := h1 i (by omega); rw [<- hf, <- hg] at this; exact this
  ·exact h2 i j d e (by omega) (by rw [<- hf]; exact hd) (by rw [<- hg]; exact he')
theorem Si {a b : Value} (h : DE (.v a) (.v b)) : a = b := by cases h; rfl
end Go.Eb
namespace Go.Eb
open Go.RowKit
theorem Fz {n : Int} (h0 : -9223372036854775808 <= n) (h1 : n <= 9223372036854775807) : IntKind.wrap IntKind.i64 n = n := by
 have e : IntKind.wrap IntKind.i64 n = (n + 9223372036854775808) % 18446744073709551616 - 9223372036854775808 := by
  unfold IntKind.wrap; simp [IntKind.signed, IntKind.bits]; omega
 rw [e]; omega
theorem lt1 {k n : Nat} (h : k < n) : decide ((k : Int) < (n : Int)) = true := by simp; omega
theorem lt0 {k n : Nat} (h : ¬ k < n) : decide ((k : Int) < (n : Int)) = false := by simp; omega
theorem ge0 (k : Nat) : decide ((0 : Int) <= (k : Int)) = true := by simp
theorem tn (k : Nat) : Int.toNat (k : Int) = k := by simp
theorem nx {k n : Nat} (h : k < n) (hn : n <= 9223372036854775807) : IntKind.wrap IntKind.i64 ((k : Int) + 1) = ((k + 1 : Nat) : Int) := by rw [Fz (by omega) (by omega)]; omega
theorem Am {α : Type} {T : List α} {d : α} {a : Nat} (h : a < T.length) : T.drop a = T.getD a d :: T.drop (a + 1) := by
 rw [List.drop_eq_getElem_cons h]; simp [List.getD, h]
end Go.Eb
namespace Go.Eb
open Go.RowKit
section
variable {β : Type} {c : β -> List D} {d0 : β}
structure RL (c : β -> List D) (d0 : β) (n : Nat) (f : RD) (l : List β) : Prop where
 len : n = l.length
 le : ∀ i, i < n -> DEs (f i) (c (l.getD i d0))
 ge : ∀ i, i < n -> DEs (c (l.getD i d0)) (f i)
theorem RL.de {n sz : Nat} {f : RD} {l : List β} (h : RL c d0 n f l) : DE (.sl sz n f) (Aa sz c d0 l) := by
 obtain ⟨rfl, h1, _⟩ := h
 exact .sls h1
theorem RL.ed {n sz : Nat} {f : RD} {l : List β} (h : RL c d0 n f l) : DE (Aa sz c d0 l) (.sl sz n f) := by
 obtain ⟨rfl, _, h2⟩ := h
 exact .sls h2
theorem RL.nil (f : RD) : RL c d0 0 f [] := ⟨rfl, fun i h => by omega, fun i h => by omega⟩
theorem RL.data (l : List β) : RL c d0 l.length (fun i => c (l.getD i d0)) l := ⟨rfl, fun i _ => .refl _, fun i _ => .refl _⟩
theorem RL.eq {n : Nat} {f : RD} {l : List β} (hn : n = l.length) (h : ∀ i, i < n -> f i = c (l.getD i d0)) : RL c d0 n f l := ⟨hn, fun i hi => by rw [h i hi]; exact .refl _, fun i hi => by rw [h i hi]; exact .refl _⟩
theorem Ms {l l' : List β} {i : Nat} (h : i < l.length) : (l ++ l').getD i d0 = l.getD i d0 := by
 rw [List.getD_eq_getElem?_getD, List.getElem?_append_left h, <- List.getD_eq_getElem?_getD]
theorem Mt {l l' : List β} {i : Nat} (h : l.length <= i) : (l ++ l').getD i d0 = l'.getD (i - l.length) d0 := by
 rw [List.getD_eq_getElem?_getD, List.getElem?_append_right h, <- List.getD_eq_getElem?_getD]
theorem RL.cat {n m : Nat} {f g : RD} {l l' : List β} (h : RL c d0 n f l) (k : RL c d0 m g l') : RL c d0 (n + m) (appF n f g) (l ++ l') := by
 have hf : ∀ i, i < n + m -> (i < n /\ appF n f g i = f i /\ (l ++ l').getD i d0 = l.getD i d0) \/ (n <= i /\ appF n f g i = g (i - n) /\ (l ++ l').getD i d0 = l'.getD (i - n) d0) := fun i hi => by
  unfold appF
  rw [bltD]
  by_cases e : i < n
  ·left; rw [decide_eq_true e]; exact ⟨e, rfl, Ms (by rw [<- h.len]; exact e)⟩
  ·right; rw [decide_eq_false e]; exact ⟨by omega, rfl, by rw [Mt (by rw [<- h.len]; omega), <- h.len]⟩
 refine ⟨by rw [h.len, k.len, List.length_append], fun i hi => ?_, fun i hi => ?_⟩
 ·rcases hf i hi with ⟨h1, h2, h3⟩ | ⟨h1, h2, h3⟩
  ·rw [h2, h3]; exact h.le i h1
  ·rw [h2, h3]; exact k.le (i - n) (by omega)
 ·rcases hf i hi with ⟨h1, h2, h3⟩ | ⟨h1, h2, h3⟩
  ·rw [h2, h3]; exact h.ge i h1
  ·rw [h2, h3]; exact k.ge (i - n) (by omega)
theorem RL.one {sz : Nat} {ds : List D} {x : β} (hs : ds.length = sz) (h1 : DEs ds (c x)) (h2 : DEs (c x) ds) : RL c d0 1 (Au ds sz) [x] := by
 have e : ∀ i, i < 1 -> Au ds sz i = ds /\ [x].getD i d0 = x := fun i hi => by
  obtain rfl : i = 0 := by omega
  refine ⟨?_, rfl⟩
  unfold Au
  simp [<- hs]
 exact ⟨rfl, fun i hi => by rw [(e i hi).1, (e i hi).2]; exact h1, fun i hi => by rw [(e i hi).1, (e i hi).2]; exact h2⟩
theorem RL.app {n sz : Nat} {f : RD} {l : List β} {ds : List D} {x : β} (h : RL c d0 n f l) (hs : ds.length = sz) (h1 : DEs ds (c x)) (h2 : DEs (c x) ds) : RL c d0 (n + 1) (appF n f (Au ds sz)) (l ++ [x]) := h.cat (.one hs h1 h2)
theorem RL.app' {n sz : Nat} {f : RD} {l : List β} {x : β} (h : RL c d0 n f l) (hs : (c x).length = sz) : RL c d0 (n + 1) (appF n f (Au (c x) sz)) (l ++ [x]) := h.app hs (.refl _) (.refl _)
theorem RL.ble {n sz : Nat} {t : TypeId} {f : RD} {l : List β} (h : RL c d0 n f l) : Ble (.row n f sz t) (.row l.length (fun i => c (l.getD i d0)) sz t) := ⟨h.len, rfl, rfl, h.le⟩
end
section
variable {β : Type} {c : β -> List D} {d0 : β} {sz : Nat}
theorem RL.the (hc : ∀ a b, DEs (c a) (c b) -> a = b) {n : Nat} {f : RD} {l : List β} (h : RL c d0 n f l) : okE (Aa sz c d0) (.sl sz n f) = true /\ theE (Aa sz c d0) (.sl sz n f) = l :=
 Ys (At hc) h.de h.ed
theorem Bk (hc : ∀ a b, DEs (c a) (c b) -> a = b) (l : List β) : okE (Aa sz c d0) (Aa sz c d0 l) = true /\ theE (Aa sz c d0) (Aa sz c d0 l) = l := Ys (At hc) (.refl _) (.refl _)
theorem RL.of_ok {n : Nat} {f : RD} (h : okE (Aa sz c d0) (.sl sz n f) = true) : n = (theE (Aa sz c d0) (.sl sz n f)).length /\ ∀ i, i < n -> DEs (f i) (c ((theE (Aa sz c d0) (.sl sz n f)).getD i d0)) := by
 have := Db h
 generalize theE (Aa sz c d0) (.sl sz n f) = l at this
 unfold Aa at this
 generalize hy : D.sl sz l.length (fun i => c (l.getD i d0)) = y at this
 cases this with
 | sl _ _ _ g h1 h2 =>
  injection hy with _ e1 e2
  subst e2
  exact ⟨e1.symm, fun i hi => ⟨h1 i hi, fun j d e hd he => h2 i j d e hi hd he⟩⟩
theorem Acb {n : Nat} {t : TypeId} {f : RD} (h : okE (Aa sz c d0) (.sl sz n f) = true) : Ble (.row n f sz t) (.row (theE (Aa sz c d0) (.sl sz n f)).length (fun i => c ((theE (Aa sz c d0) (.sl sz n f)).getD i d0)) sz t) :=
 ⟨(RL.of_ok h).1, rfl, rfl, (RL.of_ok h).2⟩
end
def ansB {A : Type} (d : Dec (List AV × Hp) A) (c b : A -> Bool) (r : A -> AV) (H' : A -> Hp) (r2 : A -> AV) (H2 : A -> Hp) : (R : Type) -> List AV -> Hp -> (AV -> Hp -> Option (T R)) -> Option (T R) := fun _ args H k =>
 match d.dec (args, H) with
 | some a => bif c a then (bif b a then k (r a) (H' a) else k (r2 a) (H2 a)) else none
 | none => none
theorem AnsS.b {P : Program} {f : FuncId} {A : Type} {d : Dec (List AV × Hp) A} {c b : A -> Bool} {r : A -> AV} {H' : A -> Hp} {r2 : A -> AV} {H2 : A -> Hp} (hc : ∀ a, c a = true -> b a = true -> CX P f (d.enc a).1 (d.enc a).2 (r a) (H' a))
  (hc2 : ∀ a, c a = true -> b a = false -> CX P f (d.enc a).1 (d.enc a).2 (r2 a) (H2 a)) : AnsS P f (ansB d c b r H' r2 H2) := by
 refine ⟨fun R args H k t h => ?_, fun args H => ?_⟩
 ·unfold ansB at h
  cases hd : d.dec (args, H) with
  | none => rw [hd] at h; cases h
  | some a =>
   rw [hd] at h
   simp only [] at h
   cases hca : c a with
   | false => rw [hca] at h; cases h
   | true =>
    rw [hca] at h
    simp only [cond_true] at h
    have e := d.ok _ _ hd
    cases hb : b a with
    | true =>
     rw [hb] at h
     have := hc a hca hb
     rw [<- e] at this
     exact ⟨_, _, h, this⟩
    | false =>
     rw [hb] at h
     have := hc2 a hca hb
     rw [<- e] at this
     exact ⟨_, _, h, this⟩
 ·unfold ansB
  cases d.dec (args, H) with
  | none => exact .no fun R k => rfl
  | some a => exact .bif _ (.bif _ (.one _ _ fun R k => rfl) (.one _ _ fun R k => rfl)) (.no fun R k => rfl)
namespace Dec
def mp (h : Nat) : Dec C Unit := ⟨fun x => match x with | .mp k => bif Nat.beq k h then some () else none | _ => none, fun _ => .mp h, fun x a e => by
 split at e
 ·rename_i k
  cases hb : Nat.beq k h with
  | true => rw [Nat.eq_of_beq_eq_true hb]
  | false => rw [hb] at e; cases e
 ·cases e⟩
def mapB (kd : Nat) : Dec Blk (List (Value × Value)) := ⟨fun x => match x with | .map k l => bif Nat.beq k kd then some l else none | _ => none, fun l => .map kd l, fun x a e => by
 split at e
 ·rename_i k l
  cases hb : Nat.beq k kd with
  | true => rw [hb] at e; simp only [cond_true, Option.some.injEq] at e; rw [Nat.eq_of_beq_eq_true hb, e]
  | false => rw [hb] at e; cases e
 ·cases e⟩
def meth (f : FuncId) : Dec C Unit := ⟨fun x => match x with | .fn g [.ptr 0 0] [] => bif Nat.beq g f then some () else none | _ => none, fun _ => .fn f [.ptr 0 0] [], fun x a e => by
 split at e
 ·rename_i g
  cases hb : Nat.beq g f with
  | true => rw [Nat.eq_of_beq_eq_true hb]
  | false => rw [hb] at e; cases e
 ·cases e⟩
end Dec
def same {α : Type} (a b : α) : Bool := @decide (a = b) (Classical.propDecidable _)
theorem Vl {α : Type} {a b : α} : same a b = true ↔ a = b := by unfold same; simp
theorem AjP (a b : ByteArray) : (a.toList == b.toList) = same a b := by
 rw [Bool.eq_iff_iff, Vl, beq_iff_eq]
 refine ⟨fun h => ?_, fun h => by rw [h]⟩
 rw [ByteArray.toList_eq, ByteArray.toList_eq] at h
 cases a; cases b
 simp only [ByteArray.mk.injEq]
 exact Array.toList_inj.1 h
abbrev lB (b : Bool) : Option (T (AV × Hp)) := some (.leaf (vB b, []))
theorem bAnd (a b : Bool) : (bif a then lB b else lB false) = lB (a && b) := by cases a <;> rfl
theorem fNot {α : Type} (b : Bool) (X Y : α) : (bif !b then X else Y) = bif b then Y else X := by cases b <;> rfl
theorem fAnd {α : Type} (a b : Bool) (X Y : α) : (bif a then (bif b then Y else X) else X) = bif (a && b) then Y else X := by cases a <;> rfl
theorem fOr {α : Type} (a b : Bool) (X Y : α) : (bif a then X else (bif b then X else Y)) = bif (a || b) then X else Y := by cases a <;> rfl
theorem neN (a b : Int) : (a != b) = !(a == b) := rfl
end Go.Eb
namespace Go.Eb
open Go.RowKit
theorem Gs (c a b : Bool) : (bif c then some (T.leaf (vB a, ([] : Hp))) else some (T.leaf (vB b, []))) = some (T.leaf (vB (bif c then a else b), [])) := by cases c <;> rfl
theorem Akh (c : Bool) (a b : Int) : (bif c then some (T.leaf (vI a, ([] : Hp))) else some (T.leaf (vI b, []))) = some (T.leaf (vI (bif c then a else b), [])) := by cases c <;> rfl
theorem tt : (true && true) = true := rfl
def ansG (ok : LB) (r : List AV -> AV) : (R : Type) -> List AV -> Hp -> (AV -> Hp -> Option (T R)) -> Option (T R) := fun _ args H k => match H with
 | [] => bif ok args then k (r args) [] else none
 | _ :: _ => none
section
variable {α : Type} [Inhabited α]
def okX (enc : α -> List AV) (x : List AV) : Bool := @decide (∃ a, Asle x (enc a)) (Classical.propDecidable _)
def theT (enc : α -> List AV) (x : List AV) : α := @dite _ (∃ a, Asle x (enc a)) (Classical.propDecidable _) (fun h => Classical.choose h) (fun _ => default)
omit [Inhabited α] in
theorem Qj {enc : α -> List AV} {x : List AV} : okX enc x = true ↔ ∃ a, Asle x (enc a) := by unfold okX; simp
theorem Lx {enc : α -> List AV} {x : List AV} (h : okX enc x = true) : Asle x (enc (theT enc x)) := by
 have h' := Qj.1 h
 unfold theT
 rw [dif_pos h']
 exact Classical.choose_spec h'
def InjT (enc : α -> List AV) : Prop := ∀ a b, Asle (enc a) (enc b) -> a = b
omit [Inhabited α] in
theorem AaB {enc : α -> List AV} (a : α) : okX enc (enc a) = true := Qj.2 ⟨a, .refl _⟩
theorem Ag {enc : α -> List AV} (inj : InjT enc) (a : α) : theT enc (enc a) = a := (inj _ _ (Lx (AaB a))).symm
def okG (enc : α -> List AV) (c : α -> Bool) (x : List AV) : Bool := okX enc x && c (theT enc x)
theorem Aj {enc : α -> List AV} (inj : InjT enc) {c : α -> Bool} (a : α) (h : c a = true) : okG enc c (enc a) = true := by
 unfold okG; rw [AaB, Ag inj, h]; rfl
theorem AnsS.g {P : Program} {f : FuncId} {ok : LB} {r : List AV -> AV} (hc : ∀ x, ok x = true -> CX P f x [] (r x) []) : AnsS P f (ansG ok r) := by
 refine ⟨fun R args H k t h => ?_, fun args H => ?_⟩
 ·unfold ansG at h
  cases H with
  | cons b H => cases h
  | nil =>
   simp only [] at h
   cases hb : ok args with
   | false => rw [hb] at h; cases h
   | true => rw [hb] at h; exact ⟨_, _, h, hc args hb⟩
 ·unfold ansG
  cases H with
  | cons b H => exact .no fun R k => rfl
  | nil => exact .bif _ (.one _ _ fun R k => rfl) (.no fun R k => rfl)
theorem AnsS.t' {P : Program} {f : FuncId} {enc : α -> List AV} {c : α -> Bool} {r : α -> AV} (hc : ∀ a, c a = true -> CX P f (enc a) [] (r a) []) : AnsS P f (ansG (okG enc c) fun x => r (theT enc x)) := .g fun x h => by
 unfold okG at h
 simp only [Bool.and_eq_true] at h
 exact (hc _ h.2).ge (Lx h.1) (.refl _)
end
def InjA {α : Type} (e : α -> AV) : Prop := ∀ a b, Ale (e a) (e b) -> a = b
theorem Ai {x y : AV} {a b : List AV} (h : Asle (x :: a) (y :: b)) : Ale x y /\ Asle a b := by
 refine ⟨h.2 0 x y rfl rfl, by simpa using h.1, fun i p q h1 h2 => h.2 (i + 1) p q (by simpa using h1) (by simpa using h2)⟩
section
variable {α β γ δ : Type} {e : α -> AV} {f : β -> AV} {g : γ -> AV} {k : δ -> AV}
def en1 (e : α -> AV) : α -> List AV := fun a => [e a]
def en2 (e : α -> AV) (f : β -> AV) : α × β -> List AV := fun a => [e a.1, f a.2]
def en3 (e : α -> AV) (f : β -> AV) (g : γ -> AV) : α × β × γ -> List AV := fun a => [e a.1, f a.2.1, g a.2.2]
theorem Ea (h : InjA e) : InjT (en1 e) := fun a b x => h _ _ (Ai x).1
theorem Mw (h : InjA e) (h2 : InjA f) : InjT (en2 e f) := fun a b x => by
 obtain ⟨x1, x⟩ := Ai x
 obtain ⟨x2, x⟩ := Ai x
 exact Prod.ext (h _ _ x1) (h2 _ _ x2)
theorem Ahx (h : InjA e) (h2 : InjA f) (h3 : InjA g) : InjT (en3 e f g) := fun a b x => by
 obtain ⟨x1, x⟩ := Ai x
 obtain ⟨x2, x⟩ := Ai x
 obtain ⟨x3, x⟩ := Ai x
 exact Prod.ext (h _ _ x1) (Prod.ext (h2 _ _ x2) (h3 _ _ x3))
end
def en5 {α β γ δ ε : Type} (e : α -> AV) (f : β -> AV) (g : γ -> AV) (k : δ -> AV) (l : ε -> AV) : α × β × γ × δ × ε -> List AV := fun a => [e a.1, f a.2.1, g a.2.2.1, k a.2.2.2.1, l a.2.2.2.2]
theorem Ahw {α β γ δ ε : Type} {e : α -> AV} {f : β -> AV} {g : γ -> AV} {k : δ -> AV} {l : ε -> AV} (h : InjA e) (h2 : InjA f) (h3 : InjA g) (h4 : InjA k) (h5 : InjA l) : InjT (en5 e f g k l) := fun a b x => by
 obtain ⟨x1, x⟩ := Ai x
 obtain ⟨x2, x⟩ := Ai x
 obtain ⟨x3, x⟩ := Ai x
 obtain ⟨x4, x⟩ := Ai x
 obtain ⟨x5, x⟩ := Ai x
 exact Prod.ext (h _ _ x1) (Prod.ext (h2 _ _ x2) (Prod.ext (h3 _ _ x3) (Prod.ext (h4 _ _ x4) (h5 _ _ x5))))
def aD {α : Type} (e : α -> D) : α -> AV := fun a => .c (.d (e a))
def aG {α : Type} (e : α -> List D) : α -> AV := fun a => .agg ((e a).map .d)
theorem H7 {x y : D} (h : Ale (.c (.d x)) (.c (.d y))) : DE x y := h
theorem Ng {x y : List D} (h : Ale (.agg (x.map .d)) (.agg (y.map .d))) : DEs x y := by
 have h : Csle (x.map .d) (y.map .d) := h
 refine ⟨by simpa using h.1, fun j d e hd he => ?_⟩
 exact h.2 j (.d d) (.d e) (by rw [List.getElem?_map, hd]; rfl) (by rw [List.getElem?_map, he]; rfl)
theorem S3 {α : Type} {e : α -> D} (h : ∀ a b, DE (e a) (e b) -> a = b) : InjA (aD e) := fun a b x => h a b (H7 x)
theorem Le {α : Type} {e : α -> List D} (h : ∀ a b, DEs (e a) (e b) -> a = b) : InjA (aG e) := fun a b x => h a b (Ng x)
theorem Jd : InjA vI := fun a b x => by have := Si (H7 x); simpa using this
def vN (n : Nat) : AV := vI n
theorem U8 : InjA vN := fun a b x => by have := Jd _ _ x; omega
theorem Yq : InjA vS := fun a b x => by have := Si (H7 x); simpa using this
instance : Inhabited ByteArray := ⟨⟨#[]⟩⟩
theorem AaS {α : Type} (d : α) (R : Nat -> α -> Prop) : ∀ (n : Nat), (∀ i, i < n -> ∃ x, R i x) -> ∃ l : List α, l.length = n /\ ∀ i, i < n -> R i (l.getD i d)
 | 0, _ => ⟨[], rfl, fun i h => by omega⟩
 | n + 1, h => by
  obtain ⟨l, hl, hr⟩ := AaS d R n (fun i hi => h i (by omega))
  obtain ⟨x, hx⟩ := h n (by omega)
  refine ⟨l ++ [x], by simp [hl], fun i hi => ?_⟩
  by_cases e : i < n
  ·have := hr i e
   rwa [List.getD_eq_getElem?_getD, List.getElem?_append_left (by omega), <- List.getD_eq_getElem?_getD]
  ·have : i = n := by omega
   subst this
   rw [List.getD_eq_getElem?_getD, List.getElem?_append_right (by omega), hl]
   simpa using hx
def Ak {α : Type} (l : List α) : Bool := decide (l.length <= 9223372036854775807)
theorem A7 {α : Type} {l : List α} (h : Ak l = true) : l.length <= 9223372036854775807 := by unfold Ak at h; simpa using h
theorem AaG : maxLen <= 9223372036854775807 := by unfold maxLen; omega
theorem C5 {P : Program} {t e : TypeId} {ds : List D} {β : Type} {c : β -> List D} {d0 : β} {sz : Nat} {ok : β -> Bool} (hu : P.underlying t = some (.slice e)) (hc : P.cellsOf e = sz)
  (ho : ∀ ds, Shp P e ds -> ∃ x, DEs ds (c x) /\ ok x = true) (h : Shp P t ds) : ∃ (d : D) (l : List β), ds = [d] /\ DE d (Aa sz c d0 l) /\ Ak l = true /\ l.all ok = true := by
 obtain ⟨n, f, rfl, hn, hf⟩ := h.sl_inv hu
 obtain ⟨l, hl, hr⟩ := AaS d0 (fun i x => DEs (f i) (c x) /\ ok x = true) n (fun i hi => ho _ (hf i hi))
 subst hl
 have hM := AaG
 refine ⟨_, l, rfl, ?_, ?_, ?_⟩
 ·rw [hc]; exact .sls fun i hi => (hr i hi).1
 ·unfold Ak; rw [decide_eq_true (by omega)]
 ·rw [List.all_eq_true]
  intro x hx
  obtain ⟨i, hi, he⟩ := List.getElem_of_mem hx
  have := (hr i hi).2
  rwa [List.getD_eq_getElem?_getD, List.getElem?_eq_getElem hi, he] at this
theorem DEs.app {a b a' b' : List D} (h : DEs a a') (k : DEs b b') : DEs (a ++ b) (a' ++ b') := by
 refine ⟨by simp [h.1, k.1], fun j d e hd he => ?_⟩
 by_cases hj : j < a.length
 ·rw [List.getElem?_append_left hj] at hd
  rw [List.getElem?_append_left (by rw [<- h.1]; exact hj)] at he
  exact h.2 j d e hd he
 ·rw [List.getElem?_append_right (by omega)] at hd
  rw [List.getElem?_append_right (by rw [<- h.1]; omega), <- h.1] at he
  exact k.2 _ d e hd he
theorem Px {a b : List D} (h : DEs a b) : Ale (.agg (a.map .d)) (.agg (b.map .d)) := by
 show Csle _ _
 refine ⟨by simpa using h.1, fun j d e hd he => ?_⟩
 rw [List.getElem?_map] at hd he
 cases h1 : a[j]? with
 | none => rw [h1] at hd; cases hd
 | some x =>
  cases h2 : b[j]? with
  | none => rw [h2] at he; cases he
  | some y => rw [h1] at hd; rw [h2] at he; cases hd; cases he; exact h.2 j x y h1 h2
end Go.Eb
namespace Go.Eb
open Go.RowKit
structure SLine where
 name : ByteArray
 r1 : Int
 x1 : Int
 r0 : Int
 x0 : Int
structure SSrc where
 name : ByteArray
 emf : Int
 r1 : Int
 x1 : Int
 r0 : Int
 x0 : Int
structure SLink where
 bus : Int
 pos : Int
structure SBay where
 name : ByteArray
 kind : Int
 off : Int
 fin : Int
 zr : Int
 zx : Int
 links : List SLink
 closed : Bool
 ct : Int
 vt : Int
 sat : Int
 travel : Int
structure SSta where
 name : ByteArray
 buses : List ByteArray
 lines : List SLine
 srcs : List SSrc
 bays : List SBay
abbrev dS (s : ByteArray) : D := .v (.string s)
abbrev dI (n : Int) : D := .v (.int .i64 n)
abbrev dB (b : Bool) : D := .v (.bool b)
def e0 : ByteArray := ⟨#[]⟩
def Af : SLine := ⟨e0, 0, 0, 0, 0⟩
def src0 : SSrc := ⟨e0, 0, 0, 0, 0, 0⟩
def Ba : SLink := ⟨0, 0⟩
def bay0 : SBay := ⟨e0, 0, 0, 0, 0, 0, [], false, 0, 0, 0, 0⟩
def As (l : SLine) : List D := [dS l.name, dI l.r1, dI l.x1, dI l.r0, dI l.x0]
def Ar (l : SSrc) : List D := [dS l.name, dI l.emf, dI l.r1, dI l.x1, dI l.r0, dI l.x0]
def Fg (l : SLink) : List D := [dI l.bus, dI l.pos]
abbrev Bz (l : List SLink) : D := Aa 2 Fg Ba l
def bayC (b : SBay) : List D := [dS b.name, dI b.kind, dI b.off, dI b.fin, dI b.zr, dI b.zx, Bz b.links, dB b.closed, dI b.ct, dI b.vt, dI b.sat, dI b.travel]
def busC (s : ByteArray) : List D := [dS s]
abbrev Ab (l : List ByteArray) : D := Aa 1 busC e0 l
abbrev Ap (l : List SLine) : D := Aa 5 As Af l
abbrev Ca (l : List SSrc) : D := Aa 6 Ar src0 l
abbrev B5 (l : List SBay) : D := Aa 12 bayC bay0 l
def staC (s : SSta) : List D := [dS s.name, Ab s.buses, Ap s.lines, Ca s.srcs, B5 s.bays]
instance : Inhabited SLine := ⟨Af⟩
instance : Inhabited SSrc := ⟨src0⟩
instance : Inhabited SBay := ⟨bay0⟩
theorem Ed {a b : ByteArray} (h : DE (dS a) (dS b)) : a = b := by have := Si h; simpa using this
theorem Aw {a b : Int} (h : DE (dI a) (dI b)) : a = b := by have := Si h; simpa using this
theorem Ft {a b : Bool} (h : DE (dB a) (dB b)) : a = b := by have := Si h; simpa using this
theorem B9 (a b : ByteArray) (h : DEs (busC a) (busC b)) : a = b := Ed (h.2 0 _ _ rfl rfl)
theorem Jr (a b : SLine) (h : DEs (As a) (As b)) : a = b := by
 cases a; cases b
 have h0 := Ed (h.2 0 _ _ rfl rfl)
 have h1 := Aw (h.2 1 _ _ rfl rfl)
 have h2 := Aw (h.2 2 _ _ rfl rfl)
 have h3 := Aw (h.2 3 _ _ rfl rfl)
 have h4 := Aw (h.2 4 _ _ rfl rfl)
 simp only at h0 h1 h2 h3 h4
 rw [h0, h1, h2, h3, h4]
theorem Li (a b : SSrc) (h : DEs (Ar a) (Ar b)) : a = b := by
 cases a; cases b
 have h0 := Ed (h.2 0 _ _ rfl rfl)
 have h1 := Aw (h.2 1 _ _ rfl rfl)
 have h2 := Aw (h.2 2 _ _ rfl rfl)
 have h3 := Aw (h.2 3 _ _ rfl rfl)
 have h4 := Aw (h.2 4 _ _ rfl rfl)
 have h5 := Aw (h.2 5 _ _ rfl rfl)
 simp only at h0 h1 h2 h3 h4 h5
 rw [h0, h1, h2, h3, h4, h5]
theorem Jq (a b : SLink) (h : DEs (Fg a) (Fg b)) : a = b := by
 cases a; cases b
 have h0 := Aw (h.2 0 _ _ rfl rfl)
 have h1 := Aw (h.2 1 _ _ rfl rfl)
 simp only at h0 h1
 rw [h0, h1]
theorem J4 (a b : SBay) (h : DEs (bayC a) (bayC b)) : a = b := by
 cases a; cases b
 have h0 := Ed (h.2 0 _ _ rfl rfl)
 have h1 := Aw (h.2 1 _ _ rfl rfl)
 have h2 := Aw (h.2 2 _ _ rfl rfl)
 have h3 := Aw (h.2 3 _ _ rfl rfl)
 have h4 := Aw (h.2 4 _ _ rfl rfl)
 have h5 := Aw (h.2 5 _ _ rfl rfl)
 have h6 := At Jq _ _ (h.2 6 _ _ rfl rfl)
 have h7 := Ft (h.2 7 _ _ rfl rfl)
 have h8 := Aw (h.2 8 _ _ rfl rfl)
 have h9 := Aw (h.2 9 _ _ rfl rfl)
 have h10 := Aw (h.2 10 _ _ rfl rfl)
 have h11 := Aw (h.2 11 _ _ rfl rfl)
 simp only at h0 h1 h2 h3 h4 h5 h6 h7 h8 h9 h10 h11
 rw [h0, h1, h2, h3, h4, h5, h6, h7, h8, h9, h10, h11]
theorem Vj (a b : SSta) (h : DEs (staC a) (staC b)) : a = b := by
 cases a; cases b
 have h0 := Ed (h.2 0 _ _ rfl rfl)
 have h1 := At B9 _ _ (h.2 1 _ _ rfl rfl)
 have h2 := At Jr _ _ (h.2 2 _ _ rfl rfl)
 have h3 := At Li _ _ (h.2 3 _ _ rfl rfl)
 have h4 := At J4 _ _ (h.2 4 _ _ rfl rfl)
 simp only at h0 h1 h2 h3 h4
 rw [h0, h1, h2, h3, h4]
instance : Inhabited SSta := ⟨⟨e0, [], [], [], []⟩⟩
abbrev aSta (s : SSta) : AV := .agg ((staC s).map .d)
abbrev aBay (b : SBay) : AV := .agg ((bayC b).map .d)
abbrev RBay := ByteArray × Int × Int × Int × Int × Int × D × Bool × Int × Int × Int × Int × Unit
def bayD : Dec (List C) RBay := .cons .str (.cons .i64 (.cons .i64 (.cons .i64 (.cons .i64 (.cons .i64 (.cons .data (.cons .bool (.cons .i64 (.cons .i64 (.cons .i64 (.cons .i64 .nil)))))))))))
abbrev RSta := ByteArray × D × D × D × D × Unit
def staD : Dec (List C) RSta := .cons .str (.cons .data (.cons .data (.cons .data (.cons .data .nil))))
instance : Inhabited SLink := ⟨Ba⟩
def okLk (x : D) : Bool := okE Bz x && decide ((theE Bz x).length <= 9223372036854775807)
def rbay (x : RBay) : SBay := ⟨x.1, x.2.1, x.2.2.1, x.2.2.2.1, x.2.2.2.2.1, x.2.2.2.2.2.1, theE Bz x.2.2.2.2.2.2.1, x.2.2.2.2.2.2.2.1, x.2.2.2.2.2.2.2.2.1, x.2.2.2.2.2.2.2.2.2.1, x.2.2.2.2.2.2.2.2.2.2.1, x.2.2.2.2.2.2.2.2.2.2.2.1⟩
def bayR (b : SBay) : RBay := (b.name, b.kind, b.off, b.fin, b.zr, b.zx, Bz b.links, b.closed, b.ct, b.vt, b.sat, b.travel, ())
def okRB (x : RBay) : Bool := okLk x.2.2.2.2.2.2.1
theorem Eu {l : List SLink} (h : l.length <= 9223372036854775807) : okLk (Bz l) = true := by
 unfold okLk
 rw [(Bk Jq l).1, (Bk Jq l).2]
 simp only [Bool.true_and]
 exact decide_eq_true h
theorem F7 (b : SBay) : rbay (bayR b) = b := by
 unfold rbay bayR
 simp only [(Bk Jq b.links).2]
theorem So (x : RBay) (h : okRB x = true) : Ale (.agg (bayD.enc x)) (aBay (rbay x)) := by
 unfold okRB okLk at h
 simp only [Bool.and_eq_true] at h
 exact .cons (.refl _) (.cons (.refl _) (.cons (.refl _) (.cons (.refl _) (.cons (.refl _) (.cons (.refl _) (.cons (Db h.1) (.cons (.refl _) (.cons (.refl _) (.cons (.refl _) (.cons (.refl _) (.cons (.refl _) .nil)))))))))))
def Uc (c : UInt8) : Bool := (decide (65 <= (c.toNat : Int)) && decide ((c.toNat : Int) <= 90)) || (decide (97 <= (c.toNat : Int)) && decide ((c.toNat : Int) <= 122))
def Aav (c : UInt8) : Bool := (decide (48 <= (c.toNat : Int)) && decide ((c.toNat : Int) <= 57)) || (c.toNat : Int) == 95
def nmT : Nat -> List UInt8 -> Bool
 | _, [] => true
 | i, c :: r => (Uc c || (i != 0 && Aav c)) && nmT (i + 1) r
def Ae (s : ByteArray) : Bool := !((s.size : Int) == 0) && (!decide ((s.size : Int) > 12) && nmT 0 s.data.toList)
def inB (l : List ByteArray) (s : ByteArray) : Bool := l.any fun t => s.data.toList == t.data.toList
def Bw (l : List ByteArray) (s : ByteArray) : Int := bif !Ae s then 7 else bif inB l s then 8 else 0
def Ac (n lo hi : Int) : Bool := decide (n >= lo) && decide (n <= hi)
def Mo (r x : Int) : Bool := Ac r 0 1000 && Ac x 1 1000
def Kh (l : List ByteArray) (x : SLine) : Int := bif Bw l x.name != 0 then Bw l x.name else bif Mo x.r1 x.x1 && Mo x.r0 x.x0 then 0 else 2
def N4 (l : List ByteArray) (x : SSrc) : Int := bif Bw l x.name != 0 then Bw l x.name else bif Ac x.emf 1 1000000 && (Mo x.r1 x.x1 && Mo x.r0 x.x0) then 0 else 2
def AdF (nl ns : Nat) (k : Int) : Option Int := bif k == 1 then some nl else bif k == 2 then some ns else bif k == 3 then some 1 else none
def Dc (b : SBay) : Bool :=
 (bif b.kind == 3 then Mo b.zr b.zx && b.vt == 0 else (b.zr == 0 && b.zx == 0) && Ac b.vt 1 10000) &&
   (Ac b.fin 0 (bif b.kind == 1 then 1 else 0) && (Ac b.ct 1 100 && (Ac b.sat 0 16383 && Ac b.travel 1 6)))
def Eg (x y : SBay) : Bool := x.kind != 3 && (x.kind == y.kind && (x.off == y.off && x.fin == y.fin))
def Ge (nb : Nat) (k : Int) : Option Int -> List SLink -> Int
 | _, [] => 0
 | p, l :: r => bif !Ac l.bus 0 ((nb : Int) - 1) then 9 else bif l.pos != 1 && (l.pos != 0 || k == 3) then 16 else bif p == some l.bus then 12 else Ge nb k (some l.bus) r
def B1 (nb : Nat) (b : SBay) : Int := bif decide (b.links.length < 1) || (decide (2 < b.links.length) || (b.kind == 3 && b.links.length != 2)) then 3 else Ge nb b.kind none b.links
def H0 (nb nl ns : Nat) (dup : Bool) (before : List SBay) (b : SBay) : Int :=
 bif !Ae b.name then 7 else bif dup then 8 else match AdF nl ns b.kind with
  | none => 10
  | some c => bif !Ac b.off 0 (c - 1) then 9 else bif !Dc b then 2 else bif before.any (Eg b) then 12 else B1 nb b
def Ld (nb nl ns : Nat) (l : List ByteArray) (before : List SBay) (b : SBay) : Int := H0 nb nl ns (inB l b.name) before b
def Dp {α : Type} (nm : α -> ByteArray) (f : List ByteArray -> List α -> α -> Int) (N : List ByteArray) : List α -> List α -> Int × List α
 | before, [] => (0, before)
 | before, x :: r => bif f (N ++ before.map nm) before x != 0 then (f (N ++ before.map nm) before x, before) else Dp nm f N (before ++ [x]) r
theorem Lh {α : Type} {nm : α -> ByteArray} {f : List ByteArray -> List α -> α -> Int} {N : List ByteArray} : ∀ (before l : List α), (Dp nm f N before l).1 = 0 -> (Dp nm f N before l).2 = before ++ l
 | before, [], _ => by simp [Dp]
 | before, x :: r, h => by
  simp only [Dp] at h ⊢
  cases e : (f (N ++ before.map nm) before x != 0) with
  | true => rw [e] at h; simp only [cond_true] at h; rw [h] at e; simp at e
  | false => rw [e] at h; simp only [cond_false] at h ⊢; rw [Lh _ r h]; simp
def tBus (l : List ByteArray) := Dp id (fun N _ x => Bw N x) [] [] l
def F2 (N : List ByteArray) (l : List SLine) := Dp SLine.name (fun N _ x => Kh N x) N [] l
def tSrc (N : List ByteArray) (l : List SSrc) := Dp SSrc.name (fun N _ x => N4 N x) N [] l
def tBay (nb nl ns : Nat) (N : List ByteArray) (l : List SBay) := Dp SBay.name (fun N before x => Ld nb nl ns N before x) N [] l
def M5 (s : SSta) : Bool := s.buses.length == 0 || (decide (4 < s.buses.length) || (decide (6 < s.lines.length) || (decide (4 < s.srcs.length) || decide (16 < s.bays.length))))
def C2 (s : SSta) : Int :=
 bif !Ae s.name then 7 else
 bif M5 s then 3 else
 bif (tBus s.buses).1 != 0 then (tBus s.buses).1 else
 bif (F2 s.buses s.lines).1 != 0 then (F2 s.buses s.lines).1 else
 bif (tSrc (s.buses ++ s.lines.map SLine.name) s.srcs).1 != 0 then (tSrc (s.buses ++ s.lines.map SLine.name) s.srcs).1 else
 (tBay s.buses.length s.lines.length s.srcs.length (s.buses ++ s.lines.map SLine.name ++ s.srcs.map SSrc.name) s.bays).1
def Ao (l : List ByteArray) : MV := l.reverse.map fun s => (.string s, .bool true)
theorem B3 (l : List ByteArray) (s : ByteArray) : Ao (l ++ [s]) = (.string s, .bool true) :: Ao l := by simp [Ao]
theorem Sr (s : ByteArray) : ∀ l : List ByteArray, B0 (A2 (l.map fun s => (Value.string s, Value.bool true)) (.string s)) = l.any fun t => s.data.toList == t.data.toList
 | [] => rfl
 | t :: r => by
  simp only [List.map_cons, A2, E9, List.any_cons]
  cases (s.data.toList == t.data.toList) with
  | true => rfl
  | false => simp only [cond_false, Bool.false_or]; exact Sr s r
theorem Ck (l : List ByteArray) (s : ByteArray) : B0 (A2 (Ao l) (.string s)) = inB l s := by
 unfold Ao inB
 rw [Sr, List.any_reverse]
theorem E0 {α : Type} {nm : α -> ByteArray} {F : List ByteArray -> List α -> α -> Int} {N : List ByteArray} {c : α -> List D} {d0 : α} {l : List α} {L : Nat -> List (Value × Value) -> Nat -> RD -> Int -> Option (T (AV × Hp))}
  {HX : List (Value × Value) -> Nat -> RD -> Hp}
  (hst : ∀ (m k : Nat) (before : List α) (f : RD), k < l.length -> before.length = k -> RL c d0 k f before -> ∃ f1 f2, RL c d0 (k + 1) f1 (before ++ [l.getD k d0]) /\ RL c d0 k f2 before /\ L (m + 1) (Ao (N ++ before.map nm)) k f k =
    bif F (N ++ before.map nm) before (l.getD k d0) != 0 then some (.leaf (vI (F (N ++ before.map nm) before (l.getD k d0)), HX (Ao (N ++ before.map nm)) k f2))
    else L m ((.string (nm (l.getD k d0)), .bool true) :: Ao (N ++ before.map nm)) (k + 1) f1 ((k + 1 : Nat) : Int))
  (hend : ∀ m mp n f, L (m + 1) mp n f l.length = some (.leaf (vI 0, HX mp n f))) :
  ∀ (m k : Nat) (before : List α) (f : RD), k <= l.length -> l.length - k < m -> before.length = k -> RL c d0 k f before ->
   ∃ f', RL c d0 (Dp nm F N before (l.drop k)).2.length f' (Dp nm F N before (l.drop k)).2 /\
    L m (Ao (N ++ before.map nm)) k f k = some (.leaf (vI (Dp nm F N before (l.drop k)).1, HX (Ao (N ++ (Dp nm F N before (l.drop k)).2.map nm)) (Dp nm F N before (l.drop k)).2.length f'))
 | 0, k, before, f, _, h, _, _ => by omega
 | m + 1, k, before, f, hk, h, hb, hr => by
  by_cases e : k = l.length
  ·subst e
   rw [List.drop_of_length_le (Nat.le_refl _)]
   simp only [Dp]
   rw [hend, hb]
   exact ⟨f, hr, rfl⟩
  ·have hlt : k < l.length := by omega
   obtain ⟨f1, f2, hr1, hr2, hst1⟩ := hst m k before f hlt hb hr
   rw [hst1, Am (d := d0) hlt]
   simp only [Dp]
   cases hF : (F (N ++ before.map nm) before (l.getD k d0) != 0) with
   | true =>
    simp only [cond_true]
    rw [hb]
    exact ⟨f2, hr2, rfl⟩
   | false =>
    simp only [cond_false]
    have ih := E0 hst hend m (k + 1) (before ++ [l.getD k d0]) f1 (by omega) (by omega) (by simp [hb]) hr1
    have e1 : N ++ (before ++ [l.getD k d0]).map nm = (N ++ before.map nm) ++ [nm (l.getD k d0)] := by simp
    rw [e1, B3] at ih
    exact ih
theorem R5 {a b : List ByteArray} (h : Ao a = Ao b) : a = b := by
 unfold Ao at h
 have h2 := (List.map_inj_right (f := fun s : ByteArray => (Value.string s, Value.bool true)) (fun x y e => by simpa using e)).1 h
 exact List.reverse_inj.1 h2
def okM (mp : MV) : Bool := @decide (∃ N, mp = Ao N) (Classical.propDecidable _)
def theM (mp : MV) : List ByteArray := @dite _ (∃ N, mp = Ao N) (Classical.propDecidable _) (fun h => Classical.choose h) (fun _ => [])
theorem F1 {mp : MV} (h : okM mp = true) : mp = Ao (theM mp) := by
 have h' : ∃ N, mp = Ao N := by unfold okM at h; simpa using h
 unfold theM
 rw [dif_pos h']
 exact Classical.choose_spec h'
theorem Gb (N : List ByteArray) : okM (Ao N) = true := by unfold okM; simp; exact ⟨N, rfl⟩
theorem Dw (N : List ByteArray) : theM (Ao N) = N := (R5 (F1 (Gb N))).symm
end Go.Eb
namespace Go.Eb
open Go.RowKit
def Kg (l : List SBay) : Bool := l.all fun b => decide (b.links.length <= 9223372036854775807)
theorem R8 {l : List SBay} (h : Kg l = true) (i : Nat) (hi : i < l.length) : (l.getD i bay0).links.length <= 9223372036854775807 := by
 unfold Kg at h
 rw [List.all_eq_true] at h
 have := h (l.getD i bay0) (by rw [List.getD_eq_getElem?_getD, List.getElem?_eq_getElem hi]; simp)
 simpa using this
def D7 (s : SSta) : Bool := Ak s.buses && (Ak s.lines && (Ak s.srcs && (Ak s.bays && s.bays.all fun b => Ak b.links)))
theorem Et {s : SSta} (h : D7 s = true) : s.buses.length <= 9223372036854775807 /\ s.lines.length <= 9223372036854775807 /\ s.srcs.length <= 9223372036854775807 /\ s.bays.length <= 9223372036854775807 /\ Kg s.bays = true := by
 unfold D7 Ak at h
 simp only [Bool.and_eq_true, decide_eq_true_eq] at h
 exact ⟨h.1, h.2.1, h.2.2.1, h.2.2.2.1, h.2.2.2.2⟩
theorem Lt : InjA aSta := Le Vj
end Go.Eb
namespace Go.Eb
open Go.RowKit
structure SRule where
 name : ByteArray
 text : ByteArray
structure SSet where
 name : ByteArray
 sigs : List ByteArray
structure SPub where
 set : ByteArray
 fst : Int
 max : Int
structure SSub where
 loc : ByteArray
 dev : ByteArray
 set : ByteArray
 sig : ByteArray
def Bb : SRule := ⟨e0, e0⟩
def set0 : SSet := ⟨e0, []⟩
def pub0 : SPub := ⟨e0, 0, 0⟩
def sub0 : SSub := ⟨e0, e0, e0, e0⟩
instance : Inhabited SRule := ⟨Bb⟩
instance : Inhabited SSet := ⟨set0⟩
instance : Inhabited SPub := ⟨pub0⟩
instance : Inhabited SSub := ⟨sub0⟩
def D1 (x : SRule) : List D := [dS x.name, dS x.text]
def setC (x : SSet) : List D := [dS x.name, Ab x.sigs]
def pubC (x : SPub) : List D := [dS x.set, dI x.fst, dI x.max]
def subC (x : SSub) : List D := [dS x.loc, dS x.dev, dS x.set, dS x.sig]
abbrev L6 (l : List SRule) : D := Aa 2 D1 Bb l
abbrev J9 (l : List SSet) : D := Aa 2 setC set0 l
abbrev T1 (l : List SPub) : D := Aa 3 pubC pub0 l
abbrev Ts (l : List SSub) : D := Aa 4 subC sub0 l
theorem Jg (a b : SRule) (h : DEs (D1 a) (D1 b)) : a = b := by
 cases a; cases b
 have h0 := Ed (h.2 0 _ _ rfl rfl)
 have h1 := Ed (h.2 1 _ _ rfl rfl)
 simp only at h0 h1
 rw [h0, h1]
theorem Gx (a b : SSet) (h : DEs (setC a) (setC b)) : a = b := by
 cases a; cases b
 have h0 := Ed (h.2 0 _ _ rfl rfl)
 have h1 := At B9 _ _ (h.2 1 _ _ rfl rfl)
 simp only at h0 h1
 rw [h0, h1]
theorem Ji (a b : SPub) (h : DEs (pubC a) (pubC b)) : a = b := by
 cases a; cases b
 have h0 := Ed (h.2 0 _ _ rfl rfl)
 have h1 := Aw (h.2 1 _ _ rfl rfl)
 have h2 := Aw (h.2 2 _ _ rfl rfl)
 simp only at h0 h1 h2
 rw [h0, h1, h2]
theorem E7 (a b : SSub) (h : DEs (subC a) (subC b)) : a = b := by
 cases a; cases b
 have h0 := Ed (h.2 0 _ _ rfl rfl)
 have h1 := Ed (h.2 1 _ _ rfl rfl)
 have h2 := Ed (h.2 2 _ _ rfl rfl)
 have h3 := Ed (h.2 3 _ _ rfl rfl)
 simp only at h0 h1 h2 h3
 rw [h0, h1, h2, h3]
structure SRel where
 name : ByteArray
 kind : Int
 bay : Int
 zon0 : Bool
 zfw0 : Bool
 zx0 : Int
 zr0 : Int
 zl0 : Int
 zd0 : Int
 zon1 : Bool
 zfw1 : Bool
 zx1 : Int
 zr1 : Int
 zl1 : Int
 zd1 : Int
 zon2 : Bool
 zfw2 : Bool
 zx2 : Int
 zr2 : Int
 zl2 : Int
 zd2 : Int
 min : Int
 kre : Int
 kim : Int
 scheme : Int
 wait : Int
 guard : Int
 don : Bool
 dpk : Int
 ddl : Int
 ion : Bool
 ipk : Int
 idl : Int
 fon : Bool
 fpk : Int
 fdl : Int
 shots : Int
 dead : Int
 reclaim : Int
 uon : Bool
 upk : Int
 udl : Int
 oon : Bool
 opk : Int
 odl : Int
 diff : Int
 num : Int
 den : Int
 harm : Int
 rules : List SRule
 sets : List SSet
 pubs : List SPub
 subs : List SSub
def rel0 : SRel := ⟨e0, 0, 0, false, false, 0, 0, 0, 0, false, false, 0, 0, 0, 0, false, false, 0, 0, 0, 0, 0, 0, 0, 0, 0, 0, false, 0, 0, false, 0, 0, false, 0, 0, 0, 0, 0, false, 0, 0, false, 0, 0, 0, 0, 0, 0, [], [], [], []⟩
instance : Inhabited SRel := ⟨rel0⟩
def relC (r : SRel) : List D := [dS r.name, dI r.kind, dI r.bay, dB r.zon0, dB r.zfw0, dI r.zx0, dI r.zr0, dI r.zl0, dI r.zd0, dB r.zon1, dB r.zfw1, dI r.zx1, dI r.zr1, dI r.zl1, dI r.zd1, dB r.zon2, dB r.zfw2, dI r.zx2, dI r.zr2, dI r.zl2, dI r.zd2, dI r.min, dI r.kre, dI r.kim, dI r.scheme, dI r.wait, dI r.guard, dB r.don, dI r.dpk, dI r.ddl, dB r.ion, dI r.ipk, dI r.idl, dB r.fon, dI r.fpk, dI r.fdl, dI r.shots, dI r.dead, dI r.reclaim, dB r.uon, dI r.upk, dI r.udl, dB r.oon, dI r.opk, dI r.odl, dI r.diff, dI r.num, dI r.den, dI r.harm, L6 r.rules, J9 r.sets, T1 r.pubs, Ts r.subs]
abbrev Cq (l : List SRel) : D := Aa 53 relC rel0 l
abbrev aRel (r : SRel) : AV := .agg ((relC r).map .d)
theorem Jh (a b : SRel) (h : DEs (relC a) (relC b)) : a = b := by
 cases a; cases b
 have h0 := Ed (h.2 0 _ _ rfl rfl)
 have h1 := Aw (h.2 1 _ _ rfl rfl)
 have h2 := Aw (h.2 2 _ _ rfl rfl)
 have h3 := Ft (h.2 3 _ _ rfl rfl)
 have h4 := Ft (h.2 4 _ _ rfl rfl)
 have h5 := Aw (h.2 5 _ _ rfl rfl)
 have h6 := Aw (h.2 6 _ _ rfl rfl)
 have h7 := Aw (h.2 7 _ _ rfl rfl)
 have h8 := Aw (h.2 8 _ _ rfl rfl)
 have h9 := Ft (h.2 9 _ _ rfl rfl)
 have h10 := Ft (h.2 10 _ _ rfl rfl)
 have h11 := Aw (h.2 11 _ _ rfl rfl)
 have h12 := Aw (h.2 12 _ _ rfl rfl)
 have h13 := Aw (h.2 13 _ _ rfl rfl)
 have h14 := Aw (h.2 14 _ _ rfl rfl)
 have h15 := Ft (h.2 15 _ _ rfl rfl)
 have h16 := Ft (h.2 16 _ _ rfl rfl)
 have h17 := Aw (h.2 17 _ _ rfl rfl)
 have h18 := Aw (h.2 18 _ _ rfl rfl)
 have h19 := Aw (h.2 19 _ _ rfl rfl)
 have h20 := Aw (h.2 20 _ _ rfl rfl)
 have h21 := Aw (h.2 21 _ _ rfl rfl)
 have h22 := Aw (h.2 22 _ _ rfl rfl)
 have h23 := Aw (h.2 23 _ _ rfl rfl)
 have h24 := Aw (h.2 24 _ _ rfl rfl)
 have h25 := Aw (h.2 25 _ _ rfl rfl)
 have h26 := Aw (h.2 26 _ _ rfl rfl)
 have h27 := Ft (h.2 27 _ _ rfl rfl)
 have h28 := Aw (h.2 28 _ _ rfl rfl)
 have h29 := Aw (h.2 29 _ _ rfl rfl)
 have h30 := Ft (h.2 30 _ _ rfl rfl)
 have h31 := Aw (h.2 31 _ _ rfl rfl)
 have h32 := Aw (h.2 32 _ _ rfl rfl)
 have h33 := Ft (h.2 33 _ _ rfl rfl)
 have h34 := Aw (h.2 34 _ _ rfl rfl)
 have h35 := Aw (h.2 35 _ _ rfl rfl)
 have h36 := Aw (h.2 36 _ _ rfl rfl)
 have h37 := Aw (h.2 37 _ _ rfl rfl)
 have h38 := Aw (h.2 38 _ _ rfl rfl)
 have h39 := Ft (h.2 39 _ _ rfl rfl)
 have h40 := Aw (h.2 40 _ _ rfl rfl)
 have h41 := Aw (h.2 41 _ _ rfl rfl)
 have h42 := Ft (h.2 42 _ _ rfl rfl)
 have h43 := Aw (h.2 43 _ _ rfl rfl)
 have h44 := Aw (h.2 44 _ _ rfl rfl)
 have h45 := Aw (h.2 45 _ _ rfl rfl)
 have h46 := Aw (h.2 46 _ _ rfl rfl)
 have h47 := Aw (h.2 47 _ _ rfl rfl)
 have h48 := Aw (h.2 48 _ _ rfl rfl)
 have h49 := At Jg _ _ (h.2 49 _ _ rfl rfl)
 have h50 := At Gx _ _ (h.2 50 _ _ rfl rfl)
 have h51 := At Ji _ _ (h.2 51 _ _ rfl rfl)
 have h52 := At E7 _ _ (h.2 52 _ _ rfl rfl)
 simp only at h0 h1 h2 h3 h4 h5 h6 h7 h8 h9 h10 h11 h12 h13 h14 h15 h16 h17 h18 h19 h20 h21 h22 h23 h24 h25 h26 h27 h28 h29 h30 h31 h32 h33 h34 h35 h36 h37 h38 h39 h40 h41 h42 h43 h44 h45 h46 h47 h48 h49 h50 h51 h52
 subst h0 h1 h2 h3 h4 h5 h6 h7 h8 h9 h10 h11 h12 h13 h14 h15 h16 h17 h18 h19 h20 h21 h22 h23 h24 h25 h26 h27 h28 h29 h30 h31 h32 h33 h34 h35 h36 h37 h38 h39 h40 h41 h42 h43 h44 h45 h46 h47 h48 h49 h50 h51 h52
 rfl
theorem G7 : InjA aRel := Le Jh
end Go.Eb
namespace Go.Eb
open Go.RowKit
abbrev lN (n : Int) : Option (T (AV × Hp)) := some (.leaf (vI n, []))
def Ct {α : Type} (valid : α -> Bool) (key : α -> ByteArray) (rest : α -> Int) (seen : List ByteArray) : List α -> Int
 | [] => 0
 | x :: r => bif !valid x then 7 else bif inB seen (key x) then 8 else bif rest x != 0 then rest x else Ct valid key rest (seen ++ [key x]) r
theorem F4 {α : Type} {valid : α -> Bool} {key : α -> ByteArray} {rest : α -> Int} {l : List α} {d0 : α} {L : Nat -> List (Value × Value) -> Int -> Option (T (AV × Hp))}
  (hst : ∀ (m k : Nat) (seen : List ByteArray), k < l.length -> L (m + 1) (Ao seen) k = bif !valid (l.getD k d0) then lN 7 else bif inB seen (key (l.getD k d0)) then lN 8 else bif rest (l.getD k d0) != 0 then lN (rest (l.getD k d0)) else L m (Ao (seen ++ [key (l.getD k d0)])) ((k + 1 : Nat) : Int))
  (hend : ∀ m mp, L (m + 1) mp l.length = lN 0) : ∀ (m k : Nat) (seen : List ByteArray), k <= l.length -> l.length - k < m -> L m (Ao seen) k = lN (Ct valid key rest seen (l.drop k))
 | 0, k, _, _, h => by omega
 | m + 1, k, seen, hk, h => by
  by_cases e : k = l.length
  ·subst e
   rw [hend, List.drop_of_length_le (Nat.le_refl _)]
   rfl
  ·have hlt : k < l.length := by omega
   rw [hst m k seen hlt, F4 hst hend m (k + 1) _ (by omega) (by omega), Am (d := d0) hlt]
   simp only [Ct]
   cases valid (l.getD k d0) with
   | false => rfl
   | true =>
    cases inB seen (key (l.getD k d0)) with
    | true => rfl
    | false =>
     cases (rest (l.getD k d0) != 0) <;> rfl
def idxP {α : Type} (p : α -> Bool) : Nat -> List α -> Int
 | _, [] => -1
 | i, x :: r => bif p x then (i : Int) else idxP p (i + 1) r
theorem Mp {α : Type} (p : α -> Bool) : ∀ (l : List α) (i : Nat), decide (idxP p i l >= 0) = l.any p
 | [], i => rfl
 | x :: r, i => by
  have ih := Mp p r (i + 1)
  have e : idxP p i (x :: r) = bif p x then (i : Int) else idxP p (i + 1) r := rfl
  rw [List.any_cons, <- ih, Bool.eq_iff_iff, Bool.or_eq_true, decide_eq_true_eq, decide_eq_true_eq, e]
  cases p x with
  | true => simp
  | false => simp
theorem Jv {α : Type} {p : α -> Bool} {l : List α} {d0 : α} {L : Nat -> Int -> Option (T (AV × Hp))}
  (hst : ∀ (m k : Nat), k < l.length -> L (m + 1) k = bif p (l.getD k d0) then lN k else L m ((k + 1 : Nat) : Int)) (hend : ∀ m, L (m + 1) l.length = lN (-1)) :
  ∀ (m k : Nat), k <= l.length -> l.length - k < m -> L m k = lN (idxP p k (l.drop k))
 | 0, k, _, h => by omega
 | m + 1, k, hk, h => by
  by_cases e : k = l.length
  ·subst e
   rw [hend, List.drop_of_length_le (Nat.le_refl _)]
   rfl
  ·have hlt : k < l.length := by omega
   rw [hst m k hlt, Jv hst hend m (k + 1) (by omega) (by omega), Am (d := d0) hlt]
   simp only [idxP]
   cases p (l.getD k d0) <;> rfl
theorem Ev {α : Type} {nm : α -> ByteArray} {l : List α} {d0 : α} {L : Nat -> List (Value × Value) -> Int -> Option (T (AV × Hp))} {NX : List (Value × Value) -> Option (T (AV × Hp))}
  (hst : ∀ (m k : Nat) (N : List ByteArray), k < l.length -> L (m + 1) (Ao N) k = L m (Ao (N ++ [nm (l.getD k d0)])) ((k + 1 : Nat) : Int)) (hend : ∀ m mp, L (m + 1) mp l.length = NX mp) :
  ∀ (m k : Nat) (N : List ByteArray), k <= l.length -> l.length - k < m -> L m (Ao N) k = NX (Ao (N ++ (l.drop k).map nm))
 | 0, k, _, _, h => by omega
 | m + 1, k, N, hk, h => by
  by_cases e : k = l.length
  ·subst e
   rw [hend, List.drop_of_length_le (Nat.le_refl _)]
   simp
  ·have hlt : k < l.length := by omega
   rw [hst m k N hlt, Ev hst hend m (k + 1) _ (by omega) (by omega), Am (d := d0) hlt]
   simp
def Kp (c : UInt8) : Bool := decide ((c.toNat : Int) < 32) || (decide ((c.toNat : Int) > 126) || (c.toNat : Int) == 34)
def Ej (s : ByteArray) : Int := bif decide (120 < s.size) then 4 else bif s.data.toList.any Kp then 5 else 0
def Jk (x : SSet) : Bool := Ak x.sigs
def B6 (r : SRel) : Bool := Ak r.rules && (Ak r.sets && (Ak r.pubs && (Ak r.subs && r.sets.all Jk)))
theorem Ga {r : SRel} (h : B6 r = true) : r.rules.length <= 9223372036854775807 /\ r.sets.length <= 9223372036854775807 /\ r.pubs.length <= 9223372036854775807 /\ r.subs.length <= 9223372036854775807 /\ r.sets.all Jk = true := by
 unfold B6 Ak at h
 simp only [Bool.and_eq_true, decide_eq_true_eq] at h
 exact h
theorem Dv {α : Type} {p : α -> Bool} {l : List α} {d : α} (h : l.all p = true) (hd : p d = true) (i : Nat) : p (l.getD i d) = true := by
 by_cases hi : i < l.length
 ·rw [List.all_eq_true] at h
  exact h _ (by simp [List.getD, hi])
 ·have : l.getD i d = d := by simp [List.getD, hi]
  rw [this]; exact hd
end Go.Eb
namespace Go.Eb
open Go.RowKit
theorem Asle.trans {a b c : List AV} (h : Asle a b) (k : Asle b c) : Asle a c := by
 refine ⟨h.1.trans k.1, fun i x z h1 h3 => ?_⟩
 have hlt : i < b.length := by rw [<- h.1]; exact (List.getElem?_eq_some_iff.1 h1).1
 exact (h.2 i x _ h1 (List.getElem?_eq_getElem hlt)).trans (k.2 i _ z (List.getElem?_eq_getElem hlt) h3)
section
variable {α : Type} [Inhabited α] {enc : α -> List AV}
theorem J8 (inj : InjT enc) {x : List AV} {a : α} (h1 : Asle x (enc a)) (h2 : Asle (enc a) x) : theT enc x = a :=
 (inj _ _ (h2.trans (Lx (Qj.2 ⟨a, h1⟩)))).symm
theorem R2 (inj : InjT enc) {x : List AV} {a : α} {c : α -> Bool} (h1 : Asle x (enc a)) (h2 : Asle (enc a) x) (h : c a = true) : okG enc c x = true := by
 unfold okG
 rw [J8 inj h1 h2, Qj.2 ⟨a, h1⟩, h]; rfl
end
def Pd : C -> Bool
 | .d (.v _) => true
 | _ => false
def Ru : AV -> Bool
 | .c x => Pd x
 | .agg cs => cs.all Pd
 | .tup ps => ps.all fun p => p.2.all Pd
 | .u => true
section
variable {β β' : Bt} {w w' : World} {I I' : Im}
theorem Me {x : C} {v : Value} (h : Pd x = true) (hx : RepC β w I x v) : RepC β' w' I' x v := by
 match x, h with
 | .d (.v y), _ =>
  have hx : RepD w I (.v y) v := hx
  cases hx with
  | v _ h1 => exact RepD.v _ h1
theorem Pc {cs : List C} {vs : List Value} (h : cs.all Pd = true) (hx : RepCs β w I cs vs) : RepCs β' w' I' cs vs := by
 refine ⟨hx.1, fun i c v h1 h2 => Me ?_ (hx.2 i c v h1 h2)⟩
 rw [List.all_eq_true] at h
 exact h c (List.mem_of_getElem? h1)
theorem Aan {x : AV} {v : Value} (h : Ru x = true) (hx : RepA β w I x v) : RepA β' w' I' x v := by
 cases x with
 | c x => exact Me h hx
 | agg cs => obtain ⟨vs, rfl, hv⟩ := hx; exact ⟨vs, rfl, Pc h hv⟩
 | tup ps =>
  obtain ⟨vs, rfl, hl, hv⟩ := hx
  refine ⟨vs, rfl, hl, fun i p x h1 h2 => ?_⟩
  have hp := hv i p x h1 h2
  have h : (ps.all fun p => p.2.all Pd) = true := h
  rw [List.all_eq_true] at h
  have hq := h p (List.mem_of_getElem? h1)
  obtain ⟨b, cs⟩ := p
  cases b with
  | true => obtain ⟨us, rfl, hu⟩ := hp; exact ⟨us, rfl, Pc hq hu⟩
  | false =>
   obtain ⟨c, hc, hu⟩ := hp
   have hc : cs = [c] := hc
   subst hc
   exact ⟨c, rfl, Me (by simpa using hq) hu⟩
 | u => trivial
end
theorem CR.lends {P : Program} {f : FuncId} {args ds : List AV} {H : Hp} {x : AV} (h : CR P f ds [] x []) (hp : Ru x = true) (hf : Qx H args = some ds) : CR P f args H x H := by
 intro β I w vs hr ha
 have hr0 : RelH (fun _ => .free) [] (allB β I) w := by
  refine ⟨⟨(fun i j b hi => by cases hi), (fun i b hi => by cases hi), (fun i b o hi => by cases hi), (fun b o hi => ?_), hr.gl.step (fun _ _ hi => .inl hi) (fun _ _ _ => rfl)⟩, fun i _ => rfl, fun i B hB => by simp [look] at hB⟩
  rcases hi with hi | ⟨k, hk⟩
  ·exact hr.old b o hi
  ·exact hr.lt k b hk
 obtain ⟨hl, hreps⟩ := V9 (β' := fun _ => .free) hr args ds hf
 have ha0 : RepF (fun _ => .free) w (allB β I) ds vs := by
  refine ⟨by rw [hl]; exact ha.1, fun i y v h1 h2 => ?_⟩
  have hlt : i < args.length := by rw [<- hl]; exact (List.getElem?_eq_some_iff.1 h1).1
  exact hreps i _ y v (List.getElem?_eq_getElem hlt) h1 (ha.2 i _ v (List.getElem?_eq_getElem hlt) h2)
 refine (h _ _ w vs hr0 ha0).mono fun e w' ⟨v, β', I', he, hr', hx, hE, hm⟩ => ?_
 have hblk : ∀ b, b < w.heap.size -> w'.heap[b]? = w.heap[b]? := fun b hb => hE.block b hb (fun k hk => by cases hk)
 have hcell : ∀ b o, I b o -> w'.cell? ⟨b, o, none⟩ = w.cell? ⟨b, o, none⟩ := fun b o hi => hE.cell b o (.inl hi)
 have hk : Keep β I w β I w' := ⟨.refl _, fun _ _ hi => hi, hcell, hE.shapes⟩
 have hpl : Place β I w' := ⟨hr.inj, fun i b hb => Nat.lt_of_lt_of_le (hr.lt i b hb) hE.size, hr.off, fun b o hi => Nat.lt_of_lt_of_le (hr.old b o hi) hE.size, hr.gl.step (fun _ _ hi => hi) hcell⟩
 refine ⟨v, β, I, he, ?_, Aan hp hx, ⟨hE.os, hE.tape, hE.output, hE.size, fun b hb _ => hblk b hb, fun _ _ hi => hi, hcell, fun _ _ hi => .inl hi, fun i b hb => .inl ⟨i, hb⟩, hE.shapes⟩, .refl _⟩
 exact ⟨hpl, hr.dom, fun i B hB => (hr.blk i B hB).keep hk rfl (fun b hb => hblk b (hr.lt i b hb))⟩
theorem CX.cr {P : Program} {f : FuncId} {fn : Func} {c : Code} {args : List AV} {H : Hp} {x : AV} {H' : Hp} (hf : P.funcs[f]? = some fn) (hb : fn.body = some c) (h : CX P f args H x H') : CR P f args H x H' := by
 unfold CX at h
 rw [hf] at h
 simp only [hb, Option.isNone_some, Bool.false_eq_true, if_false] at h
 exact h
theorem CX.lends {P : Program} {f : FuncId} {fn : Func} {c : Code} {args ds : List AV} {H : Hp} {x : AV} (hf : P.funcs[f]? = some fn) (hb : fn.body = some c) (h : CX P f ds [] x []) (hp : Ru x = true) (hz : Qx H args = some ds) : CX P f args H x H :=
 .of_cr hf hb ((h.cr hf hb).lends hp hz)
def ansL (ok : LB) (r : List AV -> AV) : (R : Type) -> List AV -> Hp -> (AV -> Hp -> Option (T R)) -> Option (T R) := fun _ args H k =>
 match Qx H args with
 | some ds => bif ok ds then k (r ds) H else none
 | none => none
theorem AnsS.l {P : Program} {f : FuncId} {fn : Func} {ok : LB} {r : List AV -> AV} (hf : P.funcs[f]? = some fn) (hb : fn.body = some (Ad fn)) (hc : ∀ x, ok x = true -> CX P f x [] (r x) [] /\ Ru (r x) = true) : AnsS P f (ansL ok r) := by
 refine ⟨fun R args H k t h => ?_, fun args H => ?_⟩
 ·unfold ansL at h
  cases hd : Qx H args with
  | none => rw [hd] at h; cases h
  | some ds =>
   rw [hd] at h
   simp only [] at h
   cases hb' : ok ds with
   | false => rw [hb'] at h; cases h
   | true =>
    rw [hb'] at h
    obtain ⟨h1, h2⟩ := hc ds hb'
    exact ⟨_, _, h, h1.lends hf hb h2 hd⟩
 ·unfold ansL
  cases Qx H args with
  | none => exact .no fun R k => rfl
  | some ds => exact .bif _ (.one _ _ fun R k => rfl) (.no fun R k => rfl)
theorem AnsS.lt {P : Program} {f : FuncId} {fn : Func} {α : Type} [Inhabited α] {enc : α -> List AV} {c : α -> Bool} {r : α -> AV} (hf : P.funcs[f]? = some fn) (hb : fn.body = some (Ad fn)) (hp : ∀ a, Ru (r a) = true)
  (hc : ∀ a, c a = true -> CX P f (enc a) [] (r a) []) : AnsS P f (ansL (okG enc c) fun x => r (theT enc x)) := .l hf hb fun x h => by
 unfold okG at h
 simp only [Bool.and_eq_true] at h
 exact ⟨(hc _ h.2).ge (Lx h.1) (.refl _), hp _⟩
theorem E5 {α : Type} {p : α -> Bool} {l : List α} {d0 : α} {L : Nat -> Int -> Option (T (AV × Hp))} {A B : Option (T (AV × Hp))}
  (hst : ∀ (m k : Nat), k < l.length -> L (m + 1) k = bif p (l.getD k d0) then A else L m ((k + 1 : Nat) : Int)) (hend : ∀ m, L (m + 1) l.length = B) :
  ∀ (m k : Nat), k <= l.length -> l.length - k < m -> L m k = bif (l.drop k).any p then A else B
 | 0, k, _, h => by omega
 | m + 1, k, hk, h => by
  by_cases e : k = l.length
  ·subst e
   rw [hend, List.drop_of_length_le (Nat.le_refl _)]
   rfl
  ·have hlt : k < l.length := by omega
   rw [hst m k hlt, E5 hst hend m (k + 1) (by omega) (by omega), Am (d := d0) hlt]
   simp only [List.any_cons]
   cases p (l.getD k d0) <;> rfl
theorem Er {α : Type} {valid : α -> Bool} {key : α -> ByteArray} {rest : α -> Int} {l : List α} {d0 : α} {L : Nat -> Nat -> RD -> Int -> Option (T (AV × Hp))} {NX : Option (T (AV × Hp))} (hl : l.length <= 9000)
  (hst : ∀ (m k n : Nat) (f : RD) (seen : List ByteArray), k < l.length -> RL busC e0 n f seen -> n <= 9000 -> L (m + 1) n f k = bif !valid (l.getD k d0) then lN 7 else bif inB seen (key (l.getD k d0)) then lN 8 else bif rest (l.getD k d0) != 0 then lN (rest (l.getD k d0)) else L m (n + 1) (appF n f (Au (busC (key (l.getD k d0))) 1)) ((k + 1 : Nat) : Int))
  (hend : ∀ m n f, L (m + 1) n f l.length = NX) : ∀ (m k n : Nat) (f : RD) (seen : List ByteArray), RL busC e0 n f seen -> seen.length = k -> k <= l.length -> l.length - k < m ->
    L m n f k = bif Ct valid key rest seen (l.drop k) != 0 then lN (Ct valid key rest seen (l.drop k)) else NX
 | 0, k, n, f, seen, _, _, _, h => by omega
 | m + 1, k, n, f, seen, hr, hn, hk, h => by
  by_cases e : k = l.length
  ·rw [e, hend, List.drop_of_length_le (Nat.le_refl _)]
   rfl
  ·have hlt : k < l.length := by omega
   have hr' := hr.app' (x := key (l.getD k d0)) (sz := 1) rfl
   rw [hst m k n f seen hlt hr (by have := hr.len; omega), Er hl hst hend m (k + 1) _ _ _ hr' (by simp; omega) (by omega) (by omega), Am (d := d0) hlt]
   simp only [Ct]
   cases valid (l.getD k d0) with
   | false => rfl
   | true =>
    cases inB seen (key (l.getD k d0)) with
    | true => rfl
    | false =>
     cases hz : (rest (l.getD k d0) != 0) with
     | true => simp only [Bool.not_true, cond_false, cond_true, hz]
     | false => rfl
theorem Fv {n : Nat} (h : n <= 9000) : (decide ((n + 1) * 16 <= 140737488355328) && decide (n + 1 <= 9223372036854775807)) = true := by
 rw [decide_eq_true (by omega), decide_eq_true (by omega)]; rfl
abbrev eIx := en2 (aD Ab) vS
theorem Cv : InjT eIx := Mw (S3 (At (sz := 1) (d0 := e0) B9)) Yq
def cIx (a : List ByteArray × ByteArray) : Bool := Ak a.1
theorem AeX {n : Nat} {f : RD} {l : List ByteArray} (hr : RL busC e0 n f l) (s : ByteArray) : Asle [.c (.d (.sl 1 n f)), vS s] (eIx (l, s)) /\ Asle (eIx (l, s)) [.c (.d (.sl 1 n f)), vS s] :=
 ⟨.cons hr.de (.cons (.refl _) .nil), .cons hr.ed (.cons (.refl _) .nil)⟩
theorem AiT {n : Nat} {f : RD} {l : List ByteArray} (hr : RL busC e0 n f l) (hn : n <= 9000) (s : ByteArray) : okG eIx cIx [.c (.d (.sl 1 n f)), vS s] = true /\ theT eIx [.c (.d (.sl 1 n f)), vS s] = (l, s) := by
 obtain ⟨h1, h2⟩ := AeX hr s
 refine ⟨R2 Cv h1 h2 ?_, J8 Cv h1 h2⟩
 unfold cIx Ak
 rw [decide_eq_true (by have := hr.len; simp only; omega)]
end Go.Eb
namespace Go.Eb
open Go.RowKit
theorem CR.cellsRow {P : Program} {f : FuncId} {args : List AV} {ds : List D} {n : Nat} {t : TypeId} {g : RD} (hn : ds.length = n) (hg : ∀ i, i < n -> g i = [ds.getD i (dI 0)])
  (h : CR P f args [] (.c (.row 0 1 n)) [(0, .cells (ds.map .d) t)]) : CR P f args [] (.c (.row 0 1 n)) [(0, .row n g 1 t)] := by
 intro β I w vs hr ha
 have hfree : ∀ h, β h = .free := fun h => hr.dom h rfl
 refine (h β I w vs hr ha).mono fun e w' ⟨v, β', I', he, hr', hx, hE, hm⟩ => ?_
 obtain ⟨b, us, hb, hheap, hle, hcs⟩ := hr'.blk 0 _ (rfl : look [(0, Blk.cells (ds.map .d) t)] 0 = some _)
 have hblk : ∀ k, (setB β' 0 (.row (some b) n) k).blk = (β' k).blk := fun k => by
  by_cases ek : k = 0
  ·subst ek; rw [Ah, hb]; rfl
  ·rw [Bj ek]
 refine ⟨v, setB β' 0 (.row (some b) n), I', he, ⟨⟨fun i j c h1 h2 => hr'.inj i j c (by rw [<- hblk]; exact h1) (by rw [<- hblk]; exact h2), fun k c hk => hr'.lt k c (by rw [<- hblk]; exact hk), fun k c o hk => hr'.off k c o (by rw [<- hblk]; exact hk), hr'.old, hr'.gl⟩, fun k hk => ?_, fun k B hB => ?_⟩, ?_,
  ⟨hE.os, hE.tape, hE.output, hE.size, hE.block, hE.keepI, hE.cell, hE.newI, fun k c hk => hE.newB k c (by rw [<- hblk]; exact hk), hE.shapes⟩, fun k => by rw [hfree k]; trivial⟩
 ·by_cases ek : k = 0
  ·subst ek
   have hk' : (some (Blk.row n g 1 t) : Option Blk) = none := hk
   cases hk'
  ·rw [Bj ek]
   refine hr'.dom k ?_
   show (bif Nat.beq k 0 then some _ else none) = none
   rw [beqD, decide_eq_false ek]
   rfl
 ·by_cases ek : k = 0
  ·subst ek
   have hB' : some (Blk.row n g 1 t) = some B := hB
   cases hB'
   refine ⟨by omega, .inr ⟨b, us, Ah _ _ _, hheap, by simp at hle; omega, fun i hi => ⟨by rw [hg i hi]; rfl, fun j d hj => ?_⟩⟩⟩
   rw [hg i hi] at hj
   match j, hj with
   | 0, hj =>
    have hj' : ds.getD i (dI 0) = d := by simpa using hj
    have hd : (ds.map C.d)[i]? = some (.d d) := by
     rw [List.getElem?_map, List.getElem?_eq_getElem (by omega), <- hj']
     simp [List.getD, show i < ds.length by omega]
    have hu : i < us.size := by simp at hle; omega
    exact ⟨us[i], by rw [Nat.mul_one, Nat.add_zero]; exact Array.getElem?_eq_getElem hu, hcs i _ _ hd (Array.getElem?_eq_getElem hu)⟩
   | j + 1, hj => simp at hj
  ·have hB' : (bif Nat.beq k 0 then some (Blk.row n g 1 t) else none) = some B := hB
   rw [beqD, decide_eq_false ek] at hB'
   cases hB'
 ·have hx : RowAt β' w' 0 1 n v := hx
  show RowAt _ w' 0 1 n v
  rcases hx with ⟨h0, rfl, h2⟩ | ⟨c, cap, rfl, hcap, h2⟩
  ·rcases h2 with h2 | ⟨m, h2⟩ <;> (rw [hb] at h2; cases h2)
  ·refine .inr ⟨c, cap, rfl, hcap, ?_⟩
   rcases h2 with h2 | ⟨h2, _, h4⟩
   ·rw [hb] at h2; cases h2
   ·have : c = b := by rw [hb] at h2; simpa [Nst.blk] using h2.symm
    subst this
    refine .inr ⟨by rw [Ah]; rfl, fun ob m hm => ?_, h4⟩
    rw [Ah] at hm
    cases hm
    omega
def ansN (ok : LB) (r : List AV -> AV) (H' : List AV -> Hp) : (R : Type) -> List AV -> Hp -> (AV -> Hp -> Option (T R)) -> Option (T R) := fun _ args H k => match H with
 | [] => bif ok args then k (r args) (H' args) else none
 | _ :: _ => none
theorem AnsS.n {P : Program} {f : FuncId} {ok : LB} {r : List AV -> AV} {H' : List AV -> Hp} (hc : ∀ x, ok x = true -> CX P f x [] (r x) (H' x)) : AnsS P f (ansN ok r H') := by
 refine ⟨fun R args H k t h => ?_, fun args H => ?_⟩
 ·unfold ansN at h
  cases H with
  | cons b H => cases h
  | nil =>
   simp only [] at h
   cases hb : ok args with
   | false => rw [hb] at h; cases h
   | true => rw [hb] at h; exact ⟨_, _, h, hc args hb⟩
 ·unfold ansN
  cases H with
  | cons b H => exact .no fun R k => rfl
  | nil => exact .bif _ (.one _ _ fun R k => rfl) (.no fun R k => rfl)
theorem AnsS.nt {P : Program} {f : FuncId} {α : Type} [Inhabited α] {enc : α -> List AV} {c : α -> Bool} {r : α -> AV} {H' : α -> Hp} (hc : ∀ a, c a = true -> CX P f (enc a) [] (r a) (H' a)) : AnsS P f (ansN (okG enc c) (fun x => r (theT enc x)) fun x => H' (theT enc x)) := .n fun x h => by
 unfold okG at h
 simp only [Bool.and_eq_true] at h
 exact (hc _ h.2).ge (Lx h.1) (.refl _)
end Go.Eb
namespace Go.Eb
open Go.RowKit
def LK3 (P : Program) (orc : Orc) (ann : Ann) (k0 g : Nat) (fn : Func) (r m r2 m2 r3 m3 : Nat) (s : St) : Option (T (AV × Hp)) :=
 Adh P orc ann k0 g (Bd r3 (Bd r2 (Bd r (Ad fn)))) m3 s (kAt P orc ann k0 g (F9 r3 (Bd r2 (Bd r (Ad fn)))) (Bd r2 (Bd r (Ad fn)))
  (X5 P orc ann k0 g (Bd r2 (Bd r (Ad fn))) m2 (kAt P orc ann k0 g (F9 r2 (Bd r (Ad fn))) (Bd r (Ad fn)) (X5 P orc ann k0 g (Bd r (Ad fn)) m (kAt P orc ann k0 g (F9 r (Ad fn)) (Ad fn) (kEnd P fn k0))))))
def LK4 (P : Program) (orc : Orc) (ann : Ann) (k0 g : Nat) (fn : Func) (r m r2 m2 r3 m3 r4 m4 : Nat) (s : St) : Option (T (AV × Hp)) :=
 Adh P orc ann k0 g (Bd r4 (Bd r3 (Bd r2 (Bd r (Ad fn))))) m4 s (kAt P orc ann k0 g (F9 r4 (Bd r3 (Bd r2 (Bd r (Ad fn))))) (Bd r3 (Bd r2 (Bd r (Ad fn))))
  (X5 P orc ann k0 g (Bd r3 (Bd r2 (Bd r (Ad fn)))) m3 (kAt P orc ann k0 g (F9 r3 (Bd r2 (Bd r (Ad fn)))) (Bd r2 (Bd r (Ad fn)))
  (X5 P orc ann k0 g (Bd r2 (Bd r (Ad fn))) m2 (kAt P orc ann k0 g (F9 r2 (Bd r (Ad fn))) (Bd r (Ad fn)) (X5 P orc ann k0 g (Bd r (Ad fn)) m (kAt P orc ann k0 g (F9 r (Ad fn)) (Ad fn) (kEnd P fn k0))))))))
end Go.Eb
namespace Go.Eb
open Go.RowKit
def ansM (ok : List AV -> Hp -> Bool) (r : List AV -> Hp -> AV) (H' : List AV -> Hp -> Hp) : (R : Type) -> List AV -> Hp -> (AV -> Hp -> Option (T R)) -> Option (T R) := fun _ args H k =>
 bif ok args H then k (r args H) (H' args H) else none
theorem AnsS.mg {P : Program} {f : FuncId} {ok : List AV -> Hp -> Bool} {r : List AV -> Hp -> AV} {H' : List AV -> Hp -> Hp} (hc : ∀ x H, ok x H = true -> CX P f x H (r x H) (H' x H)) : AnsS P f (ansM ok r H') := by
 refine ⟨fun R args H k t h => ?_, fun args H => ?_⟩
 ·unfold ansM at h
  cases hb : ok args H with
  | false => rw [hb] at h; cases h
  | true => rw [hb] at h; exact ⟨_, _, h, hc args H hb⟩
 ·unfold ansM
  exact .bif _ (.one _ _ fun R k => rfl) (.no fun R k => rfl)
section
variable {α : Type} [Inhabited α]
def okY (enc : α -> List AV × Hp) (x : List AV) (H : Hp) : Bool := @decide (∃ a, Asle x (enc a).1 /\ Hle H (enc a).2) (Classical.propDecidable _)
def theY (enc : α -> List AV × Hp) (x : List AV) (H : Hp) : α := @dite _ (∃ a, Asle x (enc a).1 /\ Hle H (enc a).2) (Classical.propDecidable _) (fun h => Classical.choose h) (fun _ => default)
omit [Inhabited α] in
theorem AaA {enc : α -> List AV × Hp} {x : List AV} {H : Hp} : okY enc x H = true ↔ ∃ a, Asle x (enc a).1 /\ Hle H (enc a).2 := by unfold okY; simp
theorem P4 {enc : α -> List AV × Hp} {x : List AV} {H : Hp} (h : okY enc x H = true) : Asle x (enc (theY enc x H)).1 /\ Hle H (enc (theY enc x H)).2 := by
 have h' := AaA.1 h
 unfold theY
 rw [dif_pos h']
 exact Classical.choose_spec h'
def InjY (enc : α -> List AV × Hp) : Prop := ∀ a b, Asle (enc a).1 (enc b).1 -> Hle (enc a).2 (enc b).2 -> a = b
def okZ (enc : α -> List AV × Hp) (c : α -> Bool) (x : List AV) (H : Hp) : Bool := okY enc x H && c (theY enc x H)
omit [Inhabited α] in
theorem T5 {enc : α -> List AV × Hp} (a : α) : okY enc (enc a).1 (enc a).2 = true := AaA.2 ⟨a, .refl _, .refl _⟩
theorem E6 {enc : α -> List AV × Hp} (inj : InjY enc) (a : α) : theY enc (enc a).1 (enc a).2 = a := (inj _ _ (P4 (T5 a)).1 (P4 (T5 a)).2).symm
theorem Hs {enc : α -> List AV × Hp} (inj : InjY enc) {c : α -> Bool} (a : α) (h : c a = true) : okZ enc c (enc a).1 (enc a).2 = true := by
 unfold okZ; rw [T5, E6 inj, h]; rfl
theorem AnsS.m {P : Program} {f : FuncId} {enc : α -> List AV × Hp} {c : α -> Bool} {r : α -> AV} {H' : α -> Hp} (hc : ∀ a, c a = true -> CX P f (enc a).1 (enc a).2 (r a) (H' a)) :
  AnsS P f (ansM (okZ enc c) (fun x H => r (theY enc x H)) fun x H => H' (theY enc x H)) := .mg fun x H h => by
 unfold okZ at h
 simp only [Bool.and_eq_true] at h
 exact (hc _ h.2).ge (P4 h.1).1 (P4 h.1).2
end
theorem G4 {H K : Hp} (h : Hle H K) (n : Nat) {a b : Blk} (h1 : look H n = some a) (h2 : look K n = some b) : Ble a b := by
 have := h n
 rw [h1, h2] at this
 exact this
theorem Acd {a b : Nat} {l l' : MV} (h : Ble (.map a l) (.map b l')) : l = l' := by
 have h : Blk.map a l = Blk.map b l' := h
 injection h
theorem J3 {a b : List C} {t u : TypeId} (h : Ble (.cells a t) (.cells b u)) : Csle a b := h.2
def Cs (l : List Int) : MV := l.reverse.map fun n => (.int .i64 n, .bool true)
theorem AaJ (l : List Int) (n : Int) : Cs (l ++ [n]) = (.int .i64 n, .bool true) :: Cs l := by simp [Cs]
theorem U0 (l : List Int) (n : Int) : B0 (A2 (Cs l) (.int .i64 n)) = l.any fun m => n == m := by
 have key : ∀ l : List Int, B0 (A2 (l.map fun n => (Value.int .i64 n, Value.bool true)) (.int .i64 n)) = l.any fun m => n == m := by
  intro l
  induction l with
  | nil => rfl
  | cons m r ih =>
   simp only [List.map_cons, A2, E9, List.any_cons]
   cases (n == m) with
   | true => rfl
   | false => simp only [cond_false, Bool.false_or]; exact ih
 unfold Cs
 rw [key, List.any_reverse]
theorem AaI {a b : List Int} (h : Cs a = Cs b) : a = b := by
 unfold Cs at h
 have h2 := (List.map_inj_right (f := fun n : Int => (Value.int .i64 n, Value.bool true)) (fun x y e => by simpa using e)).1 h
 exact List.reverse_inj.1 h2
end Go.Eb
namespace Go.Eb
open Go.RowKit
namespace It
end It
end Go.Eb
namespace Go.Eb
open Go.RowKit
def decB (n : Nat) : ByteArray := if h : n < 10 then ⟨#[UInt8.ofNat (48 + n)]⟩ else decB (n / 10) ++ decB (n % 10)
termination_by n
decreasing_by all_goals omega
theorem Bo {n : Nat} (h : n < 10) : decB n = ⟨#[UInt8.ofNat (48 + n)]⟩ := by rw [decB, dif_pos h]
theorem Gk {n : Nat} (h : ¬ n < 10) : decB n = decB (n / 10) ++ decB (n % 10) := by rw [decB, dif_neg h]
structure RLe {β : Type} (c : β -> List D) (d0 : β) (n : Nat) (f : RD) (l : List β) : Prop where
 len : n = l.length
 le : ∀ i, i < n -> DEs (f i) (c (l.getD i d0))
section
variable {β : Type} {c : β -> List D} {d0 : β}
theorem RLe.de {n sz : Nat} {f : RD} {l : List β} (h : RLe c d0 n f l) : DE (.sl sz n f) (.sl sz l.length fun i => c (l.getD i d0)) := by
 obtain ⟨rfl, h1⟩ := h
 exact .sls h1
theorem RLe.nil (f : RD) : RLe c d0 0 f [] := ⟨rfl, fun i h => by omega⟩
theorem AbW (ds : List D) : Au ds ds.length 0 = ds := by unfold Au; simp
theorem RLe.one {sz : Nat} {ds : List D} {x : β} (hs : ds.length = sz) (h1 : DEs ds (c x)) : RLe c d0 1 (Au ds sz) [x] := ⟨rfl, fun i hi => by
 obtain rfl : i = 0 := by omega
 rw [<- hs, AbW]
 exact h1⟩
theorem RLe.app {n sz : Nat} {f : RD} {l : List β} {ds : List D} {x : β} (h : RLe c d0 n f l) (hs : ds.length = sz) (h1 : DEs ds (c x)) : RLe c d0 (n + 1) (appF n f (Au ds sz)) (l ++ [x]) := by
 refine ⟨by rw [h.len]; simp, fun i hi => ?_⟩
 unfold appF
 rw [bltD]
 by_cases e : i < n
 ·rw [decide_eq_true e, Ms (by rw [<- h.len]; exact e)]; exact h.le i e
 ·obtain rfl : i = n := by omega
  rw [decide_eq_false e, Mt (by rw [<- h.len]; omega), <- h.len, Nat.sub_self]
  exact (RLe.one (d0 := d0) hs h1).le 0 (by omega)
theorem app_loop {α ρ : Type} {L : Nat -> Nat -> RD -> Int -> ρ} {K : Nat -> RD -> ρ} {l : List α} {d : α} {ch : α -> List D} {e : α -> β} {sz : Nat}
  (hst : ∀ (m k n : Nat) (f : RD), k < l.length -> n <= 5000 -> L (m + 1) n f k = L m (n + 1) (appF n f (Au (ch (l.getD k d)) sz)) ((k + 1 : Nat) : Int))
  (hend : ∀ (m n : Nat) (f : RD), L (m + 1) n f (l.length : Int) = K n f) (hs : ∀ x, (ch x).length = sz) (hch : ∀ k, k < l.length -> DEs (ch (l.getD k d)) (c (e (l.getD k d)))) :
  ∀ (m k n : Nat) (f : RD) (bef : List β), k <= l.length -> l.length - k < m -> n + (l.length - k) <= 5000 -> RLe c d0 n f bef ->
   ∃ f', RLe c d0 (n + (l.length - k)) f' (bef ++ (l.drop k).map e) /\ L m n f k = K (n + (l.length - k)) f' := by
 intro m
 induction m with
 | zero => intro k n f bef _ h; omega
 | succ m ih =>
  intro k n f bef hk hm hn hr
  by_cases hlt : k < l.length
  ·rw [hst m k n f hlt (by omega)]
   obtain ⟨f', h1, h2⟩ := ih (k + 1) (n + 1) _ (bef ++ [e (l.getD k d)]) (by omega) (by omega) (by omega) (hr.app (hs _) (hch k hlt))
   have e1 : n + 1 + (l.length - (k + 1)) = n + (l.length - k) := by omega
   rw [e1] at h1 h2
   refine ⟨f', ?_, h2⟩
   rw [Am (d := d) hlt]
   simpa using h1
  ·obtain rfl : k = l.length := by omega
   rw [hend]
   refine ⟨f, ?_, by rw [Nat.sub_self, Nat.add_zero]⟩
   simpa using hr
end
end Go.Eb
namespace Go.Eb
open Go.RowKit
def decI (n : Int) : ByteArray := bif decide (n < 0) then (⟨#[45]⟩ : ByteArray) ++ decB n.natAbs else decB n.toNat
end Go.Eb
namespace Go.Eb
open Go.RowKit
abbrev isT (a b : ByteArray) : Bool := a.toList == b.toList
end Go.Eb
namespace Go.Eb
open Go.RowKit
end Go.Eb
namespace Go.Eb
open Go.RowKit
def Rk : ByteArray := ⟨#[116, 114, 105, 112]⟩
def sgLine : List ByteArray := [⟨#[116, 114, 105, 112]⟩, ⟨#[99, 108, 111, 115, 101]⟩, ⟨#[102, 97, 105, 108]⟩, ⟨#[115, 101, 110, 100]⟩, ⟨#[116, 114, 97, 110, 115, 102, 101, 114]⟩, ⟨#[122, 111, 110, 101, 49]⟩, ⟨#[122, 111, 110, 101, 50]⟩, ⟨#[122, 111, 110, 101, 51]⟩, ⟨#[116, 105, 109, 101]⟩, ⟨#[115, 116, 97, 114, 116, 101, 100]⟩]
def sgSrc : List ByteArray := [⟨#[116, 114, 105, 112]⟩, ⟨#[99, 108, 111, 115, 101]⟩, ⟨#[102, 97, 105, 108]⟩, ⟨#[116, 105, 109, 101]⟩, ⟨#[115, 116, 97, 114, 116, 101, 100]⟩, ⟨#[117, 110, 100, 101, 114]⟩, ⟨#[111, 118, 101, 114]⟩]
def sgDig : List ByteArray := [⟨#[48]⟩, ⟨#[49]⟩, ⟨#[50]⟩, ⟨#[51]⟩, ⟨#[52]⟩, ⟨#[53]⟩, ⟨#[54]⟩, ⟨#[55]⟩, ⟨#[56]⟩, ⟨#[57]⟩, ⟨#[49, 48]⟩, ⟨#[49, 49]⟩, ⟨#[49, 50]⟩, ⟨#[49, 51]⟩, ⟨#[49, 52]⟩, ⟨#[49, 53]⟩]
def sgBus : List ByteArray := (List.range 16).map fun i => Rk ++ sgDig.getD i e0
def Cg (k : Int) : List ByteArray := bif k == 1 then sgLine else bif k == 2 || k == 3 then sgSrc else bif k == 4 then sgBus else []
def outS (r : SRel) : List ByteArray := Cg r.kind ++ r.rules.map SRule.name
def inS (r : SRel) : List ByteArray := r.subs.map SSub.loc
def repS (seen : List ByteArray) : List ByteArray -> Bool
 | [] => false
 | x :: t => inB seen x || repS (seen ++ [x]) t
def D0 (known seen : List ByteArray) : List ByteArray -> Int
 | [] => 0
 | x :: t => bif !inB known x then 9 else bif inB seen x then 8 else D0 known (seen ++ [x]) t
def Cp (known : List ByteArray) : List SSet -> Int
 | [] => 0
 | x :: t => bif D0 known [] x.sigs != 0 then D0 known [] x.sigs else Cp known t
def A0 (r : SRel) (n : ByteArray) : Int := idxP (fun s : SSet => isT s.name n) 0 r.sets
def D4 (r : SRel) : List SPub -> Int
 | [] => 0
 | x :: t => bif decide (A0 r x.set < 0) then 9 else D4 r t
def D6 (r : SRel) : Int := bif repS [] (outS r ++ inS r) then 8 else bif Cp (outS r) r.sets != 0 then Cp (outS r) r.sets else D4 r r.pubs
structure Plc where
 rel : Int
 set : Int
 item : Int
 err : Int
def Cf (rels : List SRel) (n : ByteArray) : Int := idxP (fun r : SRel => isT r.name n) 0 rels
def Bl (l : List ByteArray) (n : ByteArray) : Int := idxP (fun x : ByteArray => isT x n) 0 l
def Yd (r : SRel) (dev : Int) (x : SSub) : Plc :=
 bif decide (A0 r x.set < 0) then ⟨0, 0, 0, 9⟩ else bif !(r.pubs.any fun p => isT p.set x.set) then ⟨0, 0, 0, 11⟩ else
  bif decide (Bl (r.sets.getD (A0 r x.set).toNat set0).sigs x.sig < 0) then ⟨0, 0, 0, 9⟩ else ⟨dev, A0 r x.set, Bl (r.sets.getD (A0 r x.set).toNat set0).sigs x.sig, 0⟩
def Gg (rels : List SRel) (of dev : Int) (x : SSub) : Plc :=
 bif decide (dev < 0) then ⟨0, 0, 0, 9⟩ else bif dev == of then ⟨0, 0, 0, 12⟩ else Yd (rels.getD dev.toNat rel0) dev x
def Br (rels : List SRel) (of : Int) (x : SSub) : Plc := Gg rels of (Cf rels x.dev) x
def Dy (rels : List SRel) (of : Int) : List SSub -> Int
 | [] => 0
 | x :: t => bif (Br rels of x).err != 0 then (Br rels of x).err else Dy rels of t
def D2 (rels : List SRel) (i : Int) (r : SRel) : Int := bif D6 r != 0 then D6 r else Dy rels i r.subs
def C4 (rels : List SRel) (i : Nat) : List SRel -> Int × Int
 | [] => (0, 0)
 | r :: t => bif D2 rels i r != 0 then ((i : Int), D2 rels i r) else C4 rels (i + 1) t
structure Pbl where
 rel : Int
 set : Int
 fst : Int
 max : Int
 sigs : List Int
def Be (i : Nat) (r : SRel) (p : SPub) : Pbl := ⟨i, A0 r p.set, p.fst, p.max, (r.sets.getD (A0 r p.set).toNat set0).sigs.map (Bl (outS r))⟩
def Bc (i : Nat) (r : SRel) : List Pbl := r.pubs.map (Be i r)
def pbls (i : Nat) : List SRel -> List Pbl
 | [] => []
 | r :: t => Bc i r ++ pbls (i + 1) t
structure Dev where
 outs : List ByteArray
 sends : List Int
 ins : List (Int × Int)
def Jj (l : List Pbl) (r s : Int) : Int := idxP (fun p : Pbl => p.rel == r && p.set == s) 0 l
def Us (rels : List SRel) (all : List Pbl) (n i : Nat) (r : SRel) : Dev :=
 ⟨outS r, (List.range r.pubs.length).map fun k => ((n + k : Nat) : Int), r.subs.map fun x => (Jj all (Br rels i x).rel (Br rels i x).set, (Br rels i x).item)⟩
def devs (rels : List SRel) (all : List Pbl) (n i : Nat) : List SRel -> List Dev
 | [] => []
 | r :: t => Us rels all n i r :: devs rels all (n + r.pubs.length) (i + 1) t
structure SCfg where
 sta : SSta
 rels : List SRel
instance : Inhabited SCfg := ⟨⟨default, []⟩⟩
def cfgC (c : SCfg) : List D := staC c.sta ++ [Cq c.rels]
abbrev aCfg (c : SCfg) : AV := .agg ((cfgC c).map .d)
theorem AdG (c k : SCfg) (h : DEs (cfgC c) (cfgC k)) : c = k := by
 have hs : DEs (staC c.sta) (staC k.sta) := ⟨rfl, fun j d e hd he => by
  have hj : j < 5 := (List.getElem?_eq_some_iff.1 hd).1
  refine h.2 j d e ?_ ?_
  ·unfold cfgC; rw [List.getElem?_append_left hj]; exact hd
  ·unfold cfgC; rw [List.getElem?_append_left hj]; exact he⟩
 have h1 := Vj _ _ hs
 have h2 := At (sz := 53) (d0 := rel0) Jh _ _ (h.2 5 _ _ rfl rfl)
 cases c; cases k
 cases h1; cases h2
 rfl
def nC (n : Int) : List D := [dI n]
abbrev nsD (l : List Int) : D := Aa 1 nC 0 l
def inC (p : Int × Int) : List D := [dI p.1, dI p.2]
abbrev insD (l : List (Int × Int)) : D := Aa 2 inC (0, 0) l
def pbl0 : Pbl := ⟨0, 0, 0, 0, []⟩
def dev0 : Dev := ⟨[], [], []⟩
def pblC (p : Pbl) : List D := [dI p.rel, dI p.set, dI p.fst, dI p.max, nsD p.sigs]
def devC (d : Dev) : List D := [Ab d.outs, nsD d.sends, insD d.ins]
abbrev D5 (l : List Pbl) : D := Aa 5 pblC pbl0 l
abbrev Hy (l : List Dev) : D := Aa 3 devC dev0 l
theorem AaF (a b : Int) (h : DEs (nC a) (nC b)) : a = b := Aw (h.2 0 _ _ rfl rfl)
theorem Ahe (a b : Int × Int) (h : DEs (inC a) (inC b)) : a = b := Prod.ext (Aw (h.2 0 _ _ rfl rfl)) (Aw (h.2 1 _ _ rfl rfl))
theorem Adb (a b : Pbl) (h : DEs (pblC a) (pblC b)) : a = b := by
 cases a; cases b
 have h0 := Aw (h.2 0 _ _ rfl rfl)
 have h1 := Aw (h.2 1 _ _ rfl rfl)
 have h2 := Aw (h.2 2 _ _ rfl rfl)
 have h3 := Aw (h.2 3 _ _ rfl rfl)
 have h4 := At AaF _ _ (h.2 4 _ _ rfl rfl)
 simp only at h0 h1 h2 h3 h4
 rw [h0, h1, h2, h3, h4]
theorem AdC (a b : Dev) (h : DEs (devC a) (devC b)) : a = b := by
 cases a; cases b
 have h0 := At B9 _ _ (h.2 0 _ _ rfl rfl)
 have h1 := At AaF _ _ (h.2 1 _ _ rfl rfl)
 have h2 := At Ahe _ _ (h.2 2 _ _ rfl rfl)
 simp only at h0 h1 h2
 rw [h0, h1, h2]
end Go.Eb
namespace Go.Eb
open Go.RowKit
theorem Abd (l : List ByteArray) (s : ByteArray) : inB l s = true ↔ s ∈ l := by
 unfold inB
 rw [List.any_eq_true]
 constructor
 ·rintro ⟨t, ht, h⟩
  have : s = t := by
   cases s; cases t
   simp only [beq_iff_eq] at h
   simp only [ByteArray.mk.injEq]
   exact Array.toList_inj.1 h
  rw [this]; exact ht
 ·exact fun h => ⟨s, h, by simp⟩
def A9 (s : SSta) : List ByteArray := s.buses ++ (s.lines.map SLine.name ++ (s.srcs.map SSrc.name ++ s.bays.map SBay.name))
end Go.Eb
namespace Go.Eb
open Go.RowKit
theorem Dd {a b : ByteArray} : isT a b = true ↔ a = b := by
 show (a.toList == b.toList) = true ↔ _
 rw [AjP, Vl]
theorem V7 (a : ByteArray) : isT a a = true := Dd.2 rfl
theorem Qu (a b : ByteArray) : isT a b = isT b a := by
 rw [Bool.eq_iff_iff, Dd, Dd]
 exact ⟨fun h => h.symm, fun h => h.symm⟩
theorem Ey {α : Type} (p : α -> Bool) (d : α) : ∀ (l : List α) (i : Nat), (idxP p i l = -1 /\ ∀ x ∈ l, p x = false) \/ ∃ k, k < l.length /\ idxP p i l = ((i + k : Nat) : Int) /\ p (l.getD k d) = true /\ ∀ j, j < k -> p (l.getD j d) = false
 | [], i => .inl ⟨rfl, fun x h => by cases h⟩
 | x :: t, i => by
  cases hp : p x with
  | true => exact .inr ⟨0, by simp, by simp [idxP, hp], by simpa using hp, fun j h => by omega⟩
  | false =>
   rcases Ey p d t (i + 1) with ⟨h1, h2⟩ | ⟨k, hk, h1, h2, h3⟩
   ·refine .inl ⟨by simp [idxP, hp, h1], fun y hy => ?_⟩
    rcases List.mem_cons.1 hy with rfl | hy
    ·exact hp
    ·exact h2 y hy
   ·refine .inr ⟨k + 1, by simpa using hk, ?_, by simpa using h2, fun j hj => ?_⟩
    ·simp only [idxP, hp, cond_false, h1]
     congr 1; omega
    ·cases j with
     | zero => simpa using hp
     | succ j => simpa using h3 j (by omega)
theorem De {α : Type} {p : α -> Bool} (d : α) {l : List α} (h : 0 <= idxP p 0 l) : ∃ k, k < l.length /\ idxP p 0 l = (k : Int) /\ p (l.getD k d) = true /\ ∀ j, j < k -> p (l.getD j d) = false := by
 rcases Ey p d l 0 with ⟨h1, _⟩ | ⟨k, hk, h1, h2, h3⟩
 ·rw [h1] at h; exact absurd h (by decide)
 ·exact ⟨k, hk, by rw [h1]; congr 1; omega, h2, h3⟩
theorem Ahg {α : Type} (p : α -> Bool) (d : α) {l : List α} {k : Nat} (hk : k < l.length) (h : p (l.getD k d) = true) (hf : ∀ j, j < k -> p (l.getD j d) = false) : idxP p 0 l = (k : Int) := by
 rcases Ey p d l 0 with ⟨_, h2⟩ | ⟨j, hj, h1, h2, h3⟩
 ·have : l.getD k d ∈ l := by simp [List.getD, hk]
  rw [h2 _ this] at h; cases h
 ·rw [h1]
  have : j = k := by
   rcases Nat.lt_trichotomy j k with h' | h' | h'
   ·rw [hf j h'] at h2; cases h2
   ·exact h'
   ·rw [h3 k h'] at h; cases h
  rw [this]; congr 1; omega
theorem A3 {α : Type} {l : List α} {k : Nat} (d : α) (h : k < l.length) : l.getD k d ∈ l := by simp [List.getD, h]
def devA (acc : MV) (i : Nat) : List SRel -> List (Value × Value)
 | [] => acc
 | r :: t => devA (bif !(A2 acc (.string r.name)).isSome then (.string r.name, .int .i64 i) :: acc else acc) (i + 1) t
theorem Z6 (a b : ByteArray) : E9 (.string a) (.string b) = isT a b := by
 show (a.data.toList == b.data.toList) = (a.toList == b.toList)
 rw [ByteArray.toList_eq, ByteArray.toList_eq]
theorem Pu (n : ByteArray) : ∀ (l : List SRel) (acc : MV) (i : Nat), A2 (devA acc i l) (.string n) = match A2 acc (.string n) with
  | some v => some v
  | none => bif decide (idxP (fun r : SRel => isT r.name n) i l < 0) then none else some (.int .i64 (idxP (fun r : SRel => isT r.name n) i l))
 | [], acc, i => by
  show A2 acc (.string n) = _
  cases A2 acc (.string n) <;> rfl
 | r :: t, acc, i => by
  show A2 (devA _ (i + 1) t) (.string n) = _
  rw [Pu n t]
  cases hn : isT r.name n with
  | true =>
   have e : r.name = n := Dd.1 hn
   simp only [idxP, hn, cond_true, e]
   cases h : A2 acc (.string n) with
   | some v => simp [h]
   | none =>
    simp only [Option.isSome_none, Bool.not_false, cond_true, A2, Z6, V7]
    rw [decide_eq_false (by omega)]; rfl
  | false =>
   have hn' : isT n r.name = false := by rw [Qu]; exact hn
   simp only [idxP, hn, cond_false]
   cases h2 : (A2 acc (.string r.name)).isSome with
   | true => rfl
   | false => simp only [Bool.not_false, cond_true, A2, Z6, hn', cond_false]
theorem Acf (l : List SRel) (n : ByteArray) : A2 (devA [] 0 l) (.string n) = bif decide (Cf l n < 0) then none else some (.int .i64 (Cf l n)) := Pu n l [] 0
theorem P9 (rels : List SRel) : ∀ (l : List SRel) (i : Nat), (C4 rels i l).2 = 0 -> ∀ k, k < l.length -> D2 rels ((i + k : Nat) : Int) (l.getD k rel0) = 0
 | [], i, _, k, h => by simp at h
 | r :: t, i, h, k, hk => by
  unfold C4 at h
  cases he : (D2 rels i r != 0) with
  | true => rw [he] at h; have h : D2 rels i r = 0 := h; rw [h] at he; cases he
  | false =>
   have e0 : D2 rels i r = 0 := by simpa using he
   rw [he] at h
   cases k with
   | zero => exact e0
   | succ k =>
    have := P9 rels t (i + 1) h k (by simpa using hk)
    rw [show i + (k + 1) = i + 1 + k by omega]
    exact this
theorem Hq {rels : List SRel} {i : Int} {r : SRel} (h : D2 rels i r = 0) : D6 r = 0 /\ Dy rels i r.subs = 0 := by
 unfold D2 at h
 cases he : (D6 r != 0) with
 | true => rw [he] at h; have h : D6 r = 0 := h; rw [h] at he; cases he
 | false => rw [he] at h; exact ⟨by simpa using he, h⟩
theorem Rj {rels : List SRel} {i : Int} : ∀ {l : List SSub}, Dy rels i l = 0 -> ∀ x ∈ l, (Br rels i x).err = 0
 | [], _, x, h => by cases h
 | y :: t, h, x, hx => by
  unfold Dy at h
  cases he : ((Br rels i y).err != 0) with
  | true => rw [he] at h; have h : (Br rels i y).err = 0 := h; rw [h] at he; cases he
  | false =>
   rw [he] at h
   rcases List.mem_cons.1 hx with rfl | hx
   ·simpa using he
   ·exact Rj (l := t) h x hx
theorem Vz {r : SRel} (h : D6 r = 0) : Cp (outS r) r.sets = 0 /\ D4 r r.pubs = 0 := by
 unfold D6 at h
 cases h1 : repS [] (outS r ++ inS r) with
 | true => rw [h1] at h; cases h
 | false =>
  rw [h1] at h
  cases he : (Cp (outS r) r.sets != 0) with
  | true => rw [he] at h; have h : Cp (outS r) r.sets = 0 := h; rw [h] at he; cases he
  | false => rw [he] at h; exact ⟨by simpa using he, h⟩
theorem Lz {K : List ByteArray} : ∀ {l seen : List ByteArray}, D0 K seen l = 0 -> ∀ x ∈ l, inB K x = true
 | [], _, _, x, h => by cases h
 | y :: t, seen, h, x, hx => by
  unfold D0 at h
  cases h1 : inB K y with
  | false => rw [h1] at h; cases h
  | true =>
   rw [h1] at h
   cases h2 : inB seen y with
   | true => rw [h2] at h; cases h
   | false =>
    rw [h2] at h
    rcases List.mem_cons.1 hx with rfl | hx
    ·exact h1
    ·exact Lz (l := t) h x hx
theorem Rl {K : List ByteArray} : ∀ {l : List SSet}, Cp K l = 0 -> ∀ s ∈ l, ∀ x ∈ s.sigs, inB K x = true
 | [], _, x, h => by cases h
 | y :: t, h, s, hs => by
  unfold Cp at h
  cases he : (D0 K [] y.sigs != 0) with
  | true => rw [he] at h; have h : D0 K [] y.sigs = 0 := h; rw [h] at he; cases he
  | false =>
   rw [he] at h
   rcases List.mem_cons.1 hs with rfl | hs
   ·exact Lz (by simpa using he)
   ·exact Rl (l := t) h s hs
theorem Rs {r : SRel} : ∀ {l : List SPub}, D4 r l = 0 -> ∀ p ∈ l, 0 <= A0 r p.set
 | [], _, x, h => by cases h
 | y :: t, h, p, hp => by
  unfold D4 at h
  cases he : decide (A0 r y.set < 0) with
  | true => rw [he] at h; cases h
  | false =>
   rw [he] at h
   rcases List.mem_cons.1 hp with rfl | hp
   ·have := of_decide_eq_false he; omega
   ·exact Rs (l := t) h p hp
structure Found (rels : List SRel) (of : Int) (x : SSub) (d st it : Nat) : Prop where
 hd : d < rels.length
 hdi : Cf rels x.dev = d
 hdn : (rels.getD d rel0).name = x.dev
 hs : st < (rels.getD d rel0).sets.length
 hsi : A0 (rels.getD d rel0) x.set = st
 hsn : ((rels.getD d rel0).sets.getD st set0).name = x.set
 hp : ∃ p ∈ (rels.getD d rel0).pubs, p.set = x.set
 hi : it < ((rels.getD d rel0).sets.getD st set0).sigs.length
 hin : ((rels.getD d rel0).sets.getD st set0).sigs.getD it e0 = x.sig
 he : Br rels of x = ⟨d, st, it, 0⟩
theorem Yc {r : SRel} {dev : Int} {x : SSub} (h : (Yd r dev x).err = 0) : ∃ st it : Nat, st < r.sets.length /\ A0 r x.set = st /\ (r.sets.getD st set0).name = x.set /\ (∃ p ∈ r.pubs, p.set = x.set) /\
  it < (r.sets.getD st set0).sigs.length /\ (r.sets.getD st set0).sigs.getD it e0 = x.sig /\ Yd r dev x = ⟨dev, st, it, 0⟩ := by
 unfold Yd at h ⊢
 cases h3 : decide (A0 r x.set < 0) with
 | true => rw [h3] at h; cases h
 | false =>
  rw [h3] at h
  have h3' : 0 <= A0 r x.set := by have := of_decide_eq_false h3; omega
  obtain ⟨st, hs, hsi, hsn, _⟩ := De set0 h3'
  have hsi : A0 r x.set = st := hsi
  have e2 : r.sets.getD (A0 r x.set).toNat set0 = r.sets.getD st set0 := by rw [hsi]; rfl
  rw [e2] at h ⊢
  cases h4 : (r.pubs.any fun p => isT p.set x.set) with
  | false => rw [h4] at h; cases h
  | true =>
   rw [h4] at h
   cases h5 : decide (Bl (r.sets.getD st set0).sigs x.sig < 0) with
   | true => rw [h5] at h; cases h
   | false =>
    have h5' : 0 <= Bl (r.sets.getD st set0).sigs x.sig := by have := of_decide_eq_false h5; omega
    obtain ⟨it, hi, hii, hin, _⟩ := De e0 h5'
    have hii : Bl (r.sets.getD st set0).sigs x.sig = it := hii
    obtain ⟨p, hp, hpe⟩ := List.any_eq_true.1 h4
    exact ⟨st, it, hs, hsi, Dd.1 hsn, ⟨p, hp, Dd.1 hpe⟩, hi, Dd.1 hin, by rw [hsi, hii]; rfl⟩
theorem Abr {rels : List SRel} {of : Int} {x : SSub} (h : (Br rels of x).err = 0) : ∃ d st it, Found rels of x d st it := by
 rw [show Br rels of x = Gg rels of (Cf rels x.dev) x from rfl] at h
 have hU : Br rels of x = Gg rels of (Cf rels x.dev) x := rfl
 unfold Gg at h hU
 cases h1 : decide (Cf rels x.dev < 0) with
 | true => rw [h1] at h; cases h
 | false =>
  rw [h1] at h hU
  have h1' : 0 <= Cf rels x.dev := by have := of_decide_eq_false h1; omega
  obtain ⟨d, hd, hdi, hdn, _⟩ := De rel0 h1'
  have hdi : Cf rels x.dev = d := hdi
  rw [hdi] at h hU
  cases h2 : ((d : Int) == of) with
  | true => rw [h2] at h; cases h
  | false =>
   rw [h2] at h hU
   obtain ⟨st, it, a1, a2, a3, a4, a5, a6, a7⟩ := Yc h
   exact ⟨d, st, it, hd, hdi, Dd.1 hdn, a1, a2, a3, a4, a5, a6, hU.trans a7⟩
def offs (l : List SRel) : Nat -> Nat
 | 0 => 0
 | i + 1 => offs l i + (l.getD i rel0).pubs.length
theorem Jm (r : SRel) (t : List SRel) : ∀ k, offs (r :: t) (k + 1) = r.pubs.length + offs t k
 | 0 => by simp [offs]
 | k + 1 => by
  have := Jm r t k
  rw [show offs (r :: t) (k + 1 + 1) = offs (r :: t) (k + 1) + ((r :: t).getD (k + 1) rel0).pubs.length from rfl, this]
  show _ = r.pubs.length + (offs t k + (t.getD k rel0).pubs.length)
  simp only [List.getD_cons_succ]
  omega
theorem Aar : ∀ (l : List SRel) (i k j : Nat), k < l.length -> j < (l.getD k rel0).pubs.length ->
  offs l k + j < (pbls i l).length /\ (pbls i l).getD (offs l k + j) pbl0 = Be (i + k) (l.getD k rel0) ((l.getD k rel0).pubs.getD j pub0)
 | [], i, k, j, h, _ => by simp at h
 | r :: t, i, 0, j, _, hj => by
  have hj : j < r.pubs.length := hj
  have hl : j < (Bc i r).length := by simpa [Bc] using hj
  show 0 + j < (Bc i r ++ pbls (i + 1) t).length /\ (Bc i r ++ pbls (i + 1) t).getD (0 + j) pbl0 = Be (i + 0) r (r.pubs.getD j pub0)
  rw [Nat.zero_add, List.length_append]
  refine ⟨by omega, ?_⟩
  rw [List.getD_eq_getElem?_getD, List.getElem?_append_left hl]
  simp [Bc, hj]
 | r :: t, i, k + 1, j, h, hj => by
  obtain ⟨h1, h2⟩ := Aar t (i + 1) k j (by simpa using h) (by simpa using hj)
  have hl : (Bc i r).length = r.pubs.length := by simp [Bc]
  rw [Jm]
  show _ < (Bc i r ++ pbls (i + 1) t).length /\ (Bc i r ++ pbls (i + 1) t).getD _ pbl0 = _
  rw [List.length_append, hl]
  refine ⟨by omega, ?_⟩
  rw [List.getD_eq_getElem?_getD, List.getElem?_append_right (by rw [hl]; omega), hl, show r.pubs.length + offs t k + j - r.pubs.length = offs t k + j by omega, <- List.getD_eq_getElem?_getD, h2]
  rw [show i + 1 + k = i + (k + 1) by omega]
  simp only [List.getD_cons_succ]
theorem Ln (rels : List SRel) (all : List Pbl) : ∀ (l : List SRel) (n i : Nat), (devs rels all n i l).length = l.length
 | [], n, i => rfl
 | r :: t, n, i => by simp [devs, Ln rels all t]
theorem Q3 (rels : List SRel) (all : List Pbl) : ∀ (l : List SRel) (n i k : Nat), k < l.length -> (devs rels all n i l).getD k dev0 = Us rels all (n + offs l k) (i + k) (l.getD k rel0)
 | [], n, i, k, h => by simp at h
 | r :: t, n, i, 0, h => rfl
 | r :: t, n, i, k + 1, h => by
  have := Q3 rels all t (n + r.pubs.length) (i + 1) k (by simpa using h)
  show (Us rels all n i r :: devs rels all (n + r.pubs.length) (i + 1) t).getD (k + 1) dev0 = _
  rw [List.getD_cons_succ, List.getD_cons_succ, this, Jm]
  rw [show n + r.pubs.length + offs t k = n + (r.pubs.length + offs t k) by omega, show i + 1 + k = i + (k + 1) by omega]
end Go.Eb
namespace Go.Eb
open Go.RowKit
theorem Ff {α : Type} {valid : α -> Bool} {key : α -> ByteArray} {rest : α -> Int} : ∀ {l : List α} {seen : List ByteArray}, Ct valid key rest seen l = 0 -> (l.map key).Nodup /\ ∀ x ∈ l, key x ∉ seen
 | [], seen, _ => ⟨by simp, fun x h => by cases h⟩
 | x :: t, seen, h => by
  unfold Ct at h
  cases h1 : valid x with
  | false => rw [h1] at h; cases h
  | true =>
   rw [h1] at h
   cases h2 : inB seen (key x) with
   | true => rw [h2] at h; cases h
   | false =>
    rw [h2] at h
    cases h3 : (rest x != 0) with
    | true => rw [h3] at h; have h : rest x = 0 := h; rw [h] at h3; cases h3
    | false =>
     rw [h3] at h
     obtain ⟨a, b⟩ := Ff (l := t) h
     have hx : key x ∉ seen := fun hm => by rw [(Abd _ _).2 hm] at h2; cases h2
     refine ⟨?_, fun y hy => ?_⟩
     ·rw [List.map_cons, List.nodup_cons]
      refine ⟨fun hm => ?_, a⟩
      obtain ⟨y, hy, e⟩ := List.mem_map.1 hm
      exact b y hy (by simp [e])
     ·rcases List.mem_cons.1 hy with rfl | hy
      ·exact hx
      ·exact fun hm => b y hy (by simp [hm])
structure Uq (r : SRel) : Prop where
 sets : (r.sets.map SSet.name).Nodup
 pubs : (r.pubs.map SPub.set).Nodup
theorem Z4 {r : SRel} {a b : ByteArray} (h : 0 <= A0 r a) (e : A0 r a = A0 r b) : a = b := by
 obtain ⟨k, _, h1, h2, _⟩ := De set0 h
 obtain ⟨j, _, h3, h4, _⟩ := De (p := fun s : SSet => isT s.name b) set0 (l := r.sets) (show 0 <= A0 r b by rw [<- e]; exact h)
 have h1 : A0 r a = k := h1
 have h3 : A0 r b = j := h3
 have : k = j := by omega
 subst this
 rw [<- Dd.1 h2, <- Dd.1 h4]
def pkey (p : Pbl) : Int × Int := (p.rel, p.set)
theorem Pa (i : Int) (r : SRel) : ∀ (l : List SPub), (l.map SPub.set).Nodup -> (∀ p ∈ l, 0 <= A0 r p.set) -> (l.map fun p => (i, A0 r p.set)).Nodup
 | [], _, _ => by simp
 | p :: t, hn, h0 => by
  rw [List.map_cons, List.nodup_cons] at hn ⊢
  refine ⟨fun hm => ?_, Pa i r t hn.2 fun q hq => h0 q (by simp [hq])⟩
  obtain ⟨q, hq, e⟩ := List.mem_map.1 hm
  have e2 : A0 r q.set = A0 r p.set := (Prod.mk.inj e).2
  exact hn.1 (List.mem_map.2 ⟨q, hq, Z4 (h0 q (by simp [hq])) e2⟩)
theorem Kc : ∀ (l : List SRel) (i : Nat), (∀ r ∈ l, Uq r /\ ∀ p ∈ r.pubs, 0 <= A0 r p.set) -> ((pbls i l).map pkey).Nodup /\ ∀ p ∈ pbls i l, (i : Int) <= p.rel
 | [], i, _ => ⟨by simp [pbls], fun p h => by cases h⟩
 | r :: t, i, h => by
  obtain ⟨a, b⟩ := Kc t (i + 1) fun q hq => h q (by simp [hq])
  obtain ⟨hu, h0⟩ := h r (by simp)
  have e : (Bc i r).map pkey = r.pubs.map fun p => ((i : Int), A0 r p.set) := by
   unfold Bc
   rw [List.map_map]
   rfl
  have e1 : ∀ p ∈ Bc i r, p.rel = (i : Int) := fun p hp => by
   unfold Bc at hp
   obtain ⟨q, _, rfl⟩ := List.mem_map.1 hp
   rfl
  show ((Bc i r ++ pbls (i + 1) t).map pkey).Nodup /\ ∀ p ∈ Bc i r ++ pbls (i + 1) t, (i : Int) <= p.rel
  refine ⟨?_, fun p hp => ?_⟩
  ·rw [List.map_append, List.nodup_append]
   refine ⟨by rw [e]; exact Pa i r r.pubs hu.pubs h0, a, fun x hx y hy hxy => ?_⟩
   subst hxy
   obtain ⟨p, hp, rfl⟩ := List.mem_map.1 hx
   obtain ⟨q, hq, e2⟩ := List.mem_map.1 hy
   have h3 : q.rel = p.rel := (Prod.mk.inj e2).1
   have := b q hq
   rw [h3, e1 p hp] at this
   omega
  ·rcases List.mem_append.1 hp with hp | hp
   ·rw [e1 p hp]; exact Int.le_refl _
   ·have := b p hp; omega
theorem V3 {α : Type} {l : List α} (h : l.Nodup) {i j : Nat} (hi : i < l.length) (hj : j < l.length) (hne : i ≠ j) (d : α) : l.getD i d ≠ l.getD j d := by
 have h' := List.pairwise_iff_getElem.1 h
 have ei : l.getD i d = l[i] := by simp [List.getD, hi]
 have ej : l.getD j d = l[j] := by simp [List.getD, hj]
 rw [ei, ej]
 rcases Nat.lt_or_gt_of_ne hne with h1 | h1
 ·exact h' i j hi hj h1
 ·exact (h' j i hj hi h1).symm
theorem Ada {all : List Pbl} (hn : (all.map pkey).Nodup) {n : Nat} (h : n < all.length) : Jj all (all.getD n pbl0).rel (all.getD n pbl0).set = n := by
 refine Ahg _ pbl0 h (by simp) fun j hj => ?_
 have := V3 hn (i := j) (j := n) (by simp; omega) (by simpa using h) (by omega) (pkey pbl0)
 have g : ∀ i, (all.map pkey).getD i (pkey pbl0) = pkey (all.getD i pbl0) := fun i => by simp [List.getD, List.getElem?_map]
 rw [g, g] at this
 cases h1 : ((all.getD j pbl0).rel == (all.getD n pbl0).rel) with
 | false => rfl
 | true =>
  cases h2 : ((all.getD j pbl0).set == (all.getD n pbl0).set) with
  | false => rfl
  | true => exact absurd (Prod.ext (eq_of_beq h1) (eq_of_beq h2)) this
def kPr (r s : Int) : Value := .agg #[.int .i64 r, .int .i64 s]
def Hf : List Pbl -> List (Value × Value)
 | [] => []
 | p :: t => (kPr p.rel p.set, .int .i64 t.length) :: Hf t
def Bu (ps : List Pbl) : MV := Hf ps.reverse
theorem Jn (ps : List Pbl) (p : Pbl) : Bu (ps ++ [p]) = (kPr p.rel p.set, .int .i64 ps.length) :: Bu ps := by
 unfold Bu
 rw [List.reverse_append]
 simp [Hf]
theorem Vm (a b c d : Int) : E9 (kPr a b) (kPr c d) = (a == c && b == d) := rfl
theorem Vn {a b : Pbl} (h : pkey a ≠ pkey b) : E9 (kPr a.rel a.set) (kPr b.rel b.set) = false := by
 rw [Vm]
 cases h1 : (a.rel == b.rel) with
 | false => rfl
 | true =>
  cases h2 : (a.set == b.set) with
  | false => rfl
  | true => exact absurd (Prod.ext (eq_of_beq h1) (eq_of_beq h2)) h
theorem Sq : ∀ (q : List Pbl) (p : Pbl), pkey p ∉ q.map pkey -> A2 (Hf q) (kPr p.rel p.set) = none
 | [], _, _ => rfl
 | a :: t, p, h => by
  rw [List.map_cons, List.mem_cons, not_or] at h
  show (bif E9 _ _ then _ else _) = _
  rw [Vn h.1]
  exact Sq t p h.2
theorem Sp : ∀ (q : List Pbl), (q.map pkey).Nodup -> ∀ n, n < q.length -> A2 (Hf q) (kPr (q.getD n pbl0).rel (q.getD n pbl0).set) = some (.int .i64 ((q.length - 1 - n : Nat) : Int))
 | [], _, n, h => by simp at h
 | a :: t, hn, 0, _ => by
  show (bif E9 (kPr a.rel a.set) (kPr a.rel a.set) then _ else _) = _
  rw [Vm]
  simp
 | a :: t, hn, n + 1, h => by
  rw [List.map_cons, List.nodup_cons] at hn
  have hlt : n < t.length := by simpa using h
  rw [List.getD_cons_succ]
  show (bif E9 _ _ then _ else _) = _
  rw [Vn (fun e => hn.1 (by rw [<- e]; exact List.mem_map.2 ⟨_, A3 pbl0 hlt, rfl⟩))]
  rw [cond_false, Sp t hn.2 n hlt]
  congr 3
  simp; omega
theorem Wk : ∀ (q : List Pbl), (q.map pkey).Nodup -> dlen (Hf q) = q.length
 | [], _ => rfl
 | a :: t, hn => by
  rw [List.map_cons, List.nodup_cons] at hn
  show (match A2 (Hf t) (kPr a.rel a.set) with | some _ => dlen (Hf t) | none => dlen (Hf t) + 1) = _
  rw [Sq t a hn.1, Wk t hn.2]
  rfl
theorem R3 {α : Type} {l : List α} (h : l.Nodup) : l.reverse.Nodup := by
 unfold List.Nodup at h ⊢
 rw [List.pairwise_reverse]
 exact h.imp fun a => Ne.symm a
theorem Ur {ps : List Pbl} (h : (ps.map pkey).Nodup) : dlen (Bu ps) = ps.length := by
 unfold Bu
 rw [Wk _ (by rw [List.map_reverse]; exact R3 h), List.length_reverse]
theorem AdS {ps : List Pbl} (h : (ps.map pkey).Nodup) {n : Nat} (hn : n < ps.length) : A2 (Bu ps) (kPr (ps.getD n pbl0).rel (ps.getD n pbl0).set) = some (.int .i64 n) := by
 have := Sp ps.reverse (by rw [List.map_reverse]; exact R3 h) (ps.length - 1 - n) (by rw [List.length_reverse]; omega)
 have e : ps.reverse.getD (ps.length - 1 - n) pbl0 = ps.getD n pbl0 := by
  rw [List.getD_eq_getElem?_getD, List.getElem?_reverse (by omega), List.getD_eq_getElem?_getD]
  congr 2; omega
 rw [e, List.length_reverse] at this
 rw [show Bu ps = Hf ps.reverse from rfl, this]
 congr 3; omega
theorem Ado {α β : Type} (f : α -> β) {l : List α} {i : Nat} (h : i < l.length) (d : β) (d' : α) : (l.map f).getD i d = f (l.getD i d') := by
 simp [List.getD, h]
structure InOk (rels : List SRel) (i : Int) (x : SSub) (n d it o : Nat) : Prop where
 hn : n < (pbls 0 rels).length
 hx : Jj (pbls 0 rels) (Br rels i x).rel (Br rels i x).set = n
 hd : d < rels.length
 hr : ((pbls 0 rels).getD n pbl0).rel = d
 hs : ((pbls 0 rels).getD n pbl0).set = (Br rels i x).set
 hf : (Br rels i x).rel = d
 hnm : (rels.getD d rel0).name = x.dev
 hit : (Br rels i x).item = it
 hil : it < ((pbls 0 rels).getD n pbl0).sigs.length
 ho : o < (outS (rels.getD d rel0)).length
 hso : ((pbls 0 rels).getD n pbl0).sigs.getD it 0 = o
 hon : (outS (rels.getD d rel0)).getD o e0 = x.sig
theorem Yr {rels : List SRel} (h : (C4 rels 0 rels).2 = 0) (hu : ∀ r ∈ rels, Uq r) : ∀ r ∈ rels, Uq r /\ ∀ p ∈ r.pubs, 0 <= A0 r p.set := fun r hr => by
 obtain ⟨k, hk, rfl⟩ := List.getElem_of_mem hr
 have h1 := P9 rels rels 0 h k hk
 have e : rels.getD k rel0 = rels[k] := by simp [List.getD, hk]
 rw [e] at h1
 exact ⟨hu _ hr, Rs (Vz (Hq h1).1).2⟩
theorem AiW {rels : List SRel} (h : (C4 rels 0 rels).2 = 0) (hu : ∀ r ∈ rels, Uq r) {i : Nat} (hi : i < rels.length) {x : SSub} (hx : x ∈ (rels.getD i rel0).subs) : ∃ n d it o, InOk rels i x n d it o := by
 have h1 := P9 rels rels 0 h i hi
 rw [Nat.zero_add] at h1
 obtain ⟨d, st, it, F⟩ := Abr (Rj (Hq h1).2 x hx)
 have hN := (Kc rels 0 (Yr h hu)).1
 have hd1 := P9 rels rels 0 h d F.hd
 obtain ⟨p, hp, hps⟩ := F.hp
 obtain ⟨j, hj, hpj⟩ := List.getElem_of_mem hp
 have hpj' : (rels.getD d rel0).pubs.getD j pub0 = p := by
  rw [List.getD_eq_getElem?_getD, List.getElem?_eq_getElem hj, hpj]; rfl
 obtain ⟨g1, g2⟩ := Aar rels 0 d j F.hd hj
 rw [hpj', Nat.zero_add] at g2
 have e1 : ((pbls 0 rels).getD (offs rels d + j) pbl0).rel = d := by rw [g2]; rfl
 have e2 : ((pbls 0 rels).getD (offs rels d + j) pbl0).set = st := by
  rw [g2]
  show A0 _ p.set = _
  rw [hps]; exact F.hsi
 have e3 : ((pbls 0 rels).getD (offs rels d + j) pbl0).sigs = ((rels.getD d rel0).sets.getD st set0).sigs.map (Bl (outS (rels.getD d rel0))) := by
  rw [g2]
  show ((rels.getD d rel0).sets.getD (A0 (rels.getD d rel0) p.set).toNat set0).sigs.map _ = _
  rw [hps, F.hsi, Int.toNat_natCast]
 have hk : inB (outS (rels.getD d rel0)) x.sig = true := by
  have := Rl (Vz (Hq hd1).1).1 _ (A3 set0 F.hs) _ (A3 e0 F.hi)
  rwa [F.hin] at this
 have h0 : 0 <= Bl (outS (rels.getD d rel0)) x.sig := by
  rcases Ey (fun y : ByteArray => isT y x.sig) e0 (outS (rels.getD d rel0)) 0 with ⟨_, h2⟩ | ⟨k, _, h2, _⟩
  ·have := h2 x.sig ((Abd _ _).1 hk)
   rw [V7] at this; cases this
  ·rw [show Bl (outS (rels.getD d rel0)) x.sig = _ from h2]; omega
 obtain ⟨o, ho, hoe, hon, _⟩ := De e0 h0
 refine ⟨offs rels d + j, d, it, o, g1, ?_, F.hd, e1, by rw [e2, F.he], by rw [F.he], F.hdn, by rw [F.he], ?_, ho, ?_, Dd.1 hon⟩
 ·have := Ada hN g1
  rw [e1, e2] at this
  rw [F.he]; exact this
 ·rw [e3, List.length_map]; exact F.hi
 ·rw [e3]
  rw [Ado _ F.hi 0 e0, F.hin]; exact hoe
end Go.Eb
namespace Go.Proofs.YtbpndheehcbldaaGreatDoor.st
open Go.RowKit Go.Eb
def AjJ := A4 [(4, ⟨[0, 16, 17], []⟩)]
def L15 (s : ByteArray) (g m : Nat) (i : Int) := LK prog Orc.nil AjJ 0 g f65 4 m ⟨frm [(0, vS s), (16, vI s.size), (17, vI i)] 0 f65.ntmps, [], 0⟩
theorem ev15 (s : ByteArray) (g : Nat) : Al prog Orc.nil AjJ g f65 (Ad f65) [vS s] [] =
 (bif (↑(ByteArray.size s) : Int) == 0 then leB false else (bif decide ((↑(ByteArray.size s) : Int) > 12) then leB false else L15 s g g 0)) := by kernel_rfl
theorem st15 (s : ByteArray) (g m : Nat) (i : Int) : L15 s g (m + 1) i =
 (bif decide (i < (↑(ByteArray.size s) : Int)) then (bif decide (0 <= i) && decide (i < (↑(ByteArray.size s) : Int)) then (bif decide ((↑(UInt8.toNat ((Array.toList (ByteArray.data
 s)).getD i.toNat 0)) : Int) >= 65) then (bif decide ((↑(UInt8.toNat ((Array.toList (ByteArray.data s)).getD i.toNat 0)) : Int) <= 90) then (bif decide ((↑(UInt8.toNat ((Array.toList
 (ByteArray.data s)).getD i.toNat 0)) : Int) >= 48) then (bif decide ((↑(UInt8.toNat ((Array.toList (ByteArray.data s)).getD i.toNat 0)) : Int) <= 57) then L15 s g m (IntKind.wrap
 .i64 (i + 1)) else L15 s g m (IntKind.wrap IntKind.i64 (i + 1))) else L15 s g m (IntKind.wrap .i64 (i + 1))) else (bif decide ((↑(UInt8.toNat ((Array.toList (ByteArray.data
 s)).getD i.toNat 0)) : Int) >= 97) then (bif decide ((↑(UInt8.toNat ((Array.toList (ByteArray.data s)).getD i.toNat 0)) : Int) >= 48) then (bif decide ((↑(UInt8.toNat ((Array.toList
 (ByteArray.data s)).getD i.toNat 0)) : Int) <= 57) then (bif !decide ((↑(UInt8.toNat ((Array.toList (ByteArray.data s)).getD i.toNat 0)) : Int) <= 122) then (bif i == 0 then leB
 false else L15 s g m (IntKind.wrap .i64 (i + 1))) else L15 s g m (IntKind.wrap .i64 (i + 1))) else (bif !decide ((↑(UInt8.toNat ((Array.toList (ByteArray.data s)).getD i.toNat 0))
 : Int) <= 122) then (bif i == 0 then leB false else (bif !(↑(UInt8.toNat ((Array.toList (ByteArray.data s)).getD i.toNat 0)) : Int) == 95 then leB false else L15 s g m (IntKind.wrap
 IntKind.i64 (i + 1)))) else L15 s g m (IntKind.wrap .i64 (i + 1)))) else (bif !decide ((↑(UInt8.toNat ((Array.toList (ByteArray.data s)).getD i.toNat 0)) : Int) <= 122) then (bif i
 == 0 then leB false else (bif !(↑(UInt8.toNat ((Array.toList (ByteArray.data s)).getD i.toNat 0)) : Int) == 95 then leB false else L15 s g m (IntKind.wrap .i64 (i + 1)))) else L15
 s g m (IntKind.wrap .i64 (i + 1)))) else (bif decide ((↑(UInt8.toNat ((Array.toList (ByteArray.data s)).getD i.toNat 0)) : Int) >= 48) then (bif decide ((↑(UInt8.toNat
 ((Array.toList (ByteArray.data s)).getD i.toNat 0)) : Int) <= 57) then (bif i == 0 then leB false else L15 s g m (IntKind.wrap .i64 (i + 1))) else (bif i == 0 then leB false else
 (bif !(↑(UInt8.toNat ((Array.toList (ByteArray.data s)).getD i.toNat 0)) : Int) == 95 then leB false else L15 s g m (IntKind.wrap .i64 (i + 1))))) else (bif i == 0 then leB false
 else (bif !(↑(UInt8.toNat ((Array.toList (ByteArray.data s)).getD i.toNat 0)) : Int) == 95 then leB false else L15 s g m (IntKind.wrap .i64 (i + 1))))))) else (bif decide
 ((↑(UInt8.toNat ((Array.toList (ByteArray.data s)).getD i.toNat 0)) : Int) >= 97) then (bif decide ((↑(UInt8.toNat ((Array.toList (ByteArray.data s)).getD i.toNat 0)) : Int) >= 48)
 then (bif decide ((↑(UInt8.toNat ((Array.toList (ByteArray.data s)).getD i.toNat 0)) : Int) <= 57) then (bif !decide ((↑(UInt8.toNat ((Array.toList (ByteArray.data s)).getD i.toNat
 (0 : UInt8))) : Int) <= 122) then (bif i == 0 then leB false else L15 s g m (IntKind.wrap .i64 (i + 1))) else L15 s g m (IntKind.wrap .i64 (i + 1))) else (bif !decide
 ((↑(UInt8.toNat ((Array.toList (ByteArray.data s)).getD i.toNat 0)) : Int) <= 122) then (bif i == 0 then leB false else (bif !(↑(UInt8.toNat ((Array.toList (ByteArray.data s)).getD
 i.toNat (0 : UInt8))) : Int) == 95 then leB false else L15 s g m (IntKind.wrap .i64 (i + 1)))) else L15 s g m (IntKind.wrap IntKind.i64 (i + 1)))) else (bif !decide ((↑(UInt8.toNat
 ((Array.toList (ByteArray.data s)).getD i.toNat 0)) : Int) <= 122) then (bif i == 0 then leB false else (bif !(↑(UInt8.toNat ((Array.toList (ByteArray.data s)).getD i.toNat 0)) :
 Int) == 95 then leB false else L15 s g m (IntKind.wrap .i64 (i + 1)))) else L15 s g m (IntKind.wrap .i64 (i + 1)))) else (bif decide ((↑(UInt8.toNat ((Array.toList (ByteArray.data
 s)).getD i.toNat 0)) : Int) >= 48) then (bif decide ((↑(UInt8.toNat ((Array.toList (ByteArray.data s)).getD i.toNat 0)) : Int) <= 57) then (bif i == 0 then leB false else L15 s g m
 (IntKind.wrap .i64 (i + 1))) else (bif i == 0 then leB false else (bif !(↑(UInt8.toNat ((Array.toList (ByteArray.data s)).getD i.toNat 0)) : Int) == 95 then leB false else L15 s g
 m (IntKind.wrap IntKind.i64 (i + 1))))) else (bif i == 0 then leB false else (bif !(↑(UInt8.toNat ((Array.toList (ByteArray.data s)).getD i.toNat 0)) : Int) == 95 then leB false
 else L15 s g m (IntKind.wrap .i64 (i + 1))))))) else none) else leB true) := by kernel_rfl
def AhS := A4 [(4, ⟨[0, 3], []⟩)]
def L16 (s : ByteArray) (g m : Nat) (i : Int) := LK prog Orc.nil AhS 0 g f57 4 m ⟨frm [(0, vS s), (3, vI i)] 0 f57.ntmps, [], 0⟩
theorem ev16 (s : ByteArray) (g : Nat) : Al prog Orc.nil AhS g f57 (Ad f57) [vS s] [] =
 (bif decide ((↑(ByteArray.size s) : Int) < 1) then leB false else (bif decide ((↑(ByteArray.size s) : Int) > 12) then leB false else L16 s g g 0)) := by kernel_rfl
theorem st16 (s : ByteArray) (g m : Nat) (i : Int) : L16 s g (m + 1) i =
 (bif decide (i < (↑(ByteArray.size s) : Int)) then (bif decide (0 <= i) && decide (i < (↑(ByteArray.size s) : Int)) then (bif decide ((↑(UInt8.toNat ((Array.toList (ByteArray.data
 s)).getD i.toNat 0)) : Int) >= 97) then (bif decide ((↑(UInt8.toNat ((Array.toList (ByteArray.data s)).getD i.toNat 0)) : Int) <= 122) then L16 s g m (IntKind.wrap .i64 (i + 1)) else
 (bif decide ((↑(UInt8.toNat ((Array.toList (ByteArray.data s)).getD i.toNat 0)) : Int) >= 65) then (bif !decide ((↑(UInt8.toNat ((Array.toList (ByteArray.data s)).getD i.toNat 0)) :
 Int) <= 90) then (bif i == 0 then leB false else (bif decide ((↑(UInt8.toNat ((Array.toList (ByteArray.data s)).getD i.toNat 0)) : Int) < 48) then (bif (↑(UInt8.toNat ((Array.toList
 (ByteArray.data s)).getD i.toNat 0)) : Int) != 95 then leB false else L16 s g m (IntKind.wrap .i64 (i + 1))) else (bif decide ((↑(UInt8.toNat ((Array.toList (ByteArray.data
 s)).getD i.toNat 0)) : Int) > 57) then (bif (↑(UInt8.toNat ((Array.toList (ByteArray.data s)).getD i.toNat 0)) : Int) != 95 then leB false else L16 s g m (IntKind.wrap .i64 (i +
 1))) else L16 s g m (IntKind.wrap .i64 (i + 1))))) else L16 s g m (IntKind.wrap .i64 (i + 1))) else (bif i == 0 then leB false else (bif decide ((↑(UInt8.toNat ((Array.toList
 (ByteArray.data s)).getD i.toNat 0)) : Int) < 48) then (bif (↑(UInt8.toNat ((Array.toList (ByteArray.data s)).getD i.toNat 0)) : Int) != 95 then leB false else L16 s g m
 (IntKind.wrap .i64 (i + 1))) else (bif decide ((↑(UInt8.toNat ((Array.toList (ByteArray.data s)).getD i.toNat 0)) : Int) > 57) then (bif (↑(UInt8.toNat ((Array.toList
 (ByteArray.data s)).getD i.toNat 0)) : Int) != 95 then leB false else L16 s g m (IntKind.wrap .i64 (i + 1))) else L16 s g m (IntKind.wrap .i64 (i + 1))))))) else (bif decide
 ((↑(UInt8.toNat ((Array.toList (ByteArray.data s)).getD i.toNat 0)) : Int) >= 65) then (bif !decide ((↑(UInt8.toNat ((Array.toList (ByteArray.data s)).getD i.toNat 0)) : Int) <= 90)
 then (bif i == 0 then leB false else (bif decide ((↑(UInt8.toNat ((Array.toList (ByteArray.data s)).getD i.toNat 0)) : Int) < 48) then (bif (↑(UInt8.toNat ((Array.toList
 (ByteArray.data s)).getD i.toNat 0)) : Int) != 95 then leB false else L16 s g m (IntKind.wrap .i64 (i + 1))) else (bif decide ((↑(UInt8.toNat ((Array.toList (ByteArray.data
 s)).getD i.toNat 0)) : Int) > 57) then (bif (↑(UInt8.toNat ((Array.toList (ByteArray.data s)).getD i.toNat 0)) : Int) != 95 then leB false else L16 s g m (IntKind.wrap IntKind.i64
 (i + 1))) else L16 s g m (IntKind.wrap .i64 (i + 1))))) else L16 s g m (IntKind.wrap .i64 (i + 1))) else (bif i == 0 then leB false else (bif decide ((↑(UInt8.toNat ((Array.toList
 (ByteArray.data s)).getD i.toNat 0)) : Int) < 48) then (bif (↑(UInt8.toNat ((Array.toList (ByteArray.data s)).getD i.toNat 0)) : Int) != 95 then leB false else L16 s g m
 (IntKind.wrap .i64 (i + 1))) else (bif decide ((↑(UInt8.toNat ((Array.toList (ByteArray.data s)).getD i.toNat 0)) : Int) > 57) then (bif (↑(UInt8.toNat ((Array.toList
 (ByteArray.data s)).getD i.toNat 0)) : Int) != 95 then leB false else L16 s g m (IntKind.wrap .i64 (i + 1))) else L16 s g m (IntKind.wrap .i64 (i + 1))))))) else none) else leB
 true) := by kernel_rfl
def AjF := A4 [(2, ⟨[0, 1, 5], []⟩)]
def L46 (l : List ByteArray) (s : ByteArray) (g m : Nat) (i : Int) := LK prog Orc.nil AjF 0 g f52 2 m ⟨frm [(0, .c (.d (Ab l))), (1, vS s), (5, vI i)] 0 f52.ntmps, [], 0⟩
theorem ev46 (l : List ByteArray) (s : ByteArray) (g : Nat) : Al prog Orc.nil AjF g f52 (Ad f52) [.c (.d (Ab l)), vS s] [] =
 L46 l s g g 0 := by kernel_rfl
theorem st46 (l : List ByteArray) (s : ByteArray) (g m : Nat) (i : Int) : L46 l s g (m + 1) i =
 (bif decide (i < (↑l.length : Int)) then (bif decide (0 <= i) && decide (i < (↑l.length : Int)) then (bif (l.getD i.toNat e0).toList == s.toList then leI i else L46 l s g m
 (IntKind.wrap .i64 (i + 1))) else none) else leI (-1)) := by kernel_rfl
def ann7 := A4 [(4, ⟨[1, 3], []⟩)]
def L7 (s : SSta) (g m : Nat) (i : Int) := LK prog Orc.nil ann7 0 g f19 4 m ⟨frm [(1, .c (.ptr 0 0)), (3, vI i)] 0 f19.ntmps, [(0, .cells ((staC s).map .d) 27)], 1⟩
theorem ev7 (s : SSta) (g : Nat) : Al prog Orc.nil ann7 g f19 (Ad f19) [aSta s] [] =
 (bif decide ((↑s.buses.length : Int) > 8) then leB true else (bif decide ((↑s.lines.length : Int) > 10) then leB true else (bif decide ((↑s.srcs.length : Int) > 8) then leB true
 else (bif decide ((↑s.bays.length : Int) > 20) then leB true else L7 s g g 0)))) := by kernel_rfl
theorem st7 (s : SSta) (g m : Nat) (i : Int) : L7 s g (m + 1) i =
 (bif decide (i < (↑s.bays.length : Int)) then (bif decide (0 <= i) && decide (i < (↑s.bays.length : Int)) then (bif decide ((↑(SBay.links (s.bays.getD i.toNat bay0)).length : Int) >
 6) then leB true else L7 s g m (IntKind.wrap .i64 (i + 1))) else none) else leB false) := by kernel_rfl
end Go.Proofs.YtbpndheehcbldaaGreatDoor.st
namespace Go.Proofs.YtbpndheehcbldaaGreatDoor.st
open Go.RowKit Go.Eb
theorem b15 : f65.body = some (Ad f65) := by kernel_rfl
theorem b16 : f57.body = some (Ad f57) := by kernel_rfl
theorem z0 (k : Nat) : ((k : Int) == 0) = (k == 0) := by cases k <;> rfl
theorem lp15 (s : ByteArray) (g : Nat) (hs : s.size <= 12) : ∀ (m k : Nat), k <= s.size -> s.size - k < m -> L15 s g m k = some (.leaf (vB (nmT k (s.data.toList.drop k)), []))
 | 0, k, _, h => by omega
 | m + 1, k, hk, h => by
  rw [st15]
  by_cases hlt : k < s.size
  ·have hl : k < s.data.toList.length := by simpa using hlt
   have ih := lp15 s g hs m (k + 1) (by omega) (by omega)
   rw [Am (d := 0) hl]
   simp only [lt1 hlt, ge0, tn, Bool.and_self, cond_true, nx hlt (by omega), ih, nmT, Uc, Aav, ge_iff_le, z0, bne]
   generalize s.data.toList.getD k 0 = c
   generalize nmT (k + 1) (s.data.toList.drop (k + 1)) = t
   generalize decide (65 <= (c.toNat : Int)) = a1
   generalize decide ((c.toNat : Int) <= 90) = a2
   generalize decide (97 <= (c.toNat : Int)) = b1
   generalize decide ((c.toNat : Int) <= 122) = b2
   generalize decide (48 <= (c.toNat : Int)) = d1
   generalize decide ((c.toNat : Int) <= 57) = d2
   generalize ((c.toNat : Int) == 95) = e1
   generalize (k == 0) = z
   cases a1 <;> cases a2 <;> cases b1 <;> cases b2 <;> cases d1 <;> cases d2 <;> cases e1 <;> cases z <;> rfl
  ·rw [lt0 hlt, List.drop_of_length_le (by simp; omega)]
   rfl
theorem c15 (s : ByteArray) : CX prog 65 [vS s] [] (vB (Ae s)) [] := by
 refine Ax (Orc.nil_ok _) func65 b15 rfl ((ev15 s (s.size + 1)).trans ?_)
 generalize hg : s.size + 1 = g
 unfold Ae
 cases h0 : ((s.size : Int) == 0) with
 | true => rfl
 | false =>
  cases h1 : decide ((s.size : Int) > 12) with
  | true => rfl
  | false =>
   have hs : s.size <= 12 := by simp at h1; omega
   have := lp15 s g hs g 0 (by omega) (by omega)
   simp only [cond_false, Bool.not_false, Bool.true_and]
   exact this
theorem ltn (x y : Int) : decide (x < y) = !decide (y <= x) := by
 by_cases h : x < y
 ·rw [decide_eq_true h, decide_eq_false (by omega)]; rfl
 ·rw [decide_eq_false h, decide_eq_true (by omega)]; rfl
theorem gtn (x y : Int) : decide (x > y) = !decide (x <= y) := by
 by_cases h : x > y
 ·rw [decide_eq_true h, decide_eq_false (by omega)]; rfl
 ·rw [decide_eq_false h, decide_eq_true (by omega)]; rfl
theorem lt1z (n : Nat) : decide ((n : Int) < 1) = ((n : Int) == 0) := by
 by_cases h : n = 0
 ·subst h; rfl
 ·have h2 : ((n : Int) == 0) = false := beq_eq_false_iff_ne.2 (by omega)
  rw [decide_eq_false (by omega), h2]
theorem lp16 (s : ByteArray) (g : Nat) (hs : s.size <= 12) : ∀ (m k : Nat), k <= s.size -> s.size - k < m -> L16 s g m k = some (.leaf (vB (nmT k (s.data.toList.drop k)), []))
 | 0, k, _, h => by omega
 | m + 1, k, hk, h => by
  rw [st16]
  by_cases hlt : k < s.size
  ·have hl : k < s.data.toList.length := by simpa using hlt
   have ih := lp16 s g hs m (k + 1) (by omega) (by omega)
   rw [Am (d := 0) hl]
   generalize hc : s.data.toList.getD k 0 = c
   have e48 : decide ((c.toNat : Int) < 48) = !decide (48 <= (c.toNat : Int)) := ltn _ _
   have e57 : decide ((c.toNat : Int) > 57) = !decide ((c.toNat : Int) <= 57) := gtn _ _
   simp only [lt1 hlt, ge0, tn, hc, Bool.and_self, cond_true, nx hlt (by omega), ih, nmT, Uc, Aav, e48, e57, z0, bne, ge_iff_le]
   generalize nmT (k + 1) (s.data.toList.drop (k + 1)) = t
   generalize decide (65 <= (c.toNat : Int)) = a1
   generalize decide ((c.toNat : Int) <= 90) = a2
   generalize decide (97 <= (c.toNat : Int)) = b1
   generalize decide ((c.toNat : Int) <= 122) = b2
   generalize decide (48 <= (c.toNat : Int)) = d1
   generalize decide ((c.toNat : Int) <= 57) = d2
   generalize ((c.toNat : Int) == 95) = e1
   generalize (k == 0) = z
   cases a1 <;> cases a2 <;> cases b1 <;> cases b2 <;> cases d1 <;> cases d2 <;> cases e1 <;> cases z <;> rfl
  ·rw [lt0 hlt, List.drop_of_length_le (by simp; omega)]
   rfl
theorem r16 (s : ByteArray) (g : Nat) (hg : s.size < g) : Al prog Orc.nil AhS g f57 (Ad f57) [vS s] [] = some (.leaf (vB (Ae s), [])) := by
 rw [ev16, lt1z]
 unfold Ae
 cases h0 : ((s.size : Int) == 0) with
 | true => rfl
 | false =>
  cases h1 : decide ((s.size : Int) > 12) with
  | true => rfl
  | false =>
   have hs : s.size <= 12 := by simp at h1; omega
   have := lp16 s g hs g 0 (by omega) (by omega)
   simp only [cond_false, Bool.not_false, Bool.true_and]
   exact this
theorem c16 (s : ByteArray) : CX prog 57 [vS s] [] (vB (Ae s)) [] := Ax (Orc.nil_ok _) func57 b16 rfl (r16 s (s.size + 1) (by omega))
end Go.Proofs.YtbpndheehcbldaaGreatDoor.st
namespace Go.Proofs.YtbpndheehcbldaaGreatDoor.tb
open Go.RowKit Go.Eb Go.Proofs.YtbpndheehcbldaaGreatDoor.st
set_option maxRecDepth 100000
structure KPb where
 oko : LB
 ou : List AV -> List ByteArray
 okx : LB
 ix : LI
def oPb (Z : KPb) : Orc := Orc.cons 24 (ansN (fun x => Z.oko x) (fun x => .c (.row 0 1 (Z.ou x).length)) fun x => [(0, .row (Z.ou x).length (fun i => busC ((Z.ou x).getD i e0)) 1 9)])
 (Orc.cons 52 (ansL Z.okx fun x => vI (Z.ix x)) Orc.nil)
def Sz : Ann := A4 [(3, ⟨[4, 1, 3], [(3, 0, 5, 89)]⟩), (7, ⟨[5, 6, 4, 1, 3], [(3, 0, 5, 89)]⟩), (11, ⟨[7, 5, 6, 4, 1, 3, 8], [(3, 0, 5, 89), (7, 4, 1, 3)]⟩), (16, ⟨[7, 8, 5, 6, 4, 1, 3, 9], [(3, 0, 5, 89), (7, 4, 1, 3)]⟩)]
def S8 (Z : KPb) (c : SCfg) (g m : Nat) (n1 : Nat) (f1 : RD) (i4 : Int) := LK prog (oPb Z) Sz 0 g f23 3 m ⟨frm [(1, .c (.ptr 0 0)), (3, .c (.row 1 5 n1)), (4, iA i4)] 0 f23.ntmps, [(0, Blk.cells (List.map C.d (cfgC c)) 30), (1, Blk.row n1 f1 5 89)], 2⟩
def Pz (Z : KPb) (c : SCfg) (g mo m : Nat) (n1 : Nat) (f1 : RD) (i4 : Int) (i6 : Int) := LK2 prog (oPb Z) Sz 0 g f23 3 mo 7 m ⟨frm [(1, .c (.ptr 0 0)), (3, .c (.row 1 5 n1)), (4, iA i4), (5, .c (.ptr 2 0)), (6, iA i6)] 0 f23.ntmps, [(0, Blk.cells (List.map C.d (cfgC c)) 30), (1, Blk.row n1 f1 5 89), (2, Blk.cells (List.map C.d (relC (List.getD (SCfg.rels c) (Int.toNat i4) rel0))) 64)], 3⟩
def Ja (Z : KPb) (c : SCfg) (g mp mo m : Nat) (n1 : Nat) (f1 : RD) (n4 : Nat) (f4 : RD) (i4 : Int) (i6 : Int) (i8 : Int) (x3 : Int) (x3_2 : Int) (x3_3 : Int) (x3_4 : Int) := LK3 prog (oPb Z) Sz (List.length (α := Nat × Blk) []) g f23 3 mp 7 mo 11 m ⟨frm [(1, AV.c (C.ptr 0 0)), (3, AV.c (C.row 1 5 n1)), (4, iA i4), (5, AV.c (C.ptr 2 0)), (6, iA i6), (7, AV.c (C.ptr 3 0)), (8, iA i8)] 0 f23.ntmps, [(0, Blk.cells (List.map C.d (cfgC c)) 30), (1, Blk.row n1 f1 5 89), (2, Blk.cells (List.map C.d (relC (List.getD (SCfg.rels c) (Int.toNat i4) rel0))) 64), (3, Blk.cells [C.d (iD x3), C.d (iD x3_2), C.d (iD x3_3), C.d (iD x3_4), C.row 4 1 n4] 89), (4, Blk.row n4 f4 1 3)], 5⟩
def Nk (Z : KPb) (c : SCfg) (g mq mp mo m : Nat) (n1 : Nat) (f1 : RD) (n4 : Nat) (f4 : RD) (i4 : Int) (i6 : Int) (i8 : Int) (i9 : Int) (x3 : Int) (x3_2 : Int) (x3_3 : Int) (x3_4 : Int) := LK4 prog (oPb Z) Sz (List.length (α := Nat × Blk) []) g f23 3 mq 7 mp 11 mo 16 m ⟨frm [(1, AV.c (C.ptr 0 0)), (3, AV.c (C.row 1 5 n1)), (4, iA i4), (5, AV.c (C.ptr 2 0)), (6, iA i6), (7, AV.c (C.ptr 3 0)), (8, iA i8), (9, iA i9)] 0 f23.ntmps, [(0, Blk.cells (List.map C.d (cfgC c)) 30), (1, Blk.row n1 f1 5 89), (2, Blk.cells (List.map C.d (relC (List.getD (SCfg.rels c) (Int.toNat i4) rel0))) 64), (3, Blk.cells [C.d (iD x3), C.d (iD x3_2), C.d (iD x3_3), C.d (iD x3_4), C.row 4 1 n4] 89), (4, Blk.row n4 f4 1 3)], 5⟩
theorem brpb : f23.body = some (Ad f23) := by kernel_rfl
theorem Aku (Z : KPb) (c : SCfg) (g : Nat) : Al prog (oPb Z) Sz g f23 (Ad f23) [aCfg c] [] =
 S8 Z c g g 0 (fun x => []) 0 := by kernel_rfl
theorem AfZ (Z : KPb) (c : SCfg) (g m : Nat) (n1 : Nat) (f1 : RD) (i4 : Int) : S8 Z c g (m + 1) n1 f1 i4 =
 (bif decide (i4 < (↑c.rels.length : Int)) then (bif decide (0 <= i4) && decide (i4 < (↑c.rels.length : Int)) then Pz Z c g m g n1 f1 i4 0 else none) else some (T.leaf (AV.c (C.row
 (0) (5) n1), [(0, Blk.row n1 f1 (5) (89))]))) := by kernel_rfl
theorem AfY (Z : KPb) (c : SCfg) (g mo m : Nat) (n1 : Nat) (f1 : RD) (i4 : Int) (i6 : Int) : Pz Z c g mo (m + 1) n1 f1 i4 i6 =
 (bif decide (i6 < (↑(SRel.pubs (c.rels.getD i4.toNat rel0)).length : Int)) then (bif decide (0 <= i6) && decide (i6 < (↑(SRel.pubs (c.rels.getD i4.toNat rel0)).length : Int)) then
 (bif decide (0 <= i6) && decide (i6 < (↑(SRel.pubs (c.rels.getD i4.toNat rel0)).length : Int)) then Ja Z c g mo m g n1 f1 0 (fun x => []) i4 i6 0 i4 0 (SPub.fst ((SRel.pubs
 (c.rels.getD i4.toNat rel0)).getD i6.toNat pub0)) (SPub.max ((SRel.pubs (c.rels.getD i4.toNat rel0)).getD i6.toNat pub0)) else none) else none) else S8 Z c g mo n1 f1 (IntKind.wrap
 .i64 (i4 + 1))) := by kernel_rfl
theorem Acz (Z : KPb) (c : SCfg) (g mp mo m : Nat) (n1 : Nat) (f1 : RD) (n4 : Nat) (f4 : RD) (i4 : Int) (i6 : Int) (i8 : Int) (x3 : Int) (x3_2 : Int) (x3_3 : Int) (x3_4 : Int) : Ja Z c g mp mo (m + 1) n1 f1 n4 f4 i4 i6 i8 x3 x3_2 x3_3 x3_4 =
 (bif decide (i8 < (↑(SRel.sets (c.rels.getD i4.toNat rel0)).length : Int)) then (bif decide (0 <= i8) && decide (i8 < (↑(SRel.sets (c.rels.getD i4.toNat rel0)).length : Int)) then
 (bif decide (0 <= i6) && decide (i6 < (↑(SRel.pubs (c.rels.getD i4.toNat rel0)).length : Int)) then (bif !(SSet.name ((SRel.sets (c.rels.getD i4.toNat rel0)).getD i8.toNat
 set0)).toList == (SPub.set ((SRel.pubs (c.rels.getD i4.toNat rel0)).getD i6.toNat pub0)).toList then Ja Z c g mp mo m n1 f1 n4 f4 i4 i6 (IntKind.wrap .i64 (i8 + 1)) x3 x3_2 x3_3
 x3_4 else Nk Z c g mp mo m g n1 f1 n4 f4 i4 i6 i8 0 x3 i8 x3_3 x3_4) else none) else none) else (bif decide ((n1 + 1) * 56 <= 140737488355328) && decide (n1 + 1 <=
 9223372036854775807) then Pz Z c g mp mo (n1 + 1) (appF n1 f1 (Au [iD x3, iD x3_2, iD x3_3, iD x3_4, D.sl 1 n4 f4]
 (4 + 1))) i4 (IntKind.wrap .i64 (i6 + 1)) else none)) := by kernel_rfl
theorem Acy (Z : KPb) (c : SCfg) (g mq mp mo m : Nat) (n1 : Nat) (f1 : RD) (n4 : Nat) (f4 : RD) (i4 : Int) (i6 : Int) (i8 : Int) (i9 : Int) (x3 : Int) (x3_2 : Int) (x3_3 : Int) (x3_4 : Int) : Nk Z c g mq mp mo (m + 1) n1 f1 n4 f4 i4 i6 i8 i9 x3 x3_2 x3_3 x3_4 =
 (bif decide (0 <= i8) && decide (i8 < (↑(SRel.sets (c.rels.getD i4.toNat rel0)).length : Int)) then (bif decide (i9 < (↑(SSet.sigs ((SRel.sets (c.rels.getD i4.toNat rel0)).getD
 i8.toNat set0)).length : Int)) then (bif KPb.oko Z [gA (relC (c.rels.getD i4.toNat rel0))] then (bif decide (0 <= i8) && decide (i8 < (↑(SRel.sets (c.rels.getD
 i4.toNat rel0)).length : Int)) then (bif decide (0 <= i9) && decide (i9 < (↑(SSet.sigs ((SRel.sets (c.rels.getD i4.toNat rel0)).getD i8.toNat set0)).length : Int)) then (bif KPb.okx
 Z [AV.c (C.d (Aa (1) busC e0 (KPb.ou Z [gA (relC (c.rels.getD i4.toNat rel0))]))), AV.c (.d (.v (.string ((SSet.sigs ((SRel.sets (c.rels.getD i4.toNat
 rel0)).getD i8.toNat set0)).getD i9.toNat e0))))] then (bif decide ((n4 + 1) * 8 <= (140737488355328 : Nat)) && decide (n4 + 1 <= 9223372036854775807) then Nk Z c g mq mp mo m n1 f1
 (n4 + 1) (appF n4 f4 (Au [iD (KPb.ix Z [AV.c (C.d (Aa (1) busC e0 (KPb.ou Z [gA (relC (c.rels.getD i4.toNat rel0))]))), AV.c (.d (.v (.string
 ((SSet.sigs ((SRel.sets (c.rels.getD i4.toNat rel0)).getD i8.toNat set0)).getD i9.toNat e0))))])] (0 + 1))) i4 i6 i8 (IntKind.wrap .i64 (i9 + 1)) x3 x3_2 x3_3 x3_4 else none) else
 none) else none) else none) else none) else Ja Z c g mq mp mo n1 f1 n4 f4 i4 i6 (IntKind.wrap .i64 (i8 + 1)) x3 x3_2 x3_3 x3_4) else none) := by kernel_rfl
def Afq : Ann := A4 [(2, ⟨[7, 2, 0, 1], []⟩)]
def S9 (l : List Pbl) (a b : Int) (g m : Nat) (i7 : Int) := LK prog Orc.nil Afq 0 g f26 2 m ⟨frm [(0, .c (.d (Aa 5 pblC pbl0 l))), (1, iA a), (2, iA b), (7, iA i7)] 0 f26.ntmps, [], 0⟩
theorem brnm : f26.body = some (Ad f26) := by kernel_rfl
theorem Akw (l : List Pbl) (a b : Int) (g : Nat) : Al prog Orc.nil Afq g f26 (Ad f26) [.c (.d (D5 l)), vI a, vI b] [] =
 S9 l a b g g 0 := by kernel_rfl
theorem Y7 (l : List Pbl) (a b : Int) (g m : Nat) (i7 : Int) : S9 l a b g (m + 1) i7 =
 (bif decide (i7 < (↑l.length : Int)) then (bif decide (0 <= i7) && decide (i7 < (↑l.length : Int)) then (bif Pbl.rel (l.getD i7.toNat pbl0) == a then (bif decide (0 <= i7) && decide
 (i7 < (↑l.length : Int)) then (bif Pbl.set (l.getD i7.toNat pbl0) == b then leI i7 else S9 l a b g m (IntKind.wrap .i64 (i7 + 1))) else none) else S9 l a b g m (IntKind.wrap .i64
 (i7 + 1))) else none) else leI (-1)) := by kernel_rfl
def Afk : Ann := A4 [(4, ⟨[1, 0, 5], []⟩)]
def W1 (a b : List Int) (g m : Nat) (i5 : Int) := LK prog Orc.nil Afk 0 g f27 4 m ⟨frm [(0, .c (.d (Aa 1 nC (0 : Int) a))), (1, .c (.d (Aa 1 nC (0 : Int) b))), (5, iA i5)] 0 f27.ntmps, [], 0⟩
theorem bsin : f27.body = some (Ad f27) := by kernel_rfl
theorem Ako (a b : List Int) (g : Nat) : Al prog Orc.nil Afk g f27 (Ad f27) [.c (.d (nsD a)), .c (.d (nsD b))] [] =
 (bif (↑a.length : Int) != (↑b.length : Int) then leB false else W1 a b g g 0) := by kernel_rfl
theorem Y2 (a b : List Int) (g m : Nat) (i5 : Int) : W1 a b g (m + 1) i5 =
 (bif decide (i5 < (↑a.length : Int)) then (bif decide (0 <= i5) && decide (i5 < (↑a.length : Int)) then (bif decide (0 <= i5) && decide (i5 < (↑b.length : Int)) then (bif a.getD
 i5.toNat 0 != b.getD i5.toNat 0 then leB false else W1 a b g m (IntKind.wrap .i64 (i5 + 1))) else none) else none) else leB true) := by kernel_rfl
end Go.Proofs.YtbpndheehcbldaaGreatDoor.tb
namespace Go.Proofs.YtbpndheehcbldaaGreatDoor.tb
open Go.RowKit Go.Eb Go.Proofs.YtbpndheehcbldaaGreatDoor.st
set_option maxRecDepth 100000
structure KRC where
 okc : LB
 chk : LI
 okp : LB
 ps : List AV -> List Pbl
 oko : LB
 ou : List AV -> List ByteArray
 okf : LB
 fi : List AV -> Plc
 okn : LB
 nu : LI
abbrev aPl' (p : Plc) : AV := .tup [(true, [.d (dI p.rel), .d (dI p.set), .d (dI p.item)]), (false, [.d (dI p.err)])]
def oRC (Z : KRC) : Orc := Orc.cons 12 (ansG Z.okc fun x => vI (Z.chk x)) (Orc.cons 23 (ansG Z.okp fun x => .c (.d (D5 (Z.ps x)))) (Orc.cons 24 (ansG Z.oko fun x => .c (.d (Ab (Z.ou x))))
 (Orc.cons 25 (ansG Z.okf fun x => aPl' (Z.fi x)) (Orc.cons 26 (ansG Z.okn fun x => vI (Z.nu x)) Orc.nil))))
def Wv : Ann := A4 [(6, ⟨[6, 5, 1, 2], [(5, 1, 3, 88)]⟩), (10, ⟨[7, 6, 5, 1, 2, 8], [(5, 1, 3, 88), (7, 1, 1, 3)]⟩), (15, ⟨[7, 5, 6, 1, 2, 9], [(5, 1, 3, 88), (7, 1, 1, 3), (7, 2, 2, 95)]⟩)]
def Tb (Z : KRC) (c : SCfg) (g m : Nat) (n3 : Nat) (f3 : RD) (i6 : Int) := LK prog (oRC Z) Wv 0 g f10 6 m ⟨frm [(1, .c (.ptr 0 0)), (2, .c (.ptr 1 0)), (5, .c (.ptr 2 0)), (6, iA i6)] 0 f10.ntmps, [(0, Blk.cells (List.map C.d (cfgC c)) 30), (1, Blk.cells [.d (.v (.slice none 0 0)), .d (.v (.slice none 0 0))] 43), (2, Blk.cells [C.d (Aa 5 pblC pbl0 (KRC.ps Z [gA (cfgC c)])), C.row 3 3 n3] 43), (3, Blk.row n3 f3 3 88)], 4⟩
def Kx (Z : KRC) (c : SCfg) (g mo m : Nat) (n3 : Nat) (f3 : RD) (n5 : Nat) (f5 : RD) (i6 : Int) (i8 : Int) := LK2 prog (oRC Z) Wv 0 g f10 6 mo 10 m ⟨frm [(1, .c (.ptr 0 0)), (2, .c (.ptr 1 0)), (5, .c (.ptr 2 0)), (6, iA i6), (7, .c (.ptr 4 0)), (8, iA i8)] 0 f10.ntmps, [(0, Blk.cells (List.map C.d (cfgC c)) 30), (1, Blk.cells [.d (.v (.slice none 0 0)), .d (.v (.slice none 0 0))] 43), (2, Blk.cells [C.d (Aa 5 pblC pbl0 (KRC.ps Z [gA (cfgC c)])), C.row 3 3 n3] 43), (3, Blk.row n3 f3 3 88), (4, Blk.cells [C.d (Aa 1 busC e0 (KRC.ou Z [gA (relC (List.getD (SCfg.rels c) (Int.toNat i6) rel0))])), C.row 5 1 n5, .d (.v (.slice none 0 0))] 88), (5, Blk.row n5 f5 1 3)], 6⟩
def Kw (Z : KRC) (c : SCfg) (g mo m : Nat) (n3 : Nat) (f3 : RD) (n5 : Nat) (f5 : RD) (n6 : Nat) (f6 : RD) (i6 : Int) (i9 : Int) := LK2 prog (oRC Z) Wv 0 g f10 6 mo 15 m ⟨frm [(1, .c (.ptr 0 0)), (2, .c (.ptr 1 0)), (5, .c (.ptr 2 0)), (6, iA i6), (7, .c (.ptr 4 0)), (9, iA i9)] 0 f10.ntmps, [(0, Blk.cells (List.map C.d (cfgC c)) 30), (1, Blk.cells [.d (.v (.slice none 0 0)), .d (.v (.slice none 0 0))] 43), (2, Blk.cells [C.d (Aa 5 pblC pbl0 (KRC.ps Z [gA (cfgC c)])), C.row 3 3 n3] 43), (3, Blk.row n3 f3 3 88), (4, Blk.cells [C.d (Aa 1 busC e0 (KRC.ou Z [gA (relC (List.getD (SCfg.rels c) (Int.toNat i6) rel0))])), C.row 5 1 n5, C.row 6 2 n6] 88), (5, Blk.row n5 f5 1 3), (6, Blk.row n6 f6 2 95)], 7⟩
theorem brcm : f10.body = some (Ad f10) := by kernel_rfl
theorem AiZ (Z : KRC) (c : SCfg) (g : Nat) : Al prog (oRC Z) Wv g f10 (Ad f10) [aCfg c] [] =
 (bif KRC.okc Z [gA (cfgC c)] then (bif KRC.chk Z [gA (cfgC c)] != 0 then some (T.leaf (AV.tup [(true, [C.d (D.v (Value.slice none (0 : Nat)
 0)), C.d (.v (.slice none 0 0))]), (false, [C.d (iD (KRC.chk Z [gA (cfgC c)]))])], [])) else (bif KRC.okp Z [gA (cfgC c)] then Tb
 Z c g g 0 (fun x => []) 0 else none)) else none) := by kernel_rfl
theorem Aga (Z : KRC) (c : SCfg) (g m : Nat) (n3 : Nat) (f3 : RD) (i6 : Int) : Tb Z c g (m + 1) n3 f3 i6 =
 (bif decide (i6 < (↑c.rels.length : Int)) then (bif decide (0 <= i6) && decide (i6 < (↑c.rels.length : Int)) then (bif KRC.oko Z [gA (relC (c.rels.getD i6.toNat
 rel0))] then Kx Z c g m g n3 f3 0 (fun x => []) i6 0 else none) else none) else some (T.leaf (AV.tup [(true, [C.d (Aa (5) pblC pbl0 (KRC.ps Z [gA (cfgC c)])),
 C.row (0) (3) n3]), (false, [C.d (iD 0)])], [(0, Blk.row n3 f3 (3) (88))]))) := by kernel_rfl
theorem AcD (Z : KRC) (c : SCfg) (g mo m : Nat) (n3 : Nat) (f3 : RD) (n5 : Nat) (f5 : RD) (i6 : Int) (i8 : Int) : Kx Z c g mo (m + 1) n3 f3 n5 f5 i6 i8 =
 (bif decide (i8 < (↑(KRC.ps Z [gA (cfgC c)]).length : Int)) then (bif decide (0 <= i8) && decide (i8 < (↑(KRC.ps Z [gA (cfgC c)]).length :
 Int)) then (bif Pbl.rel ((KRC.ps Z [gA (cfgC c)]).getD i8.toNat pbl0) == i6 then (bif decide ((n5 + 1) * 8 <= 140737488355328) && decide (n5 + 1 <=
 9223372036854775807) then Kx Z c g mo m n3 f3 (n5 + 1) (appF n5 f5 (Au [iD i8] (0 + 1))) i6 (IntKind.wrap .i64 (i8 + 1)) else none) else Kx Z c g mo m n3 f3 n5 f5 i6
 (IntKind.wrap .i64 (i8 + 1))) else none) else Kw Z c g mo g n3 f3 n5 f5 0 (fun x => []) i6 0) := by kernel_rfl
theorem AcC (Z : KRC) (c : SCfg) (g mo m : Nat) (n3 : Nat) (f3 : RD) (n5 : Nat) (f5 : RD) (n6 : Nat) (f6 : RD) (i6 : Int) (i9 : Int) : Kw Z c g mo (m + 1) n3 f3 n5 f5 n6 f6 i6 i9 =
 (bif decide (0 <= i6) && decide (i6 < (↑c.rels.length : Int)) then (bif decide (i9 < (↑(SRel.subs (c.rels.getD i6.toNat rel0)).length : Int)) then (bif KRC.okf Z [AV.agg (List.map
 C.d (cfgC c)), AV.c (.d (iD i6)), AV.c (.d (iD i9))] then (bif KRC.okn Z [AV.c (C.d (Aa (5) pblC pbl0 (KRC.ps Z [gA (cfgC c)]))), AV.c
 (.d (iD (Plc.rel (KRC.fi Z [gA (cfgC c), iA i6, AV.c (.d (iD i9))])))), AV.c (.d (.v (.int .i64
 (Plc.set (KRC.fi Z [gA (cfgC c), iA i6, AV.c (.d (iD i9))])))))] then (bif decide ((n6 + 1) * 16 <= 140737488355328) &&
 decide (n6 + (1 : Nat) <= 9223372036854775807) then Kw Z c g mo m n3 f3 n5 f5 (n6 + 1) (appF n6 f6 (Au [iD (KRC.nu Z [AV.c (C.d (Aa (5) pblC pbl0 (KRC.ps Z [AV.agg
 (List.map C.d (cfgC c))]))), AV.c (.d (iD (Plc.rel (KRC.fi Z [gA (cfgC c), iA i6, AV.c (.d (.v (.int .i64
 i9)))])))), AV.c (.d (iD (Plc.set (KRC.fi Z [gA (cfgC c), iA i6, AV.c (.d (iD i9))]))))]), dI
 (Plc.item (KRC.fi Z [gA (cfgC c), AV.c (.d (iD i6)), iA i9]))] (1 + 1))) i6 (IntKind.wrap .i64 (i9 + 1)) else none) else
 none) else none) else (bif decide ((n3 + (1 : Nat)) * 72 <= 140737488355328) && decide (n3 + 1 <= 9223372036854775807) then Tb Z c g mo (n3 + 1) (appF n3 f3 (Au [Aa 1 busC e0 (KRC.ou
 Z [gA (relC (c.rels.getD i6.toNat rel0))]), D.sl 1 n5 f5, D.sl 2 n6 f6] (2 + 1))) (IntKind.wrap IntKind.i64 (i6 + 1)) else none)) else none) := by kernel_rfl
def oSm (ok r : LB) : Orc := Orc.cons 27 (ansG ok fun x => vB (r x)) Orc.nil
def Sy : Ann := A4 [(4, ⟨[3, 2, 5], []⟩), (10, ⟨[3, 2, 8], []⟩), (16, ⟨[10, 9, 3, 2, 8, 11], []⟩), (21, ⟨[10, 9, 3, 2, 8, 12], []⟩)]
def S6 (ok r : LB) (p q : List Pbl) (d e : List Dev) (g m : Nat) (i5 : Int) := LK prog (oSm ok r) Sy 0 g f11 4 m ⟨frm [(2, .c (.ptr 0 0)), (3, .c (.ptr 1 0)), (5, iA i5)] 0 f11.ntmps, [(0, Blk.cells [C.d (Aa 5 pblC pbl0 p), C.d (Aa 3 devC dev0 d)] 36), (1, Blk.cells [C.d (Aa 5 pblC pbl0 q), C.d (Aa 3 devC dev0 e)] 43)], 2⟩
def H9 (ok r : LB) (p q : List Pbl) (d e : List Dev) (g m : Nat) (i8 : Int) := LK prog (oSm ok r) Sy 0 g f11 10 m ⟨frm [(2, .c (.ptr 0 0)), (3, .c (.ptr 1 0)), (8, iA i8)] 0 f11.ntmps, [(0, Blk.cells [C.d (Aa 5 pblC pbl0 p), C.d (Aa 3 devC dev0 d)] 36), (1, Blk.cells [C.d (Aa 5 pblC pbl0 q), C.d (Aa 3 devC dev0 e)] 43)], 2⟩
def Ku (ok r : LB) (p q : List Pbl) (d e : List Dev) (g mo m : Nat) (i8 : Int) (i11 : Int) := LK2 prog (oSm ok r) Sy 0 g f11 10 mo 16 m ⟨frm [(2, .c (.ptr 0 0)), (3, .c (.ptr 1 0)), (8, iA i8), (9, .c (.ptr 2 0)), (10, .c (.ptr 3 0)), (11, iA i11)] 0 f11.ntmps, [(0, Blk.cells [C.d (Aa 5 pblC pbl0 p), C.d (Aa 3 devC dev0 d)] 36), (1, Blk.cells [C.d (Aa 5 pblC pbl0 q), C.d (Aa 3 devC dev0 e)] 43), (2, Blk.cells (List.map C.d (devC (List.getD d (Int.toNat i8) dev0))) 51), (3, Blk.cells (List.map C.d (devC (List.getD e (Int.toNat i8) dev0))) 88)], 4⟩
def H8 (ok r : LB) (p q : List Pbl) (d e : List Dev) (g mo m : Nat) (i8 : Int) (i12 : Int) := LK2 prog (oSm ok r) Sy 0 g f11 10 mo 21 m ⟨frm [(2, .c (.ptr 0 0)), (3, .c (.ptr 1 0)), (8, iA i8), (9, .c (.ptr 2 0)), (10, .c (.ptr 3 0)), (12, iA i12)] 0 f11.ntmps, [(0, Blk.cells [C.d (Aa 5 pblC pbl0 p), C.d (Aa 3 devC dev0 d)] 36), (1, Blk.cells [C.d (Aa 5 pblC pbl0 q), C.d (Aa 3 devC dev0 e)] 43), (2, Blk.cells (List.map C.d (devC (List.getD d (Int.toNat i8) dev0))) 51), (3, Blk.cells (List.map C.d (devC (List.getD e (Int.toNat i8) dev0))) 88)], 4⟩
theorem bsme : f11.body = some (Ad f11) := by kernel_rfl
theorem Akm (ok r : LB) (p q : List Pbl) (d e : List Dev) (g : Nat) : Al prog (oSm ok r) Sy g f11 (Ad f11) [.agg [.d (D5 p), .d (Hy d)], .agg [.d (D5 q), .d (Hy e)]] [] =
 (bif (↑p.length : Int) != (↑q.length : Int) then leB false else (bif (↑d.length : Int) != (↑e.length : Int) then leB false else S6 ok r p q d e g g 0)) := by kernel_rfl
theorem Y1 (ok r : LB) (p q : List Pbl) (d e : List Dev) (g m : Nat) (i5 : Int) : S6 ok r p q d e g (m + 1) i5 =
 (bif decide (i5 < (↑p.length : Int)) then (bif decide (0 <= i5) && decide (i5 < (↑p.length : Int)) then (bif decide (0 <= i5) && decide (i5 < (↑q.length : Int)) then (bif Pbl.rel
 (p.getD i5.toNat pbl0) != Pbl.rel (q.getD i5.toNat pbl0) then leB false else (bif Pbl.set (p.getD i5.toNat pbl0) != Pbl.set (q.getD i5.toNat pbl0) then leB false else (bif Pbl.fst
 (p.getD i5.toNat pbl0) != Pbl.fst (q.getD i5.toNat pbl0) then leB false else (bif Pbl.max (p.getD i5.toNat pbl0) != Pbl.max (q.getD i5.toNat pbl0) then leB false else (bif ok [AV.c
 (C.d (Aa (1) nC 0 (Pbl.sigs (p.getD i5.toNat pbl0)))), AV.c (C.d (Aa (1) nC 0 (Pbl.sigs (q.getD i5.toNat pbl0))))] then (bif !r [AV.c (C.d (Aa (1) nC 0 (Pbl.sigs (p.getD i5.toNat
 pbl0)))), AV.c (C.d (Aa (1) nC 0 (Pbl.sigs (q.getD i5.toNat pbl0))))] then leB false else S6 ok r p q d e g m (IntKind.wrap .i64 (i5 + 1))) else none))))) else none) else none)
 else H9 ok r p q d e g g 0) := by kernel_rfl
theorem Vh (ok r : LB) (p q : List Pbl) (d e : List Dev) (g m : Nat) (i8 : Int) : H9 ok r p q d e g (m + 1) i8 =
 (bif decide (i8 < (↑d.length : Int)) then (bif decide (0 <= i8) && decide (i8 < (↑d.length : Int)) then (bif decide (0 <= i8) && decide (i8 < (↑e.length : Int)) then (bif (↑(Dev.outs
 (d.getD i8.toNat dev0)).length : Int) != (↑(Dev.outs (e.getD i8.toNat dev0)).length : Int) then leB false else (bif ok [AV.c (C.d (Aa (1) nC 0 (Dev.sends (d.getD i8.toNat dev0)))),
 AV.c (C.d (Aa ((1 : Nat)) nC 0 (Dev.sends (e.getD i8.toNat dev0))))] then (bif !r [AV.c (C.d (Aa (1) nC 0 (Dev.sends (d.getD i8.toNat dev0)))), AV.c (C.d (Aa (1) nC 0 (Dev.sends
 (e.getD i8.toNat dev0))))] then leB false else (bif (↑(Dev.ins (d.getD i8.toNat dev0)).length : Int) != (↑(Dev.ins (e.getD i8.toNat dev0)).length : Int) then leB false else Ku ok r
 p q d e g m g i8 0)) else none)) else none) else none) else leB true) := by kernel_rfl
theorem Vg (ok r : LB) (p q : List Pbl) (d e : List Dev) (g mo m : Nat) (i8 : Int) (i11 : Int) : Ku ok r p q d e g mo (m + 1) i8 i11 =
 (bif decide (i11 < (↑(Dev.outs (d.getD i8.toNat dev0)).length : Int)) then (bif decide (0 <= i11) && decide (i11 < (↑(Dev.outs (d.getD i8.toNat dev0)).length : Int)) then (bif
 decide (0 <= i11) && decide (i11 < (↑(Dev.outs (e.getD i8.toNat dev0)).length : Int)) then (bif !((Dev.outs (d.getD i8.toNat dev0)).getD i11.toNat e0).toList == ((Dev.outs (e.getD
 i8.toNat dev0)).getD i11.toNat e0).toList then leB false else Ku ok r p q d e g mo m i8 (IntKind.wrap .i64 (i11 + 1))) else none) else none) else H8 ok r p q d e g mo g i8 0) := by kernel_rfl
theorem Vf (ok r : LB) (p q : List Pbl) (d e : List Dev) (g mo m : Nat) (i8 : Int) (i12 : Int) : H8 ok r p q d e g mo (m + 1) i8 i12 =
 (bif decide (i12 < (↑(Dev.ins (d.getD i8.toNat dev0)).length : Int)) then (bif decide (0 <= i12) && decide (i12 < (↑(Dev.ins (d.getD i8.toNat dev0)).length : Int)) then (bif decide
 (0 <= i12) && decide (i12 < (↑(Dev.ins (e.getD i8.toNat dev0)).length : Int)) then (bif Prod.fst ((Dev.ins (d.getD i8.toNat dev0)).getD i12.toNat (0, 0)) != Prod.fst ((Dev.ins
 (e.getD i8.toNat dev0)).getD i12.toNat (0, 0)) then leB false else (bif decide (0 <= i12) && decide (i12 < (↑(Dev.ins (d.getD i8.toNat dev0)).length : Int)) then (bif decide (0 <=
 i12) && decide (i12 < (↑(Dev.ins (e.getD i8.toNat dev0)).length : Int)) then (bif Prod.snd ((Dev.ins (d.getD i8.toNat dev0)).getD i12.toNat (0, 0)) != Prod.snd ((Dev.ins (e.getD
 i8.toNat dev0)).getD i12.toNat (0, 0)) then leB false else H8 ok r p q d e g mo m i8 (IntKind.wrap .i64 (i12 + 1))) else none) else none)) else none) else none) else H9 ok r p q d
 e g mo (IntKind.wrap .i64 (i8 + 1))) := by kernel_rfl
structure KTl where
 okl : LB
 lg : LB
 okt : LB
 ps : List AV -> List Pbl
 ds : List AV -> List Dev
 er : LI
 oks : LB
def oTl (Z : KTl) : Orc := Orc.cons 7 (ansP dec0 fun _ => vB true) (Orc.cons 8 (ansG Z.okl fun x => vB (Z.lg x)) (Orc.cons 9 (ansG Z.okt fun x => .tup [(true, [.d (D5 (Z.ps x)), .d (Hy (Z.ds x))]), (false, [.d (dI (Z.er x))])])
 (Orc.cons 10 (ansG Z.okt fun x => .tup [(true, [.d (D5 (Z.ps x)), .d (Hy (Z.ds x))]), (false, [.d (dI (Z.er x))])]) (Orc.cons 11 (ansG Z.oks fun _ => vB true) Orc.nil))))
theorem evTC (Z : KTl) (c : SCfg) : Al prog (oTl Z) na 5 f3 (Ad f3) [aCfg c] [] =
 (bif KTl.okl Z [gA (cfgC c)] then (bif KTl.lg Z [gA (cfgC c)] then leB true else (bif KTl.okt Z [gA (cfgC c)] then (bif
 KTl.okt Z [gA (cfgC c)] then (bif KTl.er Z [gA (cfgC c)] == KTl.er Z [gA (cfgC c)] then (bif KTl.oks Z [AV.agg [C.d (Aa (5)
 pblC pbl0 (KTl.ps Z [gA (cfgC c)])), C.d (Aa (3) devC dev0 (KTl.ds Z [gA (cfgC c)]))], AV.agg [C.d (Aa (5) pblC pbl0 (KTl.ps Z [AV.agg
 (List.map C.d (cfgC c))])), C.d (Aa (3) devC dev0 (KTl.ds Z [gA (cfgC c)]))]] then leB true else none) else leB false) else none) else none)) else none) := by kernel_rfl
end Go.Proofs.YtbpndheehcbldaaGreatDoor.tb
namespace Go.Proofs.YtbpndheehcbldaaGreatDoor.tb
open Go.RowKit Go.Eb Go.Proofs.YtbpndheehcbldaaGreatDoor.st
set_option maxRecDepth 100000
end Go.Proofs.YtbpndheehcbldaaGreatDoor.tb
end
