/-
  Calls that only read: own rows are lent to them; answers by data. No condition.
-/
import Derived.Test.YtihcidopklhikaaGreatDoorZTy
import Derived.Test.YtihcidopklhikaaGreatDoorZRk
namespace Go.Eb
open Go.RowKit

theorem Asle.trans {a b c : List AV} (h : Asle a b) (k : Asle b c) : Asle a c := by
  refine ⟨h.1.trans k.1, fun i x z h1 h3 => ?_⟩
  have hlt : i < b.length := by rw [← h.1]; exact (List.getElem?_eq_some_iff.1 h1).1
  exact (h.2 i x _ h1 (List.getElem?_eq_getElem hlt)).trans (k.2 i _ z (List.getElem?_eq_getElem hlt) h3)
section
variable {α : Type} [Inhabited α] {enc : α → List AV}
theorem theT_of (inj : InjT enc) {x : List AV} {a : α} (h1 : Asle x (enc a)) (h2 : Asle (enc a) x) : theT enc x = a :=
  (inj _ _ (h2.trans (theT_le (okX_iff.2 ⟨a, h1⟩)))).symm
theorem okG_of (inj : InjT enc) {x : List AV} {a : α} {c : α → Bool} (h1 : Asle x (enc a)) (h2 : Asle (enc a) x) (h : c a = true) : okG enc c x = true := by
  unfold okG
  rw [theT_of inj h1 h2, okX_iff.2 ⟨a, h1⟩, h]; rfl
end

/-- answers without own rows and data of them: plain values only -/
def plainC : C → Bool
  | .d (.v _) => true
  | _ => false
def plainA : AV → Bool
  | .c x => plainC x
  | .agg cs => cs.all plainC
  | .tup ps => ps.all fun p => p.2.all plainC
  | .u => true
section
variable {β β' : Bt} {w w' : World} {I I' : Im}
theorem plainC_ok {x : C} {v : Value} (h : plainC x = true) (hx : RepC β w I x v) : RepC β' w' I' x v := by
  match x, h with
  | .d (.v y), _ =>
    have hx : RepD w I (.v y) v := hx
    cases hx with
    | v _ h1 => exact RepD.v _ h1
theorem plainCs_ok {cs : List C} {vs : List Value} (h : cs.all plainC = true) (hx : RepCs β w I cs vs) : RepCs β' w' I' cs vs := by
  refine ⟨hx.1, fun i c v h1 h2 => plainC_ok ?_ (hx.2 i c v h1 h2)⟩
  rw [List.all_eq_true] at h
  exact h c (List.mem_of_getElem? h1)
theorem plainA_ok {x : AV} {v : Value} (h : plainA x = true) (hx : RepA β w I x v) : RepA β' w' I' x v := by
  cases x with
  | c x => exact plainC_ok h hx
  | agg cs => obtain ⟨vs, rfl, hv⟩ := hx; exact ⟨vs, rfl, plainCs_ok h hv⟩
  | tup ps =>
    obtain ⟨vs, rfl, hl, hv⟩ := hx
    refine ⟨vs, rfl, hl, fun i p x h1 h2 => ?_⟩
    have hp := hv i p x h1 h2
    have h : (ps.all fun p => p.2.all plainC) = true := h
    rw [List.all_eq_true] at h
    have hq := h p (List.mem_of_getElem? h1)
    obtain ⟨b, cs⟩ := p
    cases b with
    | true => obtain ⟨us, rfl, hu⟩ := hp; exact ⟨us, rfl, plainCs_ok hq hu⟩
    | false =>
      obtain ⟨c, hc, hu⟩ := hp
      have hc : cs = [c] := hc
      subst hc
      exact ⟨c, rfl, plainC_ok (by simpa using hq) hu⟩
  | u => trivial
end

/-- a call that only reads data and answers plainly may be given own rows: they stay as they are -/
theorem CR.lends {P : Program} {f : FuncId} {args ds : List AV} {H : Hp} {x : AV} (h : CR P f ds [] x []) (hp : plainA x = true) (hf : frzAs H args = some ds) : CR P f args H x H := by
  intro β I w vs hr ha
  have hr0 : RelH (fun _ => .free) [] (allB β I) w := by
    refine ⟨⟨(fun i j b hi => by cases hi), (fun i b hi => by cases hi), (fun i b o hi => by cases hi), (fun b o hi => ?_), hr.gl.step (fun _ _ hi => .inl hi) (fun _ _ _ => rfl)⟩, fun i _ => rfl, fun i B hB => by simp [look] at hB⟩
    rcases hi with hi | ⟨k, hk⟩
    · exact hr.old b o hi
    · exact hr.lt k b hk
  obtain ⟨hl, hreps⟩ := frzAs_ok (β' := fun _ => .free) hr args ds hf
  have ha0 : RepF (fun _ => .free) w (allB β I) ds vs := by
    refine ⟨by rw [hl]; exact ha.1, fun i y v h1 h2 => ?_⟩
    have hlt : i < args.length := by rw [← hl]; exact (List.getElem?_eq_some_iff.1 h1).1
    exact hreps i _ y v (List.getElem?_eq_getElem hlt) h1 (ha.2 i _ v (List.getElem?_eq_getElem hlt) h2)
  refine (h _ _ w vs hr0 ha0).mono fun e w' ⟨v, β', I', he, hr', hx, hE, hm⟩ => ?_
  have hblk : ∀ b, b < w.heap.size → w'.heap[b]? = w.heap[b]? := fun b hb => hE.block b hb (fun k hk => by cases hk)
  have hcell : ∀ b o, I b o → w'.cell? ⟨b, o, none⟩ = w.cell? ⟨b, o, none⟩ := fun b o hi => hE.cell b o (.inl hi)
  have hk : Keep β I w β I w' := ⟨.refl _, fun _ _ hi => hi, hcell, hE.shapes⟩
  have hpl : Place β I w' := ⟨hr.inj, fun i b hb => Nat.lt_of_lt_of_le (hr.lt i b hb) hE.size, hr.off, fun b o hi => Nat.lt_of_lt_of_le (hr.old b o hi) hE.size, hr.gl.step (fun _ _ hi => hi) hcell⟩
  refine ⟨v, β, I, he, ?_, plainA_ok hp hx, ⟨hE.os, hE.tape, hE.output, hE.size, fun b hb _ => hblk b hb, fun _ _ hi => hi, hcell, fun _ _ hi => .inl hi, fun i b hb => .inl ⟨i, hb⟩, hE.shapes⟩, .refl _⟩
  exact ⟨hpl, hr.dom, fun i B hB => (hr.blk i B hB).keep hk rfl (fun b hb => hblk b (hr.lt i b hb))⟩

theorem CX.cr {P : Program} {f : FuncId} {fn : Func} {c : Code} {args : List AV} {H : Hp} {x : AV} {H' : Hp} (hf : P.funcs[f]? = some fn) (hb : fn.body = some c) (h : CX P f args H x H') : CR P f args H x H' := by
  unfold CX at h
  rw [hf] at h
  simp only [hb, Option.isNone_some, Bool.false_eq_true, if_false] at h
  exact h
theorem CX.lends {P : Program} {f : FuncId} {fn : Func} {c : Code} {args ds : List AV} {H : Hp} {x : AV} (hf : P.funcs[f]? = some fn) (hb : fn.body = some c) (h : CX P f ds [] x []) (hp : plainA x = true) (hz : frzAs H args = some ds) : CX P f args H x H :=
  .of_cr hf hb ((h.cr hf hb).lends hp hz)

/-- an answer by the arguments as data; the memory stays -/
def ansL (ok : List AV → Bool) (r : List AV → AV) : (R : Type) → List AV → Hp → (AV → Hp → Option (T R)) → Option (T R) := fun _ args H k =>
  match frzAs H args with
  | some ds => bif ok ds then k (r ds) H else none
  | none => none
theorem AnsS.l {P : Program} {f : FuncId} {fn : Func} {ok : List AV → Bool} {r : List AV → AV} (hf : P.funcs[f]? = some fn) (hb : fn.body = some (bodyOf fn)) (hc : ∀ x, ok x = true → CX P f x [] (r x) [] ∧ plainA (r x) = true) : AnsS P f (ansL ok r) := by
  refine ⟨fun R args H k t h => ?_, fun args H => ?_⟩
  · unfold ansL at h
    cases hd : frzAs H args with
    | none => rw [hd] at h; cases h
    | some ds =>
      rw [hd] at h
      simp only [] at h
      cases hb' : ok ds with
      | false => rw [hb'] at h; cases h
      | true =>
        rw [hb'] at h
        obtain ⟨h1, h2⟩ := hc ds hb'
        exact ⟨_, _, h, h1.lends hf hb h2 hd⟩
  · unfold ansL
    cases frzAs H args with
    | none => exact .no fun R k => rfl
    | some ds => exact .bif _ (.one _ _ fun R k => rfl) (.no fun R k => rfl)
theorem AnsS.lt {P : Program} {f : FuncId} {fn : Func} {α : Type} [Inhabited α] {enc : α → List AV} {c : α → Bool} {r : α → AV} (hf : P.funcs[f]? = some fn) (hb : fn.body = some (bodyOf fn)) (hp : ∀ a, plainA (r a) = true)
    (hc : ∀ a, c a = true → CX P f (enc a) [] (r a) []) : AnsS P f (ansL (okG enc c) fun x => r (theT enc x)) := .l hf hb fun x h => by
  unfold okG at h
  simp only [Bool.and_eq_true] at h
  exact ⟨(hc _ h.2).ge (theT_le h.1) (.refl _), hp _⟩

/-! loops over places -/
theorem anyL_loop {α : Type} {p : α → Bool} {l : List α} {d0 : α} {L : Nat → Int → Option (T (AV × Hp))} {A B : Option (T (AV × Hp))}
    (hst : ∀ (m k : Nat), k < l.length → L (m + 1) k = bif p (l.getD k d0) then A else L m ((k + 1 : Nat) : Int)) (hend : ∀ m, L (m + 1) l.length = B) :
    ∀ (m k : Nat), k ≤ l.length → l.length - k < m → L m k = bif (l.drop k).any p then A else B
  | 0, k, _, h => by omega
  | m + 1, k, hk, h => by
    by_cases e : k = l.length
    · subst e
      rw [hend, List.drop_of_length_le (Nat.le_refl _)]
      rfl
    · have hlt : k < l.length := by omega
      rw [hst m k hlt, anyL_loop hst hend m (k + 1) (by omega) (by omega), drop_at' (d := d0) hlt]
      simp only [List.any_cons]
      cases p (l.getD k d0) <;> rfl
/-- names that were there lie in a row -/
theorem seenr_loop {α : Type} {valid : α → Bool} {key : α → ByteArray} {rest : α → Int} {l : List α} {d0 : α} {L : Nat → Nat → (Nat → List D) → Int → Option (T (AV × Hp))} {NX : Option (T (AV × Hp))} (hl : l.length ≤ 9000)
    (hst : ∀ (m k n : Nat) (f : Nat → List D) (seen : List ByteArray), k < l.length → RL busC e0 n f seen → n ≤ 9000 → L (m + 1) n f k = bif !valid (l.getD k d0) then lN 7 else bif inB seen (key (l.getD k d0)) then lN 8 else bif rest (l.getD k d0) != 0 then lN (rest (l.getD k d0)) else L m (n + 1) (appF n f (chunk (busC (key (l.getD k d0))) 1)) ((k + 1 : Nat) : Int))
    (hend : ∀ m n f, L (m + 1) n f l.length = NX) : ∀ (m k n : Nat) (f : Nat → List D) (seen : List ByteArray), RL busC e0 n f seen → seen.length = k → k ≤ l.length → l.length - k < m →
      L m n f k = bif listErr valid key rest seen (l.drop k) != 0 then lN (listErr valid key rest seen (l.drop k)) else NX
  | 0, k, n, f, seen, _, _, _, h => by omega
  | m + 1, k, n, f, seen, hr, hn, hk, h => by
    by_cases e : k = l.length
    · rw [e, hend, List.drop_of_length_le (Nat.le_refl _)]
      rfl
    · have hlt : k < l.length := by omega
      have hr' := hr.app' (x := key (l.getD k d0)) (sz := 1) rfl
      rw [hst m k n f seen hlt hr (by have := hr.len; omega), seenr_loop hl hst hend m (k + 1) _ _ _ hr' (by simp; omega) (by omega) (by omega), drop_at' (d := d0) hlt]
      simp only [listErr]
      cases valid (l.getD k d0) with
      | false => rfl
      | true =>
        cases inB seen (key (l.getD k d0)) with
        | true => rfl
        | false =>
          cases hz : (rest (l.getD k d0) != 0) with
          | true => simp only [Bool.not_true, cond_false, cond_true, hz]
          | false => rfl
theorem apOk16 {n : Nat} (h : n ≤ 9000) : (decide ((n + 1) * 16 ≤ 140737488355328) && decide (n + 1 ≤ 9223372036854775807)) = true := by
  rw [decide_eq_true (by omega), decide_eq_true (by omega)]; rfl

/-! a search in a list of names -/
abbrev eIx := en2 (aD busesD) vS
theorem eIx_inj : InjT eIx := en2_inj (aD_inj (listD_inj (sz := 1) (d0 := e0) busC_inj)) vS_inj
def cIx (a : List ByteArray × ByteArray) : Bool := lenOk a.1
theorem ix_row {n : Nat} {f : Nat → List D} {l : List ByteArray} (hr : RL busC e0 n f l) (s : ByteArray) : Asle [.c (.d (.sl 1 n f)), vS s] (eIx (l, s)) ∧ Asle (eIx (l, s)) [.c (.d (.sl 1 n f)), vS s] :=
  ⟨.cons hr.de (.cons (.refl _) .nil), .cons hr.ed (.cons (.refl _) .nil)⟩
theorem ix_okr {n : Nat} {f : Nat → List D} {l : List ByteArray} (hr : RL busC e0 n f l) (hn : n ≤ 9000) (s : ByteArray) : okG eIx cIx [.c (.d (.sl 1 n f)), vS s] = true ∧ theT eIx [.c (.d (.sl 1 n f)), vS s] = (l, s) := by
  obtain ⟨h1, h2⟩ := ix_row hr s
  refine ⟨okG_of eIx_inj h1 h2 ?_, theT_of eIx_inj h1 h2⟩
  unfold cIx lenOk
  rw [decide_eq_true (by have := hr.len; simp only; omega)]
end Go.Eb
