/-
  An evaluator of Go code on abstract values, proved sound: what it computes is what every run of the model returns (closed calls, second part). No condition.
-/
import Derived.Test.YtihcidopklhikaaGreatDoorFa
namespace Go.Ez
open Go.RowKit
open Go.Eb (aggT sizeT bytesT placesT pr pr_run run_sizeT run_aggT placesT_run add_none)

/-- a name's block goes over to a new name -/
theorem Rel.move {β : Bz} {H : Hz} {F : Pa → Prop} {nx : Pa} {w w' : World} (h : Rel β H F w) (hF : F nx) {p : Pa} {B0 B : Bk} {b N : Nat} (hp : H.get p = some B0) (hro0 : B0.ro = false) (hb : β p = some (b, N)) (hos : w'.os = w.os) (htape : w'.tape = w.tape) (hout : w'.output = w.output)
    (hsize : w'.heap.size = w.heap.size) (hother : ∀ x, x ≠ b → w'.heap[x]? = w.heap[x]?) (hB : RepB (ext1 β nx (b, N)) w' nx B) (hro : B.ro = false) :
    Rel (ext1 β nx (b, N)) ((H.set none p).set (some B) nx) (fun p => F p ∧ p ≠ nx) w' ∧ Ext β H w (ext1 β nx (b, N)) ((H.set none p).set (some B) nx) w' := by
  have hnx : β nx = none := h.fresh nx hF
  have hle := Le.ext1 hnx (b, N)
  have hpn : p ≠ nx := fun e => by rw [e, hnx] at hb; cases hb
  have hg : ∀ q B', ((H.set none p).set (some B) nx).get q = some B' → (q = nx ∧ B' = B) ∨ (q ≠ nx ∧ q ≠ p ∧ H.get q = some B') := fun q B' hq => by
    rw [Tr.get_set] at hq
    by_cases e : q = nx
    · rw [if_pos e] at hq; cases hq; exact .inl ⟨e, rfl⟩
    · rw [if_neg e, Tr.get_set] at hq
      by_cases e' : q = p
      · rw [if_pos e'] at hq; cases hq
      · rw [if_neg e'] at hq; exact .inr ⟨e, e', hq⟩
  have hgn : ∀ q, ((H.set none p).set (some B) nx).get q ≠ none → q = nx ∨ (q ≠ nx ∧ q ≠ p ∧ H.get q ≠ none) := fun q hq => by
    cases hB' : ((H.set none p).set (some B) nx).get q with
    | none => exact absurd hB' hq
    | some B' =>
      rcases hg q B' hB' with ⟨e, _⟩ | ⟨e, e', h3⟩
      · exact .inl e
      · exact .inr ⟨e, e', by rw [h3]; simp⟩
  have notb : ∀ q M, q ≠ p → H.get q ≠ none → β q ≠ some (b, M) := fun q M hqp hq hqb => hqp (h.inj q p b M N hq (by rw [hp]; simp) hqb hb)
  refine ⟨⟨fun q hq => ?_, fun q x M hq => ?_, fun q B' hq => ?_, fun q r x M M' hq hr hx hx' => ?_⟩, ⟨hos, htape, hout, by rw [hsize]; exact Nat.le_refl _, hle, fun x _ hn => hother x fun e => hn p N ⟨B0, hp, hro0⟩ (e ▸ hb), fun q x M hq hx => ?_, fun q x M hq hx => ?_, fun q hq => ?_, fun q B' hq hr => ?_⟩⟩
  · rw [ext1_ne _ _ hq.2]
    exact h.fresh q hq.1
  · rw [hsize]
    by_cases e : q = nx
    · subst e; rw [ext1_self] at hq; cases hq; exact h.lt p b N hb
    · rw [ext1_ne _ _ e] at hq; exact h.lt q x M hq
  · rcases hg q B' hq with ⟨e, e'⟩ | ⟨e, e', h3⟩
    · subst e e'; exact hB
    · refine (h.blk q B' h3).le hle fun x M hx => hother x fun ex => ?_
      subst ex
      exact notb q M e' (by rw [h3]; simp) hx
  · rcases hgn q hq with e | ⟨e, e', h3⟩ <;> rcases hgn r hr with f | ⟨f, f', h4⟩
    · rw [e, f]
    · subst e
      rw [ext1_self] at hx; rw [ext1_ne _ _ f] at hx'
      cases hx
      exact absurd hx' (notb r M' f' h4)
    · subst f
      rw [ext1_self] at hx'; rw [ext1_ne _ _ e] at hx
      cases hx'
      exact absurd hx (notb q M e' h3)
    · rw [ext1_ne _ _ e] at hx; rw [ext1_ne _ _ f] at hx'
      exact h.inj q r x M M' h3 h4 hx hx'
  · obtain ⟨B', hB', hr⟩ := hq
    rcases hg q B' hB' with ⟨e, e'⟩ | ⟨e, e', h3⟩
    · subst e; rw [ext1_self] at hx; cases hx; exact .inl ⟨p, N, ⟨B0, hp, hro0⟩, hb⟩
    · rw [ext1_ne _ _ e] at hx; exact .inl ⟨q, M, ⟨B', h3, hr⟩, hx⟩
  · rcases hgn q hq with e | ⟨e, e', h3⟩
    · subst e; rw [ext1_self] at hx; cases hx; exact .inl ⟨p, N, by rw [hp]; simp, hb⟩
    · rw [ext1_ne _ _ e] at hx; exact .inl ⟨q, M, h3, hx⟩
  · rcases hgn q hq with e | ⟨_, _, h3⟩
    · subst e; exact .inr hnx
    · exact .inl h3
  · have e : q ≠ p := fun e => by subst e; rw [hp] at hq; cases hq; rw [hro0] at hr; cases hr
    have e' : q ≠ nx := fun e' => by
      obtain ⟨x, M, hx⟩ := h.live (p := q) (by rw [hq]; simp)
      rw [e', hnx] at hx; cases hx
    rw [Tr.get_set_ne _ e', Tr.get_set_ne _ e]; exact hq

section
variable {E R : Type} {P : Program} {ρ : E → Operand → AV} {dst : Option Tmp} {ty : TypeId} {pos : String} {after : Array Edge} {guard : Option (Nat × Bool)}

def RowsRep (β : Bz) (sz : Nat) (rows : List (List CV)) (vs : List Value) : Prop := ∀ (i : Nat) r, rows[i]? = some r → r.length = sz ∧ ∀ (j : Nat) c v, r[j]? = some c → vs[i * sz + j]? = some v → Rep β c v

/-- the elements of a slice -/
noncomputable def contK (H : Hz) (p : Pa) (off sz l : Nat) (k : List (List CV) → Option R) : Option R :=
  ifK (Nat.beq l 0) (k []) (optK (H.get p) fun B => cellsOfK B fun _ _ bsz rows => ifK (Nat.beq bsz sz)
    (natK (Nat.div off sz) fun i => ifK (Nat.beq (Nat.mul i sz) off) (dropK rows i fun rs => takeK rs l k) none)
    (rowK bsz rows off fun r j => segK r bsz j (Nat.mul l sz) fun cs => chunkK sz l cs k))
/-- what that gives in a world -/
def ContAt (β : Bz) (w : World) (p : Pa) (off sz l : Nat) (rows : List (List CV)) : Prop := ∀ b N, β p = some (b, N) → ∃ news : List Value, news.length = l * sz ∧ RowsRep β sz rows news ∧ (∀ (j : Nat) v, news[j]? = some v → w.cell? ⟨b, off + j, none⟩ = some v) ∧ ∀ v ∈ news, v.oneCell' = true
theorem seg_rep {β : Bz} {w : World} {b t' off n : Nat} {vs : Array Value} {fz : Nat × Nat} (hw : w.heap[b]? = some (.cells vs t' fz)) (hle : off + n ≤ vs.size) :
    ((vs.toList.drop off).take n).length = n ∧ ∀ (j : Nat) v, ((vs.toList.drop off).take n)[j]? = some v → w.cell? ⟨b, off + j, none⟩ = some v ∧ vs[off + j]? = some v := by
  refine ⟨by simp; omega, fun j v hj => ?_⟩
  rw [List.getElem?_take] at hj
  split at hj
  · rw [List.getElem?_drop] at hj
    exact ⟨Go.Eb.cellAt hw _ _ hj, by simpa using hj⟩
  · cases hj
theorem contK_some {H : Hz} {p : Pa} {off sz l : Nat} {k : List (List CV) → Option R} {res : R} (h : contK H p off sz l k = some res) :
    ∃ rows, k rows = some res ∧ rows.length = l ∧ ∀ β nx w, Rel β H nx w → ContAt β w p off sz l rows := by
  unfold contK at h
  rcases ifK_some h with ⟨h0, h⟩ | ⟨h0, h⟩
  · have h0 := Nat.eq_of_beq_eq_true h0
    subst h0
    exact ⟨[], h, rfl, fun β nx w _ b N _ => ⟨[], by simp, fun i r hr => by simp at hr, fun j v hv => by simp at hv, fun v hv => by simp at hv⟩⟩
  · obtain ⟨B, hB, h⟩ := optK_some h
    obtain ⟨ro, t', bsz, rows, rfl, h⟩ := cellsOfK_some h
    rcases ifK_some h with ⟨hz, h⟩ | ⟨_, h⟩
    · have hz := Nat.eq_of_beq_eq_true hz
      subst hz
      rw [natK_eq] at h
      obtain ⟨he, h⟩ := ifK_none h
      have he := Nat.eq_of_beq_eq_true he
      obtain ⟨h1, h⟩ := dropK_some h
      obtain ⟨h2, h⟩ := takeK_some h
      simp at h2
      generalize Nat.div off bsz = i at *
      have he : i * bsz = off := he
      refine ⟨_, h, by simp; omega, fun β nx w hr b N hb => ?_⟩
      obtain ⟨b', N', vs, fz, hb', hw, _, hN, hle, hrep⟩ := hr.blk p _ hB
      rw [hb] at hb'
      cases hb'
      have hmul : (i + l) * bsz ≤ rows.length * bsz := Nat.mul_le_mul_right _ (by omega)
      rw [Nat.add_mul] at hmul
      obtain ⟨hl, hc⟩ := seg_rep (w := w) (β := β) hw (off := off) (n := l * bsz) (by omega)
      have hRR : RowsRep β bsz ((rows.drop i).take l) ((vs.toList.drop off).take (l * bsz)) := fun q r hq => by
        rw [List.getElem?_take] at hq
        split at hq
        · rw [List.getElem?_drop] at hq
          obtain ⟨h3, h4⟩ := hrep (i + q) r hq
          refine ⟨h3, fun j c v hcj hv => h4 j c v hcj ?_⟩
          have := (hc _ _ hv).2
          rw [Nat.add_mul, he, Nat.add_assoc]
          exact this
        · cases hq
      refine ⟨_, hl, hRR, fun j v hj => (hc j v hj).1, fun v hv => ?_⟩
      obtain ⟨q, hq, rfl⟩ := List.mem_iff_getElem.1 hv
      have hq' : q < l * bsz := by rw [← hl]; exact hq
      have hsz : 0 < bsz := by
        rcases Nat.eq_zero_or_pos bsz with e | e
        · subst e; simp at hq'
        · exact e
      have hd : q / bsz < ((rows.drop i).take l).length := by
        simp
        have := (Nat.div_lt_iff_lt_mul hsz).2 hq'
        omega
      obtain ⟨h3, h4⟩ := hRR (q / bsz) _ (List.getElem?_eq_getElem hd)
      have hm : q % bsz < (((rows.drop i).take l)[q / bsz]).length := by rw [h3]; exact Nat.mod_lt _ hsz
      have e : q / bsz * bsz + q % bsz = q := by rw [Nat.mul_comm]; exact Nat.div_add_mod q bsz
      exact (h4 (q % bsz) _ _ (List.getElem?_eq_getElem hm) (by rw [e]; exact List.getElem?_eq_getElem hq)).one
    · obtain ⟨i, r, j, hi, hoff, hj, h⟩ := rowK_some h
      by_cases hrl : r.length = bsz
      · obtain ⟨hle1, h⟩ := segK_some hrl h
        obtain ⟨hle2, rows', h, hrl2, hrows⟩ := chunkK_some h
        refine ⟨_, h, hrl2, fun β nx w hr b N hb => ?_⟩
        obtain ⟨b', N', vs, fz, hb', hw, _, hN, hle, hrep⟩ := hr.blk p _ hB
        rw [hb] at hb'
        cases hb'
        obtain ⟨_, hrc⟩ := hrep i r hi
        have hrow := row_le (List.getElem?_eq_some_iff.1 hi).1 hle
        have hle1 : j + l * sz ≤ r.length := hle1
        obtain ⟨hl, hc⟩ := seg_rep (w := w) (β := β) hw (off := off) (n := l * sz) (by omega)
        have hrl0 : RepL β ((r.drop j).take (Nat.mul l sz)) ((vs.toList.drop off).take (l * sz)) := by
          refine ⟨by rw [hl]; simp; omega, fun q c v h1 h2 => ?_⟩
          rw [List.getElem?_take] at h1
          split at h1
          · rw [List.getElem?_drop] at h1
            have := (hc q v h2).2
            rw [hoff] at this
            exact hrc (j + q) c v h1 (by rw [← Nat.add_assoc]; exact this)
          · cases h1
        exact ⟨_, hl, chunk_rows (n := l) hrl0 hrows, fun j v hj => (hc j v hj).1, hrl0.ones⟩
      · -- no world is like that
        have key : ∀ β nx w, Rel β H nx w → False := fun β nx w hr => by
          obtain ⟨_, _, _, _, _, _, _, _, _, hrep⟩ := hr.blk p _ hB
          exact hrl (hrep i r hi).1
        have slow : ∀ {cs : List CV}, chunkK sz l cs k = some res → ∃ rows, k rows = some res ∧ rows.length = l ∧ ∀ β nx w, Rel β H nx w → ContAt β w p off sz l rows := fun h => by
          obtain ⟨_, rows', h, hrl2, _⟩ := chunkK_some h
          exact ⟨_, h, hrl2, fun β nx w hr => (key β nx w hr).elim⟩
        unfold segK at h
        have two : dropK r j (fun r' => takeK r' (Nat.mul l sz) fun cs => chunkK sz l cs k) = some res → ∃ rows, k rows = some res ∧ rows.length = l ∧ ∀ β nx w, Rel β H nx w → ContAt β w p off sz l rows := fun h => by
          obtain ⟨_, h⟩ := dropK_some h
          obtain ⟨_, h⟩ := takeK_some h
          exact slow h
        cases hb : Nat.beq j 0 with
        | false => rw [hb] at h; exact two h
        | true =>
          rw [hb] at h
          cases hn : Nat.beq (Nat.mul l sz) bsz with
          | false => rw [hn] at h; exact two h
          | true => rw [hn] at h; exact slow h

/-- a text's bytes as rows -/
noncomputable def byteRows (n : Nat) (l : Nat) : List (List CV) → (List (List CV) → Option R) → Option R :=
  Nat.rec (motive := fun _ => List (List CV) → (List (List CV) → Option R) → Option R) (fun acc k => k acc) (fun m ih acc k => natK (Nat.mod (Nat.shiftRight n (Nat.mul 8 m)) 256) fun b => ih ([.o (.w .u8 b)] :: acc) k) l
theorem byteRows_eq (n : Nat) : ∀ (l : Nat) (acc : List (List CV)) (k : List (List CV) → Option R), byteRows n l acc k = k ((List.range l).map (fun i => [CV.o (.w .u8 ((n >>> (8 * i)) % 256))]) ++ acc)
  | 0, acc, k => rfl
  | l + 1, acc, k => by
    show natK (Nat.mod (Nat.shiftRight n (Nat.mul 8 l)) 256) (fun b => byteRows n l ([.o (.w .u8 b)] :: acc) k) = _
    rw [natK_eq, byteRows_eq n l, List.range_succ, List.map_append]
    simp
    rfl

/-- what is appended: a text (isT), or a slice -/
noncomputable def srcK (H : Hz) (sz : Nat) (isT : Bool) (x : AV) (k : Nat → List (List CV) → Option R) : Option R :=
  ifK isT (asT x fun l n => ifK (Nat.beq sz 1) (byteRows n l [] fun rows => k l rows) none)
    (asS x (fun p off z l _ => ifK (Nat.beq z sz) (contK H p off sz l fun rows => k l rows) none) (asO x (fun c => ifK (nilS c) (k 0 []) none) none))
def SrcAt (P : Program) (sz : Nat) (t' : TypeId) (m : Nat) (rows : List (List CV)) (β : Bz) (w : World) (x : Value) : Prop := ∃ news, Go.Src P sz t' x m news w ∧ RowsRep β sz rows news
theorem srcK_some {H : Hz} {sz : Nat} {isT : Bool} {t' : TypeId} {x : AV} {k : Nat → List (List CV) → Option R} {res : R} (hk : (isT = false ∧ ∃ e', P.underlying t' = some (.slice e')) ∨ (isT = true ∧ P.underlying t' = some .string)) (h : srcK H sz isT x k = some res) :
    ∃ m rows, k m rows = some res ∧ rows.length = m ∧ ∀ β nx w v, Rel β H nx w → RepA β x v → SrcAt P sz t' m rows β w v := by
  unfold srcK at h
  rcases ifK_some h with ⟨rfl, h⟩ | ⟨rfl, h⟩
  · obtain ⟨l, n, ex, h8⟩ := asT_some h
    obtain ⟨hz, h9⟩ := ifK_none h8
    have hz := Nat.eq_of_beq_eq_true hz
    rw [byteRows_eq, List.append_nil] at h9
    refine ⟨l, _, h9, by simp, fun β nx w v hr hv => ?_⟩
    rw [ex] at hv
    subst hz
    rcases hk with ⟨e, _⟩ | ⟨_, hs⟩
    · cases e
    · obtain ⟨hv, _⟩ := hv
      rw [hv]
      have hsrc := Go.Src.ofString w hs (bytesN l n)
      rw [bytesN_size] at hsrc
      refine ⟨byteCells (bytesN l n), hsrc, fun i r hi => ?_⟩
      simp at hi
      obtain ⟨i', hi', rfl⟩ := hi
      have hi2 := (List.getElem?_eq_some_iff.1 hi')
      obtain ⟨hlt, e⟩ := hi2
      simp at hlt e
      subst e
      refine ⟨rfl, fun j c v hc hv => ?_⟩
      cases j with
      | zero =>
        simp at hc; subst hc
        unfold byteCells at hv
        simp [bytesN, hlt] at hv
        subst hv
        exact ⟨rfl, Nat.mod_lt _ (by omega), rfl⟩
      | succ j => simp at hc
  · have he : ∃ e', P.underlying t' = some (.slice e') := by
      rcases hk with ⟨_, h1⟩ | ⟨e, _⟩
      · exact h1
      · cases e
    obtain ⟨e', he'⟩ := he
    rcases asS_some h with ⟨p, off, z, l, oc, ex, h⟩ | h
    · obtain ⟨hz, h9⟩ := ifK_none h
      have hz := Nat.eq_of_beq_eq_true hz
      obtain ⟨rows, h, hl, hc⟩ := contK_some h9
      refine ⟨l, rows, h, hl, fun β nx w v hr hv => ?_⟩
      rw [ex] at hv
      obtain ⟨b, N, cap, hb, hv, _⟩ := hv
      obtain ⟨news, h1, h2, h3, h4⟩ := hc β nx w hr b N hb
      exact ⟨news, by rw [hv]; exact Go.Src.ofSlice w he' _ l cap news h1 (fun j u hj => by rw [add_none]; exact h3 j u hj) h4, h2⟩
    · rcases asO_some h with ⟨c, ex, h⟩ | h
      · obtain ⟨hn, h⟩ := ifK_none h
        refine ⟨0, [], h, rfl, fun β nx w v hr hv => ?_⟩
        rw [ex, nilS_eq hn] at hv
        exact ⟨[], by rw [hv.1]; exact Go.Src.ofNil w he' 0, fun i r hr => by simp at hr⟩
      · cases h
theorem RowsRep.append {β : Bz} {sz : Nat} {a b : List (List CV)} {us vs : List Value} (h : RowsRep β sz a us) (k : RowsRep β sz b vs) (hu : us.length = a.length * sz) : RowsRep β sz (a ++ b) (us ++ vs) := fun i r hi => by
  rw [List.getElem?_append] at hi
  split at hi
  · rename_i hlt
    obtain ⟨h1, h2⟩ := h i r hi
    refine ⟨h1, fun j c v hc hv => h2 j c v hc ?_⟩
    have hj : j < sz := by rw [← h1]; exact (List.getElem?_eq_some_iff.1 hc).1
    have := Nat.mul_le_mul_right sz hlt
    rw [Nat.succ_mul] at this
    rw [List.getElem?_append_left (by omega)] at hv
    exact hv
  · rename_i hlt
    obtain ⟨h1, h2⟩ := k _ r hi
    refine ⟨h1, fun j c v hc hv => h2 j c v hc ?_⟩
    rw [List.getElem?_append_right (by rw [hu]; have := Nat.mul_le_mul_right sz (Nat.le_of_not_lt hlt); omega)] at hv
    rw [← hv, hu, Nat.sub_mul]
    congr 1
    have := Nat.mul_le_mul_right sz (Nat.le_of_not_lt hlt)
    omega
end
end Go.Ez
namespace Go.Ez
open Go.RowKit
open Go.Eb (aggT sizeT bytesT placesT pr pr_run run_sizeT run_aggT placesT_run add_none)

section
variable {E R : Type} {P : Program} {ρ : E → Operand → AV} {dst : Option Tmp} {ty : TypeId} {pos : String} {after : Array Edge} {guard : Option (Nat × Bool)}

noncomputable def appK {α : Type} (a b : List α) : (List α → Option R) → Option R := List.rec (motive := fun _ => (List α → Option R) → Option R) (fun k => k b) (fun x _ ih k => ih fun r => k (x :: r)) a
theorem appK_eq {α : Type} : ∀ (a b : List α) (k : List α → Option R), appK a b k = k (a ++ b)
  | [], b, k => rfl
  | x :: a, b, k => by
    show appK a b (fun r => k (x :: r)) = _
    rw [appK_eq a b]; rfl

noncomputable def appC (e : TypeId) (sz by_ : Nat) (isT : Bool) (gx gy : E → (AV → Option R) → Option R) : Cl E R := fun fr H nx k => gx fr fun x => gy fr fun y => srcK H sz isT y fun m rows =>
  asS x (fun p off z l oc => ifK (Nat.beq z sz) (natK (Nat.add l m) fun n => leK (Nat.mul n by_) 140737488355328 (leK n 9223372036854775807 (Option.rec (motive := fun _ => Option R)
      (ifK (Nat.beq off 0) (optK (H.get p) fun B => cellsOfK B fun ro t bsz rows0 => ifK ro none (ifK (Nat.beq bsz sz) (ifK (Nat.beq t e) (takeK rows0 l fun olds => appK olds rows fun all => Tr.setK none p H fun H1 => newK (.cells false e sz all) (fun q => .c (.s q 0 sz n none)) H1 nx k) none) none)) none)
      (fun c => ifK (Nat.ble n c)
        (ifK (Nat.beq m 0) (k (.c (.s p off z n (some c))) H nx) (ifK (Nat.beq m 1) (List.rec (motive := fun _ => Option R) none (fun r _ _ => natK (Nat.add off (Nat.mul l sz)) fun o => wrK H p o r fun H' => k (.c (.s p off z n (some c))) H' nx) rows) none))
        (contK H p off sz l fun olds => appK olds rows fun all => newK (.cells false e sz all) (fun q => .c (.s q 0 sz n none)) H nx k)) oc))) none)
  (asO x (fun c => ifK (nilS c) (leK (Nat.mul m by_) 140737488355328 (leK m 9223372036854775807 (ifK (Nat.beq m 0) (k (.c (.o (.v (.slice none 0 0)))) H nx) (newK (.cells false e sz rows) (fun q => .c (.s q 0 sz m none)) H nx k)))) none) none)

theorem nextcap_le {need old : Nat} (h : old < need) : Builtin.nextslicecap need old ≤ 2 * need := nextslicecap_le h

/-- a new row -/
theorem app_grow {t t' e : TypeId} {sz l m cap : Nat} {info : TypeInfo} {zv : Value} {base : Option Addr} {x : Value} {olds news : List Value} {w : World} (hs0 : 0 < sz) (ht : P.underlying t = some (.slice e)) (hi : P.info? e = some info) (hsize : info.size = sz) (hz : info.zero = some zv) (hzl : zv.cells.size = sz)
    (hold : (Builtin.firstCells info.size l (.slice base l cap)).run P w.drew = .ok olds.toArray w.drew) (hol : olds.length = l * sz) (hsrc : Go.Src P sz t' x m news w) (hlt : cap < l + m) (hfit : (l + m) * info.bytes ≤ 140737488355328) (h63 : l + m ≤ 9223372036854775807) :
    ∃ vs capn, (Builtin.append_ #[t, t'] ty #[.slice base l cap, x]).run P w = .ok (.slice (some ⟨w.heap.size, 0, none⟩) (l + m) capn) (w.drew.alloc (.cells vs e)) ∧ vs.size = capn * sz ∧ l + m ≤ capn ∧ ∀ (j : Nat) v, (olds ++ news)[j]? = some v → vs[j]? = some v := by
  subst hsize
  have hnl := hsrc.newsLen
  have hnext : Builtin.nextslicecap (l + m) cap * info.bytes ≤ 281474976710656 := by
    have h1 := nextcap_le hlt
    have h2 := Nat.mul_le_mul_right info.bytes h1
    rw [Nat.mul_assoc] at h2
    omega
  have hrun := run_append_grow_src w t t' ty e info zv ht hi hz base l cap olds hold x m news hsrc hlt (by omega) hnext
  have hgc : l + m ≤ grownCap w (l + m) cap e := by
    unfold grownCap
    exact Nat.le_add_right _ _
  refine ⟨_, _, hrun, ?_, hgc, fun j v hj => ?_⟩
  · rw [Array.size_append, Go.Eb.zeroCells_size, hzl]
    simp [hol, hnl]
    rw [← Nat.add_mul, ← Nat.add_mul]
    congr 1
    omega
  · rw [Array.getElem?_append_left (by simpa using (List.getElem?_eq_some_iff.1 hj).1)]
    simpa using hj
/-- in place -/
theorem app_room {t t' e : TypeId} {sz l m cap b off : Nat} {info : TypeInfo} {x : Value} {news : List Value} {w : World} (ht : P.underlying t = some (.slice e)) (hi : P.info? e = some info) (hsize : info.size = sz) (hsrc : Go.Src P sz t' x m news w) (hroom : l + m ≤ cap)
    (hst : ∃ w', (storeCells ⟨b, off + l * sz, none⟩ news).run P w = .ok () w') :
    ∃ w', (storeCells ⟨b, off + l * sz, none⟩ news).run P w = .ok () w' ∧ (Builtin.append_ #[t, t'] ty #[.slice (some ⟨b, off, none⟩) l cap, x]).run P w = .ok (.slice (some ⟨b, off, none⟩) (l + m) cap) w' := by
  subst hsize
  obtain ⟨w', hst⟩ := hst
  refine ⟨w', hst, ?_⟩
  rcases hsrc.kind with ⟨e', hk⟩ | hk <;> simp [Builtin.append_, run_underlying ht, run_underlying hk, sizeOf, typeInfo, hi, hsrc.len, hroom, hsrc.cells, add_none, hst]

theorem exec_append {c : Call} {t t' : TypeId} {x y : Operand} {ρv : Operand → Value} {w w' : World} {v : Value} (hc : c.callee = .builtin .append) (ht : c.argTypes.toList = [t, t']) (hx : c.args.toList = [x, y]) (h : (Builtin.append_ #[t, t'] ty #[ρv x, ρv y]).run P w = .ok v w') :
    (execOp ρv ⟨dst, .call c, ty, pos, after, guard⟩).run P w = .ok (.value v) w' := by
  have e1 : c.argTypes = #[t, t'] := Array.ext' (by simpa using ht)
  have e2 : c.args = #[x, y] := Array.ext' (by simpa using hx)
  simp [execOp, resolve, hc, invoke, builtin, e1, e2, h]

theorem app_sound {isT : Bool} {c : Call} {t t' e : TypeId} {s by_ : Nat} {info : TypeInfo} {z : List CV} {x y : Operand} {gx gy : E → (AV → Option R) → Option R} (hgx : Gets ρ x gx) (hgy : Gets ρ y gy) (hc : c.callee = .builtin .append) (hts : c.argTypes.toList = [t, t']) (hxs : c.args.toList = [x, y])
    (ht : P.underlying t = some (.slice e)) (hi : P.info? e = some info) (hsize : info.size = s + 1) (hby : info.bytes = by_) (hz : zeroT P e = some z) (hzl : z.length = s + 1)
    (hk : (isT = false ∧ ∃ e', P.underlying t' = some (.slice e')) ∨ (isT = true ∧ P.underlying t' = some .string)) :
    Sound P ρ ⟨dst, .call c, ty, pos, after, guard⟩ (appC e (s + 1) by_ isT gx gy) := fun fr H nx k r h => by
  unfold appC at h
  rw [hgx, hgy] at h
  obtain ⟨m, rows, h, hrl, hsrc⟩ := srcK_some (t' := t') hk h
  obtain ⟨zv, hzi, hzs⟩ : ∃ zv, info.zero = some zv ∧ zv.cells.size = s + 1 := by
    unfold zeroT at hz
    rw [hi] at hz
    simp only [Option.bind_some] at hz
    cases hzz : info.zero with
    | none => rw [hzz] at hz; cases hz
    | some zv =>
      rw [hzz] at hz
      have := (absL_rep (β := fun _ => none) hz).1
      exact ⟨zv, rfl, by simp at this; omega⟩
  -- a new row as an operation's end
  have fresh : ∀ {β : Bz} {H0 : Hz} {F : Pa → Prop} {w : World} {ρv : Operand → Value} {l cap : Nat} {base : Option Addr} {olds : List (List CV)} {ovs : List Value}, Rel β H0 F w → F nx → Ext β H w β H0 w → (∀ q, RepA β (ρ fr q) (ρv q)) → SrcAt P (s + 1) t' m rows β w (ρv y) → ρv x = .slice base l cap → (Builtin.firstCells info.size l (.slice base l cap)).run P w.drew = .ok ovs.toArray w.drew → ovs.length = l * (s + 1) → olds.length = l → RowsRep β (s + 1) olds ovs →
      cap < l + m → (l + m) * by_ ≤ 140737488355328 → l + m ≤ 9223372036854775807 →
      OpOk β H F nx w (.c (.s nx 0 (s + 1) (l + m) none)) (H0.set (some (.cells false e (s + 1) (olds ++ rows))) nx) nx.inc ((execOp ρv ⟨dst, .call c, ty, pos, after, guard⟩).run P w) := by
    intro β H0 F w ρv l cap base olds ovs hr hF hex hρ hs hv hold hol holds hOR hlt hf h63
    obtain ⟨news, hgs, hNR⟩ := hs
    obtain ⟨vs, capn, hrun, hvs, hcap, hget⟩ := app_grow (P := P) (ty := ty) (Nat.succ_pos s) ht hi hsize hzi hzs hold hol hgs hlt (by rw [hby]; exact hf) h63
    obtain ⟨hd1, hd2⟩ := hr.drew
    have hnx := hd1.fresh nx hF
    have hall := hOR.append hNR (by rw [hol, holds])
    have hlen : (olds ++ rows).length * (s + 1) ≤ vs.size := by
      rw [hvs]
      exact Nat.mul_le_mul_right _ (by simp; omega)
    obtain ⟨h1, h2⟩ := hd1.new hF (.cells vs e) vs.size (rows_new (w := w.drew) (t := e) hlen (fun i r hi => ⟨(hall i r hi).1, fun j c v hc hv => by
      have hlt2 : i * (s + 1) + j < (ovs ++ news).length := by
        have hi2 := (List.getElem?_eq_some_iff.1 hi).1
        have hj2 : j < s + 1 := by rw [← (hall i r hi).1]; exact (List.getElem?_eq_some_iff.1 hc).1
        have := Nat.mul_le_mul_right (s + 1) hi2
        rw [Nat.succ_mul] at this
        have hnl := hgs.newsLen
        simp at this ⊢
        rw [hol, hnl, ← Nat.add_mul]
        rw [holds, hrl] at this
        omega
      have := hget _ _ (List.getElem?_eq_getElem hlt2)
      rw [this] at hv
      cases hv
      exact (hall i r hi).2 j c _ hc (List.getElem?_eq_getElem hlt2)⟩) hnx) rfl
    refine ⟨_, _, _, _, exec_append hc hts hxs (by rw [hv]; exact hrun), .inl ⟨_, rfl, ?_⟩, h1, (hex.trans hd2).trans h2, fun p hp hne => ⟨hp, hne.resolve_right fun h3 => by have := Pa.num_inc nx; rw [h3] at this; omega⟩, .inr rfl⟩
    exact ⟨w.drew.heap.size, vs.size, capn, ext1_self _ _ _, rfl, hcap, (fun c hc => by cases hc), fun _ => by rw [hvs, Nat.zero_add]⟩
  rcases asS_some h with ⟨p, off, q, l, oc, e1, h⟩ | h
  · obtain ⟨hq, h⟩ := ifK_none h
    have hq := Nat.eq_of_beq_eq_true hq
    rw [natK_eq] at h
    obtain ⟨hf, h⟩ := leK_some h
    obtain ⟨h63, h⟩ := leK_some h
    have hf : (l + m) * by_ ≤ 140737488355328 := hf
    have h63 : l + m ≤ 9223372036854775807 := h63
    cases oc with
    | none =>
      obtain ⟨ho, h⟩ := ifK_none (x := optK _ _) h
      have ho := Nat.eq_of_beq_eq_true ho
      obtain ⟨B, hB, h⟩ := optK_some h
      obtain ⟨ro, tb, bsz, rows0, rfl, h⟩ := cellsOfK_some h
      rcases ifK_some h with ⟨_, h⟩ | ⟨rfl, h⟩
      · cases h
      obtain ⟨hbz, h⟩ := ifK_none h
      have hbz := Nat.eq_of_beq_eq_true hbz
      obtain ⟨hte, h⟩ := ifK_none h
      have hte := Nat.eq_of_beq_eq_true hte
      obtain ⟨hl0, h⟩ := takeK_some h
      rw [appK_eq, Tr.setK_eq, newK_eq] at h
      refine ⟨_, _, _, h, fun β w ρv F hρ hr hF => ?_⟩
      have r1 := hρ x
      rw [e1] at r1
      obtain ⟨b, N, cap, hb, hv, hle, _, hn⟩ := r1
      obtain ⟨b', N', vs, fz, hb', hw, hfz, hN, hle2, hrep⟩ := hr.blk p _ hB
      rw [hb] at hb'
      cases hb'
      have hfz := hfz rfl
      subst hfz
      subst hbz hte ho hq
      have hcap := hn rfl
      rw [Nat.zero_add] at hcap
      have hs := hsrc β F w _ hr (hρ y)
      have hmul : l * (s + 1) ≤ rows0.length * (s + 1) := Nat.mul_le_mul_right _ hl0
      obtain ⟨hsl, hsc⟩ := seg_rep (w := w) (β := β) hw (off := 0) (n := l * (s + 1)) (by omega)
      have hOR : RowsRep β (s + 1) (rows0.take l) ((vs.toList.drop 0).take (l * (s + 1))) := fun i r hi => by
        rw [List.getElem?_take] at hi
        split at hi
        · obtain ⟨h3, h4⟩ := hrep i r hi
          exact ⟨h3, fun j c v hcj hv => h4 j c v hcj (by have := (hsc _ _ hv).2; rwa [Nat.zero_add] at this)⟩
        · cases hi
      by_cases hroom : l + m ≤ cap
      · -- in place
        obtain ⟨news, hgs, hNR⟩ := hs
        have hnl := hgs.newsLen
        have hmul2 : (l + m) * (s + 1) ≤ cap * (s + 1) := Nat.mul_le_mul_right _ hroom
        have hl : l * (s + 1) + news.length ≤ vs.toList.length := by simp [hnl]; rw [Nat.add_mul] at hmul2; omega
        have hst := run_storeCells_at P b (l * (s + 1)) tb news 0 vs w hw (by simpa using hl) hgs.one
        simp only [Nat.add_zero] at hst
        obtain ⟨w', hw', hrun⟩ := app_room (P := P) (ty := ty) (off := 0) (b := b) ht hi hsize hgs hroom ⟨_, by rw [Nat.zero_add]; exact hst⟩
        rw [Nat.zero_add, hst] at hw'
        cases hw'
        have hsize2 : (vs.toList.take (l * (s + 1)) ++ news ++ vs.toList.drop (l * (s + 1) + news.length)).toArray.size = vs.size := by simp at hl ⊢; omega
        have hheap := setRow_heap w b vs (vs.toList.take (l * (s + 1)) ++ news ++ vs.toList.drop (l * (s + 1) + news.length)).toArray tb (0, 0) hw
        have hnx := hr.fresh nx hF
        have hall := hOR.append hNR (by rw [hsl, List.length_take, Nat.min_eq_left hl0])
        obtain ⟨h1, h2⟩ := hr.move hF (B := .cells false tb (s + 1) (rows0.take l ++ rows)) hB rfl hb (w' := w.setRow b _) rfl rfl rfl (by simp [World.setRow]) (fun x hx => setRow_other w b x _ hx) ⟨b, N, _, (_, 0, 0), ext1_self _ _ _, hheap, fun _ => rfl, by rw [hsize2, hN], by
          have : (rows0.take l ++ rows).length * (s + 1) = (l + m) * (s + 1) := by simp [hrl, Nat.min_eq_left hl0]
          rw [this]; omega, fun i r hi => ⟨(hall i r hi).1, fun j c v hcj hv => by
            refine Rep.le (.ext1 hnx _) ((hall i r hi).2 j c v hcj ?_)
            have hi2 := (List.getElem?_eq_some_iff.1 hi).1
            have hj2 : j < s + 1 := by rw [← (hall i r hi).1]; exact (List.getElem?_eq_some_iff.1 hcj).1
            have hm3 := Nat.mul_le_mul_right (s + 1) hi2
            rw [Nat.succ_mul] at hm3
            have hm4 : (rows0.take l ++ rows).length * (s + 1) = (l + m) * (s + 1) := by simp [hrl, Nat.min_eq_left hl0]
            rw [hm4, Nat.add_mul] at hm3
            have hv : (vs.toList.take (l * (s + 1)) ++ news ++ vs.toList.drop (l * (s + 1) + news.length))[i * (s + 1) + j]? = some v := by simpa using hv
            rw [List.getElem?_append_left (by simp at hl ⊢; omega)] at hv
            simpa using hv⟩⟩ rfl
        refine ⟨_, _, _, _, exec_append hc hts hxs (by rw [hv]; exact hrun), .inl ⟨_, rfl, ?_⟩, h1, h2, fun p hp hne => ⟨hp, hne.resolve_right fun h3 => by have := Pa.num_inc nx; rw [h3] at this; omega⟩, .inr rfl⟩
        exact ⟨b, N, cap, ext1_self _ _ _, rfl, hroom, (fun c hc => by cases hc), fun _ => by rw [Nat.zero_add]; exact hcap⟩
      · -- a new row
        obtain ⟨h1, h2⟩ := hr.drop (p := p) (fun B hB' => by rw [hB] at hB'; cases hB'; rfl)
        refine fresh h1 hF h2 hρ hs hv ?_ hsl (by simp [hl0]) hOR (by omega) hf h63
        rw [hsize]
        refine run_firstCells_some w.drew (s + 1) l ⟨b, 0, none⟩ l cap _ hsl (fun j u hj => ?_)
        rw [add_none]
        exact (hsc j u hj).1
    | some cc =>
      have h : ifK (Nat.ble (Nat.add l m) cc)
        (ifK (Nat.beq m 0) (k (.c (.s p off q (Nat.add l m) (some cc))) H nx) (ifK (Nat.beq m 1) (List.rec (motive := fun _ => Option R) none (fun r _ _ => natK (Nat.add off (Nat.mul l (s + 1))) fun o => wrK H p o r fun H' => k (.c (.s p off q (Nat.add l m) (some cc))) H' nx) rows) none))
        (contK H p off (s + 1) l fun olds => appK olds rows fun all => newK (.cells false e (s + 1) all) (fun q => .c (.s q 0 (s + 1) (Nat.add l m) none)) H nx k) = some r := h
      rcases ifK_some h with ⟨hroom, h⟩ | ⟨hroom, h⟩
      · rw [Go.Eb.bleD, decide_eq_true_eq] at hroom
        have hroom : l + m ≤ cc := hroom
        rcases ifK_some h with ⟨hm, h⟩ | ⟨_, h⟩
        · have hm := Nat.eq_of_beq_eq_true hm
          refine ⟨_, _, _, h, fun β w ρv F hρ hr hF => ?_⟩
          have r1 := hρ x
          rw [e1] at r1
          obtain ⟨b, N, cap, hb, hv, hle, hcc, _⟩ := r1
          have hcap := hcc cc rfl
          obtain ⟨news, hgs, hNR⟩ := hsrc β F w _ hr (hρ y)
          have hnews : news = [] := List.eq_nil_of_length_eq_zero (by rw [hgs.newsLen, hm]; simp)
          subst hnews
          obtain ⟨w', hw', hrun⟩ := app_room (P := P) (ty := ty) (off := off) (b := b) (l := l) ht hi hsize hgs (by omega : l + m ≤ cap) ⟨w, by simp [storeCells]⟩
          have : w' = w := by simpa [storeCells] using hw'.symm
          subst this
          exact ok_val hr (exec_append hc hts hxs (by rw [hv]; exact hrun)) ⟨b, N, cap, hb, rfl, by have : Nat.add l m = l + m := rfl; omega, (fun c hc => by cases hc; exact hcap), fun hc => by cases hc⟩
        · obtain ⟨hm, h⟩ := ifK_none h
          have hm := Nat.eq_of_beq_eq_true hm
          cases rows with
          | nil => cases h
          | cons r0 rest =>
            have h : natK (Nat.add off (Nat.mul l (s + 1))) (fun o => wrK H p o r0 fun H' => k (.c (.s p off q (Nat.add l m) (some cc))) H' nx) = some r := h
            rw [natK_eq] at h
            obtain ⟨tb, bsz, rows0, i, r', j, hp, hi', ho, hj, h9⟩ := wrK_some h
            clear h
            have hrest : rest = [] := by
              rw [hm] at hrl
              simpa using hrl
            subst hrest
            refine ⟨_, _, _, h9, fun β w ρv F hρ hr hF => ?_⟩
            have r1 := hρ x
            rw [e1] at r1
            obtain ⟨b, N, cap, hb, hv, hle, hcc, _⟩ := r1
            have hcap := hcc cc rfl
            obtain ⟨news, hgs, hNR⟩ := hsrc β F w _ hr (hρ y)
            have hn0 := hgs.newsLen
            rw [hm, Nat.one_mul] at hn0
            obtain ⟨hr0, hr0c⟩ := hNR 0 r0 rfl
            have hrep : RepL β r0 news := ⟨by rw [hr0, hn0], fun a c v h1 h2 => hr0c a c v h1 (by simpa using h2)⟩
            obtain ⟨w', hst, hrel, hext⟩ := write_ok (P := P) hr hp hb hi' hj hrep
            have ho : off + l * (s + 1) = i * bsz + j := ho
            obtain ⟨w'', hw', hrun⟩ := app_room (P := P) (ty := ty) (off := off) (b := b) (l := l) ht hi hsize hgs (by omega : l + m ≤ cap) ⟨w', by rw [ho]; exact hst⟩
            rw [ho, hst] at hw'
            cases hw'
            exact ⟨_, _, _, _, exec_append hc hts hxs (by rw [hv]; exact hrun), .inl ⟨_, rfl, b, N, cap, hb, rfl, by have : Nat.add l m = l + m := rfl; omega, (fun c hc => by cases hc; exact hcap), fun hc => by cases hc⟩, hrel, hext, fun _ hp _ => hp, .inl rfl⟩
      · rw [Go.Eb.bleD, decide_eq_false_iff_not] at hroom
        have hroom : ¬ l + m ≤ cc := hroom
        obtain ⟨olds, h, hol, hca⟩ := contK_some h
        rw [appK_eq, newK_eq] at h
        refine ⟨_, _, _, h, fun β w ρv F hρ hr hF => ?_⟩
        have r1 := hρ x
        rw [e1] at r1
        obtain ⟨b, N, cap, hb, hv, hle, hcc, _⟩ := r1
        have hcap := hcc cc rfl
        obtain ⟨ovs, ho1, ho2, ho3, ho4⟩ := hca β F w hr b N hb
        refine fresh hr hF (.refl _ _ _) hρ (hsrc β F w _ hr (hρ y)) hv ?_ ho1 hol ho2 (by omega) hf h63
        rw [hsize]
        refine run_firstCells_some w.drew (s + 1) l ⟨b, off, none⟩ l cap ovs ho1 (fun j u hj => ?_)
        rw [add_none]
        exact ho3 j u hj
  · rcases asO_some h with ⟨c0, e1, h⟩ | h
    · obtain ⟨hn, h⟩ := ifK_none h
      obtain ⟨hf, h⟩ := leK_some h
      obtain ⟨h63, h⟩ := leK_some h
      rcases ifK_some h with ⟨hm, h⟩ | ⟨hm, h⟩
      · have hm := Nat.eq_of_beq_eq_true hm
        refine ⟨_, _, _, h, fun β w ρv F hρ hr hF => ?_⟩
        have r1 := hρ x
        rw [e1, nilS_eq hn] at r1
        obtain ⟨news, hgs, hNR⟩ := hsrc β F w _ hr (hρ y)
        have hnews : news = [] := List.eq_nil_of_length_eq_zero (by rw [hgs.newsLen, hm]; simp)
        subst hnews
        subst hm
        refine ok_val hr (v := .slice none 0 0) (exec_append hc hts hxs ?_) ⟨rfl, rfl⟩
        rw [r1.1]
        rw [← hsize] at hgs
        rcases hgs.kind with ⟨e', hk⟩ | hk <;> simp [Builtin.append_, run_underlying ht, run_underlying hk, sizeOf, typeInfo, hi, hgs.len, hgs.cells]
      · rw [Go.Eb.beqD, decide_eq_false_iff_not] at hm
        rw [newK_eq] at h
        refine ⟨_, _, _, h, fun β w ρv F hρ hr hF => ?_⟩
        have r1 := hρ x
        rw [e1, nilS_eq hn] at r1
        have := fresh hr hF (.refl _ _ _) hρ (hsrc β F w _ hr (hρ y)) r1.1 (olds := []) (ovs := []) (by simp [Builtin.firstCells]) (by simp) rfl (fun i r hi => by simp at hi) (by omega) (by rw [Nat.zero_add]; exact hf) (by omega)
        simpa using this
    · cases h
end
end Go.Ez
namespace Go.Ez
open Go.RowKit
open Go.Eb (aggT sizeT bytesT placesT pr pr_run run_sizeT run_aggT placesT_run add_none keyD valOk sameK assoc RepM kindM zM kindM_spec find_map sameK_iff keyD_two keyD_s keyD_i)

section
variable {E R : Type} {P : Program} {ρ : E → Operand → AV} {dst : Option Tmp} {ty : TypeId} {pos : String} {after : Array Edge} {guard : Option (Nat × Bool)}

noncomputable def outT (v : Value) (k : TV → Option R) : Option R :=
  match v with
  | .agg cs => optK (absL cs.toList) fun l => k (.a l)
  | v => outK v fun x => match x with | .c c => k (.c c) | _ => none
theorem outT_some {v : Value} {k : TV → Option R} {r : R} (h : outT v k = some r) : ∃ x, k x = some r ∧ ∀ β, RepV β x v := by
  unfold outT at h
  split at h
  · obtain ⟨l, hl, h⟩ := optK_some h
    exact ⟨_, h, fun β => ⟨_, rfl, absL_rep hl⟩⟩
  · obtain ⟨x, h, hx⟩ := outK_some h
    split at h
    · exact ⟨_, h, fun β => hx β⟩
    · cases h
def keyZ (kd : Nat) : Value → Bool
  | .string _ => Nat.blt kd 2 || Nat.ble 4 kd
  | .int .i64 _ => !(Nat.blt kd 2 || Nat.ble 4 kd)
  | _ => false
theorem keyZ_ok {kd : Nat} {v : Value} (h : keyZ kd v = true) : MapKept.IsKey (keyD kd) v := by
  unfold keyZ at h
  split at h
  · rw [keyD_s h]; trivial
  · rw [keyD_i (by simpa using h)]; rfl
  · cases h
def valZ (kd : Nat) : Value → Bool
  | .bool _ => Nat.beq kd 0 || Nat.beq kd 2 || Nat.ble 4 kd
  | .int .i64 _ => Nat.beq kd 1 || Nat.beq kd 3 || Nat.ble 4 kd
  | _ => Nat.ble 4 kd
theorem valZ_ok {kd : Nat} {v : Value} (h : valZ kd v = true) : valOk kd v := by
  match kd with
  | 0 => unfold valZ at h; split at h <;> first | exact ⟨_, rfl⟩ | (simp at h; done) | (exfalso; revert h; decide)
  | 1 => unfold valZ at h; split at h <;> first | exact ⟨_, rfl⟩ | (simp at h; done) | (exfalso; revert h; decide)
  | 2 => unfold valZ at h; split at h <;> first | exact ⟨_, rfl⟩ | (simp at h; done) | (exfalso; revert h; decide)
  | 3 => unfold valZ at h; split at h <;> first | exact ⟨_, rfl⟩ | (simp at h; done) | (exfalso; revert h; decide)
  | n + 4 => trivial

noncomputable def mkmC (kd : Nat) : Cl E R := fun _ H nx k => newK (.mp kd []) (fun p => .c (.o (.m p))) H nx k
theorem mkm_sound {t : TypeId} {kd : Nat} (hk : kindM P t = some kd) : Sound P ρ ⟨dst, .makeMap t none, ty, pos, after, guard⟩ (mkmC (E := E) (R := R) kd) := fun fr H nx k res h => by
  unfold mkmC at h
  rw [newK_eq] at h
  refine ⟨_, _, _, h, fun β w ρv F hρ hrel hF => ?_⟩
  have hnx := hrel.fresh nx hF
  obtain ⟨h1, h2⟩ := hrel.new hF (.map #[] 0) 0 (B := .mp kd []) ⟨w.heap.size, 0, #[], 0, ext1_self _ _ _, heap_new _ _, ⟨(fun e he => by simp at he), (fun k v _ hv => by simp [assoc] at hv), by simp⟩⟩ rfl
  exact ⟨_, _, _, _, by simp [execOp, Instr.makeMap], .inl ⟨.map (some w.heap.size), rfl, ⟨_, _, ext1_self _ _ _, rfl⟩⟩, h1, h2, fun p hp hne => ⟨hp, hne.resolve_right fun h3 => by have := Pa.num_inc nx; rw [h3] at this; omega⟩, .inr rfl⟩

noncomputable def asM (x : AV) (k : Pa → Option R) : Option R := asO x (fun c => C0.rec (motive := fun _ => Option R) (fun _ => none) (fun _ _ => none) (fun _ _ _ => none) k (fun _ _ => none) c) none
theorem asM_some {x : AV} {k : Pa → Option R} {r : R} (h : asM x k = some r) : ∃ p, x = .c (.o (.m p)) ∧ k p = some r := by
  rcases asO_some h with ⟨c, e, h⟩ | h
  · cases c with
    | m p => exact ⟨p, e, h⟩
    | _ => cases h
  · cases h
noncomputable def mapOfK (B : Bk) (k : Nat → List (Value × Value) → Option R) : Option R := Bk.rec (motive := fun _ => Option R) (fun _ _ _ _ => none) (fun _ _ _ => none) k B
theorem mapOfK_some {B : Bk} {k : Nat → List (Value × Value) → Option R} {res : R} (h : mapOfK B k = some res) : ∃ kd l, B = .mp kd l ∧ k kd l = some res := by
  cases B <;> first | exact ⟨_, _, rfl, h⟩ | cases h
noncomputable def lkuC (P : Program) (kd : Nat) (t : TypeId) (ok : Bool) (g gi : E → (AV → Option R) → Option R) : Cl E R := fun fr H nx k => g fr fun x => gi fr fun i => asM x fun p => optK (H.get p) fun B => mapOfK B fun kd' l => ifK (Nat.beq kd kd')
  (optK (concA i) fun key => ifK (keyZ kd key) (outT ((assoc l key).getD (zM P t)) fun z => Bool.rec (motive := fun _ => Option R) (k z.av H nx) (boolK (assoc l key).isSome fun b => match b with | .c b => k (.tup [z, .c b]) H nx | _ => none) ok) none) none
theorem lku_sound {t : TypeId} {y i : Operand} {ok : Bool} {kd : Nat} {g gi : E → (AV → Option R) → Option R} (hg : Gets ρ y g) (hgi : Gets ρ i gi) (hk : kindM P t = some kd) : Sound P ρ ⟨dst, .lookup t y i ok, ty, pos, after, guard⟩ (lkuC P kd t ok g gi) := fun fr H nx k r h => by
  unfold lkuC at h
  rw [hg, hgi] at h
  obtain ⟨p, e1, h⟩ := asM_some h
  obtain ⟨B, hB, h⟩ := optK_some h
  obtain ⟨kd', l, rfl, h⟩ := mapOfK_some h
  obtain ⟨hkd, h⟩ := ifK_none h
  have hkd := Nat.eq_of_beq_eq_true hkd
  obtain ⟨key, hkey, h⟩ := optK_some h
  obtain ⟨hkz, h⟩ := ifK_none h
  obtain ⟨z, h, hz⟩ := outT_some h
  have hisk := keyZ_ok hkz
  have core : ∀ β w (ρv : Operand → Value) (F : Pa → Prop), (∀ y, RepA β (ρ fr y) (ρv y)) → Rel β H F w → (execOp ρv ⟨dst, .lookup t y i ok, ty, pos, after, guard⟩).run P w = .ok (.value (if ok then .tuple #[(assoc l key).getD (zM P t), .bool (assoc l key).isSome] else (assoc l key).getD (zM P t))) w := by
    intro β w ρv F hρ hr
    obtain ⟨kt, et, inf, hu, hku, hinf, hzz, _⟩ := kindM_spec hk
    have r1 := hρ y
    rw [e1] at r1
    obtain ⟨b, N, hb, hv⟩ := r1
    obtain ⟨b', N', es, clock, hb', hheap, hM⟩ := hr.blk p _ hB
    rw [hb] at hb'
    cases hb'
    rw [← hkd] at hM
    have hke := concA_eq hkey (hρ i)
    have hck : (Instr.checkKey es.isEmpty 10000 kt key).run P w = .ok () w := MapKept.run_checkKey hku hisk es.isEmpty 9999
    have hzr : (zeroValue et).run P w = .ok (zM P t) w := by simp [zeroValue, typeInfo, hinf, hzz]
    have hrun : (Instr.lookup t (.map (some b)) key ok).run P w = .ok (if ok then .tuple #[(assoc l key).getD (zM P t), .bool (assoc l key).isSome] else (assoc l key).getD (zM P t)) w := by
      rcases find_map hM hisk with ⟨f1, f2, _⟩ | ⟨j, e, f1, f2, f3, f4, f5⟩
      · simp [Instr.lookup, run_underlying hu, MapKept.run_getObj_map hheap, hck, MapKept.run_findKey hku f1, hzr, f2, Result.andThen]
      · simp [Instr.lookup, run_underlying hu, MapKept.run_getObj_map hheap, hck, MapKept.run_findKey hku f1, f4, Result.andThen]
    simp [execOp, hv, hke, hrun]
  cases ok with
  | false => exact ⟨_, _, _, h, fun β w ρv F hρ hr hF => ok_val hr (core β w ρv F hρ hr) (hz β).av⟩
  | true =>
    have h : boolK (assoc l key).isSome (fun b => match b with | .c b => k (.tup [z, .c b]) H nx | _ => none) = some r := h
    rw [boolK_eq] at h
    refine ⟨_, _, _, h, fun β w ρv F hρ hr hF => ok_val hr (core β w ρv F hρ hr) ⟨_, rfl, rfl, fun i p x h1 h2 => ?_⟩⟩
    match i, h1, h2 with
    | 0, h1, h2 => simp at h1 h2; subst h1 h2; exact hz β
    | 1, h1, h2 => simp at h1 h2; subst h1 h2; rfl
    | n + 2, h1, h2 => simp at h1

/-- keys, numbered -/
def rankV : Value → Nat
  | .string s => packL s.data.toList
  | .int _ n => (n + (half : Int)).toNat
  | _ => 0
theorem rankV_same {a b : Value} (h : sameK a b = true) : rankV a = rankV b := by
  unfold sameK at h
  split at h
  · have := eq_of_beq h
    simp only [rankV, this]
  · have := eq_of_beq h
    simp only [rankV, this]
  · cases h
/-- an entry more, behind those of lower number -/
def insM (key val : Value) : List (Value × Value) → List (Value × Value)
  | [] => [(key, val)]
  | (a, b) :: r => bif Nat.blt (rankV a) (rankV key) then (a, b) :: insM key val r else (key, val) :: (a, b) :: r
theorem assoc_insM (key val q : Value) : ∀ l, assoc (insM key val l) q = assoc ((key, val) :: l) q
  | [] => rfl
  | (a, b) :: r => by
    simp only [insM]
    cases hb : Nat.blt (rankV a) (rankV key) with
    | false => rfl
    | true =>
      simp only [cond_true, assoc]
      rw [assoc_insM key val q r]
      simp only [assoc]
      cases h1 : sameK q a with
      | false => cases sameK q key <;> rfl
      | true =>
        cases h2 : sameK q key with
        | false => rfl
        | true =>
          have e1 := rankV_same h1
          have e2 := rankV_same h2
          rw [← e1, ← e2, Go.Eb.bltD] at hb
          simp at hb
theorem RepM_insM {kd : Nat} {key val : Value} {l : List (Value × Value)} {es : List MapEntry} (h : RepM kd ((key, val) :: l) es) : RepM kd (insM key val l) es :=
  ⟨fun e he => ⟨(h.1 e he).1, (h.1 e he).2.1, by rw [assoc_insM]; exact (h.1 e he).2.2⟩, fun k v hk hv => h.2.1 k v hk (by rw [← assoc_insM]; exact hv), h.2.2⟩
theorem insM_comm {k v k' v' : Value} (h : rankV k ≠ rankV k') : ∀ l, insM k v (insM k' v' l) = insM k' v' (insM k v l)
  | [] => by
    simp only [insM]
    rcases Nat.lt_or_gt_of_ne h with h1 | h1
    · have a1 : Nat.blt (rankV k) (rankV k') = true := by rw [Go.Eb.bltD]; simpa using h1
      have a2 : Nat.blt (rankV k') (rankV k) = false := by rw [Go.Eb.bltD]; simp; omega
      rw [a1, a2]; rfl
    · have a1 : Nat.blt (rankV k') (rankV k) = true := by rw [Go.Eb.bltD]; simpa using h1
      have a2 : Nat.blt (rankV k) (rankV k') = false := by rw [Go.Eb.bltD]; simp; omega
      rw [a1, a2]; rfl
  | (a, b) :: r => by
    have ih := insM_comm h (v := v) (v' := v') r
    simp only [insM]
    rcases Nat.lt_or_gt_of_ne h with h1 | h1
    · have a1 : Nat.blt (rankV k) (rankV k') = true := by rw [Go.Eb.bltD]; simpa using h1
      have a2 : Nat.blt (rankV k') (rankV k) = false := by rw [Go.Eb.bltD]; simp; omega
      cases b1 : Nat.blt (rankV a) (rankV k) with
      | true =>
        have b2 : Nat.blt (rankV a) (rankV k') = true := by rw [Go.Eb.bltD] at b1 ⊢; simp at b1 ⊢; omega
        simp only [b2, cond_true, insM, b1, ih]
      | false =>
        cases b2 : Nat.blt (rankV a) (rankV k') with
        | true => simp only [cond_true, cond_false, insM, b1, b2, a1, a2]
        | false => simp only [cond_true, cond_false, insM, b1, b2, a1, a2]
    · have a1 : Nat.blt (rankV k') (rankV k) = true := by rw [Go.Eb.bltD]; simpa using h1
      have a2 : Nat.blt (rankV k) (rankV k') = false := by rw [Go.Eb.bltD]; simp; omega
      cases b1 : Nat.blt (rankV a) (rankV k') with
      | true =>
        have b2 : Nat.blt (rankV a) (rankV k) = true := by rw [Go.Eb.bltD] at b1 ⊢; simp at b1 ⊢; omega
        simp only [b2, cond_true, insM, b1, ih]
      | false =>
        cases b2 : Nat.blt (rankV a) (rankV k) with
        | true => simp only [cond_true, cond_false, insM, b1, b2, a1, a2]
        | false => simp only [cond_true, cond_false, insM, b1, b2, a1, a2]

noncomputable def mupC (kd : Nat) (g gk gv : E → (AV → Option R) → Option R) : Cl E R := fun fr H nx k => g fr fun x => gk fr fun i => gv fr fun v => asM x fun p => optK (H.get p) fun B => mapOfK B fun kd' l => ifK (Nat.beq kd kd')
  (optK (concA i) fun key => ifK (keyZ kd key) (optK (concA v) fun val => ifK (valZ kd val) (Tr.setK (some (.mp kd (insM key val l))) p H fun H' => k .u H' nx) none) none) none
theorem mup_sound {t : TypeId} {m kk v : Operand} {kd : Nat} {g gk gv : E → (AV → Option R) → Option R} {op : Op} (hop : op = .mapUpdate t m kk v ∨ op = .insert t m kk v) (hg : Gets ρ m g) (hgk : Gets ρ kk gk) (hgv : Gets ρ v gv) (hk : kindM P t = some kd) : Sound P ρ ⟨dst, op, ty, pos, after, guard⟩ (mupC kd g gk gv) := fun fr H nx k r h => by
  unfold mupC at h
  rw [hg, hgk, hgv] at h
  obtain ⟨p, e1, h⟩ := asM_some h
  obtain ⟨B, hB, h⟩ := optK_some h
  obtain ⟨kd', l, rfl, h⟩ := mapOfK_some h
  obtain ⟨hkd, h⟩ := ifK_none h
  have hkd := Nat.eq_of_beq_eq_true hkd
  obtain ⟨key, hkey, h⟩ := optK_some h
  obtain ⟨hkz, h⟩ := ifK_none h
  obtain ⟨val, hval, h⟩ := optK_some h
  obtain ⟨hvz, h⟩ := ifK_none h
  rw [Tr.setK_eq] at h
  have hisk := keyZ_ok hkz
  have hvok := valZ_ok hvz
  refine ⟨_, _, _, h, fun β w ρv F hρ hr hF => ?_⟩
  obtain ⟨kt, et, inf, hu, hku, hinf, hzz, _⟩ := kindM_spec hk
  have r1 := hρ m
  rw [e1] at r1
  obtain ⟨b, N, hb, hv⟩ := r1
  obtain ⟨b', N', es, clock, hb', hheap, hM⟩ := hr.blk p _ hB
  rw [hb] at hb'
  cases hb'
  rw [← hkd] at hM
  have hke := concA_eq hkey (hρ kk)
  have hve := concA_eq hval (hρ v)
  have hck : (Instr.checkKey false 10000 kt key).run P w = .ok () w := MapKept.run_checkKey hku hisk false 9999
  have a1 : assoc ((key, val) :: l) key = some val := by
    simp only [assoc]
    rw [(sameK_iff hisk hisk (keyD_two kd)).2 rfl]; rfl
  have a2 : ∀ q, MapKept.IsKey (keyD kd) q → q ≠ key → assoc ((key, val) :: l) q = assoc l q := fun q hq hne => by
    simp only [assoc]
    cases hs : sameK q key with
    | false => rfl
    | true => exact absurd ((sameK_iff hq hisk (keyD_two kd)).1 hs) hne
  have hlt := hr.lt p b N hb
  have fin : ∀ (es' : Array MapEntry) (clock' : Nat), (Instr.mapUpdate t (.map (some b)) key val).run P w = .ok () { w with heap := w.heap.setIfInBounds b (.map es' clock') } → RepM kd ((key, val) :: l) es'.toList →
      OpOk β H F nx w .u (H.set (some (.mp kd (insM key val l))) p) nx ((execOp ρv ⟨dst, op, ty, pos, after, guard⟩).run P w) := fun es' clock' hrun hM' => by
    obtain ⟨h1, h2⟩ := hr.turn (w' := { w with heap := w.heap.setIfInBounds b (.map es' clock') }) hB rfl hb rfl rfl rfl (by simp) (fun x hx => by simp [Array.getElem?_setIfInBounds_ne (Ne.symm hx)]) (B := .mp kd (insM key val l)) ⟨b, N, es', clock', hb, by simp [hlt], RepM_insM hM'⟩ rfl
    refine ⟨.skip, _, β, F, ?_, .inr ⟨rfl, rfl⟩, h1, h2, fun _ hp _ => hp, .inl rfl⟩
    rcases hop with rfl | rfl <;> simp [execOp, hv, hke, hve, hrun]
  rcases find_map hM hisk with ⟨f1, f2, f3⟩ | ⟨j, e, f1, f2, f3, f4, f5⟩
  · refine fin (es.push { key := key, val := val, born := clock }) (clock + 1) ?_ ⟨fun e he => ?_, fun q x hq hx => ?_, ?_⟩
    · simp [Instr.mapUpdate, run_underlying hu, MapKept.run_getObj_map hheap, hck, MapKept.run_findKey hku f1, MapKept.run_setObj_map _ hheap, Result.andThen]
    · rw [Array.toList_push, List.mem_append] at he
      rcases he with he | he
      · obtain ⟨i1, i2, i3⟩ := hM.1 e he
        exact ⟨i1, i2, by rw [a2 _ i1 (f3 e he)]; exact i3⟩
      · simp at he
        subst he
        exact ⟨hisk, hvok, a1⟩
    · by_cases e : q = key
      · exact ⟨{ key := key, val := val, born := clock }, by rw [Array.toList_push]; exact List.mem_append_right _ (by simp), e.symm⟩
      · rw [a2 q hq e] at hx
        obtain ⟨e', he', hk'⟩ := hM.2.1 q x hq hx
        exact ⟨e', by rw [Array.toList_push]; exact List.mem_append_left _ he', hk'⟩
    · rw [Array.toList_push, List.map_append, List.nodup_append]
      refine ⟨hM.2.2, by simp, fun q hq r hr => ?_⟩
      simp at hr
      subst hr
      obtain ⟨e, he, rfl⟩ := List.mem_map.1 hq
      exact f3 e he
  · have hj : j < es.toList.length := (List.getElem?_eq_some_iff.1 f2).1
    have hej : es.toList[j] = e := (List.getElem?_eq_some_iff.1 f2).2
    have hej' : es[j]? = some e := by rw [← Array.getElem?_toList]; exact f2
    have hst : (Instr.keyThatStays key key).run P w = .ok key w := MapKept.run_keyThatStays hisk
    have hmod : (es.modify j fun e => { e with key := key, val := val }).toList = es.toList.modify j fun e => { e with key := key, val := val } := by simp
    have hkeys : (es.toList.modify j fun e => { e with key := key, val := val }).map (·.key) = es.toList.map (·.key) := by
      apply List.ext_getElem
      · simp
      · intro n h1 h2
        simp only [List.getElem_map, List.getElem_modify]
        split
        · rename_i hjn
          subst hjn
          rw [hej]; exact f3.symm
        · rfl
    refine fin (es.modify j fun e => { e with key := key, val := val }) clock ?_ ⟨fun e' he' => ?_, fun q x hq hx => ?_, ?_⟩
    · simp [Instr.mapUpdate, run_underlying hu, MapKept.run_getObj_map hheap, hck, MapKept.run_findKey hku f1, MapKept.run_setObj_map _ hheap, Result.andThen, hej', f3, hst]
    · rw [hmod] at he'
      obtain ⟨i, hi', hie⟩ := List.getElem_of_mem he'
      have hi2 : i < es.toList.length := by simpa using hi'
      rw [List.getElem_modify] at hie
      split at hie
      · subst hie
        exact ⟨hisk, hvok, a1⟩
      · rename_i hne
        subst hie
        obtain ⟨i1, i2, i3⟩ := hM.1 _ (List.getElem_mem hi2)
        refine ⟨i1, i2, ?_⟩
        rw [a2 _ i1 ?_]
        · exact i3
        · intro hkk
          have hnd := List.pairwise_iff_getElem.1 hM.2.2
          have he : ∀ (n m : Nat) (hn : n < es.toList.length) (hm : m < es.toList.length), n < m → es.toList[n].key ≠ es.toList[m].key := fun n m hn hm hlt => by
            have := hnd n m (by simpa using hn) (by simpa using hm) hlt
            simpa only [List.getElem_map] using this
          rcases Nat.lt_trichotomy i j with hlt | heq | hlt
          · exact he i j hi2 hj hlt (by rw [hkk, hej, f3])
          · exact hne heq.symm
          · exact he j i hj hi2 hlt (by rw [hkk, hej, f3])
    · rw [hmod]
      have hin : q ∈ es.toList.map (·.key) := by
        by_cases e2 : q = key
        · rw [e2, ← f3, ← hej]; exact List.mem_map_of_mem (List.getElem_mem hj)
        · rw [a2 q hq e2] at hx
          obtain ⟨e', he', hk'⟩ := hM.2.1 q x hq hx
          rw [← hk']; exact List.mem_map_of_mem he'
      rw [← hkeys] at hin
      obtain ⟨e', he', hk'⟩ := List.mem_map.1 hin
      exact ⟨e', he', hk'⟩
    · rw [hmod, hkeys]; exact hM.2.2

/-! make -/
noncomputable def repK {α : Type} (x : α) (n : Nat) : (List α → Option R) → Option R := Nat.rec (motive := fun _ => (List α → Option R) → Option R) (fun k => k []) (fun _ ih k => ih fun l => k (x :: l)) n
theorem repK_eq {α : Type} (x : α) : ∀ (n : Nat) (k : List α → Option R), repK x n k = k (List.replicate n x)
  | 0, k => rfl
  | n + 1, k => by
    show repK x n (fun l => k (x :: l)) = _
    rw [repK_eq x n]; rfl
noncomputable def mksC (e : TypeId) (sz by_ : Nat) (z : List CV) (gl gc : E → (AV → Option R) → Option R) : Cl E R := fun fr H nx k => gl fr fun l => gc fr fun c => asI l (fun l => posK l fun l => asI c (fun c => posK c fun c => leK l c (leK (Nat.mul c by_) 140737488355328 (leK c 9223372036854775807 (repK z c fun rows => newK (.cells false e sz rows) (fun p => .c (.s p 0 sz l (some c))) H nx k)))) none) none
theorem mks_sound {t e : TypeId} {l c : Operand} {s by_ : Nat} {info : TypeInfo} {z : List CV} {gl gc : E → (AV → Option R) → Option R} (hl : Gets ρ l gl) (hc : Gets ρ c gc) (ht : P.underlying t = some (.slice e)) (hi : P.info? e = some info) (hsize : info.size = s + 1) (hby : info.bytes = by_) (hz : zeroT P e = some z) (hzl : z.length = s + 1) :
    Sound P ρ ⟨dst, .makeSlice t l c, ty, pos, after, guard⟩ (mksC e (s + 1) by_ z gl gc) := fun fr H nx k r h => by
  unfold mksC at h
  rw [hl, hc] at h
  rcases asI_some h with ⟨a, e1, h⟩ | h
  · obtain ⟨m, hm, h⟩ := posK_some h
    rcases asI_some h with ⟨b, e2, h⟩ | h
    · obtain ⟨n, hn, h⟩ := posK_some h
      obtain ⟨hle, h⟩ := leK_some h
      obtain ⟨hf, h⟩ := leK_some h
      obtain ⟨h63, h⟩ := leK_some h
      rw [repK_eq, newK_eq] at h
      refine ⟨_, _, _, h, fun β w ρv F hρ hr hF => ?_⟩
      have hf : n * by_ ≤ 140737488355328 := hf
      have r1 := hρ l
      rw [e1] at r1
      obtain ⟨_, q1⟩ := r1
      rw [hm] at q1
      have r2 := hρ c
      rw [e2] at r2
      obtain ⟨_, q2⟩ := r2
      rw [hn] at q2
      obtain ⟨zv, hzi, hzr⟩ : ∃ zv, info.zero = some zv ∧ RepL β z zv.cells.toList := by
        unfold zeroT at hz
        rw [hi] at hz
        simp only [Option.bind_some] at hz
        cases hzz : info.zero with
        | none => rw [hzz] at hz; cases hz
        | some zv => rw [hzz] at hz; exact ⟨zv, rfl, absL_rep hz⟩
      have hzs : zv.cells.size = s + 1 := by have := hzr.1; simp at this; omega
      have hmul : info.bytes * n ≤ 140737488355328 := by rw [hby, Nat.mul_comm]; exact hf
      have hmi : (info.bytes : Int) * (n : Int) ≤ 281474976710656 := by
        have : ((info.bytes * n : Nat) : Int) ≤ 140737488355328 := by omega
        rw [Int.natCast_mul] at this
        omega
      have hrun := run_make (P := P) w t e info zv ht hi hzi .i64 .i64 m n (by omega) (by omega) hmi (by omega)
      rw [hsize] at hrun
      refine ok_new hr hF (vs := (Array.range (n * (s + 1))).map (zv.cells[· % zv.cells.size]!)) (v := .slice (some ⟨w.heap.size, 0, none⟩) m n) (by simp) (fun i r hi => ?_) ?_ ⟨w.heap.size, _, n, ext1_self _ _ _, rfl, hle, (fun c hc => by cases hc; rfl), fun hc => by cases hc⟩
      · rw [List.getElem?_replicate] at hi
        split at hi
        · rename_i hin
          simp at hi; subst hi
          refine ⟨hzl, fun j c v hc hv => ?_⟩
          have hj : j < s + 1 := by rw [← hzl]; exact (List.getElem?_eq_some_iff.1 hc).1
          have hlt := row_le (sz := s + 1) hin (Nat.le_refl _)
          simp [show i * (s + 1) + j < n * (s + 1) by omega] at hv
          rw [hzs] at hv
          have hmod : (i * (s + 1) + j) % (s + 1) = j := by rw [Nat.mul_comm, Nat.mul_add_mod, Nat.mod_eq_of_lt hj]
          rw [hmod] at hv
          refine hzr.2 j c v hc ?_
          rw [← hv]
          simp [show j < zv.cells.size by omega]
        · cases hi
      · simp only [execOp, q1, q2]
        rw [Sem.run_bind, hrun]
        simp [madeCells]
    · cases h
  · cases h

/-! the smaller, the greater -/
noncomputable def mmC (mn : Bool) (gx gy : E → (AV → Option R) → Option R) : Cl E R := fun fr H nx k => gx fr fun x => gy fr fun y => asI x (fun a => asI y (fun b => Bool.rec (motive := fun _ => Option R) (k (.c (.i (bif mn then a else b))) H nx) (k (.c (.i (bif mn then b else a))) H nx) (Nat.ble b a)) none) none
end
end Go.Ez
namespace Go.Ez
open Go.RowKit
open Go.Eb (aggT sizeT bytesT placesT pr pr_run run_sizeT run_aggT placesT_run add_none)

section
variable {E R : Type} {P : Program} {ρ : E → Operand → AV} {dst : Option Tmp} {ty : TypeId} {pos : String} {after : Array Edge} {guard : Option (Nat × Bool)}

theorem storeCells_shift (b o k : Nat) : ∀ (vs : List Value) (i : Nat), storeCells ⟨b, o, none⟩ vs (i + k) = storeCells ⟨b, o + k, none⟩ vs i
  | [], i => rfl
  | v :: r, i => by
    have ih := storeCells_shift b o k r (i + 1)
    simp only [storeCells, add_none]
    rw [show i + 1 + k = i + k + 1 by omega] at ih
    rw [ih, show o + (i + k) = o + k + i by omega]
theorem storeCells_append {b o : Nat} : ∀ (us vs : List Value) (i : Nat) (w w' : World), (storeCells ⟨b, o, none⟩ us i).run P w = .ok () w' → (storeCells ⟨b, o, none⟩ (us ++ vs) i).run P w = (storeCells ⟨b, o, none⟩ vs (i + us.length)).run P w'
  | [], vs, i, w, w', h => by
    have : w' = w := by simpa [storeCells] using h.symm
    subst this
    simp
  | u :: r, vs, i, w, w', h => by
    simp only [storeCells, Sem.run_bind, List.cons_append] at h ⊢
    cases h1 : (store (Addr.add ⟨b, o, none⟩ i) u).run P w with
    | halt q w1 => rw [h1] at h; cases h
    | ok q w1 =>
      rw [h1] at h
      simp only [Result.andThen_ok] at h ⊢
      rw [storeCells_append r vs (i + 1) w1 w' h]
      congr 1
      simp
      rw [show i + 1 + r.length = i + (r.length + 1) by omega]

noncomputable def wrsK (sz : Nat) (p : Pa) (new : List (List CV)) : Nat → Hz → (Hz → Option R) → Option R := List.rec (motive := fun _ => Nat → Hz → (Hz → Option R) → Option R) (fun _ H k => k H) (fun r _ ih o H k => wrK H p o r fun H' => natK (Nat.add o sz) fun o' => ih o' H' k) new
theorem wrsK_some {sz : Nat} {p : Pa} : ∀ {new : List (List CV)} {o : Nat} {H : Hz} {k : Hz → Option R} {res : R}, wrsK sz p new o H k = some res →
    ∃ H', k H' = some res ∧ ∀ (β : Bz) (nx : Pa → Prop) (w : World) (b N : Nat) (news : List Value), Rel β H nx w → β p = some (b, N) → RowsRep β sz new news → news.length = new.length * sz →
      ∃ w', (storeCells ⟨b, o, none⟩ news).run P w = .ok () w' ∧ Rel β H' nx w' ∧ Ext β H w β H' w'
  | [], o, H, k, res, h => ⟨H, h, fun β nx w b N news hr _ _ hl => by
      have : news = [] := List.eq_nil_of_length_eq_zero (by simpa using hl)
      subst this
      exact ⟨w, by simp [storeCells], hr, .refl _ _ _⟩⟩
  | r :: rest, o, H, k, res, h => by
    have h' : wrK H p o r (fun H' => natK (Nat.add o sz) fun o' => wrsK sz p rest o' H' k) = some res := h
    obtain ⟨t, bsz, rows, i, r0, j, hp, hi, ho, hj, h2⟩ := wrK_some h'
    rw [natK_eq] at h2
    obtain ⟨H', hk, hall⟩ := wrsK_some h2
    refine ⟨H', hk, fun β nx w b N news hr hb hR hl => ?_⟩
    simp only [List.length_cons, Nat.succ_mul] at hl
    obtain ⟨hr0, hr0c⟩ := hR 0 r rfl
    have hsplit : news = news.take sz ++ news.drop sz := (List.take_append_drop sz news).symm
    have hrep : RepL β r (news.take sz) := ⟨by simp; omega, fun a c v h1 h2 => by
      rw [List.getElem?_take] at h2
      split at h2
      · exact hr0c a c v h1 (by simpa using h2)
      · cases h2⟩
    obtain ⟨w1, hst, hrel, hext⟩ := write_ok (P := P) hr hp hb hi hj hrep
    rw [← ho] at hst
    have hR' : RowsRep β sz rest (news.drop sz) := fun q rr hq => by
      obtain ⟨h3, h4⟩ := hR (q + 1) rr (by simpa using hq)
      refine ⟨h3, fun j c v hc hv => h4 j c v hc ?_⟩
      rw [List.getElem?_drop] at hv
      rw [Nat.succ_mul, show q * sz + sz + j = sz + (q * sz + j) by omega]
      exact hv
    obtain ⟨w2, hst2, hrel2, hext2⟩ := hall β nx w1 b N (news.drop sz) hrel hb hR' (by simp; omega)
    refine ⟨w2, ?_, hrel2, hext.trans hext2⟩
    rw [hsplit, storeCells_append _ _ 0 w w1 hst]
    have hlen : (news.take sz).length = sz := by simp; omega
    rw [hlen, Nat.zero_add]
    have := storeCells_shift b o sz (news.drop sz) 0
    rw [Nat.zero_add] at this
    rw [this]
    exact hst2

theorem exec_copy {c : Call} {t t' : TypeId} {x y : Operand} {ρv : Operand → Value} {w w' : World} {v : Value} (hc : c.callee = .builtin .copy) (ht : c.argTypes.toList = [t, t']) (hx : c.args.toList = [x, y]) (h : (Builtin.copy_ #[t, t'] ty #[ρv x, ρv y]).run P w = .ok v w') :
    (execOp ρv ⟨dst, .call c, ty, pos, after, guard⟩).run P w = .ok (.value v) w' := by
  have e1 : c.argTypes = #[t, t'] := Array.ext' (by simpa using ht)
  have e2 : c.args = #[x, y] := Array.ext' (by simpa using hx)
  simp [execOp, resolve, hc, invoke, builtin, e1, e2, h]

noncomputable def cpyC' (sz : Nat) (gd gs : E → (AV → Option R) → Option R) : Cl E R := fun fr H nx k => gd fr fun d => gs fr fun s => asS d (fun p off z l _ => ifK (Nat.beq z sz)
  (asS s (fun p' off' z' m _ => ifK (Nat.beq z' sz) (natK (Nat.min m l) fun n => contK H p' off' sz n fun new => wrsK sz p new off H fun H' => goK n fun z => k z H' nx) none) (asO s (fun c => ifK (nilS c) (goK 0 fun z => k z H nx) none) none)) none) none
theorem cpy_sound {c : Call} {t t' e e' : TypeId} {sz : Nat} {x y : Operand} {gx gy : E → (AV → Option R) → Option R} (hgx : Gets ρ x gx) (hgy : Gets ρ y gy) (hc : c.callee = .builtin .copy) (hts : c.argTypes.toList = [t, t']) (hxs : c.args.toList = [x, y])
    (ht : P.underlying t = some (.slice e)) (hsz : sizeT P e = some sz) : Sound P ρ ⟨dst, .call c, ty, pos, after, guard⟩ (cpyC' sz gx gy) := fun fr H nx k r h => by
  unfold cpyC' at h
  rw [hgx, hgy] at h
  rcases asS_some h with ⟨p, off, z, l, oc, e1, h⟩ | h
  · obtain ⟨hz, h⟩ := ifK_none h
    rcases asS_some h with ⟨p', off', z', m, oc', e2, h⟩ | h
    · obtain ⟨hz', h⟩ := ifK_none h
      rw [natK_eq] at h
      obtain ⟨new, h, hnl, hca⟩ := contK_some h
      obtain ⟨H', h, hall⟩ := wrsK_some (P := P) h
      obtain ⟨q, h, hq⟩ := goK_some h
      refine ⟨_, _, _, h, fun β w ρv F hρ hr hF => ?_⟩
      have r1 := hρ x
      rw [e1] at r1
      obtain ⟨b, N, cap, hb, hv, _⟩ := r1
      have r2 := hρ y
      rw [e2] at r2
      obtain ⟨b', N', cap', hb', hv', hle', _⟩ := r2
      obtain ⟨news, hn1, hn2, hn3, hn4⟩ := hca β F w hr b' N' hb'
      obtain ⟨w', hst, hrel, hext⟩ := hall β F w b N news hr hb hn2 (by rw [hn1, hnl])
      refine ⟨_, w', β, F, exec_copy hc hts hxs (v := .int .i64 (Nat.min m l : Nat)) ?_, .inl ⟨_, rfl, hq β⟩, hrel, hext, fun _ hp _ => hp, .inl rfl⟩
      rw [hv, hv']
      have hl : (Builtin.firstCells sz (Nat.min m l) (.slice (some ⟨b', off', none⟩) m cap')).run P w = .ok news.toArray w := by
        have := run_loadCells_list (P := P) w ⟨b', off', none⟩ news (fun j u hj => by rw [add_none]; exact hn3 j u hj)
        rw [hn1] at this
        simp [Builtin.firstCells, this]
      simp [Builtin.copy_, run_underlying ht, Builtin.lenOf, run_sizeT hsz, hl, hst, goInt]
    · rcases asO_some h with ⟨c0, e2, h⟩ | h
      · obtain ⟨hn, h⟩ := ifK_none h
        obtain ⟨q, h, hq⟩ := goK_some h
        refine ⟨_, _, _, h, fun β w ρv F hρ hr hF => ?_⟩
        have r1 := hρ x
        rw [e1] at r1
        obtain ⟨b, N, cap, hb, hv, _⟩ := r1
        have r2 := hρ y
        rw [e2, nilS_eq hn] at r2
        refine ok_val hr (v := .int .i64 0) (exec_copy hc hts hxs ?_) (hq β)
        rw [hv, r2.1]
        simp [Builtin.copy_, run_underlying ht, Builtin.lenOf, Builtin.firstCells, run_sizeT hsz, storeCells, goInt]
      · cases h
  · cases h

/-! the smaller, the greater -/
theorem mm_sound {mn : Bool} {c : Call} {x y : Operand} {gx gy : E → (AV → Option R) → Option R} (hgx : Gets ρ x gx) (hgy : Gets ρ y gy) (hc : c.callee = .builtin (bif mn then .min else .max)) (hxs : c.args.toList = [x, y]) : Sound P ρ ⟨dst, .call c, ty, pos, after, guard⟩ (mmC mn gx gy) := fun fr H nx k r h => by
  unfold mmC at h
  rw [hgx, hgy] at h
  rcases asI_some h with ⟨a, e1, h⟩ | h
  · rcases asI_some h with ⟨b, e2, h⟩ | h
    · have ea : c.args = #[x, y] := Array.ext' (by simpa using hxs)
      have h : k (.c (.i (bif Nat.ble b a then (bif mn then b else a) else (bif mn then a else b)))) H nx = some r := by
        cases hb : Nat.ble b a <;> rw [hb] at h <;> exact h
      refine ⟨_, _, _, h, fun β w ρv F hρ hr hF => ?_⟩
      have r1 := hρ x
      rw [e1] at r1
      obtain ⟨l1, q1⟩ := r1
      have r2 := hρ y
      rw [e2] at r2
      obtain ⟨l2, q2⟩ := r2
      rw [Go.Eb.bleD]
      cases mn with
      | true =>
        refine ok_val hr (v := .int .i64 (if (b : Int) - half < (a : Int) - half then (b : Int) - half else (a : Int) - half)) (by simp [execOp, resolve, hc, invoke, builtin, ea, Builtin.min_, Builtin.min2, q1, q2]) ?_
        by_cases hba : b ≤ a
        · rw [decide_eq_true hba]
          refine ⟨l2, ?_⟩
          by_cases hlt : b < a
          · rw [if_pos (by omega)]; rfl
          · have : b = a := by omega
            subst this
            rw [if_neg (by omega)]; rfl
        · rw [decide_eq_false hba]
          exact ⟨l1, by rw [if_neg (by omega)]; rfl⟩
      | false =>
        refine ok_val hr (v := .int .i64 (if (b : Int) - half > (a : Int) - half then (b : Int) - half else (a : Int) - half)) (by simp [execOp, resolve, hc, invoke, builtin, ea, Builtin.max_, Builtin.max2, q1, q2]) ?_
        by_cases hba : b ≤ a
        · rw [decide_eq_true hba]
          exact ⟨l1, by rw [if_neg (by omega)]; rfl⟩
        · rw [decide_eq_false hba]
          exact ⟨l2, by rw [if_pos (by omega)]; rfl⟩
    · cases h
  · cases h
end
end Go.Ez
namespace Go.Ez
open Go.RowKit
open Go.Eb (aggT sizeT bytesT placesT kindM zM)

/-- the frame, and what a region's own slots hold, the last first -/
inductive En where
  | mk (fr : Fz) (l : List AV)
def idx (t : Nat) : List Nat → Option Nat
  | [] => none
  | d :: r => bif Nat.beq t d then some 0 else match idx t r with | some i => some (i + 1) | none => none
/-- a slot; nt: the frame's size; lm: the slots that live in one region alone; loc: those of them that are written -/
def viewT (nt lm : Nat) (loc : List Nat) (e : En) (t : Nat) : AV := match e with
  | .mk fr l => match idx t loc with
    | some i => l.getD i .u
    | none => bif Nat.testBit lm t then .u else bif Nat.blt t nt then slot t fr else .u
/-- an operand; G: so many package variables are there -/
def opA (G nt lm : Nat) (loc : List Nat) (e : En) : Operand → AV
  | .tmp t => viewT nt lm loc e t
  | .const v => absV v
  | .global g => bif Nat.blt g G then .c (.p (Pa.of g) 0) else .u
  | .func f => .c (.o (.f f [] []))
def GlobOk (G : Nat) (β : Bz) : Prop := ∀ g, g < G → ∃ N, β (Pa.of g) = some (g, N)

noncomputable def nthC (R : Type) : Nat → N8.Gt (List AV) AV (Option R)
  | 0 => .mk fun l k => List.rec (motive := fun _ => Option R) (k .u) (fun x _ _ => k x) l
  | i + 1 => match nthC R i with | .mk g => .mk fun l k => List.rec (motive := fun _ => Option R) (k .u) (fun _ r _ => g r k) l
theorem nthC_ok (R : Type) : ∀ i, ∃ f, nthC R i = .mk f ∧ ∀ l k, f l k = k (l.getD i .u)
  | 0 => ⟨_, rfl, fun l k => by cases l <;> rfl⟩
  | i + 1 => by
    obtain ⟨f, e, h⟩ := nthC_ok R i
    refine ⟨fun l k => List.rec (motive := fun _ => Option R) (k .u) (fun _ r _ => f r k) l, by simp only [nthC, e], fun l k => ?_⟩
    cases l with
    | nil => rfl
    | cons x r =>
      show f r k = _
      rw [h]; simp

section
variable (R : Type) (G nt lm : Nat) (loc : List Nat)
noncomputable def opd : Operand → Og En R
  | .tmp t => match idx t loc with
    | some i => (match nthC R i with | .mk f => .mk fun e k => En.rec (motive := fun _ => Option R) (fun _ l => f l k) e)
    | none => bif Nat.testBit lm t then .mk fun _ k => k .u else bif Nat.blt t nt then (match slotC (Option R) t with | .mk f => .mk fun e k => En.rec (motive := fun _ => Option R) (fun fr _ => f fr k) e) else .mk fun _ k => k .u
  | .const v => constC En R v
  | .global g => bif Nat.blt g G then .mk fun _ k => k (.c (.p (Pa.of g) 0)) else .mk fun _ k => k .u
  | .func f => .mk fun _ k => k (.c (.o (.f f [] [])))
theorem opd_ok (x : Operand) : ∃ g, opd R G nt lm loc x = .mk g ∧ ∀ fr k, g fr k = k (opA G nt lm loc fr x) := by
  cases x with
  | tmp t =>
    simp only [opd, opA]
    cases hi : idx t loc with
    | some i =>
      obtain ⟨f, e, h⟩ := nthC_ok R i
      refine ⟨fun e k => En.rec (motive := fun _ => Option R) (fun _ l => f l k) e, by simp only [e], fun en k => ?_⟩
      cases en with
      | mk fr l => simp only [viewT, hi]; exact h l k
    | none =>
      simp only
      cases ht : Nat.testBit lm t with
      | true => exact ⟨_, rfl, fun en k => by cases en; simp only [viewT, hi, ht]; rfl⟩
      | false =>
        cases hb : Nat.blt t nt with
        | false => exact ⟨_, rfl, fun en k => by cases en; simp only [viewT, hi, ht, hb]; rfl⟩
        | true =>
          obtain ⟨f, e, h⟩ := slotC_ok (Option R) t
          refine ⟨fun e k => En.rec (motive := fun _ => Option R) (fun fr _ => f fr k) e, by rw [e]; rfl, fun en k => ?_⟩
          cases en with
          | mk fr l => simp only [viewT, hi, ht, hb]; exact h fr k
  | const v => exact constC_ok En R v
  | global g =>
    simp only [opd, opA]
    cases Nat.blt g G <;> exact ⟨_, rfl, fun fr k => rfl⟩
  | func f => exact ⟨_, rfl, fun fr k => rfl⟩
end

section
variable (R : Type) (P : Program) (G nt lm : Nat) (loc : List Nat)

/-- with an operand's function, made once -/
noncomputable def withO {T : Type} (x : Operand) (f : (En → (AV → Option R) → Option R) → T) : T := Og.rec (motive := fun _ => T) f (opd R G nt lm loc x)
noncomputable def ogs : List Operand → List (En → (AV → Option R) → Option R)
  | [] => []
  | x :: r => withO R G nt lm loc x fun g => g :: ogs r
noncomputable def ogo : Option Operand → Option (En → (AV → Option R) → Option R)
  | none => none
  | some x => withO R G nt lm loc x fun g => some g
def noC : Cl En R := fun _ _ _ _ => none
/-- strictly -/
noncomputable def listK {α T : Type} (l : List α) : (List α → T) → T := List.rec (motive := fun _ => (List α → T) → T) (fun k => k []) (fun x _ ih k => ih fun r => k (x :: r)) l

noncomputable def partsC (place : Nat → Option (Nat × Nat)) : List (Nat × Operand) → Option (List (Nat × Nat × (En → (AV → Option R) → Option R)))
  | [] => some []
  | (i, x) :: r => match place i, partsC place r with
    | some (o, n), some l => withO R G nt lm loc x fun g => natK o fun o => natK n fun n => some ((o, n, g) :: l)
    | _, _ => none

def isBT (P : Program) (t : TypeId) : Bool := match P.underlying t with | some .bool => true | _ => false
def isSlT (P : Program) (t : TypeId) : Bool := match P.underlying t with | some (.slice _) => true | _ => false
noncomputable def binC (op : BinOp) (t : TypeId) (x y : Operand) : Ci En R :=
  withO R G nt lm loc x fun g1 => withO R G nt lm loc y fun g2 => match op with
    | .add => .mk (biK addI addW (fun a b k => addS P t x y a b k) g1 g2)
    | .sub => .mk (biK subI subW (fun a b k => binS P .sub t x y a b k) g1 g2)
    | .mul => .mk (biK mulI mulW (fun a b k => binS P .mul t x y a b k) g1 g2)
    | .eql => .mk (biK (cmpI fEq) (cmpW fEq) (fun a b k => eqS P false (isBT P t) (Go.Eb.isPtrT P t) (isSlT P t) t x y a b k) g1 g2)
    | .neq => .mk (biK (cmpI fNe) (cmpW fNe) (fun a b k => eqS P true (isBT P t) (Go.Eb.isPtrT P t) (isSlT P t) t x y a b k) g1 g2)
    | .lss => .mk (biK (cmpI fLt) (cmpW fLt) (fun a b k => binS P .lss t x y a b k) g1 g2)
    | .leq => .mk (biK (cmpI fLe) (cmpW fLe) (fun a b k => binS P .leq t x y a b k) g1 g2)
    | .gtr => .mk (biK (cmpI fGt) (cmpW fGt) (fun a b k => binS P .gtr t x y a b k) g1 g2)
    | .geq => .mk (biK (cmpI fGe) (cmpW fGe) (fun a b k => binS P .geq t x y a b k) g1 g2)
    | .and => .mk (biV andW (fun a b k => binS P .and t x y a b k) g1 g2)
    | .shl => .mk (shC false (fun a b k => binS P .shl t x y a b k) g1 g2)
    | .shr => .mk (shC true (fun a b k => binS P .shr t x y a b k) g1 g2)
    | op => .mk fun fr H nx k => g1 fr fun a => g2 fr fun b => binS P op t x y a b fun z => k z H nx

noncomputable def callB (c : Call) (b : Builtin) : Ci En R :=
  match b, c.argTypes.toList, c.args.toList with
  | .len, [t], [x] => (match P.underlying t with
    | some (.slice _) => withO R G nt lm loc x fun g => .mk (lenSC g)
    | some .string => withO R G nt lm loc x fun g => .mk (lenTC g)
    | some (.array n _) => natK n fun n => .mk (lenAC n)
    | _ => .mk (noC R))
  | .append, [t, t'], [x, y] => (match P.underlying t with
    | some (.slice e) => (match P.info? e, zeroT P e with
      | some info, some z => natK info.size fun s => natK info.bytes fun by_ => bif Nat.beq (lenR z) s && Nat.blt 0 s then withO R G nt lm loc x fun gx => withO R G nt lm loc y fun gy => (match P.underlying t' with | some (.slice _) => .mk (appC e s by_ false gx gy) | some .string => .mk (appC e s by_ true gx gy) | _ => .mk (noC R)) else .mk (noC R)
      | _, _ => .mk (noC R))
    | _ => .mk (noC R))
  | .copy, [t, _], [x, y] => (match P.underlying t with
    | some (.slice e) => (match sizeT P e with
      | some s => natK s fun s => withO R G nt lm loc x fun gx => withO R G nt lm loc y fun gy => .mk (cpyC' s gx gy)
      | none => .mk (noC R))
    | _ => .mk (noC R))
  | .min, _, [x, y] => withO R G nt lm loc x fun gx => withO R G nt lm loc y fun gy => .mk (mmC true gx gy)
  | .max, _, [x, y] => withO R G nt lm loc x fun gx => withO R G nt lm loc y fun gy => .mk (mmC false gx gy)
  | _, _, _ => .mk (noC R)

/-- an operation that calls no function -/
noncomputable def opC (op : Op) : Ci En R :=
  match op with
  | .move x => withO R G nt lm loc x fun g => .mk (mvC g)
  | .assign x => withO R G nt lm loc x fun g => .mk (mvC g)
  | .pick c a b => withO R G nt lm loc c fun gc => withO R G nt lm loc a fun ga => withO R G nt lm loc b fun gb => .mk (pickC gc ga gb)
  | .alloc t => (match zeroT P t with | some z => listK z fun z => .mk (allocC t z) | none => .mk (noC R))
  | .box t x => withO R G nt lm loc x fun g => .mk (boxC t g)
  | .build t ps => (match P.underlying t, zeroT P t with
    | some (.struct fields), some z => (match placesT P fields.toList with
      | some pl => (match partsC R G nt lm loc (fun i => pl[i]?) ps.toList with | some gs => listK z fun z => listK gs fun gs => .mk (buildC z gs) | none => .mk (noC R))
      | none => .mk (noC R))
    | some (.array _ e), some z => (match sizeT P e with
      | some s => (match partsC R G nt lm loc (fun i => some (i * s, s)) ps.toList with | some gs => listK z fun z => listK gs fun gs => .mk (buildC z gs) | none => .mk (noC R))
      | none => .mk (noC R))
    | _, _ => .mk (noC R))
  | .buildSlice t len ps => (match P.underlying t with
    | some (.slice e) => (match sizeT P e, zeroT P e with
      | some s, some z => (match partsC R G nt lm loc (fun i => some (i * s, s)) ps.toList with
        | some gs => bif Nat.beq (lenR z) s && Nat.blt 0 s && Nat.ble (len * s) 16777216 then natK s fun s => listK (List.replicate len z).flatten fun z => listK gs fun gs => .mk (bslC e s len z gs) else .mk (noC R)
        | none => .mk (noC R))
      | _, _ => .mk (noC R))
    | _ => .mk (noC R))
  | .load t a => (match aggT P t, sizeT P t with | some ag, some n => natK n fun n => withO R G nt lm loc a fun g => Bool.rec (motive := fun _ => Ci En R) (.mk (loadC n false g)) (.mk (loadC n true g)) ag | _, _ => .mk (noC R))
  | .store t a x => (match sizeT P t with | some n => natK n fun n => withO R G nt lm loc a fun ga => withO R G nt lm loc x fun gx => .mk (storeC n ga gx) | none => .mk (noC R))
  | .nilCheck x => withO R G nt lm loc x fun g => .mk (nilC g)
  | .binOp op t x y _ => binC R P G nt lm loc op t x y
  | .unOp .not _ x => withO R G nt lm loc x fun g => .mk (notC P g)
  | .unOp .neg _ x => withO R G nt lm loc x fun g => .mk (negC P g)
  | .unOp op _ x => withO R G nt lm loc x fun g => .mk (unC P op g)
  | .convert s t x => withO R G nt lm loc x fun g => (match P.underlying s, P.underlying t with
    | some _, some (.int kd) => .mk (cviC P kd s t g)
    | _, _ => .mk (convC P s t g))
  | .makeFunc (.func f) a b => listK (ogs R G nt lm loc a.toList) fun g1 => listK (ogs R G nt lm loc b.toList) fun g2 => .mk (mkfC f g1 g2)
  | .makeMap t none => (match kindM P t with | some kd => natK kd fun kd => .mk (mkmC kd) | none => .mk (noC R))
  | .makeSlice t l c => (match P.underlying t with
    | some (.slice e) => (match P.info? e, zeroT P e with
      | some info, some z => natK info.size fun s => natK info.bytes fun by_ => bif Nat.beq (lenR z) s && Nat.blt 0 s then listK z fun z => withO R G nt lm loc l fun gl => withO R G nt lm loc c fun gc => .mk (mksC e s by_ z gl gc) else .mk (noC R)
      | _, _ => .mk (noC R))
    | _ => .mk (noC R))
  | .slice t x lo hi none => withO R G nt lm loc x fun g => (match P.underlying t with
    | some .string => .mk (slTC g (ogo R G nt lm loc lo) (ogo R G nt lm loc hi))
    | some (.slice e) => (match sizeT P e with | some s => natK s fun s => .mk (slSC s g (ogo R G nt lm loc lo) (ogo R G nt lm loc hi)) | none => .mk (noC R))
    | some (.array n e) => (match sizeT P e with | some s => natK n fun n => natK s fun s => .mk (slAC n s g (ogo R G nt lm loc lo) (ogo R G nt lm loc hi)) | none => .mk (noC R))
    | _ => .mk (noC R))
  | .fieldAddr s x f => (match P.underlying s with
    | some (.struct fields) => (match fields[f]? with
      | some fd => (match sizeT P fd.type with
        | some (_ + 1) => natK fd.offset fun o => withO R G nt lm loc x fun g => .mk (fadC o g)
        | _ => .mk (noC R))
      | none => .mk (noC R))
    | _ => .mk (noC R))
  | .field s x f => (match P.underlying s with
    | some (.struct fields) => (match fields[f]? with
      | some fd => (match aggT P fd.type, sizeT P fd.type with
        | some ag, some n => natK fd.offset fun o => natK n fun n => withO R G nt lm loc x fun g => Bool.rec (motive := fun _ => Ci En R) (.mk (fldC o n false g)) (.mk (fldC o n true g)) ag
        | _, _ => .mk (noC R))
      | none => .mk (noC R))
    | _ => .mk (noC R))
  | .indexAddr t x i => withO R G nt lm loc x fun g => withO R G nt lm loc i fun gi => (match P.underlying t with
    | some (.array len e) => (match sizeT P e with | some s => natK len fun len => natK s fun s => .mk (ixpC len s g gi) | none => .mk (noC R))
    | some (.slice e) => (match sizeT P e with | some s => natK s fun s => .mk (ixsC s g gi) | none => .mk (noC R))
    | _ => .mk (noC R))
  | .index t x i => withO R G nt lm loc x fun g => withO R G nt lm loc i fun gi => (match P.underlying t with
    | some (.array len e) => (match aggT P e, sizeT P e with | some ag, some s => natK len fun len => natK s fun s => Bool.rec (motive := fun _ => Ci En R) (.mk (ixaC len s false g gi)) (.mk (ixaC len s true g gi)) ag | _, _ => .mk (noC R))
    | some .string => .mk (ixtC g gi)
    | _ => .mk (noC R))
  | .lookup t x i ok => (match kindM P t with | some kd => natK kd fun kd => withO R G nt lm loc x fun g => withO R G nt lm loc i fun gi => .mk (lkuC P kd t ok g gi) | none => .mk (noC R))
  | .mapUpdate t m k v => (match kindM P t with | some kd => natK kd fun kd => withO R G nt lm loc m fun g => withO R G nt lm loc k fun gk => withO R G nt lm loc v fun gv => .mk (mupC kd g gk gv) | none => .mk (noC R))
  | .insert t m k v => (match kindM P t with | some kd => natK kd fun kd => withO R G nt lm loc m fun g => withO R G nt lm loc k fun gk => withO R G nt lm loc v fun gv => .mk (mupC kd g gk gv) | none => .mk (noC R))
  | .extract x i => withO R G nt lm loc x fun g => .mk (extC i g)
  | .call { callee := .builtin b, args, argTypes } => callB R P G nt lm loc ⟨.builtin b, args, argTypes⟩ b
  | _ => .mk (noC R)
end

/-! calls -/
/-- what a function gives back -/
inductive Rz where
  | mk (x : AV) (H : Hz) (nx : Pa)
abbrev Oz := FuncId → List AV → Hz → Pa → Option Rz

def cpA : Cp → AV
  | .v x => absV x
  | .p h o => .c (.p h o)

section
variable (R : Type) (G nt : Nat)
noncomputable def argsK : List (En → (AV → Option R) → Option R) → En → (List AV → Option R) → Option R
  | [], _, k => k []
  | g :: r, fr, k => g fr fun x => argsK r fr fun l => k (x :: l)
noncomputable def cpsK : List Cp → (List AV → Option R) → Option R
  | [], k => k []
  | .p h o :: r, k => cpsK r fun l => k (.c (.p h o) :: l)
  | .v x :: r, k => outK x fun y => cpsK r fun l => k (y :: l)
/-- a function's value, and what it holds -/
noncomputable def fnK (x : AV) (k : FuncId → List Cp → List Cp → Option R) : Option R := asO x (fun c => C0.rec (motive := fun _ => Option R) (fun _ => none) (fun _ _ => none) k (fun _ => none) (fun _ _ => none) c) none
noncomputable def callC (orc : Oz) (gf : En → (AV → Option R) → Option R) (gs : List (En → (AV → Option R) → Option R)) : Cl En R := fun fr H nx k => gf fr fun v => fnK R v fun f a b => argsK R gs fr fun xs => cpsK R a fun a => cpsK R b fun b => appK xs b fun l => appK a l fun l =>
  optK (orc f l H nx) fun z => Rz.rec (motive := fun _ => Option R) k z
end

/-! regions -/
inductive Cs (R : Type) where
  | mk (f : En → Hz → Pa → (En → Hz → Pa → Option R) → Option R)
inductive Pe (R : Type) where
  | mk (g : AV → En → (En → Option R) → Option R)
def locD (lm : Nat) (dst : Option Nat) (loc : List Nat) : List Nat := match dst with | none => loc | some d => bif Nat.testBit lm d then d :: loc else loc
noncomputable def putE (R : Type) (nt lm : Nat) (dst : Option Nat) : Pe R := match dst with
  | none => .mk fun _ e k => k e
  | some d => bif Nat.blt d nt then bif Nat.testBit lm d then .mk fun x e k => En.rec (motive := fun _ => Option R) (fun fr l => k (.mk fr (x :: l))) e
    else (match setC (Option R) d with | .mk g => .mk fun x e k => En.rec (motive := fun _ => Option R) (fun fr l => g x fr fun fr' => k (.mk fr' l)) e) else .mk fun _ _ _ => none

section
variable (R : Type) (P : Program) (G nt lm : Nat) (orc : Oz)
noncomputable def opCC (loc : List Nat) (o : Oper) : Ci En R :=
  match o.op with
  | .call ⟨.value v, args, _⟩ => withO R G nt lm loc v fun gf => listK (ogs R G nt lm loc args.toList) fun gs => .mk (callC R orc gf gs)
  | op => opC R P G nt lm loc op
/-- what a guard says -/
noncomputable def grdK (want : Bool) (c : AV) (yes no : Option R) : Option R :=
  asB c (fun b => ifK (bif want then b else !b) yes no) (AV.rec (motive := fun _ => Option R) (fun _ => none) (fun _ => none) (fun l => List.rec (motive := fun _ => Option R) no (fun _ _ _ => none) l) none c)
/-- an operation with its slot and its guard -/
noncomputable def stC (loc : List Nat) (ops : Array Oper) (o : Oper) : Cs R :=
  Ci.rec (motive := fun _ => Cs R) (fun f => Pe.rec (motive := fun _ => Cs R) (fun g => match o.guard with
    | none => .mk fun e H nx k => f e H nx fun x H' nx' => g x e fun e' => k e' H' nx'
    | some (j, want) => match (ops[j]?).bind (·.dst) with
      | none => .mk fun _ _ _ _ => none
      | some d => withO R G nt lm loc (.tmp d) fun gd => .mk fun e H nx k => gd e fun c => grdK R want c (f e H nx fun x H' nx' => g x e fun e' => k e' H' nx') (g (.tup []) e fun e' => k e' H nx)) (putE R nt lm o.dst)) (opCC R P G nt lm orc loc o)
noncomputable def opsC (ops : Array Oper) : List Nat → List Oper → Cs R
  | _, [] => .mk fun fr H nx k => k fr H nx
  | loc, [o] => stC R P G nt lm orc loc ops o
  | loc, o :: r => Cs.rec (motive := fun _ => Cs R) (fun f => Cs.rec (motive := fun _ => Cs R) (fun g => .mk fun e H nx k => f e H nx fun e' H' nx' => g e' H' nx' k) (opsC ops (locD lm o.dst loc) r)) (stC R P G nt lm orc loc ops o)
end

end Go.Ez
namespace Go.Ez
open Go.RowKit
open Go.Eb (aggT sizeT bytesT placesT kindM zM)

theorem listK_eq {α T : Type} : ∀ (l : List α) (k : List α → T), listK l k = k l
  | [], k => rfl
  | x :: r, k => by
    show listK r (fun r => k (x :: r)) = _
    rw [listK_eq r]

section
variable {R : Type} {P : Program} {G nt lm : Nat} {loc : List Nat} {dst : Option Tmp} {ty : TypeId} {pos : String} {after : Array Edge} {guard : Option (Nat × Bool)}

/-- the operand is read as the environment has it -/
def Ag (G nt lm : Nat) (loc : List Nat) (ρ : En → Operand → AV) (x : Operand) : Prop := ∀ e, ρ e x = opA G nt lm loc e x
theorem withO_eq (R : Type) {G nt lm : Nat} {loc : List Nat} {ρ : En → Operand → AV} {x : Operand} (hx : Ag G nt lm loc ρ x) : ∃ g, Gets (R := R) ρ x g ∧ ∀ {T : Type} (F : (En → (AV → Option R) → Option R) → T), withO R G nt lm loc x F = F g := by
  obtain ⟨g, e, h⟩ := opd_ok R G nt lm loc x
  exact ⟨g, fun fr k => by rw [h, hx], fun F => by unfold withO; rw [e]⟩
theorem ogs_eq (R : Type) {G nt lm : Nat} {loc : List Nat} {ρ : En → Operand → AV} : ∀ xs : List Operand, (∀ x ∈ xs, Ag G nt lm loc ρ x) → ∃ gs, All2 (Gets (R := R) ρ) xs gs ∧ ogs R G nt lm loc xs = gs
  | [], _ => ⟨[], .nil, rfl⟩
  | x :: r, hx => by
    obtain ⟨gs, h, e⟩ := ogs_eq R r (fun y hy => hx y (List.mem_cons_of_mem _ hy))
    obtain ⟨g, hg, eg⟩ := withO_eq R (hx x (by simp))
    exact ⟨g :: gs, .cons hg h, by simp only [ogs]; rw [eg, e]⟩
theorem ogo_eq (R : Type) {G nt lm : Nat} {loc : List Nat} {ρ : En → Operand → AV} (x : Option Operand) (hx : ∀ y, x = some y → Ag G nt lm loc ρ y) : Gets' (R := R) ρ x (ogo R G nt lm loc x) := by
  cases x with
  | none => trivial
  | some x =>
    obtain ⟨g, hg, eg⟩ := withO_eq R (hx x rfl)
    simp only [ogo]
    rw [eg]
    exact hg
theorem noC_sound {ρ : En → Operand → AV} {o : Oper} : Sound P ρ o (noC R) := fun fr H nx k r h => by cases h
theorem partsC_some {ρ : En → Operand → AV} {place : Nat → Option (Nat × Nat)} : ∀ {ps : List (Nat × Operand)} {gs : List (Nat × Nat × (En → (AV → Option R) → Option R))}, (∀ p ∈ ps, Ag G nt lm loc ρ p.2) → partsC R G nt lm loc place ps = some gs → All2 (fun p g => place p.1 = some (g.1, g.2.1) ∧ Gets (R := R) ρ p.2 g.2.2) ps gs
  | [], gs, _, h => by simp [partsC] at h; subst h; exact .nil
  | (i, x) :: r, gs, hx, h => by
    simp only [partsC] at h
    split at h
    · rename_i o n l hp hl
      obtain ⟨g, hg, eg⟩ := withO_eq R (hx (i, x) (by simp))
      rw [eg, natK_eq, natK_eq] at h
      simp at h; subst h
      exact .cons ⟨hp, hg⟩ (partsC_some (fun p hp => hx p (List.mem_cons_of_mem _ hp)) hl)
    · cases h

theorem binC_sound {ρ : En → Operand → AV} {op : BinOp} {t t' : TypeId} {x y : Operand} {f : Cl En R} (hx : Ag G nt lm loc ρ x) (hy : Ag G nt lm loc ρ y) (h : binC R P G nt lm loc op t x y = .mk f) : Sound P ρ ⟨dst, .binOp op t x y t', ty, pos, after, guard⟩ f := by
  unfold binC at h
  obtain ⟨g1, hg1, e1⟩ := withO_eq R hx
  obtain ⟨g2, hg2, e2⟩ := withO_eq R hy
  rw [e1, e2] at h
  have slow : ∀ (op : BinOp) (fr : En) (H : Hz) (nx : Pa) (k : AV → Option R) (r : R), binS P op t x y (ρ fr x) (ρ fr y) k = some r → ∃ z, k z = some r ∧ StepOk P ⟨dst, .binOp op t x y t', ty, pos, after, guard⟩ (ρ fr) H nx z H nx := fun op fr H nx k r h => binS_ok (ρ := ρ) h
  have eqs : ∀ (neg : Bool) (fr : En) (H : Hz) (nx : Pa) (k : AV → Option R) (r : R), eqS P neg (isBT P t) (Go.Eb.isPtrT P t) (isSlT P t) t x y (ρ fr x) (ρ fr y) k = some r → ∃ z, k z = some r ∧ StepOk P ⟨dst, .binOp (bif neg then .neq else .eql) t x y t', ty, pos, after, guard⟩ (ρ fr) H nx z H nx := by
    intro neg fr H nx k r h
    refine eqS_ok (ρ := ρ) (fun hb => ?_) (fun hp => hp) (fun hs => ?_) fr H nx k r h
    · unfold isBT at hb
      split at hb
      · assumption
      · cases hb
    · unfold isSlT at hs
      split at hs
      · exact ⟨_, by assumption⟩
      · cases hs
  have other : ∀ (op : BinOp), Sound P ρ ⟨dst, .binOp op t x y t', ty, pos, after, guard⟩ (fun fr H nx k => g1 fr fun a => g2 fr fun b => binS (R := R) P op t x y a b fun z => k z H nx) := by
    intro op fr H nx k r h
    simp only at h
    rw [hg1, hg2] at h
    obtain ⟨z, h, hz⟩ := slow op fr H nx _ r h
    exact ⟨z, H, nx, h, hz⟩
  cases op with
  | add => cases h; exact biK_sound hg1 hg2 addI_fast addW_fast _ (fun fr H nx k r h => addS_ok fr H nx k r h)
  | sub => cases h; exact biK_sound hg1 hg2 subI_fast subW_fast _ (slow .sub)
  | mul => cases h; exact biK_sound hg1 hg2 mulI_fast mulW_fast _ (slow .mul)
  | eql => cases h; exact biK_sound hg1 hg2 (cmp_fastI (by simp) fEq_ok) (cmp_fastW (by simp) fEq_ok) _ (eqs false)
  | neq => cases h; exact biK_sound hg1 hg2 (cmp_fastI (by simp) fNe_ok) (cmp_fastW (by simp) fNe_ok) _ (eqs true)
  | lss => cases h; exact biK_sound hg1 hg2 (cmp_fastI (by simp) fLt_ok) (cmp_fastW (by simp) fLt_ok) _ (slow .lss)
  | leq => cases h; exact biK_sound hg1 hg2 (cmp_fastI (by simp) fLe_ok) (cmp_fastW (by simp) fLe_ok) _ (slow .leq)
  | gtr => cases h; exact biK_sound hg1 hg2 (cmp_fastI (by simp) fGt_ok) (cmp_fastW (by simp) fGt_ok) _ (slow .gtr)
  | geq => cases h; exact biK_sound hg1 hg2 (cmp_fastI (by simp) fGe_ok) (cmp_fastW (by simp) fGe_ok) _ (slow .geq)
  | shl => cases h; exact sh_sound (shr := false) hg1 hg2 _ (slow .shl)
  | shr => cases h; exact sh_sound (shr := true) hg1 hg2 _ (slow .shr)
  | and => cases h; exact biV_sound hg1 hg2 andW_fast _ (slow .and)
  | _ => cases h; exact other _

theorem callB_sound {ρ : En → Operand → AV} {c : Call} {b : Builtin} {f : Cl En R} (hc : c.callee = .builtin b) (hx : ∀ x ∈ c.args.toList, Ag G nt lm loc ρ x) (h : callB R P G nt lm loc c b = .mk f) : Sound P ρ ⟨dst, .call c, ty, pos, after, guard⟩ f := by
  have one : ∀ {t : TypeId} {l : List TypeId} {a : Array TypeId}, a.toList = t :: l → a[0]? = some t := fun h => by
    rw [← Array.getElem?_toList, h]; rfl
  have oneO : ∀ {t : Operand} {l : List Operand} {a : Array Operand}, a.toList = t :: l → a[0]? = some t := fun h => by
    rw [← Array.getElem?_toList, h]; rfl
  unfold callB at h
  split at h
  · rename_i t x hts hxs
    obtain ⟨g, hg, eg⟩ := withO_eq R (hx x (by rw [hxs]; simp))
    split at h
    · rename_i e hu
      rw [eg] at h; cases h
      exact lenS_sound hg hc (one hts) (oneO hxs) hu
    · rename_i hu
      rw [eg] at h; cases h
      exact lenT_sound hg hc (one hts) (oneO hxs) hu
    · rename_i n e hu
      rw [natK_eq] at h; cases h
      exact lenA_sound hc (one hts) (oneO hxs) hu
    · cases h; exact noC_sound
  · rename_i t t' x y hts hxs
    obtain ⟨gx, hgx, ex⟩ := withO_eq R (hx x (by rw [hxs]; simp))
    obtain ⟨gy, hgy, ey⟩ := withO_eq R (hx y (by rw [hxs]; simp))
    split at h
    · rename_i e hu
      split at h
      · rename_i info z hi hz
        rw [natK_eq, natK_eq, ex, ey] at h
        cases hcnd : (Nat.beq (lenR z) info.size && Nat.blt 0 info.size) with
        | false => rw [hcnd] at h; cases h; exact noC_sound
        | true =>
          rw [hcnd] at h
          simp only [cond_true] at h
          simp only [Bool.and_eq_true, Go.Eb.bltD, Go.Eb.beqD, decide_eq_true_eq, lenR_eq] at hcnd
          obtain ⟨s, hs⟩ : ∃ s, info.size = s + 1 := ⟨info.size - 1, by omega⟩
          split at h
          · rename_i e' hu'
            cases h
            rw [hs]
            exact app_sound hgx hgy hc hts hxs hu hi hs rfl hz (by omega) (.inl ⟨rfl, e', hu'⟩)
          · rename_i hu'
            cases h
            rw [hs]
            exact app_sound hgx hgy hc hts hxs hu hi hs rfl hz (by omega) (.inr ⟨rfl, hu'⟩)
          · cases h; exact noC_sound
      · cases h; exact noC_sound
    · cases h; exact noC_sound
  · rename_i t t' x y hts hxs
    obtain ⟨gx, hgx, ex⟩ := withO_eq R (hx x (by rw [hxs]; simp))
    obtain ⟨gy, hgy, ey⟩ := withO_eq R (hx y (by rw [hxs]; simp))
    split at h
    · rename_i e hu
      split at h
      · rename_i s hs
        rw [natK_eq, ex, ey] at h; cases h
        exact cpy_sound (e' := 0) hgx hgy hc hts hxs hu hs
      · cases h; exact noC_sound
    · cases h; exact noC_sound
  · rename_i x y hxs
    obtain ⟨gx, hgx, ex⟩ := withO_eq R (hx x (by rw [hxs]; simp))
    obtain ⟨gy, hgy, ey⟩ := withO_eq R (hx y (by rw [hxs]; simp))
    rw [ex, ey] at h; cases h
    exact mm_sound (mn := true) hgx hgy hc hxs
  · rename_i x y hxs
    obtain ⟨gx, hgx, ex⟩ := withO_eq R (hx x (by rw [hxs]; simp))
    obtain ⟨gy, hgy, ey⟩ := withO_eq R (hx y (by rw [hxs]; simp))
    rw [ex, ey] at h; cases h
    exact mm_sound (mn := false) hgx hgy hc hxs
  · cases h; exact noC_sound

theorem opC_sound {ρ : En → Operand → AV} {op : Op} {f : Cl En R} (hx : ∀ x ∈ op.operands.toList, Ag G nt lm loc ρ x) (h : opC R P G nt lm loc op = .mk f) : Sound P ρ ⟨dst, op, ty, pos, after, guard⟩ f := by
  unfold opC at h
  split at h
  · rename_i x
    obtain ⟨g, hg, e⟩ := withO_eq R (hx x (by simp [Op.operands]))
    rw [e] at h; cases h; exact move_sound hg
  · rename_i x
    obtain ⟨g, hg, e⟩ := withO_eq R (hx x (by simp [Op.operands]))
    rw [e] at h; cases h; exact assign_sound hg
  · rename_i c a b
    obtain ⟨gc, hc, ec⟩ := withO_eq R (hx c (by simp [Op.operands]))
    obtain ⟨ga, ha, ea⟩ := withO_eq R (hx a (by simp [Op.operands]))
    obtain ⟨gb, hb, eb⟩ := withO_eq R (hx b (by simp [Op.operands]))
    rw [ec, ea, eb] at h; cases h; exact pick_sound hc ha hb
  · split at h
    · rename_i t z hz
      rw [listK_eq] at h; cases h; exact alloc_sound hz
    · cases h; exact noC_sound
  · rename_i t x
    obtain ⟨g, hg, e⟩ := withO_eq R (hx x (by simp [Op.operands]))
    rw [e] at h; cases h; exact box_sound hg
  · split at h
    · rename_i fields z hu hz
      split at h
      · rename_i pl hpl
        split at h
        · rename_i gs hgs
          rw [listK_eq, listK_eq] at h; cases h; exact buildS_sound hu hz hpl (partsC_some (fun p hp => hx p.2 (by simp [Op.operands]; exact ⟨p.1, by simpa using hp⟩)) hgs)
        · cases h; exact noC_sound
      · cases h; exact noC_sound
    · rename_i n e z hu hz
      split at h
      · rename_i s hs
        split at h
        · rename_i gs hgs
          rw [listK_eq, listK_eq] at h; cases h; exact buildA_sound hu hz hs (partsC_some (fun p hp => hx p.2 (by simp [Op.operands]; exact ⟨p.1, by simpa using hp⟩)) hgs)
        · cases h; exact noC_sound
      · cases h; exact noC_sound
    · cases h; exact noC_sound
  · split at h
    · rename_i e hu
      split at h
      · rename_i s z hs hz
        split at h
        · rename_i gs hgs
          cases hcnd : (Nat.beq (lenR z) s && Nat.blt 0 s && Nat.ble (_ * s) 16777216) with
          | false => rw [hcnd] at h; cases h; exact noC_sound
          | true =>
            rw [hcnd] at h
            simp only [cond_true] at h
            rw [natK_eq, listK_eq, listK_eq] at h; cases h
            simp only [Bool.and_eq_true, Go.Eb.bltD, Go.Eb.beqD, Go.Eb.bleD, decide_eq_true_eq, lenR_eq] at hcnd
            obtain ⟨q, rfl⟩ : ∃ q, s = q + 1 := ⟨s - 1, by omega⟩
            exact bsl_sound hu hz hs hcnd.1.1 (by omega) (partsC_some (fun p hp => hx p.2 (by simp [Op.operands]; exact ⟨p.1, by simpa using hp⟩)) hgs)
        · cases h; exact noC_sound
      · cases h; exact noC_sound
    · cases h; exact noC_sound
  · rename_i t a
    obtain ⟨g, hg, e⟩ := withO_eq R (hx a (by simp [Op.operands]))
    split at h
    · rename_i ag n hag hs
      rw [natK_eq, e] at h
      cases ag <;> (cases h; exact load_sound hg hag hs)
    · cases h; exact noC_sound
  · rename_i t a x
    obtain ⟨ga, ha, ea⟩ := withO_eq R (hx a (by simp [Op.operands]))
    obtain ⟨gx, hx, ex⟩ := withO_eq R (hx x (by simp [Op.operands]))
    split at h
    · rename_i n hs
      rw [natK_eq, ea, ex] at h; cases h; exact store_sound ha hx hs
    · cases h; exact noC_sound
  · rename_i x
    obtain ⟨g, hg, e⟩ := withO_eq R (hx x (by simp [Op.operands]))
    rw [e] at h; cases h; exact nil_sound hg
  · exact binC_sound (hx _ (by simp [Op.operands])) (hx _ (by simp [Op.operands])) h
  · rename_i t x
    obtain ⟨g, hg, e⟩ := withO_eq R (hx x (by simp [Op.operands]))
    rw [e] at h; cases h; exact not_sound hg
  · rename_i t x
    obtain ⟨g, hg, e⟩ := withO_eq R (hx x (by simp [Op.operands]))
    rw [e] at h; cases h; exact neg_sound hg
  · rename_i op t x _ _
    obtain ⟨g, hg, e⟩ := withO_eq R (hx x (by simp [Op.operands]))
    rw [e] at h; cases h; exact un_sound hg
  · rename_i s t x
    obtain ⟨g, hg, e⟩ := withO_eq R (hx x (by simp [Op.operands]))
    rw [e] at h
    split at h
    · rename_i ts kd hs ht
      cases h; exact cvi_sound hg hs ht
    · cases h; exact conv_sound hg
  · rename_i fn a b
    obtain ⟨g1, h1, e1⟩ := ogs_eq R a.toList (fun y hy => hx y (by simp [Op.operands]; simp at hy; simp [hy]))
    obtain ⟨g2, h2, e2⟩ := ogs_eq R b.toList (fun y hy => hx y (by simp [Op.operands]; simp at hy; simp [hy]))
    rw [listK_eq, listK_eq, e1, e2] at h; cases h; exact mkf_sound h1 h2
  · split at h
    · rename_i kd hk
      rw [natK_eq] at h; cases h; exact mkm_sound hk
    · cases h; exact noC_sound
  · rename_i t l c
    obtain ⟨gl, hl, el⟩ := withO_eq R (hx l (by simp [Op.operands]))
    obtain ⟨gc, hc, ec⟩ := withO_eq R (hx c (by simp [Op.operands]))
    split at h
    · rename_i e hu
      split at h
      · rename_i info z hi hz
        rw [natK_eq, natK_eq] at h
        cases hcnd : (Nat.beq (lenR z) info.size && Nat.blt 0 info.size) with
        | false => rw [hcnd] at h; cases h; exact noC_sound
        | true =>
          rw [hcnd] at h
          simp only [cond_true] at h
          rw [listK_eq, el, ec] at h; cases h
          simp only [Bool.and_eq_true, Go.Eb.bltD, Go.Eb.beqD, decide_eq_true_eq, lenR_eq] at hcnd
          obtain ⟨s, hs⟩ : ∃ s, info.size = s + 1 := ⟨info.size - 1, by omega⟩
          rw [hs]
          exact mks_sound hl hc hu hi hs rfl hz (by omega)
      · cases h; exact noC_sound
    · cases h; exact noC_sound
  · rename_i t x lo hi
    obtain ⟨g, hg, e⟩ := withO_eq R (hx x (by simp [Op.operands]))
    rw [e] at h
    split at h
    · rename_i hu
      cases h; exact slT_sound hg (ogo_eq R lo (fun y hy => hx y (by simp [Op.operands, hy]))) (ogo_eq R hi (fun y hy => hx y (by simp [Op.operands, hy]))) hu
    · rename_i el hu
      split at h
      · rename_i s hs
        rw [natK_eq] at h; cases h; exact slS_sound hg (ogo_eq R lo (fun y hy => hx y (by simp [Op.operands, hy]))) (ogo_eq R hi (fun y hy => hx y (by simp [Op.operands, hy]))) hu hs
      · cases h; exact noC_sound
    · rename_i n el hu
      split at h
      · rename_i s hs
        rw [natK_eq, natK_eq] at h; cases h; exact slA_sound hg (ogo_eq R lo (fun y hy => hx y (by simp [Op.operands, hy]))) (ogo_eq R hi (fun y hy => hx y (by simp [Op.operands, hy]))) hu hs
      · cases h; exact noC_sound
    · cases h; exact noC_sound
  · rename_i s x fi
    obtain ⟨g, hg, e⟩ := withO_eq R (hx x (by simp [Op.operands]))
    split at h
    · rename_i fields hu
      split at h
      · rename_i fd hfd
        split at h
        · rename_i m hm
          rw [natK_eq, e] at h; cases h; exact fad_sound hg hu hfd hm
        · cases h; exact noC_sound
      · cases h; exact noC_sound
    · cases h; exact noC_sound
  · rename_i s x fi
    obtain ⟨g, hg, e⟩ := withO_eq R (hx x (by simp [Op.operands]))
    split at h
    · rename_i fields hu
      split at h
      · rename_i fd hfd
        split at h
        · rename_i ag n hag hs
          rw [natK_eq, natK_eq, e] at h
          cases ag <;> (cases h; exact fld_sound hg hu hfd hag hs)
        · cases h; exact noC_sound
      · cases h; exact noC_sound
    · cases h; exact noC_sound
  · rename_i t x i
    obtain ⟨g, hg, e⟩ := withO_eq R (hx x (by simp [Op.operands]))
    obtain ⟨gi, hgi, ei⟩ := withO_eq R (hx i (by simp [Op.operands]))
    rw [e, ei] at h
    split at h
    · rename_i len el hu
      split at h
      · rename_i s hs
        rw [natK_eq, natK_eq] at h; cases h; exact ixp_sound hg hgi hu hs
      · cases h; exact noC_sound
    · rename_i el hu
      split at h
      · rename_i s hs
        rw [natK_eq] at h; cases h; exact ixs_sound hg hgi hu hs
      · cases h; exact noC_sound
    · cases h; exact noC_sound
  · rename_i t x i
    obtain ⟨g, hg, e⟩ := withO_eq R (hx x (by simp [Op.operands]))
    obtain ⟨gi, hgi, ei⟩ := withO_eq R (hx i (by simp [Op.operands]))
    rw [e, ei] at h
    split at h
    · rename_i len el hu
      split at h
      · rename_i ag s hag hs
        rw [natK_eq, natK_eq] at h
        cases ag <;> (cases h; exact ixa_sound hg hgi hu hag hs)
      · cases h; exact noC_sound
    · rename_i hu
      cases h; exact ixt_sound hg hgi hu
    · cases h; exact noC_sound
  · rename_i t x i ok
    obtain ⟨g, hg, e⟩ := withO_eq R (hx x (by simp [Op.operands]))
    obtain ⟨gi, hgi, ei⟩ := withO_eq R (hx i (by simp [Op.operands]))
    split at h
    · rename_i kd hk
      rw [natK_eq, e, ei] at h; cases h; exact lku_sound hg hgi hk
    · cases h; exact noC_sound
  · rename_i t m k v
    obtain ⟨g, hg, e⟩ := withO_eq R (hx m (by simp [Op.operands]))
    obtain ⟨gk, hgk, ek⟩ := withO_eq R (hx k (by simp [Op.operands]))
    obtain ⟨gv, hgv, ev⟩ := withO_eq R (hx v (by simp [Op.operands]))
    split at h
    · rename_i kd hk
      rw [natK_eq, e, ek, ev] at h; cases h; exact mup_sound (.inl rfl) hg hgk hgv hk
    · cases h; exact noC_sound
  · rename_i t m k v
    obtain ⟨g, hg, e⟩ := withO_eq R (hx m (by simp [Op.operands]))
    obtain ⟨gk, hgk, ek⟩ := withO_eq R (hx k (by simp [Op.operands]))
    obtain ⟨gv, hgv, ev⟩ := withO_eq R (hx v (by simp [Op.operands]))
    split at h
    · rename_i kd hk
      rw [natK_eq, e, ek, ev] at h; cases h; exact mup_sound (.inr rfl) hg hgk hgv hk
    · cases h; exact noC_sound
  · rename_i x i
    obtain ⟨g, hg, e⟩ := withO_eq R (hx x (by simp [Op.operands]))
    rw [e] at h; cases h; exact ext_sound hg
  · exact callB_sound rfl (fun x hm => hx x (by simp [Op.operands, Call.operands]; simpa using hm)) h
  · cases h; exact noC_sound
end
end Go.Ez
namespace Go.Ez
open Go.RowKit
open Go.Eb (aggT sizeT bytesT placesT kindM zM run_sizeT run_aggT)

/-- a frame stands for the slots of an activation -/
def RepE (nt lm : Nat) (loc : List Nat) (β : Bz) (e : En) (vs : Array Value) : Prop :=
  vs.size = nt ∧ nt ≤ 512 ∧ (∀ d ∈ loc, d < nt ∧ Nat.testBit lm d = true) ∧ ∀ (t : Nat) v, vs[t]? = some v → RepA β (viewT nt lm loc e t) v
theorem RepE.le {nt lm : Nat} {loc : List Nat} {β β' : Bz} {e : En} {vs : Array Value} (hm : Le β β') (h : RepE nt lm loc β e vs) : RepE nt lm loc β' e vs := ⟨h.1, h.2.1, h.2.2.1, fun t v hv => (h.2.2.2 t v hv).le hm⟩
theorem GlobOk.le {G : Nat} {β β' : Bz} (hm : Le β β') (h : GlobOk G β) : GlobOk G β' := fun g hg => by
  obtain ⟨N, hN⟩ := h g hg
  exact ⟨N, hm _ _ hN⟩
theorem idx_mem {t : Nat} : ∀ {loc : List Nat} {i : Nat}, idx t loc = some i → t ∈ loc
  | [], i, h => by cases h
  | d :: r, i, h => by
    simp only [idx] at h
    cases hb : Nat.beq t d with
    | true => have := Nat.eq_of_beq_eq_true hb; simp [this]
    | false =>
      rw [hb] at h
      simp only [cond_false] at h
      cases hi : idx t r with
      | none => rw [hi] at h; cases h
      | some j => exact List.mem_cons_of_mem _ (idx_mem hi)
theorem opA_rep {G nt lm : Nat} {loc : List Nat} {β : Bz} {e : En} {a : Act} (hg : GlobOk G β) (h : RepE nt lm loc β e a.tmps) (x : Operand) : RepA β (opA G nt lm loc e x) (a.eval x) := by
  obtain ⟨hs, hn, hl, hv⟩ := h
  cases x with
  | tmp t =>
    by_cases ht : t < nt
    · have hlt : t < a.tmps.size := hs ▸ ht
      exact hv t _ (by simp [Act.eval, hlt, Array.getD])
    · show RepA β (viewT nt lm loc e t) _
      cases e with
      | mk fr l =>
        simp only [viewT]
        cases hi : idx t loc with
        | some i => exact absurd (hl t (idx_mem hi)).1 ht
        | none =>
          simp only
          cases Nat.testBit lm t with
          | true => trivial
          | false =>
            rw [Go.Eb.bltD, decide_eq_false ht]; trivial
  | const v => exact absV_rep v
  | global g =>
    simp only [opA]
    rw [Go.Eb.bltD]
    by_cases hg' : g < G
    · rw [decide_eq_true hg']
      obtain ⟨N, hN⟩ := hg g hg'
      exact ⟨g, N, hN, rfl⟩
    · rw [decide_eq_false hg']; trivial
  | func f => exact ⟨#[], #[], rfl, ⟨rfl, fun i c v h => by simp at h⟩, ⟨rfl, fun i c v h => by simp at h⟩⟩

/-- a slot is written -/
def putV (nt lm : Nat) (dst : Option Nat) (x : AV) (e : En) : Option En := match dst with
  | none => some e
  | some d => bif Nat.blt d nt then (match e with | .mk fr l => bif Nat.testBit lm d then some (.mk fr (x :: l)) else bif Nat.blt d 512 then some (.mk (setSlot d x fr) l) else none) else none
theorem putE_ok {R : Type} {nt lm : Nat} (hn : nt ≤ 512) (dst : Option Nat) : ∃ g, putE R nt lm dst = .mk g ∧ ∀ x e k (r : R), g x e k = some r → ∃ e', putV nt lm dst x e = some e' ∧ k e' = some r := by
  cases dst with
  | none => exact ⟨_, rfl, fun x e k r h => ⟨e, rfl, h⟩⟩
  | some d =>
    simp only [putE, putV]
    cases hb : Nat.blt d nt with
    | false => exact ⟨_, rfl, fun x e k r h => by cases h⟩
    | true =>
      rw [Go.Eb.bltD, decide_eq_true_eq] at hb
      cases ht : Nat.testBit lm d with
      | true => exact ⟨_, rfl, fun x e k r h => by cases e; exact ⟨_, rfl, h⟩⟩
      | false =>
        obtain ⟨g, eg, hg⟩ := setC_ok (Option R) (t := d) (by omega)
        refine ⟨fun x e k => En.rec (motive := fun _ => Option R) (fun fr l => g x fr fun fr' => k (.mk fr' l)) e, by rw [eg]; rfl, fun x e k r h => ?_⟩
        cases e with
        | mk fr l =>
          have h : g x fr (fun fr' => k (.mk fr' l)) = some r := h
          rw [hg] at h
          refine ⟨_, ?_, h⟩
          have h5 : Nat.blt d 512 = true := by rw [Go.Eb.bltD, decide_eq_true_eq]; omega
          simp [h5]
theorem put_ok {nt lm : Nat} {loc : List Nat} {β : Bz} {e e' : En} {a : Act} {dst : Option Nat} {x : AV} {v : Value} (h : RepE nt lm loc β e a.tmps) (hx : RepA β x v) (hp : putV nt lm dst x e = some e') : RepE nt lm (locD lm dst loc) β e' (a.put dst v).tmps := by
  obtain ⟨hs, hn, hl, hv⟩ := h
  cases dst with
  | none =>
    simp only [putV, Option.some.injEq] at hp
    subst hp
    exact ⟨hs, hn, hl, hv⟩
  | some d =>
    simp only [putV] at hp
    cases hb : Nat.blt d nt with
    | false => rw [hb] at hp; cases hp
    | true =>
      rw [hb] at hp
      rw [Go.Eb.bltD, decide_eq_true_eq] at hb
      cases e with
      | mk fr l =>
        simp only [cond_true] at hp
        cases ht : Nat.testBit lm d with
        | true =>
          rw [ht] at hp
          simp only [cond_true, Option.some.injEq] at hp
          subst hp
          refine ⟨by simp [Act.put, hs], hn, ?_, fun t u hu => ?_⟩
          · simp only [locD, ht, cond_true]
            intro q hq
            rcases List.mem_cons.1 hq with rfl | hq
            · exact ⟨hb, ht⟩
            · exact hl q hq
          · simp only [locD, ht, cond_true, viewT, idx]
            simp only [Act.put] at hu
            rw [Array.getElem?_setIfInBounds] at hu
            by_cases htd : t = d
            · subst htd
              simp only [if_true] at hu
              have e1 : Nat.beq t t = true := Nat.beq_refl t
              rw [e1]
              split at hu
              · simp at hu; subst hu; exact hx
              · cases hu
            · rw [if_neg (fun e => htd e.symm)] at hu
              have e1 : Nat.beq t d = false := by rw [Go.Eb.beqD, decide_eq_false htd]
              rw [e1]
              have := hv t u hu
              simp only [viewT] at this
              simp only [cond_false]
              cases hi : idx t loc with
              | some i => rw [hi] at this; simpa using this
              | none => rw [hi] at this; exact this
        | false =>
          rw [ht] at hp
          have h5 : Nat.blt d 512 = true := by rw [Go.Eb.bltD, decide_eq_true_eq]; omega
          simp only [cond_false, h5, cond_true, Option.some.injEq] at hp
          subst hp
          refine ⟨by simp [Act.put, hs], hn, ?_, fun t u hu => ?_⟩
          · simp only [locD, ht, cond_false]; exact hl
          · simp only [locD, ht, cond_false, viewT]
            simp only [Act.put] at hu
            rw [Array.getElem?_setIfInBounds] at hu
            have htn : t < nt := by
              split at hu
              · omega
              · have := (Array.getElem?_eq_some_iff.1 hu).1; omega
            by_cases htd : t = d
            · subst htd
              simp only [if_true] at hu
              cases hi : idx t loc with
              | some i =>
                have := (hl t (idx_mem hi)).2
                rw [ht] at this; cases this
              | none =>
                simp only [ht, cond_false]
                rw [Go.Eb.bltD, decide_eq_true htn]
                simp only [cond_true]
                rw [slot_set (by omega) (by omega), if_pos rfl]
                split at hu
                · simp at hu; subst hu; exact hx
                · cases hu
            · rw [if_neg (fun e => htd e.symm)] at hu
              have := hv t u hu
              simp only [viewT] at this
              cases hi : idx t loc with
              | some i => rw [hi] at this; exact this
              | none =>
                rw [hi] at this
                simp only at this ⊢
                cases ht2 : Nat.testBit lm t with
                | true => trivial
                | false =>
                  rw [ht2] at this
                  simp only [cond_false] at this ⊢
                  rw [Go.Eb.bltD, decide_eq_true htn] at this ⊢
                  simp only [cond_true] at this ⊢
                  rw [slot_set (by omega) (by omega), if_neg htd]
                  exact this

/-- names that stay free -/
def Kp (F : Pa → Prop) (nx : Pa) (F' : Pa → Prop) (nx' : Pa) : Prop := nx.num ≤ nx'.num ∧ ∀ p, F p → (p.num < nx.num ∨ nx'.num ≤ p.num) → F' p
theorem Kp.refl (F : Pa → Prop) (nx : Pa) : Kp F nx F nx := ⟨Nat.le_refl _, fun _ h _ => h⟩
theorem Kp.trans {F F1 F2 : Pa → Prop} {nx n1 n2 : Pa} (h : Kp F nx F1 n1) (k : Kp F1 n1 F2 n2) : Kp F nx F2 n2 :=
  ⟨Nat.le_trans h.1 k.1, fun p hp hc => by
    have h1 := h.1
    have k1 := k.1
    rcases hc with hc | hc
    · exact k.2 p (h.2 p hp (.inl hc)) (.inl (by omega))
    · exact k.2 p (h.2 p hp (.inr (by omega))) (.inr hc)⟩

/-- the state of an activation -/
structure SimZ (D : List Deferred) (G nt lm : Nat) (loc : List Nat) (β : Bz) (e : En) (H : Hz) (F : Pa → Prop) (nx : Pa) (a : Act) (w : World) : Prop where
  frame : RepE nt lm loc β e a.tmps
  mem : Rel β H F w
  free : ∀ p : Pa, nx.num ≤ p.num → F p
  glob : GlobOk G β
  defers : a.defers = D

theorem SimZ.drew {D : List Deferred} {G nt lm : Nat} {loc : List Nat} {β : Bz} {e : En} {H : Hz} {F : Pa → Prop} {nx : Pa} {a : Act} {w : World} (h : SimZ D G nt lm loc β e H F nx a w) : SimZ D G nt lm loc β e H F nx a w.drew ∧ Ext β H w β H w.drew :=
  ⟨⟨h.frame, h.mem.drew.1, h.free, h.glob, h.defers⟩, h.mem.drew.2⟩

/-- what a call comes to -/
def RepAs (β : Bz) (xs : List AV) (vs : Array Value) : Prop := xs.length = vs.size ∧ ∀ (i : Nat) x v, xs[i]? = some x → vs[i]? = some v → RepA β x v
def CZ (P : Program) (G : Nat) (f : FuncId) (args : List AV) (H : Hz) (nx : Pa) (z : Rz) : Prop := match z with
  | .mk x H' nx' => ∀ β w F vs, Rel β H F w → (∀ p : Pa, nx.num ≤ p.num → F p) → GlobOk G β → RepAs β args vs →
    ∃ fn, P.funcs[f]? = some fn ∧ fn.name ≠ "runtime.NumGoroutine" ∧ fn.body ≠ none ∧ Calls P f vs w fun e w' => ∃ v β' F', e = .returned v ∧ RepA β' x v ∧ Rel β' H' F' w' ∧ Ext β H w β' H' w' ∧ Kp F nx F' nx'
def OzOk (P : Program) (G : Nat) (orc : Oz) : Prop := ∀ f args H nx z, orc f args H nx = some z → CZ P G f args H nx z

section
variable {P : Program} {G nt lm : Nat} {R : Type}

theorem wanted_of {ops : Array Oper} {o : Oper} {loc : List Nat} {β : Bz} {e : En} {a : Act} {j : Nat} {want : Bool} {d : Nat} (hg : GlobOk G β) (h : RepE nt lm loc β e a.tmps) (hgd : o.guard = some (j, want)) (hd : (ops[j]?).bind (·.dst) = some d) :
    (∀ b, opA G nt lm loc e (.tmp d) = .c (.b b) → Region.wanted o (yielded ops a.tmps) = (b == want)) ∧ (opA G nt lm loc e (.tmp d) = .tup [] → d < a.tmps.size → Region.wanted o (yielded ops a.tmps) = false) := by
  have hr := opA_rep hg h (.tmp d)
  refine ⟨fun b hb => ?_, fun hb hlt => ?_⟩
  · rw [hb] at hr
    have e1 : a.eval (.tmp d) = .bool b := hr
    have e2 : a.tmps[d]? = some (.bool b) := by
      by_cases hlt : d < a.tmps.size
      · simp [Act.eval, Array.getD, hlt] at e1
        simp [hlt, e1]
      · simp [Act.eval, Array.getD, hlt, undef] at e1
    simp [Region.wanted, hgd, yielded, hd, e2]
  · rw [hb] at hr
    obtain ⟨vs, e1, hl, _⟩ := hr
    have e2 : a.tmps[d]? = some (.tuple vs) := by
      simp [Act.eval, Array.getD, hlt] at e1
      simp [hlt, e1]
    simp [Region.wanted, hgd, yielded, hd, e2]
end
end Go.Ez
namespace Go.Ez
open Go.RowKit
open Go.Eb (aggT sizeT bytesT placesT kindM zM run_sizeT run_aggT)

section
variable {D : List Deferred} {P : Program} {G nt lm : Nat} {R : Type} {orc : Oz}

theorem fnK_some {x : AV} {k : FuncId → List Cp → List Cp → Option R} {r : R} (h : fnK R x k = some r) : ∃ f a b, x = .c (.o (.f f a b)) ∧ k f a b = some r := by
  rcases asO_some h with ⟨c, e, h⟩ | h
  · cases c with
    | f f a b => exact ⟨f, a, b, e, h⟩
    | _ => cases h
  · cases h
theorem argsK_some {ρ : En → Operand → AV} {e : En} : ∀ {xs : List Operand} {gs : List (En → (AV → Option R) → Option R)} {k : List AV → Option R} {r : R}, All2 (Gets ρ) xs gs → argsK R gs e k = some r → k (xs.map (ρ e)) = some r
  | [], _, k, r, h, hk => by cases h; exact hk
  | x :: xs, _, k, r, h, hk => by
    cases h with
    | cons h1 h2 =>
      simp only [argsK] at hk
      rw [h1] at hk
      have := argsK_some (xs := xs) h2 hk
      simpa using this
theorem cpsK_some : ∀ {cs : List Cp} {k : List AV → Option R} {r : R}, cpsK R cs k = some r → ∃ xs, k xs = some r ∧ ∀ β (vs : List Value), RepCps β cs vs → xs.length = vs.length ∧ ∀ (i : Nat) x v, xs[i]? = some x → vs[i]? = some v → RepA β x v
  | [], k, r, h => ⟨[], h, fun β vs hr => ⟨hr.1, fun i x v h1 => by simp at h1⟩⟩
  | .p hh o :: rest, k, r, h => by
    obtain ⟨xs, h, hx⟩ := cpsK_some (show cpsK R rest (fun l => k (.c (.p hh o) :: l)) = some r from h)
    refine ⟨_, h, fun β vs hr => ?_⟩
    match vs, hr with
    | [], hr => exact absurd hr.1 (by simp)
    | v :: vs, hr =>
      obtain ⟨h1, h2⟩ := hx β vs ⟨by simpa using hr.1, fun i c u a b => hr.2 (i + 1) c u (by simpa using a) (by simpa using b)⟩
      refine ⟨by simp [h1], fun i x u a b => ?_⟩
      cases i with
      | zero => simp at a b; subst a b; exact hr.2 0 _ _ rfl rfl
      | succ i => exact h2 i x u (by simpa using a) (by simpa using b)
  | .v y :: rest, k, r, h => by
    have h : outK y (fun y => cpsK R rest fun l => k (y :: l)) = some r := h
    obtain ⟨z, h, hz⟩ := outK_some h
    obtain ⟨xs, h, hx⟩ := cpsK_some h
    refine ⟨_, h, fun β vs hr => ?_⟩
    match vs, hr with
    | [], hr => exact absurd hr.1 (by simp)
    | v :: vs, hr =>
      obtain ⟨h1, h2⟩ := hx β vs ⟨by simpa using hr.1, fun i c u a b => hr.2 (i + 1) c u (by simpa using a) (by simpa using b)⟩
      refine ⟨by simp [h1], fun i x u a b => ?_⟩
      cases i with
      | zero =>
        simp at a b; subst a b
        have e : v = y := hr.2 0 _ _ rfl rfl
        rw [e]; exact hz β
      | succ i => exact h2 i x u (by simpa using a) (by simpa using b)

/-- what a call operation does -/
def CallTo (P : Program) (o : Oper) (ρ : Operand → AV) (f : FuncId) (l : List AV) : Prop := ∀ β (ρv : Operand → Value) (w : World), (∀ y, RepA β (ρ y) (ρv y)) → ∃ vs, RepAs β l vs ∧ (execOp ρv o).run P w = (callFunc f vs).run P w
theorem RepAs.append {β : Bz} {a b : List AV} {us vs : Array Value} (h : RepAs β a us) (k : RepAs β b vs) : RepAs β (a ++ b) (us ++ vs) := by
  refine ⟨by simp [h.1, k.1], fun i x v h1 h2 => ?_⟩
  rw [List.getElem?_append] at h1
  rw [Array.getElem?_append] at h2
  by_cases hi : i < a.length
  · rw [if_pos hi] at h1
    rw [if_pos (h.1 ▸ hi)] at h2
    exact h.2 i x v h1 h2
  · rw [if_neg hi] at h1
    rw [if_neg (h.1 ▸ hi)] at h2
    exact k.2 _ x v h1 (by rw [h.1]; exact h2)
theorem callC_some {o : Oper} {v : Operand} {args : Array Operand} {ats : Array TypeId} {ρ : En → Operand → AV} {gf : En → (AV → Option R) → Option R} {gs : List (En → (AV → Option R) → Option R)} {e : En} {H : Hz} {nx : Pa} {k : Kz R} {r : R} (ho : o.op = .call ⟨.value v, args, ats⟩) (hf : Gets ρ v gf) (hs : All2 (Gets ρ) args.toList gs)
    (h : callC R orc gf gs e H nx k = some r) : ∃ f l x H' nx', orc f l H nx = some (.mk x H' nx') ∧ k x H' nx' = some r ∧ CallTo P o (ρ e) f l := by
  unfold callC at h
  rw [hf] at h
  obtain ⟨f, a, b, ev, h⟩ := fnK_some h
  have h := argsK_some hs h
  obtain ⟨ya, h, ha⟩ := cpsK_some h
  obtain ⟨yb, h, hb⟩ := cpsK_some h
  rw [appK_eq, appK_eq] at h
  obtain ⟨z, hz, h⟩ := optK_some h
  obtain ⟨x, H', nx'⟩ := z
  refine ⟨f, _, x, H', nx', hz, h, fun β ρv w hρ => ?_⟩
  have r1 := hρ v
  rw [ev] at r1
  obtain ⟨fs, cs, e1, h1, h2⟩ := r1
  have q1 := ha β fs.toList h1
  have q2 := hb β cs.toList h2
  have k1 : RepAs β ya fs := ⟨by simpa using q1.1, fun i x v a b => q1.2 i x v a (by simpa using b)⟩
  have k2 : RepAs β yb cs := ⟨by simpa using q2.1, fun i x v a b => q2.2 i x v a (by simpa using b)⟩
  have k3 : RepAs β (args.toList.map (ρ e)) (args.map ρv) := ⟨by simp, fun i x v a b => by
    simp at a b
    obtain ⟨y, hy, rfl⟩ := a
    obtain ⟨y', hy', rfl⟩ := b
    rw [hy] at hy'
    cases hy'
    exact hρ y⟩
  refine ⟨fs ++ args.map ρv ++ cs, by rw [← List.append_assoc]; exact (k1.append k3).append k2, ?_⟩
  simp [execOp, ho, resolve, e1, Deferred.ofValue, invoke]

theorem opCC_some {ρ : En → Operand → AV} {loc : List Nat} {o : Oper} {f : Cl En R} {e : En} {H : Hz} {nx : Pa} {k : Kz R} {r : R} (hx : ∀ x ∈ o.op.operands.toList, Ag G nt lm loc ρ x) (hf : opCC R P G nt lm orc loc o = .mk f) (h : f e H nx k = some r) :
    (∃ x H' nx', k x H' nx' = some r ∧ StepOk P o (ρ e) H nx x H' nx') ∨ ∃ g l x H' nx', orc g l H nx = some (.mk x H' nx') ∧ k x H' nx' = some r ∧ CallTo P o (ρ e) g l := by
  obtain ⟨dst, op, ty, pos, after, guard⟩ := o
  unfold opCC at hf
  simp only at hf
  split at hf
  · rename_i v args ats
    obtain ⟨gf, hgf, ef⟩ := withO_eq R (hx v (by simp [Op.operands, Call.operands]))
    obtain ⟨gs, hgs, es⟩ := ogs_eq R args.toList (fun y hy => hx y (by simp [Op.operands, Call.operands]; simp at hy; simp [hy]))
    rw [ef, listK_eq, es] at hf
    cases hf
    exact .inr (callC_some rfl hgf hgs h)
  · exact .inl (opC_sound hx hf e H nx k r h)

theorem grdK_some {want : Bool} {c : AV} {yes no : Option R} {r : R} (h : grdK R want c yes no = some r) : (∃ b, c = .c (.b b) ∧ ((b == want) = true ∧ yes = some r ∨ (b == want) = false ∧ no = some r)) ∨ (c = .tup [] ∧ no = some r) := by
  unfold grdK at h
  rcases asB_some h with ⟨b, e, h⟩ | h
  · refine .inl ⟨b, e, ?_⟩
    rcases ifK_some h with ⟨hc, h⟩ | ⟨hc, h⟩
    · exact .inl ⟨by cases want <;> cases b <;> simp_all, h⟩
    · exact .inr ⟨by cases want <;> cases b <;> simp_all, h⟩
  · cases c with
    | tup l =>
      cases l with
      | nil => exact .inr ⟨rfl, h⟩
      | cons a b => cases h
    | c _ => cases h
    | a _ => cases h
    | u => cases h

theorem wanted_none {o : Oper} {y : Nat → Option Bool} (h : o.guard = none) : Region.wanted o y = true := by simp [Region.wanted, h]
theorem wanted_tup {ops : Array Oper} {o : Oper} {loc : List Nat} {β : Bz} {e : En} {a : Act} {j : Nat} {want : Bool} {d : Nat} (hg : GlobOk G β) (h : RepE nt lm loc β e a.tmps) (hgd : o.guard = some (j, want)) (hd : (ops[j]?).bind (·.dst) = some d) (hc : opA G nt lm loc e (.tmp d) = .tup []) : Region.wanted o (yielded ops a.tmps) = false := by
  by_cases hlt : d < a.tmps.size
  · exact (wanted_of hg h hgd hd).2 hc hlt
  · have : a.tmps[d]? = none := by simp; omega
    simp [Region.wanted, hgd, yielded, hd, this]

/-- an operation that is carried out -/
theorem do_wp {loc : List Nat} {ops : Array Oper} {i : Nat} {o : Oper} (ho : ops[i]? = some o) (horc : OzOk P G orc) {Q : Exit → Act → World → Prop} {K : Act → World → Prop} {β : Bz} {e : En} {H : Hz} {F : Pa → Prop} {nx : Pa} {a : Act} {w : World} (hs : SimZ D G nt lm loc β e H F nx a w)
    {k : Kz R} {r : R} (h : (∃ x H' nx', k x H' nx' = some r ∧ StepOk P o (opA G nt lm loc e) H nx x H' nx') ∨ ∃ g l x H' nx', orc g l H nx = some (.mk x H' nx') ∧ k x H' nx' = some r ∧ CallTo P o (opA G nt lm loc e) g l)
    (hw : Region.wanted o (yielded ops a.tmps) = true)
    (hK : ∀ x H' nx' v β' F' w', k x H' nx' = some r → RepA β' x v → Rel β' H' F' w' → Ext β H w β' H' w' → Kp F nx F' nx' → (∀ p : Pa, nx'.num ≤ p.num → F' p) → K (a.put o.dst v) w') : wpOp P ops Q i K a w := by
  unfold wpOp
  simp only [ho, hw, if_true]
  left
  unfold Oper.wp
  rcases h with ⟨x, H', nx', hk, hst⟩ | ⟨g, l, x, H', nx', hor, hk, hct⟩
  · obtain ⟨nxt, w', β', F', hrun, hv, hrel, hext, hF, hnx⟩ := hst β w a.eval F (fun y => opA_rep hs.glob hs.frame y) hs.mem (hs.free nx (Nat.le_refl _))
    have hlt : nx.num ≤ nx'.num := by
      rcases hnx with rfl | rfl
      · exact Nat.le_refl _
      · rw [Pa.num_inc]; omega
    have hkp : Kp F nx F' nx' := ⟨hlt, fun p hp hc => hF p hp (by
      rcases hnx with rfl | rfl
      · exact .inr rfl
      · left
        intro e
        subst e
        rw [Pa.num_inc] at hc
        omega)⟩
    have hfr : ∀ p : Pa, nx'.num ≤ p.num → F' p := fun p hp => hkp.2 p (hs.free p (Nat.le_trans hlt hp)) (.inr hp)
    rw [hrun]
    rcases hv with ⟨v, rfl, hv⟩ | ⟨rfl, rfl⟩
    · simp only [Oper.upon]
      exact hK x H' nx' v β' F' w' hk hv hrel hext hkp hfr
    · simp only [Oper.upon]
      exact hK _ H' nx' undef β' F' w' hk trivial hrel hext hkp hfr
  · obtain ⟨vs, hvs, hrun⟩ := hct β a.eval w (fun y => opA_rep hs.glob hs.frame y)
    obtain ⟨fn, hfn, hname, hb, hcalls⟩ := horc _ _ _ _ _ hor β w F vs hs.mem hs.free hs.glob hvs
    have hen : (callFunc g vs).run P w = .ok (.enter g vs) w := by simp [callFunc, hfn, hname, hb]
    rw [hrun, hen]
    simp only [Oper.upon]
    refine hcalls.mono ?_
    rintro ee w' ⟨v, β', F', rfl, h1, h2, h3, h4⟩
    exact hK x H' nx' v β' F' w' hk h1 h2 h3 h4 (fun p hp => h4.2 p (hs.free p (Nat.le_trans h4.1 hp)) (.inr hp))

theorem st_wp {loc : List Nat} {ops : Array Oper} {i : Nat} {o : Oper} (ho : ops[i]? = some o) (hn : nt ≤ 512) (horc : OzOk P G orc) {Q : Exit → Act → World → Prop} {K : Act → World → Prop} {f : En → Hz → Pa → (En → Hz → Pa → Option R) → Option R} (hf : stC R P G nt lm orc loc ops o = .mk f)
    {β : Bz} {e : En} {H : Hz} {F : Pa → Prop} {nx : Pa} {a : Act} {w : World} {k : En → Hz → Pa → Option R} {r : R} (h : f e H nx k = some r) (hs : SimZ D G nt lm loc β e H F nx a w)
    (hK : ∀ e' H' nx' β' F' a' w', k e' H' nx' = some r → SimZ D G nt lm (locD lm o.dst loc) β' e' H' F' nx' a' w' → Ext β H w β' H' w' → Kp F nx F' nx' → K a' w') : wpOp P ops Q i K a w := by
  unfold stC at hf
  cases hop : opCC R P G nt lm orc loc o with
  | mk fo =>
    rw [hop] at hf
    obtain ⟨g, eg, hg⟩ := putE_ok (R := R) hn (lm := lm) o.dst
    rw [eg] at hf
    simp only at hf
    have fin : ∀ {x : AV} {H' : Hz} {nx' : Pa} {v : Value} {β' : Bz} {F' : Pa → Prop} {w' : World}, g x e (fun e' => k e' H' nx') = some r → RepA β' x v → Rel β' H' F' w' → Ext β H w β' H' w' → Kp F nx F' nx' → (∀ p : Pa, nx'.num ≤ p.num → F' p) → K (a.put o.dst v) w' := by
      intro x H' nx' v β' F' w' hk hx hrel hext hkp hfr
      obtain ⟨e', hp, hk⟩ := hg _ _ _ _ hk
      exact hK e' H' nx' β' F' _ w' hk ⟨put_ok (hs.frame.le hext.le) hx hp, hrel, hfr, hs.glob.le hext.le, by cases o.dst <;> exact hs.defers⟩ hext hkp
    split at hf
    · rename_i hgd
      cases hf
      exact do_wp ho horc hs (opCC_some (ρ := opA G nt lm loc) (fun _ _ _ => rfl) hop h) (wanted_none hgd) fun x H' nx' v β' F' w' hk h1 h2 h3 h4 h5 => fin hk h1 h2 h3 h4 h5
    · rename_i j want hgd
      split at hf
      · cases hf; cases h
      · rename_i d hd
        obtain ⟨gd, hgd2, ed⟩ := withO_eq (ρ := opA G nt lm loc) R (x := .tmp d) (fun _ => rfl)
        rw [ed] at hf
        cases hf
        simp only at h
        rw [hgd2] at h
        have skip : Region.wanted o (yielded ops a.tmps) = false → g (.tup []) e (fun e' => k e' H nx) = some r → wpOp P ops Q i K a w := fun hw hk => by
          unfold wpOp
          simp only [ho, hw, Bool.false_eq_true, if_false]
          exact fin hk ⟨#[], rfl, rfl, fun i p x h => by simp at h⟩ hs.mem (.refl _ _ _) (.refl _ _) hs.free
        rcases grdK_some h with ⟨b, hc, ⟨hb, h⟩ | ⟨hb, h⟩⟩ | ⟨hc, h⟩
        · have hw := (wanted_of hs.glob hs.frame hgd hd).1 b hc
          rw [hb] at hw
          exact do_wp ho horc hs (opCC_some (ρ := opA G nt lm loc) (fun _ _ _ => rfl) hop h) hw fun x H' nx' v β' F' w' hk h1 h2 h3 h4 h5 => fin hk h1 h2 h3 h4 h5
        · have hw := (wanted_of hs.glob hs.frame hgd hd).1 b hc
          rw [hb] at hw
          exact skip hw h
        · exact skip (wanted_tup hs.glob hs.frame hgd hd hc) h

theorem ops_wp {ops : Array Oper} (hn : nt ≤ 512) (horc : OzOk P G orc) {Q : Exit → Act → World → Prop} : ∀ (l : List Oper) (i : Nat) (loc : List Nat) {f : En → Hz → Pa → (En → Hz → Pa → Option R) → Option R} {β : Bz} {e : En} {H : Hz} {F : Pa → Prop} {nx : Pa} {a : Act} {w : World} {k : En → Hz → Pa → Option R} {r : R}, (∀ (j : Nat) o, l[j]? = some o → ops[i + j]? = some o) →
    opsC R P G nt lm orc ops loc l = .mk f → f e H nx k = some r → SimZ D G nt lm loc β e H F nx a w →
    (∀ e' H' nx' β' F' a' w' loc', k e' H' nx' = some r → SimZ D G nt lm loc' β' e' H' F' nx' a' w' → Ext β H w β' H' w' → Kp F nx F' nx' → Q .normal a' w') → wpOps P ops Q (List.range' i l.length) a w
  | [], i, loc, f, β, e, H, F, nx, a, w, k, r, hl, hf, h, hs, hQ => by
    simp only [opsC] at hf
    cases hf
    exact hQ e H nx β F a w loc h hs (.refl _ _ _) (.refl _ _)
  | [o], i, loc, f, β, e, H, F, nx, a, w, k, r, hl, hf, h, hs, hQ => by
    simp only [opsC] at hf
    have ho : ops[i]? = some o := by simpa using hl 0 o rfl
    show wpOps P ops Q [i] a w
    rw [wpOps_cons]
    exact st_wp ho hn horc hf h hs fun e' H' nx' β' F' a' w' hk h1 h2 h3 => hQ e' H' nx' β' F' a' w' _ hk h1 h2 h3
  | o :: o2 :: rest, i, loc, f, β, e, H, F, nx, a, w, k, r, hl, hf, h, hs, hQ => by
    simp only [opsC] at hf
    have ho : ops[i]? = some o := by simpa using hl 0 o rfl
    cases h1 : stC R P G nt lm orc loc ops o with
    | mk f1 =>
      cases h2 : opsC R P G nt lm orc ops (locD lm o.dst loc) (o2 :: rest) with
      | mk f2 =>
        rw [h1, h2] at hf
        cases hf
        simp only [List.length_cons, List.range'_succ]
        rw [wpOps_cons]
        refine st_wp ho hn horc h1 h hs fun e' H' nx' β' F' a' w' hk k1 k2 k3 => ?_
        have := ops_wp hn horc (o2 :: rest) (i + 1) (locD lm o.dst loc) (fun j o' hj => by
          have := hl (j + 1) o' (by simpa using hj)
          rw [show i + 1 + j = i + (j + 1) by omega]; exact this) h2 hk k1 (Q := Q) fun e2 H2 nx2 β2 F2 a2 w2 loc2 hk2 q1 q2 q3 => hQ e2 H2 nx2 β2 F2 a2 w2 loc2 hk2 q1 (k2.trans q2) (k3.trans q3)
        simpa [List.range'_succ] using this
end
end Go.Ez
namespace Go.Ez
open Go.RowKit
open Go.Eb (masks edgesDown masks_listed)

abbrev Hf := Pa → Option Bk

structure RelF (β : Bz) (h : Hf) (F : Pa → Prop) (w : World) : Prop where
  fresh : ∀ p : Pa, F p → β p = none
  lt : ∀ p b N, β p = some (b, N) → b < w.heap.size
  blk : ∀ p B, h p = some B → RepB β w p B
  inj : ∀ p q b N N', h p ≠ none → h q ≠ none → β p = some (b, N) → β q = some (b, N') → p = q

def WrF (h : Hf) (p : Pa) : Prop := ∃ B, h p = some B ∧ B.ro = false

structure ExtF (β : Bz) (h : Hf) (w : World) (β' : Bz) (h' : Hf) (w' : World) : Prop where
  os : w'.os = w.os
  tape : w'.tape = w.tape
  output : w'.output = w.output
  size : w.heap.size ≤ w'.heap.size
  le : Le β β'
  old : ∀ b, b < w.heap.size → (∀ p N, WrF h p → β p ≠ some (b, N)) → w'.heap[b]? = w.heap[b]?
  new : ∀ p b N, WrF h' p → β' p = some (b, N) → (∃ q N', WrF h q ∧ β q = some (b, N')) ∨ w.heap.size ≤ b
  live : ∀ p b N, h' p ≠ none → β' p = some (b, N) → (∃ q N', h q ≠ none ∧ β q = some (b, N')) ∨ w.heap.size ≤ b
  dom : ∀ p, h' p ≠ none → h p ≠ none ∨ β p = none
  kept : ∀ p B, h p = some B → B.ro = true → h' p = some B

theorem Rel.toF {β : Bz} {H : Hz} {F : Pa → Prop} {w : World} (h : Rel β H F w) : RelF β H.get F w := ⟨h.fresh, h.lt, h.blk, h.inj⟩
theorem RelF.to {β : Bz} {H : Hz} {F : Pa → Prop} {w : World} (h : RelF β H.get F w) : Rel β H F w := ⟨h.fresh, h.lt, h.blk, h.inj⟩
theorem Ext.toF {β β' : Bz} {H H' : Hz} {w w' : World} (h : Ext β H w β' H' w') : ExtF β H.get w β' H'.get w' := ⟨h.os, h.tape, h.output, h.size, h.le, h.old, h.new, h.live, h.dom, h.kept⟩
theorem ExtF.to {β β' : Bz} {H H' : Hz} {w w' : World} (h : ExtF β H.get w β' H'.get w') : Ext β H w β' H' w' := ⟨h.os, h.tape, h.output, h.size, h.le, h.old, h.new, h.live, h.dom, h.kept⟩
theorem RelF.live {β : Bz} {h : Hf} {F : Pa → Prop} {w : World} (hr : RelF β h F w) {p : Pa} (hp : h p ≠ none) : ∃ b N, β p = some (b, N) := by
  cases hB : h p with
  | none => exact absurd hB hp
  | some B => exact (hr.blk p B hB).some
theorem RelF.less {β : Bz} {h : Hf} {F F' : Pa → Prop} {w : World} (hr : RelF β h F w) (hF : ∀ p, F' p → F p) : RelF β h F' w := ⟨fun p hp => hr.fresh p (hF p hp), hr.lt, hr.blk, hr.inj⟩
theorem RelF.sub {β : Bz} {h s : Hf} {F : Pa → Prop} {w : World} (hr : RelF β h F w) (hs : ∀ p, s p ≠ none → s p = h p) : RelF β s F w :=
  ⟨hr.fresh, hr.lt, fun p B hp => hr.blk p B (by rw [← hs p (by rw [hp]; simp)]; exact hp), fun p q b N N' hp hq h1 h2 => hr.inj p q b N N' (by rw [← hs p hp]; exact hp) (by rw [← hs q hq]; exact hq) h1 h2⟩
theorem ExtF.refl (β : Bz) (h : Hf) (w : World) : ExtF β h w β h w := ⟨rfl, rfl, rfl, Nat.le_refl _, .refl _, fun _ _ _ => rfl, fun p b N hp hb => .inl ⟨p, N, hp, hb⟩, fun p b N hp hb => .inl ⟨p, N, hp, hb⟩, fun p hp => .inl hp, fun _ _ h _ => h⟩
theorem ExtF.trans {β β₁ β₂ : Bz} {h h₁ h₂ : Hf} {w w₁ w₂ : World} (e : ExtF β h w β₁ h₁ w₁) (k : ExtF β₁ h₁ w₁ β₂ h₂ w₂) : ExtF β h w β₂ h₂ w₂ where
  os := k.os.trans e.os
  tape := k.tape.trans e.tape
  output := k.output.trans e.output
  size := Nat.le_trans e.size k.size
  le := e.le.trans k.le
  old b hb hn := by
    rw [k.old b (Nat.lt_of_lt_of_le hb e.size) (fun p N hp hb' => ?_), e.old b hb hn]
    rcases e.new p b N hp hb' with ⟨q, N', hq, hbq⟩ | hle
    · exact hn q N' hq hbq
    · omega
  new p b N hp hb := by
    rcases k.new p b N hp hb with ⟨q, N', hq, hbq⟩ | hle
    · exact e.new q b N' hq hbq
    · exact .inr (Nat.le_trans e.size hle)
  live p b N hp hb := by
    rcases k.live p b N hp hb with ⟨q, N', hq, hbq⟩ | hle
    · exact e.live q b N' hq hbq
    · exact .inr (Nat.le_trans e.size hle)
  dom p hp := by
    rcases k.dom p hp with h1 | h1
    · exact e.dom p h1
    · refine .inr ?_
      cases hb : β p with
      | none => rfl
      | some x => rw [e.le p x hb] at h1; cases h1
  kept p B h1 h2 := k.kept p B (e.kept p B h1 h2) h2

/-- what holds on a part of the memory holds on the whole -/
theorem frame {β β' : Bz} {h s s' h' : Hf} {F F' : Pa → Prop} {w w' : World} (hr : RelF β h F w) (hs : ∀ p, s p ≠ none → s p = h p) (hr' : RelF β' s' F' w') (he : ExtF β s w β' s' w')
    (hh : ∀ p, (h' p = s' p ∧ (s p = none → h p = none)) ∨ (h' p = h p ∧ s p = none)) : RelF β' h' F' w' ∧ ExtF β h w β' h' w' := by
  have old : ∀ p b N, h p ≠ none → β' p = some (b, N) → β p = some (b, N) := fun p b N hp hb => by
    obtain ⟨b', N', hb'⟩ := hr.live hp
    rw [he.le p _ hb'] at hb
    cases hb; exact hb'
  have hsw : ∀ p, WrF s p → WrF h p := fun p ⟨B, hB, hro⟩ => ⟨B, by rw [← hs p (by rw [hB]; simp)]; exact hB, hro⟩
  have mixed : ∀ p q b N N', s' p ≠ none → h q ≠ none → s q = none → β' p = some (b, N) → β' q = some (b, N') → False := fun p q b N N' hp hq hsq h1 h2 => by
    have hq2 := old q b N' hq h2
    rcases he.live p b N hp h1 with ⟨r, M, hr1, hr2⟩ | hle
    · have := hr.inj r q b M N' (by rw [← hs r hr1]; exact hr1) hq hr2 hq2
      subst this; exact hr1 hsq
    · have := hr.lt q b N' hq2; omega
  refine ⟨⟨hr'.fresh, hr'.lt, fun p B hp => ?_, fun p q b N N' hp hq h1 h2 => ?_⟩, ⟨he.os, he.tape, he.output, he.size, he.le, fun b hb hn => he.old b hb fun p N hp => hn p N (hsw p hp), fun p b N hp hb => ?_, fun p b N hp hb => ?_, fun p hp => ?_, fun p B hp hro => ?_⟩⟩
  · rcases hh p with ⟨e, _⟩ | ⟨e, hsp⟩
    · exact hr'.blk p B (e ▸ hp)
    · rw [e] at hp
      refine (hr.blk p B hp).le he.le fun b N hb => he.old b (hr.lt p b N hb) fun q N' hq hbq => ?_
      have hq' := hsw q hq
      obtain ⟨B1, hB1, _⟩ := hq'
      have := hr.inj q p b N' N (by rw [hB1]; simp) (by rw [hp]; simp) hbq hb
      subst this
      obtain ⟨B2, hB2, _⟩ := hq
      rw [hsp] at hB2; cases hB2
  · rcases hh p with ⟨e, _⟩ | ⟨e, hsp⟩ <;> rcases hh q with ⟨e', _⟩ | ⟨e', hsq⟩
    · exact hr'.inj p q b N N' (e ▸ hp) (e' ▸ hq) h1 h2
    · exact (mixed p q b N N' (e ▸ hp) (e' ▸ hq) hsq h1 h2).elim
    · exact (mixed q p b N' N (e' ▸ hq) (e ▸ hp) hsp h2 h1).elim
    · exact hr.inj p q b N N' (e ▸ hp) (e' ▸ hq) (old p b N (e ▸ hp) h1) (old q b N' (e' ▸ hq) h2)
  · rcases hh p with ⟨e, _⟩ | ⟨e, hsp⟩
    · obtain ⟨B, hB, hro⟩ := hp
      rcases he.new p b N ⟨B, e ▸ hB, hro⟩ hb with ⟨q, N', hq, hbq⟩ | hle
      · exact .inl ⟨q, N', hsw q hq, hbq⟩
      · exact .inr hle
    · obtain ⟨B, hB, hro⟩ := hp
      rw [e] at hB
      exact .inl ⟨p, N, ⟨B, hB, hro⟩, old p b N (by rw [hB]; simp) hb⟩
  · rcases hh p with ⟨e, _⟩ | ⟨e, hsp⟩
    · rcases he.live p b N (e ▸ hp) hb with ⟨q, N', hq, hbq⟩ | hle
      · exact .inl ⟨q, N', by rw [← hs q hq]; exact hq, hbq⟩
      · exact .inr hle
    · exact .inl ⟨p, N, e ▸ hp, old p b N (e ▸ hp) hb⟩
  · rcases hh p with ⟨e, _⟩ | ⟨e, hsp⟩
    · rcases he.dom p (e ▸ hp) with h1 | h1
      · exact .inl (by rw [← hs p h1]; exact h1)
      · exact .inr h1
    · exact .inl (e ▸ hp)
  · rcases hh p with ⟨e, hsp⟩ | ⟨e, hsp⟩
    · rw [e]
      have hsn : s p ≠ none := fun hn => by rw [hsp hn] at hp; cases hp
      exact he.kept p B (by rw [hs p hsn]; exact hp) hro
    · rw [e]; exact hp

/-! slots -/
abbrev Sl := Nat → AV
def putS (σ : Sl) (dst : Option Nat) (x : AV) : Sl := match dst with | none => σ | some d => fun t => if t = d then x else σ t
def opS (G : Nat) (σ : Sl) : Operand → AV
  | .tmp t => σ t
  | .const v => absV v
  | .global g => bif Nat.blt g G then .c (.p (Pa.of g) 0) else .u
  | .func f => .c (.o (.f f [] []))
def wantS (ops : Array Oper) (σ : Sl) (o : Oper) : Option Bool := match o.guard with
  | none => some true
  | some (j, want) => match (ops[j]?).bind (·.dst) with
    | none => none
    | some d => match σ d with
      | .c (.b b) => some (b == want)
      | .tup [] => some false
      | _ => none
def RepS (nt : Nat) (β : Bz) (σ : Sl) (vs : Array Value) : Prop := vs.size = nt ∧ ∀ (t : Nat) v, (vs[t]? = some v → RepA β (σ t) v) ∧ (nt ≤ t → σ t = .u)

theorem opS_rep {G nt : Nat} {β : Bz} {σ : Sl} {a : Act} (hg : GlobOk G β) (h : RepS nt β σ a.tmps) (x : Operand) : RepA β (opS G σ x) (a.eval x) := by
  obtain ⟨hs, hv⟩ := h
  cases x with
  | tmp t =>
    by_cases ht : t < nt
    · have hlt : t < a.tmps.size := hs ▸ ht
      exact (hv t _).1 (by simp [Act.eval, hlt, Array.getD])
    · show RepA β (σ t) _
      rw [(hv t undef).2 (Nat.le_of_not_lt ht)]; trivial
  | const v => exact absV_rep v
  | global g =>
    simp only [opS]
    rw [Go.Eb.bltD]
    by_cases hg' : g < G
    · rw [decide_eq_true hg']
      obtain ⟨N, hN⟩ := hg g hg'
      exact ⟨g, N, hN, rfl⟩
    · rw [decide_eq_false hg']; trivial
  | func f => exact ⟨#[], #[], rfl, ⟨rfl, fun i c v h => by simp at h⟩, ⟨rfl, fun i c v h => by simp at h⟩⟩
theorem RepS.le {nt : Nat} {β β' : Bz} {σ : Sl} {vs : Array Value} (hm : Le β β') (h : RepS nt β σ vs) : RepS nt β' σ vs := ⟨h.1, fun t v => ⟨fun hv => ((h.2 t v).1 hv).le hm, (h.2 t v).2⟩⟩
theorem RepS.put {nt : Nat} {β : Bz} {σ : Sl} {a : Act} {dst : Option Nat} {x : AV} {v : Value} (h : RepS nt β σ a.tmps) (hd : ∀ d, dst = some d → d < nt) (hx : RepA β x v) : RepS nt β (putS σ dst x) (a.put dst v).tmps := by
  cases dst with
  | none => exact h
  | some d =>
    have hd := hd d rfl
    refine ⟨by simp [Act.put, h.1], fun t u => ⟨fun hu => ?_, fun ht => ?_⟩⟩
    · simp only [Act.put] at hu
      rw [Array.getElem?_setIfInBounds] at hu
      simp only [putS]
      by_cases e : t = d
      · subst e
        simp only [if_true] at hu ⊢
        split at hu
        · simp at hu; subst hu; exact hx
        · cases hu
      · rw [if_neg (fun e' => e e'.symm)] at hu
        rw [if_neg e]
        exact (h.2 t u).1 hu
    · simp only [putS]
      rw [if_neg (by omega)]
      exact (h.2 t u).2 ht
theorem wantS_rep {nt : Nat} {β : Bz} {σ : Sl} {ops : Array Oper} {o : Oper} {a : Act} {b : Bool} (h : RepS nt β σ a.tmps) (hw : wantS ops σ o = some b) : Region.wanted o (yielded ops a.tmps) = b := by
  unfold wantS at hw
  split at hw
  · rename_i hg; cases hw; exact wanted_none hg
  · rename_i j want hg
    split at hw
    · cases hw
    · rename_i d hd
      by_cases hlt : d < a.tmps.size
      · have hr := (h.2 d a.tmps[d]).1 (by simp [hlt])
        split at hw
        · rename_i b' hb
          rw [hb] at hr
          have e : a.tmps[d] = .bool b' := hr
          cases hw
          simp [Region.wanted, hg, yielded, hd, hlt, e]
        · rename_i hb
          rw [hb] at hr
          obtain ⟨vs, e, hl, _⟩ := hr
          cases hw
          simp [Region.wanted, hg, yielded, hd, hlt, e]
        · cases hw
      · have e2 := (h.2 d undef).2 (by rw [← h.1]; exact Nat.le_of_not_lt hlt)
        rw [e2] at hw
        cases hw

/-! actions -/
structure Ak where
  x : AV
  ok : Hf → (Pa → Prop) → Prop
  eff : Hf → Hf
  fr : (Pa → Prop) → Pa → Prop
def Ak.skip : Ak := ⟨.tup [], fun _ _ => True, id, id⟩

/-- carried out wherever it may be, an operation does as the action says -/
def Ctr (P : Program) (G : Nat) (o : Oper) (ρ : Operand → AV) (a : Ak) : Prop := ∀ (h : Hf) (F : Pa → Prop) (β : Bz) (w : World) (act : Act) (Q : Exit → Act → World → Prop) (K : Act → World → Prop), a.ok h F → RelF β h F w → GlobOk G β →
  (∀ y ∈ o.op.operands.toList, RepA β (ρ y) (act.eval y)) →
  (∀ v β' w', RepA β' a.x v → RelF β' (a.eff h) (a.fr F) w' → ExtF β h w β' (a.eff h) w' → K (act.put o.dst v) w') → o.wp P act w K Q
theorem Ctr.congr {P : Program} {G : Nat} {o : Oper} {ρ ρ' : Operand → AV} {a : Ak} (h : Ctr P G o ρ a) (hρ : ∀ y ∈ o.op.operands.toList, ρ' y = ρ y) : Ctr P G o ρ' a :=
  fun hh F β w act Q K h1 h2 h3 h4 h5 => h hh F β w act Q K h1 h2 h3 (fun y hy => by rw [← hρ y hy]; exact h4 y hy) h5

structure Tz where
  σ : Sl
  h : Hf
  F : Pa → Prop

section
variable {D : List Deferred} {P : Program} {G nt : Nat} {ops : Array Oper}

def StepR (P : Program) (G nt : Nat) (ops : Array Oper) (i : Nat) (s : Tz) (a : Ak) (s' : Tz) : Prop :=
  ∃ o, ops[i]? = some o ∧ (∀ d, o.dst = some d → d < nt) ∧ s' = ⟨putS s.σ o.dst a.x, a.eff s.h, a.fr s.F⟩ ∧ a.ok s.h s.F ∧ ((wantS ops s.σ o = some false ∧ a = Ak.skip) ∨ (wantS ops s.σ o = some true ∧ Ctr P G o (opS G s.σ) a))

def Ind (a b : Ak) : Prop := ∀ h F, a.ok h F → b.ok (a.eff h) (a.fr F) → b.ok h F ∧ a.ok (b.eff h) (b.fr F) ∧ b.eff (a.eff h) = a.eff (b.eff h) ∧ b.fr (a.fr F) = a.fr (b.fr F)
def IndR (ops : Array Oper) (x y : Nat × Ak) : Prop := ∃ o p, ops[x.1]? = some o ∧ ops[y.1]? = some p ∧ o.apart ops p = true ∧ Ind x.2 y.2

theorem wantS_put {σ : Sl} {dst : Option Nat} {v : AV} {o : Oper} (h : ∀ d, dst = some d → d ∉ o.looksAt ops) : wantS ops (putS σ dst v) o = wantS ops σ o := by
  cases dst with
  | none => rfl
  | some d =>
    unfold wantS
    cases hg : o.guard with
    | none => rfl
    | some gw =>
      obtain ⟨g, want⟩ := gw
      simp only
      cases ht : (ops[g]?).bind (·.dst) with
      | none => rfl
      | some t =>
        have hne : t ≠ d := fun e => h d rfl (by subst e; simp [Oper.looksAt, hg, ht])
        simp [putS, hne]
theorem opS_put {σ : Sl} {dst : Option Nat} {v : AV} {o : Oper} (h : ∀ d, dst = some d → d ∉ o.looksAt ops) : ∀ y ∈ o.op.operands.toList, opS G (putS σ dst v) y = opS G σ y := by
  intro y hy
  cases dst with
  | none => rfl
  | some d =>
    cases y with
    | tmp t =>
      have hne : t ≠ d := fun e => h d rfl (by
        subst e
        exact List.mem_append_left _ (List.mem_filterMap.2 ⟨.tmp t, hy, rfl⟩))
      simp [opS, putS, hne]
    | _ => rfl
theorem putS_comm (σ : Sl) {x y : Option Nat} (v z : AV) (h : ∀ d, x = some d → y ≠ some d) : putS (putS σ x v) y z = putS (putS σ y z) x v := by
  cases x with
  | none => rfl
  | some d =>
    cases y with
    | none => rfl
    | some e =>
      have hne : d ≠ e := fun he => h d rfl (he ▸ rfl)
      funext t
      simp only [putS]
      by_cases h1 : t = e <;> by_cases h2 : t = d
      · exact absurd (h2.symm.trans h1) hne
      · rw [if_pos h1, if_neg h2, if_pos h1]
      · rw [if_neg h1, if_pos h2, if_pos h2]
      · rw [if_neg h1, if_neg h2, if_neg h2, if_neg h1]

theorem step_comm {i j : Nat} {a b : Ak} {s s1 s2 : Tz} (h1 : StepR P G nt ops i s a s1) (h2 : StepR P G nt ops j s1 b s2) (hi : IndR ops (i, a) (j, b)) :
    ∃ t, StepR P G nt ops j s b t ∧ StepR P G nt ops i t a s2 := by
  obtain ⟨o, ho, hdo, rfl, ok1, hc1⟩ := h1
  obtain ⟨p, hp, hdp, rfl, ok2, hc2⟩ := h2
  obtain ⟨o', p', ho', hp', hap, hind⟩ := hi
  simp only at ho' hp'
  rw [ho] at ho'; cases ho'
  rw [hp] at hp'; cases hp'
  obtain ⟨k1, k2, k3⟩ := Oper.apart_spec hap
  obtain ⟨q1, q2, q3, q4⟩ := hind s.h s.F ok1 ok2
  simp only at hc2
  rw [wantS_put k1] at hc2
  refine ⟨⟨putS s.σ p.dst b.x, b.eff s.h, b.fr s.F⟩, ⟨p, hp, hdp, rfl, q1, hc2.imp id fun ⟨x, y⟩ => ⟨x, y.congr fun y hy => (opS_put k1 y hy).symm⟩⟩, ⟨o, ho, hdo, ?_, q2, ?_⟩⟩
  · simp only
    rw [putS_comm _ _ _ k2, q3, q4]
  · simp only
    rw [wantS_put k3]
    exact hc1.imp id fun ⟨x, y⟩ => ⟨x, y.congr fun y hy => opS_put k3 y hy⟩

def RunR (P : Program) (G nt : Nat) (ops : Array Oper) : List Nat → Tz → List (Nat × Ak) → Tz → Prop
  | [], s, tr, s' => tr = [] ∧ s' = s
  | i :: rest, s, tr, s' => ∃ a s1 tr', StepR P G nt ops i s a s1 ∧ RunR P G nt ops rest s1 tr' s' ∧ tr = (i, a) :: tr'

theorem move_front : ∀ (A : List Nat) {i : Nat} {B : List Nat} {s s' : Tz} {tr : List (Nat × Ak)}, RunR P G nt ops (A ++ i :: B) s tr s' →
    ∃ trA act trB, tr = trA ++ (i, act) :: trB ∧ trA.map (·.1) = A ∧ ((∀ x ∈ trA, IndR ops x (i, act)) → ∃ s1, StepR P G nt ops i s act s1 ∧ RunR P G nt ops (A ++ B) s1 (trA ++ trB) s')
  | [], i, B, s, s', tr, h => by
    obtain ⟨act, s1, tr', hst, hr, rfl⟩ := h
    exact ⟨[], act, tr', rfl, rfl, fun _ => ⟨s1, hst, hr⟩⟩
  | a :: A, i, B, s, s', tr, h => by
    obtain ⟨act0, s0, tr', hst0, hr, rfl⟩ := h
    obtain ⟨trA, act, trB, rfl, hmap, himp⟩ := move_front A hr
    refine ⟨(a, act0) :: trA, act, trB, rfl, by simp [hmap], fun hind => ?_⟩
    obtain ⟨s1, hst1, hr1⟩ := himp fun x hx => hind x (by simp [hx])
    obtain ⟨t, ht1, ht2⟩ := step_comm hst0 hst1 (hind (a, act0) (by simp))
    exact ⟨t, ht1, act0, s1, trA ++ trB, ht2, hr1, rfl⟩

def CommR (ops : Array Oper) (ms : List Nat) : List (Nat × Ak) → Prop
  | [] => True
  | x :: r => (∀ y ∈ r, (ms.getD y.1 0).testBit x.1 = true ∨ IndR ops x y) ∧ CommR ops ms r
theorem CommR.mid {ms : List Nat} : ∀ {A : List (Nat × Ak)} {x : Nat × Ak} {B : List (Nat × Ak)}, CommR ops ms (A ++ x :: B) →
    CommR ops ms (A ++ B) ∧ ∀ y ∈ A, (ms.getD x.1 0).testBit y.1 = true ∨ IndR ops y x
  | [], x, B, h => ⟨h.2, fun y hy => by simp at hy⟩
  | y :: A, x, B, h => by
    obtain ⟨h1, h2⟩ := CommR.mid h.2
    refine ⟨⟨fun z hz => h.1 z (by simp at hz ⊢; rcases hz with hz | hz <;> simp [hz]), h1⟩, fun z hz => ?_⟩
    simp at hz
    rcases hz with rfl | hz
    · exact h.1 x (by simp)
    · exact h2 z hz

/-- the state inside a drawn region -/
structure SimT (D : List Deferred) (G nt : Nat) (β : Bz) (s : Tz) (a : Act) (w : World) : Prop where
  frame : RepS nt β s.σ a.tmps
  mem : RelF β s.h s.F w
  glob : GlobOk G β
  defers : a.defers = D

theorem stepR_wp {i : Nat} {s s' : Tz} {ak : Ak} {β : Bz} {a : Act} {w : World} {Q : Exit → Act → World → Prop} {K : Act → World → Prop}
    (hst : StepR P G nt ops i s ak s') (hs : SimT D G nt β s a w) (hK : ∀ β' a' w', SimT D G nt β' s' a' w' → ExtF β s.h w β' s'.h w' → K a' w') : wpOp P ops Q i K a w := by
  obtain ⟨o, ho, hd, rfl, hok, hc⟩ := hst
  unfold wpOp
  simp only [ho]
  rcases hc with ⟨hw, rfl⟩ | ⟨hw, hctr⟩
  · rw [wantS_rep hs.frame hw]
    simp only [Bool.false_eq_true, if_false]
    exact hK β _ w ⟨hs.frame.put hd ⟨#[], rfl, rfl, fun i p x h => by simp at h⟩, hs.mem, hs.glob, by cases o.dst <;> exact hs.defers⟩ (.refl _ _ _)
  · rw [wantS_rep hs.frame hw]
    simp only [if_true]
    left
    exact hctr s.h s.F β w a Q K hok hs.mem hs.glob (fun y _ => opS_rep hs.glob hs.frame y) fun v β' w' h1 h2 h3 =>
      hK β' _ w' ⟨(hs.frame.le h3.le).put hd h1, h2, hs.glob.le h3.le, by cases o.dst <;> exact hs.defers⟩ h3

theorem any_wp {Q : Exit → Act → World → Prop} (hdown : edgesDown ops = true) : ∀ (fuel : Nat) (R : List Nat) {listed : Array Bool} {s s' : Tz} {tr : List (Nat × Ak)} {β : Bz} {a : Act} {w : World},
    R.length ≤ fuel → R.Pairwise (· < ·) → (∀ j, j ∈ R ↔ listed.getD j true = false) → (∀ j, listed.getD j false = true ∨ listed.getD j true = false ∨ ops.size ≤ j) → (∀ j ∈ R, j < ops.size) →
    (∀ (j : Nat) o e, listed.getD j false = true → ops[j]? = some o → e ∈ o.after → Region.binds .any e = true → listed.getD e.on false = true) →
    RunR P G nt ops R s tr s' → CommR ops (masks ops.toList []) tr → SimT D G nt β s a w → (∀ β' a' w', SimT D G nt β' s' a' w' → ExtF β s.h w β' s'.h w' → Q .normal a' w') → wpAny P .any ops Q fuel listed a w := by
  have hd : ∀ (j : Nat) o e, ops[j]? = some o → e ∈ o.after → Region.binds .any e = true → e.on < j := by
    intro j o e ho he hb
    have h1 := List.all_eq_true.1 hdown (o, j) (by
      rw [List.mem_zipIdx_iff_getElem?]
      simpa using ho)
    have h2 := List.all_eq_true.1 h1 e (by simpa using he)
    simpa [hb] using h2
  have headReady : ∀ (i : Nat) (R : List Nat) (listed : Array Bool) {s s' : Tz} {tr : List (Nat × Ak)}, (i :: R).Pairwise (· < ·) → (∀ j, j ∈ i :: R ↔ listed.getD j true = false) → (∀ j, listed.getD j false = true ∨ listed.getD j true = false ∨ ops.size ≤ j) →
      RunR P G nt ops (i :: R) s tr s' → i ∈ Region.ready .any ops listed := by
    intro i R listed s s' tr hs hR hall hr
    obtain ⟨act, s1, tr', ⟨o, ho, _⟩, _, _⟩ := hr
    refine mem_ready.2 ⟨(hR i).1 (by simp), o, ho, fun e he hb => ?_⟩
    have hlt := hd i o e ho he hb
    rcases hall e.on with h1 | h1 | h1
    · exact h1
    · have hm := (hR e.on).2 h1
      simp at hm
      rcases hm with h2 | h2
      · omega
      · have := List.rel_of_pairwise_cons hs h2; omega
    · have := (Array.getElem?_eq_some_iff.1 ho).1; omega
  intro fuel
  induction fuel with
  | zero =>
    intro R listed s s' tr β a w hlen hs hR hall hsz hcl hr hcm hsim hQ
    have : R = [] := List.eq_nil_of_length_eq_zero (by omega)
    subst this
    obtain ⟨_, rfl⟩ := hr
    refine ⟨?_, hQ β a w hsim (.refl _ _ _)⟩
    apply List.eq_nil_iff_forall_not_mem.2
    intro i hi
    have := (hR i).2 (mem_ready.1 hi).1
    simp at this
  | succ fuel ih =>
    intro R listed s s' tr β a w hlen hs hR hall hsz hcl hr hcm hsim hQ
    refine ⟨fun hnil => ?_, fun i hi => ?_⟩
    · cases R with
      | nil => obtain ⟨_, rfl⟩ := hr; exact hQ β a w hsim (.refl _ _ _)
      | cons i R => have := headReady i R listed hs hR hall hr; rw [hnil] at this; simp at this
    · obtain ⟨hun, o, ho, hpre⟩ := mem_ready.1 hi
      have hmem := (hR i).2 hun
      obtain ⟨A, B, rfl⟩ := List.append_of_mem hmem
      obtain ⟨trA, act, trB, rfl, hmap, himp⟩ := move_front A hr
      obtain ⟨hcm', hpair⟩ := hcm.mid
      have hreach : ∀ x ∈ trA, ((masks ops.toList []).getD i 0).testBit x.1 = false := by
        intro x hx
        cases hre : ((masks ops.toList []).getD i 0).testBit x.1 with
        | false => rfl
        | true =>
          have hl := masks_listed hcl ops.toList [] (fun k o' hk => by simpa using hk) (fun j i' _ h => by simp at h) i x.1 (fun o' e ho' he hb => by rw [ho] at ho'; simp at ho'; subst ho'; exact hpre e he hb) hre
          have hxA : x.1 ∈ A := by rw [← hmap]; exact List.mem_map_of_mem hx
          have hxu := (hR x.1).1 (by simp [hxA])
          rcases Nat.lt_or_ge x.1 listed.size with h' | h'
          · simp [h'] at hl hxu; rw [hl] at hxu; cases hxu
          · simp [Array.getElem?_eq_none h'] at hl
      obtain ⟨s1, hst, hr'⟩ := himp fun x hx => by
        rcases hpair x hx with h1 | h1
        · rw [hreach x hx] at h1; cases h1
        · exact h1
      have hisz : i < listed.size := by
        rcases Nat.lt_or_ge i listed.size with h' | h'
        · exact h'
        · simp [Array.getElem?_eq_none h'] at hun
      have hnot : i ∉ A ++ B := by
        intro hm
        simp at hm
        have hp := List.pairwise_append.1 hs
        rcases hm with hm | hm
        · have := hp.2.2 i hm i (by simp); omega
        · have := List.rel_of_pairwise_cons hp.2.1 hm; omega
      refine stepR_wp hst hsim fun β1 a1 w1 hs1 he1 => ih (A ++ B) (listed := listed.setIfInBounds i true) ?_ ?_ ?_ ?_ ?_ ?_ hr' hcm' hs1 fun β2 a2 w2 hs2 he2 => hQ β2 a2 w2 hs2 (he1.trans he2)
      · simp at hlen ⊢; omega
      · exact hs.sublist (by simp)
      · intro j
        by_cases hji : j = i
        · subst hji
          simp [hnot, hisz]
        · rw [getD_set_ne true (Ne.symm hji), ← hR j]
          simp [hji]
      · intro j
        by_cases hji : j = i
        · subst hji; left; simp [hisz]
        · rw [getD_set_ne true (Ne.symm hji), getD_set_ne false (Ne.symm hji)]; exact hall j
      · intro j hj
        exact hsz j (by simp at hj ⊢; rcases hj with h1 | h1 <;> simp [h1])
      · intro j o' e hj ho' he hb
        by_cases hji : j = i
        · subst hji
          rw [ho] at ho'; simp at ho'; subst ho'
          exact getD_set_true (hpre e he hb)
        · rw [getD_set_ne false (Ne.symm hji)] at hj
          exact getD_set_true (hcl j o' e hj ho' he hb)

/-- a drawn region -/
theorem draw_wp {id : Nat} {Q : Exit → Act → World → Prop} {s s' : Tz} {tr : List (Nat × Ak)} {β : Bz} {a : Act} {w : World} (hm : P.follows .mixedOrders = true) (hdown : edgesDown ops = true) (hr : RunR P G nt ops (List.range ops.size) s tr s') (hc : CommR ops (masks ops.toList []) tr)
    (hs : SimT D G nt β s a { w with drawn := w.drawn + 1 }) (hQ : ∀ β' a' w', SimT D G nt β' s' a' w' → ExtF β s.h { w with drawn := w.drawn + 1 } β' s'.h w' → Q .normal a' w') : (Code.region id ops true).wp P Q a w := by
  have hlt : ∀ j ∈ List.range ops.size, j < ops.size := fun j hj => by simpa using hj
  refine wp_region_any hm (any_wp hdown ops.size (List.range ops.size) (by simp) List.pairwise_lt_range ?_ ?_ hlt ?_ hr hc hs hQ)
  · intro j
    by_cases hj : j < ops.size <;> simp [hj]
  · intro j
    by_cases hj : j < ops.size
    · simp [hj]
    · right; right; omega
  · intro j o e hj
    exfalso
    by_cases hj' : j < ops.size <;> simp [hj'] at hj
end
end Go.Ez
namespace Go.Ez
open Go.RowKit

/-- the environment, of an operation's own operands alone -/
noncomputable def cut (o : Op) (ρ : Operand → AV) : Operand → AV := open Classical in fun y => if y ∈ o.operands.toList then ρ y else .u
theorem cut_mem {o : Op} {ρ : Operand → AV} {y : Operand} (h : y ∈ o.operands.toList) : cut o ρ y = ρ y := by unfold cut; rw [if_pos h]
theorem cut_rep {β : Bz} {o : Op} {ρ : Operand → AV} {ρv : Operand → Value} (h : ∀ y ∈ o.operands.toList, RepA β (ρ y) (ρv y)) (y : Operand) : RepA β (cut o ρ y) (ρv y) := by
  unfold cut
  split
  · exact h y (by assumption)
  · trivial

def ins1 (p : Pa) (B : Bk) : Hz := Tr.set (some B) p .e
theorem ins1_get (p q : Pa) (B : Bk) : (ins1 p B).get q = if q = p then some B else none := by
  unfold ins1; rw [Tr.get_set, Tr.get_e]

namespace Ak
/-- an action on so much: n its own name; rd: the block it looks at; out: the block it writes -/
def sm (x : AV) (n : Pa) (rd : Option (Pa × (Option Bk → Prop))) (out : Option (Pa × Bk)) : Ak :=
  ⟨x, fun h F => F n ∧ ∀ p L, rd = some (p, L) → L (h p), fun h p => match out with | none => h p | some (q, B) => if p = q then some B else h p, fun F p => F p ∧ p ≠ n⟩
/-- an action on all but X -/
def bg (x : AV) (X : List Pa) (Hp Hq : Hf) (c c' : Pa) : Ak :=
  ⟨x, fun h F => (∀ p, p ∉ X → h p = Hp p) ∧ (∀ p : Pa, c.num ≤ p.num → F p), fun h p => if p ∈ X then h p else Hq p, fun F p => F p ∧ (p.num < c.num ∨ c'.num ≤ p.num)⟩
/-- an entry more in the map q -/
def mu (n q : Pa) (kd : Nat) (key val : Value) : Ak :=
  ⟨.u, fun h F => F n ∧ ∃ l, h q = some (.mp kd l), fun h p => if p = q then (match h q with | some (.mp kd' l) => some (.mp kd' (insM key val l)) | b => b) else h p, fun F p => F p ∧ p ≠ n⟩
end Ak

section
variable {P : Program} {G : Nat} {o : Oper} {ρ : Operand → AV}

theorem step_core {S S' : Hz} {n n' : Pa} {x : AV} (hst : StepOk P o (cut o.op ρ) S n x S' n') {h : Hf} {F F1 : Pa → Prop} {β : Bz} {w : World} {act : Act} {Q : Exit → Act → World → Prop} {K : Act → World → Prop} (hF : F n) (hF1 : ∀ p, F1 p → F p ∧ (p ≠ n ∨ n' = n)) (hr : RelF β h F w) (hρ : ∀ y ∈ o.op.operands.toList, RepA β (ρ y) (act.eval y))
    {h' : Hf} (hs : ∀ p, S.get p ≠ none → S.get p = h p) (hh : ∀ p, (h' p = S'.get p ∧ (S.get p = none → h p = none)) ∨ (h' p = h p ∧ S.get p = none))
    (hK : ∀ v β' w', RepA β' x v → RelF β' h' F1 w' → ExtF β h w β' h' w' → K (act.put o.dst v) w') : o.wp P act w K Q := by
  obtain ⟨nxt, w', β', F', hrun, hv, hrel, hext, hF', _⟩ := hst β w act.eval F (cut_rep hρ) (hr.sub hs).to hF
  obtain ⟨h1, h2⟩ := frame hr hs hrel.toF hext.toF hh
  have h1 := h1.less (F' := F1) fun p hp => hF' p (hF1 p hp).1 (hF1 p hp).2
  unfold Oper.wp
  rw [hrun]
  rcases hv with ⟨v, rfl, hv⟩ | ⟨rfl, rfl⟩
  · simp only [Oper.upon]
    exact hK v β' w' hv h1 h2
  · simp only [Oper.upon]
    exact hK undef β' w' trivial h1 h2

theorem ctr_pure {S' : Hz} {n n' : Pa} {x : AV} (hst : StepOk P o (cut o.op ρ) .e n x S' n') : Ctr P G o ρ (Ak.sm x n none none) := fun h F β w act Q K hok hr _ hρ hK =>
  step_core hst hok.1 (F1 := fun p => F p ∧ p ≠ n) (fun p hp => ⟨hp.1, .inl hp.2⟩) hr hρ (fun p hp => absurd (Tr.get_e p) hp) (h' := h) (fun p => .inr ⟨rfl, Tr.get_e p⟩) hK

/-- a look at block B gives x -/
def Looks (P : Program) (o : Oper) (ρ : Operand → AV) (n p : Pa) (x : AV) (b : Option Bk) : Prop := ∃ B n', b = some B ∧ StepOk P o (cut o.op ρ) (ins1 p B) n x (ins1 p B) n'
theorem ctr_ld {n p : Pa} {x : AV} : Ctr P G o ρ (Ak.sm x n (some (p, Looks P o ρ n p x)) none) := fun h F β w act Q K hok hr _ hρ hK => by
  obtain ⟨B, n', hB, hst⟩ := hok.2 p _ rfl
  refine step_core hst hok.1 (F1 := fun p => F p ∧ p ≠ n) (fun p hp => ⟨hp.1, .inl hp.2⟩) hr hρ (fun q hq => ?_) (h' := h) (fun q => ?_) hK
  · rw [ins1_get] at hq ⊢
    by_cases e : q = p
    · rw [if_pos e, e, hB]
    · rw [if_neg e] at hq; exact absurd rfl hq
  · rw [ins1_get]
    by_cases e : q = p
    · rw [if_pos e, e, hB]; exact .inl ⟨rfl, fun h => by cases h⟩
    · rw [if_neg e]; exact .inr ⟨rfl, rfl⟩

theorem ctr_al {S' : Hz} {n n' : Pa} {x : AV} {B : Bk} (hst : StepOk P o (cut o.op ρ) .e n x S' n') (hB : S'.get n = some B) : Ctr P G o ρ (Ak.sm x n none (some (n, B))) := fun h F β w act Q K hok hr _ hρ hK => by
  have hn : h n = none := by
    cases hh : h n with
    | none => rfl
    | some B' =>
      obtain ⟨b, N, hb⟩ := hr.live (p := n) (by rw [hh]; simp)
      rw [hr.fresh n hok.1] at hb; cases hb
  refine step_core hst hok.1 (F1 := fun p => F p ∧ p ≠ n) (fun p hp => ⟨hp.1, .inl hp.2⟩) hr hρ (fun p hp => absurd (Tr.get_e p) hp) (h' := fun p => if p = n then some B else h p) (fun p => ?_) hK
  show ((if p = n then some B else h p) = _ ∧ _) ∨ ((if p = n then some B else h p) = _ ∧ _)
  by_cases e : p = n
  · rw [if_pos e, e]; exact .inl ⟨hB.symm, fun _ => hn⟩
  · rw [if_neg e]; exact .inr ⟨rfl, Tr.get_e p⟩

theorem ctr_st {S' : Hz} {n n' q : Pa} {x : AV} {B B' : Bk} (hst : StepOk P o (cut o.op ρ) (ins1 q B) n x S' n') (hB : S'.get q = some B') : Ctr P G o ρ (Ak.sm x n (some (q, fun b => b = some B)) (some (q, B'))) := fun h F β w act Q K hok hr _ hρ hK => by
  have hq : h q = some B := hok.2 q _ rfl
  refine step_core hst hok.1 (F1 := fun p => F p ∧ p ≠ n) (fun p hp => ⟨hp.1, .inl hp.2⟩) hr hρ (fun p hp => ?_) (h' := fun p => if p = q then some B' else h p) (fun p => ?_) hK
  · rw [ins1_get] at hp ⊢
    by_cases e : p = q
    · rw [if_pos e, e, hq]
    · rw [if_neg e] at hp; exact absurd rfl hp
  · rw [ins1_get]
    by_cases e : p = q
    · rw [if_pos e, if_pos e, e]; exact .inl ⟨hB.symm, fun h => by cases h⟩
    · rw [if_neg e, if_neg e]; exact .inr ⟨rfl, rfl⟩

theorem ctr_mu {n q : Pa} {kd : Nat} {key val : Value} (hall : ∀ l, ∃ S' n', StepOk P o (cut o.op ρ) (ins1 q (.mp kd l)) n .u S' n' ∧ S'.get q = some (.mp kd (insM key val l))) : Ctr P G o ρ (Ak.mu n q kd key val) := fun h F β w act Q K hok hr _ hρ hK => by
  obtain ⟨hF, l, hq⟩ := hok
  obtain ⟨S', n', hst, hB⟩ := hall l
  refine step_core hst hF (F1 := fun p => F p ∧ p ≠ n) (fun p hp => ⟨hp.1, .inl hp.2⟩) hr hρ (fun p hp => ?_) (h' := (Ak.mu n q kd key val).eff h) (fun p => ?_) hK
  · rw [ins1_get] at hp ⊢
    by_cases e : p = q
    · rw [if_pos e, e, hq]
    · rw [if_neg e] at hp; exact absurd rfl hp
  · show ((if p = q then _ else h p) = _ ∧ _) ∨ ((if p = q then _ else h p) = _ ∧ _)
    rw [ins1_get]
    by_cases e : p = q
    · rw [if_pos e, if_pos e, hq, e]; exact .inl ⟨hB.symm, fun h => by cases h⟩
    · rw [if_neg e, if_neg e]; exact .inr ⟨rfl, rfl⟩

theorem ctr_bg {orc : Oz} (horc : OzOk P G orc) {H1 H' : Hz} {c c' : Pa} {x : AV} {X : List Pa} (hX : ∀ p ∈ X, H1.get p = none)
    (hd : StepOk P o (cut o.op ρ) H1 c x H' c' ∨ ∃ g l, orc g l H1 c = some (.mk x H' c') ∧ CallTo P o (cut o.op ρ) g l) : Ctr P G o ρ (Ak.bg x X H1.get H'.get c c') := fun h F β w act Q K hok hr hg hρ hK => by
  obtain ⟨hok1, hok2⟩ := hok
  have hs : ∀ p, H1.get p ≠ none → H1.get p = h p := fun p hp => by
    by_cases hm : p ∈ X
    · exact absurd (hX p hm) hp
    · exact (hok1 p hm).symm
  have hh : ∀ p, ((if p ∈ X then h p else H'.get p) = H'.get p ∧ (H1.get p = none → h p = none)) ∨ ((if p ∈ X then h p else H'.get p) = h p ∧ H1.get p = none) := fun p => by
    by_cases hm : p ∈ X
    · exact .inr ⟨if_pos hm, hX p hm⟩
    · exact .inl ⟨if_neg hm, fun h1 => by rw [hok1 p hm]; exact h1⟩
  rcases hd with hst | ⟨g, l, hor, hct⟩
  · have hn : c' = c ∨ c' = c.inc := by
      obtain ⟨_, _, _, _, _, _, _, _, _, hn⟩ := hst β w act.eval F (cut_rep hρ) (hr.sub hs).to (hok2 c (Nat.le_refl _))
      exact hn
    refine step_core hst (hok2 c (Nat.le_refl _)) (F1 := fun p => F p ∧ (p.num < c.num ∨ c'.num ≤ p.num)) (fun p hp => ⟨hp.1, ?_⟩) hr hρ hs hh hK
    rcases hn with e | e
    · exact .inr e
    · left
      intro ep
      subst ep
      have := hp.2
      rw [e, Pa.num_inc] at this
      omega
  · obtain ⟨vs, hvs, hrun⟩ := hct β act.eval w (cut_rep hρ)
    obtain ⟨fn, hfn, hname, hb, hcalls⟩ := horc _ _ _ _ _ hor β w F vs (hr.sub hs).to hok2 hg hvs
    have hen : (callFunc g vs).run P w = .ok (.enter g vs) w := by simp [callFunc, hfn, hname, hb]
    unfold Oper.wp
    rw [hrun, hen]
    simp only [Oper.upon]
    refine hcalls.mono ?_
    rintro ee w' ⟨v, β', F', rfl, h1, h2, h3, h4⟩
    obtain ⟨k1, k2⟩ := frame hr hs h2.toF h3.toF hh
    exact hK v β' w' h1 (k1.less fun p hp => h4.2 p hp.1 hp.2) k2
end

/-! which commute -/
theorem ind_skip_l (b : Ak) : Ind .skip b := fun h F _ hb => ⟨hb, trivial, rfl, rfl⟩
theorem ind_skip_r (a : Ak) : Ind a .skip := fun h F ha _ => ⟨trivial, ha, rfl, rfl⟩

theorem ind_sm {x x' : AV} {n n' : Pa} {rd rd' : Option (Pa × (Option Bk → Prop))} {out out' : Option (Pa × Bk)} (hn : n ≠ n')
    (h1 : ∀ p L q B, rd = some (p, L) → out' = some (q, B) → p ≠ q) (h2 : ∀ p L q B, rd' = some (p, L) → out = some (q, B) → p ≠ q) (h3 : ∀ p B q B', out = some (p, B) → out' = some (q, B') → p ≠ q) : Ind (.sm x n rd out) (.sm x' n' rd' out') := by
  intro h F ha hb
  refine ⟨⟨hb.1.1, fun p L e => ?_⟩, ⟨⟨ha.1, hn⟩, fun p L e => ?_⟩, ?_, ?_⟩
  · have := hb.2 p L e
    cases out with
    | none => exact this
    | some qB =>
      obtain ⟨q, B⟩ := qB
      simp only [Ak.sm] at this
      rw [if_neg (h2 p L q B e rfl)] at this
      exact this
  · have := ha.2 p L e
    cases out' with
    | none => exact this
    | some qB =>
      obtain ⟨q, B⟩ := qB
      simp only [Ak.sm]
      rw [if_neg (h1 p L q B e rfl)]
      exact this
  · funext p
    cases out with
    | none => cases out' <;> rfl
    | some qB =>
      cases out' with
      | none => rfl
      | some qB' =>
        obtain ⟨q, B⟩ := qB
        obtain ⟨q', B'⟩ := qB'
        simp only [Ak.sm]
        by_cases e : p = q <;> by_cases e' : p = q'
        · exact absurd (e.symm.trans e') (h3 _ _ _ _ rfl rfl)
        · simp only [if_pos e, if_neg e']
        · simp only [if_neg e, if_pos e']
        · simp only [if_neg e, if_neg e']
  · funext p
    simp only [Ak.sm]
    exact propext ⟨fun ⟨⟨a, b⟩, c⟩ => ⟨⟨a, c⟩, b⟩, fun ⟨⟨a, b⟩, c⟩ => ⟨⟨a, c⟩, b⟩⟩

theorem ind_sm_bg {x x' : AV} {n c c' : Pa} {rd : Option (Pa × (Option Bk → Prop))} {out : Option (Pa × Bk)} {X : List Pa} {Hp Hq : Hf} (hn : n.num < c.num)
    (h1 : ∀ p L, rd = some (p, L) → p ∈ X ∨ L (Hq p)) (h2 : ∀ q B, out = some (q, B) → q ∈ X) : Ind (.sm x n rd out) (.bg x' X Hp Hq c c') := by
  intro h F ha hb
  refine ⟨⟨fun p hp => ?_, fun p hp => (hb.2 p hp).1⟩, ⟨⟨ha.1, .inl hn⟩, fun p L e => ?_⟩, ?_, ?_⟩
  · have := hb.1 p hp
    cases out with
    | none => exact this
    | some qB =>
      obtain ⟨q, B⟩ := qB
      simp only [Ak.sm] at this
      rw [if_neg (fun e => hp (by rw [e]; exact h2 q B rfl))] at this
      exact this
  · have := ha.2 p L e
    simp only [Ak.bg]
    split
    · exact this
    · rename_i hp; exact (h1 p L e).resolve_left hp
  · funext p
    cases out with
    | none => rfl
    | some qB =>
      obtain ⟨q, B⟩ := qB
      have hq := h2 q B rfl
      simp only [Ak.sm, Ak.bg]
      by_cases e : p = q
      · subst e; simp only [if_pos hq, if_true]
      · simp only [if_neg e]
  · funext p
    simp only [Ak.sm, Ak.bg]
    exact propext ⟨fun ⟨⟨a, b⟩, c⟩ => ⟨⟨a, c⟩, b⟩, fun ⟨⟨a, b⟩, c⟩ => ⟨⟨a, c⟩, b⟩⟩

theorem ind_bg_sm {x x' : AV} {n c c' : Pa} {rd : Option (Pa × (Option Bk → Prop))} {out : Option (Pa × Bk)} {X : List Pa} {Hp Hq : Hf} (hn : n.num < c.num)
    (h1 : ∀ p L, rd = some (p, L) → p ∈ X ∨ L (Hp p)) (h2 : ∀ q B, out = some (q, B) → q ∈ X) : Ind (.bg x' X Hp Hq c c') (.sm x n rd out) := by
  intro h F ha hb
  refine ⟨⟨hb.1.1, fun p L e => ?_⟩, ⟨fun p hp => ?_, fun p hp => ⟨ha.2 p hp, fun e => ?_⟩⟩, ?_, ?_⟩
  · have := hb.2 p L e
    simp only [Ak.bg] at this
    split at this
    · exact this
    · rename_i hp
      rw [ha.1 p hp]
      exact (h1 p L e).resolve_left hp
  · have := ha.1 p hp
    cases out with
    | none => exact this
    | some qB =>
      obtain ⟨q, B⟩ := qB
      simp only [Ak.sm]
      rw [if_neg (fun e => hp (by rw [e]; exact h2 q B rfl))]
      exact this
  · subst e; omega
  · funext p
    cases out with
    | none => rfl
    | some qB =>
      obtain ⟨q, B⟩ := qB
      have hq := h2 q B rfl
      simp only [Ak.sm, Ak.bg]
      by_cases e : p = q
      · subst e; simp only [if_pos hq, if_true]
      · simp only [if_neg e]
  · funext p
    simp only [Ak.sm, Ak.bg]
    exact propext ⟨fun ⟨⟨a, b⟩, c⟩ => ⟨⟨a, c⟩, b⟩, fun ⟨⟨a, b⟩, c⟩ => ⟨⟨a, c⟩, b⟩⟩

theorem mu_ne {h : Hf} {n q p : Pa} {kd : Nat} {key val : Value} (hne : p ≠ q) : (Ak.mu n q kd key val).eff h p = h p := if_neg hne
theorem mu_at {h : Hf} {n q : Pa} {kd : Nat} {key val : Value} {kd' : Nat} {l : List (Value × Value)} (hq : h q = some (.mp kd' l)) : (Ak.mu n q kd key val).eff h q = some (.mp kd' (insM key val l)) := by
  show (if q = q then _ else _) = _
  rw [if_pos rfl, hq]
theorem sm_ne {h : Hf} {x : AV} {n p : Pa} {rd : Option (Pa × (Option Bk → Prop))} {out : Option (Pa × Bk)} (hne : ∀ q B, out = some (q, B) → p ≠ q) : (Ak.sm x n rd out).eff h p = h p := by
  cases out with
  | none => rfl
  | some qB => obtain ⟨q, B⟩ := qB; exact if_neg (hne q B rfl)
theorem sm_at {h : Hf} {x : AV} {n q : Pa} {rd : Option (Pa × (Option Bk → Prop))} {B : Bk} : (Ak.sm x n rd (some (q, B))).eff h q = some B := if_pos rfl
theorem mu_sm_comm {h : Hf} {x : AV} {n n' q : Pa} {kd : Nat} {key val : Value} {rd : Option (Pa × (Option Bk → Prop))} {out : Option (Pa × Bk)} (h2 : ∀ q' B, out = some (q', B) → q ≠ q') :
    (Ak.sm x n' rd out).eff ((Ak.mu n q kd key val).eff h) = (Ak.mu n q kd key val).eff ((Ak.sm x n' rd out).eff h) := by
  funext p
  by_cases e : p = q
  · subst e
    rw [sm_ne h2]
    show (if p = p then _ else _) = (if p = p then _ else _)
    rw [if_pos rfl, if_pos rfl, sm_ne h2]
  · rw [mu_ne e]
    cases out with
    | none =>
      show (Ak.mu n q kd key val).eff h p = h p
      exact mu_ne e
    | some qB =>
      obtain ⟨q', B⟩ := qB
      by_cases e' : p = q'
      · subst e'; rw [sm_at, sm_at]
      · rw [sm_ne (fun q1 B1 h1 => by cases h1; exact e'), sm_ne (fun q1 B1 h1 => by cases h1; exact e'), mu_ne e]
theorem ind_mu_sm {x : AV} {n n' q : Pa} {kd : Nat} {key val : Value} {rd : Option (Pa × (Option Bk → Prop))} {out : Option (Pa × Bk)} (hn : n ≠ n') (h1 : ∀ p L, rd = some (p, L) → p ≠ q) (h2 : ∀ q' B, out = some (q', B) → q ≠ q') : Ind (.mu n q kd key val) (.sm x n' rd out) := by
  intro h F ha hb
  obtain ⟨hF, l, hq⟩ := ha
  refine ⟨⟨hb.1.1, fun p L e => ?_⟩, ⟨⟨hF, hn⟩, l, (sm_ne h2).trans hq⟩, mu_sm_comm h2, ?_⟩
  · have := hb.2 p L e
    rw [mu_ne (h1 p L e)] at this
    exact this
  · funext p
    exact propext ⟨fun ⟨⟨a, b⟩, c⟩ => ⟨⟨a, c⟩, b⟩, fun ⟨⟨a, b⟩, c⟩ => ⟨⟨a, c⟩, b⟩⟩
theorem ind_sm_mu {x : AV} {n n' q : Pa} {kd : Nat} {key val : Value} {rd : Option (Pa × (Option Bk → Prop))} {out : Option (Pa × Bk)} (hn : n' ≠ n) (h1 : ∀ p L, rd = some (p, L) → p ≠ q) (h2 : ∀ q' B, out = some (q', B) → q ≠ q') : Ind (.sm x n' rd out) (.mu n q kd key val) := by
  intro h F ha hb
  obtain ⟨hF, l, hq⟩ := hb
  rw [sm_ne h2] at hq
  refine ⟨⟨hF.1, l, hq⟩, ⟨⟨ha.1, hn⟩, fun p L e => ?_⟩, (mu_sm_comm h2).symm, ?_⟩
  · rw [mu_ne (h1 p L e)]
    exact ha.2 p L e
  · funext p
    exact propext ⟨fun ⟨⟨a, b⟩, c⟩ => ⟨⟨a, c⟩, b⟩, fun ⟨⟨a, b⟩, c⟩ => ⟨⟨a, c⟩, b⟩⟩
theorem ind_mu_mu {n n' q q' : Pa} {kd kd' : Nat} {key val key' val' : Value} (hn : n ≠ n') (hk : q ≠ q' ∨ rankV key ≠ rankV key') : Ind (.mu n q kd key val) (.mu n' q' kd' key' val') := by
  intro h F ha hb
  obtain ⟨hF, l, hq⟩ := ha
  obtain ⟨hF', l', hq'⟩ := hb
  by_cases e : q' = q
  · subst e
    have hk2 := hk.resolve_left (fun c => c rfl)
    rw [mu_at hq] at hq'
    cases hq'
    refine ⟨⟨hF'.1, l, hq⟩, ⟨⟨hF, hn⟩, _, mu_at hq⟩, ?_, ?_⟩
    · funext p
      by_cases e : p = q'
      · subst e
        rw [mu_at (mu_at hq), mu_at (mu_at hq), insM_comm (Ne.symm hk2)]
      · rw [mu_ne e, mu_ne e, mu_ne e, mu_ne e]
    · funext p
      exact propext ⟨fun ⟨⟨a, b⟩, c⟩ => ⟨⟨a, c⟩, b⟩, fun ⟨⟨a, b⟩, c⟩ => ⟨⟨a, c⟩, b⟩⟩
  · rw [mu_ne e] at hq'
    refine ⟨⟨hF'.1, l', hq'⟩, ⟨⟨hF, hn⟩, l, (mu_ne (Ne.symm e)).trans hq⟩, ?_, ?_⟩
    · funext p
      by_cases e1 : p = q
      · subst e1
        rw [mu_ne (Ne.symm e), mu_at hq, mu_at ((mu_ne (Ne.symm e)).trans hq)]
      · rw [mu_ne (p := p) (q := q) e1]
        by_cases e2 : p = q'
        · subst e2
          rw [mu_at ((mu_ne e1).trans hq'), mu_at hq']
        · rw [mu_ne e2, mu_ne e2, mu_ne e1]
    · funext p
      exact propext ⟨fun ⟨⟨a, b⟩, c⟩ => ⟨⟨a, c⟩, b⟩, fun ⟨⟨a, b⟩, c⟩ => ⟨⟨a, c⟩, b⟩⟩
end Go.Ez
