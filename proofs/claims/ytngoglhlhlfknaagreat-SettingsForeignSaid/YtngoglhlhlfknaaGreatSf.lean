/-
  Check of the program: all bays: contract; the whole: what it computes. No condition.
-/
import Derived.Test.YtngoglhlhlfknaaGreatSe
namespace Go.Proofs.YtngoglhlhlfknaaGreat.st
open Go.RowKit Go.Eb
set_option maxRecDepth 100000

noncomputable def ok32 (a : (Unit × RBay × Unit) × A5) : Bool := (okRB a.1.2.1 && eqs a.2) && okE baysD (.sl 12 a.2.2.2.2.2.1.1 a.2.2.2.2.2.1.2)
noncomputable def er32 (a : (Unit × RBay × Unit) × A5) : Int := bayErrD a.2.2.1.1 a.2.2.2.1.1 a.2.2.2.2.1.1 (boolOf (assoc a.2.2.2.2.2.2.1 (.string (rbay a.1.2.1).name))) (theE baysD (.sl 12 a.2.2.2.2.2.1.1 a.2.2.2.2.2.1.2)) (rbay a.1.2.1)
noncomputable def cn32 (n : Nat) (f : Nat → List D) : Nat → List D := cnB (theE baysD (.sl 12 n f))
noncomputable def bc32 (x : RBay) : List D := bayC (rbay x)
theorem s32 : OrcS Tryz.prog (o32 cn32 bc32 ok32 er32) := by
  have key : ∀ a, ok32 a = true → ∀ e K, r33 (rbay a.1.2.1) a.2.1.1 a.2.2.1.1 a.2.2.1.2 a.2.2.2.1.1 a.2.2.2.1.2 a.2.2.2.2.1.1 a.2.2.2.2.1.2 (theE baysD (.sl 12 a.2.2.2.2.2.1.1 a.2.2.2.2.2.1.2)) a.2.2.2.2.2.2.1 = lI e K → CX Tryz.prog 59 (d55.enc a).1 (d55.enc a).2 (vI e) K := by
    intro a ha e K hr
    unfold ok32 at ha
    simp only [Bool.and_eq_true] at ha
    obtain ⟨⟨h1, h2⟩, h3⟩ := ha
    obtain ⟨he, g1, g2, g3, g4⟩ := enc55 a h2
    have hn := (RL.of_ok h3).1
    have hb := ble_of_ok (t := 66) h3
    generalize hbs : theE baysD (.sl 12 a.2.2.2.2.2.1.1 a.2.2.2.2.2.1.2) = bs at hr hn hb
    have hc := e33 (rbay a.1.2.1) a.2.1.1 a.2.2.1.1 a.2.2.1.2 a.2.2.2.1.1 a.2.2.2.1.2 a.2.2.2.2.1.1 a.2.2.2.2.1.2 bs a.2.2.2.2.2.2.1 g1 g2 g3 (by omega) (okRB_len h1) (bs.length + 1) (by omega)
    rw [hr] at hc
    refine (cx_of s33.ok Tryz.func59 b33 rfl hc).ge (.cons (.refl _) (.cons (bay_le _ h1) .nil)) ?_
    rw [he]
    have e0 : a.2.2.2.2.2.1.1 = bs.length := hn
    refine .cons ?_ (.cons (.refl _) (.cons (.refl _) (.cons (.refl _) (.cons hb (.cons (.refl _) .nil)))))
    rw [e0]
    exact .refl _
  refine .cons (.b (fun a ha hb => ?_) (fun a ha hb => ?_)) .nil
  · have hb' : er32 a = 0 := by simpa using hb
    have h3 : okE baysD (.sl 12 a.2.2.2.2.2.1.1 a.2.2.2.2.2.1.2) = true := by unfold ok32 at ha; simp only [Bool.and_eq_true] at ha; exact ha.2
    have hn := (RL.of_ok h3).1
    refine (key a ha 0 _ ?_).le (.refl _) (.refl _)
    unfold r33
    unfold er32 at hb'
    rw [hb']
    simp only [bne_self_eq_false, cond_false]
    congr 3
    unfold h33 H33 cn32 bc32
    rw [← hn]
    rfl
  · have hb' : er32 a ≠ 0 := by intro e; rw [e] at hb; simp at hb
    have h3 : okE baysD (.sl 12 a.2.2.2.2.2.1.1 a.2.2.2.2.2.1.2) = true := by unfold ok32 at ha; simp only [Bool.and_eq_true] at ha; exact ha.2
    have h2 : eqs a.2 = true := by unfold ok32 at ha; simp only [Bool.and_eq_true] at ha; exact ha.1.2
    have hx := key a ha (er32 a) (H5 a.2.1.1 a.2.2.1.1 a.2.2.1.2 a.2.2.2.1.1 a.2.2.2.1.2 a.2.2.2.2.1.1 a.2.2.2.2.1.2 (theE baysD (.sl 12 a.2.2.2.2.2.1.1 a.2.2.2.2.2.1.2)).length (cnB (theE baysD (.sl 12 a.2.2.2.2.2.1.1 a.2.2.2.2.2.1.2))) a.2.2.2.2.2.2.1) (by
      unfold r33
      have : (bayErrD a.2.2.1.1 a.2.2.2.1.1 a.2.2.2.2.1.1 (boolOf (assoc a.2.2.2.2.2.2.1 (Value.string (rbay a.1.2.1).name))) (theE baysD (.sl 12 a.2.2.2.2.2.1.1 a.2.2.2.2.2.1.2)) (rbay a.1.2.1) != 0) = true := by
        unfold er32 at hb'
        simpa using hb'
      rw [this]
      rfl)
    refine hx.le (.refl _) ?_
    unfold h33e cn32
    have hn := (RL.of_ok h3).1
    rw [← hn]
    exact .refl _
noncomputable abbrev tB (ka kb kc : Nat) (N : List ByteArray) (l : List SBay) := tBay ka kb kc N l
theorem c32 (l : List SBay) (s0 : ByteArray) (ka : Nat) (ga : Nat → List D) (kb : Nat) (gb : Nat → List D) (kc : Nat) (gc : Nat → List D) (N : List ByteArray) (hl : l.length ≤ 900) (hka : ka ≤ 900) (hkb : kb ≤ 900) (hkc : kc ≤ 900) (hlk : ∀ i, i < l.length → (l.getD i bay0).links.length ≤ 9223372036854775807) :
    CX Tryz.prog 58 [.c (.d (baysD l)), fnOf 59] (H4 s0 ka ga kb gb kc gc (mapOf N)) (vI (tBay ka kb kc N l).1)
      (H4' s0 ka ga kb gb kc gc (mapOf (N ++ (tBay ka kb kc N l).2.map SBay.name)) (tBay ka kb kc N l).2.length (fun i => bayC ((tBay ka kb kc N l).2.getD i bay0))) := by
  obtain ⟨g, hg⟩ : ∃ g, l.length < g := ⟨l.length + 1, by omega⟩
  obtain ⟨f', hr, he⟩ := first_loop (nm := SBay.name) (F := fun N before x => bayErr ka kb kc N before x) (N := N) (c := bayC) (d0 := bay0) (l := l) (L := fun m mp n f i => L32_2 cn32 bc32 ok32 er32 l s0 ka ga kb gb kc gc (mapOf N) g m mp n f i) (HX := fun mp n f => H4' s0 ka ga kb gb kc gc mp n f)
    (fun m k before f hk hb hr => by
      have hthe := hr.the (sz := 12) bayC_inj
      have hx : rbay (bayR (l.getD k bay0)) = l.getD k bay0 := rbay_bayR _
      have hok : ok32 (((), bayR (l.getD k bay0), ()), (s0, ka, kb, kc, k, (), ()), (ka, ga), (kb, gb), (kc, gc), (k, f), mapOf (N ++ before.map SBay.name), ()) = true := by
        unfold ok32
        have e1 : okRB (bayR (l.getD k bay0)) = true := okLk_links (hlk k hk)
        have e2 : eqs ((s0, ka, kb, kc, k, (), ()), (ka, ga), (kb, gb), (kc, gc), (k, f), mapOf (N ++ before.map SBay.name), ()) = true := by
          unfold eqs
          simp only [Nat.beq_refl, Bool.true_and, bleD, decide_eq_true hka, decide_eq_true hkb, decide_eq_true hkc, decide_eq_true (show k ≤ 900 by omega)]
        simp only [e1, e2, hthe.1, Bool.and_self]
      have her : er32 (((), bayR (l.getD k bay0), ()), (s0, ka, kb, kc, k, (), ()), (ka, ga), (kb, gb), (kc, gc), (k, f), mapOf (N ++ before.map SBay.name), ()) = bayErr ka kb kc (N ++ before.map SBay.name) before (l.getD k bay0) := by
        unfold er32 bayErr
        simp only [hx, hthe.2, assoc_mapOf]
      refine ⟨appF k (cn32 k f) (chunk (bc32 (bayR (l.getD k bay0))) 12), cn32 k f, ?_, ?_, ?_⟩
      · unfold bc32 cn32
        rw [hx, hthe.2]
        have := (RL.data (c := bayC) (d0 := bay0) before).app' (x := l.getD k bay0) (sz := 12) rfl
        rw [hb] at this
        exact this
      · unfold cn32
        rw [hthe.2]
        have := RL.data (c := bayC) (d0 := bay0) before
        rw [hb] at this
        exact this
      · rw [st32_2]
        simp only [lt1 hk, ge0, tn, Bool.and_self, cond_true, nx hk (by omega)]
        show (bif ok32 (((), bayR (l.getD k bay0), ()), (s0, ka, kb, kc, k, (), ()), (ka, ga), (kb, gb), (kc, gc), (k, f), mapOf (N ++ before.map SBay.name), ()) then
          (bif er32 (((), bayR (l.getD k bay0), ()), (s0, ka, kb, kc, k, (), ()), (ka, ga), (kb, gb), (kc, gc), (k, f), mapOf (N ++ before.map SBay.name), ()) == 0 then
            L32_2 cn32 bc32 ok32 er32 l s0 ka ga kb gb kc gc (mapOf N) g m ((Value.string (l.getD k bay0).name, Value.bool true) :: mapOf (N ++ before.map SBay.name)) (k + 1) (appF k (cn32 k f) (chunk (bc32 (bayR (l.getD k bay0))) 12)) ((k + 1 : Nat) : Int)
          else (bif er32 (((), bayR (l.getD k bay0), ()), (s0, ka, kb, kc, k, (), ()), (ka, ga), (kb, gb), (kc, gc), (k, f), mapOf (N ++ before.map SBay.name), ()) != 0 then lI (er32 (((), bayR (l.getD k bay0), ()), (s0, ka, kb, kc, k, (), ()), (ka, ga), (kb, gb), (kc, gc), (k, f), mapOf (N ++ before.map SBay.name), ())) (H4' s0 ka ga kb gb kc gc (mapOf (N ++ before.map SBay.name)) k (cn32 k f)) else L32_2 cn32 bc32 ok32 er32 l s0 ka ga kb gb kc gc (mapOf N) g m (mapOf (N ++ before.map SBay.name)) k (cn32 k f) ((k + 1 : Nat) : Int))) else none) = _
        rw [hok, her]
        unfold bne
        cases (bayErr ka kb kc (N ++ before.map SBay.name) before (l.getD k bay0) == 0) <;> rfl)
    (fun m mp n f => by
      rw [st32_2, lt0 (Nat.lt_irrefl _)]
      rfl) g 0 [] (fun _ => []) (by omega) (by omega) rfl (.nil _)
  have hev := ev32 cn32 bc32 ok32 er32 l s0 ka ga kb gb kc gc (mapOf N) g
  simp only [List.map_nil, List.append_nil, List.drop_zero] at he hr
  refine (cx_of s32.ok Tryz.func58 b32 rfl (hev.trans he)).le (.refl _) ?_
  exact .cons (.refl _) (.cons (.refl _) (.cons (.refl _) (.cons (.refl _) (.cons (.refl _) (.cons hr.ble .nil)))))
end Go.Proofs.YtngoglhlhlfknaaGreat.st
