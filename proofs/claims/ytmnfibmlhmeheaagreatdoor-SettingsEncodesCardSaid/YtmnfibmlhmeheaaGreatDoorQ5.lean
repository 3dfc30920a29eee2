/-
  An evaluator of Go code on abstract values, proved sound, and what it computes of the functions that the statement reaches (part 5). No condition.
-/
import Derived.Test.YtmnfibmlhmeheaaGreatDoorQ4
import Derived.Test.YtmnfibmlhmeheaaGreatDoorProg
import Derived.KernelRfl
set_option maxRecDepth 100000
namespace Go.Proofs.YtmnfibmlhmeheaaGreatDoor.st
open Go.RowKit Go.Eb
noncomputable def ok32 (a : (Unit × RBay × Unit) × A5) : Bool := (okRB a.1.2.1 && eqs a.2) && okE baysD (.sl 12 a.2.2.2.2.2.1.1 a.2.2.2.2.2.1.2)
noncomputable def er32 (a : (Unit × RBay × Unit) × A5) : Int := bayErrD a.2.2.1.1 a.2.2.2.1.1 a.2.2.2.2.1.1 (boolOf (assoc a.2.2.2.2.2.2.1 (.string (rbay a.1.2.1).name))) (theE baysD (.sl 12 a.2.2.2.2.2.1.1 a.2.2.2.2.2.1.2)) (rbay a.1.2.1)
noncomputable def cn32 (n : Nat) (f : Nat → List D) : Nat → List D := cnB (theE baysD (.sl 12 n f))
noncomputable def bc32 (x : RBay) : List D := bayC (rbay x)
theorem s32 : OrcS Tryz.prog (o32 cn32 bc32 ok32 er32) := by
  have key : ∀ a, ok32 a = true → ∀ e K, r33 (rbay a.1.2.1) a.2.1.1 a.2.2.1.1 a.2.2.1.2 a.2.2.2.1.1 a.2.2.2.1.2 a.2.2.2.2.1.1 a.2.2.2.2.1.2 (theE baysD (.sl 12 a.2.2.2.2.2.1.1 a.2.2.2.2.2.1.2)) a.2.2.2.2.2.2.1 = lI e K → CX Tryz.prog 58 (d55.enc a).1 (d55.enc a).2 (vI e) K := by
    intro a ha e K hr
    unfold ok32 at ha
    simp only [Bool.and_eq_true] at ha
    obtain ⟨⟨h1, h2⟩, h3⟩ := ha
    obtain ⟨he, g1, g2, g3, g4⟩ := enc55 a h2
    have hn := (RL.of_ok h3).1
    have hb := ble_of_ok (t := 69) h3
    generalize hbs : theE baysD (.sl 12 a.2.2.2.2.2.1.1 a.2.2.2.2.2.1.2) = bs at hr hn hb
    have hc := e33 (rbay a.1.2.1) a.2.1.1 a.2.2.1.1 a.2.2.1.2 a.2.2.2.1.1 a.2.2.2.1.2 a.2.2.2.2.1.1 a.2.2.2.2.1.2 bs a.2.2.2.2.2.2.1 g1 g2 g3 (by omega) (okRB_len h1) (bs.length + 1) (by omega)
    rw [hr] at hc
    refine (cx_of s33.ok Tryz.func58 b33 rfl hc).ge (.cons (.refl _) (.cons (bay_le _ h1) .nil)) ?_
    rw [he]
    have e0 : a.2.2.2.2.2.1.1 = bs.length := hn
    refine .cons ?_ (.cons (.refl _) (.cons (.refl _) (.cons (.refl _) (.cons hb (.cons (.refl _) .nil)))))
    rw [e0]
    exact .refl _
  refine .cons (.b (fun a ha hb => ?_) (fun a ha hb => ?_)) .nil
  · have hb' : er32 a = 0 := by simpa using hb
    have h3 : okE baysD (.sl 12 a.2.2.2.2.2.1.1 a.2.2.2.2.2.1.2) = true := by unfold ok32 at ha; simp only [Bool.and_eq_true] at ha; exact ha.2
    have hn := (RL.of_ok h3).1
    refine (key a ha 0 _ ?_).le (.refl _) (.refl _)
    unfold r33
    unfold er32 at hb'
    rw [hb']
    simp only [bne_self_eq_false, cond_false]
    congr 3
    unfold h33 H33 cn32 bc32
    rw [← hn]
    rfl
  · have hb' : er32 a ≠ 0 := by intro e; rw [e] at hb; simp at hb
    have h3 : okE baysD (.sl 12 a.2.2.2.2.2.1.1 a.2.2.2.2.2.1.2) = true := by unfold ok32 at ha; simp only [Bool.and_eq_true] at ha; exact ha.2
    have h2 : eqs a.2 = true := by unfold ok32 at ha; simp only [Bool.and_eq_true] at ha; exact ha.1.2
    have hx := key a ha (er32 a) (H5 a.2.1.1 a.2.2.1.1 a.2.2.1.2 a.2.2.2.1.1 a.2.2.2.1.2 a.2.2.2.2.1.1 a.2.2.2.2.1.2 (theE baysD (.sl 12 a.2.2.2.2.2.1.1 a.2.2.2.2.2.1.2)).length (cnB (theE baysD (.sl 12 a.2.2.2.2.2.1.1 a.2.2.2.2.2.1.2))) a.2.2.2.2.2.2.1) (by
      unfold r33
      have : (bayErrD a.2.2.1.1 a.2.2.2.1.1 a.2.2.2.2.1.1 (boolOf (assoc a.2.2.2.2.2.2.1 (Value.string (rbay a.1.2.1).name))) (theE baysD (.sl 12 a.2.2.2.2.2.1.1 a.2.2.2.2.2.1.2)) (rbay a.1.2.1) != 0) = true := by
        unfold er32 at hb'
        simpa using hb'
      rw [this]
      rfl)
    refine hx.le (.refl _) ?_
    unfold h33e cn32
    have hn := (RL.of_ok h3).1
    rw [← hn]
    exact .refl _
theorem c32 (l : List SBay) (s0 : ByteArray) (ka : Nat) (ga : Nat → List D) (kb : Nat) (gb : Nat → List D) (kc : Nat) (gc : Nat → List D) (N : List ByteArray) (hl : l.length ≤ 900) (hka : ka ≤ 900) (hkb : kb ≤ 900) (hkc : kc ≤ 900) (hlk : ∀ i, i < l.length → (l.getD i bay0).links.length ≤ 9223372036854775807) :
    CX Tryz.prog 57 [.c (.d (baysD l)), fnOf 58] (H4 s0 ka ga kb gb kc gc (Aak N)) (vI (tBay ka kb kc N l).1)
      (H4' s0 ka ga kb gb kc gc (Aak (N ++ (tBay ka kb kc N l).2.map SBay.name)) (tBay ka kb kc N l).2.length (fun i => bayC ((tBay ka kb kc N l).2.getD i bay0))) := by
  obtain ⟨g, hg⟩ : ∃ g, l.length < g := ⟨l.length + 1, by omega⟩
  obtain ⟨f', hr, he⟩ := first_loop (nm := SBay.name) (F := fun N before x => bayErr ka kb kc N before x) (N := N) (c := bayC) (d0 := bay0) (l := l) (L := fun m mp n f i => L32_2 cn32 bc32 ok32 er32 l s0 ka ga kb gb kc gc (Aak N) g m mp n f i) (HX := fun mp n f => H4' s0 ka ga kb gb kc gc mp n f)
    (fun m k before f hk hb hr => by
      have hthe := hr.the (sz := 12) bayC_inj
      have hx : rbay (bayR (l.getD k bay0)) = l.getD k bay0 := rbay_bayR _
      have hok : ok32 (((), bayR (l.getD k bay0), ()), (s0, ka, kb, kc, k, (), ()), (ka, ga), (kb, gb), (kc, gc), (k, f), Aak (N ++ before.map SBay.name), ()) = true := by
        unfold ok32
        have e1 : okRB (bayR (l.getD k bay0)) = true := okLk_links (hlk k hk)
        have e2 : eqs ((s0, ka, kb, kc, k, (), ()), (ka, ga), (kb, gb), (kc, gc), (k, f), Aak (N ++ before.map SBay.name), ()) = true := by
          unfold eqs
          simp only [Nat.beq_refl, Bool.true_and, bleD, decide_eq_true hka, decide_eq_true hkb, decide_eq_true hkc, decide_eq_true (show k ≤ 900 by omega)]
        simp only [e1, e2, hthe.1, Bool.and_self]
      have her : er32 (((), bayR (l.getD k bay0), ()), (s0, ka, kb, kc, k, (), ()), (ka, ga), (kb, gb), (kc, gc), (k, f), Aak (N ++ before.map SBay.name), ()) = bayErr ka kb kc (N ++ before.map SBay.name) before (l.getD k bay0) := by
        unfold er32 bayErr
        simp only [hx, hthe.2, assoc_mapOf]
      refine ⟨appF k (cn32 k f) (Aaf (bc32 (bayR (l.getD k bay0))) 12), cn32 k f, ?_, ?_, ?_⟩
      · unfold bc32 cn32
        rw [hx, hthe.2]
        have := (RL.data (c := bayC) (d0 := bay0) before).app' (x := l.getD k bay0) (sz := 12) rfl
        rw [hb] at this
        exact this
      · unfold cn32
        rw [hthe.2]
        have := RL.data (c := bayC) (d0 := bay0) before
        rw [hb] at this
        exact this
      · rw [st32_2]
        simp only [lt1 hk, ge0, tn, Bool.and_self, cond_true, nx hk (by omega)]
        show (bif ok32 (((), bayR (l.getD k bay0), ()), (s0, ka, kb, kc, k, (), ()), (ka, ga), (kb, gb), (kc, gc), (k, f), Aak (N ++ before.map SBay.name), ()) then
          (bif er32 (((), bayR (l.getD k bay0), ()), (s0, ka, kb, kc, k, (), ()), (ka, ga), (kb, gb), (kc, gc), (k, f), Aak (N ++ before.map SBay.name), ()) == 0 then
            L32_2 cn32 bc32 ok32 er32 l s0 ka ga kb gb kc gc (Aak N) g m ((Value.string (l.getD k bay0).name, Value.bool true) :: Aak (N ++ before.map SBay.name)) (k + 1) (appF k (cn32 k f) (Aaf (bc32 (bayR (l.getD k bay0))) 12)) ((k + 1 : Nat) : Int)
          else (bif er32 (((), bayR (l.getD k bay0), ()), (s0, ka, kb, kc, k, (), ()), (ka, ga), (kb, gb), (kc, gc), (k, f), Aak (N ++ before.map SBay.name), ()) != 0 then lI (er32 (((), bayR (l.getD k bay0), ()), (s0, ka, kb, kc, k, (), ()), (ka, ga), (kb, gb), (kc, gc), (k, f), Aak (N ++ before.map SBay.name), ())) (H4' s0 ka ga kb gb kc gc (Aak (N ++ before.map SBay.name)) k (cn32 k f)) else L32_2 cn32 bc32 ok32 er32 l s0 ka ga kb gb kc gc (Aak N) g m (Aak (N ++ before.map SBay.name)) k (cn32 k f) ((k + 1 : Nat) : Int))) else none) = _
        rw [hok, her]
        unfold bne
        cases (bayErr ka kb kc (N ++ before.map SBay.name) before (l.getD k bay0) == 0) <;> rfl)
    (fun m mp n f => by
      rw [st32_2, lt0 (Nat.lt_irrefl _)]
      rfl) g 0 [] (fun _ => []) (by omega) (by omega) rfl (.nil _)
  have hev := ev32 cn32 bc32 ok32 er32 l s0 ka ga kb gb kc gc (Aak N) g
  simp only [List.map_nil, List.append_nil, List.drop_zero] at he hr
  refine (cx_of s32.ok Tryz.func57 b32 rfl (hev.trans he)).le (.refl _) ?_
  exact .cons (.refl _) (.cons (.refl _) (.cons (.refl _) (.cons (.refl _) (.cons (.refl _) (.cons hr.ble .nil)))))
end Go.Proofs.YtmnfibmlhmeheaaGreatDoor.st
namespace Go.Proofs.YtmnfibmlhmeheaaGreatDoor.st
open Go.RowKit Go.Eb
abbrev AL := D × Unit × Unit
abbrev RW1 := Nat × (Nat → List D)
abbrev A26 := AL × (ByteArray × Unit × Unit × Unit × Unit × Unit × Unit) × List (Value × Value) × Unit
def d26 : Dec (List AV × Hp) A26 := .pair (.cons (.c .data) (.cons (.c (.meth 52)) .nil)) (.cons (.blk 0 (.cells 150 (.cons .str (.cons .nilS (.cons .nilS (.cons .nilS (.cons .nilS (.cons (.mp 1) .nil)))))))) (.cons (.blk 1 (.mapB 0)) .nil))
abbrev A28 := AL × (ByteArray × Nat × Unit × Unit × Unit × Unit × Unit) × RW1 × List (Value × Value) × Unit
def d28 : Dec (List AV × Hp) A28 := .pair (.cons (.c .data) (.cons (.c (.meth 54)) .nil)) (.cons (.blk 0 (.cells 150 (.cons .str (.cons (.row 1 1) (.cons .nilS (.cons .nilS (.cons .nilS (.cons (.mp 2) .nil)))))))) (.cons (.blk 1 (.rowB 1 9)) (.cons (.blk 2 (.mapB 0)) .nil)))
abbrev A30 := AL × (ByteArray × Nat × Nat × Unit × Unit × Unit × Unit) × RW1 × RW1 × List (Value × Value) × Unit
def d30 : Dec (List AV × Hp) A30 := .pair (.cons (.c .data) (.cons (.c (.meth 56)) .nil)) (.cons (.blk 0 (.cells 150 (.cons .str (.cons (.row 1 1) (.cons (.row 2 5) (.cons .nilS (.cons .nilS (.cons (.mp 3) .nil)))))))) (.cons (.blk 1 (.rowB 1 9)) (.cons (.blk 2 (.rowB 5 98)) (.cons (.blk 3 (.mapB 0)) .nil))))
abbrev A32 := AL × (ByteArray × Nat × Nat × Nat × Unit × Unit × Unit) × RW1 × RW1 × RW1 × List (Value × Value) × Unit
def d32 : Dec (List AV × Hp) A32 := .pair (.cons (.c .data) (.cons (.c (.meth 58)) .nil)) (.cons (.blk 0 (.cells 150 (.cons .str (.cons (.row 1 1) (.cons (.row 2 5) (.cons (.row 3 6) (.cons .nilS (.cons (.mp 4) .nil)))))))) (.cons (.blk 1 (.rowB 1 9)) (.cons (.blk 2 (.rowB 5 98)) (.cons (.blk 3 (.rowB 6 101)) (.cons (.blk 4 (.mapB 0)) .nil)))))
structure K12 where
  nk : ByteArray → Bool
  ok1 : A26 → Bool
  e1 : A26 → Int
  m1 : A26 → List (Value × Value)
  n1 : A26 → Nat
  f1 : A26 → Nat → List D
  ok2 : A28 → Bool
  e2 : A28 → Int
  m2 : A28 → List (Value × Value)
  n2 : A28 → Nat
  f2 : A28 → Nat → List D
  ok3 : A30 → Bool
  e3 : A30 → Int
  m3 : A30 → List (Value × Value)
  n3 : A30 → Nat
  f3 : A30 → Nat → List D
  ok4 : A32 → Bool
  e4 : A32 → Int
  m4 : A32 → List (Value × Value)
  n4 : A32 → Nat
  f4 : A32 → Nat → List D
noncomputable def o12 (Z : K12) : Orc := Orc.cons 49 (ansP decS fun s => vB (Z.nk s)) (Orc.cons 50 (inl Tryz.prog Orc.nil na 1 Tryz.f50)
  (Orc.cons 51 (ansD d26 Z.ok1 (fun a => vI (Z.e1 a)) fun a => H1' a.2.1.1 (Z.m1 a) (Z.n1 a) (Z.f1 a))
  (Orc.cons 53 (ansD d28 Z.ok2 (fun a => vI (Z.e2 a)) fun a => H2' a.2.1.1 a.2.2.1.1 a.2.2.1.2 (Z.m2 a) (Z.n2 a) (Z.f2 a))
  (Orc.cons 55 (ansD d30 Z.ok3 (fun a => vI (Z.e3 a)) fun a => H3' a.2.1.1 a.2.2.1.1 a.2.2.1.2 a.2.2.2.1.1 a.2.2.2.1.2 (Z.m3 a) (Z.n3 a) (Z.f3 a))
  (Orc.cons 57 (ansD d32 Z.ok4 (fun a => vI (Z.e4 a)) fun a => H4' a.2.1.1 a.2.2.1.1 a.2.2.1.2 a.2.2.2.1.1 a.2.2.2.1.2 a.2.2.2.2.1.1 a.2.2.2.2.1.2 (Z.m4 a) (Z.n4 a) (Z.f4 a)) Orc.nil)))))
noncomputable def ann12 : Ann := annOf []
theorem b12 : Tryz.f24.body = some (Aad Tryz.f24) := by kernel_rfl
theorem ev12 (Z : K12) (s : SSta) (g : Nat) : Aal Tryz.prog (o12 Z) ann12 g Tryz.f24 (Aad Tryz.f24) [aSta s] [] =
 (bif !K12.nk Z (SSta.name s) then some (T.leaf (AV.c (.d (.v (.int .i64 (7 : Int)))), [])) else (bif (↑(List.length (SSta.buses s)) : Int) == (0 : Int) then some
 (T.leaf (AV.c (.d (.v (.int .i64 (3 : Int)))), [])) else (bif decide ((↑(List.length (SSta.buses s)) : Int) > (4 : Int)) then some (T.leaf (AV.c (C.d (D.v (Value.int
 IntKind.i64 (3 : Int)))), [])) else (bif decide ((↑(List.length (SSta.lines s)) : Int) > (6 : Int)) then some (T.leaf (AV.c (.d (.v (.int .i64 (3 : Int)))), [])) else
 (bif decide ((↑(List.length (SSta.srcs s)) : Int) > (4 : Int)) then some (T.leaf (AV.c (.d (.v (.int .i64 (3 : Int)))), [])) else (bif decide ((↑(List.length
 (SSta.bays s)) : Int) > (16 : Int)) then some (T.leaf (AV.c (.d (.v (.int .i64 (3 : Int)))), [])) else (bif K12.ok1 Z ((Aab (SSta.buses s), (), ()), (⟨#[]⟩, (), (), (), (), (), ()), [], ()) then (bif K12.e1 Z ((Aab (SSta.buses s), (), ()), (⟨#[]⟩, (), (), (), (), (), ()), [], ()) == (0 : Int) then (bif K12.ok2 Z
 ((Aai (SSta.lines s), (), ()), (⟨#[]⟩, K12.n1 Z ((Aab (SSta.buses s), (), ()), (⟨#[]⟩, (), (), (), (), (), ()), [], ()), (), (), (), (), ()), (K12.n1 Z
 ((Aab (SSta.buses s), (), ()), (⟨#[]⟩, (), (), (), (), (), ()), [], ()), K12.f1 Z ((Aab (SSta.buses s), (), ()), (⟨#[]⟩, (), (), (), (), (), ()), [],
 ())), K12.m1 Z ((Aab (SSta.buses s), (), ()), (⟨#[]⟩, (), (), (), (), (), ()), [], ()), ()) then (bif K12.e2 Z ((Aai (SSta.lines s), (), ()), (⟨#[]⟩,
 K12.n1 Z ((Aab (SSta.buses s), (), ()), (⟨#[]⟩, (), (), (), (), (), ()), [], ()), (), (), (), (), ()), (K12.n1 Z ((Aab (SSta.buses s), (), ()), (⟨#[]⟩,
 (), (), (), (), (), ()), [], ()), K12.f1 Z ((Aab (SSta.buses s), (), ()), (⟨#[]⟩, (), (), (), (), (), ()), [], ())), K12.m1 Z ((Aab (SSta.buses s), (), ()),
 (⟨#[]⟩, (), (), (), (), (), ()), [], ()), ()) == (0 : Int) then (bif K12.ok3 Z ((srcsD (SSta.srcs s), (), ()), (⟨#[]⟩, K12.n1 Z ((Aab (SSta.buses s), (),
 ()), (⟨#[]⟩, (), (), (), (), (), ()), [], ()), K12.n2 Z ((Aai (SSta.lines s), (), ()), (⟨#[]⟩, K12.n1 Z ((Aab (SSta.buses s), (), ()), (⟨#[]⟩,
 (), (), (), (), (), ()), [], ()), (), (), (), (), ()), (K12.n1 Z ((Aab (SSta.buses s), (), ()), (⟨#[]⟩, (), (), (), (), (), ()), [], ()), K12.f1 Z ((Aab (SSta.buses
 s), (), ()), (⟨#[]⟩, (), (), (), (), (), ()), [], ())), K12.m1 Z ((Aab (SSta.buses s), (), ()), (⟨#[]⟩, (), (), (), (), (), ()), [], ()), ()), (), (), (),
 ()), (K12.n1 Z ((Aab (SSta.buses s), (), ()), (⟨#[]⟩, (), (), (), (), (), ()), [], ()), K12.f1 Z ((Aab (SSta.buses s), (), ()), (⟨#[]⟩, (), (), (), (),
 (), ()), [], ())), (K12.n2 Z ((Aai (SSta.lines s), (), ()), (⟨#[]⟩, K12.n1 Z ((Aab (SSta.buses s), (), ()), (⟨#[]⟩, (), (), (), (), (), ()), [], ()), (),
 (), (), (), ()), (K12.n1 Z ((Aab (SSta.buses s), (), ()), (⟨#[]⟩, (), (), (), (), (), ()), [], ()), K12.f1 Z ((Aab (SSta.buses s), (), ()), (⟨#[]⟩, (),
 (), (), (), (), ()), [], ())), K12.m1 Z ((Aab (SSta.buses s), (), ()), (⟨#[]⟩, (), (), (), (), (), ()), [], ()), ()), K12.f2 Z ((Aai (SSta.lines s), (), ()),
 (⟨#[]⟩, K12.n1 Z ((Aab (SSta.buses s), (), ()), (⟨#[]⟩, (), (), (), (), (), ()), [], ()), (), (), (), (), ()), (K12.n1 Z ((Aab (SSta.buses s), (), ()),
 (⟨#[]⟩, (), (), (), (), (), ()), [], ()), K12.f1 Z ((Aab (SSta.buses s), (), ()), (⟨#[]⟩, (), (), (), (), (), ()), [], ())), K12.m1 Z ((Aab (SSta.buses
 s), (), ()), (⟨#[]⟩, (), (), (), (), (), ()), [], ()), ())), K12.m2 Z ((Aai (SSta.lines s), (), ()), (⟨#[]⟩, K12.n1 Z ((Aab (SSta.buses s), (), ()),
 (⟨#[]⟩, (), (), (), (), (), ()), [], ()), (), (), (), (), ()), (K12.n1 Z ((Aab (SSta.buses s), (), ()), (⟨#[]⟩, (), (), (), (), (), ()), [], ()), K12.f1 Z
 ((Aab (SSta.buses s), (), ()), (⟨#[]⟩, (), (), (), (), (), ()), [], ())), K12.m1 Z ((Aab (SSta.buses s), (), ()), (⟨#[]⟩, (), (), (), (), (), ()), [],
 ()), ()), ()) then (bif K12.e3 Z ((srcsD (SSta.srcs s), (), ()), (⟨#[]⟩, K12.n1 Z ((Aab (SSta.buses s), (), ()), (⟨#[]⟩, (), (), (), (), (), ()), [], ()),
 K12.n2 Z ((Aai (SSta.lines s), (), ()), (⟨#[]⟩, K12.n1 Z ((Aab (SSta.buses s), (), ()), (⟨#[]⟩, (), (), (), (), (), ()), [], ()), (), (), (), (), ()),
 (K12.n1 Z ((Aab (SSta.buses s), (), ()), (⟨#[]⟩, (), (), (), (), (), ()), [], ()), K12.f1 Z ((Aab (SSta.buses s), (), ()), (⟨#[]⟩, (), (), (), (), (),
 ()), [], ())), K12.m1 Z ((Aab (SSta.buses s), (), ()), (⟨#[]⟩, (), (), (), (), (), ()), [], ()), ()), (), (), (), ()), (K12.n1 Z ((Aab (SSta.buses s), (), ()),
 (⟨#[]⟩, (), (), (), (), (), ()), [], ()), K12.f1 Z ((Aab (SSta.buses s), (), ()), (⟨#[]⟩, (), (), (), (), (), ()), [], ())), (K12.n2 Z ((Aai (SSta.lines
 s), (), ()), (⟨#[]⟩, K12.n1 Z ((Aab (SSta.buses s), (), ()), (⟨#[]⟩, (), (), (), (), (), ()), [], ()), (), (), (), (), ()), (K12.n1 Z ((Aab (SSta.buses
 s), (), ()), (⟨#[]⟩, (), (), (), (), (), ()), [], ()), K12.f1 Z ((Aab (SSta.buses s), (), ()), (⟨#[]⟩, (), (), (), (), (), ()), [], ())), K12.m1 Z ((Aab
 (SSta.buses s), (), ()), (⟨#[]⟩, (), (), (), (), (), ()), [], ()), ()), K12.f2 Z ((Aai (SSta.lines s), (), ()), (⟨#[]⟩, K12.n1 Z ((Aab (SSta.buses s),
 (), ()), (⟨#[]⟩, (), (), (), (), (), ()), [], ()), (), (), (), (), ()), (K12.n1 Z ((Aab (SSta.buses s), (), ()), (⟨#[]⟩, (), (), (), (), (), ()), [], ()),
 K12.f1 Z ((Aab (SSta.buses s), (), ()), (⟨#[]⟩, (), (), (), (), (), ()), [], ())), K12.m1 Z ((Aab (SSta.buses s), (), ()), (⟨#[]⟩, (), (), (), (), (),
 ()), [], ()), ())), K12.m2 Z ((Aai (SSta.lines s), (), ()), (⟨#[]⟩, K12.n1 Z ((Aab (SSta.buses s), (), ()), (⟨#[]⟩, (), (), (), (), (), ()), [], ()), (),
 (), (), (), ()), (K12.n1 Z ((Aab (SSta.buses s), (), ()), (⟨#[]⟩, (), (), (), (), (), ()), [], ()), K12.f1 Z ((Aab (SSta.buses s), (), ()), (⟨#[]⟩, (),
 (), (), (), (), ()), [], ())), K12.m1 Z ((Aab (SSta.buses s), (), ()), (⟨#[]⟩, (), (), (), (), (), ()), [], ()), ()), ()) == (0 : Int) then (bif K12.ok4 Z ((baysD
 (SSta.bays s), (), ()), (⟨#[]⟩, K12.n1 Z ((Aab (SSta.buses s), (), ()), (⟨#[]⟩, (), (), (), (), (), ()), [], ()), K12.n2 Z ((Aai (SSta.lines s), (), ()),
 (⟨#[]⟩, K12.n1 Z ((Aab (SSta.buses s), (), ()), (⟨#[]⟩, (), (), (), (), (), ()), [], ()), (), (), (), (), ()), (K12.n1 Z ((Aab (SSta.buses s), (), ()),
 (⟨#[]⟩, (), (), (), (), (), ()), [], ()), K12.f1 Z ((Aab (SSta.buses s), (), ()), (⟨#[]⟩, (), (), (), (), (), ()), [], ())), K12.m1 Z ((Aab (SSta.buses
 s), (), ()), (⟨#[]⟩, (), (), (), (), (), ()), [], ()), ()), K12.n3 Z ((srcsD (SSta.srcs s), (), ()), (⟨#[]⟩, K12.n1 Z ((Aab (SSta.buses s), (), ()),
 (⟨#[]⟩, (), (), (), (), (), ()), [], ()), K12.n2 Z ((Aai (SSta.lines s), (), ()), (⟨#[]⟩, K12.n1 Z ((Aab (SSta.buses s), (), ()), (⟨#[]⟩, (),
 (), (), (), (), ()), [], ()), (), (), (), (), ()), (K12.n1 Z ((Aab (SSta.buses s), (), ()), (⟨#[]⟩, (), (), (), (), (), ()), [], ()), K12.f1 Z ((Aab (SSta.buses s),
 (), ()), (⟨#[]⟩, (), (), (), (), (), ()), [], ())), K12.m1 Z ((Aab (SSta.buses s), (), ()), (⟨#[]⟩, (), (), (), (), (), ()), [], ()), ()), (), (), (), ()),
 (K12.n1 Z ((Aab (SSta.buses s), (), ()), (⟨#[]⟩, (), (), (), (), (), ()), [], ()), K12.f1 Z ((Aab (SSta.buses s), (), ()), (⟨#[]⟩, (), (), (), (), (),
 ()), [], ())), (K12.n2 Z ((Aai (SSta.lines s), (), ()), (⟨#[]⟩, K12.n1 Z ((Aab (SSta.buses s), (), ()), (⟨#[]⟩, (), (), (), (), (), ()), [], ()), (), (),
 (), (), ()), (K12.n1 Z ((Aab (SSta.buses s), (), ()), (⟨#[]⟩, (), (), (), (), (), ()), [], ()), K12.f1 Z ((Aab (SSta.buses s), (), ()), (⟨#[]⟩, (), (),
 (), (), (), ()), [], ())), K12.m1 Z ((Aab (SSta.buses s), (), ()), (⟨#[]⟩, (), (), (), (), (), ()), [], ()), ()), K12.f2 Z ((Aai (SSta.lines s), (), ()),
 (⟨#[]⟩, K12.n1 Z ((Aab (SSta.buses s), (), ()), (⟨#[]⟩, (), (), (), (), (), ()), [], ()), (), (), (), (), ()), (K12.n1 Z ((Aab (SSta.buses s), (), ()),
 (⟨#[]⟩, (), (), (), (), (), ()), [], ()), K12.f1 Z ((Aab (SSta.buses s), (), ()), (⟨#[]⟩, (), (), (), (), (), ()), [], ())), K12.m1 Z ((Aab (SSta.buses
 s), (), ()), (⟨#[]⟩, (), (), (), (), (), ()), [], ()), ())), K12.m2 Z ((Aai (SSta.lines s), (), ()), (⟨#[]⟩, K12.n1 Z ((Aab (SSta.buses s), (), ()),
 (⟨#[]⟩, (), (), (), (), (), ()), [], ()), (), (), (), (), ()), (K12.n1 Z ((Aab (SSta.buses s), (), ()), (⟨#[]⟩, (), (), (), (), (), ()), [], ()), K12.f1 Z
 ((Aab (SSta.buses s), (), ()), (⟨#[]⟩, (), (), (), (), (), ()), [], ())), K12.m1 Z ((Aab (SSta.buses s), (), ()), (⟨#[]⟩, (), (), (), (), (), ()), [],
 ()), ()), ()), (), (), ()), (K12.n1 Z ((Aab (SSta.buses s), (), ()), (⟨#[]⟩, (), (), (), (), (), ()), [], ()), K12.f1 Z ((Aab (SSta.buses s), (), ()), (⟨#[]⟩, (), (), (), (), (), ()), [], ())), (K12.n2 Z ((Aai (SSta.lines s), (), ()), (⟨#[]⟩, K12.n1 Z ((Aab (SSta.buses s), (), ()), (⟨#[]⟩, (), (), (), (),
 (), ()), [], ()), (), (), (), (), ()), (K12.n1 Z ((Aab (SSta.buses s), (), ()), (⟨#[]⟩, (), (), (), (), (), ()), [], ()), K12.f1 Z ((Aab (SSta.buses s), (), ()),
 (⟨#[]⟩, (), (), (), (), (), ()), [], ())), K12.m1 Z ((Aab (SSta.buses s), (), ()), (⟨#[]⟩, (), (), (), (), (), ()), [], ()), ()), K12.f2 Z ((Aai
 (SSta.lines s), (), ()), (⟨#[]⟩, K12.n1 Z ((Aab (SSta.buses s), (), ()), (⟨#[]⟩, (), (), (), (), (), ()), [], ()), (), (), (), (), ()), (K12.n1 Z ((Aab
 (SSta.buses s), (), ()), (⟨#[]⟩, (), (), (), (), (), ()), [], ()), K12.f1 Z ((Aab (SSta.buses s), (), ()), (⟨#[]⟩, (), (), (), (), (), ()), [], ())), K12.m1
 Z ((Aab (SSta.buses s), (), ()), (⟨#[]⟩, (), (), (), (), (), ()), [], ()), ())), (K12.n3 Z ((srcsD (SSta.srcs s), (), ()), (⟨#[]⟩, K12.n1 Z ((Aab
 (SSta.buses s), (), ()), (⟨#[]⟩, (), (), (), (), (), ()), [], ()), K12.n2 Z ((Aai (SSta.lines s), (), ()), (⟨#[]⟩, K12.n1 Z ((Aab (SSta.buses s), (),
 ()), (⟨#[]⟩, (), (), (), (), (), ()), [], ()), (), (), (), (), ()), (K12.n1 Z ((Aab (SSta.buses s), (), ()), (⟨#[]⟩, (), (), (), (), (), ()), [], ()),
 K12.f1 Z ((Aab (SSta.buses s), (), ()), (⟨#[]⟩, (), (), (), (), (), ()), [], ())), K12.m1 Z ((Aab (SSta.buses s), (), ()), (⟨#[]⟩, (), (), (), (), (),
 ()), [], ()), ()), (), (), (), ()), (K12.n1 Z ((Aab (SSta.buses s), (), ()), (⟨#[]⟩, (), (), (), (), (), ()), [], ()), K12.f1 Z ((Aab (SSta.buses s), (), ()),
 (⟨#[]⟩, (), (), (), (), (), ()), [], ())), (K12.n2 Z ((Aai (SSta.lines s), (), ()), (⟨#[]⟩, K12.n1 Z ((Aab (SSta.buses s), (), ()), (⟨#[]⟩,
 (), (), (), (), (), ()), [], ()), (), (), (), (), ()), (K12.n1 Z ((Aab (SSta.buses s), (), ()), (⟨#[]⟩, (), (), (), (), (), ()), [], ()), K12.f1 Z ((Aab (SSta.buses
 s), (), ()), (⟨#[]⟩, (), (), (), (), (), ()), [], ())), K12.m1 Z ((Aab (SSta.buses s), (), ()), (⟨#[]⟩, (), (), (), (), (), ()), [], ()), ()), K12.f2 Z
 ((Aai (SSta.lines s), (), ()), (⟨#[]⟩, K12.n1 Z ((Aab (SSta.buses s), (), ()), (⟨#[]⟩, (), (), (), (), (), ()), [], ()), (), (), (), (), ()), (K12.n1 Z
 ((Aab (SSta.buses s), (), ()), (⟨#[]⟩, (), (), (), (), (), ()), [], ()), K12.f1 Z ((Aab (SSta.buses s), (), ()), (⟨#[]⟩, (), (), (), (), (), ()), [],
 ())), K12.m1 Z ((Aab (SSta.buses s), (), ()), (⟨#[]⟩, (), (), (), (), (), ()), [], ()), ())), K12.m2 Z ((Aai (SSta.lines s), (), ()), (⟨#[]⟩, K12.n1 Z
 ((Aab (SSta.buses s), (), ()), (⟨#[]⟩, (), (), (), (), (), ()), [], ()), (), (), (), (), ()), (K12.n1 Z ((Aab (SSta.buses s), (), ()), (⟨#[]⟩, (), (),
 (), (), (), ()), [], ()), K12.f1 Z ((Aab (SSta.buses s), (), ()), (⟨#[]⟩, (), (), (), (), (), ()), [], ())), K12.m1 Z ((Aab (SSta.buses s), (), ()), (⟨#[]⟩, (), (), (), (), (), ()), [], ()), ()), ()), K12.f3 Z ((srcsD (SSta.srcs s), (), ()), (⟨#[]⟩, K12.n1 Z ((Aab (SSta.buses s), (), ()), (⟨#[]⟩, (), (),
 (), (), (), ()), [], ()), K12.n2 Z ((Aai (SSta.lines s), (), ()), (⟨#[]⟩, K12.n1 Z ((Aab (SSta.buses s), (), ()), (⟨#[]⟩, (), (), (), (), (), ()), [],
 ()), (), (), (), (), ()), (K12.n1 Z ((Aab (SSta.buses s), (), ()), (⟨#[]⟩, (), (), (), (), (), ()), [], ()), K12.f1 Z ((Aab (SSta.buses s), (), ()), (⟨#[]⟩, (), (), (), (), (), ()), [], ())), K12.m1 Z ((Aab (SSta.buses s), (), ()), (⟨#[]⟩, (), (), (), (), (), ()), [], ()), ()), (), (), (), ()), (K12.n1 Z ((Aab
 (SSta.buses s), (), ()), (⟨#[]⟩, (), (), (), (), (), ()), [], ()), K12.f1 Z ((Aab (SSta.buses s), (), ()), (⟨#[]⟩, (), (), (), (), (), ()), [], ())),
 (K12.n2 Z ((Aai (SSta.lines s), (), ()), (⟨#[]⟩, K12.n1 Z ((Aab (SSta.buses s), (), ()), (⟨#[]⟩, (), (), (), (), (), ()), [], ()), (), (), (), (), ()),
 (K12.n1 Z ((Aab (SSta.buses s), (), ()), (⟨#[]⟩, (), (), (), (), (), ()), [], ()), K12.f1 Z ((Aab (SSta.buses s), (), ()), (⟨#[]⟩, (), (), (), (), (),
 ()), [], ())), K12.m1 Z ((Aab (SSta.buses s), (), ()), (⟨#[]⟩, (), (), (), (), (), ()), [], ()), ()), K12.f2 Z ((Aai (SSta.lines s), (), ()), (⟨#[]⟩,
 K12.n1 Z ((Aab (SSta.buses s), (), ()), (⟨#[]⟩, (), (), (), (), (), ()), [], ()), (), (), (), (), ()), (K12.n1 Z ((Aab (SSta.buses s), (), ()), (⟨#[]⟩,
 (), (), (), (), (), ()), [], ()), K12.f1 Z ((Aab (SSta.buses s), (), ()), (⟨#[]⟩, (), (), (), (), (), ()), [], ())), K12.m1 Z ((Aab (SSta.buses s), (), ()),
 (⟨#[]⟩, (), (), (), (), (), ()), [], ()), ())), K12.m2 Z ((Aai (SSta.lines s), (), ()), (⟨#[]⟩, K12.n1 Z ((Aab (SSta.buses s), (), ()), (⟨#[]⟩, (), (), (), (), (), ()), [], ()), (), (), (), (), ()), (K12.n1 Z ((Aab (SSta.buses s), (), ()), (⟨#[]⟩, (), (), (), (), (), ()), [], ()), K12.f1 Z ((Aab
 (SSta.buses s), (), ()), (⟨#[]⟩, (), (), (), (), (), ()), [], ())), K12.m1 Z ((Aab (SSta.buses s), (), ()), (⟨#[]⟩, (), (), (), (), (), ()), [], ()), ()),
 ())), K12.m3 Z ((srcsD (SSta.srcs s), (), ()), (⟨#[]⟩, K12.n1 Z ((Aab (SSta.buses s), (), ()), (⟨#[]⟩, (), (), (), (), (), ()), [], ()), K12.n2 Z ((Aai
 (SSta.lines s), (), ()), (⟨#[]⟩, K12.n1 Z ((Aab (SSta.buses s), (), ()), (⟨#[]⟩, (), (), (), (), (), ()), [], ()), (), (), (), (), ()), (K12.n1 Z ((Aab
 (SSta.buses s), (), ()), (⟨#[]⟩, (), (), (), (), (), ()), [], ()), K12.f1 Z ((Aab (SSta.buses s), (), ()), (⟨#[]⟩, (), (), (), (), (), ()), [], ())), K12.m1
 Z ((Aab (SSta.buses s), (), ()), (⟨#[]⟩, (), (), (), (), (), ()), [], ()), ()), (), (), (), ()), (K12.n1 Z ((Aab (SSta.buses s), (), ()), (⟨#[]⟩, (), (),
 (), (), (), ()), [], ()), K12.f1 Z ((Aab (SSta.buses s), (), ()), (⟨#[]⟩, (), (), (), (), (), ()), [], ())), (K12.n2 Z ((Aai (SSta.lines s), (), ()), (⟨#[]⟩, K12.n1 Z ((Aab (SSta.buses s), (), ()), (⟨#[]⟩, (), (), (), (), (), ()), [], ()), (), (), (), (), ()), (K12.n1 Z ((Aab (SSta.buses s), (), ()), (⟨#[]⟩, (), (), (), (), (), ()), [], ()), K12.f1 Z ((Aab (SSta.buses s), (), ()), (⟨#[]⟩, (), (), (), (), (), ()), [], ())), K12.m1 Z ((Aab (SSta.buses s), (), ()),
 (⟨#[]⟩, (), (), (), (), (), ()), [], ()), ()), K12.f2 Z ((Aai (SSta.lines s), (), ()), (⟨#[]⟩, K12.n1 Z ((Aab (SSta.buses s), (), ()), (⟨#[]⟩,
 (), (), (), (), (), ()), [], ()), (), (), (), (), ()), (K12.n1 Z ((Aab (SSta.buses s), (), ()), (⟨#[]⟩, (), (), (), (), (), ()), [], ()), K12.f1 Z ((Aab (SSta.buses
 s), (), ()), (⟨#[]⟩, (), (), (), (), (), ()), [], ())), K12.m1 Z ((Aab (SSta.buses s), (), ()), (⟨#[]⟩, (), (), (), (), (), ()), [], ()), ())), K12.m2 Z
 ((Aai (SSta.lines s), (), ()), (⟨#[]⟩, K12.n1 Z ((Aab (SSta.buses s), (), ()), (⟨#[]⟩, (), (), (), (), (), ()), [], ()), (), (), (), (), ()), (K12.n1 Z
 ((Aab (SSta.buses s), (), ()), (⟨#[]⟩, (), (), (), (), (), ()), [], ()), K12.f1 Z ((Aab (SSta.buses s), (), ()), (⟨#[]⟩, (), (), (), (), (), ()), [],
 ())), K12.m1 Z ((Aab (SSta.buses s), (), ()), (⟨#[]⟩, (), (), (), (), (), ()), [], ()), ()), ()), ()) then some (T.leaf (AV.c (.d (.v (.int .i64 (K12.e4
 Z ((baysD (SSta.bays s), (), ()), (⟨#[]⟩, K12.n1 Z ((Aab (SSta.buses s), (), ()), (⟨#[]⟩, (), (), (), (), (), ()), [], ()), K12.n2 Z ((Aai (SSta.lines
 s), (), ()), (⟨#[]⟩, K12.n1 Z ((Aab (SSta.buses s), (), ()), (⟨#[]⟩, (), (), (), (), (), ()), [], ()), (), (), (), (), ()), (K12.n1 Z ((Aab (SSta.buses
 s), (), ()), (⟨#[]⟩, (), (), (), (), (), ()), [], ()), K12.f1 Z ((Aab (SSta.buses s), (), ()), (⟨#[]⟩, (), (), (), (), (), ()), [], ())), K12.m1 Z ((Aab
 (SSta.buses s), (), ()), (⟨#[]⟩, (), (), (), (), (), ()), [], ()), ()), K12.n3 Z ((srcsD (SSta.srcs s), (), ()), (⟨#[]⟩, K12.n1 Z ((Aab (SSta.buses s), (),
 ()), (⟨#[]⟩, (), (), (), (), (), ()), [], ()), K12.n2 Z ((Aai (SSta.lines s), (), ()), (⟨#[]⟩, K12.n1 Z ((Aab (SSta.buses s), (), ()), (⟨#[]⟩,
 (), (), (), (), (), ()), [], ()), (), (), (), (), ()), (K12.n1 Z ((Aab (SSta.buses s), (), ()), (⟨#[]⟩, (), (), (), (), (), ()), [], ()), K12.f1 Z ((Aab (SSta.buses
 s), (), ()), (⟨#[]⟩, (), (), (), (), (), ()), [], ())), K12.m1 Z ((Aab (SSta.buses s), (), ()), (⟨#[]⟩, (), (), (), (), (), ()), [], ()), ()), (), (), (),
 ()), (K12.n1 Z ((Aab (SSta.buses s), (), ()), (⟨#[]⟩, (), (), (), (), (), ()), [], ()), K12.f1 Z ((Aab (SSta.buses s), (), ()), (⟨#[]⟩, (), (), (), (),
 (), ()), [], ())), (K12.n2 Z ((Aai (SSta.lines s), (), ()), (⟨#[]⟩, K12.n1 Z ((Aab (SSta.buses s), (), ()), (⟨#[]⟩, (), (), (), (), (), ()), [], ()), (),
 (), (), (), ()), (K12.n1 Z ((Aab (SSta.buses s), (), ()), (⟨#[]⟩, (), (), (), (), (), ()), [], ()), K12.f1 Z ((Aab (SSta.buses s), (), ()), (⟨#[]⟩, (),
 (), (), (), (), ()), [], ())), K12.m1 Z ((Aab (SSta.buses s), (), ()), (⟨#[]⟩, (), (), (), (), (), ()), [], ()), ()), K12.f2 Z ((Aai (SSta.lines s), (), ()),
 (⟨#[]⟩, K12.n1 Z ((Aab (SSta.buses s), (), ()), (⟨#[]⟩, (), (), (), (), (), ()), [], ()), (), (), (), (), ()), (K12.n1 Z ((Aab (SSta.buses s), (), ()),
 (⟨#[]⟩, (), (), (), (), (), ()), [], ()), K12.f1 Z ((Aab (SSta.buses s), (), ()), (⟨#[]⟩, (), (), (), (), (), ()), [], ())), K12.m1 Z ((Aab (SSta.buses
 s), (), ()), (⟨#[]⟩, (), (), (), (), (), ()), [], ()), ())), K12.m2 Z ((Aai (SSta.lines s), (), ()), (⟨#[]⟩, K12.n1 Z ((Aab (SSta.buses s), (), ()),
 (⟨#[]⟩, (), (), (), (), (), ()), [], ()), (), (), (), (), ()), (K12.n1 Z ((Aab (SSta.buses s), (), ()), (⟨#[]⟩, (), (), (), (), (), ()), [], ()), K12.f1 Z
 ((Aab (SSta.buses s), (), ()), (⟨#[]⟩, (), (), (), (), (), ()), [], ())), K12.m1 Z ((Aab (SSta.buses s), (), ()), (⟨#[]⟩, (), (), (), (), (), ()), [],
 ()), ()), ()), (), (), ()), (K12.n1 Z ((Aab (SSta.buses s), (), ()), (⟨#[]⟩, (), (), (), (), (), ()), [], ()), K12.f1 Z ((Aab (SSta.buses s), (), ()), (⟨#[]⟩, (), (), (), (), (), ()), [], ())), (K12.n2 Z ((Aai (SSta.lines s), (), ()), (⟨#[]⟩, K12.n1 Z ((Aab (SSta.buses s), (), ()), (⟨#[]⟩, (), (), (), (),
 (), ()), [], ()), (), (), (), (), ()), (K12.n1 Z ((Aab (SSta.buses s), (), ()), (⟨#[]⟩, (), (), (), (), (), ()), [], ()), K12.f1 Z ((Aab (SSta.buses s), (), ()),
 (⟨#[]⟩, (), (), (), (), (), ()), [], ())), K12.m1 Z ((Aab (SSta.buses s), (), ()), (⟨#[]⟩, (), (), (), (), (), ()), [], ()), ()), K12.f2 Z ((Aai
 (SSta.lines s), (), ()), (⟨#[]⟩, K12.n1 Z ((Aab (SSta.buses s), (), ()), (⟨#[]⟩, (), (), (), (), (), ()), [], ()), (), (), (), (), ()), (K12.n1 Z ((Aab
 (SSta.buses s), (), ()), (⟨#[]⟩, (), (), (), (), (), ()), [], ()), K12.f1 Z ((Aab (SSta.buses s), (), ()), (⟨#[]⟩, (), (), (), (), (), ()), [], ())), K12.m1
 Z ((Aab (SSta.buses s), (), ()), (⟨#[]⟩, (), (), (), (), (), ()), [], ()), ())), (K12.n3 Z ((srcsD (SSta.srcs s), (), ()), (⟨#[]⟩, K12.n1 Z ((Aab
 (SSta.buses s), (), ()), (⟨#[]⟩, (), (), (), (), (), ()), [], ()), K12.n2 Z ((Aai (SSta.lines s), (), ()), (⟨#[]⟩, K12.n1 Z ((Aab (SSta.buses s), (),
 ()), (⟨#[]⟩, (), (), (), (), (), ()), [], ()), (), (), (), (), ()), (K12.n1 Z ((Aab (SSta.buses s), (), ()), (⟨#[]⟩, (), (), (), (), (), ()), [], ()),
 K12.f1 Z ((Aab (SSta.buses s), (), ()), (⟨#[]⟩, (), (), (), (), (), ()), [], ())), K12.m1 Z ((Aab (SSta.buses s), (), ()), (⟨#[]⟩, (), (), (), (), (),
 ()), [], ()), ()), (), (), (), ()), (K12.n1 Z ((Aab (SSta.buses s), (), ()), (⟨#[]⟩, (), (), (), (), (), ()), [], ()), K12.f1 Z ((Aab (SSta.buses s), (), ()),
 (⟨#[]⟩, (), (), (), (), (), ()), [], ())), (K12.n2 Z ((Aai (SSta.lines s), (), ()), (⟨#[]⟩, K12.n1 Z ((Aab (SSta.buses s), (), ()), (⟨#[]⟩,
 (), (), (), (), (), ()), [], ()), (), (), (), (), ()), (K12.n1 Z ((Aab (SSta.buses s), (), ()), (⟨#[]⟩, (), (), (), (), (), ()), [], ()), K12.f1 Z ((Aab (SSta.buses
 s), (), ()), (⟨#[]⟩, (), (), (), (), (), ()), [], ())), K12.m1 Z ((Aab (SSta.buses s), (), ()), (⟨#[]⟩, (), (), (), (), (), ()), [], ()), ()), K12.f2 Z
 ((Aai (SSta.lines s), (), ()), (⟨#[]⟩, K12.n1 Z ((Aab (SSta.buses s), (), ()), (⟨#[]⟩, (), (), (), (), (), ()), [], ()), (), (), (), (), ()), (K12.n1 Z
 ((Aab (SSta.buses s), (), ()), (⟨#[]⟩, (), (), (), (), (), ()), [], ()), K12.f1 Z ((Aab (SSta.buses s), (), ()), (⟨#[]⟩, (), (), (), (), (), ()), [],
 ())), K12.m1 Z ((Aab (SSta.buses s), (), ()), (⟨#[]⟩, (), (), (), (), (), ()), [], ()), ())), K12.m2 Z ((Aai (SSta.lines s), (), ()), (⟨#[]⟩, K12.n1 Z
 ((Aab (SSta.buses s), (), ()), (⟨#[]⟩, (), (), (), (), (), ()), [], ()), (), (), (), (), ()), (K12.n1 Z ((Aab (SSta.buses s), (), ()), (⟨#[]⟩, (), (),
 (), (), (), ()), [], ()), K12.f1 Z ((Aab (SSta.buses s), (), ()), (⟨#[]⟩, (), (), (), (), (), ()), [], ())), K12.m1 Z ((Aab (SSta.buses s), (), ()), (⟨#[]⟩, (), (), (), (), (), ()), [], ()), ()), ()), K12.f3 Z ((srcsD (SSta.srcs s), (), ()), (⟨#[]⟩, K12.n1 Z ((Aab (SSta.buses s), (), ()), (⟨#[]⟩, (), (),
 (), (), (), ()), [], ()), K12.n2 Z ((Aai (SSta.lines s), (), ()), (⟨#[]⟩, K12.n1 Z ((Aab (SSta.buses s), (), ()), (⟨#[]⟩, (), (), (), (), (), ()), [],
 ()), (), (), (), (), ()), (K12.n1 Z ((Aab (SSta.buses s), (), ()), (⟨#[]⟩, (), (), (), (), (), ()), [], ()), K12.f1 Z ((Aab (SSta.buses s), (), ()), (⟨#[]⟩, (), (), (), (), (), ()), [], ())), K12.m1 Z ((Aab (SSta.buses s), (), ()), (⟨#[]⟩, (), (), (), (), (), ()), [], ()), ()), (), (), (), ()), (K12.n1 Z ((Aab
 (SSta.buses s), (), ()), (⟨#[]⟩, (), (), (), (), (), ()), [], ()), K12.f1 Z ((Aab (SSta.buses s), (), ()), (⟨#[]⟩, (), (), (), (), (), ()), [], ())),
 (K12.n2 Z ((Aai (SSta.lines s), (), ()), (⟨#[]⟩, K12.n1 Z ((Aab (SSta.buses s), (), ()), (⟨#[]⟩, (), (), (), (), (), ()), [], ()), (), (), (), (), ()),
 (K12.n1 Z ((Aab (SSta.buses s), (), ()), (⟨#[]⟩, (), (), (), (), (), ()), [], ()), K12.f1 Z ((Aab (SSta.buses s), (), ()), (⟨#[]⟩, (), (), (), (), (),
 ()), [], ())), K12.m1 Z ((Aab (SSta.buses s), (), ()), (⟨#[]⟩, (), (), (), (), (), ()), [], ()), ()), K12.f2 Z ((Aai (SSta.lines s), (), ()), (⟨#[]⟩,
 K12.n1 Z ((Aab (SSta.buses s), (), ()), (⟨#[]⟩, (), (), (), (), (), ()), [], ()), (), (), (), (), ()), (K12.n1 Z ((Aab (SSta.buses s), (), ()), (⟨#[]⟩,
 (), (), (), (), (), ()), [], ()), K12.f1 Z ((Aab (SSta.buses s), (), ()), (⟨#[]⟩, (), (), (), (), (), ()), [], ())), K12.m1 Z ((Aab (SSta.buses s), (), ()),
 (⟨#[]⟩, (), (), (), (), (), ()), [], ()), ())), K12.m2 Z ((Aai (SSta.lines s), (), ()), (⟨#[]⟩, K12.n1 Z ((Aab (SSta.buses s), (), ()), (⟨#[]⟩, (), (), (), (), (), ()), [], ()), (), (), (), (), ()), (K12.n1 Z ((Aab (SSta.buses s), (), ()), (⟨#[]⟩, (), (), (), (), (), ()), [], ()), K12.f1 Z ((Aab
 (SSta.buses s), (), ()), (⟨#[]⟩, (), (), (), (), (), ()), [], ())), K12.m1 Z ((Aab (SSta.buses s), (), ()), (⟨#[]⟩, (), (), (), (), (), ()), [], ()), ()),
 ())), K12.m3 Z ((srcsD (SSta.srcs s), (), ()), (⟨#[]⟩, K12.n1 Z ((Aab (SSta.buses s), (), ()), (⟨#[]⟩, (), (), (), (), (), ()), [], ()), K12.n2 Z ((Aai
 (SSta.lines s), (), ()), (⟨#[]⟩, K12.n1 Z ((Aab (SSta.buses s), (), ()), (⟨#[]⟩, (), (), (), (), (), ()), [], ()), (), (), (), (), ()), (K12.n1 Z ((Aab
 (SSta.buses s), (), ()), (⟨#[]⟩, (), (), (), (), (), ()), [], ()), K12.f1 Z ((Aab (SSta.buses s), (), ()), (⟨#[]⟩, (), (), (), (), (), ()), [], ())), K12.m1
 Z ((Aab (SSta.buses s), (), ()), (⟨#[]⟩, (), (), (), (), (), ()), [], ()), ()), (), (), (), ()), (K12.n1 Z ((Aab (SSta.buses s), (), ()), (⟨#[]⟩, (), (),
 (), (), (), ()), [], ()), K12.f1 Z ((Aab (SSta.buses s), (), ()), (⟨#[]⟩, (), (), (), (), (), ()), [], ())), (K12.n2 Z ((Aai (SSta.lines s), (), ()), (⟨#[]⟩, K12.n1 Z ((Aab (SSta.buses s), (), ()), (⟨#[]⟩, (), (), (), (), (), ()), [], ()), (), (), (), (), ()), (K12.n1 Z ((Aab (SSta.buses s), (), ()), (⟨#[]⟩, (), (), (), (), (), ()), [], ()), K12.f1 Z ((Aab (SSta.buses s), (), ()), (⟨#[]⟩, (), (), (), (), (), ()), [], ())), K12.m1 Z ((Aab (SSta.buses s), (), ()),
 (⟨#[]⟩, (), (), (), (), (), ()), [], ()), ()), K12.f2 Z ((Aai (SSta.lines s), (), ()), (⟨#[]⟩, K12.n1 Z ((Aab (SSta.buses s), (), ()), (⟨#[]⟩,
 (), (), (), (), (), ()), [], ()), (), (), (), (), ()), (K12.n1 Z ((Aab (SSta.buses s), (), ()), (⟨#[]⟩, (), (), (), (), (), ()), [], ()), K12.f1 Z ((Aab (SSta.buses
 s), (), ()), (⟨#[]⟩, (), (), (), (), (), ()), [], ())), K12.m1 Z ((Aab (SSta.buses s), (), ()), (⟨#[]⟩, (), (), (), (), (), ()), [], ()), ())), K12.m2 Z
 ((Aai (SSta.lines s), (), ()), (⟨#[]⟩, K12.n1 Z ((Aab (SSta.buses s), (), ()), (⟨#[]⟩, (), (), (), (), (), ()), [], ()), (), (), (), (), ()), (K12.n1 Z
 ((Aab (SSta.buses s), (), ()), (⟨#[]⟩, (), (), (), (), (), ()), [], ()), K12.f1 Z ((Aab (SSta.buses s), (), ()), (⟨#[]⟩, (), (), (), (), (), ()), [],
 ())), K12.m1 Z ((Aab (SSta.buses s), (), ()), (⟨#[]⟩, (), (), (), (), (), ()), [], ()), ()), ()), ()))))), [])) else none) else some (T.leaf (AV.c (C.d (D.v (Value.int
 IntKind.i64 (K12.e3 Z ((srcsD (SSta.srcs s), (), ()), (⟨#[]⟩, K12.n1 Z ((Aab (SSta.buses s), (), ()), (⟨#[]⟩, (), (), (), (), (), ()), [], ()), K12.n2 Z
 ((Aai (SSta.lines s), (), ()), (⟨#[]⟩, K12.n1 Z ((Aab (SSta.buses s), (), ()), (⟨#[]⟩, (), (), (), (), (), ()), [], ()), (), (), (), (), ()), (K12.n1 Z
 ((Aab (SSta.buses s), (), ()), (⟨#[]⟩, (), (), (), (), (), ()), [], ()), K12.f1 Z ((Aab (SSta.buses s), (), ()), (⟨#[]⟩, (), (), (), (), (), ()), [],
 ())), K12.m1 Z ((Aab (SSta.buses s), (), ()), (⟨#[]⟩, (), (), (), (), (), ()), [], ()), ()), (), (), (), ()), (K12.n1 Z ((Aab (SSta.buses s), (), ()), (⟨#[]⟩, (), (), (), (), (), ()), [], ()), K12.f1 Z ((Aab (SSta.buses s), (), ()), (⟨#[]⟩, (), (), (), (), (), ()), [], ())), (K12.n2 Z ((Aai (SSta.lines s), (), ()),
 (⟨#[]⟩, K12.n1 Z ((Aab (SSta.buses s), (), ()), (⟨#[]⟩, (), (), (), (), (), ()), [], ()), (), (), (), (), ()), (K12.n1 Z ((Aab (SSta.buses s), (), ()),
 (⟨#[]⟩, (), (), (), (), (), ()), [], ()), K12.f1 Z ((Aab (SSta.buses s), (), ()), (⟨#[]⟩, (), (), (), (), (), ()), [], ())), K12.m1 Z ((Aab (SSta.buses
 s), (), ()), (⟨#[]⟩, (), (), (), (), (), ()), [], ()), ()), K12.f2 Z ((Aai (SSta.lines s), (), ()), (⟨#[]⟩, K12.n1 Z ((Aab (SSta.buses s), (), ()),
 (⟨#[]⟩, (), (), (), (), (), ()), [], ()), (), (), (), (), ()), (K12.n1 Z ((Aab (SSta.buses s), (), ()), (⟨#[]⟩, (), (), (), (), (), ()), [], ()), K12.f1 Z
 ((Aab (SSta.buses s), (), ()), (⟨#[]⟩, (), (), (), (), (), ()), [], ())), K12.m1 Z ((Aab (SSta.buses s), (), ()), (⟨#[]⟩, (), (), (), (), (), ()), [],
 ()), ())), K12.m2 Z ((Aai (SSta.lines s), (), ()), (⟨#[]⟩, K12.n1 Z ((Aab (SSta.buses s), (), ()), (⟨#[]⟩, (), (), (), (), (), ()), [], ()), (), (), (),
 (), ()), (K12.n1 Z ((Aab (SSta.buses s), (), ()), (⟨#[]⟩, (), (), (), (), (), ()), [], ()), K12.f1 Z ((Aab (SSta.buses s), (), ()), (⟨#[]⟩, (), (), (),
 (), (), ()), [], ())), K12.m1 Z ((Aab (SSta.buses s), (), ()), (⟨#[]⟩, (), (), (), (), (), ()), [], ()), ()), ()))))), []))) else none) else (bif K12.e2 Z ((Aai
 (SSta.lines s), (), ()), (⟨#[]⟩, K12.n1 Z ((Aab (SSta.buses s), (), ()), (⟨#[]⟩, (), (), (), (), (), ()), [], ()), (), (), (), (), ()), (K12.n1 Z ((Aab
 (SSta.buses s), (), ()), (⟨#[]⟩, (), (), (), (), (), ()), [], ()), K12.f1 Z ((Aab (SSta.buses s), (), ()), (⟨#[]⟩, (), (), (), (), (), ()), [], ())), K12.m1
 Z ((Aab (SSta.buses s), (), ()), (⟨#[]⟩, (), (), (), (), (), ()), [], ()), ()) == (0 : Int) then none else some (T.leaf (AV.c (.d (.v (.int .i64 (K12.e2
 Z ((Aai (SSta.lines s), (), ()), (⟨#[]⟩, K12.n1 Z ((Aab (SSta.buses s), (), ()), (⟨#[]⟩, (), (), (), (), (), ()), [], ()), (), (), (), (), ()), (K12.n1 Z
 ((Aab (SSta.buses s), (), ()), (⟨#[]⟩, (), (), (), (), (), ()), [], ()), K12.f1 Z ((Aab (SSta.buses s), (), ()), (⟨#[]⟩, (), (), (), (), (), ()), [],
 ())), K12.m1 Z ((Aab (SSta.buses s), (), ()), (⟨#[]⟩, (), (), (), (), (), ()), [], ()), ()))))), [])))) else none) else (bif K12.e1 Z ((Aab (SSta.buses s), (), ()),
 (⟨#[]⟩, (), (), (), (), (), ()), [], ()) == (0 : Int) then none else (bif K12.e1 Z ((Aab (SSta.buses s), (), ()), (⟨#[]⟩, (), (), (), (), (), ()), [], ())
 == (0 : Int) then none else some (T.leaf (AV.c (.d (.v (.int .i64 (K12.e1 Z ((Aab (SSta.buses s), (), ()), (⟨#[]⟩, (), (), (), (), (), ()), [], ()))))),
 []))))) else none))))))) := by kernel_rfl
end Go.Proofs.YtmnfibmlhmeheaaGreatDoor.st
namespace Go.Proofs.YtmnfibmlhmeheaaGreatDoor.st
open Go.RowKit Go.Eb
noncomputable abbrev u1 (a : A26) := takeN id (fun N _ x => namErr N x) (theM a.2.2.1) [] (theE Aab a.1.1)
noncomputable abbrev u2 (a : A28) := tLine (theM a.2.2.2.1) (theE Aai a.1.1)
noncomputable abbrev u3 (a : A30) := tSrc (theM a.2.2.2.2.1) (theE srcsD a.1.1)
noncomputable abbrev u4 (a : A32) := tBay a.2.2.1.1 a.2.2.2.1.1 a.2.2.2.2.1.1 (theM a.2.2.2.2.2.1) (theE baysD a.1.1)
noncomputable def Z12 : K12 where
  nk := Aae
  ok1 a := okE Aab a.1.1 && (decide ((theE Aab a.1.1).length ≤ 900) && okM a.2.2.1)
  e1 a := (u1 a).1
  m1 a := Aak (theM a.2.2.1 ++ (u1 a).2.map id)
  n1 a := (u1 a).2.length
  f1 a := fun i => busC ((u1 a).2.getD i e0)
  ok2 a := okE Aai a.1.1 && (decide ((theE Aai a.1.1).length ≤ 900) && (okM a.2.2.2.1 && Nat.beq a.2.1.2.1 a.2.2.1.1))
  e2 a := (u2 a).1
  m2 a := Aak (theM a.2.2.2.1 ++ (u2 a).2.map SLine.name)
  n2 a := (u2 a).2.length
  f2 a := fun i => Aao ((u2 a).2.getD i Aah)
  ok3 a := okE srcsD a.1.1 && (decide ((theE srcsD a.1.1).length ≤ 900) && (okM a.2.2.2.2.1 && (Nat.beq a.2.1.2.1 a.2.2.1.1 && Nat.beq a.2.1.2.2.1 a.2.2.2.1.1)))
  e3 a := (u3 a).1
  m3 a := Aak (theM a.2.2.2.2.1 ++ (u3 a).2.map SSrc.name)
  n3 a := (u3 a).2.length
  f3 a := fun i => Aan ((u3 a).2.getD i src0)
  ok4 a := okE baysD a.1.1 && (decide ((theE baysD a.1.1).length ≤ 900) && (okM a.2.2.2.2.2.1 && (Nat.beq a.2.1.2.1 a.2.2.1.1 && (Nat.beq a.2.1.2.2.1 a.2.2.2.1.1 && (Nat.beq a.2.1.2.2.2.1 a.2.2.2.2.1.1 && (Nat.ble a.2.2.1.1 900 && (Nat.ble a.2.2.2.1.1 900 && (Nat.ble a.2.2.2.2.1.1 900 && lksOk (theE baysD a.1.1)))))))))
  e4 a := (u4 a).1
  m4 a := Aak (theM a.2.2.2.2.2.1 ++ (u4 a).2.map SBay.name)
  n4 a := (u4 a).2.length
  f4 a := fun i => bayC ((u4 a).2.getD i bay0)
theorem s12 : OrcS Tryz.prog (o12 Z12) := by
  refine .cons (.p decS_ok c15) (.cons (.inl .nil Tryz.func50 (by kernel_rfl)) (.cons (.d fun a ha => ?_) (.cons (.d fun a ha => ?_) (.cons (.d fun a ha => ?_) (.cons (.d fun a ha => ?_) .nil)))))
  · have ha' : (okE Aab a.1.1 && (decide ((theE Aab a.1.1).length ≤ 900) && okM a.2.2.1)) = true := ha
    simp only [Bool.and_eq_true, decide_eq_true_eq] at ha'
    obtain ⟨h1, h2, h3⟩ := ha'
    have hm := theM_spec h3
    refine (c26 (theE Aab a.1.1) a.2.1.1 (theM a.2.2.1) h2).ge (.cons (theE_de h1) (.cons (.refl _) .nil)) ?_
    show Hle (H1 a.2.1.1 a.2.2.1) _
    rw [← hm]
    exact .refl _
  · have ha' : (okE Aai a.1.1 && (decide ((theE Aai a.1.1).length ≤ 900) && (okM a.2.2.2.1 && Nat.beq a.2.1.2.1 a.2.2.1.1))) = true := ha
    simp only [Bool.and_eq_true, decide_eq_true_eq] at ha'
    obtain ⟨h1, h2, h3, h4⟩ := ha'
    have hm := theM_spec h3
    have e4 := Nat.eq_of_beq_eq_true h4
    refine (c28 (theE Aai a.1.1) a.2.1.1 a.2.2.1.1 a.2.2.1.2 (theM a.2.2.2.1) h2).ge (.cons (theE_de h1) (.cons (.refl _) .nil)) ?_
    show Hle [(0, .cells [.d (dS a.2.1.1), .row 1 1 a.2.1.2.1, nilC, nilC, nilC, .mp 2] 150), (1, .row a.2.2.1.1 a.2.2.1.2 1 9), (2, .map 0 a.2.2.2.1)] _
    rw [← hm, e4]
    exact .refl _
  · have ha' : (okE srcsD a.1.1 && (decide ((theE srcsD a.1.1).length ≤ 900) && (okM a.2.2.2.2.1 && (Nat.beq a.2.1.2.1 a.2.2.1.1 && Nat.beq a.2.1.2.2.1 a.2.2.2.1.1)))) = true := ha
    simp only [Bool.and_eq_true, decide_eq_true_eq] at ha'
    obtain ⟨h1, h2, h3, h4, h5⟩ := ha'
    have hm := theM_spec h3
    have e4 := Nat.eq_of_beq_eq_true h4
    have e5 := Nat.eq_of_beq_eq_true h5
    refine (c30 (theE srcsD a.1.1) a.2.1.1 a.2.2.1.1 a.2.2.1.2 a.2.2.2.1.1 a.2.2.2.1.2 (theM a.2.2.2.2.1) h2).ge (.cons (theE_de h1) (.cons (.refl _) .nil)) ?_
    show Hle [(0, .cells [.d (dS a.2.1.1), .row 1 1 a.2.1.2.1, .row 2 5 a.2.1.2.2.1, nilC, nilC, .mp 3] 150), (1, .row a.2.2.1.1 a.2.2.1.2 1 9), (2, .row a.2.2.2.1.1 a.2.2.2.1.2 5 98), (3, .map 0 a.2.2.2.2.1)] _
    rw [← hm, e4, e5]
    exact .refl _
  · have ha' : (okE baysD a.1.1 && (decide ((theE baysD a.1.1).length ≤ 900) && (okM a.2.2.2.2.2.1 && (Nat.beq a.2.1.2.1 a.2.2.1.1 && (Nat.beq a.2.1.2.2.1 a.2.2.2.1.1 && (Nat.beq a.2.1.2.2.2.1 a.2.2.2.2.1.1 && (Nat.ble a.2.2.1.1 900 && (Nat.ble a.2.2.2.1.1 900 && (Nat.ble a.2.2.2.2.1.1 900 && lksOk (theE baysD a.1.1)))))))))) = true := ha
    simp only [Bool.and_eq_true, decide_eq_true_eq] at ha'
    obtain ⟨h1, h2, h3, h4, h5, h6, h7, h8, h9, h10⟩ := ha'
    have hm := theM_spec h3
    have e4 := Nat.eq_of_beq_eq_true h4
    have e5 := Nat.eq_of_beq_eq_true h5
    have e6 := Nat.eq_of_beq_eq_true h6
    refine (c32 (theE baysD a.1.1) a.2.1.1 a.2.2.1.1 a.2.2.1.2 a.2.2.2.1.1 a.2.2.2.1.2 a.2.2.2.2.1.1 a.2.2.2.2.1.2 (theM a.2.2.2.2.2.1) h2 (Nat.le_of_ble_eq_true h7) (Nat.le_of_ble_eq_true h8) (Nat.le_of_ble_eq_true h9) (lksOk_get h10)).ge (.cons (theE_de h1) (.cons (.refl _) .nil)) ?_
    show Hle [(0, .cells [.d (dS a.2.1.1), .row 1 1 a.2.1.2.1, .row 2 5 a.2.1.2.2.1, .row 3 6 a.2.1.2.2.2.1, nilC, .mp 4] 150), (1, .row a.2.2.1.1 a.2.2.1.2 1 9), (2, .row a.2.2.2.1.1 a.2.2.2.1.2 5 98), (3, .row a.2.2.2.2.1.1 a.2.2.2.2.1.2 6 101), (4, .map 0 a.2.2.2.2.2.1)] _
    rw [← hm, e4, e5, e6]
    exact .refl _
theorem len_eq0 (n : Nat) : ((n : Int) == 0) = (n == 0) := by cases n <;> rfl
theorem len_gt (n k : Nat) : decide ((n : Int) > (k : Int)) = decide (k < n) := by rw [decide_eq_decide]; omega
theorem c12 (s : SSta) (hlk : lksOk s.bays = true) : CX Tryz.prog 24 [aSta s] [] (vI (chkSta s)) [] := by
  refine cx_of s12.ok Tryz.func24 b12 rfl ((ev12 Z12 s 1).trans ?_)
  have t4 : ∀ n : Nat, decide ((n : Int) > 4) = decide (4 < n) := fun n => len_gt n 4
  have t6 : ∀ n : Nat, decide ((n : Int) > 6) = decide (6 < n) := fun n => len_gt n 6
  have t16 : ∀ n : Nat, decide ((n : Int) > 16) = decide (16 < n) := fun n => len_gt n 16
  simp only [len_eq0, t4, t6, t16, fOr]
  unfold chkSta
  show (bif !Aae s.name then _ else _) = _
  cases Aae s.name with
  | false => rfl
  | true =>
    simp only [Bool.not_true, cond_false]
    have hcb : (s.buses.length == 0 || (decide (4 < s.buses.length) || (decide (6 < s.lines.length) || (decide (4 < s.srcs.length) || decide (16 < s.bays.length))))) = cntBad s := rfl
    rw [hcb]
    cases hc : cntBad s with
    | true => rfl
    | false =>
      simp only [cond_false]
      unfold cntBad at hc
      simp only [Bool.or_eq_false_iff, decide_eq_false_iff_not] at hc
      obtain ⟨_, h4, h6, h4', h16⟩ := hc
      have M0 : okM ([] : List (Value × Value)) = true := okM_mapOf []
      have M0' : theM ([] : List (Value × Value)) = [] := theM_mapOf []
      obtain ⟨L1, L1'⟩ := the_list (sz := 1) (d0 := e0) busC_inj s.buses
      obtain ⟨L2, L2'⟩ := the_list (sz := 5) (d0 := Aah) lineC_inj s.lines
      obtain ⟨L3, L3'⟩ := the_list (sz := 6) (d0 := src0) srcC_inj s.srcs
      obtain ⟨L4, L4'⟩ := the_list (sz := 12) (d0 := bay0) bayC_inj s.bays
      have x1 : ∀ y, Z12.ok1 ((Aab s.buses, (), ()), y, [], ()) = true := fun y => by
        show (okE Aab (Aab s.buses) && (decide ((theE Aab (Aab s.buses)).length ≤ 900) && okM [])) = true
        rw [L1, L1', M0, decide_eq_true (by omega)]; rfl
      have y1 : ∀ y, u1 ((Aab s.buses, (), ()), y, [], ()) = tBus s.buses := fun y => by
        show takeN id (fun N _ x => namErr N x) (theM []) [] (theE Aab (Aab s.buses)) = _
        rw [L1', M0']; rfl
      have z1 : ∀ y, Z12.e1 ((Aab s.buses, (), ()), y, [], ()) = (tBus s.buses).1 := fun y => by show (u1 _).1 = _; rw [y1]
      rw [x1, z1]
      simp only [cond_true]
      cases E1 : ((tBus s.buses).1 == 0) with
      | false =>
        have : ((tBus s.buses).1 != 0) = true := by unfold bne; rw [E1]; rfl
        rw [this]; rfl
      | true =>
        have E1' : (tBus s.buses).1 = 0 := by simpa using E1
        have N1 : (tBus s.buses).2 = s.buses := by have := takeN_ok (nm := id) (f := fun N _ x => namErr N x) (N := []) [] s.buses E1'; rw [List.nil_append] at this; exact this
        have n1 : ∀ y, Z12.n1 ((Aab s.buses, (), ()), y, [], ()) = s.buses.length := fun y => by show (u1 _).2.length = _; rw [y1, N1]
        have m1 : ∀ y, Z12.m1 ((Aab s.buses, (), ()), y, [], ()) = Aak s.buses := fun y => by
          show Aak (theM [] ++ (u1 _).2.map id) = _
          rw [y1, N1, M0']; simp
        rw [E1']
        simp only [cond_true, n1, m1, bne_self_eq_false, cond_false]
        have x2 : ∀ a b c d, Z12.ok2 ((Aai s.lines, (), ()), (a, s.buses.length, b), (s.buses.length, c), Aak s.buses, d) = true := fun a b c d => by
          show (okE Aai (Aai s.lines) && (decide ((theE Aai (Aai s.lines)).length ≤ 900) && (okM (Aak s.buses) && Nat.beq s.buses.length s.buses.length))) = true
          rw [L2, L2', okM_mapOf, decide_eq_true (by omega), Nat.beq_refl]; rfl
        have y2 : ∀ a b c d, u2 ((Aai s.lines, (), ()), (a, s.buses.length, b), (s.buses.length, c), Aak s.buses, d) = tLine s.buses s.lines := fun a b c d => by
          show tLine (theM (Aak s.buses)) (theE Aai (Aai s.lines)) = _
          rw [L2', theM_mapOf]
        have z2 : ∀ a b c d, Z12.e2 ((Aai s.lines, (), ()), (a, s.buses.length, b), (s.buses.length, c), Aak s.buses, d) = (tLine s.buses s.lines).1 := fun a b c d => by show (u2 _).1 = _; rw [y2]
        rw [x2, z2]
        simp only [cond_true]
        cases E2 : ((tLine s.buses s.lines).1 == 0) with
        | false =>
          have : ((tLine s.buses s.lines).1 != 0) = true := by unfold bne; rw [E2]; rfl
          rw [this]; rfl
        | true =>
          have E2' : (tLine s.buses s.lines).1 = 0 := by simpa using E2
          have N2 : (tLine s.buses s.lines).2 = s.lines := by have := takeN_ok (nm := SLine.name) (f := fun N _ x => lineErr N x) (N := s.buses) [] s.lines E2'; rw [List.nil_append] at this; exact this
          have n2 : ∀ a b c d, Z12.n2 ((Aai s.lines, (), ()), (a, s.buses.length, b), (s.buses.length, c), Aak s.buses, d) = s.lines.length := fun a b c d => by show (u2 _).2.length = _; rw [y2, N2]
          have m2 : ∀ a b c d, Z12.m2 ((Aai s.lines, (), ()), (a, s.buses.length, b), (s.buses.length, c), Aak s.buses, d) = Aak (s.buses ++ s.lines.map SLine.name) := fun a b c d => by
            show Aak (theM (Aak s.buses) ++ (u2 _).2.map SLine.name) = _
            rw [y2, N2, theM_mapOf]
          rw [E2']
          simp only [cond_true, n2, m2, bne_self_eq_false, cond_false]
          have x3 : ∀ a b c d e, Z12.ok3 ((srcsD s.srcs, (), ()), (a, s.buses.length, s.lines.length, b), (s.buses.length, c), (s.lines.length, d), Aak (s.buses ++ s.lines.map SLine.name), e) = true := fun a b c d e => by
            show (okE srcsD (srcsD s.srcs) && (decide ((theE srcsD (srcsD s.srcs)).length ≤ 900) && (okM (Aak (s.buses ++ s.lines.map SLine.name)) && (Nat.beq s.buses.length s.buses.length && Nat.beq s.lines.length s.lines.length)))) = true
            rw [L3, L3', okM_mapOf, decide_eq_true (by omega), Nat.beq_refl, Nat.beq_refl]; rfl
          have y3 : ∀ a b c d e, u3 ((srcsD s.srcs, (), ()), (a, s.buses.length, s.lines.length, b), (s.buses.length, c), (s.lines.length, d), Aak (s.buses ++ s.lines.map SLine.name), e) = tSrc (s.buses ++ s.lines.map SLine.name) s.srcs := fun a b c d e => by
            show tSrc (theM (Aak (s.buses ++ s.lines.map SLine.name))) (theE srcsD (srcsD s.srcs)) = _
            rw [L3', theM_mapOf]
          have z3 : ∀ a b c d e, Z12.e3 ((srcsD s.srcs, (), ()), (a, s.buses.length, s.lines.length, b), (s.buses.length, c), (s.lines.length, d), Aak (s.buses ++ s.lines.map SLine.name), e) = (tSrc (s.buses ++ s.lines.map SLine.name) s.srcs).1 := fun a b c d e => by show (u3 _).1 = _; rw [y3]
          rw [x3, z3]
          simp only [cond_true]
          cases E3 : ((tSrc (s.buses ++ s.lines.map SLine.name) s.srcs).1 == 0) with
          | false =>
            have : ((tSrc (s.buses ++ s.lines.map SLine.name) s.srcs).1 != 0) = true := by unfold bne; rw [E3]; rfl
            rw [this]; rfl
          | true =>
            have E3' : (tSrc (s.buses ++ s.lines.map SLine.name) s.srcs).1 = 0 := by simpa using E3
            have N3 : (tSrc (s.buses ++ s.lines.map SLine.name) s.srcs).2 = s.srcs := by have := takeN_ok (nm := SSrc.name) (f := fun N _ x => srcErr N x) (N := s.buses ++ s.lines.map SLine.name) [] s.srcs E3'; rw [List.nil_append] at this; exact this
            have n3 : ∀ a b c d e, Z12.n3 ((srcsD s.srcs, (), ()), (a, s.buses.length, s.lines.length, b), (s.buses.length, c), (s.lines.length, d), Aak (s.buses ++ s.lines.map SLine.name), e) = s.srcs.length := fun a b c d e => by show (u3 _).2.length = _; rw [y3, N3]
            have m3 : ∀ a b c d e, Z12.m3 ((srcsD s.srcs, (), ()), (a, s.buses.length, s.lines.length, b), (s.buses.length, c), (s.lines.length, d), Aak (s.buses ++ s.lines.map SLine.name), e) = Aak (s.buses ++ s.lines.map SLine.name ++ s.srcs.map SSrc.name) := fun a b c d e => by
              show Aak (theM (Aak (s.buses ++ s.lines.map SLine.name)) ++ (u3 _).2.map SSrc.name) = _
              rw [y3, N3, theM_mapOf]
            rw [E3']
            simp only [cond_true, n3, m3, bne_self_eq_false, cond_false]
            have x4 : ∀ a b c d e f, Z12.ok4 ((baysD s.bays, (), ()), (a, s.buses.length, s.lines.length, s.srcs.length, b), (s.buses.length, c), (s.lines.length, d), (s.srcs.length, e), Aak (s.buses ++ s.lines.map SLine.name ++ s.srcs.map SSrc.name), f) = true := fun a b c d e f => by
              show (okE baysD (baysD s.bays) && (decide ((theE baysD (baysD s.bays)).length ≤ 900) && (okM (Aak (s.buses ++ s.lines.map SLine.name ++ s.srcs.map SSrc.name)) && (Nat.beq s.buses.length s.buses.length && (Nat.beq s.lines.length s.lines.length && (Nat.beq s.srcs.length s.srcs.length && (Nat.ble s.buses.length 900 && (Nat.ble s.lines.length 900 && (Nat.ble s.srcs.length 900 && lksOk (theE baysD (baysD s.bays))))))))))) = true
              rw [L4, L4', okM_mapOf, decide_eq_true (by omega), Nat.beq_refl, Nat.beq_refl, Nat.beq_refl, bleD, bleD, bleD, decide_eq_true (by omega), decide_eq_true (by omega), decide_eq_true (by omega), hlk]; rfl
            have z4 : ∀ a b c d e f, Z12.e4 ((baysD s.bays, (), ()), (a, s.buses.length, s.lines.length, s.srcs.length, b), (s.buses.length, c), (s.lines.length, d), (s.srcs.length, e), Aak (s.buses ++ s.lines.map SLine.name ++ s.srcs.map SSrc.name), f) = (tBay s.buses.length s.lines.length s.srcs.length (s.buses ++ s.lines.map SLine.name ++ s.srcs.map SSrc.name) s.bays).1 := fun a b c d e f => by
              show (tBay s.buses.length s.lines.length s.srcs.length (theM (Aak (s.buses ++ s.lines.map SLine.name ++ s.srcs.map SSrc.name))) (theE baysD (baysD s.bays))).1 = _
              rw [L4', theM_mapOf]
            rw [x4, z4]
            rfl
end Go.Proofs.YtmnfibmlhmeheaaGreatDoor.st
namespace Go.Proofs.YtmnfibmlhmeheaaGreatDoor.se
open Go.RowKit Go.Eb Go.Proofs.YtmnfibmlhmeheaaGreatDoor.st
noncomputable def ann28 : Ann := annOf [(3, ⟨[3, 18, 1, 19, 20], []⟩), (8, ⟨[3, 31, 1, 32, 33], []⟩), (13, ⟨[3, 45, 1, 46, 47], []⟩), (18, ⟨[3, 59, 60, 61], []⟩)]
noncomputable def L28_3 (s : SSta) (g m : Nat) (l2 : List (Value × Value)) (l3 : List (Value × Value)) (i20 : Int) := LK Tryz.prog Orc.nil ann28 0 g Tryz.f26 3 m ⟨frm [(1, .c (.ptr 0 0)), (3, .c (.ptr 1 0)), (18, .c (.d (Aac 1 busC e0 (SSta.buses s)))), (19, .c (.d (.v (.int .i64 (↑(List.length (SSta.buses s)) : Int))))), (20, .c (.d (.v (.int .i64 i20))))] 0 Tryz.f26.ntmps, [(0, Blk.cells (List.map C.d (staC s)) 27), (1, Blk.cells [.d (.v (.string (SSta.name s))), C.d (Aac 1 busC e0 (SSta.buses s)), C.d (Aac 5 Aao Aah (SSta.lines s)), C.d (Aac 6 Aan src0 (SSta.srcs s)), C.d (Aac 12 bayC bay0 (SSta.bays s)), C.mp 2, C.mp 3] 136), (2, Blk.map 0 l2), (3, Blk.map 2 l3)], 4⟩
noncomputable def L28_8 (s : SSta) (g m : Nat) (l2 : List (Value × Value)) (l3 : List (Value × Value)) (i33 : Int) := LK Tryz.prog Orc.nil ann28 0 g Tryz.f26 8 m ⟨frm [(1, .c (.ptr 0 0)), (3, .c (.ptr 1 0)), (31, .c (.d (Aac 5 Aao Aah (SSta.lines s)))), (32, .c (.d (.v (.int .i64 (↑(List.length (SSta.lines s)) : Int))))), (33, .c (.d (.v (.int .i64 i33))))] 0 Tryz.f26.ntmps, [(0, Blk.cells (List.map C.d (staC s)) 27), (1, Blk.cells [.d (.v (.string (SSta.name s))), C.d (Aac 1 busC e0 (SSta.buses s)), C.d (Aac 5 Aao Aah (SSta.lines s)), C.d (Aac 6 Aan src0 (SSta.srcs s)), C.d (Aac 12 bayC bay0 (SSta.bays s)), C.mp 2, C.mp 3] 136), (2, Blk.map 0 l2), (3, Blk.map 2 l3)], 4⟩
noncomputable def L28_13 (s : SSta) (g m : Nat) (l2 : List (Value × Value)) (l3 : List (Value × Value)) (i47 : Int) := LK Tryz.prog Orc.nil ann28 0 g Tryz.f26 13 m ⟨frm [(1, .c (.ptr 0 0)), (3, .c (.ptr 1 0)), (45, .c (.d (Aac 6 Aan src0 (SSta.srcs s)))), (46, .c (.d (.v (.int .i64 (↑(List.length (SSta.srcs s)) : Int))))), (47, .c (.d (.v (.int .i64 i47))))] 0 Tryz.f26.ntmps, [(0, Blk.cells (List.map C.d (staC s)) 27), (1, Blk.cells [.d (.v (.string (SSta.name s))), C.d (Aac 1 busC e0 (SSta.buses s)), C.d (Aac 5 Aao Aah (SSta.lines s)), C.d (Aac 6 Aan src0 (SSta.srcs s)), C.d (Aac 12 bayC bay0 (SSta.bays s)), C.mp 2, C.mp 3] 136), (2, Blk.map 0 l2), (3, Blk.map 2 l3)], 4⟩
noncomputable def L28_18 (s : SSta) (g m : Nat) (l1 : List (Value × Value)) (l2 : List (Value × Value)) (i61 : Int) := LK Tryz.prog Orc.nil ann28 0 g Tryz.f26 18 m ⟨frm [(3, .c (.ptr 0 0)), (59, .c (.d (Aac 12 bayC bay0 (SSta.bays s)))), (60, .c (.d (.v (.int .i64 (↑(List.length (SSta.bays s)) : Int))))), (61, .c (.d (.v (.int .i64 i61))))] 0 Tryz.f26.ntmps, [(0, Blk.cells [.d (.v (.string (SSta.name s))), C.d (Aac 1 busC e0 (SSta.buses s)), C.d (Aac 5 Aao Aah (SSta.lines s)), C.d (Aac 6 Aan src0 (SSta.srcs s)), C.d (Aac 12 bayC bay0 (SSta.bays s)), C.mp 1, C.mp 2] 136), (1, Blk.map 0 l1), (2, Blk.map 2 l2)], 3⟩
theorem b28 : Tryz.f26.body = some (Aad Tryz.f26) := by kernel_rfl
theorem ev28 (s : SSta) (g : Nat) : Aal Tryz.prog Orc.nil ann28 g Tryz.f26 (Aad Tryz.f26) [aSta s] [] =
 L28_3 s g g ([]) ([]) ((0 : Int)) := by kernel_rfl
theorem st28_3 (s : SSta) (g m : Nat) (l2 : List (Value × Value)) (l3 : List (Value × Value)) (i20 : Int) : L28_3 s g (m + 1) l2 l3 i20 =
 (bif decide (i20 < (↑(List.length (SSta.buses s)) : Int)) then (bif decide ((0 : Int) ≤ i20) && decide (i20 < (↑(List.length (SSta.buses s)) : Int)) then L28_3 s g m ((Value.string
 (List.getD (SSta.buses s) (Int.toNat i20) e0), Value.bool true) :: l2) l3 (IntKind.wrap .i64 (i20 + (1 : Int))) else none) else L28_8 s g g l2 l3 ((0 : Int))) := by kernel_rfl
theorem st28_8 (s : SSta) (g m : Nat) (l2 : List (Value × Value)) (l3 : List (Value × Value)) (i33 : Int) : L28_8 s g (m + 1) l2 l3 i33 =
 (bif decide (i33 < (↑(List.length (SSta.lines s)) : Int)) then (bif decide ((0 : Int) ≤ i33) && decide (i33 < (↑(List.length (SSta.lines s)) : Int)) then L28_8 s g m ((Value.string
 (SLine.name (List.getD (SSta.lines s) (Int.toNat i33) Aah)), Value.bool true) :: l2) l3 (IntKind.wrap .i64 (i33 + (1 : Int))) else none) else L28_13 s g g l2 l3 ((0 :
 Int))) := by kernel_rfl
theorem st28_13 (s : SSta) (g m : Nat) (l2 : List (Value × Value)) (l3 : List (Value × Value)) (i47 : Int) : L28_13 s g (m + 1) l2 l3 i47 =
 (bif decide (i47 < (↑(List.length (SSta.srcs s)) : Int)) then (bif decide ((0 : Int) ≤ i47) && decide (i47 < (↑(List.length (SSta.srcs s)) : Int)) then L28_13 s g m ((Value.string
 (SSrc.name (List.getD (SSta.srcs s) (Int.toNat i47) src0)), Value.bool true) :: l2) l3 (IntKind.wrap .i64 (i47 + (1 : Int))) else none) else L28_18 s g g l2 l3 ((0 : Int))) := by kernel_rfl
theorem st28_18 (s : SSta) (g m : Nat) (l1 : List (Value × Value)) (l2 : List (Value × Value)) (i61 : Int) : L28_18 s g (m + 1) l1 l2 i61 =
 (bif decide (i61 < (↑(List.length (SSta.bays s)) : Int)) then (bif decide ((0 : Int) ≤ i61) && decide (i61 < (↑(List.length (SSta.bays s)) : Int)) then L28_18 s g m ((Value.string
 (SBay.name (List.getD (SSta.bays s) (Int.toNat i61) bay0)), Value.bool true) :: l1) l2 (IntKind.wrap .i64 (i61 + (1 : Int))) else none) else some (T.leaf (AV.c (C.ptr ((0 :
 Nat)) (0)), [(0, Blk.cells [C.d (.v (.string (SSta.name s))), C.d (Aac (1) busC e0 (SSta.buses s)), C.d (Aac (5) Aao Aah (SSta.lines
 s)), C.d (Aac (6) Aan src0 (SSta.srcs s)), C.d (Aac (12) bayC bay0 (SSta.bays s)), C.mp (1), C.mp (2)] (136)), (1, Blk.map ((0
 : Nat)) l1), (2, Blk.map (2) l2)]))) := by kernel_rfl
def HC (s : SSta) (N B : List (Value × Value)) : Hp := [(0, .cells ((staC s).map .d ++ [.mp 1, .mp 2]) 136), (1, .map 0 N), (2, .map 2 B)]
noncomputable def ann77 : Ann := annOf []
theorem b77 : Tryz.f76.body = some (Aad Tryz.f76) := by kernel_rfl
theorem ev77 (s : SSta) (N B : List (Value × Value)) (r : SRel) (g : Nat) : Aal Tryz.prog (Orc.cons 110 (inl Tryz.prog Orc.nil na 1 Tryz.f110) Orc.nil) ann77 g Tryz.f76 (Aad Tryz.f76) [.c (.ptr 0 0), aRel r] (HC s N B) =
 (bif SRel.kind r == (1 : Int) then (bif decide (SRel.bay r ≥ (0 : Int)) then (bif !decide (SRel.bay r ≤ IntKind.wrap .i64 ((↑(List.length (SSta.bays s)) : Int) - (1 : Int)))
 then some (T.leaf (AV.c (.d (.v (.int .i64 (9 : Int)))), [(0, Blk.cells [C.d (.v (.string (SSta.name s))), C.d (Aac (1) busC e0 (SSta.buses
 s)), C.d (Aac (5) Aao Aah (SSta.lines s)), C.d (Aac (6) Aan src0 (SSta.srcs s)), C.d (Aac (12) bayC bay0 (SSta.bays s)), C.mp (1), C.mp
 (2)] (136)), (1, Blk.map (0) N), (2, Blk.map (2) B)])) else (bif decide ((0 : Int) ≤ SRel.bay r) && decide (SRel.bay r <
 (↑(List.length (SSta.bays s)) : Int)) then (bif SBay.kind (List.getD (SSta.bays s) (Int.toNat (SRel.bay r)) bay0) != (1 : Int) then some (T.leaf (AV.c (C.d (D.v (Value.int
 IntKind.i64 (9 : Int)))), [(0, Blk.cells [C.d (.v (.string (SSta.name s))), C.d (Aac (1) busC e0 (SSta.buses s)), C.d (Aac (5) Aao Aah
 (SSta.lines s)), C.d (Aac (6) Aan src0 (SSta.srcs s)), C.d (Aac (12) bayC bay0 (SSta.bays s)), C.mp (1), C.mp (2)] (136)), (1,
 Blk.map (0) N), (2, Blk.map (2) B)])) else (bif boolOf (assoc B (Value.int IntKind.i64 (SRel.bay r))) then some (T.leaf (AV.c (C.d (D.v (Value.int
 IntKind.i64 (12 : Int)))), [(0, Blk.cells [C.d (.v (.string (SSta.name s))), C.d (Aac (1) busC e0 (SSta.buses s)), C.d (Aac (5) Aao Aah
 (SSta.lines s)), C.d (Aac (6) Aan src0 (SSta.srcs s)), C.d (Aac (12) bayC bay0 (SSta.bays s)), C.mp (1), C.mp (2)] (136)), (1,
 Blk.map (0) N), (2, Blk.map (2) B)])) else some (T.leaf (AV.c (.d (.v (.int .i64 (0 : Int)))), [(0, Blk.cells [C.d (D.v (Value.string
 (SSta.name s))), C.d (Aac (1) busC e0 (SSta.buses s)), C.d (Aac (5) Aao Aah (SSta.lines s)), C.d (Aac (6) Aan src0 (SSta.srcs s)), C.d (Aac
 (12) bayC bay0 (SSta.bays s)), C.mp (1), C.mp (2)] (136)), (1, Blk.map (0) N), (2, Blk.map (2) B)])))) else none))
 else some (T.leaf (AV.c (.d (.v (.int .i64 (9 : Int)))), [(0, Blk.cells [C.d (.v (.string (SSta.name s))), C.d (Aac (1) busC e0 (SSta.buses
 s)), C.d (Aac (5) Aao Aah (SSta.lines s)), C.d (Aac (6) Aan src0 (SSta.srcs s)), C.d (Aac (12) bayC bay0 (SSta.bays s)), C.mp (1), C.mp
 (2)] (136)), (1, Blk.map (0) N), (2, Blk.map (2) B)]))) else (bif SRel.kind r == (2 : Int) then (bif decide (SRel.bay r ≥ (0 : Int))
 then (bif !decide (SRel.bay r ≤ IntKind.wrap .i64 ((↑(List.length (SSta.bays s)) : Int) - (1 : Int))) then some (T.leaf (AV.c (.d (.v (.int .i64 (9 : Int)))),
 [(0, Blk.cells [C.d (.v (.string (SSta.name s))), C.d (Aac (1) busC e0 (SSta.buses s)), C.d (Aac (5) Aao Aah (SSta.lines s)), C.d (Aac ((6 :
 Nat)) Aan src0 (SSta.srcs s)), C.d (Aac (12) bayC bay0 (SSta.bays s)), C.mp (1), C.mp (2)] (136)), (1, Blk.map (0) N), ((2 :
 Nat), Blk.map (2) B)])) else (bif decide ((0 : Int) ≤ SRel.bay r) && decide (SRel.bay r < (↑(List.length (SSta.bays s)) : Int)) then (bif SBay.kind (List.getD (SSta.bays s)
 (Int.toNat (SRel.bay r)) bay0) != (2 : Int) then some (T.leaf (AV.c (.d (.v (.int .i64 (9 : Int)))), [(0, Blk.cells [C.d (.v (.string (SSta.name s))),
 C.d (Aac (1) busC e0 (SSta.buses s)), C.d (Aac (5) Aao Aah (SSta.lines s)), C.d (Aac (6) Aan src0 (SSta.srcs s)), C.d (Aac (12) bayC
 bay0 (SSta.bays s)), C.mp (1), C.mp (2)] (136)), (1, Blk.map (0) N), (2, Blk.map (2) B)])) else (bif boolOf (assoc B
 (Value.int IntKind.i64 (SRel.bay r))) then some (T.leaf (AV.c (.d (.v (.int .i64 (12 : Int)))), [(0, Blk.cells [C.d (.v (.string (SSta.name s))), C.d
 (Aac (1) busC e0 (SSta.buses s)), C.d (Aac (5) Aao Aah (SSta.lines s)), C.d (Aac (6) Aan src0 (SSta.srcs s)), C.d (Aac (12) bayC bay0
 (SSta.bays s)), C.mp (1), C.mp (2)] (136)), (1, Blk.map (0) N), (2, Blk.map (2) B)])) else some (T.leaf (AV.c (C.d (D.v
 (Value.int IntKind.i64 (0 : Int)))), [(0, Blk.cells [C.d (.v (.string (SSta.name s))), C.d (Aac (1) busC e0 (SSta.buses s)), C.d (Aac (5) Aao
 Aah (SSta.lines s)), C.d (Aac (6) Aan src0 (SSta.srcs s)), C.d (Aac (12) bayC bay0 (SSta.bays s)), C.mp (1), C.mp (2)] (136)), ((1 :
 Nat), Blk.map (0) N), (2, Blk.map (2) B)])))) else none)) else some (T.leaf (AV.c (.d (.v (.int .i64 (9 : Int)))), [(0, Blk.cells [C.d
 (D.v (.string (SSta.name s))), C.d (Aac (1) busC e0 (SSta.buses s)), C.d (Aac (5) Aao Aah (SSta.lines s)), C.d (Aac (6) Aan src0 (SSta.srcs
 s)), C.d (Aac (12) bayC bay0 (SSta.bays s)), C.mp (1), C.mp (2)] (136)), (1, Blk.map (0) N), (2, Blk.map (2) B)])))
 else (bif SRel.kind r == (3 : Int) then (bif decide (SRel.bay r ≥ (0 : Int)) then (bif !decide (SRel.bay r ≤ IntKind.wrap .i64 ((↑(List.length (SSta.bays s)) : Int) - (1 :
 Int))) then some (T.leaf (AV.c (.d (.v (.int .i64 (9 : Int)))), [(0, Blk.cells [C.d (.v (.string (SSta.name s))), C.d (Aac (1) busC e0
 (SSta.buses s)), C.d (Aac (5) Aao Aah (SSta.lines s)), C.d (Aac (6) Aan src0 (SSta.srcs s)), C.d (Aac (12) bayC bay0 (SSta.bays s)), C.mp ((1 :
 Nat)), C.mp (2)] (136)), (1, Blk.map (0) N), (2, Blk.map (2) B)])) else (bif decide ((0 : Int) ≤ SRel.bay r) && decide (SRel.bay r <
 (↑(List.length (SSta.bays s)) : Int)) then (bif SBay.kind (List.getD (SSta.bays s) (Int.toNat (SRel.bay r)) bay0) != (3 : Int) then some (T.leaf (AV.c (C.d (D.v (Value.int
 IntKind.i64 (9 : Int)))), [(0, Blk.cells [C.d (.v (.string (SSta.name s))), C.d (Aac (1) busC e0 (SSta.buses s)), C.d (Aac (5) Aao Aah
 (SSta.lines s)), C.d (Aac (6) Aan src0 (SSta.srcs s)), C.d (Aac (12) bayC bay0 (SSta.bays s)), C.mp (1), C.mp (2)] (136)), (1,
 Blk.map (0) N), (2, Blk.map (2) B)])) else (bif boolOf (assoc B (Value.int IntKind.i64 (SRel.bay r))) then some (T.leaf (AV.c (C.d (D.v (Value.int
 IntKind.i64 (12 : Int)))), [(0, Blk.cells [C.d (.v (.string (SSta.name s))), C.d (Aac (1) busC e0 (SSta.buses s)), C.d (Aac (5) Aao Aah
 (SSta.lines s)), C.d (Aac (6) Aan src0 (SSta.srcs s)), C.d (Aac (12) bayC bay0 (SSta.bays s)), C.mp (1), C.mp (2)] (136)), (1,
 Blk.map (0) N), (2, Blk.map (2) B)])) else some (T.leaf (AV.c (.d (.v (.int .i64 (0 : Int)))), [(0, Blk.cells [C.d (D.v (Value.string
 (SSta.name s))), C.d (Aac (1) busC e0 (SSta.buses s)), C.d (Aac (5) Aao Aah (SSta.lines s)), C.d (Aac (6) Aan src0 (SSta.srcs s)), C.d (Aac
 (12) bayC bay0 (SSta.bays s)), C.mp (1), C.mp (2)] (136)), (1, Blk.map (0) N), (2, Blk.map (2) B)])))) else none))
 else some (T.leaf (AV.c (.d (.v (.int .i64 (9 : Int)))), [(0, Blk.cells [C.d (.v (.string (SSta.name s))), C.d (Aac (1) busC e0 (SSta.buses
 s)), C.d (Aac (5) Aao Aah (SSta.lines s)), C.d (Aac (6) Aan src0 (SSta.srcs s)), C.d (Aac (12) bayC bay0 (SSta.bays s)), C.mp (1), C.mp
 (2)] (136)), (1, Blk.map (0) N), (2, Blk.map (2) B)]))) else (bif SRel.kind r == (4 : Int) then (bif SRel.bay r != (-1 : Int) then
 some (T.leaf (AV.c (.d (.v (.int .i64 (9 : Int)))), [(0, Blk.cells [C.d (.v (.string (SSta.name s))), C.d (Aac (1) busC e0 (SSta.buses s)), C.d
 (Aac (5) Aao Aah (SSta.lines s)), C.d (Aac (6) Aan src0 (SSta.srcs s)), C.d (Aac (12) bayC bay0 (SSta.bays s)), C.mp (1), C.mp ((2 :
 Nat))] (136)), (1, Blk.map (0) N), (2, Blk.map (2) B)])) else (bif boolOf (assoc B (Value.int IntKind.i64 (SRel.bay r))) then some (T.leaf
 (AV.c (.d (.v (.int .i64 (12 : Int)))), [(0, Blk.cells [C.d (.v (.string (SSta.name s))), C.d (Aac (1) busC e0 (SSta.buses s)), C.d (Aac ((5
 : Nat)) Aao Aah (SSta.lines s)), C.d (Aac (6) Aan src0 (SSta.srcs s)), C.d (Aac (12) bayC bay0 (SSta.bays s)), C.mp (1), C.mp (2)] ((136 :
 Nat))), (1, Blk.map (0) N), (2, Blk.map (2) B)])) else some (T.leaf (AV.c (.d (.v (.int .i64 (0 : Int)))), [(0, Blk.cells [C.d
 (D.v (.string (SSta.name s))), C.d (Aac (1) busC e0 (SSta.buses s)), C.d (Aac (5) Aao Aah (SSta.lines s)), C.d (Aac (6) Aan src0 (SSta.srcs
 s)), C.d (Aac (12) bayC bay0 (SSta.bays s)), C.mp (1), C.mp (2)] (136)), (1, Blk.map (0) N), (2, Blk.map (2)
 B)])))) else some (T.leaf (AV.c (.d (.v (.int .i64 (10 : Int)))), [(0, Blk.cells [C.d (.v (.string (SSta.name s))), C.d (Aac (1) busC e0
 (SSta.buses s)), C.d (Aac (5) Aao Aah (SSta.lines s)), C.d (Aac (6) Aan src0 (SSta.srcs s)), C.d (Aac (12) bayC bay0 (SSta.bays s)), C.mp ((1 :
 Nat)), C.mp (2)] (136)), (1, Blk.map (0) N), (2, Blk.map (2) B)])))))) := by kernel_rfl
structure K32 where
  okr : List AV → Bool
  us : List AV → Bool
  di : List AV → Bool
  sc : List AV → Bool
  el : List AV → Bool
  ot : List AV → Bool
  zo : List AV → Bool
  ct : List AV → Bool
  ls : List AV → Int
  okp : List AV → Hp → Bool
  pl : List AV → Hp → Int
noncomputable def o32 (Z : K32) (s : SSta) (N B : List (Value × Value)) : Orc := oN Aae (Orc.cons 76 (ansM Z.okp (fun x H => vI (Z.pl x H)) fun _ _ => HC s N B) (Orc.cons 77 (ansG Z.okr fun x => vB (Z.us x)) (Orc.cons 78 (ansG Z.okr fun x => vB (Z.di x)) (Orc.cons 79 (ansG Z.okr fun x => vB (Z.sc x)) (Orc.cons 80 (ansG Z.okr fun x => vB (Z.el x))
  (Orc.cons 81 (ansG Z.okr fun x => vB (Z.ot x)) (Orc.cons 82 (ansG Z.okr fun x => vB (Z.zo x)) (Orc.cons 83 (ansG Z.okr fun x => vB (Z.ct x)) (Orc.cons 84 (ansG Z.okr fun x => vI (Z.ls x)) Orc.nil)))))))))
noncomputable def ann32 : Ann := annOf []
theorem b32 : Tryz.f30.body = some (Aad Tryz.f30) := by kernel_rfl
theorem ev32 (Z : K32) (s : SSta) (N B : List (Value × Value)) (r : SRel) (g : Nat) : Aal Tryz.prog (o32 Z s N B) ann32 g Tryz.f30 (Aad Tryz.f30) [.c (.ptr 0 0), aRel r] (HC s N B) =
 (bif !Aae (SRel.name r) then some (T.leaf (AV.c (.d (.v (.int .i64 (7 : Int)))), [(0, Blk.cells [C.d (.v (.string (SSta.name s))), C.d (Aac ((1 :
 Nat)) busC e0 (SSta.buses s)), C.d (Aac (5) Aao Aah (SSta.lines s)), C.d (Aac (6) Aan src0 (SSta.srcs s)), C.d (Aac (12) bayC bay0 (SSta.bays
 s)), C.mp (1), C.mp (2)] (136)), (1, Blk.map (0) N), (2, Blk.map (2) B)])) else (bif boolOf (assoc N (Value.string (SRel.name
 r))) then some (T.leaf (AV.c (.d (.v (.int .i64 (8 : Int)))), [(0, Blk.cells [C.d (.v (.string (SSta.name s))), C.d (Aac (1) busC e0
 (SSta.buses s)), C.d (Aac (5) Aao Aah (SSta.lines s)), C.d (Aac (6) Aan src0 (SSta.srcs s)), C.d (Aac (12) bayC bay0 (SSta.bays s)), C.mp ((1 :
 Nat)), C.mp (2)] (136)), (1, Blk.map (0) N), (2, Blk.map (2) B)])) else (bif K32.okp Z [AV.c (C.ptr (0) (0)), AV.agg
 (List.map C.d (relC r))] [(0, Blk.cells [C.d (.v (.string (SSta.name s))), C.d (Aac (1) busC e0 (SSta.buses s)), C.d (Aac (5) Aao Aah
 (SSta.lines s)), C.d (Aac (6) Aan src0 (SSta.srcs s)), C.d (Aac (12) bayC bay0 (SSta.bays s)), C.mp (1), C.mp (2)] (136)), (1,
 Blk.map (0) N), (2, Blk.map (2) B)] then (bif K32.pl Z [AV.c (C.ptr (0) (0)), AV.agg (List.map C.d (relC r))] [(0, Blk.cells [C.d
 (D.v (.string (SSta.name s))), C.d (Aac (1) busC e0 (SSta.buses s)), C.d (Aac (5) Aao Aah (SSta.lines s)), C.d (Aac (6) Aan src0 (SSta.srcs
 s)), C.d (Aac (12) bayC bay0 (SSta.bays s)), C.mp (1), C.mp (2)] (136)), (1, Blk.map (0) N), (2, Blk.map (2) B)] !=
 (0 : Int) then some (T.leaf (AV.c (.d (.v (.int .i64 (K32.pl Z [AV.c (C.ptr (0) (0)), AV.agg (List.map C.d (relC r))] [(0, Blk.cells [C.d (D.v
 (Value.string (SSta.name s))), C.d (Aac (1) busC e0 (SSta.buses s)), C.d (Aac (5) Aao Aah (SSta.lines s)), C.d (Aac (6) Aan src0 (SSta.srcs s)),
 C.d (Aac (12) bayC bay0 (SSta.bays s)), C.mp (1), C.mp (2)] (136)), (1, Blk.map (0) N), (2, Blk.map (2) B)])))),
 [(0, Blk.cells [C.d (.v (.string (SSta.name s))), C.d (Aac (1) busC e0 (SSta.buses s)), C.d (Aac (5) Aao Aah (SSta.lines s)), C.d (Aac ((6 :
 Nat)) Aan src0 (SSta.srcs s)), C.d (Aac (12) bayC bay0 (SSta.bays s)), C.mp (1), C.mp (2)] (136)), (1, Blk.map (0) N), ((2 :
 Nat), Blk.map (2) B)])) else (bif K32.okr Z [AV.agg (List.map C.d (relC r))] then (bif !K32.us Z [AV.agg (List.map C.d (relC r))] then some (T.leaf (AV.c (C.d (D.v
 (Value.int IntKind.i64 (12 : Int)))), [(0, Blk.cells [C.d (.v (.string (SSta.name s))), C.d (Aac (1) busC e0 (SSta.buses s)), C.d (Aac (5) Aao
 Aah (SSta.lines s)), C.d (Aac (6) Aan src0 (SSta.srcs s)), C.d (Aac (12) bayC bay0 (SSta.bays s)), C.mp (1), C.mp (2)] (136)), ((1 :
 Nat), Blk.map (0) N), (2, Blk.map (2) B)])) else (bif K32.okr Z [AV.agg (List.map C.d (relC r))] then (bif !K32.di Z [AV.agg (List.map C.d (relC r))] then
 some (T.leaf (AV.c (.d (.v (.int .i64 (2 : Int)))), [(0, Blk.cells [C.d (.v (.string (SSta.name s))), C.d (Aac (1) busC e0 (SSta.buses s)), C.d
 (Aac (5) Aao Aah (SSta.lines s)), C.d (Aac (6) Aan src0 (SSta.srcs s)), C.d (Aac (12) bayC bay0 (SSta.bays s)), C.mp (1), C.mp ((2 :
 Nat))] (136)), (1, Blk.map (0) N), (2, Blk.map (2) B)])) else (bif K32.okr Z [AV.agg (List.map C.d (relC r))] then (bif !K32.sc Z [AV.agg
 (List.map C.d (relC r))] then some (T.leaf (AV.c (.d (.v (.int .i64 (2 : Int)))), [(0, Blk.cells [C.d (.v (.string (SSta.name s))), C.d (Aac ((1 :
 Nat)) busC e0 (SSta.buses s)), C.d (Aac (5) Aao Aah (SSta.lines s)), C.d (Aac (6) Aan src0 (SSta.srcs s)), C.d (Aac (12) bayC bay0 (SSta.bays
 s)), C.mp (1), C.mp (2)] (136)), (1, Blk.map (0) N), (2, Blk.map (2) B)])) else (bif K32.okr Z [AV.agg (List.map C.d (relC
 r))] then (bif !K32.el Z [AV.agg (List.map C.d (relC r))] then some (T.leaf (AV.c (.d (.v (.int .i64 (2 : Int)))), [(0, Blk.cells [C.d (D.v (Value.string
 (SSta.name s))), C.d (Aac (1) busC e0 (SSta.buses s)), C.d (Aac (5) Aao Aah (SSta.lines s)), C.d (Aac (6) Aan src0 (SSta.srcs s)), C.d (Aac
 (12) bayC bay0 (SSta.bays s)), C.mp (1), C.mp (2)] (136)), (1, Blk.map (0) N), (2, Blk.map (2) B)])) else (bif
 K32.okr Z [AV.agg (List.map C.d (relC r))] then (bif !K32.ot Z [AV.agg (List.map C.d (relC r))] then some (T.leaf (AV.c (.d (.v (.int .i64 (2 : Int)))), [(0,
 Blk.cells [C.d (.v (.string (SSta.name s))), C.d (Aac (1) busC e0 (SSta.buses s)), C.d (Aac (5) Aao Aah (SSta.lines s)), C.d (Aac (6) Aan
 src0 (SSta.srcs s)), C.d (Aac (12) bayC bay0 (SSta.bays s)), C.mp (1), C.mp (2)] (136)), (1, Blk.map (0) N), (2, Blk.map
 (2) B)])) else (bif K32.okr Z [AV.agg (List.map C.d (relC r))] then (bif !K32.zo Z [AV.agg (List.map C.d (relC r))] then some (T.leaf (AV.c (C.d (D.v (Value.int IntKind.i64
 (11 : Int)))), [(0, Blk.cells [C.d (.v (.string (SSta.name s))), C.d (Aac (1) busC e0 (SSta.buses s)), C.d (Aac (5) Aao Aah (SSta.lines s)),
 C.d (Aac (6) Aan src0 (SSta.srcs s)), C.d (Aac (12) bayC bay0 (SSta.bays s)), C.mp (1), C.mp (2)] (136)), (1, Blk.map ((0 :
 Nat)) N), (2, Blk.map (2) B)])) else (bif K32.okr Z [AV.agg (List.map C.d (relC r))] then (bif !K32.ct Z [AV.agg (List.map C.d (relC r))] then some (T.leaf (AV.c
 (C.d (.v (.int .i64 (3 : Int)))), [(0, Blk.cells [C.d (.v (.string (SSta.name s))), C.d (Aac (1) busC e0 (SSta.buses s)), C.d (Aac (5)
 Aao Aah (SSta.lines s)), C.d (Aac (6) Aan src0 (SSta.srcs s)), C.d (Aac (12) bayC bay0 (SSta.bays s)), C.mp (1), C.mp (2)] (136)),
 (1, Blk.map (0) N), (2, Blk.map (2) B)])) else (bif K32.okr Z [AV.agg (List.map C.d (relC r))] then (bif K32.ls Z [AV.agg (List.map C.d (relC r))] !=
 (0 : Int) then some (T.leaf (AV.c (.d (.v (.int .i64 (K32.ls Z [AV.agg (List.map C.d (relC r))])))), [(0, Blk.cells [C.d (.v (.string (SSta.name s))),
 C.d (Aac (1) busC e0 (SSta.buses s)), C.d (Aac (5) Aao Aah (SSta.lines s)), C.d (Aac (6) Aan src0 (SSta.srcs s)), C.d (Aac (12) bayC
 bay0 (SSta.bays s)), C.mp (1), C.mp (2)] (136)), (1, Blk.map (0) N), (2, Blk.map (2) B)])) else some (T.leaf (AV.c (C.d (D.v
 (Value.int IntKind.i64 (0 : Int)))), [(0, Blk.cells [C.d (.v (.string (SSta.name s))), C.d (Aac (1) busC e0 (SSta.buses s)), C.d (Aac (5) Aao
 Aah (SSta.lines s)), C.d (Aac (6) Aan src0 (SSta.srcs s)), C.d (Aac (12) bayC bay0 (SSta.bays s)), C.mp (1), C.mp (2)] (136)), ((1 :
 Nat), Blk.map (0) ((Value.string (SRel.name r), Value.bool true) :: N)), (2, Blk.map (2) ((Value.int IntKind.i64 (SRel.bay r), Value.bool true) :: B))])))
 else none)) else none)) else none)) else none)) else none)) else none)) else none)) else none)) else none))) := by kernel_rfl
end Go.Proofs.YtmnfibmlhmeheaaGreatDoor.se
namespace Go.Proofs.YtmnfibmlhmeheaaGreatDoor.se
open Go.RowKit Go.Eb Go.Proofs.YtmnfibmlhmeheaaGreatDoor.st
theorem c28 (s : SSta) (hs : okSta s = true) : CX Tryz.prog 26 [aSta s] [] (.c (.ptr 0 0)) (HC s (Aak (namesS s)) []) := by
  obtain ⟨a1, a2, a3, a4, _⟩ := okSta_len hs
  obtain ⟨g, g1, g2, g3, g4⟩ : ∃ g, s.buses.length < g ∧ s.lines.length < g ∧ s.srcs.length < g ∧ s.bays.length < g := ⟨s.buses.length + s.lines.length + s.srcs.length + s.bays.length + 1, by omega⟩
  refine cx_of (Orc.nil_ok _) Tryz.func26 b28 rfl ((ev28 s g).trans ?_)
  have l4 := fun N => name_loop (nm := SBay.name) (d0 := bay0) (l := s.bays) (L := fun m mp i => L28_18 s g m mp [] i) (NX := fun mp => some (.leaf (.c (.ptr 0 0), HC s mp []))) (fun m k N hk => by
    rw [st28_18, lt1 hk, ge0, tn, nx hk a4, mapOf_app]; simp only [tt, cond_true]) (fun m mp => by rw [st28_18, lt0 (Nat.lt_irrefl _)]; rfl) g 0 N (by omega) (by omega)
  have l3 := fun N => name_loop (nm := SSrc.name) (d0 := src0) (l := s.srcs) (L := fun m mp i => L28_13 s g m mp [] i) (NX := fun mp => L28_18 s g g mp [] 0) (fun m k N hk => by
    rw [st28_13, lt1 hk, ge0, tn, nx hk a3, mapOf_app]; simp only [tt, cond_true]) (fun m mp => by rw [st28_13, lt0 (Nat.lt_irrefl _)]; simp only [cond_false]) g 0 N (by omega) (by omega)
  have l2 := fun N => name_loop (nm := SLine.name) (d0 := Aah) (l := s.lines) (L := fun m mp i => L28_8 s g m mp [] i) (NX := fun mp => L28_13 s g g mp [] 0) (fun m k N hk => by
    rw [st28_8, lt1 hk, ge0, tn, nx hk a2, mapOf_app]; simp only [tt, cond_true]) (fun m mp => by rw [st28_8, lt0 (Nat.lt_irrefl _)]; simp only [cond_false]) g 0 N (by omega) (by omega)
  have l1 := fun N => name_loop (nm := id) (d0 := e0) (l := s.buses) (L := fun m mp i => L28_3 s g m mp [] i) (NX := fun mp => L28_8 s g g mp [] 0) (fun m k N hk => by
    rw [st28_3, lt1 hk, ge0, tn, nx hk a1, mapOf_app]; simp only [tt, cond_true, id]) (fun m mp => by rw [st28_3, lt0 (Nat.lt_irrefl _)]; simp only [cond_false]) g 0 N (by omega) (by omega)
  have e := l1 []
  simp only [List.drop_zero, List.map_id, List.nil_append] at e l2 l3 l4
  have e' : L28_3 s g g [] [] 0 = L28_8 s g g (Aak s.buses) [] 0 := e
  have f2 : L28_8 s g g (Aak s.buses) [] 0 = L28_13 s g g (Aak (s.buses ++ s.lines.map SLine.name)) [] 0 := l2 s.buses
  have f3 := l3 (s.buses ++ s.lines.map SLine.name)
  have f4 := l4 (s.buses ++ s.lines.map SLine.name ++ s.srcs.map SSrc.name)
  refine e'.trans (f2.trans (Eq.trans f3 (Eq.trans f4 ?_)))
  unfold namesS
  simp only [List.append_assoc]
def seenB (B : List Int) (n : Int) : Int := bif B.any fun m => n == m then 12 else 0
def placeK (bays : List SBay) (B : List Int) (r : SRel) (k : Int) : Int := bif !Aaa r.bay 0 ((bays.length : Int) - 1) then 9 else bif (bays.getD r.bay.toNat bay0).kind != k then 9 else seenB B r.bay
def placeErr (bays : List SBay) (B : List Int) (r : SRel) : Int :=
  bif r.kind == 1 then placeK bays B r 1 else bif r.kind == 2 then placeK bays B r 2 else bif r.kind == 3 then placeK bays B r 3 else bif r.kind == 4 then (bif r.bay != -1 then 9 else seenB B r.bay) else 10
theorem place_k {β : Type} (X : Int → Option β) (n len : Int) (kb sn : Bool) : (bif decide (n ≥ 0) then (bif !decide (n ≤ len - 1) then X 9 else (bif decide (0 ≤ n) && decide (n < len) then (bif kb then X 9 else (bif sn then X 12 else X 0)) else none)) else X 9) = X (bif !Aaa n 0 (len - 1) then 9 else bif kb then 9 else bif sn then 12 else 0) := by
  unfold Aaa
  by_cases h1 : n ≥ 0
  · by_cases h2 : n ≤ len - 1
    · have h3 : n < len := by omega
      have h4 : (0 : Int) ≤ n := h1
      simp only [h2, h3, h4, ge_iff_le, decide_true, Bool.not_true, Bool.and_self, cond_true, cond_false]
      cases kb <;> cases sn <;> rfl
    · have h4 : (0 : Int) ≤ n := h1
      simp only [h2, h4, ge_iff_le, decide_true, decide_false, Bool.not_false, Bool.and_false, cond_true]
  · have h4 : ¬ (0 : Int) ≤ n := h1
    simp only [h4, ge_iff_le, decide_false, Bool.not_false, Bool.false_and, cond_true, cond_false]
theorem c77 (s : SSta) (N : List (Value × Value)) (B : List Int) (r : SRel) (hb : s.bays.length ≤ 9223372036854775807) : CX Tryz.prog 76 [.c (.ptr 0 0), aRel r] (HC s N (mapIn B)) (vI (placeErr s.bays B r)) (HC s N (mapIn B)) := by
  refine cx_of sWi.ok Tryz.func76 b77 rfl ((ev77 s N (mapIn B) r 1).trans ?_)
  have w : IntKind.wrap IntKind.i64 ((s.bays.length : Int) - 1) = (s.bays.length : Int) - 1 := wrap_id (by omega) (by omega)
  rw [w, assoc_mapIn]
  have key : ∀ (kb sn : Bool), _ := fun kb sn => place_k (fun n => some (T.leaf (vI n, HC s N (mapIn B)))) r.bay s.bays.length kb sn
  unfold placeErr
  cases (r.kind == 1) with
  | true => exact key _ _
  | false =>
    cases (r.kind == 2) with
    | true => exact key _ _
    | false =>
      cases (r.kind == 3) with
      | true => exact key _ _
      | false =>
        cases (r.kind == 4) with
        | false => rfl
        | true =>
          unfold seenB
          cases (r.bay != -1) with
          | true => rfl
          | false => cases (B.any fun m => r.bay == m) <;> rfl
noncomputable def restErr (r : SRel) : Int := bif !ev78_v r then 12 else bif !ev79_v r then 2 else bif !ev80_v r then 2 else bif !ev81_v r then 2 else bif !ev82_v r then 2 else bif !ev83_v r then 11 else bif !countsOk r then 3 else eLists r
noncomputable def addErr (bays : List SBay) (N : List ByteArray) (B : List Int) (r : SRel) : Int := bif !Aae r.name then 7 else bif inB N r.name then 8 else bif placeErr bays B r != 0 then placeErr bays B r else restErr r
def eP (s : SSta) (a : List ByteArray × List Int × SRel) : List AV × Hp := ([.c (.ptr 0 0), aRel a.2.2], HC s (Aak a.1) (mapIn a.2.1))
theorem eP_inj (s : SSta) : InjY (eP s) := fun a b h1 h2 => by
  obtain ⟨n, i, r⟩ := a
  obtain ⟨n', i', r'⟩ := b
  have e1 : r = r' := aRel_inj _ _ (asle_cons (asle_cons h1).2).1
  have e2 := mapOf_inj (ble_map (hle_look h2 1 (a := .map 0 (Aak n)) (b := .map 0 (Aak n')) rfl rfl))
  have e3 := mapIn_inj (ble_map (hle_look h2 2 (a := .map 2 (mapIn i)) (b := .map 2 (mapIn i')) rfl rfl))
  rw [e1, e2, e3]
def eQ (s : SSta) (n : List ByteArray) (b : List Int) (r : SRel) : List AV × Hp := ([.c (.ptr 0 0), aRel r], HC s (Aak n) (mapIn b))
theorem eQ_inj (s : SSta) (n : List ByteArray) (b : List Int) : InjY (eQ s n b) := fun x y h1 _ => aRel_inj _ _ (asle_cons (asle_cons h1).2).1
abbrev eR := en1 aRel
theorem eR_inj : InjT eR := en1_inj aRel_inj
noncomputable def Z32 (s : SSta) (n : List ByteArray) (b : List Int) : K32 where
  okr := okG eR okRel
  us x := ev78_v (theT eR x)
  di x := ev79_v (theT eR x)
  sc x := ev80_v (theT eR x)
  el x := ev81_v (theT eR x)
  ot x := ev82_v (theT eR x)
  zo x := ev83_v (theT eR x)
  ct x := countsOk (theT eR x)
  ls x := eLists (theT eR x)
  okp := okZ (eQ s n b) fun _ => true
  pl x H := placeErr s.bays b (theY (eQ s n b) x H)
theorem s32 (s : SSta) (n : List ByteArray) (b : List Int) (hb : s.bays.length ≤ 9223372036854775807) : OrcS Tryz.prog (o32 (Z32 s n b) s (Aak n) (mapIn b)) := by
  refine sN (.cons (.m (enc := eQ s n b) (c := fun _ => true) (r := fun r => vI (placeErr s.bays b r)) (H' := fun _ => HC s (Aak n) (mapIn b)) fun r _ => c77 s (Aak n) b r hb) ?_)
  exact .cons (.t' (r := fun a => vB (ev78_v a)) fun a _ => c78 a) (.cons (.t' (r := fun a => vB (ev79_v a)) fun a _ => c79 a) (.cons (.t' (r := fun a => vB (ev80_v a)) fun a _ => c80 a) (.cons (.t' (r := fun a => vB (ev81_v a)) fun a _ => c81 a)
    (.cons (.t' (r := fun a => vB (ev82_v a)) fun a _ => c82 a) (.cons (.t' (r := fun a => vB (ev83_v a)) fun a _ => c83 a) (.cons (.t' (r := fun a => vB (countsOk a)) fun a h => c84 a h) (.cons (.t' (r := fun a => vI (eLists a)) fun a h => c85 a h) .nil)))))))
noncomputable def addN (bays : List SBay) (N : List ByteArray) (B : List Int) (r : SRel) : List ByteArray := bif addErr bays N B r != 0 then N else N ++ [r.name]
noncomputable def addB (bays : List SBay) (N : List ByteArray) (B : List Int) (r : SRel) : List Int := bif addErr bays N B r != 0 then B else B ++ [r.bay]
theorem c32 (s : SSta) (N : List ByteArray) (B : List Int) (r : SRel) (hs : s.bays.length ≤ 9223372036854775807) (hr : okRel r = true) :
    CX Tryz.prog 30 [.c (.ptr 0 0), aRel r] (HC s (Aak N) (mapIn B)) (vI (addErr s.bays N B r)) (HC s (Aak (addN s.bays N B r)) (mapIn (addB s.bays N B r))) := by
  refine cx_of (s32 s N B hs).ok Tryz.func30 b32 rfl ((ev32 (Z32 s N B) s (Aak N) (mapIn B) r 1).trans ?_)
  have k1 : (Z32 s N B).okp [.c (.ptr 0 0), aRel r] (HC s (Aak N) (mapIn B)) = true := okZ_enc (eQ_inj s N B) (c := fun _ => true) r rfl
  have k2 : (Z32 s N B).pl [.c (.ptr 0 0), aRel r] (HC s (Aak N) (mapIn B)) = placeErr s.bays B r := congrArg (placeErr s.bays B) (theY_enc (eQ_inj s N B) r)
  have k3 : (Z32 s N B).okr [aRel r] = true := okG_enc eR_inj (c := okRel) r hr
  have t := theT_enc eR_inj r
  have k4 : (Z32 s N B).us [aRel r] = ev78_v r := congrArg ev78_v t
  have k5 : (Z32 s N B).di [aRel r] = ev79_v r := congrArg ev79_v t
  have k6 : (Z32 s N B).sc [aRel r] = ev80_v r := congrArg ev80_v t
  have k7 : (Z32 s N B).el [aRel r] = ev81_v r := congrArg ev81_v t
  have k8 : (Z32 s N B).ot [aRel r] = ev82_v r := congrArg ev82_v t
  have k9 : (Z32 s N B).zo [aRel r] = ev83_v r := congrArg ev83_v t
  have k10 : (Z32 s N B).ct [aRel r] = countsOk r := congrArg countsOk t
  have k11 : (Z32 s N B).ls [aRel r] = eLists r := congrArg eLists t
  unfold HC at k1 k2
  simp only [staC, List.map_cons, List.map_nil, List.cons_append, List.nil_append] at k1 k2
  rw [k1, k2, k3, k4, k5, k6, k7, k8, k9, k10, k11, assocN]
  unfold addN addB
  unfold addErr
  cases Aae r.name with
  | false => rfl
  | true =>
    cases inB N r.name with
    | true => rfl
    | false =>
      cases hp : (placeErr s.bays B r != 0) with
      | true => simp only [Bool.not_true, cond_false, cond_true, hp]; rfl
      | false =>
        unfold restErr
        cases ev78_v r with
        | false => rfl
        | true =>
          cases ev79_v r with
          | false => rfl
          | true =>
            cases ev80_v r with
            | false => rfl
            | true =>
              cases ev81_v r with
              | false => rfl
              | true =>
                cases ev82_v r with
                | false => rfl
                | true =>
                  cases ev83_v r with
                  | false => rfl
                  | true =>
                    cases countsOk r with
                    | false => rfl
                    | true =>
                      cases hl : (eLists r != 0) with
                      | true => simp only [Bool.not_true, cond_false, cond_true, hl]; rfl
                      | false =>
                        have e0 : eLists r = 0 := by simpa using hl
                        have z0 : ((0 : Int) != 0) = false := rfl
                        simp only [Bool.not_true, cond_false, cond_true, e0, z0, mapOf_app, mapIn_app]; rfl
end Go.Proofs.YtmnfibmlhmeheaaGreatDoor.se
namespace Go.Proofs.YtmnfibmlhmeheaaGreatDoor.se
open Go.RowKit Go.Eb Go.Proofs.YtmnfibmlhmeheaaGreatDoor.st
structure K13 where
  okS : List AV → Bool
  chk : List AV → Int
  okn : List AV → Hp → Bool
  n0 : List (Value × Value)
  oka : List AV → Hp → Bool
  ad : List AV → Hp → Int
  an : List AV → Hp → List (Value × Value)
  ab : List AV → Hp → List (Value × Value)
noncomputable def o13c (Z : K13) (s : SSta) : Orc := Orc.cons 24 (ansG Z.okS fun x => vI (Z.chk x)) (Orc.cons 26 (ansM Z.okn (fun _ _ => .c (.ptr 0 0)) fun _ _ => HC s Z.n0 []) (Orc.cons 30 (ansM Z.oka (fun x H => vI (Z.ad x H)) fun x H => HC s (Z.an x H) (Z.ab x H)) Orc.nil))
noncomputable def ann13c : Ann := annOf [(5, ⟨[6, 15, 16, 17], []⟩)]
noncomputable def L13c_5 (Z : K13) (s : SSta) (l : List SRel) (g m : Nat) (l1 : List (Value × Value)) (l2 : List (Value × Value)) (i17 : Int) := LK Tryz.prog (o13c Z s) ann13c 0 g Tryz.f14 5 m ⟨frm [(6, .c (.ptr 0 0)), (15, .c (.d (Aac 53 relC rel0 l))), (16, .c (.d (.v (.int .i64 (↑(List.length l) : Int))))), (17, .c (.d (.v (.int .i64 i17))))] 0 Tryz.f14.ntmps, [(0, Blk.cells [.d (.v (.string (SSta.name s))), C.d (Aac 1 busC e0 (SSta.buses s)), C.d (Aac 5 Aao Aah (SSta.lines s)), C.d (Aac 6 Aan src0 (SSta.srcs s)), C.d (Aac 12 bayC bay0 (SSta.bays s)), C.mp 1, C.mp 2] 136), (1, Blk.map 0 l1), (2, Blk.map 2 l2)], 3⟩
theorem b13c : Tryz.f14.body = some (Aad Tryz.f14) := by kernel_rfl
theorem ev13c (Z : K13) (s : SSta) (l : List SRel) (g : Nat) : Aal Tryz.prog (o13c Z s) ann13c g Tryz.f14 (Aad Tryz.f14) [aSta s, .c (.d (relsD l))] [] =
 (bif K13.okS Z [AV.agg (List.map C.d (staC s))] then (bif K13.chk Z [AV.agg (List.map C.d (staC s))] != (0 : Int) then some (T.leaf (AV.tup [(false, [C.d (D.v (Value.int IntKind.i64
 (0 : Int)))]), (false, [C.d (.v (.int .i64 (1 : Int)))])], [])) else (bif K13.okn Z [AV.agg (List.map C.d (staC s))] [] then L13c_5 Z s l g g (K13.n0 Z) ([]) ((0 :
 Int)) else none)) else none) := by kernel_rfl
theorem st13c_5 (Z : K13) (s : SSta) (l : List SRel) (g m : Nat) (l1 : List (Value × Value)) (l2 : List (Value × Value)) (i17 : Int) : L13c_5 Z s l g (m + 1) l1 l2 i17 =
 (bif decide (i17 < (↑(List.length l) : Int)) then (bif decide ((0 : Int) ≤ i17) && decide (i17 < (↑(List.length l) : Int)) then (bif K13.oka Z [AV.c (C.ptr (0) (0)),
 AV.agg (List.map C.d (relC (List.getD l (Int.toNat i17) rel0)))] [(0, Blk.cells [C.d (.v (.string (SSta.name s))), C.d (Aac (1) busC e0 (SSta.buses s)), C.d
 (Aac (5) Aao Aah (SSta.lines s)), C.d (Aac (6) Aan src0 (SSta.srcs s)), C.d (Aac (12) bayC bay0 (SSta.bays s)), C.mp (1), C.mp ((2 :
 Nat))] (136)), (1, Blk.map (0) l1), (2, Blk.map (2) l2)] then (bif K13.ad Z [AV.c (C.ptr (0) (0)), AV.agg (List.map C.d (relC
 (List.getD l (Int.toNat i17) rel0)))] [(0, Blk.cells [C.d (.v (.string (SSta.name s))), C.d (Aac (1) busC e0 (SSta.buses s)), C.d (Aac (5) Aao
 Aah (SSta.lines s)), C.d (Aac (6) Aan src0 (SSta.srcs s)), C.d (Aac (12) bayC bay0 (SSta.bays s)), C.mp (1), C.mp (2)] (136)), ((1 :
 Nat), Blk.map (0) l1), (2, Blk.map (2) l2)] != (0 : Int) then some (T.leaf (AV.tup [(false, [C.d (.v (.int .i64 i17))]), (false, [C.d (D.v
 (Value.int IntKind.i64 (K13.ad Z [AV.c (C.ptr (0) (0)), AV.agg (List.map C.d (relC (List.getD l (Int.toNat i17) rel0)))] [(0, Blk.cells [C.d (D.v
 (Value.string (SSta.name s))), C.d (Aac (1) busC e0 (SSta.buses s)), C.d (Aac (5) Aao Aah (SSta.lines s)), C.d (Aac (6) Aan src0 (SSta.srcs s)),
 C.d (Aac (12) bayC bay0 (SSta.bays s)), C.mp (1), C.mp (2)] (136)), (1, Blk.map (0) l1), (2, Blk.map (2)
 l2)])))])], [])) else L13c_5 Z s l g m (K13.an Z [AV.c (C.ptr (0) (0)), AV.agg (List.map C.d (relC (List.getD l (Int.toNat i17) rel0)))] [(0, Blk.cells [C.d
 (D.v (.string (SSta.name s))), C.d (Aac (1) busC e0 (SSta.buses s)), C.d (Aac (5) Aao Aah (SSta.lines s)), C.d (Aac (6) Aan src0 (SSta.srcs
 s)), C.d (Aac (12) bayC bay0 (SSta.bays s)), C.mp (1), C.mp (2)] (136)), (1, Blk.map (0) l1), (2, Blk.map (2) l2)])
 (K13.ab Z [AV.c (C.ptr (0) (0)), AV.agg (List.map C.d (relC (List.getD l (Int.toNat i17) rel0)))] [(0, Blk.cells [C.d (.v (.string (SSta.name s))), C.d
 (Aac (1) busC e0 (SSta.buses s)), C.d (Aac (5) Aao Aah (SSta.lines s)), C.d (Aac (6) Aan src0 (SSta.srcs s)), C.d (Aac (12) bayC bay0
 (SSta.bays s)), C.mp (1), C.mp (2)] (136)), (1, Blk.map (0) l1), (2, Blk.map (2) l2)]) (IntKind.wrap .i64 (i17 + (1 :
 Int)))) else none) else none) else some (T.leaf (AV.tup [(false, [C.d (.v (.int .i64 (0 : Int)))]), (false, [C.d (.v (.int .i64 (0 : Int)))])], []))) := by kernel_rfl
end Go.Proofs.YtmnfibmlhmeheaaGreatDoor.se
namespace Go.Proofs.YtmnfibmlhmeheaaGreatDoor.se
open Go.RowKit Go.Eb Go.Proofs.YtmnfibmlhmeheaaGreatDoor.st
def vII (a b : Int) : AV := .tup [(false, [.d (dI a)]), (false, [.d (dI b)])]
def vP (p : Int × Int) : AV := vII p.1 p.2
noncomputable def chkRels (bays : List SBay) (N : List ByteArray) (B : List Int) (i : Nat) : List SRel → Int × Int
  | [] => (0, 0)
  | r :: t => bif addErr bays N B r != 0 then ((i : Int), addErr bays N B r) else chkRels bays (N ++ [r.name]) (B ++ [r.bay]) (i + 1) t
noncomputable def checkS (s : SSta) (l : List SRel) : Int × Int := bif chkSta s != 0 then (0, 1) else chkRels s.bays (namesS s) [] 0 l
abbrev eSt := en1 aSta
theorem eSt_inj : InjT eSt := en1_inj aSta_inj
def eN1 (s : SSta) (_ : Unit) : List AV × Hp := ([aSta s], [])
theorem eN1_inj (s : SSta) : InjY (eN1 s) := fun _ _ _ _ => rfl
def okA (a : List ByteArray × List Int × SRel) : Bool := okRel a.2.2
noncomputable def Z13 (s : SSta) : K13 where
  okS := okG eSt okSta
  chk x := chkSta (theT eSt x)
  okn := okZ (eN1 s) fun _ => true
  n0 := Aak (namesS s)
  oka := okZ (eP s) okA
  ad x H := addErr s.bays (theY (eP s) x H).1 (theY (eP s) x H).2.1 (theY (eP s) x H).2.2
  an x H := Aak (addN s.bays (theY (eP s) x H).1 (theY (eP s) x H).2.1 (theY (eP s) x H).2.2)
  ab x H := mapIn (addB s.bays (theY (eP s) x H).1 (theY (eP s) x H).2.1 (theY (eP s) x H).2.2)
theorem s13c (s : SSta) (hs : okSta s = true) : OrcS Tryz.prog (o13c (Z13 s) s) :=
  .cons (.t' (r := fun a => vI (chkSta a)) fun a h => c12 a (okSta_len h).2.2.2.2) (.cons (.m (enc := eN1 s) (c := fun _ => true) (r := fun _ => .c (.ptr 0 0)) (H' := fun _ => HC s (Aak (namesS s)) []) fun _ _ => c28 s hs)
    (.cons (.m (enc := eP s) (c := okA) (r := fun a => vI (addErr s.bays a.1 a.2.1 a.2.2)) (H' := fun a => HC s (Aak (addN s.bays a.1 a.2.1 a.2.2)) (mapIn (addB s.bays a.1 a.2.1 a.2.2))) fun a h => c32 s a.1 a.2.1 a.2.2 (okSta_len hs).2.2.2.1 h) .nil))
theorem lp13c (s : SSta) (l : List SRel) (g : Nat) (hl : lenOk l = true) (ha : l.all okRel = true) : ∀ (m k : Nat) (N : List ByteArray) (B : List Int), k ≤ l.length → l.length - k < m → L13c_5 (Z13 s) s l g m (Aak N) (mapIn B) k = some (.leaf (vP (chkRels s.bays N B k (l.drop k)), []))
  | 0, k, _, _, _, h => by omega
  | m + 1, k, N, B, hk, h => by
    rw [st13c_5]
    by_cases hlt : k < l.length
    · have hr : okRel (l.getD k rel0) = true := all_getD ha rfl k
      rw [drop_at' (d := rel0) hlt]
      rw [lt1 hlt, ge0, tn, nx hlt (lenOk_le hl)]
      generalize l.getD k rel0 = r at hr ⊢
      have k1 : (Z13 s).oka [.c (.ptr 0 0), aRel r] (HC s (Aak N) (mapIn B)) = true := okZ_enc (eP_inj s) (c := okA) (N, B, r) hr
      have t : theY (eP s) [.c (.ptr 0 0), aRel r] (HC s (Aak N) (mapIn B)) = (N, B, r) := theY_enc (eP_inj s) (N, B, r)
      have k2 : (Z13 s).ad [.c (.ptr 0 0), aRel r] (HC s (Aak N) (mapIn B)) = addErr s.bays N B r := by dsimp only [Z13]; rw [t]
      have k3 : (Z13 s).an [.c (.ptr 0 0), aRel r] (HC s (Aak N) (mapIn B)) = Aak (addN s.bays N B r) := by dsimp only [Z13]; rw [t]
      have k4 : (Z13 s).ab [.c (.ptr 0 0), aRel r] (HC s (Aak N) (mapIn B)) = mapIn (addB s.bays N B r) := by dsimp only [Z13]; rw [t]
      unfold HC at k1 k2 k3 k4
      simp only [staC, List.map_cons, List.map_nil, List.cons_append, List.nil_append] at k1 k2 k3 k4
      have ih := lp13c s l g hl ha m (k + 1) (N ++ [r.name]) (B ++ [r.bay]) (by omega) (by omega)
      simp only [tt, cond_true]
      refine Eq.trans (congrArg (fun b => cond b _ _) k1) ?_
      simp only [cond_true]
      rw [k2, k3, k4]
      unfold addN addB
      simp only [chkRels]
      cases hz : (addErr s.bays N B r != 0) with
      | true => rfl
      | false => exact ih
    · rw [lt0 hlt, List.drop_of_length_le (by omega)]
      rfl
theorem c13c (s : SSta) (l : List SRel) (hs : okSta s = true) (hl : lenOk l = true) (ha : l.all okRel = true) : CX Tryz.prog 14 [aSta s, .c (.d (relsD l))] [] (vP (checkS s l)) [] := by
  obtain ⟨g, hg⟩ : ∃ g, l.length < g := ⟨l.length + 1, by omega⟩
  refine cx_of (s13c s hs).ok Tryz.func14 b13c rfl ((ev13c (Z13 s) s l g).trans ?_)
  have k1 : (Z13 s).okS [aSta s] = true := okG_enc eSt_inj (c := okSta) s hs
  have k2 : (Z13 s).chk [aSta s] = chkSta s := congrArg chkSta (theT_enc eSt_inj s)
  have k3 : (Z13 s).okn [aSta s] [] = true := okZ_enc (eN1_inj s) (c := fun _ => true) () rfl
  have e : L13c_5 (Z13 s) s l g g (Aak (namesS s)) (mapIn []) ((0 : Nat) : Int) = _ := lp13c s l g hl ha g 0 (namesS s) [] (by omega) (by omega)
  rw [k1, k2, k3]
  unfold checkS
  cases (chkSta s != 0) with
  | true => rfl
  | false => exact e
end Go.Proofs.YtmnfibmlhmeheaaGreatDoor.se
namespace Go.Proofs.YtmnfibmlhmeheaaGreatDoor.se
open Go.RowKit Go.Eb Go.Proofs.YtmnfibmlhmeheaaGreatDoor.st
noncomputable def annlg7 : Ann := annOf [(4, ⟨[1, 3], []⟩), (9, ⟨[1, 4], []⟩)]
noncomputable def Llg7_4 (r : SRel) (g m : Nat) (i3 : Int) := LK Tryz.prog Orc.nil annlg7 0 g Tryz.f13 4 m ⟨frm [(1, .c (.ptr 0 0)), (3, .c (.d (.v (.int .i64 i3))))] 0 Tryz.f13.ntmps, [(0, Blk.cells (List.map C.d (relC r)) 51)], 1⟩
noncomputable def Llg7_9 (r : SRel) (g m : Nat) (i4 : Int) := LK Tryz.prog Orc.nil annlg7 0 g Tryz.f13 9 m ⟨frm [(1, .c (.ptr 0 0)), (4, .c (.d (.v (.int .i64 i4))))] 0 Tryz.f13.ntmps, [(0, Blk.cells (List.map C.d (relC r)) 51)], 1⟩
theorem blg7 : Tryz.f13.body = some (Aad Tryz.f13) := by kernel_rfl
theorem evlg7 (r : SRel) (g : Nat) : Aal Tryz.prog Orc.nil annlg7 g Tryz.f13 (Aad Tryz.f13) [aRel r] [] =
 (bif decide ((↑(List.length (SRel.rules r)) : Int) > (20 : Int)) then some (T.leaf (AV.c (.d (.v (.bool true))), [])) else (bif decide ((↑(List.length (SRel.sets r)) : Int) >
 (8 : Int)) then some (T.leaf (AV.c (.d (.v (.bool true))), [])) else (bif decide ((↑(List.length (SRel.pubs r)) : Int) > (8 : Int)) then some (T.leaf (AV.c (C.d (D.v
 (Value.bool true))), [])) else (bif decide ((↑(List.length (SRel.subs r)) : Int) > (30 : Int)) then some (T.leaf (AV.c (.d (.v (.bool true))), [])) else Llg7_4 r g g ((0 :
 Int)))))) := by kernel_rfl
theorem stlg7_4 (r : SRel) (g m : Nat) (i3 : Int) : Llg7_4 r g (m + 1) i3 =
 (bif decide (i3 < (↑(List.length (SRel.sets r)) : Int)) then (bif decide ((0 : Int) ≤ i3) && decide (i3 < (↑(List.length (SRel.sets r)) : Int)) then (bif decide ((↑(List.length
 (SSet.sigs (List.getD (SRel.sets r) (Int.toNat i3) set0))) : Int) > (30 : Int)) then some (T.leaf (AV.c (.d (.v (.bool true))), [])) else Llg7_4 r g m (IntKind.wrap
 IntKind.i64 (i3 + (1 : Int)))) else none) else Llg7_9 r g g ((0 : Int))) := by kernel_rfl
theorem stlg7_9 (r : SRel) (g m : Nat) (i4 : Int) : Llg7_9 r g (m + 1) i4 =
 (bif decide (i4 < (↑(List.length (SRel.rules r)) : Int)) then (bif decide ((0 : Int) ≤ i4) && decide (i4 < (↑(List.length (SRel.rules r)) : Int)) then (bif decide ((↑(ByteArray.size
 (SRule.text (List.getD (SRel.rules r) (Int.toNat i4) rule0))) : Int) > (200 : Int)) then some (T.leaf (AV.c (.d (.v (.bool true))), [])) else Llg7_9 r g m (IntKind.wrap
 IntKind.i64 (i4 + (1 : Int)))) else none) else some (T.leaf (AV.c (.d (.v (.bool false))), []))) := by kernel_rfl
structure KF where
  okS : List AV → Bool
  lg : List AV → Bool
  chk : List AV → Int
  okr : List AV → Bool
  lr : List AV → Bool
noncomputable def oF (Z : KF) : Orc := Orc.cons 11 (ansG Z.okS fun x => vB (Z.lg x)) (Orc.cons 12 (ansG Z.okS fun x => vI (Z.chk x)) (Orc.cons 13 (ansG Z.okr fun x => vB (Z.lr x)) Orc.nil))
noncomputable def annfin : Ann := annOf [(4, ⟨[1, 5], []⟩)]
noncomputable def Lfin_4 (Z : KF) (s : SSta) (l : List SRel) (g m : Nat) (i5 : Int) := LK Tryz.prog (oF Z) annfin 0 g Tryz.f5 4 m ⟨frm [(1, .c (.d (Aac 53 relC rel0 l))), (5, .c (.d (.v (.int .i64 i5))))] 0 Tryz.f5.ntmps, [], 0⟩
theorem bfin : Tryz.f5.body = some (Aad Tryz.f5) := by kernel_rfl
theorem evfin (Z : KF) (s : SSta) (l : List SRel) (g : Nat) : Aal Tryz.prog (oF Z) annfin g Tryz.f5 (Aad Tryz.f5) [aSta s, .c (.d (relsD l))] [] =
 (bif KF.okS Z [AV.agg (List.map C.d (staC s))] then (bif KF.lg Z [AV.agg (List.map C.d (staC s))] then some (T.leaf (AV.c (.d (.v (.bool false))), [])) else (bif KF.okS Z
 [AV.agg (List.map C.d (staC s))] then (bif KF.chk Z [AV.agg (List.map C.d (staC s))] != (0 : Int) then some (T.leaf (AV.c (.d (.v (.bool false))), [])) else (bif decide
 ((↑(List.length l) : Int) > (20 : Int)) then some (T.leaf (AV.c (.d (.v (.bool false))), [])) else Lfin_4 Z s l g g ((0 : Int)))) else none)) else none) := by kernel_rfl
theorem stfin_4 (Z : KF) (s : SSta) (l : List SRel) (g m : Nat) (i5 : Int) : Lfin_4 Z s l g (m + 1) i5 =
 (bif decide (i5 < (↑(List.length l) : Int)) then (bif decide ((0 : Int) ≤ i5) && decide (i5 < (↑(List.length l) : Int)) then (bif KF.okr Z [AV.agg (List.map C.d (relC (List.getD l
 (Int.toNat i5) rel0)))] then (bif KF.lr Z [AV.agg (List.map C.d (relC (List.getD l (Int.toNat i5) rel0)))] then some (T.leaf (AV.c (.d (.v (.bool false))), [])) else Lfin_4 Z
 s l g m (IntKind.wrap .i64 (i5 + (1 : Int)))) else none) else none) else some (T.leaf (AV.c (.d (.v (.bool true))), []))) := by kernel_rfl
end Go.Proofs.YtmnfibmlhmeheaaGreatDoor.se
namespace Go.Proofs.YtmnfibmlhmeheaaGreatDoor.st
open Go.RowKit Go.Eb
def large (s : SSta) : Bool := decide (8 < s.buses.length) || (decide (10 < s.lines.length) || (decide (8 < s.srcs.length) || (decide (20 < s.bays.length) || s.bays.any fun b => decide (6 < b.links.length))))
theorem b7 : Tryz.f11.body = some (Aad Tryz.f11) := by kernel_rfl
theorem gtD (n k : Nat) : decide ((n : Int) > (k : Int)) = decide (k < n) := by
  by_cases h : k < n
  · rw [decide_eq_true h, decide_eq_true (by omega)]
  · rw [decide_eq_false h, decide_eq_false (by omega)]
theorem lp7 (s : SSta) (g : Nat) (hb : s.bays.length ≤ 9223372036854775807) : ∀ (m k : Nat), k ≤ s.bays.length → s.bays.length - k < m → L7 s g m k = lB ((s.bays.drop k).any fun b => decide (6 < b.links.length))
  | 0, k, _, h => by omega
  | m + 1, k, hk, h => by
    rw [st7]
    by_cases hlt : k < s.bays.length
    · have ih := lp7 s g hb m (k + 1) (by omega) (by omega)
      rw [drop_at' (d := bay0) hlt]
      have e6 : decide (((s.bays.getD k bay0).links.length : Int) > (6 : Int)) = decide (6 < (s.bays.getD k bay0).links.length) := gtD _ 6
      simp only [lt1 hlt, ge0, tn, tt, cond_true, nx hlt hb, ih, List.any_cons, e6]
      cases decide (6 < (s.bays.getD k bay0).links.length) <;> rfl
    · rw [lt0 hlt, List.drop_of_length_le (by omega)]
      rfl
theorem c7 (s : SSta) (hs : okSta s = true) : CX Tryz.prog 11 [aSta s] [] (vB (large s)) [] := by
  obtain ⟨a1, a2, a3, a4, a5⟩ := okSta_len hs
  obtain ⟨g, hg⟩ : ∃ g, s.bays.length < g := ⟨s.bays.length + 1, by omega⟩
  refine cx_of (Orc.nil_ok _) Tryz.func11 b7 rfl ((ev7 s g).trans ?_)
  have hl : L7 s g g 0 = lB (s.bays.any fun b => decide (6 < b.links.length)) := lp7 s g a4 g 0 (by omega) (by omega)
  have t8 : ∀ n : Nat, decide ((n : Int) > 8) = decide (8 < n) := fun n => gtD n 8
  have t10 : ∀ n : Nat, decide ((n : Int) > 10) = decide (10 < n) := fun n => gtD n 10
  have t20 : ∀ n : Nat, decide ((n : Int) > 20) = decide (20 < n) := fun n => gtD n 20
  rw [hl]
  simp only [t8, t10, t20]
  unfold large
  cases decide (8 < s.buses.length) <;> cases decide (10 < s.lines.length) <;> cases decide (8 < s.srcs.length) <;> cases decide (20 < s.bays.length) <;> rfl
end Go.Proofs.YtmnfibmlhmeheaaGreatDoor.st
namespace Go.Proofs.YtmnfibmlhmeheaaGreatDoor.st
open Go.RowKit Go.Eb
noncomputable def oBe : Orc := Orc.cons 86 (inl Tryz.prog Orc.nil na 1 Tryz.f86) Orc.nil
noncomputable def oOh : Orc := Orc.cons 34 (inl Tryz.prog oBe na 1 Tryz.f34) oBe
noncomputable def ann49 : Ann := annOf []
theorem b49 : Tryz.f88.body = some (Aad Tryz.f88) := by kernel_rfl
theorem ev49 (x : SBay) (g : Nat) : Aal Tryz.prog oOh ann49 g Tryz.f88 (Aad Tryz.f88) [aBay x] [] =
 (bif SBay.kind x == (1 : Int) then (bif decide (SBay.fin x ≥ (0 : Int)) then (bif !decide (SBay.fin x ≤ (1 : Int)) then some (T.leaf (AV.c (.d (.v (.bool false))), [])) else
 (bif !SBay.kind x == (1 : Int) then (bif SBay.fin x != (0 : Int) then some (T.leaf (AV.c (.d (.v (.bool false))), [])) else (bif SBay.kind x == (3 : Int) then (bif decide
 (SBay.zr x ≥ (0 : Int)) then (bif decide (SBay.zr x ≤ (1000 : Int)) then (bif decide (SBay.zx x ≥ (1 : Int)) then (bif !decide (SBay.zx x ≤ (1000 : Int)) then some (T.leaf (AV.c
 (C.d (.v (.bool false))), [])) else (bif !SBay.kind x == (3 : Int) then (bif !(SBay.zr x == (0 : Int) && (SBay.zx x == (0 : Int) && true)) then some (T.leaf (AV.c (C.d (D.v
 (Value.bool false))), [])) else (bif decide (SBay.ct x ≥ (1 : Int)) then (bif !decide (SBay.ct x ≤ (100 : Int)) then some (T.leaf (AV.c (.d (.v (.bool false))), [])) else
 (bif SBay.kind x == (3 : Int) then (bif SBay.vt x != (0 : Int) then some (T.leaf (AV.c (.d (.v (.bool false))), [])) else (bif !SBay.kind x == (3 : Int) then (bif decide
 (SBay.vt x ≥ (1 : Int)) then (bif !decide (SBay.vt x ≤ (10000 : Int)) then some (T.leaf (AV.c (.d (.v (.bool false))), [])) else (bif decide (SBay.sat x ≥ (0 : Int)) then
 (bif decide (SBay.sat x ≤ (16383 : Int)) then (bif decide (SBay.travel x ≥ (1 : Int)) then some (T.leaf (AV.c (.d (.v (.bool (decide (SBay.travel x ≤ (6 : Int)))))), []))
 else some (T.leaf (AV.c (.d (.v (.bool false))), []))) else some (T.leaf (AV.c (.d (.v (.bool false))), []))) else some (T.leaf (AV.c (.d (.v (.bool false))),
 [])))) else some (T.leaf (AV.c (.d (.v (.bool false))), []))) else (bif decide (SBay.sat x ≥ (0 : Int)) then (bif decide (SBay.sat x ≤ (16383 : Int)) then (bif decide
 (SBay.travel x ≥ (1 : Int)) then some (T.leaf (AV.c (.d (.v (.bool (decide (SBay.travel x ≤ (6 : Int)))))), [])) else some (T.leaf (AV.c (.d (.v (.bool false))), [])))
 else some (T.leaf (AV.c (.d (.v (.bool false))), []))) else some (T.leaf (AV.c (.d (.v (.bool false))), []))))) else (bif !SBay.kind x == (3 : Int) then (bif decide
 (SBay.vt x ≥ (1 : Int)) then (bif !decide (SBay.vt x ≤ (10000 : Int)) then some (T.leaf (AV.c (.d (.v (.bool false))), [])) else (bif decide (SBay.sat x ≥ (0 : Int)) then
 (bif decide (SBay.sat x ≤ (16383 : Int)) then (bif decide (SBay.travel x ≥ (1 : Int)) then some (T.leaf (AV.c (.d (.v (.bool (decide (SBay.travel x ≤ (6 : Int)))))), []))
 else some (T.leaf (AV.c (.d (.v (.bool false))), []))) else some (T.leaf (AV.c (.d (.v (.bool false))), []))) else some (T.leaf (AV.c (.d (.v (.bool false))),
 [])))) else some (T.leaf (AV.c (.d (.v (.bool false))), []))) else (bif decide (SBay.sat x ≥ (0 : Int)) then (bif decide (SBay.sat x ≤ (16383 : Int)) then (bif decide
 (SBay.travel x ≥ (1 : Int)) then some (T.leaf (AV.c (.d (.v (.bool (decide (SBay.travel x ≤ (6 : Int)))))), [])) else some (T.leaf (AV.c (.d (.v (.bool false))), [])))
 else some (T.leaf (AV.c (.d (.v (.bool false))), []))) else some (T.leaf (AV.c (.d (.v (.bool false))), [])))))) else some (T.leaf (AV.c (C.d (D.v (Value.bool
 false))), [])))) else (bif decide (SBay.ct x ≥ (1 : Int)) then (bif !decide (SBay.ct x ≤ (100 : Int)) then some (T.leaf (AV.c (.d (.v (.bool false))), [])) else (bif
 SBay.kind x == (3 : Int) then (bif SBay.vt x != (0 : Int) then some (T.leaf (AV.c (.d (.v (.bool false))), [])) else (bif !SBay.kind x == (3 : Int) then (bif decide (SBay.vt
 x ≥ (1 : Int)) then (bif !decide (SBay.vt x ≤ (10000 : Int)) then some (T.leaf (AV.c (.d (.v (.bool false))), [])) else (bif decide (SBay.sat x ≥ (0 : Int)) then (bif decide
 (SBay.sat x ≤ (16383 : Int)) then (bif decide (SBay.travel x ≥ (1 : Int)) then some (T.leaf (AV.c (.d (.v (.bool (decide (SBay.travel x ≤ (6 : Int)))))), [])) else some
 (T.leaf (AV.c (.d (.v (.bool false))), []))) else some (T.leaf (AV.c (.d (.v (.bool false))), []))) else some (T.leaf (AV.c (.d (.v (.bool false))), [])))) else
 some (T.leaf (AV.c (.d (.v (.bool false))), []))) else (bif decide (SBay.sat x ≥ (0 : Int)) then (bif decide (SBay.sat x ≤ (16383 : Int)) then (bif decide (SBay.travel x ≥ (1
 : Int)) then some (T.leaf (AV.c (.d (.v (.bool (decide (SBay.travel x ≤ (6 : Int)))))), [])) else some (T.leaf (AV.c (.d (.v (.bool false))), []))) else some (T.leaf
 (AV.c (.d (.v (.bool false))), []))) else some (T.leaf (AV.c (.d (.v (.bool false))), []))))) else (bif !SBay.kind x == (3 : Int) then (bif decide (SBay.vt x ≥ (1 :
 Int)) then (bif !decide (SBay.vt x ≤ (10000 : Int)) then some (T.leaf (AV.c (.d (.v (.bool false))), [])) else (bif decide (SBay.sat x ≥ (0 : Int)) then (bif decide (SBay.sat
 x ≤ (16383 : Int)) then (bif decide (SBay.travel x ≥ (1 : Int)) then some (T.leaf (AV.c (.d (.v (.bool (decide (SBay.travel x ≤ (6 : Int)))))), [])) else some (T.leaf (AV.c
 (C.d (.v (.bool false))), []))) else some (T.leaf (AV.c (.d (.v (.bool false))), []))) else some (T.leaf (AV.c (.d (.v (.bool false))), [])))) else some (T.leaf
 (AV.c (.d (.v (.bool false))), []))) else (bif decide (SBay.sat x ≥ (0 : Int)) then (bif decide (SBay.sat x ≤ (16383 : Int)) then (bif decide (SBay.travel x ≥ (1 : Int)) then
 some (T.leaf (AV.c (.d (.v (.bool (decide (SBay.travel x ≤ (6 : Int)))))), [])) else some (T.leaf (AV.c (.d (.v (.bool false))), []))) else some (T.leaf (AV.c (C.d
 (D.v (.bool false))), []))) else some (T.leaf (AV.c (.d (.v (.bool false))), [])))))) else some (T.leaf (AV.c (.d (.v (.bool false))), []))))) else some (T.leaf
 (AV.c (.d (.v (.bool false))), []))) else some (T.leaf (AV.c (.d (.v (.bool false))), []))) else some (T.leaf (AV.c (.d (.v (.bool false))), []))) else (bif
 !SBay.kind x == (3 : Int) then (bif !(SBay.zr x == (0 : Int) && (SBay.zx x == (0 : Int) && true)) then some (T.leaf (AV.c (.d (.v (.bool false))), [])) else (bif decide
 (SBay.ct x ≥ (1 : Int)) then (bif !decide (SBay.ct x ≤ (100 : Int)) then some (T.leaf (AV.c (.d (.v (.bool false))), [])) else (bif SBay.kind x == (3 : Int) then (bif SBay.vt
 x != (0 : Int) then some (T.leaf (AV.c (.d (.v (.bool false))), [])) else (bif !SBay.kind x == (3 : Int) then (bif decide (SBay.vt x ≥ (1 : Int)) then (bif !decide (SBay.vt x
 ≤ (10000 : Int)) then some (T.leaf (AV.c (.d (.v (.bool false))), [])) else (bif decide (SBay.sat x ≥ (0 : Int)) then (bif decide (SBay.sat x ≤ (16383 : Int)) then (bif
 decide (SBay.travel x ≥ (1 : Int)) then some (T.leaf (AV.c (.d (.v (.bool (decide (SBay.travel x ≤ (6 : Int)))))), [])) else some (T.leaf (AV.c (C.d (D.v (Value.bool
 false))), []))) else some (T.leaf (AV.c (.d (.v (.bool false))), []))) else some (T.leaf (AV.c (.d (.v (.bool false))), [])))) else some (T.leaf (AV.c (C.d (D.v
 (Value.bool false))), []))) else (bif decide (SBay.sat x ≥ (0 : Int)) then (bif decide (SBay.sat x ≤ (16383 : Int)) then (bif decide (SBay.travel x ≥ (1 : Int)) then some (T.leaf
 (AV.c (.d (.v (.bool (decide (SBay.travel x ≤ (6 : Int)))))), [])) else some (T.leaf (AV.c (.d (.v (.bool false))), []))) else some (T.leaf (AV.c (C.d (D.v (Value.bool
 false))), []))) else some (T.leaf (AV.c (.d (.v (.bool false))), []))))) else (bif !SBay.kind x == (3 : Int) then (bif decide (SBay.vt x ≥ (1 : Int)) then (bif !decide
 (SBay.vt x ≤ (10000 : Int)) then some (T.leaf (AV.c (.d (.v (.bool false))), [])) else (bif decide (SBay.sat x ≥ (0 : Int)) then (bif decide (SBay.sat x ≤ (16383 : Int)) then
 (bif decide (SBay.travel x ≥ (1 : Int)) then some (T.leaf (AV.c (.d (.v (.bool (decide (SBay.travel x ≤ (6 : Int)))))), [])) else some (T.leaf (AV.c (C.d (D.v (Value.bool
 false))), []))) else some (T.leaf (AV.c (.d (.v (.bool false))), []))) else some (T.leaf (AV.c (.d (.v (.bool false))), [])))) else some (T.leaf (AV.c (C.d (D.v
 (Value.bool false))), []))) else (bif decide (SBay.sat x ≥ (0 : Int)) then (bif decide (SBay.sat x ≤ (16383 : Int)) then (bif decide (SBay.travel x ≥ (1 : Int)) then some (T.leaf
 (AV.c (.d (.v (.bool (decide (SBay.travel x ≤ (6 : Int)))))), [])) else some (T.leaf (AV.c (.d (.v (.bool false))), []))) else some (T.leaf (AV.c (C.d (D.v (Value.bool
 false))), []))) else some (T.leaf (AV.c (.d (.v (.bool false))), [])))))) else some (T.leaf (AV.c (.d (.v (.bool false))), [])))) else (bif decide (SBay.ct x ≥ (1 :
 Int)) then (bif !decide (SBay.ct x ≤ (100 : Int)) then some (T.leaf (AV.c (.d (.v (.bool false))), [])) else (bif SBay.kind x == (3 : Int) then (bif SBay.vt x != (0 : Int)
 then some (T.leaf (AV.c (.d (.v (.bool false))), [])) else (bif !SBay.kind x == (3 : Int) then (bif decide (SBay.vt x ≥ (1 : Int)) then (bif !decide (SBay.vt x ≤ (10000 :
 Int)) then some (T.leaf (AV.c (.d (.v (.bool false))), [])) else (bif decide (SBay.sat x ≥ (0 : Int)) then (bif decide (SBay.sat x ≤ (16383 : Int)) then (bif decide
 (SBay.travel x ≥ (1 : Int)) then some (T.leaf (AV.c (.d (.v (.bool (decide (SBay.travel x ≤ (6 : Int)))))), [])) else some (T.leaf (AV.c (.d (.v (.bool false))), [])))
 else some (T.leaf (AV.c (.d (.v (.bool false))), []))) else some (T.leaf (AV.c (.d (.v (.bool false))), [])))) else some (T.leaf (AV.c (.d (.v (.bool false))),
 []))) else (bif decide (SBay.sat x ≥ (0 : Int)) then (bif decide (SBay.sat x ≤ (16383 : Int)) then (bif decide (SBay.travel x ≥ (1 : Int)) then some (T.leaf (AV.c (C.d (D.v
 (Value.bool (decide (SBay.travel x ≤ (6 : Int)))))), [])) else some (T.leaf (AV.c (.d (.v (.bool false))), []))) else some (T.leaf (AV.c (.d (.v (.bool false))), [])))
 else some (T.leaf (AV.c (.d (.v (.bool false))), []))))) else (bif !SBay.kind x == (3 : Int) then (bif decide (SBay.vt x ≥ (1 : Int)) then (bif !decide (SBay.vt x ≤ (10000 :
 Int)) then some (T.leaf (AV.c (.d (.v (.bool false))), [])) else (bif decide (SBay.sat x ≥ (0 : Int)) then (bif decide (SBay.sat x ≤ (16383 : Int)) then (bif decide
 (SBay.travel x ≥ (1 : Int)) then some (T.leaf (AV.c (.d (.v (.bool (decide (SBay.travel x ≤ (6 : Int)))))), [])) else some (T.leaf (AV.c (.d (.v (.bool false))), [])))
 else some (T.leaf (AV.c (.d (.v (.bool false))), []))) else some (T.leaf (AV.c (.d (.v (.bool false))), [])))) else some (T.leaf (AV.c (.d (.v (.bool false))),
 []))) else (bif decide (SBay.sat x ≥ (0 : Int)) then (bif decide (SBay.sat x ≤ (16383 : Int)) then (bif decide (SBay.travel x ≥ (1 : Int)) then some (T.leaf (AV.c (C.d (D.v
 (Value.bool (decide (SBay.travel x ≤ (6 : Int)))))), [])) else some (T.leaf (AV.c (.d (.v (.bool false))), []))) else some (T.leaf (AV.c (.d (.v (.bool false))), [])))
 else some (T.leaf (AV.c (.d (.v (.bool false))), [])))))) else some (T.leaf (AV.c (.d (.v (.bool false))), [])))))) else (bif SBay.kind x == (3 : Int) then (bif decide
 (SBay.zr x ≥ (0 : Int)) then (bif decide (SBay.zr x ≤ (1000 : Int)) then (bif decide (SBay.zx x ≥ (1 : Int)) then (bif !decide (SBay.zx x ≤ (1000 : Int)) then some (T.leaf (AV.c
 (C.d (.v (.bool false))), [])) else (bif !SBay.kind x == (3 : Int) then (bif !(SBay.zr x == (0 : Int) && (SBay.zx x == (0 : Int) && true)) then some (T.leaf (AV.c (C.d (D.v
 (Value.bool false))), [])) else (bif decide (SBay.ct x ≥ (1 : Int)) then (bif !decide (SBay.ct x ≤ (100 : Int)) then some (T.leaf (AV.c (.d (.v (.bool false))), [])) else
 (bif SBay.kind x == (3 : Int) then (bif SBay.vt x != (0 : Int) then some (T.leaf (AV.c (.d (.v (.bool false))), [])) else (bif !SBay.kind x == (3 : Int) then (bif decide
 (SBay.vt x ≥ (1 : Int)) then (bif !decide (SBay.vt x ≤ (10000 : Int)) then some (T.leaf (AV.c (.d (.v (.bool false))), [])) else (bif decide (SBay.sat x ≥ (0 : Int)) then
 (bif decide (SBay.sat x ≤ (16383 : Int)) then (bif decide (SBay.travel x ≥ (1 : Int)) then some (T.leaf (AV.c (.d (.v (.bool (decide (SBay.travel x ≤ (6 : Int)))))), []))
 else some (T.leaf (AV.c (.d (.v (.bool false))), []))) else some (T.leaf (AV.c (.d (.v (.bool false))), []))) else some (T.leaf (AV.c (.d (.v (.bool false))),
 [])))) else some (T.leaf (AV.c (.d (.v (.bool false))), []))) else (bif decide (SBay.sat x ≥ (0 : Int)) then (bif decide (SBay.sat x ≤ (16383 : Int)) then (bif decide
 (SBay.travel x ≥ (1 : Int)) then some (T.leaf (AV.c (.d (.v (.bool (decide (SBay.travel x ≤ (6 : Int)))))), [])) else some (T.leaf (AV.c (.d (.v (.bool false))), [])))
 else some (T.leaf (AV.c (.d (.v (.bool false))), []))) else some (T.leaf (AV.c (.d (.v (.bool false))), []))))) else (bif !SBay.kind x == (3 : Int) then (bif decide
 (SBay.vt x ≥ (1 : Int)) then (bif !decide (SBay.vt x ≤ (10000 : Int)) then some (T.leaf (AV.c (.d (.v (.bool false))), [])) else (bif decide (SBay.sat x ≥ (0 : Int)) then
 (bif decide (SBay.sat x ≤ (16383 : Int)) then (bif decide (SBay.travel x ≥ (1 : Int)) then some (T.leaf (AV.c (.d (.v (.bool (decide (SBay.travel x ≤ (6 : Int)))))), []))
 else some (T.leaf (AV.c (.d (.v (.bool false))), []))) else some (T.leaf (AV.c (.d (.v (.bool false))), []))) else some (T.leaf (AV.c (.d (.v (.bool false))),
 [])))) else some (T.leaf (AV.c (.d (.v (.bool false))), []))) else (bif decide (SBay.sat x ≥ (0 : Int)) then (bif decide (SBay.sat x ≤ (16383 : Int)) then (bif decide
 (SBay.travel x ≥ (1 : Int)) then some (T.leaf (AV.c (.d (.v (.bool (decide (SBay.travel x ≤ (6 : Int)))))), [])) else some (T.leaf (AV.c (.d (.v (.bool false))), [])))
 else some (T.leaf (AV.c (.d (.v (.bool false))), []))) else some (T.leaf (AV.c (.d (.v (.bool false))), [])))))) else some (T.leaf (AV.c (C.d (D.v (Value.bool
 false))), [])))) else (bif decide (SBay.ct x ≥ (1 : Int)) then (bif !decide (SBay.ct x ≤ (100 : Int)) then some (T.leaf (AV.c (.d (.v (.bool false))), [])) else (bif
 SBay.kind x == (3 : Int) then (bif SBay.vt x != (0 : Int) then some (T.leaf (AV.c (.d (.v (.bool false))), [])) else (bif !SBay.kind x == (3 : Int) then (bif decide (SBay.vt
 x ≥ (1 : Int)) then (bif !decide (SBay.vt x ≤ (10000 : Int)) then some (T.leaf (AV.c (.d (.v (.bool false))), [])) else (bif decide (SBay.sat x ≥ (0 : Int)) then (bif decide
 (SBay.sat x ≤ (16383 : Int)) then (bif decide (SBay.travel x ≥ (1 : Int)) then some (T.leaf (AV.c (.d (.v (.bool (decide (SBay.travel x ≤ (6 : Int)))))), [])) else some
 (T.leaf (AV.c (.d (.v (.bool false))), []))) else some (T.leaf (AV.c (.d (.v (.bool false))), []))) else some (T.leaf (AV.c (.d (.v (.bool false))), [])))) else
 some (T.leaf (AV.c (.d (.v (.bool false))), []))) else (bif decide (SBay.sat x ≥ (0 : Int)) then (bif decide (SBay.sat x ≤ (16383 : Int)) then (bif decide (SBay.travel x ≥ (1
 : Int)) then some (T.leaf (AV.c (.d (.v (.bool (decide (SBay.travel x ≤ (6 : Int)))))), [])) else some (T.leaf (AV.c (.d (.v (.bool false))), []))) else some (T.leaf
 (AV.c (.d (.v (.bool false))), []))) else some (T.leaf (AV.c (.d (.v (.bool false))), []))))) else (bif !SBay.kind x == (3 : Int) then (bif decide (SBay.vt x ≥ (1 :
 Int)) then (bif !decide (SBay.vt x ≤ (10000 : Int)) then some (T.leaf (AV.c (.d (.v (.bool false))), [])) else (bif decide (SBay.sat x ≥ (0 : Int)) then (bif decide (SBay.sat
 x ≤ (16383 : Int)) then (bif decide (SBay.travel x ≥ (1 : Int)) then some (T.leaf (AV.c (.d (.v (.bool (decide (SBay.travel x ≤ (6 : Int)))))), [])) else some (T.leaf (AV.c
 (C.d (.v (.bool false))), []))) else some (T.leaf (AV.c (.d (.v (.bool false))), []))) else some (T.leaf (AV.c (.d (.v (.bool false))), [])))) else some (T.leaf
 (AV.c (.d (.v (.bool false))), []))) else (bif decide (SBay.sat x ≥ (0 : Int)) then (bif decide (SBay.sat x ≤ (16383 : Int)) then (bif decide (SBay.travel x ≥ (1 : Int)) then
 some (T.leaf (AV.c (.d (.v (.bool (decide (SBay.travel x ≤ (6 : Int)))))), [])) else some (T.leaf (AV.c (.d (.v (.bool false))), []))) else some (T.leaf (AV.c (C.d
 (D.v (.bool false))), []))) else some (T.leaf (AV.c (.d (.v (.bool false))), [])))))) else some (T.leaf (AV.c (.d (.v (.bool false))), []))))) else some (T.leaf
 (AV.c (.d (.v (.bool false))), []))) else some (T.leaf (AV.c (.d (.v (.bool false))), []))) else some (T.leaf (AV.c (.d (.v (.bool false))), []))) else (bif
 !SBay.kind x == (3 : Int) then (bif !(SBay.zr x == (0 : Int) && (SBay.zx x == (0 : Int) && true)) then some (T.leaf (AV.c (.d (.v (.bool false))), [])) else (bif decide
 (SBay.ct x ≥ (1 : Int)) then (bif !decide (SBay.ct x ≤ (100 : Int)) then some (T.leaf (AV.c (.d (.v (.bool false))), [])) else (bif SBay.kind x == (3 : Int) then (bif SBay.vt
 x != (0 : Int) then some (T.leaf (AV.c (.d (.v (.bool false))), [])) else (bif !SBay.kind x == (3 : Int) then (bif decide (SBay.vt x ≥ (1 : Int)) then (bif !decide (SBay.vt x
 ≤ (10000 : Int)) then some (T.leaf (AV.c (.d (.v (.bool false))), [])) else (bif decide (SBay.sat x ≥ (0 : Int)) then (bif decide (SBay.sat x ≤ (16383 : Int)) then (bif
 decide (SBay.travel x ≥ (1 : Int)) then some (T.leaf (AV.c (.d (.v (.bool (decide (SBay.travel x ≤ (6 : Int)))))), [])) else some (T.leaf (AV.c (C.d (D.v (Value.bool
 false))), []))) else some (T.leaf (AV.c (.d (.v (.bool false))), []))) else some (T.leaf (AV.c (.d (.v (.bool false))), [])))) else some (T.leaf (AV.c (C.d (D.v
 (Value.bool false))), []))) else (bif decide (SBay.sat x ≥ (0 : Int)) then (bif decide (SBay.sat x ≤ (16383 : Int)) then (bif decide (SBay.travel x ≥ (1 : Int)) then some (T.leaf
 (AV.c (.d (.v (.bool (decide (SBay.travel x ≤ (6 : Int)))))), [])) else some (T.leaf (AV.c (.d (.v (.bool false))), []))) else some (T.leaf (AV.c (C.d (D.v (Value.bool
 false))), []))) else some (T.leaf (AV.c (.d (.v (.bool false))), []))))) else (bif !SBay.kind x == (3 : Int) then (bif decide (SBay.vt x ≥ (1 : Int)) then (bif !decide
 (SBay.vt x ≤ (10000 : Int)) then some (T.leaf (AV.c (.d (.v (.bool false))), [])) else (bif decide (SBay.sat x ≥ (0 : Int)) then (bif decide (SBay.sat x ≤ (16383 : Int)) then
 (bif decide (SBay.travel x ≥ (1 : Int)) then some (T.leaf (AV.c (.d (.v (.bool (decide (SBay.travel x ≤ (6 : Int)))))), [])) else some (T.leaf (AV.c (C.d (D.v (Value.bool
 false))), []))) else some (T.leaf (AV.c (.d (.v (.bool false))), []))) else some (T.leaf (AV.c (.d (.v (.bool false))), [])))) else some (T.leaf (AV.c (C.d (D.v
 (Value.bool false))), []))) else (bif decide (SBay.sat x ≥ (0 : Int)) then (bif decide (SBay.sat x ≤ (16383 : Int)) then (bif decide (SBay.travel x ≥ (1 : Int)) then some (T.leaf
 (AV.c (.d (.v (.bool (decide (SBay.travel x ≤ (6 : Int)))))), [])) else some (T.leaf (AV.c (.d (.v (.bool false))), []))) else some (T.leaf (AV.c (C.d (D.v (Value.bool
 false))), []))) else some (T.leaf (AV.c (.d (.v (.bool false))), [])))))) else some (T.leaf (AV.c (.d (.v (.bool false))), [])))) else (bif decide (SBay.ct x ≥ (1 :
 Int)) then (bif !decide (SBay.ct x ≤ (100 : Int)) then some (T.leaf (AV.c (.d (.v (.bool false))), [])) else (bif SBay.kind x == (3 : Int) then (bif SBay.vt x != (0 : Int)
 then some (T.leaf (AV.c (.d (.v (.bool false))), [])) else (bif !SBay.kind x == (3 : Int) then (bif decide (SBay.vt x ≥ (1 : Int)) then (bif !decide (SBay.vt x ≤ (10000 :
 Int)) then some (T.leaf (AV.c (.d (.v (.bool false))), [])) else (bif decide (SBay.sat x ≥ (0 : Int)) then (bif decide (SBay.sat x ≤ (16383 : Int)) then (bif decide
 (SBay.travel x ≥ (1 : Int)) then some (T.leaf (AV.c (.d (.v (.bool (decide (SBay.travel x ≤ (6 : Int)))))), [])) else some (T.leaf (AV.c (.d (.v (.bool false))), [])))
 else some (T.leaf (AV.c (.d (.v (.bool false))), []))) else some (T.leaf (AV.c (.d (.v (.bool false))), [])))) else some (T.leaf (AV.c (.d (.v (.bool false))),
 []))) else (bif decide (SBay.sat x ≥ (0 : Int)) then (bif decide (SBay.sat x ≤ (16383 : Int)) then (bif decide (SBay.travel x ≥ (1 : Int)) then some (T.leaf (AV.c (C.d (D.v
 (Value.bool (decide (SBay.travel x ≤ (6 : Int)))))), [])) else some (T.leaf (AV.c (.d (.v (.bool false))), []))) else some (T.leaf (AV.c (.d (.v (.bool false))), [])))
 else some (T.leaf (AV.c (.d (.v (.bool false))), []))))) else (bif !SBay.kind x == (3 : Int) then (bif decide (SBay.vt x ≥ (1 : Int)) then (bif !decide (SBay.vt x ≤ (10000 :
 Int)) then some (T.leaf (AV.c (.d (.v (.bool false))), [])) else (bif decide (SBay.sat x ≥ (0 : Int)) then (bif decide (SBay.sat x ≤ (16383 : Int)) then (bif decide
 (SBay.travel x ≥ (1 : Int)) then some (T.leaf (AV.c (.d (.v (.bool (decide (SBay.travel x ≤ (6 : Int)))))), [])) else some (T.leaf (AV.c (.d (.v (.bool false))), [])))
 else some (T.leaf (AV.c (.d (.v (.bool false))), []))) else some (T.leaf (AV.c (.d (.v (.bool false))), [])))) else some (T.leaf (AV.c (.d (.v (.bool false))),
 []))) else (bif decide (SBay.sat x ≥ (0 : Int)) then (bif decide (SBay.sat x ≤ (16383 : Int)) then (bif decide (SBay.travel x ≥ (1 : Int)) then some (T.leaf (AV.c (C.d (D.v
 (Value.bool (decide (SBay.travel x ≤ (6 : Int)))))), [])) else some (T.leaf (AV.c (.d (.v (.bool false))), []))) else some (T.leaf (AV.c (.d (.v (.bool false))), [])))
 else some (T.leaf (AV.c (.d (.v (.bool false))), [])))))) else some (T.leaf (AV.c (.d (.v (.bool false))), []))))))) else some (T.leaf (AV.c (C.d (D.v (Value.bool
 false))), []))) else (bif !SBay.kind x == (1 : Int) then (bif SBay.fin x != (0 : Int) then some (T.leaf (AV.c (.d (.v (.bool false))), [])) else (bif SBay.kind x == (3 : Int)
 then (bif decide (SBay.zr x ≥ (0 : Int)) then (bif decide (SBay.zr x ≤ (1000 : Int)) then (bif decide (SBay.zx x ≥ (1 : Int)) then (bif !decide (SBay.zx x ≤ (1000 : Int)) then some
 (T.leaf (AV.c (.d (.v (.bool false))), [])) else (bif !SBay.kind x == (3 : Int) then (bif !(SBay.zr x == (0 : Int) && (SBay.zx x == (0 : Int) && true)) then some (T.leaf
 (AV.c (.d (.v (.bool false))), [])) else (bif decide (SBay.ct x ≥ (1 : Int)) then (bif !decide (SBay.ct x ≤ (100 : Int)) then some (T.leaf (AV.c (C.d (D.v (Value.bool
 false))), [])) else (bif SBay.kind x == (3 : Int) then (bif SBay.vt x != (0 : Int) then some (T.leaf (AV.c (.d (.v (.bool false))), [])) else (bif !SBay.kind x == (3 : Int)
 then (bif decide (SBay.vt x ≥ (1 : Int)) then (bif !decide (SBay.vt x ≤ (10000 : Int)) then some (T.leaf (AV.c (.d (.v (.bool false))), [])) else (bif decide (SBay.sat x ≥ (0
 : Int)) then (bif decide (SBay.sat x ≤ (16383 : Int)) then (bif decide (SBay.travel x ≥ (1 : Int)) then some (T.leaf (AV.c (.d (.v (.bool (decide (SBay.travel x ≤ (6 :
 Int)))))), [])) else some (T.leaf (AV.c (.d (.v (.bool false))), []))) else some (T.leaf (AV.c (.d (.v (.bool false))), []))) else some (T.leaf (AV.c (C.d (D.v
 (Value.bool false))), [])))) else some (T.leaf (AV.c (.d (.v (.bool false))), []))) else (bif decide (SBay.sat x ≥ (0 : Int)) then (bif decide (SBay.sat x ≤ (16383 : Int))
 then (bif decide (SBay.travel x ≥ (1 : Int)) then some (T.leaf (AV.c (.d (.v (.bool (decide (SBay.travel x ≤ (6 : Int)))))), [])) else some (T.leaf (AV.c (C.d (D.v
 (Value.bool false))), []))) else some (T.leaf (AV.c (.d (.v (.bool false))), []))) else some (T.leaf (AV.c (.d (.v (.bool false))), []))))) else (bif !SBay.kind x ==
 (3 : Int) then (bif decide (SBay.vt x ≥ (1 : Int)) then (bif !decide (SBay.vt x ≤ (10000 : Int)) then some (T.leaf (AV.c (.d (.v (.bool false))), [])) else (bif decide
 (SBay.sat x ≥ (0 : Int)) then (bif decide (SBay.sat x ≤ (16383 : Int)) then (bif decide (SBay.travel x ≥ (1 : Int)) then some (T.leaf (AV.c (.d (.v (.bool (decide
 (SBay.travel x ≤ (6 : Int)))))), [])) else some (T.leaf (AV.c (.d (.v (.bool false))), []))) else some (T.leaf (AV.c (.d (.v (.bool false))), []))) else some (T.leaf
 (AV.c (.d (.v (.bool false))), [])))) else some (T.leaf (AV.c (.d (.v (.bool false))), []))) else (bif decide (SBay.sat x ≥ (0 : Int)) then (bif decide (SBay.sat x ≤
 (16383 : Int)) then (bif decide (SBay.travel x ≥ (1 : Int)) then some (T.leaf (AV.c (.d (.v (.bool (decide (SBay.travel x ≤ (6 : Int)))))), [])) else some (T.leaf (AV.c (C.d
 (D.v (.bool false))), []))) else some (T.leaf (AV.c (.d (.v (.bool false))), []))) else some (T.leaf (AV.c (.d (.v (.bool false))), [])))))) else some (T.leaf
 (AV.c (.d (.v (.bool false))), [])))) else (bif decide (SBay.ct x ≥ (1 : Int)) then (bif !decide (SBay.ct x ≤ (100 : Int)) then some (T.leaf (AV.c (C.d (D.v (Value.bool
 false))), [])) else (bif SBay.kind x == (3 : Int) then (bif SBay.vt x != (0 : Int) then some (T.leaf (AV.c (.d (.v (.bool false))), [])) else (bif !SBay.kind x == (3 : Int)
 then (bif decide (SBay.vt x ≥ (1 : Int)) then (bif !decide (SBay.vt x ≤ (10000 : Int)) then some (T.leaf (AV.c (.d (.v (.bool false))), [])) else (bif decide (SBay.sat x ≥ (0
 : Int)) then (bif decide (SBay.sat x ≤ (16383 : Int)) then (bif decide (SBay.travel x ≥ (1 : Int)) then some (T.leaf (AV.c (.d (.v (.bool (decide (SBay.travel x ≤ (6 :
 Int)))))), [])) else some (T.leaf (AV.c (.d (.v (.bool false))), []))) else some (T.leaf (AV.c (.d (.v (.bool false))), []))) else some (T.leaf (AV.c (C.d (D.v
 (Value.bool false))), [])))) else some (T.leaf (AV.c (.d (.v (.bool false))), []))) else (bif decide (SBay.sat x ≥ (0 : Int)) then (bif decide (SBay.sat x ≤ (16383 : Int))
 then (bif decide (SBay.travel x ≥ (1 : Int)) then some (T.leaf (AV.c (.d (.v (.bool (decide (SBay.travel x ≤ (6 : Int)))))), [])) else some (T.leaf (AV.c (C.d (D.v
 (Value.bool false))), []))) else some (T.leaf (AV.c (.d (.v (.bool false))), []))) else some (T.leaf (AV.c (.d (.v (.bool false))), []))))) else (bif !SBay.kind x ==
 (3 : Int) then (bif decide (SBay.vt x ≥ (1 : Int)) then (bif !decide (SBay.vt x ≤ (10000 : Int)) then some (T.leaf (AV.c (.d (.v (.bool false))), [])) else (bif decide
 (SBay.sat x ≥ (0 : Int)) then (bif decide (SBay.sat x ≤ (16383 : Int)) then (bif decide (SBay.travel x ≥ (1 : Int)) then some (T.leaf (AV.c (.d (.v (.bool (decide
 (SBay.travel x ≤ (6 : Int)))))), [])) else some (T.leaf (AV.c (.d (.v (.bool false))), []))) else some (T.leaf (AV.c (.d (.v (.bool false))), []))) else some (T.leaf
 (AV.c (.d (.v (.bool false))), [])))) else some (T.leaf (AV.c (.d (.v (.bool false))), []))) else (bif decide (SBay.sat x ≥ (0 : Int)) then (bif decide (SBay.sat x ≤
 (16383 : Int)) then (bif decide (SBay.travel x ≥ (1 : Int)) then some (T.leaf (AV.c (.d (.v (.bool (decide (SBay.travel x ≤ (6 : Int)))))), [])) else some (T.leaf (AV.c (C.d
 (D.v (.bool false))), []))) else some (T.leaf (AV.c (.d (.v (.bool false))), []))) else some (T.leaf (AV.c (.d (.v (.bool false))), [])))))) else some (T.leaf
 (AV.c (.d (.v (.bool false))), []))))) else some (T.leaf (AV.c (.d (.v (.bool false))), []))) else some (T.leaf (AV.c (.d (.v (.bool false))), []))) else some
 (T.leaf (AV.c (.d (.v (.bool false))), []))) else (bif !SBay.kind x == (3 : Int) then (bif !(SBay.zr x == (0 : Int) && (SBay.zx x == (0 : Int) && true)) then some (T.leaf
 (AV.c (.d (.v (.bool false))), [])) else (bif decide (SBay.ct x ≥ (1 : Int)) then (bif !decide (SBay.ct x ≤ (100 : Int)) then some (T.leaf (AV.c (C.d (D.v (Value.bool
 false))), [])) else (bif SBay.kind x == (3 : Int) then (bif SBay.vt x != (0 : Int) then some (T.leaf (AV.c (.d (.v (.bool false))), [])) else (bif !SBay.kind x == (3 : Int)
 then (bif decide (SBay.vt x ≥ (1 : Int)) then (bif !decide (SBay.vt x ≤ (10000 : Int)) then some (T.leaf (AV.c (.d (.v (.bool false))), [])) else (bif decide (SBay.sat x ≥ (0
 : Int)) then (bif decide (SBay.sat x ≤ (16383 : Int)) then (bif decide (SBay.travel x ≥ (1 : Int)) then some (T.leaf (AV.c (.d (.v (.bool (decide (SBay.travel x ≤ (6 :
 Int)))))), [])) else some (T.leaf (AV.c (.d (.v (.bool false))), []))) else some (T.leaf (AV.c (.d (.v (.bool false))), []))) else some (T.leaf (AV.c (C.d (D.v
 (Value.bool false))), [])))) else some (T.leaf (AV.c (.d (.v (.bool false))), []))) else (bif decide (SBay.sat x ≥ (0 : Int)) then (bif decide (SBay.sat x ≤ (16383 : Int))
 then (bif decide (SBay.travel x ≥ (1 : Int)) then some (T.leaf (AV.c (.d (.v (.bool (decide (SBay.travel x ≤ (6 : Int)))))), [])) else some (T.leaf (AV.c (C.d (D.v
 (Value.bool false))), []))) else some (T.leaf (AV.c (.d (.v (.bool false))), []))) else some (T.leaf (AV.c (.d (.v (.bool false))), []))))) else (bif !SBay.kind x ==
 (3 : Int) then (bif decide (SBay.vt x ≥ (1 : Int)) then (bif !decide (SBay.vt x ≤ (10000 : Int)) then some (T.leaf (AV.c (.d (.v (.bool false))), [])) else (bif decide
 (SBay.sat x ≥ (0 : Int)) then (bif decide (SBay.sat x ≤ (16383 : Int)) then (bif decide (SBay.travel x ≥ (1 : Int)) then some (T.leaf (AV.c (.d (.v (.bool (decide
 (SBay.travel x ≤ (6 : Int)))))), [])) else some (T.leaf (AV.c (.d (.v (.bool false))), []))) else some (T.leaf (AV.c (.d (.v (.bool false))), []))) else some (T.leaf
 (AV.c (.d (.v (.bool false))), [])))) else some (T.leaf (AV.c (.d (.v (.bool false))), []))) else (bif decide (SBay.sat x ≥ (0 : Int)) then (bif decide (SBay.sat x ≤
 (16383 : Int)) then (bif decide (SBay.travel x ≥ (1 : Int)) then some (T.leaf (AV.c (.d (.v (.bool (decide (SBay.travel x ≤ (6 : Int)))))), [])) else some (T.leaf (AV.c (C.d
 (D.v (.bool false))), []))) else some (T.leaf (AV.c (.d (.v (.bool false))), []))) else some (T.leaf (AV.c (.d (.v (.bool false))), [])))))) else some (T.leaf
 (AV.c (.d (.v (.bool false))), [])))) else (bif decide (SBay.ct x ≥ (1 : Int)) then (bif !decide (SBay.ct x ≤ (100 : Int)) then some (T.leaf (AV.c (C.d (D.v (Value.bool
 false))), [])) else (bif SBay.kind x == (3 : Int) then (bif SBay.vt x != (0 : Int) then some (T.leaf (AV.c (.d (.v (.bool false))), [])) else (bif !SBay.kind x == (3 : Int)
 then (bif decide (SBay.vt x ≥ (1 : Int)) then (bif !decide (SBay.vt x ≤ (10000 : Int)) then some (T.leaf (AV.c (.d (.v (.bool false))), [])) else (bif decide (SBay.sat x ≥ (0
 : Int)) then (bif decide (SBay.sat x ≤ (16383 : Int)) then (bif decide (SBay.travel x ≥ (1 : Int)) then some (T.leaf (AV.c (.d (.v (.bool (decide (SBay.travel x ≤ (6 :
 Int)))))), [])) else some (T.leaf (AV.c (.d (.v (.bool false))), []))) else some (T.leaf (AV.c (.d (.v (.bool false))), []))) else some (T.leaf (AV.c (C.d (D.v
 (Value.bool false))), [])))) else some (T.leaf (AV.c (.d (.v (.bool false))), []))) else (bif decide (SBay.sat x ≥ (0 : Int)) then (bif decide (SBay.sat x ≤ (16383 : Int))
 then (bif decide (SBay.travel x ≥ (1 : Int)) then some (T.leaf (AV.c (.d (.v (.bool (decide (SBay.travel x ≤ (6 : Int)))))), [])) else some (T.leaf (AV.c (C.d (D.v
 (Value.bool false))), []))) else some (T.leaf (AV.c (.d (.v (.bool false))), []))) else some (T.leaf (AV.c (.d (.v (.bool false))), []))))) else (bif !SBay.kind x ==
 (3 : Int) then (bif decide (SBay.vt x ≥ (1 : Int)) then (bif !decide (SBay.vt x ≤ (10000 : Int)) then some (T.leaf (AV.c (.d (.v (.bool false))), [])) else (bif decide
 (SBay.sat x ≥ (0 : Int)) then (bif decide (SBay.sat x ≤ (16383 : Int)) then (bif decide (SBay.travel x ≥ (1 : Int)) then some (T.leaf (AV.c (.d (.v (.bool (decide
 (SBay.travel x ≤ (6 : Int)))))), [])) else some (T.leaf (AV.c (.d (.v (.bool false))), []))) else some (T.leaf (AV.c (.d (.v (.bool false))), []))) else some (T.leaf
 (AV.c (.d (.v (.bool false))), [])))) else some (T.leaf (AV.c (.d (.v (.bool false))), []))) else (bif decide (SBay.sat x ≥ (0 : Int)) then (bif decide (SBay.sat x ≤
 (16383 : Int)) then (bif decide (SBay.travel x ≥ (1 : Int)) then some (T.leaf (AV.c (.d (.v (.bool (decide (SBay.travel x ≤ (6 : Int)))))), [])) else some (T.leaf (AV.c (C.d
 (D.v (.bool false))), []))) else some (T.leaf (AV.c (.d (.v (.bool false))), []))) else some (T.leaf (AV.c (.d (.v (.bool false))), [])))))) else some (T.leaf
 (AV.c (.d (.v (.bool false))), [])))))) else (bif SBay.kind x == (3 : Int) then (bif decide (SBay.zr x ≥ (0 : Int)) then (bif decide (SBay.zr x ≤ (1000 : Int)) then (bif
 decide (SBay.zx x ≥ (1 : Int)) then (bif !decide (SBay.zx x ≤ (1000 : Int)) then some (T.leaf (AV.c (.d (.v (.bool false))), [])) else (bif !SBay.kind x == (3 : Int) then
 (bif !(SBay.zr x == (0 : Int) && (SBay.zx x == (0 : Int) && true)) then some (T.leaf (AV.c (.d (.v (.bool false))), [])) else (bif decide (SBay.ct x ≥ (1 : Int)) then (bif
 !decide (SBay.ct x ≤ (100 : Int)) then some (T.leaf (AV.c (.d (.v (.bool false))), [])) else (bif SBay.kind x == (3 : Int) then (bif SBay.vt x != (0 : Int) then some (T.leaf
 (AV.c (.d (.v (.bool false))), [])) else (bif !SBay.kind x == (3 : Int) then (bif decide (SBay.vt x ≥ (1 : Int)) then (bif !decide (SBay.vt x ≤ (10000 : Int)) then some
 (T.leaf (AV.c (.d (.v (.bool false))), [])) else (bif decide (SBay.sat x ≥ (0 : Int)) then (bif decide (SBay.sat x ≤ (16383 : Int)) then (bif decide (SBay.travel x ≥ (1 :
 Int)) then some (T.leaf (AV.c (.d (.v (.bool (decide (SBay.travel x ≤ (6 : Int)))))), [])) else some (T.leaf (AV.c (.d (.v (.bool false))), []))) else some (T.leaf
 (AV.c (.d (.v (.bool false))), []))) else some (T.leaf (AV.c (.d (.v (.bool false))), [])))) else some (T.leaf (AV.c (.d (.v (.bool false))), []))) else (bif
 decide (SBay.sat x ≥ (0 : Int)) then (bif decide (SBay.sat x ≤ (16383 : Int)) then (bif decide (SBay.travel x ≥ (1 : Int)) then some (T.leaf (AV.c (.d (.v (.bool (decide
 (SBay.travel x ≤ (6 : Int)))))), [])) else some (T.leaf (AV.c (.d (.v (.bool false))), []))) else some (T.leaf (AV.c (.d (.v (.bool false))), []))) else some (T.leaf
 (AV.c (.d (.v (.bool false))), []))))) else (bif !SBay.kind x == (3 : Int) then (bif decide (SBay.vt x ≥ (1 : Int)) then (bif !decide (SBay.vt x ≤ (10000 : Int)) then some
 (T.leaf (AV.c (.d (.v (.bool false))), [])) else (bif decide (SBay.sat x ≥ (0 : Int)) then (bif decide (SBay.sat x ≤ (16383 : Int)) then (bif decide (SBay.travel x ≥ (1 :
 Int)) then some (T.leaf (AV.c (.d (.v (.bool (decide (SBay.travel x ≤ (6 : Int)))))), [])) else some (T.leaf (AV.c (.d (.v (.bool false))), []))) else some (T.leaf
 (AV.c (.d (.v (.bool false))), []))) else some (T.leaf (AV.c (.d (.v (.bool false))), [])))) else some (T.leaf (AV.c (.d (.v (.bool false))), []))) else (bif
 decide (SBay.sat x ≥ (0 : Int)) then (bif decide (SBay.sat x ≤ (16383 : Int)) then (bif decide (SBay.travel x ≥ (1 : Int)) then some (T.leaf (AV.c (.d (.v (.bool (decide
 (SBay.travel x ≤ (6 : Int)))))), [])) else some (T.leaf (AV.c (.d (.v (.bool false))), []))) else some (T.leaf (AV.c (.d (.v (.bool false))), []))) else some (T.leaf
 (AV.c (.d (.v (.bool false))), [])))))) else some (T.leaf (AV.c (.d (.v (.bool false))), [])))) else (bif decide (SBay.ct x ≥ (1 : Int)) then (bif !decide (SBay.ct x ≤
 (100 : Int)) then some (T.leaf (AV.c (.d (.v (.bool false))), [])) else (bif SBay.kind x == (3 : Int) then (bif SBay.vt x != (0 : Int) then some (T.leaf (AV.c (C.d (D.v
 (Value.bool false))), [])) else (bif !SBay.kind x == (3 : Int) then (bif decide (SBay.vt x ≥ (1 : Int)) then (bif !decide (SBay.vt x ≤ (10000 : Int)) then some (T.leaf (AV.c (C.d
 (D.v (.bool false))), [])) else (bif decide (SBay.sat x ≥ (0 : Int)) then (bif decide (SBay.sat x ≤ (16383 : Int)) then (bif decide (SBay.travel x ≥ (1 : Int)) then some
 (T.leaf (AV.c (.d (.v (.bool (decide (SBay.travel x ≤ (6 : Int)))))), [])) else some (T.leaf (AV.c (.d (.v (.bool false))), []))) else some (T.leaf (AV.c (C.d (D.v
 (Value.bool false))), []))) else some (T.leaf (AV.c (.d (.v (.bool false))), [])))) else some (T.leaf (AV.c (.d (.v (.bool false))), []))) else (bif decide (SBay.sat x
 ≥ (0 : Int)) then (bif decide (SBay.sat x ≤ (16383 : Int)) then (bif decide (SBay.travel x ≥ (1 : Int)) then some (T.leaf (AV.c (.d (.v (.bool (decide (SBay.travel x ≤ (6 :
 Int)))))), [])) else some (T.leaf (AV.c (.d (.v (.bool false))), []))) else some (T.leaf (AV.c (.d (.v (.bool false))), []))) else some (T.leaf (AV.c (C.d (D.v
 (Value.bool false))), []))))) else (bif !SBay.kind x == (3 : Int) then (bif decide (SBay.vt x ≥ (1 : Int)) then (bif !decide (SBay.vt x ≤ (10000 : Int)) then some (T.leaf (AV.c (C.d
 (D.v (.bool false))), [])) else (bif decide (SBay.sat x ≥ (0 : Int)) then (bif decide (SBay.sat x ≤ (16383 : Int)) then (bif decide (SBay.travel x ≥ (1 : Int)) then some
 (T.leaf (AV.c (.d (.v (.bool (decide (SBay.travel x ≤ (6 : Int)))))), [])) else some (T.leaf (AV.c (.d (.v (.bool false))), []))) else some (T.leaf (AV.c (C.d (D.v
 (Value.bool false))), []))) else some (T.leaf (AV.c (.d (.v (.bool false))), [])))) else some (T.leaf (AV.c (.d (.v (.bool false))), []))) else (bif decide (SBay.sat x
 ≥ (0 : Int)) then (bif decide (SBay.sat x ≤ (16383 : Int)) then (bif decide (SBay.travel x ≥ (1 : Int)) then some (T.leaf (AV.c (.d (.v (.bool (decide (SBay.travel x ≤ (6 :
 Int)))))), [])) else some (T.leaf (AV.c (.d (.v (.bool false))), []))) else some (T.leaf (AV.c (.d (.v (.bool false))), []))) else some (T.leaf (AV.c (C.d (D.v
 (Value.bool false))), [])))))) else some (T.leaf (AV.c (.d (.v (.bool false))), []))))) else some (T.leaf (AV.c (.d (.v (.bool false))), []))) else some (T.leaf (AV.c
 (C.d (.v (.bool false))), []))) else some (T.leaf (AV.c (.d (.v (.bool false))), []))) else (bif !SBay.kind x == (3 : Int) then (bif !(SBay.zr x == (0 : Int) &&
 (SBay.zx x == (0 : Int) && true)) then some (T.leaf (AV.c (.d (.v (.bool false))), [])) else (bif decide (SBay.ct x ≥ (1 : Int)) then (bif !decide (SBay.ct x ≤ (100 : Int))
 then some (T.leaf (AV.c (.d (.v (.bool false))), [])) else (bif SBay.kind x == (3 : Int) then (bif SBay.vt x != (0 : Int) then some (T.leaf (AV.c (C.d (D.v (Value.bool
 false))), [])) else (bif !SBay.kind x == (3 : Int) then (bif decide (SBay.vt x ≥ (1 : Int)) then (bif !decide (SBay.vt x ≤ (10000 : Int)) then some (T.leaf (AV.c (C.d (D.v
 (Value.bool false))), [])) else (bif decide (SBay.sat x ≥ (0 : Int)) then (bif decide (SBay.sat x ≤ (16383 : Int)) then (bif decide (SBay.travel x ≥ (1 : Int)) then some (T.leaf
 (AV.c (.d (.v (.bool (decide (SBay.travel x ≤ (6 : Int)))))), [])) else some (T.leaf (AV.c (.d (.v (.bool false))), []))) else some (T.leaf (AV.c (C.d (D.v (Value.bool
 false))), []))) else some (T.leaf (AV.c (.d (.v (.bool false))), [])))) else some (T.leaf (AV.c (.d (.v (.bool false))), []))) else (bif decide (SBay.sat x ≥ (0 :
 Int)) then (bif decide (SBay.sat x ≤ (16383 : Int)) then (bif decide (SBay.travel x ≥ (1 : Int)) then some (T.leaf (AV.c (.d (.v (.bool (decide (SBay.travel x ≤ (6 :
 Int)))))), [])) else some (T.leaf (AV.c (.d (.v (.bool false))), []))) else some (T.leaf (AV.c (.d (.v (.bool false))), []))) else some (T.leaf (AV.c (C.d (D.v
 (Value.bool false))), []))))) else (bif !SBay.kind x == (3 : Int) then (bif decide (SBay.vt x ≥ (1 : Int)) then (bif !decide (SBay.vt x ≤ (10000 : Int)) then some (T.leaf (AV.c (C.d
 (D.v (.bool false))), [])) else (bif decide (SBay.sat x ≥ (0 : Int)) then (bif decide (SBay.sat x ≤ (16383 : Int)) then (bif decide (SBay.travel x ≥ (1 : Int)) then some
 (T.leaf (AV.c (.d (.v (.bool (decide (SBay.travel x ≤ (6 : Int)))))), [])) else some (T.leaf (AV.c (.d (.v (.bool false))), []))) else some (T.leaf (AV.c (C.d (D.v
 (Value.bool false))), []))) else some (T.leaf (AV.c (.d (.v (.bool false))), [])))) else some (T.leaf (AV.c (.d (.v (.bool false))), []))) else (bif decide (SBay.sat x
 ≥ (0 : Int)) then (bif decide (SBay.sat x ≤ (16383 : Int)) then (bif decide (SBay.travel x ≥ (1 : Int)) then some (T.leaf (AV.c (.d (.v (.bool (decide (SBay.travel x ≤ (6 :
 Int)))))), [])) else some (T.leaf (AV.c (.d (.v (.bool false))), []))) else some (T.leaf (AV.c (.d (.v (.bool false))), []))) else some (T.leaf (AV.c (C.d (D.v
 (Value.bool false))), [])))))) else some (T.leaf (AV.c (.d (.v (.bool false))), [])))) else (bif decide (SBay.ct x ≥ (1 : Int)) then (bif !decide (SBay.ct x ≤ (100 : Int))
 then some (T.leaf (AV.c (.d (.v (.bool false))), [])) else (bif SBay.kind x == (3 : Int) then (bif SBay.vt x != (0 : Int) then some (T.leaf (AV.c (C.d (D.v (Value.bool
 false))), [])) else (bif !SBay.kind x == (3 : Int) then (bif decide (SBay.vt x ≥ (1 : Int)) then (bif !decide (SBay.vt x ≤ (10000 : Int)) then some (T.leaf (AV.c (C.d (D.v
 (Value.bool false))), [])) else (bif decide (SBay.sat x ≥ (0 : Int)) then (bif decide (SBay.sat x ≤ (16383 : Int)) then (bif decide (SBay.travel x ≥ (1 : Int)) then some (T.leaf
 (AV.c (.d (.v (.bool (decide (SBay.travel x ≤ (6 : Int)))))), [])) else some (T.leaf (AV.c (.d (.v (.bool false))), []))) else some (T.leaf (AV.c (C.d (D.v (Value.bool
 false))), []))) else some (T.leaf (AV.c (.d (.v (.bool false))), [])))) else some (T.leaf (AV.c (.d (.v (.bool false))), []))) else (bif decide (SBay.sat x ≥ (0 :
 Int)) then (bif decide (SBay.sat x ≤ (16383 : Int)) then (bif decide (SBay.travel x ≥ (1 : Int)) then some (T.leaf (AV.c (.d (.v (.bool (decide (SBay.travel x ≤ (6 :
 Int)))))), [])) else some (T.leaf (AV.c (.d (.v (.bool false))), []))) else some (T.leaf (AV.c (.d (.v (.bool false))), []))) else some (T.leaf (AV.c (C.d (D.v
 (Value.bool false))), []))))) else (bif !SBay.kind x == (3 : Int) then (bif decide (SBay.vt x ≥ (1 : Int)) then (bif !decide (SBay.vt x ≤ (10000 : Int)) then some (T.leaf (AV.c (C.d
 (D.v (.bool false))), [])) else (bif decide (SBay.sat x ≥ (0 : Int)) then (bif decide (SBay.sat x ≤ (16383 : Int)) then (bif decide (SBay.travel x ≥ (1 : Int)) then some
 (T.leaf (AV.c (.d (.v (.bool (decide (SBay.travel x ≤ (6 : Int)))))), [])) else some (T.leaf (AV.c (.d (.v (.bool false))), []))) else some (T.leaf (AV.c (C.d (D.v
 (Value.bool false))), []))) else some (T.leaf (AV.c (.d (.v (.bool false))), [])))) else some (T.leaf (AV.c (.d (.v (.bool false))), []))) else (bif decide (SBay.sat x
 ≥ (0 : Int)) then (bif decide (SBay.sat x ≤ (16383 : Int)) then (bif decide (SBay.travel x ≥ (1 : Int)) then some (T.leaf (AV.c (.d (.v (.bool (decide (SBay.travel x ≤ (6 :
 Int)))))), [])) else some (T.leaf (AV.c (.d (.v (.bool false))), []))) else some (T.leaf (AV.c (.d (.v (.bool false))), []))) else some (T.leaf (AV.c (C.d (D.v
 (Value.bool false))), [])))))) else some (T.leaf (AV.c (.d (.v (.bool false))), []))))))) := by kernel_rfl
noncomputable def ann50 : Ann := annOf [(5, ⟨[3, 2, 5, 6], []⟩)]
noncomputable def L50_5 (s : SSta) (x : SBay) (g m : Nat) (i6 : Int) := LK Tryz.prog Orc.nil ann50 0 g Tryz.f89 5 m ⟨frm [(2, .c (.ptr 0 0)), (3, .c (.ptr 1 0)), (5, .c (.d (.v (.int .i64 (↑(List.length (SBay.links x)) : Int))))), (6, .c (.d (.v (.int .i64 i6))))] 0 Tryz.f89.ntmps, [(0, Blk.cells [.d (.v (.string (SSta.name s))), C.d (D.sl 1 (List.length (SSta.buses s)) fun i => busC (List.getD (SSta.buses s) i e0)), C.d (D.sl 5 (List.length (SSta.lines s)) fun i => Aao (List.getD (SSta.lines s) i Aah)), C.d (D.sl 6 (List.length (SSta.srcs s)) fun i => Aan (List.getD (SSta.srcs s) i src0)), C.d (D.sl 12 (List.length (SSta.bays s)) fun i => bayC (List.getD (SSta.bays s) i bay0))] 27), (1, Blk.cells [.d (.v (.string (SBay.name x))), .d (.v (.int .i64 (SBay.kind x))), .d (.v (.int .i64 (SBay.off x))), .d (.v (.int .i64 (SBay.fin x))), .d (.v (.int .i64 (SBay.zr x))), .d (.v (.int .i64 (SBay.zx x))), C.d (D.sl 2 (List.length (SBay.links x)) fun i => linkC (List.getD (SBay.links x) i link0)), .d (.v (.bool (SBay.closed x))), .d (.v (.int .i64 (SBay.ct x))), .d (.v (.int .i64 (SBay.vt x))), .d (.v (.int .i64 (SBay.sat x))), .d (.v (.int .i64 (SBay.travel x)))] 69)], 2⟩
theorem b50 : Tryz.f89.body = some (Aad Tryz.f89) := by kernel_rfl
theorem ev50 (s : SSta) (x : SBay) (g : Nat) : Aal Tryz.prog Orc.nil ann50 g Tryz.f89 (Aad Tryz.f89) [aSta s, aBay x] [] =
 (bif decide ((↑(List.length (SBay.links x)) : Int) < (1 : Int)) then some (T.leaf (AV.c (.d (.v (.int .i64 (3 : Int)))), [])) else (bif decide ((↑(List.length
 (SBay.links x)) : Int) > (2 : Int)) then some (T.leaf (AV.c (.d (.v (.int .i64 (3 : Int)))), [])) else (bif SBay.kind x == (3 : Int) then (bif (↑(List.length
 (SBay.links x)) : Int) != (2 : Int) then some (T.leaf (AV.c (.d (.v (.int .i64 (3 : Int)))), [])) else L50_5 s x g g ((0 : Int))) else L50_5 s x g g ((0 : Int))))) := by kernel_rfl
theorem st50_5 (s : SSta) (x : SBay) (g m : Nat) (i6 : Int) : L50_5 s x g (m + 1) i6 =
 (bif decide (i6 < (↑(List.length (SBay.links x)) : Int)) then (bif decide ((0 : Int) ≤ i6) && decide (i6 < (↑(List.length (SBay.links x)) : Int)) then (bif decide (SLink.bus
 (List.getD (SBay.links x) (Int.toNat i6) link0) < (0 : Int)) then some (T.leaf (AV.c (.d (.v (.int .i64 (9 : Int)))), [])) else (bif decide (SLink.bus (List.getD
 (SBay.links x) (Int.toNat i6) link0) ≥ (↑(List.length (SSta.buses s)) : Int)) then some (T.leaf (AV.c (.d (.v (.int .i64 (9 : Int)))), [])) else (bif SLink.pos
 (List.getD (SBay.links x) (Int.toNat i6) link0) != (1 : Int) then (bif SLink.pos (List.getD (SBay.links x) (Int.toNat i6) link0) != (0 : Int) then some (T.leaf (AV.c (C.d (D.v
 (Value.int IntKind.i64 (16 : Int)))), [])) else (bif SBay.kind x == (3 : Int) then some (T.leaf (AV.c (.d (.v (.int .i64 (16 : Int)))), [])) else (bif decide (i6 > (0
 : Int)) then (bif decide ((0 : Int) ≤ IntKind.wrap .i64 (i6 - (1 : Int))) && decide (IntKind.wrap .i64 (i6 - (1 : Int)) < (↑(List.length (SBay.links x)) : Int)) then
 (bif SLink.bus (List.getD (SBay.links x) (Int.toNat i6) link0) == SLink.bus (List.getD (SBay.links x) (Int.toNat (IntKind.wrap .i64 (i6 - (1 : Int)))) link0) then some
 (T.leaf (AV.c (.d (.v (.int .i64 (12 : Int)))), [])) else L50_5 s x g m (IntKind.wrap .i64 (i6 + (1 : Int)))) else none) else L50_5 s x g m (IntKind.wrap
 IntKind.i64 (i6 + (1 : Int)))))) else (bif decide (i6 > (0 : Int)) then (bif decide ((0 : Int) ≤ IntKind.wrap .i64 (i6 - (1 : Int))) && decide (IntKind.wrap .i64 (i6 -
 (1 : Int)) < (↑(List.length (SBay.links x)) : Int)) then (bif SLink.bus (List.getD (SBay.links x) (Int.toNat i6) link0) == SLink.bus (List.getD (SBay.links x) (Int.toNat
 (IntKind.wrap .i64 (i6 - (1 : Int)))) link0) then some (T.leaf (AV.c (.d (.v (.int .i64 (12 : Int)))), [])) else L50_5 s x g m (IntKind.wrap .i64 (i6 +
 (1 : Int)))) else none) else L50_5 s x g m (IntKind.wrap .i64 (i6 + (1 : Int))))))) else none) else some (T.leaf (AV.c (.d (.v (.int .i64 (0 : Int)))), []))) := by kernel_rfl
def dSB : Dec (List AV × Hp) ((RSta × RBay × Unit) × Unit) := .pair (.cons (.agg staD) (.cons (.agg bayD) .nil)) .nil
def dSI : Dec (List AV × Hp) ((RSta × Int × Unit) × Unit) := .pair (.cons (.agg staD) (.cons (.c .i64) .nil)) .nil
def dSI4 : Dec (List AV × Hp) ((RSta × Int × Int × Int × Int × Unit) × Unit) := .pair (.cons (.agg staD) (.cons (.c .i64) (.cons (.c .i64) (.cons (.c .i64) (.cons (.c .i64) .nil))))) .nil
def dDS : Dec (List AV × Hp) ((D × ByteArray × Unit) × Unit) := .pair (.cons (.c .data) (.cons (.c .str) .nil)) .nil
noncomputable def o24 (rg okr : RBay → Bool) (ok : RSta → RBay → Bool) (lk : RSta → RBay → Int) : Orc := Orc.cons 87 (inl Tryz.prog Orc.nil na 1 Tryz.f87) (Orc.cons 88 (ansD d54 (fun a => okr a.1.1) (fun a => vB (rg a.1.1)) fun _ => [])
  (Orc.cons 89 (ansD dSB (fun a => ok a.1.1 a.1.2.1) (fun a => vI (lk a.1.1 a.1.2.1)) fun _ => []) Orc.nil))
noncomputable def ann24 : Ann := annOf [(8, ⟨[5, 2, 1, 7], []⟩)]
noncomputable def L24_8 (rg okr : RBay → Bool) (ok : RSta → RBay → Bool) (lk : RSta → RBay → Int) (s : SSta) (n : Int) (g m : Nat) (i7 : Int) := LK Tryz.prog (o24 rg okr ok lk) ann24 0 g Tryz.f36 8 m ⟨frm [(1, .c (.d (.v (.int .i64 n)))), (2, .c (.ptr 0 0)), (5, .c (.ptr 1 0)), (7, .c (.d (.v (.int .i64 i7))))] 0 Tryz.f36.ntmps, [(0, Blk.cells [.d (.v (.string (SSta.name s))), C.d (D.sl 1 (List.length (SSta.buses s)) fun i => busC (List.getD (SSta.buses s) i e0)), C.d (D.sl 5 (List.length (SSta.lines s)) fun i => Aao (List.getD (SSta.lines s) i Aah)), C.d (D.sl 6 (List.length (SSta.srcs s)) fun i => Aan (List.getD (SSta.srcs s) i src0)), C.d (D.sl 12 (List.length (SSta.bays s)) fun i => bayC (List.getD (SSta.bays s) i bay0))] 27), (1, Blk.cells [.d (.v (.string (SBay.name (List.getD (SSta.bays s) (Int.toNat n) bay0)))), .d (.v (.int .i64 (SBay.kind (List.getD (SSta.bays s) (Int.toNat n) bay0)))), .d (.v (.int .i64 (SBay.off (List.getD (SSta.bays s) (Int.toNat n) bay0)))), .d (.v (.int .i64 (SBay.fin (List.getD (SSta.bays s) (Int.toNat n) bay0)))), .d (.v (.int .i64 (SBay.zr (List.getD (SSta.bays s) (Int.toNat n) bay0)))), .d (.v (.int .i64 (SBay.zx (List.getD (SSta.bays s) (Int.toNat n) bay0)))), C.d (D.sl 2 (List.length (SBay.links (List.getD (SSta.bays s) (Int.toNat n) bay0))) fun i => linkC (List.getD (SBay.links (List.getD (SSta.bays s) (Int.toNat n) bay0)) i link0)), .d (.v (.bool (SBay.closed (List.getD (SSta.bays s) (Int.toNat n) bay0)))), .d (.v (.int .i64 (SBay.ct (List.getD (SSta.bays s) (Int.toNat n) bay0)))), .d (.v (.int .i64 (SBay.vt (List.getD (SSta.bays s) (Int.toNat n) bay0)))), .d (.v (.int .i64 (SBay.sat (List.getD (SSta.bays s) (Int.toNat n) bay0)))), .d (.v (.int .i64 (SBay.travel (List.getD (SSta.bays s) (Int.toNat n) bay0))))] 69)], 2⟩
theorem b24 : Tryz.f36.body = some (Aad Tryz.f36) := by kernel_rfl
theorem ev24 (rg okr : RBay → Bool) (ok : RSta → RBay → Bool) (lk : RSta → RBay → Int) (s : SSta) (n : Int) (g : Nat) : Aal Tryz.prog (o24 rg okr ok lk) ann24 g Tryz.f36 (Aad Tryz.f36) [aSta s, vI n] [] =
 (bif decide ((0 : Int) ≤ n) && decide (n < (↑(List.length (SSta.bays s)) : Int)) then (bif SBay.kind (List.getD (SSta.bays s) (Int.toNat n) bay0) == (1 : Int) then (bif decide
 (SBay.off (List.getD (SSta.bays s) (Int.toNat n) bay0) < (0 : Int)) then some (T.leaf (AV.c (.d (.v (.int .i64 (9 : Int)))), [])) else (bif decide (SBay.off (List.getD
 (SSta.bays s) (Int.toNat n) bay0) ≥ (↑(List.length (SSta.lines s)) : Int)) then some (T.leaf (AV.c (.d (.v (.int .i64 (9 : Int)))), [])) else (bif okr (SBay.name
 (List.getD (SSta.bays s) (Int.toNat n) bay0), SBay.kind (List.getD (SSta.bays s) (Int.toNat n) bay0), SBay.off (List.getD (SSta.bays s) (Int.toNat n) bay0), SBay.fin (List.getD
 (SSta.bays s) (Int.toNat n) bay0), SBay.zr (List.getD (SSta.bays s) (Int.toNat n) bay0), SBay.zx (List.getD (SSta.bays s) (Int.toNat n) bay0), linksD (SBay.links (List.getD
 (SSta.bays s) (Int.toNat n) bay0)), SBay.closed (List.getD (SSta.bays s) (Int.toNat n) bay0), SBay.ct (List.getD (SSta.bays s) (Int.toNat n) bay0), SBay.vt (List.getD (SSta.bays s)
 (Int.toNat n) bay0), SBay.sat (List.getD (SSta.bays s) (Int.toNat n) bay0), SBay.travel (List.getD (SSta.bays s) (Int.toNat n) bay0), ()) then (bif !rg (SBay.name (List.getD
 (SSta.bays s) (Int.toNat n) bay0), SBay.kind (List.getD (SSta.bays s) (Int.toNat n) bay0), SBay.off (List.getD (SSta.bays s) (Int.toNat n) bay0), SBay.fin (List.getD (SSta.bays s)
 (Int.toNat n) bay0), SBay.zr (List.getD (SSta.bays s) (Int.toNat n) bay0), SBay.zx (List.getD (SSta.bays s) (Int.toNat n) bay0), linksD (SBay.links (List.getD (SSta.bays s)
 (Int.toNat n) bay0)), SBay.closed (List.getD (SSta.bays s) (Int.toNat n) bay0), SBay.ct (List.getD (SSta.bays s) (Int.toNat n) bay0), SBay.vt (List.getD (SSta.bays s) (Int.toNat n)
 bay0), SBay.sat (List.getD (SSta.bays s) (Int.toNat n) bay0), SBay.travel (List.getD (SSta.bays s) (Int.toNat n) bay0), ()) then some (T.leaf (AV.c (C.d (D.v (Value.int IntKind.i64
 (2 : Int)))), [])) else L24_8 rg okr ok lk s n g g ((0 : Int))) else none))) else (bif SBay.kind (List.getD (SSta.bays s) (Int.toNat n) bay0) == (2 : Int) then (bif decide (SBay.off
 (List.getD (SSta.bays s) (Int.toNat n) bay0) < (0 : Int)) then some (T.leaf (AV.c (.d (.v (.int .i64 (9 : Int)))), [])) else (bif decide (SBay.off (List.getD
 (SSta.bays s) (Int.toNat n) bay0) ≥ (↑(List.length (SSta.srcs s)) : Int)) then some (T.leaf (AV.c (.d (.v (.int .i64 (9 : Int)))), [])) else (bif okr (SBay.name
 (List.getD (SSta.bays s) (Int.toNat n) bay0), SBay.kind (List.getD (SSta.bays s) (Int.toNat n) bay0), SBay.off (List.getD (SSta.bays s) (Int.toNat n) bay0), SBay.fin (List.getD
 (SSta.bays s) (Int.toNat n) bay0), SBay.zr (List.getD (SSta.bays s) (Int.toNat n) bay0), SBay.zx (List.getD (SSta.bays s) (Int.toNat n) bay0), linksD (SBay.links (List.getD
 (SSta.bays s) (Int.toNat n) bay0)), SBay.closed (List.getD (SSta.bays s) (Int.toNat n) bay0), SBay.ct (List.getD (SSta.bays s) (Int.toNat n) bay0), SBay.vt (List.getD (SSta.bays s)
 (Int.toNat n) bay0), SBay.sat (List.getD (SSta.bays s) (Int.toNat n) bay0), SBay.travel (List.getD (SSta.bays s) (Int.toNat n) bay0), ()) then (bif !rg (SBay.name (List.getD
 (SSta.bays s) (Int.toNat n) bay0), SBay.kind (List.getD (SSta.bays s) (Int.toNat n) bay0), SBay.off (List.getD (SSta.bays s) (Int.toNat n) bay0), SBay.fin (List.getD (SSta.bays s)
 (Int.toNat n) bay0), SBay.zr (List.getD (SSta.bays s) (Int.toNat n) bay0), SBay.zx (List.getD (SSta.bays s) (Int.toNat n) bay0), linksD (SBay.links (List.getD (SSta.bays s)
 (Int.toNat n) bay0)), SBay.closed (List.getD (SSta.bays s) (Int.toNat n) bay0), SBay.ct (List.getD (SSta.bays s) (Int.toNat n) bay0), SBay.vt (List.getD (SSta.bays s) (Int.toNat n)
 bay0), SBay.sat (List.getD (SSta.bays s) (Int.toNat n) bay0), SBay.travel (List.getD (SSta.bays s) (Int.toNat n) bay0), ()) then some (T.leaf (AV.c (C.d (D.v (Value.int IntKind.i64
 (2 : Int)))), [])) else L24_8 rg okr ok lk s n g g ((0 : Int))) else none))) else (bif SBay.kind (List.getD (SSta.bays s) (Int.toNat n) bay0) == (3 : Int) then (bif SBay.off
 (List.getD (SSta.bays s) (Int.toNat n) bay0) != (0 : Int) then some (T.leaf (AV.c (.d (.v (.int .i64 (9 : Int)))), [])) else (bif okr (SBay.name (List.getD (SSta.bays
 s) (Int.toNat n) bay0), SBay.kind (List.getD (SSta.bays s) (Int.toNat n) bay0), SBay.off (List.getD (SSta.bays s) (Int.toNat n) bay0), SBay.fin (List.getD (SSta.bays s) (Int.toNat
 n) bay0), SBay.zr (List.getD (SSta.bays s) (Int.toNat n) bay0), SBay.zx (List.getD (SSta.bays s) (Int.toNat n) bay0), linksD (SBay.links (List.getD (SSta.bays s) (Int.toNat n)
 bay0)), SBay.closed (List.getD (SSta.bays s) (Int.toNat n) bay0), SBay.ct (List.getD (SSta.bays s) (Int.toNat n) bay0), SBay.vt (List.getD (SSta.bays s) (Int.toNat n) bay0),
 SBay.sat (List.getD (SSta.bays s) (Int.toNat n) bay0), SBay.travel (List.getD (SSta.bays s) (Int.toNat n) bay0), ()) then (bif !rg (SBay.name (List.getD (SSta.bays s) (Int.toNat n)
 bay0), SBay.kind (List.getD (SSta.bays s) (Int.toNat n) bay0), SBay.off (List.getD (SSta.bays s) (Int.toNat n) bay0), SBay.fin (List.getD (SSta.bays s) (Int.toNat n) bay0), SBay.zr
 (List.getD (SSta.bays s) (Int.toNat n) bay0), SBay.zx (List.getD (SSta.bays s) (Int.toNat n) bay0), linksD (SBay.links (List.getD (SSta.bays s) (Int.toNat n) bay0)), SBay.closed
 (List.getD (SSta.bays s) (Int.toNat n) bay0), SBay.ct (List.getD (SSta.bays s) (Int.toNat n) bay0), SBay.vt (List.getD (SSta.bays s) (Int.toNat n) bay0), SBay.sat (List.getD
 (SSta.bays s) (Int.toNat n) bay0), SBay.travel (List.getD (SSta.bays s) (Int.toNat n) bay0), ()) then some (T.leaf (AV.c (.d (.v (.int .i64 (2 : Int)))), [])) else
 L24_8 rg okr ok lk s n g g ((0 : Int))) else none)) else some (T.leaf (AV.c (.d (.v (.int .i64 (10 : Int)))), []))))) else none) := by kernel_rfl
theorem st24_8 (rg okr : RBay → Bool) (ok : RSta → RBay → Bool) (lk : RSta → RBay → Int) (s : SSta) (n : Int) (g m : Nat) (i7 : Int) : L24_8 rg okr ok lk s n g (m + 1) i7 =
 (bif decide (i7 < n) then (bif SBay.kind (List.getD (SSta.bays s) (Int.toNat n) bay0) != (3 : Int) then (bif decide ((0 : Int) ≤ i7) && decide (i7 < (↑(List.length (SSta.bays s)) :
 Int)) then (bif SBay.kind (List.getD (SSta.bays s) (Int.toNat i7) bay0) == SBay.kind (List.getD (SSta.bays s) (Int.toNat n) bay0) then (bif decide ((0 : Int) ≤ i7) && decide (i7 <
 (↑(List.length (SSta.bays s)) : Int)) then (bif SBay.off (List.getD (SSta.bays s) (Int.toNat i7) bay0) == SBay.off (List.getD (SSta.bays s) (Int.toNat n) bay0) then (bif decide ((0
 : Int) ≤ i7) && decide (i7 < (↑(List.length (SSta.bays s)) : Int)) then (bif SBay.fin (List.getD (SSta.bays s) (Int.toNat i7) bay0) == SBay.fin (List.getD (SSta.bays s) (Int.toNat
 n) bay0) then some (T.leaf (AV.c (.d (.v (.int .i64 (12 : Int)))), [])) else L24_8 rg okr ok lk s n g m (IntKind.wrap .i64 (i7 + (1 : Int)))) else none) else
 L24_8 rg okr ok lk s n g m (IntKind.wrap .i64 (i7 + (1 : Int)))) else none) else L24_8 rg okr ok lk s n g m (IntKind.wrap .i64 (i7 + (1 : Int)))) else none) else (bif
 ok (SSta.name s, D.sl 1 (List.length (SSta.buses s)) fun i => busC (List.getD (SSta.buses s) i e0), D.sl 5 (List.length (SSta.lines s)) fun i => Aao (List.getD
 (SSta.lines s) i Aah), D.sl 6 (List.length (SSta.srcs s)) fun i => Aan (List.getD (SSta.srcs s) i src0), D.sl 12 (List.length (SSta.bays s)) fun i => bayC
 (List.getD (SSta.bays s) i bay0), ()) (SBay.name (List.getD (SSta.bays s) (Int.toNat n) bay0), SBay.kind (List.getD (SSta.bays s) (Int.toNat n) bay0), SBay.off (List.getD (SSta.bays
 s) (Int.toNat n) bay0), SBay.fin (List.getD (SSta.bays s) (Int.toNat n) bay0), SBay.zr (List.getD (SSta.bays s) (Int.toNat n) bay0), SBay.zx (List.getD (SSta.bays s) (Int.toNat n)
 bay0), D.sl 2 (List.length (SBay.links (List.getD (SSta.bays s) (Int.toNat n) bay0))) fun i => linkC (List.getD (SBay.links (List.getD (SSta.bays s) (Int.toNat n) bay0)) i
 link0), SBay.closed (List.getD (SSta.bays s) (Int.toNat n) bay0), SBay.ct (List.getD (SSta.bays s) (Int.toNat n) bay0), SBay.vt (List.getD (SSta.bays s) (Int.toNat n) bay0),
 SBay.sat (List.getD (SSta.bays s) (Int.toNat n) bay0), SBay.travel (List.getD (SSta.bays s) (Int.toNat n) bay0), ()) then some (T.leaf (AV.c (.d (.v (.int .i64 (lk
 (SSta.name s, D.sl 1 (List.length (SSta.buses s)) fun i => busC (List.getD (SSta.buses s) i e0), D.sl 5 (List.length (SSta.lines s)) fun i => Aao (List.getD
 (SSta.lines s) i Aah), D.sl 6 (List.length (SSta.srcs s)) fun i => Aan (List.getD (SSta.srcs s) i src0), D.sl 12 (List.length (SSta.bays s)) fun i => bayC
 (List.getD (SSta.bays s) i bay0), ()) (SBay.name (List.getD (SSta.bays s) (Int.toNat n) bay0), SBay.kind (List.getD (SSta.bays s) (Int.toNat n) bay0), SBay.off (List.getD (SSta.bays
 s) (Int.toNat n) bay0), SBay.fin (List.getD (SSta.bays s) (Int.toNat n) bay0), SBay.zr (List.getD (SSta.bays s) (Int.toNat n) bay0), SBay.zx (List.getD (SSta.bays s) (Int.toNat n)
 bay0), D.sl 2 (List.length (SBay.links (List.getD (SSta.bays s) (Int.toNat n) bay0))) fun i => linkC (List.getD (SBay.links (List.getD (SSta.bays s) (Int.toNat n) bay0)) i
 link0), SBay.closed (List.getD (SSta.bays s) (Int.toNat n) bay0), SBay.ct (List.getD (SSta.bays s) (Int.toNat n) bay0), SBay.vt (List.getD (SSta.bays s) (Int.toNat n) bay0),
 SBay.sat (List.getD (SSta.bays s) (Int.toNat n) bay0), SBay.travel (List.getD (SSta.bays s) (Int.toNat n) bay0), ()))))), [])) else none)) else (bif ok (SSta.name s, D.sl 1
 (List.length (SSta.buses s)) fun i => busC (List.getD (SSta.buses s) i e0), D.sl 5 (List.length (SSta.lines s)) fun i => Aao (List.getD (SSta.lines s) i Aah), D.sl (6 :
 Nat) (List.length (SSta.srcs s)) fun i => Aan (List.getD (SSta.srcs s) i src0), D.sl 12 (List.length (SSta.bays s)) fun i => bayC (List.getD (SSta.bays s) i bay0), ())
 (SBay.name (List.getD (SSta.bays s) (Int.toNat n) bay0), SBay.kind (List.getD (SSta.bays s) (Int.toNat n) bay0), SBay.off (List.getD (SSta.bays s) (Int.toNat n) bay0), SBay.fin
 (List.getD (SSta.bays s) (Int.toNat n) bay0), SBay.zr (List.getD (SSta.bays s) (Int.toNat n) bay0), SBay.zx (List.getD (SSta.bays s) (Int.toNat n) bay0), D.sl 2 (List.length
 (SBay.links (List.getD (SSta.bays s) (Int.toNat n) bay0))) fun i => linkC (List.getD (SBay.links (List.getD (SSta.bays s) (Int.toNat n) bay0)) i link0), SBay.closed (List.getD
 (SSta.bays s) (Int.toNat n) bay0), SBay.ct (List.getD (SSta.bays s) (Int.toNat n) bay0), SBay.vt (List.getD (SSta.bays s) (Int.toNat n) bay0), SBay.sat (List.getD (SSta.bays s)
 (Int.toNat n) bay0), SBay.travel (List.getD (SSta.bays s) (Int.toNat n) bay0), ()) then some (T.leaf (AV.c (.d (.v (.int .i64 (lk (SSta.name s, D.sl 1
 (List.length (SSta.buses s)) fun i => busC (List.getD (SSta.buses s) i e0), D.sl 5 (List.length (SSta.lines s)) fun i => Aao (List.getD (SSta.lines s) i Aah), D.sl (6 :
 Nat) (List.length (SSta.srcs s)) fun i => Aan (List.getD (SSta.srcs s) i src0), D.sl 12 (List.length (SSta.bays s)) fun i => bayC (List.getD (SSta.bays s) i bay0), ())
 (SBay.name (List.getD (SSta.bays s) (Int.toNat n) bay0), SBay.kind (List.getD (SSta.bays s) (Int.toNat n) bay0), SBay.off (List.getD (SSta.bays s) (Int.toNat n) bay0), SBay.fin
 (List.getD (SSta.bays s) (Int.toNat n) bay0), SBay.zr (List.getD (SSta.bays s) (Int.toNat n) bay0), SBay.zx (List.getD (SSta.bays s) (Int.toNat n) bay0), D.sl 2 (List.length
 (SBay.links (List.getD (SSta.bays s) (Int.toNat n) bay0))) fun i => linkC (List.getD (SBay.links (List.getD (SSta.bays s) (Int.toNat n) bay0)) i link0), SBay.closed (List.getD
 (SSta.bays s) (Int.toNat n) bay0), SBay.ct (List.getD (SSta.bays s) (Int.toNat n) bay0), SBay.vt (List.getD (SSta.bays s) (Int.toNat n) bay0), SBay.sat (List.getD (SSta.bays s)
 (Int.toNat n) bay0), SBay.travel (List.getD (SSta.bays s) (Int.toNat n) bay0), ()))))), [])) else none)) := by kernel_rfl
noncomputable def o20 (nk : ByteArray → Bool) (ok : D → ByteArray → Bool) (ix : D → ByteArray → Int) : Orc := Orc.cons 31 (ansP decS fun s => vB (nk s)) (Orc.cons 85 (ansD dDS (fun a => ok a.1.1 a.1.2.1) (fun a => vI (ix a.1.1 a.1.2.1)) fun _ => []) Orc.nil)
noncomputable def ann20 : Ann := annOf []
theorem b20 : Tryz.f32.body = some (Aad Tryz.f32) := by kernel_rfl
theorem ev20 (nk : ByteArray → Bool) (ok : D → ByteArray → Bool) (ix : D → ByteArray → Int) (l : List ByteArray) (s : ByteArray) (g : Nat) : Aal Tryz.prog (o20 nk ok ix) ann20 g Tryz.f32 (Aad Tryz.f32) [.c (.d (Aab l)), vS s] [] =
 (bif !nk s then some (T.leaf (AV.c (.d (.v (.int .i64 (7 : Int)))), [])) else (bif ok (Aab l) s then (bif decide (ix (Aab l) s ≥ (0 : Int)) then some (T.leaf
 (AV.c (.d (.v (.int .i64 (8 : Int)))), [])) else some (T.leaf (AV.c (.d (.v (.int .i64 (0 : Int)))), []))) else none)) := by kernel_rfl
structure K8 where
  nk : ByteArray → Bool
  okn : (RSta × Int × Int × Int × Int × Unit) → Bool
  nm : (RSta × Int × Int × Int × Int × Unit) → D
  okd : D → ByteArray → Bool
  nd : D → ByteArray → Int
  okb : RSta → Int → Bool
  be : RSta → Int → Int
noncomputable def o8 (Z : K8) : Orc := Orc.cons 31 (ansP decS fun s => vB (Z.nk s)) (Orc.cons 33 (ansD dSI4 (fun a => Z.okn a.1) (fun a => .c (.d (Z.nm a.1))) fun _ => []) (Orc.cons 32 (ansD dDS (fun a => Z.okd a.1.1 a.1.2.1) (fun a => vI (Z.nd a.1.1 a.1.2.1)) fun _ => [])
  (Orc.cons 35 (inl Tryz.prog oOh na 1 Tryz.f35) (Orc.cons 36 (ansD dSI (fun a => Z.okb a.1.1 a.1.2.1) (fun a => vI (Z.be a.1.1 a.1.2.1)) fun _ => []) oOh))))
noncomputable def ann8 : Ann := annOf [(7, ⟨[1, 3, 4, 5, 6, 7], []⟩), (13, ⟨[1, 3, 4, 5, 6, 9], []⟩), (21, ⟨[1, 4, 3, 5, 6, 11], []⟩), (29, ⟨[1, 5, 4, 3, 6, 13], []⟩)]
noncomputable def L8_7 (Z : K8) (s : SSta) (g m : Nat) (i7 : Int) := LK Tryz.prog (o8 Z) ann8 0 g Tryz.f12 7 m ⟨frm [(1, .c (.ptr 0 0)), (3, .c (.d (.v (.int .i64 (↑(List.length (SSta.buses s)) : Int))))), (4, .c (.d (.v (.int .i64 (↑(List.length (SSta.lines s)) : Int))))), (5, .c (.d (.v (.int .i64 (↑(List.length (SSta.srcs s)) : Int))))), (6, .c (.d (.v (.int .i64 (↑(List.length (SSta.bays s)) : Int))))), (7, .c (.d (.v (.int .i64 i7))))] 0 Tryz.f12.ntmps, [(0, Blk.cells [.d (.v (.string (SSta.name s))), C.d (D.sl 1 (List.length (SSta.buses s)) fun i => busC (List.getD (SSta.buses s) i e0)), C.d (D.sl 5 (List.length (SSta.lines s)) fun i => Aao (List.getD (SSta.lines s) i Aah)), C.d (D.sl 6 (List.length (SSta.srcs s)) fun i => Aan (List.getD (SSta.srcs s) i src0)), C.d (D.sl 12 (List.length (SSta.bays s)) fun i => bayC (List.getD (SSta.bays s) i bay0))] 27)], 1⟩
noncomputable def L8_13 (Z : K8) (s : SSta) (g m : Nat) (i9 : Int) := LK Tryz.prog (o8 Z) ann8 0 g Tryz.f12 13 m ⟨frm [(1, .c (.ptr 0 0)), (3, .c (.d (.v (.int .i64 (↑(List.length (SSta.buses s)) : Int))))), (4, .c (.d (.v (.int .i64 (↑(List.length (SSta.lines s)) : Int))))), (5, .c (.d (.v (.int .i64 (↑(List.length (SSta.srcs s)) : Int))))), (6, .c (.d (.v (.int .i64 (↑(List.length (SSta.bays s)) : Int))))), (9, .c (.d (.v (.int .i64 i9))))] 0 Tryz.f12.ntmps, [(0, Blk.cells [.d (.v (.string (SSta.name s))), C.d (D.sl 1 (List.length (SSta.buses s)) fun i => busC (List.getD (SSta.buses s) i e0)), C.d (D.sl 5 (List.length (SSta.lines s)) fun i => Aao (List.getD (SSta.lines s) i Aah)), C.d (D.sl 6 (List.length (SSta.srcs s)) fun i => Aan (List.getD (SSta.srcs s) i src0)), C.d (D.sl 12 (List.length (SSta.bays s)) fun i => bayC (List.getD (SSta.bays s) i bay0))] 27)], 1⟩
noncomputable def L8_21 (Z : K8) (s : SSta) (g m : Nat) (i11 : Int) := LK Tryz.prog (o8 Z) ann8 0 g Tryz.f12 21 m ⟨frm [(1, .c (.ptr 0 0)), (3, .c (.d (.v (.int .i64 (↑(List.length (SSta.buses s)) : Int))))), (4, .c (.d (.v (.int .i64 (↑(List.length (SSta.lines s)) : Int))))), (5, .c (.d (.v (.int .i64 (↑(List.length (SSta.srcs s)) : Int))))), (6, .c (.d (.v (.int .i64 (↑(List.length (SSta.bays s)) : Int))))), (11, .c (.d (.v (.int .i64 i11))))] 0 Tryz.f12.ntmps, [(0, Blk.cells [.d (.v (.string (SSta.name s))), C.d (D.sl 1 (List.length (SSta.buses s)) fun i => busC (List.getD (SSta.buses s) i e0)), C.d (D.sl 5 (List.length (SSta.lines s)) fun i => Aao (List.getD (SSta.lines s) i Aah)), C.d (D.sl 6 (List.length (SSta.srcs s)) fun i => Aan (List.getD (SSta.srcs s) i src0)), C.d (D.sl 12 (List.length (SSta.bays s)) fun i => bayC (List.getD (SSta.bays s) i bay0))] 27)], 1⟩
noncomputable def L8_29 (Z : K8) (s : SSta) (g m : Nat) (i13 : Int) := LK Tryz.prog (o8 Z) ann8 0 g Tryz.f12 29 m ⟨frm [(1, .c (.ptr 0 0)), (3, .c (.d (.v (.int .i64 (↑(List.length (SSta.buses s)) : Int))))), (4, .c (.d (.v (.int .i64 (↑(List.length (SSta.lines s)) : Int))))), (5, .c (.d (.v (.int .i64 (↑(List.length (SSta.srcs s)) : Int))))), (6, .c (.d (.v (.int .i64 (↑(List.length (SSta.bays s)) : Int))))), (13, .c (.d (.v (.int .i64 i13))))] 0 Tryz.f12.ntmps, [(0, Blk.cells [.d (.v (.string (SSta.name s))), C.d (D.sl 1 (List.length (SSta.buses s)) fun i => busC (List.getD (SSta.buses s) i e0)), C.d (D.sl 5 (List.length (SSta.lines s)) fun i => Aao (List.getD (SSta.lines s) i Aah)), C.d (D.sl 6 (List.length (SSta.srcs s)) fun i => Aan (List.getD (SSta.srcs s) i src0)), C.d (D.sl 12 (List.length (SSta.bays s)) fun i => bayC (List.getD (SSta.bays s) i bay0))] 27)], 1⟩
theorem b8 : Tryz.f12.body = some (Aad Tryz.f12) := by kernel_rfl
theorem ev8 (Z : K8) (s : SSta) (g : Nat) : Aal Tryz.prog (o8 Z) ann8 g Tryz.f12 (Aad Tryz.f12) [aSta s] [] =
 (bif !K8.nk Z (SSta.name s) then some (T.leaf (AV.c (.d (.v (.int .i64 (7 : Int)))), [])) else (bif decide ((↑(List.length (SSta.buses s)) : Int) < (1 : Int)) then
 some (T.leaf (AV.c (.d (.v (.int .i64 (3 : Int)))), [])) else (bif decide ((↑(List.length (SSta.buses s)) : Int) > (4 : Int)) then some (T.leaf (AV.c (C.d (D.v
 (Value.int IntKind.i64 (3 : Int)))), [])) else (bif decide ((↑(List.length (SSta.lines s)) : Int) > (6 : Int)) then some (T.leaf (AV.c (.d (.v (.int .i64 (3 : Int)))),
 [])) else (bif decide ((↑(List.length (SSta.srcs s)) : Int) > (4 : Int)) then some (T.leaf (AV.c (.d (.v (.int .i64 (3 : Int)))), [])) else (bif decide ((↑(List.length
 (SSta.bays s)) : Int) > (16 : Int)) then some (T.leaf (AV.c (.d (.v (.int .i64 (3 : Int)))), [])) else L8_7 Z s g g ((0 : Int)))))))) := by kernel_rfl
theorem st8_7 (Z : K8) (s : SSta) (g m : Nat) (i7 : Int) : L8_7 Z s g (m + 1) i7 =
 (bif decide (i7 < (↑(List.length (SSta.buses s)) : Int)) then (bif K8.okn Z ((SSta.name s, D.sl 1 (List.length (SSta.buses s)) fun i => busC (List.getD (SSta.buses s) i e0),
 D.sl 5 (List.length (SSta.lines s)) fun i => Aao (List.getD (SSta.lines s) i Aah), D.sl 6 (List.length (SSta.srcs s)) fun i => Aan (List.getD (SSta.srcs s) i
 src0), D.sl 12 (List.length (SSta.bays s)) fun i => bayC (List.getD (SSta.bays s) i bay0), ()), i7, (0 : Int), (0 : Int), (0 : Int), ()) then (bif decide ((0 : Int) ≤ i7) &&
 decide (i7 < (↑(List.length (SSta.buses s)) : Int)) then (bif K8.okd Z (K8.nm Z ((SSta.name s, D.sl 1 (List.length (SSta.buses s)) fun i => busC (List.getD (SSta.buses s) i
 e0), D.sl 5 (List.length (SSta.lines s)) fun i => Aao (List.getD (SSta.lines s) i Aah), D.sl 6 (List.length (SSta.srcs s)) fun i => Aan (List.getD (SSta.srcs
 s) i src0), D.sl 12 (List.length (SSta.bays s)) fun i => bayC (List.getD (SSta.bays s) i bay0), ()), i7, (0 : Int), (0 : Int), (0 : Int), ())) (List.getD (SSta.buses s)
 (Int.toNat i7) e0) then (bif K8.nd Z (K8.nm Z ((SSta.name s, D.sl 1 (List.length (SSta.buses s)) fun i => busC (List.getD (SSta.buses s) i e0), D.sl 5 (List.length
 (SSta.lines s)) fun i => Aao (List.getD (SSta.lines s) i Aah), D.sl 6 (List.length (SSta.srcs s)) fun i => Aan (List.getD (SSta.srcs s) i src0), D.sl 12
 (List.length (SSta.bays s)) fun i => bayC (List.getD (SSta.bays s) i bay0), ()), i7, (0 : Int), (0 : Int), (0 : Int), ())) (List.getD (SSta.buses s) (Int.toNat i7) e0) != (0 : Int)
 then some (T.leaf (AV.c (.d (.v (.int .i64 (K8.nd Z (K8.nm Z ((SSta.name s, D.sl 1 (List.length (SSta.buses s)) fun i => busC (List.getD (SSta.buses s) i e0),
 D.sl 5 (List.length (SSta.lines s)) fun i => Aao (List.getD (SSta.lines s) i Aah), D.sl 6 (List.length (SSta.srcs s)) fun i => Aan (List.getD (SSta.srcs s) i
 src0), D.sl 12 (List.length (SSta.bays s)) fun i => bayC (List.getD (SSta.bays s) i bay0), ()), i7, (0 : Int), (0 : Int), (0 : Int), ())) (List.getD (SSta.buses s)
 (Int.toNat i7) e0))))), [])) else L8_7 Z s g m (IntKind.wrap .i64 (i7 + (1 : Int)))) else none) else none) else none) else L8_13 Z s g g ((0 : Int))) := by kernel_rfl
theorem st8_13 (Z : K8) (s : SSta) (g m : Nat) (i9 : Int) : L8_13 Z s g (m + 1) i9 =
 (bif decide (i9 < (↑(List.length (SSta.lines s)) : Int)) then (bif K8.okn Z ((SSta.name s, D.sl 1 (List.length (SSta.buses s)) fun i => busC (List.getD (SSta.buses s) i e0),
 D.sl 5 (List.length (SSta.lines s)) fun i => Aao (List.getD (SSta.lines s) i Aah), D.sl 6 (List.length (SSta.srcs s)) fun i => Aan (List.getD (SSta.srcs s) i
 src0), D.sl 12 (List.length (SSta.bays s)) fun i => bayC (List.getD (SSta.bays s) i bay0), ()), (↑(List.length (SSta.buses s)) : Int), i9, (0 : Int), (0 : Int), ()) then
 (bif decide ((0 : Int) ≤ i9) && decide (i9 < (↑(List.length (SSta.lines s)) : Int)) then (bif K8.okd Z (K8.nm Z ((SSta.name s, D.sl 1 (List.length (SSta.buses s)) fun i =>
 busC (List.getD (SSta.buses s) i e0), D.sl 5 (List.length (SSta.lines s)) fun i => Aao (List.getD (SSta.lines s) i Aah), D.sl 6 (List.length (SSta.srcs s)) fun i
 => Aan (List.getD (SSta.srcs s) i src0), D.sl 12 (List.length (SSta.bays s)) fun i => bayC (List.getD (SSta.bays s) i bay0), ()), (↑(List.length (SSta.buses s)) : Int),
 i9, (0 : Int), (0 : Int), ())) (SLine.name (List.getD (SSta.lines s) (Int.toNat i9) Aah)) then (bif K8.nd Z (K8.nm Z ((SSta.name s, D.sl 1 (List.length (SSta.buses s)) fun
 i => busC (List.getD (SSta.buses s) i e0), D.sl 5 (List.length (SSta.lines s)) fun i => Aao (List.getD (SSta.lines s) i Aah), D.sl 6 (List.length (SSta.srcs s))
 fun i => Aan (List.getD (SSta.srcs s) i src0), D.sl 12 (List.length (SSta.bays s)) fun i => bayC (List.getD (SSta.bays s) i bay0), ()), (↑(List.length (SSta.buses s)) :
 Int), i9, (0 : Int), (0 : Int), ())) (SLine.name (List.getD (SSta.lines s) (Int.toNat i9) Aah)) == (0 : Int) then (bif decide ((0 : Int) ≤ i9) && decide (i9 < (↑(List.length
 (SSta.lines s)) : Int)) then (bif decide (SLine.r1 (List.getD (SSta.lines s) (Int.toNat i9) Aah) ≥ (0 : Int)) then (bif decide (SLine.r1 (List.getD (SSta.lines s) (Int.toNat i9)
 Aah) ≤ (1000 : Int)) then (bif decide (SLine.x1 (List.getD (SSta.lines s) (Int.toNat i9) Aah) ≥ (1 : Int)) then (bif !decide (SLine.x1 (List.getD (SSta.lines s) (Int.toNat i9)
 Aah) ≤ (1000 : Int)) then some (T.leaf (AV.c (.d (.v (.int .i64 (2 : Int)))), [])) else (bif decide ((0 : Int) ≤ i9) && decide (i9 < (↑(List.length (SSta.lines s)) :
 Int)) then (bif decide (SLine.r0 (List.getD (SSta.lines s) (Int.toNat i9) Aah) ≥ (0 : Int)) then (bif decide (SLine.r0 (List.getD (SSta.lines s) (Int.toNat i9) Aah) ≤ (1000 :
 Int)) then (bif decide (SLine.x0 (List.getD (SSta.lines s) (Int.toNat i9) Aah) ≥ (1 : Int)) then (bif !decide (SLine.x0 (List.getD (SSta.lines s) (Int.toNat i9) Aah) ≤ (1000 :
 Int)) then some (T.leaf (AV.c (.d (.v (.int .i64 (2 : Int)))), [])) else (bif K8.nd Z (K8.nm Z ((SSta.name s, D.sl 1 (List.length (SSta.buses s)) fun i => busC
 (List.getD (SSta.buses s) i e0), D.sl 5 (List.length (SSta.lines s)) fun i => Aao (List.getD (SSta.lines s) i Aah), D.sl 6 (List.length (SSta.srcs s)) fun i =>
 Aan (List.getD (SSta.srcs s) i src0), D.sl 12 (List.length (SSta.bays s)) fun i => bayC (List.getD (SSta.bays s) i bay0), ()), (↑(List.length (SSta.buses s)) : Int), i9,
 (0 : Int), (0 : Int), ())) (SLine.name (List.getD (SSta.lines s) (Int.toNat i9) Aah)) != (0 : Int) then some (T.leaf (AV.c (.d (.v (.int .i64 (K8.nd Z (K8.nm Z
 ((SSta.name s, D.sl 1 (List.length (SSta.buses s)) fun i => busC (List.getD (SSta.buses s) i e0), D.sl 5 (List.length (SSta.lines s)) fun i => Aao (List.getD
 (SSta.lines s) i Aah), D.sl 6 (List.length (SSta.srcs s)) fun i => Aan (List.getD (SSta.srcs s) i src0), D.sl 12 (List.length (SSta.bays s)) fun i => bayC
 (List.getD (SSta.bays s) i bay0), ()), (↑(List.length (SSta.buses s)) : Int), i9, (0 : Int), (0 : Int), ())) (SLine.name (List.getD (SSta.lines s) (Int.toNat i9) Aah)))))), []))
 else L8_13 Z s g m (IntKind.wrap .i64 (i9 + (1 : Int))))) else some (T.leaf (AV.c (.d (.v (.int .i64 (2 : Int)))), []))) else some (T.leaf (AV.c (C.d (D.v
 (Value.int IntKind.i64 (2 : Int)))), []))) else some (T.leaf (AV.c (.d (.v (.int .i64 (2 : Int)))), []))) else none)) else some (T.leaf (AV.c (C.d (D.v (Value.int
 IntKind.i64 (2 : Int)))), []))) else some (T.leaf (AV.c (.d (.v (.int .i64 (2 : Int)))), []))) else some (T.leaf (AV.c (.d (.v (.int .i64 (2 : Int)))),
 []))) else none) else (bif K8.nd Z (K8.nm Z ((SSta.name s, D.sl 1 (List.length (SSta.buses s)) fun i => busC (List.getD (SSta.buses s) i e0), D.sl 5 (List.length
 (SSta.lines s)) fun i => Aao (List.getD (SSta.lines s) i Aah), D.sl 6 (List.length (SSta.srcs s)) fun i => Aan (List.getD (SSta.srcs s) i src0), D.sl 12
 (List.length (SSta.bays s)) fun i => bayC (List.getD (SSta.bays s) i bay0), ()), (↑(List.length (SSta.buses s)) : Int), i9, (0 : Int), (0 : Int), ())) (SLine.name (List.getD
 (SSta.lines s) (Int.toNat i9) Aah)) != (0 : Int) then some (T.leaf (AV.c (.d (.v (.int .i64 (K8.nd Z (K8.nm Z ((SSta.name s, D.sl 1 (List.length (SSta.buses
 s)) fun i => busC (List.getD (SSta.buses s) i e0), D.sl 5 (List.length (SSta.lines s)) fun i => Aao (List.getD (SSta.lines s) i Aah), D.sl 6 (List.length
 (SSta.srcs s)) fun i => Aan (List.getD (SSta.srcs s) i src0), D.sl 12 (List.length (SSta.bays s)) fun i => bayC (List.getD (SSta.bays s) i bay0), ()), (↑(List.length
 (SSta.buses s)) : Int), i9, (0 : Int), (0 : Int), ())) (SLine.name (List.getD (SSta.lines s) (Int.toNat i9) Aah)))))), [])) else L8_13 Z s g m (IntKind.wrap .i64 (i9 + (1 :
 Int))))) else none) else none) else none) else L8_21 Z s g g ((0 : Int))) := by kernel_rfl
theorem st8_21 (Z : K8) (s : SSta) (g m : Nat) (i11 : Int) : L8_21 Z s g (m + 1) i11 =
 (bif decide (i11 < (↑(List.length (SSta.srcs s)) : Int)) then (bif K8.okn Z ((SSta.name s, D.sl 1 (List.length (SSta.buses s)) fun i => busC (List.getD (SSta.buses s) i e0),
 D.sl 5 (List.length (SSta.lines s)) fun i => Aao (List.getD (SSta.lines s) i Aah), D.sl 6 (List.length (SSta.srcs s)) fun i => Aan (List.getD (SSta.srcs s) i
 src0), D.sl 12 (List.length (SSta.bays s)) fun i => bayC (List.getD (SSta.bays s) i bay0), ()), (↑(List.length (SSta.buses s)) : Int), (↑(List.length (SSta.lines s)) : Int),
 i11, (0 : Int), ()) then (bif decide ((0 : Int) ≤ i11) && decide (i11 < (↑(List.length (SSta.srcs s)) : Int)) then (bif K8.okd Z (K8.nm Z ((SSta.name s, D.sl 1 (List.length
 (SSta.buses s)) fun i => busC (List.getD (SSta.buses s) i e0), D.sl 5 (List.length (SSta.lines s)) fun i => Aao (List.getD (SSta.lines s) i Aah), D.sl 6
 (List.length (SSta.srcs s)) fun i => Aan (List.getD (SSta.srcs s) i src0), D.sl 12 (List.length (SSta.bays s)) fun i => bayC (List.getD (SSta.bays s) i bay0), ()),
 (↑(List.length (SSta.buses s)) : Int), (↑(List.length (SSta.lines s)) : Int), i11, (0 : Int), ())) (SSrc.name (List.getD (SSta.srcs s) (Int.toNat i11) src0)) then (bif K8.nd Z
 (K8.nm Z ((SSta.name s, D.sl 1 (List.length (SSta.buses s)) fun i => busC (List.getD (SSta.buses s) i e0), D.sl 5 (List.length (SSta.lines s)) fun i => Aao
 (List.getD (SSta.lines s) i Aah), D.sl 6 (List.length (SSta.srcs s)) fun i => Aan (List.getD (SSta.srcs s) i src0), D.sl 12 (List.length (SSta.bays s)) fun i =>
 bayC (List.getD (SSta.bays s) i bay0), ()), (↑(List.length (SSta.buses s)) : Int), (↑(List.length (SSta.lines s)) : Int), i11, (0 : Int), ())) (SSrc.name (List.getD (SSta.srcs s)
 (Int.toNat i11) src0)) == (0 : Int) then (bif decide ((0 : Int) ≤ i11) && decide (i11 < (↑(List.length (SSta.srcs s)) : Int)) then (bif decide (SSrc.emf (List.getD (SSta.srcs s)
 (Int.toNat i11) src0) ≥ (1 : Int)) then (bif decide (SSrc.emf (List.getD (SSta.srcs s) (Int.toNat i11) src0) ≤ (1000000 : Int)) then (bif decide (SSrc.r1 (List.getD (SSta.srcs s)
 (Int.toNat i11) src0) ≥ (0 : Int)) then (bif decide (SSrc.r1 (List.getD (SSta.srcs s) (Int.toNat i11) src0) ≤ (1000 : Int)) then (bif decide (SSrc.x1 (List.getD (SSta.srcs s)
 (Int.toNat i11) src0) ≥ (1 : Int)) then (bif decide (SSrc.x1 (List.getD (SSta.srcs s) (Int.toNat i11) src0) ≤ (1000 : Int)) then (bif decide (SSrc.r0 (List.getD (SSta.srcs s)
 (Int.toNat i11) src0) ≥ (0 : Int)) then (bif decide (SSrc.r0 (List.getD (SSta.srcs s) (Int.toNat i11) src0) ≤ (1000 : Int)) then (bif decide (SSrc.x0 (List.getD (SSta.srcs s)
 (Int.toNat i11) src0) ≥ (1 : Int)) then (bif !decide (SSrc.x0 (List.getD (SSta.srcs s) (Int.toNat i11) src0) ≤ (1000 : Int)) then some (T.leaf (AV.c (C.d (D.v (Value.int IntKind.i64
 (2 : Int)))), [])) else (bif K8.nd Z (K8.nm Z ((SSta.name s, D.sl 1 (List.length (SSta.buses s)) fun i => busC (List.getD (SSta.buses s) i e0), D.sl 5 (List.length
 (SSta.lines s)) fun i => Aao (List.getD (SSta.lines s) i Aah), D.sl 6 (List.length (SSta.srcs s)) fun i => Aan (List.getD (SSta.srcs s) i src0), D.sl 12
 (List.length (SSta.bays s)) fun i => bayC (List.getD (SSta.bays s) i bay0), ()), (↑(List.length (SSta.buses s)) : Int), (↑(List.length (SSta.lines s)) : Int), i11, (0 : Int), ()))
 (SSrc.name (List.getD (SSta.srcs s) (Int.toNat i11) src0)) != (0 : Int) then some (T.leaf (AV.c (.d (.v (.int .i64 (K8.nd Z (K8.nm Z ((SSta.name s, D.sl 1
 (List.length (SSta.buses s)) fun i => busC (List.getD (SSta.buses s) i e0), D.sl 5 (List.length (SSta.lines s)) fun i => Aao (List.getD (SSta.lines s) i Aah), D.sl (6 :
 Nat) (List.length (SSta.srcs s)) fun i => Aan (List.getD (SSta.srcs s) i src0), D.sl 12 (List.length (SSta.bays s)) fun i => bayC (List.getD (SSta.bays s) i bay0), ()),
 (↑(List.length (SSta.buses s)) : Int), (↑(List.length (SSta.lines s)) : Int), i11, (0 : Int), ())) (SSrc.name (List.getD (SSta.srcs s) (Int.toNat i11) src0)))))), [])) else L8_21 Z
 s g m (IntKind.wrap .i64 (i11 + (1 : Int))))) else some (T.leaf (AV.c (.d (.v (.int .i64 (2 : Int)))), []))) else some (T.leaf (AV.c (C.d (D.v (Value.int
 IntKind.i64 (2 : Int)))), []))) else some (T.leaf (AV.c (.d (.v (.int .i64 (2 : Int)))), []))) else some (T.leaf (AV.c (.d (.v (.int .i64 (2 : Int)))),
 []))) else some (T.leaf (AV.c (.d (.v (.int .i64 (2 : Int)))), []))) else some (T.leaf (AV.c (.d (.v (.int .i64 (2 : Int)))), []))) else some (T.leaf
 (AV.c (.d (.v (.int .i64 (2 : Int)))), []))) else some (T.leaf (AV.c (.d (.v (.int .i64 (2 : Int)))), []))) else some (T.leaf (AV.c (C.d (D.v (Value.int
 IntKind.i64 (2 : Int)))), []))) else none) else (bif K8.nd Z (K8.nm Z ((SSta.name s, D.sl 1 (List.length (SSta.buses s)) fun i => busC (List.getD (SSta.buses s) i e0), D.sl
 5 (List.length (SSta.lines s)) fun i => Aao (List.getD (SSta.lines s) i Aah), D.sl 6 (List.length (SSta.srcs s)) fun i => Aan (List.getD (SSta.srcs s) i src0),
 D.sl 12 (List.length (SSta.bays s)) fun i => bayC (List.getD (SSta.bays s) i bay0), ()), (↑(List.length (SSta.buses s)) : Int), (↑(List.length (SSta.lines s)) : Int), i11,
 (0 : Int), ())) (SSrc.name (List.getD (SSta.srcs s) (Int.toNat i11) src0)) != (0 : Int) then some (T.leaf (AV.c (.d (.v (.int .i64 (K8.nd Z (K8.nm Z ((SSta.name s,
 D.sl 1 (List.length (SSta.buses s)) fun i => busC (List.getD (SSta.buses s) i e0), D.sl 5 (List.length (SSta.lines s)) fun i => Aao (List.getD (SSta.lines s) i
 Aah), D.sl 6 (List.length (SSta.srcs s)) fun i => Aan (List.getD (SSta.srcs s) i src0), D.sl 12 (List.length (SSta.bays s)) fun i => bayC (List.getD (SSta.bays
 s) i bay0), ()), (↑(List.length (SSta.buses s)) : Int), (↑(List.length (SSta.lines s)) : Int), i11, (0 : Int), ())) (SSrc.name (List.getD (SSta.srcs s) (Int.toNat i11) src0)))))),
 [])) else L8_21 Z s g m (IntKind.wrap .i64 (i11 + (1 : Int))))) else none) else none) else none) else L8_29 Z s g g ((0 : Int))) := by kernel_rfl
theorem st8_29 (Z : K8) (s : SSta) (g m : Nat) (i13 : Int) : L8_29 Z s g (m + 1) i13 =
 (bif decide (i13 < (↑(List.length (SSta.bays s)) : Int)) then (bif K8.okn Z ((SSta.name s, D.sl 1 (List.length (SSta.buses s)) fun i => busC (List.getD (SSta.buses s) i e0),
 D.sl 5 (List.length (SSta.lines s)) fun i => Aao (List.getD (SSta.lines s) i Aah), D.sl 6 (List.length (SSta.srcs s)) fun i => Aan (List.getD (SSta.srcs s) i
 src0), D.sl 12 (List.length (SSta.bays s)) fun i => bayC (List.getD (SSta.bays s) i bay0), ()), (↑(List.length (SSta.buses s)) : Int), (↑(List.length (SSta.lines s)) : Int),
 (↑(List.length (SSta.srcs s)) : Int), i13, ()) then (bif decide ((0 : Int) ≤ i13) && decide (i13 < (↑(List.length (SSta.bays s)) : Int)) then (bif K8.okd Z (K8.nm Z ((SSta.name s,
 D.sl 1 (List.length (SSta.buses s)) fun i => busC (List.getD (SSta.buses s) i e0), D.sl 5 (List.length (SSta.lines s)) fun i => Aao (List.getD (SSta.lines s) i
 Aah), D.sl 6 (List.length (SSta.srcs s)) fun i => Aan (List.getD (SSta.srcs s) i src0), D.sl 12 (List.length (SSta.bays s)) fun i => bayC (List.getD (SSta.bays
 s) i bay0), ()), (↑(List.length (SSta.buses s)) : Int), (↑(List.length (SSta.lines s)) : Int), (↑(List.length (SSta.srcs s)) : Int), i13, ())) (SBay.name (List.getD (SSta.bays s)
 (Int.toNat i13) bay0)) then (bif K8.nd Z (K8.nm Z ((SSta.name s, D.sl 1 (List.length (SSta.buses s)) fun i => busC (List.getD (SSta.buses s) i e0), D.sl 5
 (List.length (SSta.lines s)) fun i => Aao (List.getD (SSta.lines s) i Aah), D.sl 6 (List.length (SSta.srcs s)) fun i => Aan (List.getD (SSta.srcs s) i src0), D.sl (12
 : Nat) (List.length (SSta.bays s)) fun i => bayC (List.getD (SSta.bays s) i bay0), ()), (↑(List.length (SSta.buses s)) : Int), (↑(List.length (SSta.lines s)) : Int), (↑(List.length
 (SSta.srcs s)) : Int), i13, ())) (SBay.name (List.getD (SSta.bays s) (Int.toNat i13) bay0)) == (0 : Int) then (bif K8.okb Z (SSta.name s, D.sl 1 (List.length (SSta.buses s))
 fun i => busC (List.getD (SSta.buses s) i e0), D.sl 5 (List.length (SSta.lines s)) fun i => Aao (List.getD (SSta.lines s) i Aah), D.sl 6 (List.length (SSta.srcs
 s)) fun i => Aan (List.getD (SSta.srcs s) i src0), D.sl 12 (List.length (SSta.bays s)) fun i => bayC (List.getD (SSta.bays s) i bay0), ()) i13 then (bif K8.be Z (SSta.name
 s, D.sl 1 (List.length (SSta.buses s)) fun i => busC (List.getD (SSta.buses s) i e0), D.sl 5 (List.length (SSta.lines s)) fun i => Aao (List.getD (SSta.lines s) i
 Aah), D.sl 6 (List.length (SSta.srcs s)) fun i => Aan (List.getD (SSta.srcs s) i src0), D.sl 12 (List.length (SSta.bays s)) fun i => bayC (List.getD (SSta.bays
 s) i bay0), ()) i13 != (0 : Int) then some (T.leaf (AV.c (.d (.v (.int .i64 (K8.be Z (SSta.name s, D.sl 1 (List.length (SSta.buses s)) fun i => busC (List.getD
 (SSta.buses s) i e0), D.sl 5 (List.length (SSta.lines s)) fun i => Aao (List.getD (SSta.lines s) i Aah), D.sl 6 (List.length (SSta.srcs s)) fun i => Aan
 (List.getD (SSta.srcs s) i src0), D.sl 12 (List.length (SSta.bays s)) fun i => bayC (List.getD (SSta.bays s) i bay0), ()) i13)))), [])) else L8_29 Z s g m (IntKind.wrap
 IntKind.i64 (i13 + (1 : Int)))) else none) else (bif K8.nd Z (K8.nm Z ((SSta.name s, D.sl 1 (List.length (SSta.buses s)) fun i => busC (List.getD (SSta.buses s) i e0), D.sl
 5 (List.length (SSta.lines s)) fun i => Aao (List.getD (SSta.lines s) i Aah), D.sl 6 (List.length (SSta.srcs s)) fun i => Aan (List.getD (SSta.srcs s) i src0),
 D.sl 12 (List.length (SSta.bays s)) fun i => bayC (List.getD (SSta.bays s) i bay0), ()), (↑(List.length (SSta.buses s)) : Int), (↑(List.length (SSta.lines s)) : Int),
 (↑(List.length (SSta.srcs s)) : Int), i13, ())) (SBay.name (List.getD (SSta.bays s) (Int.toNat i13) bay0)) != (0 : Int) then some (T.leaf (AV.c (C.d (D.v (Value.int IntKind.i64
 (K8.nd Z (K8.nm Z ((SSta.name s, D.sl 1 (List.length (SSta.buses s)) fun i => busC (List.getD (SSta.buses s) i e0), D.sl 5 (List.length (SSta.lines s)) fun i =>
 Aao (List.getD (SSta.lines s) i Aah), D.sl 6 (List.length (SSta.srcs s)) fun i => Aan (List.getD (SSta.srcs s) i src0), D.sl 12 (List.length (SSta.bays s)) fun
 i => bayC (List.getD (SSta.bays s) i bay0), ()), (↑(List.length (SSta.buses s)) : Int), (↑(List.length (SSta.lines s)) : Int), (↑(List.length (SSta.srcs s)) : Int), i13, ()))
 (SBay.name (List.getD (SSta.bays s) (Int.toNat i13) bay0)))))), [])) else L8_29 Z s g m (IntKind.wrap .i64 (i13 + (1 : Int))))) else none) else none) else none) else some
 (T.leaf (AV.c (.d (.v (.int .i64 (0 : Int)))), []))) := by kernel_rfl
end Go.Proofs.YtmnfibmlhmeheaaGreatDoor.st
namespace Go.Proofs.YtmnfibmlhmeheaaGreatDoor.st
open Go.RowKit Go.Eb
noncomputable def ann21 : Ann := annOf [(3, ⟨[5, 4, 3, 2, 12, 11], []⟩), (7, ⟨[5, 4, 3, 13, 11], []⟩), (11, ⟨[5, 4, 14, 11], []⟩)]
noncomputable def L21_3 (s : SSta) (nb nl ns nq : Int) (g m : Nat) (n1 : Nat) (f1 : Nat → List D) (i12 : Int) := LK Tryz.prog Orc.nil ann21 0 g Tryz.f33 3 m ⟨frm [(2, .c (.d (.v (.int .i64 nl)))), (3, .c (.d (.v (.int .i64 ns)))), (4, .c (.d (.v (.int .i64 nq)))), (5, .c (.ptr 0 0)), (11, .c (.row 1 1 n1)), (12, .c (.d (.v (.int .i64 i12))))] 0 Tryz.f33.ntmps, [(0, Blk.cells [.d (.v (.string (SSta.name s))), C.d (D.sl 1 (List.length (SSta.buses s)) fun i => busC (List.getD (SSta.buses s) i e0)), C.d (D.sl 5 (List.length (SSta.lines s)) fun i => Aao (List.getD (SSta.lines s) i Aah)), C.d (D.sl 6 (List.length (SSta.srcs s)) fun i => Aan (List.getD (SSta.srcs s) i src0)), C.d (D.sl 12 (List.length (SSta.bays s)) fun i => bayC (List.getD (SSta.bays s) i bay0))] 27), (1, Blk.row n1 f1 1 9)], 2⟩
noncomputable def L21_7 (s : SSta) (nb nl ns nq : Int) (g m : Nat) (n1 : Nat) (f1 : Nat → List D) (i13 : Int) := LK Tryz.prog Orc.nil ann21 0 g Tryz.f33 7 m ⟨frm [(3, .c (.d (.v (.int .i64 ns)))), (4, .c (.d (.v (.int .i64 nq)))), (5, .c (.ptr 0 0)), (11, .c (.row 1 1 n1)), (13, .c (.d (.v (.int .i64 i13))))] 0 Tryz.f33.ntmps, [(0, Blk.cells [.d (.v (.string (SSta.name s))), C.d (D.sl 1 (List.length (SSta.buses s)) fun i => busC (List.getD (SSta.buses s) i e0)), C.d (D.sl 5 (List.length (SSta.lines s)) fun i => Aao (List.getD (SSta.lines s) i Aah)), C.d (D.sl 6 (List.length (SSta.srcs s)) fun i => Aan (List.getD (SSta.srcs s) i src0)), C.d (D.sl 12 (List.length (SSta.bays s)) fun i => bayC (List.getD (SSta.bays s) i bay0))] 27), (1, Blk.row n1 f1 1 9)], 2⟩
noncomputable def L21_11 (s : SSta) (nb nl ns nq : Int) (g m : Nat) (n1 : Nat) (f1 : Nat → List D) (i14 : Int) := LK Tryz.prog Orc.nil ann21 0 g Tryz.f33 11 m ⟨frm [(4, .c (.d (.v (.int .i64 nq)))), (5, .c (.ptr 0 0)), (11, .c (.row 1 1 n1)), (14, .c (.d (.v (.int .i64 i14))))] 0 Tryz.f33.ntmps, [(0, Blk.cells [.d (.v (.string (SSta.name s))), C.d (D.sl 1 (List.length (SSta.buses s)) fun i => busC (List.getD (SSta.buses s) i e0)), C.d (D.sl 5 (List.length (SSta.lines s)) fun i => Aao (List.getD (SSta.lines s) i Aah)), C.d (D.sl 6 (List.length (SSta.srcs s)) fun i => Aan (List.getD (SSta.srcs s) i src0)), C.d (D.sl 12 (List.length (SSta.bays s)) fun i => bayC (List.getD (SSta.bays s) i bay0))] 27), (1, Blk.row n1 f1 1 9)], 2⟩
theorem b21 : Tryz.f33.body = some (Aad Tryz.f33) := by kernel_rfl
theorem ev21 (s : SSta) (nb nl ns nq : Int) (g : Nat) : Aal Tryz.prog Orc.nil ann21 g Tryz.f33 (Aad Tryz.f33) [aSta s, vI nb, vI nl, vI ns, vI nq] [] =
 (bif decide ((0 : Int) ≤ (↑(0 : Nat) : Int)) && decide ((↑(0 : Nat) : Int) ≤ nb) && decide (nb ≤ (↑(List.length (SSta.buses s)) : Int)) then (bif decide ((0 + (Int.toNat nb
 - Int.toNat (↑(0 : Nat) : Int))) * 16 ≤ 140737488355328) && decide (0 + (Int.toNat nb - Int.toNat (↑(0 : Nat) : Int)) ≤ 9223372036854775807) then
 L21_3 s nb nl ns nq g g (0 + (Int.toNat nb - Int.toNat (↑(0 : Nat) : Int))) (appF 0 (Aaf [] (0 + 1)) fun i => busC (List.getD (SSta.buses s)
 (Int.toNat (↑(0 : Nat) : Int) + i) e0)) ((0 : Int)) else none) else none) := by kernel_rfl
theorem st21_3 (s : SSta) (nb nl ns nq : Int) (g m : Nat) (n1 : Nat) (f1 : Nat → List D) (i12 : Int) : L21_3 s nb nl ns nq g (m + 1) n1 f1 i12 =
 (bif decide (i12 < nl) then (bif decide ((0 : Int) ≤ i12) && decide (i12 < (↑(List.length (SSta.lines s)) : Int)) then (bif decide ((n1 + 1) * 16 ≤ (140737488355328
 : Nat)) && decide (n1 + 1 ≤ 9223372036854775807) then L21_3 s nb nl ns nq g m (n1 + 1) (appF n1 f1 (Aaf [dS (SLine.name (List.getD (SSta.lines s)
 (Int.toNat i12) Aah))] (0 + 1))) (IntKind.wrap .i64 (i12 + (1 : Int))) else none) else none) else L21_7 s nb nl ns nq g g n1 f1 ((0 : Int))) := by kernel_rfl
theorem st21_7 (s : SSta) (nb nl ns nq : Int) (g m : Nat) (n1 : Nat) (f1 : Nat → List D) (i13 : Int) : L21_7 s nb nl ns nq g (m + 1) n1 f1 i13 =
 (bif decide (i13 < ns) then (bif decide ((0 : Int) ≤ i13) && decide (i13 < (↑(List.length (SSta.srcs s)) : Int)) then (bif decide ((n1 + 1) * 16 ≤ (140737488355328 :
 Nat)) && decide (n1 + 1 ≤ 9223372036854775807) then L21_7 s nb nl ns nq g m (n1 + 1) (appF n1 f1 (Aaf [dS (SSrc.name (List.getD (SSta.srcs s) (Int.toNat
 i13) src0))] (0 + 1))) (IntKind.wrap .i64 (i13 + (1 : Int))) else none) else none) else L21_11 s nb nl ns nq g g n1 f1 ((0 : Int))) := by kernel_rfl
theorem st21_11 (s : SSta) (nb nl ns nq : Int) (g m : Nat) (n1 : Nat) (f1 : Nat → List D) (i14 : Int) : L21_11 s nb nl ns nq g (m + 1) n1 f1 i14 =
 (bif decide (i14 < nq) then (bif decide ((0 : Int) ≤ i14) && decide (i14 < (↑(List.length (SSta.bays s)) : Int)) then (bif decide ((n1 + 1) * 16 ≤ (140737488355328 :
 Nat)) && decide (n1 + 1 ≤ 9223372036854775807) then L21_11 s nb nl ns nq g m (n1 + 1) (appF n1 f1 (Aaf [dS (SBay.name (List.getD (SSta.bays s) (Int.toNat
 i14) bay0))] (0 + 1))) (IntKind.wrap .i64 (i14 + (1 : Int))) else none) else none) else some (T.leaf (AV.c (C.row (0) (1) n1), [(0,
 Blk.row n1 f1 (1) (9))]))) := by kernel_rfl
end Go.Proofs.YtmnfibmlhmeheaaGreatDoor.st
namespace Go.Proofs.YtmnfibmlhmeheaaGreatDoor.st
open Go.RowKit Go.Eb
theorem b46 : Tryz.f85.body = some (Aad Tryz.f85) := by kernel_rfl
def idxF (s : ByteArray) : Nat → List ByteArray → Int
  | _, [] => -1
  | i, x :: r => bif x.toList == s.toList then (i : Int) else idxF s (i + 1) r
theorem strEq' (a b : ByteArray) : (a.toList == b.toList) = (b.data.toList == a.data.toList) := by
  rw [ByteArray.toList_eq, ByteArray.toList_eq, Bool.beq_comm]
theorem idxF_ge (s : ByteArray) : ∀ (l : List ByteArray) (i : Nat), decide (idxF s i l ≥ 0) = inB l s
  | [], i => rfl
  | x :: r, i => by
    have ih := idxF_ge s r (i + 1)
    unfold inB at ih ⊢
    simp only [idxF, List.any_cons, strEq']
    cases (s.data.toList == x.data.toList) with
    | true => simp only [cond_true, Bool.true_or]; exact decide_eq_true (by omega)
    | false => simp only [cond_false, Bool.false_or]; exact ih
theorem lp46 (l : List ByteArray) (s : ByteArray) (g : Nat) (hl : l.length ≤ 9223372036854775807) : ∀ (m k : Nat), k ≤ l.length → l.length - k < m → L46 l s g m k = some (.leaf (vI (idxF s k (l.drop k)), []))
  | 0, k, _, h => by omega
  | m + 1, k, hk, h => by
    rw [st46]
    by_cases hlt : k < l.length
    · have ih := lp46 l s g hl m (k + 1) (by omega) (by omega)
      rw [drop_at' (d := e0) hlt]
      simp only [lt1 hlt, ge0, tn, Bool.and_self, cond_true, nx hlt hl, ih, idxF]
      cases ((l.getD k e0).toList == s.toList) <;> rfl
    · rw [lt0 hlt, List.drop_of_length_le (by omega)]
      rfl
theorem c46 (l : List ByteArray) (s : ByteArray) (hl : l.length ≤ 9223372036854775807) : CX Tryz.prog 85 [.c (.d (Aab l)), vS s] [] (vI (idxF s 0 l)) [] := by
  obtain ⟨g, hg⟩ : ∃ g, l.length < g := ⟨l.length + 1, by omega⟩
  exact cx_of (Orc.nil_ok _) Tryz.func85 b46 rfl ((ev46 l s g).trans (lp46 l s g hl g 0 (by omega) (by omega)))
noncomputable def okDS (x : D) (_ : ByteArray) : Bool := okE Aab x && decide ((theE Aab x).length ≤ 9223372036854775807)
noncomputable def ixDS (x : D) (s : ByteArray) : Int := idxF s 0 (theE Aab x)
theorem s20 : OrcS Tryz.prog (o20 Aae okDS ixDS) := by
  refine .cons (.p decS_ok c16) (.cons (.d fun a ha => ?_) .nil)
  unfold okDS at ha
  simp only [Bool.and_eq_true, decide_eq_true_eq] at ha
  exact (c46 (theE Aab a.1.1) a.1.2.1 ha.2).ge (.cons (theE_de ha.1) (.cons (.refl _) .nil)) (.refl _)
theorem c20 (l : List ByteArray) (s : ByteArray) (hl : l.length ≤ 9223372036854775807) : CX Tryz.prog 32 [.c (.d (Aab l)), vS s] [] (vI (namErr l s)) [] := by
  refine cx_of s20.ok Tryz.func32 b20 rfl ((ev20 Aae okDS ixDS l s 1).trans ?_)
  have e1 : okDS (Aab l) s = true := by unfold okDS; rw [(the_list busC_inj l).1, (the_list busC_inj l).2]; simp [hl]
  have e2 : ixDS (Aab l) s = idxF s 0 l := by unfold ixDS; rw [(the_list busC_inj l).2]
  rw [e1, e2, idxF_ge]
  unfold namErr
  cases Aae s <;> cases inB l s <;> rfl
theorem app_loop {α : Type} {nm : α → ByteArray} {d0 : α} {l : List α} {q : Nat} {L : Nat → Nat → (Nat → List D) → Int → Option (T (AV × Hp))} {E : Nat → (Nat → List D) → Option (T (AV × Hp))} (hq : q ≤ l.length) (hq2 : q ≤ 900)
    (hst : ∀ (m k n : Nat) (f : Nat → List D), k < q → n ≤ 9000 → L (m + 1) n f k = L m (n + 1) (appF n f (Aaf (busC (nm (l.getD k d0))) 1)) ((k + 1 : Nat) : Int)) (hend : ∀ m n f, L (m + 1) n f q = E n f) :
    ∀ (m k n : Nat) (f : Nat → List D) (acc : List ByteArray), RL busC e0 n f acc → k ≤ q → q - k < m → acc.length + (q - k) ≤ 9000 → ∃ n' f', RL busC e0 n' f' (acc ++ ((l.take q).drop k).map nm) ∧ L m n f k = E n' f'
  | 0, k, n, f, acc, _, _, h, _ => by omega
  | m + 1, k, n, f, acc, hr, hk, h, hb => by
    by_cases e : k = q
    · subst e
      rw [hend, List.drop_of_length_le (by simp; omega)]
      exact ⟨n, f, by simpa using hr, rfl⟩
    · have hlt : k < q := by omega
      rw [hst m k n f hlt (by have := hr.len; omega)]
      have ht : k < (l.take q).length := by simp; omega
      have hg : (l.take q).getD k d0 = l.getD k d0 := by simp [List.getD, hlt]
      rw [drop_at' (d := d0) ht, hg]
      obtain ⟨n', f', h1, h2⟩ := app_loop hq hq2 hst hend m (k + 1) (n + 1) (appF n f (Aaf (busC (nm (l.getD k d0))) 1)) (acc ++ [nm (l.getD k d0)]) (hr.app' rfl) (by omega) (by omega) (by simp; omega)
      exact ⟨n', f', by simpa using h1, h2⟩
def namesOf (s : SSta) (nb nl ns nq : Nat) : List ByteArray := s.buses.take nb ++ (s.lines.take nl).map SLine.name ++ (s.srcs.take ns).map SSrc.name ++ (s.bays.take nq).map SBay.name
theorem apOk {n : Nat} (h : n ≤ 9000) : (decide ((n + 1) * 16 ≤ 140737488355328) && decide (n + 1 ≤ 9223372036854775807)) = true := by
  rw [decide_eq_true (by omega), decide_eq_true (by omega)]; rfl
theorem c21 (s : SSta) (nb nl ns nq : Nat) (h1 : nb ≤ s.buses.length) (h2 : nl ≤ s.lines.length) (h3 : ns ≤ s.srcs.length) (h4 : nq ≤ s.bays.length) (g1 : nb ≤ 900) (g2 : nl ≤ 900) (g3 : ns ≤ 900) (g4 : nq ≤ 900) :
    CX Tryz.prog 33 [aSta s, vI nb, vI nl, vI ns, vI nq] [] (.c (.d (Aab (namesOf s nb nl ns nq)))) [] := by
  obtain ⟨g, hg⟩ : ∃ g, 900 < g := ⟨901, by omega⟩
  have lt1' : ∀ {k n : Nat}, k < n → decide ((k : Int) < (n : Int)) = true := lt1
  have p4 := fun n f acc (hr : RL busC e0 n f acc) (hb : acc.length ≤ 8000) => app_loop (nm := SBay.name) (d0 := bay0) (l := s.bays) (q := nq) (L := fun m n f i => L21_11 s nb nl ns nq g m n f i) (E := fun n f => some (.leaf (.c (.row 0 1 n), [(0, .row n f 1 9)]))) h4 g4
    (fun m k n f hk hn => by
      rw [st21_11]
      simp only [lt1 hk, lt1 (show k < s.bays.length by omega), ge0, tn, Bool.and_self, cond_true, nx hk (by omega), apOk hn]
      rfl)
    (fun m n f => by rw [st21_11, lt0 (Nat.lt_irrefl _)]; rfl) g 0 n f acc hr (by omega) (by omega) (by omega)
  have p3 := fun n f acc (hr : RL busC e0 n f acc) (hb : acc.length ≤ 7000) => app_loop (nm := SSrc.name) (d0 := src0) (l := s.srcs) (q := ns) (L := fun m n f i => L21_7 s nb nl ns nq g m n f i) (E := fun n f => L21_11 s nb nl ns nq g g n f 0) h3 g3
    (fun m k n f hk hn => by
      rw [st21_7]
      simp only [lt1 hk, lt1 (show k < s.srcs.length by omega), ge0, tn, Bool.and_self, cond_true, nx hk (by omega), apOk hn]
      rfl)
    (fun m n f => by rw [st21_7, lt0 (Nat.lt_irrefl _)]; rfl) g 0 n f acc hr (by omega) (by omega) (by omega)
  have p2 := fun n f acc (hr : RL busC e0 n f acc) (hb : acc.length ≤ 6000) => app_loop (nm := SLine.name) (d0 := Aah) (l := s.lines) (q := nl) (L := fun m n f i => L21_3 s nb nl ns nq g m n f i) (E := fun n f => L21_7 s nb nl ns nq g g n f 0) h2 g2
    (fun m k n f hk hn => by
      rw [st21_3]
      simp only [lt1 hk, lt1 (show k < s.lines.length by omega), ge0, tn, Bool.and_self, cond_true, nx hk (by omega), apOk hn]
      rfl)
    (fun m n f => by rw [st21_3, lt0 (Nat.lt_irrefl _)]; rfl) g 0 n f acc hr (by omega) (by omega) (by omega)
  have hr0 : RL busC e0 (0 + (Int.toNat (nb : Int) - Int.toNat ((0 : Nat) : Int))) (appF 0 (Aaf [] (0 + 1)) fun i => busC (s.buses.getD (Int.toNat ((0 : Nat) : Int) + i) e0)) (s.buses.take nb) := by
    have : RL busC e0 nb (fun i => busC (s.buses.getD (Int.toNat ((0 : Nat) : Int) + i) e0)) (s.buses.take nb) := .eq (by simp; omega) fun i hi => by
      have e : (s.buses.take nb).getD i e0 = s.buses.getD i e0 := by simp [List.getD, hi]
      rw [e]; simp
    have h := (RL.nil (c := busC) (d0 := e0) (Aaf [] (0 + 1))).cat this
    simpa using h
  obtain ⟨n2, f2, r2, q2⟩ := p2 _ _ _ hr0 (by simp; omega)
  obtain ⟨n3, f3, r3, q3⟩ := p3 _ _ _ r2 (by simp; omega)
  obtain ⟨n4, f4, r4, q4⟩ := p4 _ _ _ r3 (by simp; omega)
  have hev := ev21 s nb nl ns nq g
  have e1 : (decide ((0 : Int) ≤ ((0 : Nat) : Int)) && decide (((0 : Nat) : Int) ≤ (nb : Int)) && decide ((nb : Int) ≤ (s.buses.length : Int))) = true := by
    rw [decide_eq_true (by omega), decide_eq_true (by omega), decide_eq_true (by omega)]; rfl
  have e2 : (decide ((0 + (Int.toNat (nb : Int) - Int.toNat ((0 : Nat) : Int))) * 16 ≤ 140737488355328) && decide (0 + (Int.toNat (nb : Int) - Int.toNat ((0 : Nat) : Int)) ≤ 9223372036854775807)) = true := by
    rw [decide_eq_true (by omega), decide_eq_true (by omega)]; rfl
  rw [e1, e2] at hev
  simp only [cond_true] at hev
  have hc := cr_of (Orc.nil_ok Tryz.prog) Tryz.func33 b21 rfl (hev.trans (q2.trans (q3.trans q4)))
  have hd := hc.data (y := .c (.d (.sl 1 n4 f4))) rfl
  refine (CX.of_cr Tryz.func33 b21 hd).le ?_ (.refl _)
  have r4' : RL busC e0 n4 f4 (namesOf s nb nl ns nq) := by unfold namesOf; simpa using r4
  exact r4'.de
end Go.Proofs.YtmnfibmlhmeheaaGreatDoor.st
namespace Go.Proofs.YtmnfibmlhmeheaaGreatDoor.st
open Go.RowKit Go.Eb
theorem bOr (a b : Bool) : (bif a then lB false else lB b) = lB (!a && b) := by cases a <;> rfl
theorem sBe : OrcS Tryz.prog oBe := .cons (.inl .nil Tryz.func86 (by kernel_rfl)) .nil
theorem sOh : OrcS Tryz.prog oOh := .cons (.inl sBe Tryz.func34 (by kernel_rfl)) sBe
theorem c49 (x : SBay) : CX Tryz.prog 88 [aBay x] [] (vB (rngOk x)) [] := by
  refine cx_of sOh.ok Tryz.func88 b49 rfl ((ev49 x 1).trans ?_)
  unfold rngOk impOk Aaa
  cases h3 : (x.kind == 3) with
  | true =>
    cases h1 : (x.kind == 1) with
    | true => simp at h1 h3; omega
    | false =>
      simp only [cond_true, cond_false, fNot, bAnd, bOr, neN, Bool.and_true]
      refine congrArg lB ?_
      rw [Bool.eq_iff_iff]
      simp only [Bool.and_eq_true, decide_eq_true_eq, beq_iff_eq, Bool.not_eq_true', bne_iff_ne, ne_eq, Bool.not_not, Bool.or_eq_true, Bool.and_eq_false_iff, decide_eq_false_iff_not, beq_eq_false_iff_ne, Bool.not_eq_false', Bool.not_and, Bool.not_or]
      omega
  | false =>
    cases h1 : (x.kind == 1) with
    | true =>
      simp only [cond_true, cond_false, fNot, bAnd, bOr, neN, Bool.and_true]
      refine congrArg lB ?_
      rw [Bool.eq_iff_iff]
      simp only [Bool.and_eq_true, decide_eq_true_eq, beq_iff_eq, Bool.not_eq_true', bne_iff_ne, ne_eq, Bool.not_not, Bool.or_eq_true, Bool.and_eq_false_iff, decide_eq_false_iff_not, beq_eq_false_iff_ne, Bool.not_eq_false', Bool.not_and, Bool.not_or]
      omega
    | false =>
      simp only [cond_true, cond_false, fNot, bAnd, bOr, neN, Bool.and_true]
      refine congrArg lB ?_
      rw [Bool.eq_iff_iff]
      simp only [Bool.and_eq_true, decide_eq_true_eq, beq_iff_eq, Bool.not_eq_true', bne_iff_ne, ne_eq, Bool.not_not, Bool.or_eq_true, Bool.and_eq_false_iff, decide_eq_false_iff_not, beq_eq_false_iff_ne, Bool.not_eq_false', Bool.not_and, Bool.not_or]
      omega
theorem bge (b : Int) (n : Nat) : (decide (b < 0) || decide (b ≥ (n : Int))) = !Aaa b 0 ((n : Int) - 1) := by
  unfold Aaa
  rw [Bool.eq_iff_iff]
  simp only [Bool.or_eq_true, decide_eq_true_eq, Bool.not_eq_true', Bool.and_eq_false_iff, decide_eq_false_iff_not]
  omega
theorem lp50 (s : SSta) (x : SBay) (hl : x.links.length ≤ 9223372036854775807) (g : Nat) : ∀ (m k : Nat), k ≤ x.links.length → x.links.length - k < m → L50_5 s x g m k = lI (linkErr s.buses.length x.kind (prevB x.links k) (x.links.drop k)) []
  | 0, k, _, h => by omega
  | m + 1, k, hk, h => by
    rw [st50_5]
    by_cases hlt : k < x.links.length
    · have ih := lp50 s x hl g m (k + 1) (by omega) (by omega)
      rw [drop_at' (d := link0) hlt]
      simp only [lt1 hlt, ge0, tn, Bool.and_self, cond_true, nx hlt (by omega), ih, linkErr, fOr, bge]
      cases k with
      | zero =>
        simp only [prevB, List.getD_cons_zero]
        generalize Aaa (x.links.getD 0 link0).bus 0 ((s.buses.length : Int) - 1) = b1
        generalize ((x.links.getD 0 link0).pos != 1) = b3
        generalize ((x.links.getD 0 link0).pos != 0) = b4
        generalize (x.kind == 3) = b5
        cases b1 <;> cases b3 <;> cases b4 <;> cases b5 <;> rfl
      | succ k =>
        have e1 : IntKind.wrap IntKind.i64 (((k + 1 : Nat) : Int) - 1) = (k : Int) := by rw [wrap_id (by omega) (by omega)]; omega
        have e2 : decide (((k + 1 : Nat) : Int) > 0) = true := by rw [gt0]; simp
        have e3 : decide ((k : Int) < (x.links.length : Int)) = true := lt1 (by omega)
        have e4 : (some (x.links.getD k link0).bus == some (x.links.getD (k + 1) link0).bus) = ((x.links.getD (k + 1) link0).bus == (x.links.getD k link0).bus) := by
          show ((x.links.getD k link0).bus == (x.links.getD (k + 1) link0).bus) = _
          exact Bool.beq_comm
        simp only [prevB, e1, e2, e3, e4, ge0, tn, Bool.and_self, cond_true]
        generalize Aaa (x.links.getD (k + 1) link0).bus 0 ((s.buses.length : Int) - 1) = b1
        generalize ((x.links.getD (k + 1) link0).pos != 1) = b3
        generalize ((x.links.getD (k + 1) link0).pos != 0) = b4
        generalize (x.kind == 3) = b5
        generalize ((x.links.getD (k + 1) link0).bus == (x.links.getD k link0).bus) = b6
        cases b1 <;> cases b3 <;> cases b4 <;> cases b5 <;> cases b6 <;> rfl
    · rw [lt0 hlt, List.drop_of_length_le (by omega)]
      rfl
theorem c50 (s : SSta) (x : SBay) (hl : x.links.length ≤ 9223372036854775807) : CX Tryz.prog 89 [aSta s, aBay x] [] (vI (linksErr s.buses.length x)) [] := by
  obtain ⟨g, hg⟩ : ∃ g, x.links.length < g := ⟨x.links.length + 1, by omega⟩
  refine cx_of (Orc.nil_ok _) Tryz.func89 b50 rfl ((ev50 s x g).trans ?_)
  have e0 : L50_5 s x g g 0 = lI (linkErr s.buses.length x.kind none x.links) [] := lp50 s x hl g g 0 (by omega) (by omega)
  rw [e0, len_lt1, len_gt2, len_ne2]
  unfold linksErr
  generalize decide (x.links.length < 1) = b1
  generalize decide (2 < x.links.length) = b2
  generalize (x.kind == 3) = b3
  generalize (x.links.length != 2) = b4
  cases b1 <;> cases b2 <;> cases b3 <;> cases b4 <;> rfl
end Go.Proofs.YtmnfibmlhmeheaaGreatDoor.st
namespace Go.Proofs.YtmnfibmlhmeheaaGreatDoor.st
open Go.RowKit Go.Eb
noncomputable def rsta (x : RSta) : SSta := ⟨x.1, theE Aab x.2.1, theE Aai x.2.2.1, theE srcsD x.2.2.2.1, theE baysD x.2.2.2.2.1⟩
noncomputable def okRS (x : RSta) : Bool := okE Aab x.2.1 && (okE Aai x.2.2.1 && (okE srcsD x.2.2.2.1 && okE baysD x.2.2.2.2.1))
def staR (s : SSta) : RSta := (s.name, Aab s.buses, Aai s.lines, srcsD s.srcs, baysD s.bays, ())
theorem okRS_staR (s : SSta) : okRS (staR s) = true := by
  unfold okRS staR
  rw [(the_list busC_inj s.buses).1, (the_list lineC_inj s.lines).1, (the_list srcC_inj s.srcs).1, (the_list bayC_inj s.bays).1]; rfl
theorem rsta_staR (s : SSta) : rsta (staR s) = s := by
  unfold rsta staR
  simp only [(the_list busC_inj s.buses).2, (the_list lineC_inj s.lines).2, (the_list srcC_inj s.srcs).2, (the_list bayC_inj s.bays).2]
theorem sta_le (x : RSta) (h : okRS x = true) : Ale (.agg (staD.enc x)) (aSta (rsta x)) := by
  unfold okRS at h
  simp only [Bool.and_eq_true] at h
  exact .cons (.refl _) (.cons (theE_de h.1) (.cons (theE_de h.2.1) (.cons (theE_de h.2.2.1) (.cons (theE_de h.2.2.2) .nil))))
noncomputable def ok24 (x : RSta) (b : RBay) : Bool := okRS x && okRB b
noncomputable def lk24 (x : RSta) (b : RBay) : Int := linksErr (rsta x).buses.length (rbay b)
theorem s24 : OrcS Tryz.prog (o24 (fun a => rngOk (rbay a)) okRB ok24 lk24) := by
  refine .cons (.inl .nil Tryz.func87 (by kernel_rfl)) (.cons (.d fun a ha => ?_) (.cons (.d fun a ha => ?_) .nil))
  · exact (c49 (rbay a.1.1)).ge (.cons (bay_le _ ha) .nil) (.refl _)
  · unfold ok24 at ha
    simp only [Bool.and_eq_true] at ha
    exact (c50 (rsta a.1.1) (rbay a.1.2.1) (okRB_len ha.2)).ge (.cons (sta_le _ ha.1) (.cons (bay_le _ ha.2) .nil)) (.refl _)
def bayRest (nb nl ns : Nat) (before : List SBay) (b : SBay) : Int := match cntOf nl ns b.kind with
    | none => 10
    | some c => bif !Aaa b.off 0 (c - 1) then 9 else bif !rngOk b then 2 else bif before.any (clash b) then 12 else linksErr nb b
theorem bayErr_rest (nb nl ns : Nat) (N : List ByteArray) (before : List SBay) (b : SBay) : bayErr nb nl ns N before b = bif namErr N b.name != 0 then namErr N b.name else bayRest nb nl ns before b := by
  unfold bayErr bayErrD namErr bayRest
  cases Aae b.name with
  | false => rfl
  | true => cases inB N b.name <;> rfl
section
variable (s : SSta) (i : Nat) (hi : i < s.bays.length)
abbrev bI (s : SSta) (i : Nat) : SBay := s.bays.getD i bay0
include hi
theorem lp24 (hb : s.bays.length ≤ 9223372036854775807) (hl : (bI s i).links.length ≤ 9223372036854775807) (g : Nat) : ∀ (m k : Nat), k ≤ i → i - k < m →
    L24_8 (fun a => rngOk (rbay a)) okRB ok24 lk24 s i g m k = bif ((s.bays.take i).drop k).any (clash (bI s i)) then lI 12 [] else lI (linksErr s.buses.length (bI s i)) []
  | 0, k, _, h => by omega
  | m + 1, k, hk, h => by
    rw [st24_8]
    have hok : ok24 (staR s) (bayR (bI s i)) = true := by
      unfold ok24
      have e1 : okRB (bayR (bI s i)) = true := okLk_links hl
      rw [okRS_staR, e1]; rfl
    have hlk : lk24 (staR s) (bayR (bI s i)) = linksErr s.buses.length (bI s i) := by unfold lk24; rw [rsta_staR, rbay_bayR]
    have haft : ∀ A B : RSta, ∀ C' D' : RBay, A = staR s → B = staR s → C' = bayR (bI s i) → D' = bayR (bI s i) → (bif ok24 A C' then some (T.leaf (vI (lk24 B D'), ([] : Hp))) else none) = lI (linksErr s.buses.length (bI s i)) [] := by
      intro A B C' D' hA hB hC hD
      subst hA hB hC hD
      rw [hok, hlk]; rfl
    by_cases hlt : k < i
    · have ih := lp24 hb hl g m (k + 1) (by omega) (by omega)
      have ht : k < (s.bays.take i).length := by simp; omega
      have hg : (s.bays.take i).getD k bay0 = s.bays.getD k bay0 := by simp [List.getD, hlt]
      rw [drop_at' (d := bay0) ht, hg]
      simp only [lt1 hlt, lt1 (show k < s.bays.length by omega), ge0, tn, Bool.and_self, cond_true, nx hlt (by omega), ih, List.any_cons]
      cases h3 : ((s.bays.getD i bay0).kind != 3) with
      | false =>
        have hn : ∀ l : List SBay, l.any (clash (bI s i)) = false := fun l => by
          rw [List.any_eq_false]
          intro y _
          unfold clash
          rw [h3]; simp
        have hc : clash (bI s i) (s.bays.getD k bay0) = false := by unfold clash; rw [h3]; rfl
        rw [hn, hc]
        simp only [cond_false, Bool.or_self]
        exact haft _ _ _ _ rfl rfl rfl rfl
      | true =>
        have hc : clash (bI s i) (s.bays.getD k bay0) = ((s.bays.getD k bay0).kind == (bI s i).kind && ((s.bays.getD k bay0).off == (bI s i).off && (s.bays.getD k bay0).fin == (bI s i).fin)) := by
          unfold clash
          rw [h3]
          simp only [Bool.true_and]
          rw [Bool.beq_comm (a := (bI s i).kind), Bool.beq_comm (a := (bI s i).off), Bool.beq_comm (a := (bI s i).fin)]
        rw [hc]
        simp only [cond_true]
        generalize ((s.bays.getD k bay0).kind == (s.bays.getD i bay0).kind) = b1
        generalize ((s.bays.getD k bay0).off == (s.bays.getD i bay0).off) = b2
        generalize ((s.bays.getD k bay0).fin == (s.bays.getD i bay0).fin) = b3
        cases b1 <;> cases b2 <;> cases b3 <;> rfl
    · obtain rfl : k = i := by omega
      rw [lt0 (Nat.lt_irrefl _), List.drop_of_length_le (by simp; omega)]
      simp only [cond_false, List.any_nil]
      exact haft _ _ _ _ rfl rfl rfl rfl
omit hi in
theorem wge (b : Int) (n : Nat) : (decide (b < 0) || decide (b ≥ (n : Int))) = !Aaa b 0 ((n : Int) - 1) := bge b n
omit hi in
theorem w00 (b : Int) : (b != 0) = !Aaa b 0 ((1 : Int) - 1) := by
  unfold Aaa
  rw [Bool.eq_iff_iff]
  simp only [bne_iff_ne, ne_eq, Bool.not_eq_true', Bool.and_eq_false_iff, decide_eq_false_iff_not]
  omega
theorem c24 (hb : s.bays.length ≤ 9223372036854775807) (hl : (bI s i).links.length ≤ 9223372036854775807) : CX Tryz.prog 36 [aSta s, vI i] [] (vI (bayRest s.buses.length s.lines.length s.srcs.length (s.bays.take i) (bI s i))) [] := by
  obtain ⟨g, hg⟩ : ∃ g, i < g := ⟨i + 1, by omega⟩
  refine cx_of s24.ok Tryz.func36 b24 rfl ((ev24 (fun a => rngOk (rbay a)) okRB ok24 lk24 s i g).trans ?_)
  have hL : L24_8 (fun a => rngOk (rbay a)) okRB ok24 lk24 s i g g 0 = bif (s.bays.take i).any (clash (bI s i)) then lI 12 [] else lI (linksErr s.buses.length (bI s i)) [] := lp24 s i hi hb hl g g 0 (by omega) (by omega)
  have e1 : okRB (bayR (s.bays.getD i bay0)) = true := okLk_links hl
  have e2 : rngOk (rbay (bayR (s.bays.getD i bay0))) = rngOk (s.bays.getD i bay0) := by rw [rbay_bayR]
  unfold bayR at e1 e2
  rw [hL]
  simp only [lt1 hi, ge0, tn, Bool.and_self, cond_true, e1, e2, fOr, wge, w00]
  unfold bayRest cntOf
  cases ((s.bays.getD i bay0).kind == 1) with
  | true =>
    simp only [cond_true]
    cases Aaa (s.bays.getD i bay0).off 0 ((s.lines.length : Int) - 1) <;> first | rfl | (cases rngOk (s.bays.getD i bay0) <;> first | rfl | (cases (s.bays.take i).any (clash (s.bays.getD i bay0)) <;> rfl))
  | false =>
    cases ((s.bays.getD i bay0).kind == 2) with
    | true =>
      simp only [cond_true, cond_false]
      cases Aaa (s.bays.getD i bay0).off 0 ((s.srcs.length : Int) - 1) <;> first | rfl | (cases rngOk (s.bays.getD i bay0) <;> first | rfl | (cases (s.bays.take i).any (clash (s.bays.getD i bay0)) <;> rfl))
    | false =>
      cases ((s.bays.getD i bay0).kind == 3) with
      | true =>
        simp only [cond_true, cond_false]
        cases Aaa (s.bays.getD i bay0).off 0 ((1 : Int) - 1) <;> first | rfl | (cases rngOk (s.bays.getD i bay0) <;> first | rfl | (cases (s.bays.take i).any (clash (s.bays.getD i bay0)) <;> rfl))
      | false => rfl
end
end Go.Proofs.YtmnfibmlhmeheaaGreatDoor.st
namespace Go.Proofs.YtmnfibmlhmeheaaGreatDoor.st
open Go.RowKit Go.Eb
noncomputable def Z8 : K8 where
  nk := Aae
  okn a := okRS a.1 && (decide (0 ≤ a.2.1) && (decide (0 ≤ a.2.2.1) && (decide (0 ≤ a.2.2.2.1) && (decide (0 ≤ a.2.2.2.2.1) && (decide (a.2.1.toNat ≤ (rsta a.1).buses.length) && (decide (a.2.2.1.toNat ≤ (rsta a.1).lines.length) && (decide (a.2.2.2.1.toNat ≤ (rsta a.1).srcs.length) && (decide (a.2.2.2.2.1.toNat ≤ (rsta a.1).bays.length) &&
    (decide (a.2.1.toNat ≤ 900) && (decide (a.2.2.1.toNat ≤ 900) && (decide (a.2.2.2.1.toNat ≤ 900) && decide (a.2.2.2.2.1.toNat ≤ 900))))))))))))
  nm a := Aab (namesOf (rsta a.1) a.2.1.toNat a.2.2.1.toNat a.2.2.2.1.toNat a.2.2.2.2.1.toNat)
  okd x s := okDS x s
  nd x s := namErr (theE Aab x) s
  okb a n := okRS a && (decide (0 ≤ n) && (decide (n.toNat < (rsta a).bays.length) && (decide ((rsta a).bays.length ≤ 900) && lksOk (rsta a).bays)))
  be a n := bayRest (rsta a).buses.length (rsta a).lines.length (rsta a).srcs.length ((rsta a).bays.take n.toNat) ((rsta a).bays.getD n.toNat bay0)
theorem s8 : OrcS Tryz.prog (o8 Z8) := by
  refine .cons (.p decS_ok c16) (.cons (.d fun a ha => ?_) (.cons (.d fun a ha => ?_) (.cons (.inl sOh Tryz.func35 (by kernel_rfl)) (.cons (.d fun a ha => ?_) sOh))))
  · have ha' : (okRS a.1.1 && (decide (0 ≤ a.1.2.1) && (decide (0 ≤ a.1.2.2.1) && (decide (0 ≤ a.1.2.2.2.1) && (decide (0 ≤ a.1.2.2.2.2.1) && (decide (a.1.2.1.toNat ≤ (rsta a.1.1).buses.length) && (decide (a.1.2.2.1.toNat ≤ (rsta a.1.1).lines.length) && (decide (a.1.2.2.2.1.toNat ≤ (rsta a.1.1).srcs.length) && (decide (a.1.2.2.2.2.1.toNat ≤ (rsta a.1.1).bays.length) &&
      (decide (a.1.2.1.toNat ≤ 900) && (decide (a.1.2.2.1.toNat ≤ 900) && (decide (a.1.2.2.2.1.toNat ≤ 900) && decide (a.1.2.2.2.2.1.toNat ≤ 900))))))))))))) = true := ha
    simp only [Bool.and_eq_true, decide_eq_true_eq] at ha'
    obtain ⟨h0, p1, p2, p3, p4, q1, q2, q3, q4, r1, r2, r3, r4⟩ := ha'
    have hc := c21 (rsta a.1.1) a.1.2.1.toNat a.1.2.2.1.toNat a.1.2.2.2.1.toNat a.1.2.2.2.2.1.toNat q1 q2 q3 q4 r1 r2 r3 r4
    rw [Int.toNat_of_nonneg p1, Int.toNat_of_nonneg p2, Int.toNat_of_nonneg p3, Int.toNat_of_nonneg p4] at hc
    exact hc.ge (.cons (sta_le _ h0) (.refl _)) (.refl _)
  · have ha' : okDS a.1.1 a.1.2.1 = true := ha
    unfold okDS at ha'
    simp only [Bool.and_eq_true, decide_eq_true_eq] at ha'
    exact (c20 (theE Aab a.1.1) a.1.2.1 ha'.2).ge (.cons (theE_de ha'.1) (.refl _)) (.refl _)
  · have ha' : (okRS a.1.1 && (decide (0 ≤ a.1.2.1) && (decide (a.1.2.1.toNat < (rsta a.1.1).bays.length) && (decide ((rsta a.1.1).bays.length ≤ 900) && lksOk (rsta a.1.1).bays)))) = true := ha
    simp only [Bool.and_eq_true, decide_eq_true_eq] at ha'
    obtain ⟨h0, p1, p2, p3, p4⟩ := ha'
    have hc := c24 (rsta a.1.1) a.1.2.1.toNat p2 (by omega) (lksOk_get p4 _ p2)
    rw [Int.toNat_of_nonneg p1] at hc
    exact hc.ge (.cons (sta_le _ h0) (.refl _)) (.refl _)
theorem chk_loop {α : Type} {nm : α → ByteArray} {F : List ByteArray → List α → α → Int} {N : List ByteArray} {d0 : α} {l : List α} {L : Nat → Int → Option (T (AV × Hp))} {NX : Option (T (AV × Hp))}
    (hst : ∀ (m k : Nat), k < l.length → L (m + 1) k = bif F (N ++ (l.take k).map nm) (l.take k) (l.getD k d0) != 0 then lI (F (N ++ (l.take k).map nm) (l.take k) (l.getD k d0)) [] else L m ((k + 1 : Nat) : Int))
    (hend : ∀ m, L (m + 1) l.length = NX) : ∀ (m k : Nat), k ≤ l.length → l.length - k < m → L m k = bif (takeN nm F N (l.take k) (l.drop k)).1 != 0 then lI (takeN nm F N (l.take k) (l.drop k)).1 [] else NX
  | 0, k, _, h => by omega
  | m + 1, k, hk, h => by
    by_cases e : k = l.length
    · subst e
      rw [hend, List.drop_of_length_le (Nat.le_refl _)]
      rfl
    · have hlt : k < l.length := by omega
      have ih := chk_loop hst hend m (k + 1) (by omega) (by omega)
      have et : l.take (k + 1) = l.take k ++ [l.getD k d0] := by
        rw [List.take_succ_eq_append_getElem hlt]
        congr 2
        simp [List.getD, hlt]
      rw [hst m k hlt, ih, et, drop_at' (d := d0) hlt]
      simp only [takeN]
      cases hF : (F (N ++ (l.take k).map nm) (l.take k) (l.getD k d0) != 0) with
      | true => simp only [cond_true, hF]
      | false => simp only [cond_false]
section
variable (s : SSta) (h1 : s.buses.length ≤ 900) (h2 : s.lines.length ≤ 900) (h3 : s.srcs.length ≤ 900) (h4 : s.bays.length ≤ 900) (hlk : lksOk s.bays = true)
include h1 h2 h3 h4
theorem okn8 (a b c d : Nat) (q1 : a ≤ s.buses.length) (q2 : b ≤ s.lines.length) (q3 : c ≤ s.srcs.length) (q4 : d ≤ s.bays.length) : Z8.okn (staR s, (a : Int), (b : Int), (c : Int), (d : Int), ()) = true := by
  show (okRS (staR s) && (decide (0 ≤ (a : Int)) && (decide (0 ≤ (b : Int)) && (decide (0 ≤ (c : Int)) && (decide (0 ≤ (d : Int)) && (decide ((a : Int).toNat ≤ (rsta (staR s)).buses.length) && (decide ((b : Int).toNat ≤ (rsta (staR s)).lines.length) && (decide ((c : Int).toNat ≤ (rsta (staR s)).srcs.length) && (decide ((d : Int).toNat ≤ (rsta (staR s)).bays.length) &&
    (decide ((a : Int).toNat ≤ 900) && (decide ((b : Int).toNat ≤ 900) && (decide ((c : Int).toNat ≤ 900) && decide ((d : Int).toNat ≤ 900))))))))))))) = true
  rw [okRS_staR, rsta_staR, Bool.true_and]
  simp only [Bool.and_eq_true, decide_eq_true_eq, Int.toNat_natCast]
  omega
omit h1 h2 h3 h4 in
theorem nm8 (a b c d : Nat) : Z8.nm (staR s, (a : Int), (b : Int), (c : Int), (d : Int), ()) = Aab (namesOf s a b c d) := by
  show Aab (namesOf (rsta (staR s)) _ _ _ _) = _
  rw [rsta_staR]; rfl
theorem okd8 (a b c d : Nat) (q1 : a ≤ s.buses.length) (q2 : b ≤ s.lines.length) (q3 : c ≤ s.srcs.length) (q4 : d ≤ s.bays.length) (x : ByteArray) : Z8.okd (Aab (namesOf s a b c d)) x = true := by
  show okDS _ x = true
  unfold okDS
  rw [(the_list busC_inj _).1, (the_list busC_inj _).2]
  have : (namesOf s a b c d).length ≤ 9223372036854775807 := by unfold namesOf; simp; omega
  simp [this]
omit h1 h2 h3 h4 in
theorem nd8 (l : List ByteArray) (x : ByteArray) : Z8.nd (Aab l) x = namErr l x := by
  show namErr (theE Aab (Aab l)) x = _
  rw [(the_list busC_inj l).2]
include hlk
omit h1 h2 h3 in
theorem okb8 (k : Nat) (hk : k < s.bays.length) : Z8.okb (staR s) (k : Int) = true := by
  show (okRS (staR s) && (decide (0 ≤ (k : Int)) && (decide ((k : Int).toNat < (rsta (staR s)).bays.length) && (decide ((rsta (staR s)).bays.length ≤ 900) && lksOk (rsta (staR s)).bays)))) = true
  rw [okRS_staR, rsta_staR, hlk, Bool.true_and, Bool.and_true]
  simp only [Bool.and_eq_true, decide_eq_true_eq, Int.toNat_natCast]
  omega
omit h1 h2 h3 h4 hlk in
theorem be8 (k : Nat) : Z8.be (staR s) (k : Int) = bayRest s.buses.length s.lines.length s.srcs.length (s.bays.take k) (s.bays.getD k bay0) := by
  show bayRest (rsta (staR s)).buses.length _ _ _ _ = _
  rw [rsta_staR]; rfl
abbrev Nb (s : SSta) : List ByteArray := s.buses
abbrev Nl (s : SSta) : List ByteArray := s.buses ++ s.lines.map SLine.name
abbrev Ns (s : SSta) : List ByteArray := s.buses ++ s.lines.map SLine.name ++ s.srcs.map SSrc.name
theorem lp8_29 (g : Nat) (hg : 900 < g) : L8_29 Z8 s g g 0 = lI (tBay s.buses.length s.lines.length s.srcs.length (Ns s) s.bays).1 [] := by
  have := chk_loop (nm := SBay.name) (F := fun N before x => bayErr s.buses.length s.lines.length s.srcs.length N before x) (N := Ns s) (d0 := bay0) (l := s.bays) (L := fun m i => L8_29 Z8 s g m i) (NX := lI 0 [])
    (fun m k hk => by
      have e1 := okn8 s h1 h2 h3 h4 s.buses.length s.lines.length s.srcs.length k (by omega) (by omega) (by omega) (by omega)
      have e2 := nm8 s s.buses.length s.lines.length s.srcs.length k
      have e3 := okd8 s h1 h2 h3 h4 s.buses.length s.lines.length s.srcs.length k (by omega) (by omega) (by omega) (by omega) (s.bays.getD k bay0).name
      have e5 := okb8 s h4 hlk k hk
      have e6 := be8 s k
      have en : namesOf s s.buses.length s.lines.length s.srcs.length k = Ns s ++ (s.bays.take k).map SBay.name := by unfold namesOf; simp
      simp only [staR, Aab, Aai, srcsD, baysD, Aac] at e1 e2 e5 e6
      simp only [Aab, Aac] at e3
      rw [st8_29]
      simp only [lt1 hk, ge0, tn, Bool.and_self, cond_true, nx hk (by omega), e1, e2, e3, e5, e6]
      have e4 := nd8 (namesOf s s.buses.length s.lines.length s.srcs.length k) (s.bays.getD k bay0).name
      simp only [Aab, Aac] at e4
      simp only [e4]
      simp only [en, bayErr_rest]
      generalize namErr (Ns s ++ (s.bays.take k).map SBay.name) (s.bays.getD k bay0).name = a
      generalize bayRest s.buses.length s.lines.length s.srcs.length (s.bays.take k) (s.bays.getD k bay0) = b
      unfold bne
      cases ha : (a == 0) <;> cases hb : (b == 0) <;> simp only [ha, hb, cond_true, cond_false, Bool.not_true, Bool.not_false])
    (fun m => by rw [st8_29, lt0 (Nat.lt_irrefl _)]; rfl) g 0 (by omega) (by omega)
  have e : L8_29 Z8 s g g 0 = _ := this
  rw [e]
  show (bif (tBay s.buses.length s.lines.length s.srcs.length (Ns s) s.bays).1 != 0 then lI (tBay s.buses.length s.lines.length s.srcs.length (Ns s) s.bays).1 [] else lI 0 []) = _
  unfold bne
  cases hz : ((tBay s.buses.length s.lines.length s.srcs.length (Ns s) s.bays).1 == 0) with
  | false => rfl
  | true =>
    have : (tBay s.buses.length s.lines.length s.srcs.length (Ns s) s.bays).1 = 0 := by simpa using hz
    rw [this]; rfl
end
end Go.Proofs.YtmnfibmlhmeheaaGreatDoor.st
namespace Go.Proofs.YtmnfibmlhmeheaaGreatDoor.st
open Go.RowKit Go.Eb
section
variable (s : SSta) (h1 : s.buses.length ≤ 900) (h2 : s.lines.length ≤ 900) (h3 : s.srcs.length ≤ 900) (h4 : s.bays.length ≤ 900) (hlk : lksOk s.bays = true)
include h1 h2 h3 h4
theorem lp8_21 (g : Nat) (hg : 900 < g) : L8_21 Z8 s g g 0 = bif (tSrc (Nl s) s.srcs).1 != 0 then lI (tSrc (Nl s) s.srcs).1 [] else L8_29 Z8 s g g 0 := by
  have hh := chk_loop (nm := SSrc.name) (F := fun N _ x => srcErr N x) (N := Nl s) (d0 := src0) (l := s.srcs) (L := fun m i => L8_21 Z8 s g m i) (NX := L8_29 Z8 s g g 0)
    (fun m k hk => by
      have e1 := okn8 s h1 h2 h3 h4 s.buses.length s.lines.length k 0 (by omega) (by omega) (by omega) (by omega)
      have e2 := nm8 s s.buses.length s.lines.length k 0
      have e3 := okd8 s h1 h2 h3 h4 s.buses.length s.lines.length k 0 (by omega) (by omega) (by omega) (by omega) (s.srcs.getD k src0).name
      have en : namesOf s s.buses.length s.lines.length k 0 = Nl s ++ (s.srcs.take k).map SSrc.name := by unfold namesOf; simp
      simp only [staR, Aab, Aai, srcsD, baysD, Aac, Int.natCast_zero] at e1 e2
      simp only [Aab, Aac] at e3
      rw [st8_21]
      simp only [lt1 hk, ge0, tn, Bool.and_self, cond_true, nx hk (by omega), e1, e2, e3]
      have e4 := nd8 (namesOf s s.buses.length s.lines.length k 0) (s.srcs.getD k src0).name
      simp only [Aab, Aac] at e4
      simp only [e4]
      simp only [en, srcErr, impOk, Aaa, fNot, fAnd]
      generalize namErr (Nl s ++ (s.srcs.take k).map SSrc.name) (s.srcs.getD k src0).name = a
      generalize decide ((s.srcs.getD k src0).emf ≥ 1) = a1
      generalize decide ((s.srcs.getD k src0).emf ≤ 1000000) = a2
      generalize decide ((s.srcs.getD k src0).r1 ≥ 0) = b1
      generalize decide ((s.srcs.getD k src0).r1 ≤ 1000) = b2
      generalize decide ((s.srcs.getD k src0).x1 ≥ 1) = b3
      generalize decide ((s.srcs.getD k src0).x1 ≤ 1000) = b4
      generalize decide ((s.srcs.getD k src0).r0 ≥ 0) = b5
      generalize decide ((s.srcs.getD k src0).r0 ≤ 1000) = b6
      generalize decide ((s.srcs.getD k src0).x0 ≥ 1) = b7
      generalize decide ((s.srcs.getD k src0).x0 ≤ 1000) = b8
      unfold bne
      cases ha : (a == 0) with
      | false => simp only [ha, cond_true, cond_false, Bool.not_true, Bool.not_false]
      | true =>
        simp only [ha, cond_true, cond_false, Bool.not_true, Bool.not_false]
        cases a1 <;> cases a2 <;> first | rfl | (cases b1 <;> cases b2 <;> cases b3 <;> cases b4 <;> first | rfl | (cases b5 <;> cases b6 <;> cases b7 <;> cases b8 <;> rfl)))
    (fun m => by rw [st8_21, lt0 (Nat.lt_irrefl _)]; rfl) g 0 (by omega) (by omega)
  simp only [List.take_zero, List.drop_zero] at hh
  exact hh
theorem lp8_13 (g : Nat) (hg : 900 < g) : L8_13 Z8 s g g 0 = bif (tLine (Nb s) s.lines).1 != 0 then lI (tLine (Nb s) s.lines).1 [] else L8_21 Z8 s g g 0 := by
  have hh := chk_loop (nm := SLine.name) (F := fun N _ x => lineErr N x) (N := Nb s) (d0 := Aah) (l := s.lines) (L := fun m i => L8_13 Z8 s g m i) (NX := L8_21 Z8 s g g 0)
    (fun m k hk => by
      have e1 := okn8 s h1 h2 h3 h4 s.buses.length k 0 0 (by omega) (by omega) (by omega) (by omega)
      have e2 := nm8 s s.buses.length k 0 0
      have e3 := okd8 s h1 h2 h3 h4 s.buses.length k 0 0 (by omega) (by omega) (by omega) (by omega) (s.lines.getD k Aah).name
      have en : namesOf s s.buses.length k 0 0 = Nb s ++ (s.lines.take k).map SLine.name := by unfold namesOf; simp
      simp only [staR, Aab, Aai, srcsD, baysD, Aac, Int.natCast_zero] at e1 e2
      simp only [Aab, Aac] at e3
      rw [st8_13]
      simp only [lt1 hk, ge0, tn, Bool.and_self, cond_true, nx hk (by omega), e1, e2, e3]
      have e4 := nd8 (namesOf s s.buses.length k 0 0) (s.lines.getD k Aah).name
      simp only [Aab, Aac] at e4
      simp only [e4]
      simp only [en, lineErr, impOk, Aaa, fNot, fAnd]
      generalize namErr (Nb s ++ (s.lines.take k).map SLine.name) (s.lines.getD k Aah).name = a
      generalize decide ((s.lines.getD k Aah).r1 ≥ 0) = b1
      generalize decide ((s.lines.getD k Aah).r1 ≤ 1000) = b2
      generalize decide ((s.lines.getD k Aah).x1 ≥ 1) = b3
      generalize decide ((s.lines.getD k Aah).x1 ≤ 1000) = b4
      generalize decide ((s.lines.getD k Aah).r0 ≥ 0) = b5
      generalize decide ((s.lines.getD k Aah).r0 ≤ 1000) = b6
      generalize decide ((s.lines.getD k Aah).x0 ≥ 1) = b7
      generalize decide ((s.lines.getD k Aah).x0 ≤ 1000) = b8
      unfold bne
      cases ha : (a == 0) with
      | false => simp only [ha, cond_true, cond_false, Bool.not_true, Bool.not_false]
      | true =>
        simp only [ha, cond_true, cond_false, Bool.not_true, Bool.not_false]
        cases b1 <;> cases b2 <;> cases b3 <;> cases b4 <;> first | rfl | (cases b5 <;> cases b6 <;> cases b7 <;> cases b8 <;> rfl))
    (fun m => by rw [st8_13, lt0 (Nat.lt_irrefl _)]; rfl) g 0 (by omega) (by omega)
  simp only [List.take_zero, List.drop_zero] at hh
  exact hh
theorem st7' (g m k : Nat) (hk : k < s.buses.length) : L8_7 Z8 s g (m + 1) k = bif namErr (s.buses.take k) (s.buses.getD k e0) != 0 then lI (namErr (s.buses.take k) (s.buses.getD k e0)) [] else L8_7 Z8 s g m ((k + 1 : Nat) : Int) := by
  have e1 := okn8 s h1 h2 h3 h4 k 0 0 0 (by omega) (by omega) (by omega) (by omega)
  have e2 := nm8 s k 0 0 0
  have e3 := okd8 s h1 h2 h3 h4 k 0 0 0 (by omega) (by omega) (by omega) (by omega) (s.buses.getD k e0)
  have en : namesOf s k 0 0 0 = s.buses.take k := by unfold namesOf; simp
  simp only [staR, Aab, Aai, srcsD, baysD, Aac, Int.natCast_zero] at e1 e2
  simp only [Aab, Aac] at e3
  rw [st8_7]
  simp only [lt1 hk, ge0, tn, Bool.and_self, cond_true, e1, e2]
  rw [nx hk (by omega), e3]
  have e4 := nd8 (namesOf s k 0 0 0) (s.buses.getD k e0)
  simp only [Aab, Aac] at e4
  simp only [e4, cond_true]
  simp only [en]
theorem lp8_7 (g : Nat) (hg : 900 < g) : L8_7 Z8 s g g 0 = bif (tBus s.buses).1 != 0 then lI (tBus s.buses).1 [] else L8_13 Z8 s g g 0 := by
  have hh := chk_loop (nm := id) (F := fun N _ x => namErr N x) (N := []) (d0 := e0) (l := s.buses) (L := fun m i => L8_7 Z8 s g m i) (NX := L8_13 Z8 s g g 0)
    (fun m k hk => by
      have := st7' s h1 h2 h3 h4 g m k hk
      simp only [List.nil_append, List.map_id]
      exact this)
    (fun m => by rw [st8_7, lt0 (Nat.lt_irrefl _)]; simp only [cond_false]) g 0 (by omega) (by omega)
  simp only [List.take_zero, List.drop_zero] at hh
  exact hh
end
theorem c8 (s : SSta) (hlk : lksOk s.bays = true) : CX Tryz.prog 12 [aSta s] [] (vI (chkSta s)) [] := by
  obtain ⟨g, hg⟩ : ∃ g, 900 < g := ⟨901, by omega⟩
  refine cx_of s8.ok Tryz.func12 b8 rfl ((ev8 Z8 s g).trans ?_)
  have t4 : ∀ n : Nat, decide ((n : Int) > 4) = decide (4 < n) := fun n => len_gt n 4
  have t6 : ∀ n : Nat, decide ((n : Int) > 6) = decide (6 < n) := fun n => len_gt n 6
  have t16 : ∀ n : Nat, decide ((n : Int) > 16) = decide (16 < n) := fun n => len_gt n 16
  have t1 : ∀ n : Nat, decide ((n : Int) < 1) = (n == 0) := fun n => by
    rw [Bool.eq_iff_iff, decide_eq_true_eq, beq_iff_eq]; omega
  simp only [t1, t4, t6, t16, fOr]
  unfold chkSta
  show (bif !Aae s.name then _ else _) = _
  cases Aae s.name with
  | false => rfl
  | true =>
    simp only [Bool.not_true, cond_false]
    have hcb : (s.buses.length == 0 || (decide (4 < s.buses.length) || (decide (6 < s.lines.length) || (decide (4 < s.srcs.length) || decide (16 < s.bays.length))))) = cntBad s := rfl
    rw [hcb]
    cases hc : cntBad s with
    | true => rfl
    | false =>
      simp only [cond_false]
      unfold cntBad at hc
      simp only [Bool.or_eq_false_iff, decide_eq_false_iff_not] at hc
      obtain ⟨_, h4, h6, h4', h16⟩ := hc
      rw [lp8_7 s (by omega) (by omega) (by omega) (by omega) g hg, lp8_13 s (by omega) (by omega) (by omega) (by omega) g hg, lp8_21 s (by omega) (by omega) (by omega) (by omega) g hg, lp8_29 s (by omega) (by omega) (by omega) (by omega) hlk g hg]
      cases ((tBus s.buses).1 != 0) with
      | true => rfl
      | false =>
        cases ((tLine s.buses s.lines).1 != 0) with
        | true => rfl
        | false =>
          cases ((tSrc (s.buses ++ s.lines.map SLine.name) s.srcs).1 != 0) <;> rfl
end Go.Proofs.YtmnfibmlhmeheaaGreatDoor.st
namespace Go.Proofs.YtmnfibmlhmeheaaGreatDoor.se
open Go.RowKit Go.Eb Go.Proofs.YtmnfibmlhmeheaaGreatDoor.st
def largeR (r : SRel) : Bool := decide (20 < r.rules.length) || (decide (8 < r.sets.length) || (decide (8 < r.pubs.length) || (decide (30 < r.subs.length) || ((r.sets.any fun x => decide (30 < x.sigs.length)) || r.rules.any fun x => decide (200 < x.text.size)))))
theorem any_loop {α : Type} {p : α → Bool} {l : List α} {d0 : α} {L : Nat → Int → Option (T (AV × Hp))} {A B : Option (T (AV × Hp))}
    (hst : ∀ (m k : Nat), k < l.length → L (m + 1) k = bif p (l.getD k d0) then A else L m ((k + 1 : Nat) : Int)) (hend : ∀ m, L (m + 1) l.length = B) :
    ∀ (m k : Nat), k ≤ l.length → l.length - k < m → L m k = bif (l.drop k).any p then A else B
  | 0, k, _, h => by omega
  | m + 1, k, hk, h => by
    by_cases e : k = l.length
    · subst e
      rw [hend, List.drop_of_length_le (Nat.le_refl _)]
      rfl
    · have hlt : k < l.length := by omega
      rw [hst m k hlt, any_loop hst hend m (k + 1) (by omega) (by omega), drop_at' (d := d0) hlt]
      simp only [List.any_cons]
      cases p (l.getD k d0) <;> rfl
theorem lg7b (r : SRel) (g : Nat) (h1 : r.rules.length ≤ 9223372036854775807) (g2 : r.rules.length < g) : Llg7_9 r g g 0 = bif (r.rules.any fun x => decide (200 < x.text.size)) then lB true else lB false := by
  have t200 : ∀ n : Nat, decide ((n : Int) > 200) = decide (200 < n) := fun n => gtD n 200
  have l2 := any_loop (p := fun x : SRule => decide (200 < x.text.size)) (l := r.rules) (d0 := rule0) (L := fun m i => Llg7_9 r g m i) (A := lB true) (B := lB false) (fun m k hk => by
    have st := stlg7_9 r g m k
    rw [lt1 hk, ge0, tn, nx hk h1, t200] at st
    rw [tt, cond_true] at st
    exact st) (fun m => by
    have st := stlg7_9 r g m (r.rules.length : Nat)
    rw [lt0 (Nat.lt_irrefl _)] at st
    rw [cond_false] at st
    exact st) g 0 (by omega) (by omega)
  exact l2
theorem lg7a (r : SRel) (g : Nat) (h2 : r.sets.length ≤ 9223372036854775807) (g1 : r.sets.length < g) : Llg7_4 r g g 0 = bif (r.sets.any fun x => decide (30 < x.sigs.length)) then lB true else Llg7_9 r g g 0 := by
  have t30 : ∀ n : Nat, decide ((n : Int) > 30) = decide (30 < n) := fun n => gtD n 30
  have l1 := any_loop (p := fun x : SSet => decide (30 < x.sigs.length)) (l := r.sets) (d0 := set0) (L := fun m i => Llg7_4 r g m i) (A := lB true) (B := Llg7_9 r g g 0) (fun m k hk => by
    have st := stlg7_4 r g m k
    rw [lt1 hk, ge0, tn, nx hk h2, t30] at st
    rw [tt, cond_true] at st
    exact st) (fun m => by
    have st := stlg7_4 r g m (r.sets.length : Nat)
    rw [lt0 (Nat.lt_irrefl _)] at st
    rw [cond_false] at st
    exact st) g 0 (by omega) (by omega)
  exact l1
theorem clg7t (a b c d e f : Bool) : (bif a then lB true else bif b then lB true else bif c then lB true else bif d then lB true else bif e then lB true else bif f then lB true else lB false) = lB (a || (b || (c || (d || (e || f))))) := by
  cases a <;> cases b <;> cases c <;> cases d <;> cases e <;> cases f <;> rfl
theorem clg7 (r : SRel) (hr : okRel r = true) : CX Tryz.prog 13 [aRel r] [] (vB (largeR r)) [] := by
  obtain ⟨h1, h2, h3, h4, h5⟩ := okRel_len hr
  obtain ⟨g, g1, g2⟩ : ∃ g, r.sets.length < g ∧ r.rules.length < g := ⟨r.sets.length + r.rules.length + 1, by omega⟩
  refine cx_of (Orc.nil_ok _) Tryz.func13 blg7 rfl ((evlg7 r g).trans ?_)
  have t30 : ∀ n : Nat, decide ((n : Int) > 30) = decide (30 < n) := fun n => gtD n 30
  have t20 : ∀ n : Nat, decide ((n : Int) > 20) = decide (20 < n) := fun n => gtD n 20
  have t8 : ∀ n : Nat, decide ((n : Int) > 8) = decide (8 < n) := fun n => gtD n 8
  rw [lg7a r g h2 g1, lg7b r g h1 g2, t20, t8, t8, t30]
  exact clg7t _ _ _ _ _ _
noncomputable def fineS (s : SSta) (l : List SRel) : Bool := !large s && ((chkSta s == 0) && (decide (l.length ≤ 20) && !l.any largeR))
noncomputable def ZF : KF where
  okS := okG eSt okSta
  lg x := large (theT eSt x)
  chk x := chkSta (theT eSt x)
  okr := okG eR okRel
  lr x := largeR (theT eR x)
theorem sF : OrcS Tryz.prog (oF ZF) := .cons (.t' (r := fun a => vB (large a)) fun a h => c7 a h) (.cons (.t' (r := fun a => vI (chkSta a)) fun a h => c8 a (okSta_len h).2.2.2.2) (.cons (.t' (r := fun a => vB (largeR a)) fun a h => clg7 a h) .nil))
theorem cfin (s : SSta) (l : List SRel) (hs : okSta s = true) (hl : lenOk l = true) (ha : l.all okRel = true) : CX Tryz.prog 5 [aSta s, .c (.d (relsD l))] [] (vB (fineS s l)) [] := by
  obtain ⟨g, hg⟩ : ∃ g, l.length < g := ⟨l.length + 1, by omega⟩
  refine cx_of sF.ok Tryz.func5 bfin rfl ((evfin ZF s l g).trans ?_)
  have k1 : ZF.okS [aSta s] = true := okG_enc eSt_inj (c := okSta) s hs
  have k2 : ZF.lg [aSta s] = large s := congrArg large (theT_enc eSt_inj s)
  have k3 : ZF.chk [aSta s] = chkSta s := congrArg chkSta (theT_enc eSt_inj s)
  have l1 := any_loop (p := largeR) (l := l) (d0 := rel0) (L := fun m i => Lfin_4 ZF s l g m i) (A := lB false) (B := lB true) (fun m k hk => by
    have hr : okRel (l.getD k rel0) = true := all_getD ha rfl k
    rw [stfin_4, lt1 hk, ge0, tn, nx hk (lenOk_le hl)]
    generalize l.getD k rel0 = r at hr ⊢
    have q1 : ZF.okr [aRel r] = true := okG_enc eR_inj (c := okRel) r hr
    have q2 : ZF.lr [aRel r] = largeR r := congrArg largeR (theT_enc eR_inj r)
    rw [q1, q2]; rfl) (fun m => by rw [stfin_4, lt0 (Nat.lt_irrefl _)]; rfl) g 0 (by omega) (by omega)
  have e1 : Lfin_4 ZF s l g g 0 = _ := l1
  have e2 : decide ((l.length : Int) > 20) = !decide (l.length ≤ 20) := by
    by_cases h : l.length ≤ 20
    · rw [decide_eq_true h, decide_eq_false (by omega)]; rfl
    · rw [decide_eq_false h, decide_eq_true (by omega)]; rfl
  have e3 : (chkSta s != 0) = !(chkSta s == 0) := rfl
  rw [k1, k2, k3, e1, e2, e3]
  simp only [List.drop_zero]
  unfold fineS
  cases large s <;> cases (chkSta s == 0) <;> cases decide (l.length ≤ 20) <;> cases l.any largeR <;> rfl
end Go.Proofs.YtmnfibmlhmeheaaGreatDoor.se
namespace Go.Proofs.YtmnfibmlhmeheaaGreatDoor.en
open Go.RowKit Go.Eb Go.Proofs.YtmnfibmlhmeheaaGreatDoor.st Go.Proofs.YtmnfibmlhmeheaaGreatDoor.se
set_option maxRecDepth 100000
theorem bt {a x : Bool} (h : (bif a then x else false) = true) : a = true ∧ x = true := by cases a <;> cases x <;> simp_all
theorem bf {a x : Bool} (h : (bif !a then false else x) = true) : a = true ∧ x = true := by cases a <;> cases x <;> simp_all
theorem bne0 {n : Int} {x : Bool} (h : (bif n != 0 then false else x) = true) : n = 0 ∧ x = true := by
  cases e : (n != 0) with
  | true => rw [e] at h; cases h
  | false => rw [e] at h; exact ⟨by simpa using e, h⟩
theorem bz {a : Bool} {k x : Int} (h : (bif !a then k else x) = 0) (hk : k ≠ 0) : a = true ∧ x = 0 := by
  cases a with
  | true => exact ⟨rfl, h⟩
  | false => exact absurd h hk
theorem bz' {k x : Int} (h : (bif k != 0 then k else x) = 0) : k = 0 ∧ x = 0 := by
  cases e : (k != 0) with
  | true => rw [e, cond_true] at h; exact ⟨h, by rw [h] at e; cases e⟩
  | false => rw [e] at h; exact ⟨by simpa using e, h⟩
theorem nI_w {n a b : Int} (h : Aaa n a b = true) (h1 : -1000000 ≤ a) (h2 : b ≤ 1000000) : nI n = true := by
  unfold Aaa at h
  simp only [Bool.and_eq_true, decide_eq_true_eq] at h
  unfold nI
  rw [decide_eq_true (by omega), decide_eq_true (by omega)]
  rfl
theorem nI_z {n : Int} (h : n = 0) : nI n = true := by rw [h]; decide
theorem nI_b {n : Int} (h : (n == 0) = true) : nI n = true := nI_z (eq_of_beq h)
theorem el_n {on : Bool} {pk dl k : Int} (h : elOk on pk dl k = true) (hk : -1000000 ≤ k) : nI pk = true ∧ nI dl = true := by
  unfold elOk at h
  cases on with
  | true =>
    simp only [cond_true, Bool.and_eq_true] at h
    exact ⟨nI_w h.1 (by omega) (by omega), nI_w h.2 hk (by omega)⟩
  | false =>
    simp only [cond_false, Bool.and_eq_true] at h
    exact ⟨nI_b h.1, nI_b h.2⟩
theorem zo {a b : Bool} {c d e f : Int} (h : (a == false && (b == false && (c == (0 : Int) && (d == (0 : Int) && (e == (0 : Int) && (f == (0 : Int) && true)))))) = true) : nI c = true ∧ nI d = true ∧ nI e = true ∧ nI f = true := by
  simp only [Bool.and_eq_true] at h
  exact ⟨nI_b h.2.2.1, nI_b h.2.2.2.1, nI_b h.2.2.2.2.1, nI_b h.2.2.2.2.2.1⟩
structure Z4 (c d e f : Int) : Prop where
  x : nI c = true
  r : nI d = true
  l : nI e = true
  d : nI f = true
theorem dist_n {r : SRel} (h : ev79_v r = true) : (Z4 r.zx0 r.zr0 r.zl0 r.zd0 ∧ Z4 r.zx1 r.zr1 r.zl1 r.zd1 ∧ Z4 r.zx2 r.zr2 r.zl2 r.zd2) ∧ nI r.min = true ∧ nI r.kre = true ∧ nI r.kim = true := by
  unfold ev79_v at h
  cases o0 : r.zon0 with
  | false =>
    rw [o0, Bool.not_false, cond_true] at h
    obtain ⟨z0, h⟩ := bf h
    obtain ⟨p0, q0, s0, t0⟩ := zo z0
    have y0 : Z4 r.zx0 r.zr0 r.zl0 r.zd0 := ⟨p0, q0, s0, t0⟩
    cases o1 : r.zon1 with
    | false =>
      rw [o1, Bool.not_false, cond_true] at h
      obtain ⟨z1, h⟩ := bf h
      obtain ⟨p1, q1, s1, t1⟩ := zo z1
      have y1 : Z4 r.zx1 r.zr1 r.zl1 r.zd1 := ⟨p1, q1, s1, t1⟩
      cases o2 : r.zon2 with
      | false =>
        rw [o2, Bool.not_false, cond_true] at h
        obtain ⟨z2, h⟩ := bf h
        obtain ⟨p2, q2, s2, t2⟩ := zo z2
        have y2 : Z4 r.zx2 r.zr2 r.zl2 r.zd2 := ⟨p2, q2, s2, t2⟩
        obtain ⟨m1, h⟩ := bt h
        obtain ⟨m2, m3⟩ := bt h
        exact ⟨⟨y0, y1, y2⟩, nI_b m1, nI_b m2, nI_b m3⟩
      | true =>
        rw [o2, Bool.not_true, cond_false] at h
        obtain ⟨p2, h⟩ := bf h
        obtain ⟨q2, h⟩ := bf h
        obtain ⟨s2, h⟩ := bf h
        obtain ⟨t2, h⟩ := bf h
        have y2 : Z4 r.zx2 r.zr2 r.zl2 r.zd2 := ⟨nI_w p2 (by omega) (by omega), nI_w q2 (by omega) (by omega), nI_w s2 (by omega) (by omega), nI_w t2 (by omega) (by omega)⟩
        obtain ⟨m1, h⟩ := bt h
        obtain ⟨m2, m3⟩ := bt h
        exact ⟨⟨y0, y1, y2⟩, nI_w m1 (by omega) (by omega), nI_w m2 (by omega) (by omega), nI_w m3 (by omega) (by omega)⟩
    | true =>
      rw [o1, Bool.not_true, cond_false] at h
      obtain ⟨p1, h⟩ := bf h
      obtain ⟨q1, h⟩ := bf h
      obtain ⟨s1, h⟩ := bf h
      obtain ⟨t1, h⟩ := bf h
      have y1 : Z4 r.zx1 r.zr1 r.zl1 r.zd1 := ⟨nI_w p1 (by omega) (by omega), nI_w q1 (by omega) (by omega), nI_w s1 (by omega) (by omega), nI_w t1 (by omega) (by omega)⟩
      cases o2 : r.zon2 with
      | false =>
        rw [o2, Bool.not_false, cond_true] at h
        obtain ⟨z2, h⟩ := bf h
        obtain ⟨p2, q2, s2, t2⟩ := zo z2
        have y2 : Z4 r.zx2 r.zr2 r.zl2 r.zd2 := ⟨p2, q2, s2, t2⟩
        obtain ⟨m1, h⟩ := bt h
        obtain ⟨m2, m3⟩ := bt h
        exact ⟨⟨y0, y1, y2⟩, nI_w m1 (by omega) (by omega), nI_w m2 (by omega) (by omega), nI_w m3 (by omega) (by omega)⟩
      | true =>
        rw [o2, Bool.not_true, cond_false] at h
        obtain ⟨p2, h⟩ := bf h
        obtain ⟨q2, h⟩ := bf h
        obtain ⟨s2, h⟩ := bf h
        obtain ⟨t2, h⟩ := bf h
        have y2 : Z4 r.zx2 r.zr2 r.zl2 r.zd2 := ⟨nI_w p2 (by omega) (by omega), nI_w q2 (by omega) (by omega), nI_w s2 (by omega) (by omega), nI_w t2 (by omega) (by omega)⟩
        obtain ⟨m1, h⟩ := bt h
        obtain ⟨m2, m3⟩ := bt h
        exact ⟨⟨y0, y1, y2⟩, nI_w m1 (by omega) (by omega), nI_w m2 (by omega) (by omega), nI_w m3 (by omega) (by omega)⟩
  | true =>
    rw [o0, Bool.not_true, cond_false] at h
    obtain ⟨p0, h⟩ := bf h
    obtain ⟨q0, h⟩ := bf h
    obtain ⟨s0, h⟩ := bf h
    obtain ⟨t0, h⟩ := bf h
    have y0 : Z4 r.zx0 r.zr0 r.zl0 r.zd0 := ⟨nI_w p0 (by omega) (by omega), nI_w q0 (by omega) (by omega), nI_w s0 (by omega) (by omega), nI_w t0 (by omega) (by omega)⟩
    cases o1 : r.zon1 with
    | false =>
      rw [o1, Bool.not_false, cond_true] at h
      obtain ⟨z1, h⟩ := bf h
      obtain ⟨p1, q1, s1, t1⟩ := zo z1
      have y1 : Z4 r.zx1 r.zr1 r.zl1 r.zd1 := ⟨p1, q1, s1, t1⟩
      cases o2 : r.zon2 with
      | false =>
        rw [o2, Bool.not_false, cond_true] at h
        obtain ⟨z2, h⟩ := bf h
        obtain ⟨p2, q2, s2, t2⟩ := zo z2
        have y2 : Z4 r.zx2 r.zr2 r.zl2 r.zd2 := ⟨p2, q2, s2, t2⟩
        obtain ⟨m1, h⟩ := bt h
        obtain ⟨m2, m3⟩ := bt h
        exact ⟨⟨y0, y1, y2⟩, nI_w m1 (by omega) (by omega), nI_w m2 (by omega) (by omega), nI_w m3 (by omega) (by omega)⟩
      | true =>
        rw [o2, Bool.not_true, cond_false] at h
        obtain ⟨p2, h⟩ := bf h
        obtain ⟨q2, h⟩ := bf h
        obtain ⟨s2, h⟩ := bf h
        obtain ⟨t2, h⟩ := bf h
        have y2 : Z4 r.zx2 r.zr2 r.zl2 r.zd2 := ⟨nI_w p2 (by omega) (by omega), nI_w q2 (by omega) (by omega), nI_w s2 (by omega) (by omega), nI_w t2 (by omega) (by omega)⟩
        obtain ⟨m1, h⟩ := bt h
        obtain ⟨m2, m3⟩ := bt h
        exact ⟨⟨y0, y1, y2⟩, nI_w m1 (by omega) (by omega), nI_w m2 (by omega) (by omega), nI_w m3 (by omega) (by omega)⟩
    | true =>
      rw [o1, Bool.not_true, cond_false] at h
      obtain ⟨p1, h⟩ := bf h
      obtain ⟨q1, h⟩ := bf h
      obtain ⟨s1, h⟩ := bf h
      obtain ⟨t1, h⟩ := bf h
      have y1 : Z4 r.zx1 r.zr1 r.zl1 r.zd1 := ⟨nI_w p1 (by omega) (by omega), nI_w q1 (by omega) (by omega), nI_w s1 (by omega) (by omega), nI_w t1 (by omega) (by omega)⟩
      cases o2 : r.zon2 with
      | false =>
        rw [o2, Bool.not_false, cond_true] at h
        obtain ⟨z2, h⟩ := bf h
        obtain ⟨p2, q2, s2, t2⟩ := zo z2
        have y2 : Z4 r.zx2 r.zr2 r.zl2 r.zd2 := ⟨p2, q2, s2, t2⟩
        obtain ⟨m1, h⟩ := bt h
        obtain ⟨m2, m3⟩ := bt h
        exact ⟨⟨y0, y1, y2⟩, nI_w m1 (by omega) (by omega), nI_w m2 (by omega) (by omega), nI_w m3 (by omega) (by omega)⟩
      | true =>
        rw [o2, Bool.not_true, cond_false] at h
        obtain ⟨p2, h⟩ := bf h
        obtain ⟨q2, h⟩ := bf h
        obtain ⟨s2, h⟩ := bf h
        obtain ⟨t2, h⟩ := bf h
        have y2 : Z4 r.zx2 r.zr2 r.zl2 r.zd2 := ⟨nI_w p2 (by omega) (by omega), nI_w q2 (by omega) (by omega), nI_w s2 (by omega) (by omega), nI_w t2 (by omega) (by omega)⟩
        obtain ⟨m1, h⟩ := bt h
        obtain ⟨m2, m3⟩ := bt h
        exact ⟨⟨y0, y1, y2⟩, nI_w m1 (by omega) (by omega), nI_w m2 (by omega) (by omega), nI_w m3 (by omega) (by omega)⟩
theorem sch_n {r : SRel} (h : ev80_v r = true) : (r.scheme = 0 ∨ r.scheme = 1 ∨ r.scheme = 2 ∨ r.scheme = 3) ∧ nI r.wait = true ∧ nI r.guard = true := by
  unfold ev80_v at h
  obtain ⟨s, h⟩ := bf h
  have hs : r.scheme = 0 ∨ r.scheme = 1 ∨ r.scheme = 2 ∨ r.scheme = 3 := by
    unfold Aaa at s
    simp only [Bool.and_eq_true, decide_eq_true_eq] at s
    omega
  have gd : ∀ {b : Bool}, (bif b then (r.guard == (0 : Int)) else Aaa r.guard 0 50) = true → nI r.guard = true := fun {b} hg => by
    cases b with
    | true => exact nI_b hg
    | false => exact nI_w hg (by omega) (by omega)
  cases e : (r.scheme == 3) with
  | true =>
    rw [e, cond_true] at h
    obtain ⟨w, h⟩ := bf h
    exact ⟨hs, nI_w w (by omega) (by omega), gd h⟩
  | false =>
    rw [e, cond_false] at h
    obtain ⟨w, h⟩ := bne0 h
    exact ⟨hs, nI_z w, gd h⟩
theorem elm_n {r : SRel} (h : ev81_v r = true) : (nI r.ipk = true ∧ nI r.idl = true) ∧ (nI r.dpk = true ∧ nI r.ddl = true) ∧ (nI r.upk = true ∧ nI r.udl = true) ∧ (nI r.opk = true ∧ nI r.odl = true) ∧ (nI r.fpk = true ∧ nI r.fdl = true) := by
  unfold ev81_v at h
  have rest : ∀ {a b c d : Bool}, (bif a then (bif b then (bif c then d else false) else false) else false) = true → a = true ∧ b = true ∧ c = true ∧ d = true := fun {a b c d} h => by
    obtain ⟨x1, h⟩ := bt h
    obtain ⟨x2, h⟩ := bt h
    obtain ⟨x3, h⟩ := bt h
    exact ⟨x1, x2, x3, h⟩
  cases e : r.ion with
  | true =>
    rw [e, cond_true] at h
    obtain ⟨p, h⟩ := bf h
    obtain ⟨q, h⟩ := bf h
    obtain ⟨a, b, c, d⟩ := rest h
    exact ⟨⟨nI_w p (by omega) (by omega), nI_w q (by omega) (by omega)⟩, el_n a (by omega), el_n b (by omega), el_n c (by omega), el_n d (by omega)⟩
  | false =>
    rw [e, cond_false] at h
    obtain ⟨p, h⟩ := bf h
    simp only [Bool.and_eq_true] at p
    obtain ⟨a, b, c, d⟩ := rest h
    exact ⟨⟨nI_b p.2.1, nI_b p.2.2.1⟩, el_n a (by omega), el_n b (by omega), el_n c (by omega), el_n d (by omega)⟩
theorem oth_n {r : SRel} (h : ev82_v r = true) : (nI r.shots = true ∧ nI r.dead = true ∧ nI r.reclaim = true) ∧ nI r.diff = true ∧ nI r.num = true ∧ nI r.den = true ∧ nI r.harm = true := by
  unfold ev82_v at h
  have rest : (bif r.diff == (0 : Int) then (bif r.num == (0 : Int) then (bif r.den == (0 : Int) then (r.harm == (0 : Int)) else false) else false) else (bif Aaa r.diff (1 : Int) (16383 : Int) then (bif Aaa r.den (1 : Int) (100 : Int) then (bif Aaa r.num (0 : Int) r.den then Aaa r.harm (0 : Int) (100 : Int) else false) else false) else false)) = true → nI r.diff = true ∧ nI r.num = true ∧ nI r.den = true ∧ nI r.harm = true := fun h => by
    cases e : (r.diff == (0 : Int)) with
    | true =>
      rw [e, cond_true] at h
      obtain ⟨x1, h⟩ := bt h
      obtain ⟨x2, h⟩ := bt h
      exact ⟨nI_b e, nI_b x1, nI_b x2, nI_b h⟩
    | false =>
      rw [e, cond_false] at h
      obtain ⟨x1, h⟩ := bt h
      obtain ⟨x2, h⟩ := bt h
      obtain ⟨x3, h⟩ := bt h
      have hd : r.den ≤ 100 := by
        unfold Aaa at x2
        simp only [Bool.and_eq_true, decide_eq_true_eq] at x2
        exact x2.2
      exact ⟨nI_w x1 (by omega) (by omega), nI_w x3 (by omega) (by omega), nI_w x2 (by omega) (by omega), nI_w h (by omega) (by omega)⟩
  cases e : (r.shots == (0 : Int)) with
  | true =>
    rw [e, cond_true] at h
    obtain ⟨x1, h⟩ := bne0 h
    obtain ⟨x2, h⟩ := bne0 h
    exact ⟨⟨nI_b e, nI_z x1, nI_z x2⟩, rest h⟩
  | false =>
    rw [e, cond_false] at h
    obtain ⟨x1, h⟩ := bf h
    obtain ⟨x2, h⟩ := bf h
    obtain ⟨x3, h⟩ := bf h
    exact ⟨⟨nI_w x1 (by omega) (by omega), nI_w x2 (by omega) (by omega), nI_w x3 (by omega) (by omega)⟩, rest h⟩
theorem nfit {r : SRel} (h : restErr r = 0) : NFit r := by
  unfold restErr at h
  obtain ⟨_, h⟩ := bz h (by decide)
  obtain ⟨h1, h⟩ := bz h (by decide)
  obtain ⟨h2, h⟩ := bz h (by decide)
  obtain ⟨h3, h⟩ := bz h (by decide)
  obtain ⟨h4, h⟩ := bz h (by decide)
  obtain ⟨⟨z0, z1, z2⟩, m1, m2, m3⟩ := dist_n h1
  obtain ⟨s0, s1, s2⟩ := sch_n h2
  obtain ⟨⟨i1, i2⟩, ⟨d1, d2⟩, ⟨u1, u2⟩, ⟨o1, o2⟩, f1, f2⟩ := elm_n h3
  obtain ⟨⟨t1, t2, t3⟩, q1, q2, q3, q4⟩ := oth_n h4
  exact ⟨z0.x, z0.r, z0.l, z0.d, z1.x, z1.r, z1.l, z1.d, z2.x, z2.r, z2.l, z2.d, m1, m2, m3, s1, s2, d1, d2, i1, i2, f1, f2, t1, t2, t3, u1, u2, o1, o2, q1, q2, q3, q4, s0⟩
end Go.Proofs.YtmnfibmlhmeheaaGreatDoor.en
namespace Go.Proofs.YtmnfibmlhmeheaaGreatDoor.en
open Go.RowKit Go.Eb
set_option maxRecDepth 100000
abbrev eSRl := en2 aSta aRel
theorem eSRl_inj : InjT eSRl := en2_inj aSta_inj aRel_inj
noncomputable def fB (a : SSta × SRel) : Bool := @decide (NFit a.2 ∧ LFit a.2 ∧ PFit a.1 a.2) (Classical.propDecidable _)
theorem fB_iff {a : SSta × SRel} : fB a = true ↔ NFit a.2 ∧ LFit a.2 ∧ PFit a.1 a.2 := by unfold fB; simp
noncomputable def ZR (s : SSta) (l : List SRel) (e : Int × Int) : KR where
  okc := okEq (aSR s l)
  ci _ := e.1
  ce _ := e.2
  oki := okG eSRl fB
  iw x := wordsD (plainW (relW (theT eSRl x).1 (theT eSRl x).2))
  ik x := kidsD (encRel (theT eSRl x).1 (theT eSRl x).2)
theorem sRe {s : SSta} {l : List SRel} {e : Int × Int} (hck : CX Tryz.prog 20 (aSR s l) [] (tIE e) []) : OrcS Tryz.prog (oRe (ZR s l e)) :=
  .cons (.g fun x h => by obtain rfl := okEq_iff.1 h; exact hck) (.cons (.t' (enc := eSRl) (c := fB) (r := fun a => .agg [.d (dI 0), .d (wordsD (plainW (relW a.1 a.2))), .d (dB true), .d (kidsD (encRel a.1 a.2))]) fun a h => by
    obtain ⟨h1, h2, h3⟩ := fB_iff.1 h
    exact citm h1 h2 h3) .nil)
theorem crenS {s : SSta} {l : List SRel} {e : Int × Int} (hck : CX Tryz.prog 20 (aSR s l) [] (tIE e) []) (hf : e.2 = 0 → RFit s l) : CX Tryz.prog 8 (aSR s l) [] (.c (.d (itemsD (encRO s l e.2)))) [] := by
  have ev := evren (ZR s l e) s l 1001
  have k1 : KR.okc (ZR s l e) [AV.agg (List.map C.d (staC s)), AV.c (C.d (Aac ((53 : Nat)) relC rel0 l))] = true := okEq_iff.2 rfl
  rw [k1, cond_true] at ev
  cases h0 : (e.2 == 0) with
  | false =>
    have h1 : (KR.ce (ZR s l e) [AV.agg (List.map C.d (staC s)), AV.c (C.d (Aac ((53 : Nat)) relC rel0 l))] != (0 : Int)) = true := by
      show (e.2 != 0) = true
      unfold bne
      rw [h0]; rfl
    rw [h1, cond_true] at ev
    unfold encRO
    rw [h0]
    exact (cx_of (sRe hck).ok Tryz.func8 bren rfl ev).le (ale_d (.nil _ _)) (.refl _)
  | true =>
    have he : e.2 = 0 := eq_of_beq h0
    have hR := hf he
    have h1 : (KR.ce (ZR s l e) [AV.agg (List.map C.d (staC s)), AV.c (C.d (Aac ((53 : Nat)) relC rel0 l))] != (0 : Int)) = false := by
      show (e.2 != 0) = false
      rw [he]; rfl
    rw [h1, cond_false] at ev
    have hle := hR.le
    obtain ⟨f', r1, r2⟩ := app_loop (L := fun m n f i => Lren_6 (ZR s l e) s l 1001 m n f i) (K := fun n f => some (T.leaf (AV.c (C.row 0 4 n), [(0, Blk.row n f 4 57)]))) (l := l) (d := rel0) (c := Aag) (d0 := i0) (ch := fun x => [dI 0, wordsD (plainW (relW s x)), dB true, kidsD (encRel s x)]) (e := encRel s) (sz := 4)
      (fun m k n f hk hn => by
        show Lren_6 (ZR s l e) s l 1001 (m + 1) n f k = Lren_6 (ZR s l e) s l 1001 m (n + 1) _ _
        have q1 : KR.oki (ZR s l e) [AV.agg (List.map C.d (staC s)), AV.agg (List.map C.d (relC (List.getD l k rel0)))] = true := okG_enc eSRl_inj (c := fB) (s, l.getD k rel0) (fB_iff.2 ⟨hR.nf k hk, hR.lf k hk, hR.pf k hk⟩)
        have t1 : theT eSRl [AV.agg (List.map C.d (staC s)), AV.agg (List.map C.d (relC (List.getD l k rel0)))] = (s, l.getD k rel0) := theT_enc eSRl_inj (s, l.getD k rel0)
        have q2 : KR.iw (ZR s l e) [AV.agg (List.map C.d (staC s)), AV.agg (List.map C.d (relC (List.getD l k rel0)))] = wordsD (plainW (relW s (l.getD k rel0))) := by dsimp only [ZR]; rw [t1]
        have q3 : KR.ik (ZR s l e) [AV.agg (List.map C.d (staC s)), AV.agg (List.map C.d (relC (List.getD l k rel0)))] = kidsD (encRel s (l.getD k rel0)) := by dsimp only [ZR]; rw [t1]
        rw [stren_6, lt1 hk, cond_true, ge0, tt, cond_true, tn, q1, cond_true, appOk5 hn, cond_true, q2, q3, nx hk (by omega)])
      (fun m n f => by
        show Lren_6 (ZR s l e) s l 1001 (m + 1) n f (l.length : Int) = _
        rw [stren_6, lt0 (Nat.lt_irrefl _), cond_false])
      (fun _ => rfl) (fun k hk => bayC_de (x := encRel s (l.getD k rel0)) rfl rfl (.refl _) (.refl _)) 1001 0 0 (fun _ => []) [] (by omega) (by omega) (by omega) (.nil _)
    simp only [Nat.sub_zero, List.drop_zero, List.nil_append] at r1 r2
    have hc := (cr_of (sRe hck).ok Tryz.func8 bren rfl (ev.trans r2)).data (y := .c (.d (.sl 4 (0 + l.length) f'))) rfl
    refine (CX.of_cr Tryz.func8 bren hc).le ?_ (.refl _)
    unfold encRO
    rw [h0]
    exact ale_d (r1.de (sz := 4))
end Go.Proofs.YtmnfibmlhmeheaaGreatDoor.en
namespace Go.Proofs.YtmnfibmlhmeheaaGreatDoor.sk
open Go.RowKit Go.Eb
def fitK : List It → Bool
  | [] => true
  | .mk _ w _ k :: r => decide (k.length ≤ 9223372036854775807) && decide (w.length ≤ 9223372036854775807) && fitK k && fitK r
def okK (l : List It) : Bool := decide (l.length ≤ 9223372036854775807) && fitK l
noncomputable def o21 (N : Nat) (sm : List It → List It → Bool) : Orc := Orc.cons 6 (ans2 (fun x y => okI x && okI y && okK (theI x) && okK (theI y) && decide (dep (theI x) < N)) fun x y => vB (sm (theI x) (theI y))) Orc.nil
noncomputable def annsam : Ann := annOf [(4, ⟨[5, 1, 0], []⟩), (9, ⟨[5, 1, 0, 6], []⟩)]
noncomputable def Lsam_4 (N : Nat) (sm : List It → List It → Bool) (l l' : List It) (g m : Nat) (i5 : Int) := LK Tryz.prog (o21 N sm) annsam 0 g Tryz.f6 4 m ⟨frm [(0, .c (.d (Aac 4 Aag i0 l))), (1, .c (.d (Aac 4 Aag i0 l'))), (5, .c (.d (.v (.int .i64 i5))))] 0 Tryz.f6.ntmps, [], 0⟩
noncomputable def Lsam_9 (N : Nat) (sm : List It → List It → Bool) (l l' : List It) (g mo m : Nat) (i5 : Int) (i6 : Int) := LK2 Tryz.prog (o21 N sm) annsam 0 g Tryz.f6 4 mo 9 m ⟨frm [(0, .c (.d (Aac 4 Aag i0 l))), (1, .c (.d (Aac 4 Aag i0 l'))), (5, .c (.d (.v (.int .i64 i5)))), (6, .c (.d (.v (.int .i64 i6))))] 0 Tryz.f6.ntmps, [], 0⟩
theorem bsam : Tryz.f6.body = some (Aad Tryz.f6) := by kernel_rfl
theorem evsam (N : Nat) (sm : List It → List It → Bool) (l l' : List It) (g : Nat) : Aal Tryz.prog (o21 N sm) annsam g Tryz.f6 (Aad Tryz.f6) [aI l, aI l'] [] =
 (bif (↑(List.length l) : Int) != (↑(List.length l') : Int) then some (T.leaf (AV.c (.d (.v (.bool false))), [])) else Lsam_4 N sm l l' g g ((0 : Int))) := by kernel_rfl
theorem stsam_4 (N : Nat) (sm : List It → List It → Bool) (l l' : List It) (g m : Nat) (i5 : Int) : Lsam_4 N sm l l' g (m + 1) i5 =
 (bif decide (i5 < (↑(List.length l) : Int)) then (bif decide ((0 : Int) ≤ i5) && decide (i5 < (↑(List.length l) : Int)) then (bif decide ((0 : Int) ≤ i5) && decide (i5 <
 (↑(List.length l') : Int)) then (bif !It.block (List.getD l (Int.toNat i5) i0) == It.block (List.getD l' (Int.toNat i5) i0) then some (T.leaf (AV.c (.d (.v (.bool false))),
 [])) else (bif decide ((0 : Int) ≤ i5) && decide (i5 < (↑(List.length l) : Int)) then (bif decide ((0 : Int) ≤ i5) && decide (i5 < (↑(List.length l') : Int)) then (bif
 (↑(List.length (It.words (List.getD l (Int.toNat i5) i0))) : Int) != (↑(List.length (It.words (List.getD l' (Int.toNat i5) i0))) : Int) then some (T.leaf (AV.c (C.d (D.v (Value.bool
 false))), [])) else (bif decide ((0 : Int) ≤ i5) && decide (i5 < (↑(List.length l) : Int)) then (bif decide ((0 : Int) ≤ i5) && decide (i5 < (↑(List.length l') : Int)) then (bif okI
 (kidsD (List.getD l (Int.toNat i5) i0)) && okI (kidsD (List.getD l' (Int.toNat i5) i0)) && okK (theI (kidsD (List.getD l (Int.toNat i5) i0))) && okK (theI (kidsD (List.getD l'
 (Int.toNat i5) i0))) && decide (dep (theI (kidsD (List.getD l (Int.toNat i5) i0))) < N) then (bif !sm (theI (kidsD (List.getD l (Int.toNat i5) i0))) (theI (kidsD (List.getD l'
 (Int.toNat i5) i0))) then some (T.leaf (AV.c (.d (.v (.bool false))), [])) else Lsam_9 N sm l l' g m g i5 ((0 : Int))) else none) else none) else none)) else none) else
 none)) else none) else none) else some (T.leaf (AV.c (.d (.v (.bool true))), []))) := by kernel_rfl
theorem stsam_9 (N : Nat) (sm : List It → List It → Bool) (l l' : List It) (g mo m : Nat) (i5 : Int) (i6 : Int) : Lsam_9 N sm l l' g mo (m + 1) i5 i6 =
 (bif decide ((0 : Int) ≤ i5) && decide (i5 < (↑(List.length l) : Int)) then (bif decide (i6 < (↑(List.length (It.words (List.getD l (Int.toNat i5) i0))) : Int)) then (bif decide ((0
 : Int) ≤ i5) && decide (i5 < (↑(List.length l) : Int)) then (bif decide ((0 : Int) ≤ i6) && decide (i6 < (↑(List.length (It.words (List.getD l (Int.toNat i5) i0))) : Int)) then (bif
 decide ((0 : Int) ≤ i5) && decide (i5 < (↑(List.length l') : Int)) then (bif decide ((0 : Int) ≤ i6) && decide (i6 < (↑(List.length (It.words (List.getD l' (Int.toNat i5) i0))) :
 Int)) then (bif !(ByteArray.toList (Wd.text (List.getD (It.words (List.getD l (Int.toNat i5) i0)) (Int.toNat i6) w0)) == ByteArray.toList (Wd.text (List.getD (It.words (List.getD l'
 (Int.toNat i5) i0)) (Int.toNat i6) w0)) && (Wd.q (List.getD (It.words (List.getD l (Int.toNat i5) i0)) (Int.toNat i6) w0) == Wd.q (List.getD (It.words (List.getD l' (Int.toNat i5)
 i0)) (Int.toNat i6) w0) && true)) then some (T.leaf (AV.c (.d (.v (.bool false))), [])) else Lsam_9 N sm l l' g mo m i5 (IntKind.wrap .i64 (i6 + (1 : Int)))) else
 none) else none) else none) else none) else Lsam_4 N sm l l' g mo (IntKind.wrap .i64 (i5 + (1 : Int)))) else none) := by kernel_rfl
end Go.Proofs.YtmnfibmlhmeheaaGreatDoor.sk
namespace Go.Proofs.YtmnfibmlhmeheaaGreatDoor.sk
open Go.RowKit Go.Eb
set_option maxRecDepth 100000
theorem fitK_get : ∀ (l : List It) (i : Nat), i < l.length → fitK l = true → okK (l.getD i i0).kids = true ∧ (l.getD i i0).words.length ≤ 9223372036854775807
  | [], i, h, _ => by simp at h
  | .mk a b c k :: r, 0, _, hf => by
    rw [fitK] at hf
    simp only [Bool.and_eq_true] at hf
    obtain ⟨⟨⟨h1, h2⟩, h3⟩, h4⟩ := hf
    refine ⟨?_, of_decide_eq_true h2⟩
    show (decide (k.length ≤ 9223372036854775807) && fitK k) = true
    rw [h1, h3]
    rfl
  | .mk a b c k :: r, i + 1, h, hf => by
    rw [fitK] at hf
    simp only [Bool.and_eq_true] at hf
    simp only [List.getD_cons_succ]
    exact fitK_get r i (by simpa using h) hf.2
theorem okK_len {l : List It} (h : okK l = true) : l.length ≤ 9223372036854775807 := by unfold okK at h; simp at h; exact h.1
theorem okK_get {l : List It} (h : okK l = true) {i : Nat} (hi : i < l.length) : okK (l.getD i i0).kids = true ∧ (l.getD i i0).words.length ≤ 9223372036854775807 := by
  unfold okK at h
  simp only [Bool.and_eq_true] at h
  exact fitK_get l i hi h.2
theorem drop_cons {α : Type} (l : List α) (d : α) {k : Nat} (h : k < l.length) : l.drop k = l.getD k d :: l.drop (k + 1) := drop_at' h
def eqW1 (a b : Wd) : Bool := a.text.toList == b.text.toList && (a.q == b.q && true)
def eqW : List Wd → List Wd → Bool
  | [], [] => true
  | a :: r, b :: r' => eqW1 a b && eqW r r'
  | _, _ => false
def same : List It → List It → Bool
  | [], [] => true
  | .mk _ w b k :: r, .mk _ w' b' k' :: r' => (b == b') && eqW w w' && same k k' && same r r'
  | _, _ => false
def same1 (x y : It) : Bool := (x.block == y.block) && eqW x.words y.words && same x.kids y.kids
theorem same_cons (x y : It) (r r' : List It) : same (x :: r) (y :: r') = (same1 x y && same r r') := by cases x; cases y; simp only [same, same1, It.block, It.words, It.kids]
theorem eqW_len : ∀ {l l' : List Wd}, eqW l l' = true → l.length = l'.length
  | [], [], _ => rfl
  | _ :: r, _ :: r', h => by simp [eqW] at h; simp [eqW_len h.2]
  | [], _ :: _, h => by simp [eqW] at h
  | _ :: _, [], h => by simp [eqW] at h
theorem same_len : ∀ {l l' : List It}, same l l' = true → l.length = l'.length
  | [], [], _ => rfl
  | x :: r, y :: r', h => by rw [same_cons] at h; simp at h; simp [same_len h.2]
  | [], _ :: _, h => by simp [same] at h
  | _ :: _, [], h => by simp [same] at h
theorem lenne {n m : Nat} : ((n : Int) != (m : Int)) = !decide (n = m) := by
  by_cases h : n = m
  · simp [h]
  · have : ¬ (n : Int) = (m : Int) := by omega
    simp [h, this]
theorem lj21 (N : Nat) (l l' : List It) (g m : Nat) {i : Nat} (hi : i < l.length) (hi' : i < l'.length) (hw : (l.getD i i0).words.length = (l'.getD i i0).words.length) (hb : (l.getD i i0).words.length ≤ 9223372036854775807) (hl : l.length ≤ 9223372036854775807) : ∀ (m1 k : Nat), k ≤ (l.getD i i0).words.length → (l.getD i i0).words.length - k < m1 →
    Lsam_9 N same l l' g m m1 i k = bif eqW ((l.getD i i0).words.drop k) ((l'.getD i i0).words.drop k) then Lsam_4 N same l l' g m ((i + 1 : Nat) : Int) else some (.leaf (vB false, []))
  | 0, k, _, h => by omega
  | m1 + 1, k, hk, h => by
    rw [stsam_9]
    by_cases hlt : k < (l.getD i i0).words.length
    · have hlt' : k < (l'.getD i i0).words.length := by omega
      simp -implicitDefEqProofs only [lt1 hi, lt1 hi', lt1 hlt, lt1 hlt', ge0, tn, tt, cond_true]
      rw [nx hlt hb, lj21 N l l' g m hi hi' hw hb hl m1 (k + 1) (by omega) (by omega), drop_cons (l.getD i i0).words w0 hlt, drop_cons (l'.getD i i0).words w0 hlt']
      simp only [eqW]
      show (bif !eqW1 ((l.getD i i0).words.getD k w0) ((l'.getD i i0).words.getD k w0) then _ else _) = _
      cases eqW1 ((l.getD i i0).words.getD k w0) ((l'.getD i i0).words.getD k w0) <;> rfl
    · simp -implicitDefEqProofs only [lt1 hi, ge0, tn, tt, cond_true, lt0 hlt, cond_false]
      rw [List.drop_of_length_le (by omega), List.drop_of_length_le (by omega), nx hi hl]
      rfl
theorem lp21 (N : Nat) (l l' : List It) (g : Nat) (hg : ∀ i, i < l.length → (l.getD i i0).words.length < g) (hl : l.length = l'.length) (hN : dep l ≤ N) (hL : okK l = true) (hL' : okK l' = true) : ∀ (m k : Nat), k ≤ l.length → l.length - k < m →
    Lsam_4 N same l l' g m k = some (.leaf (vB (same (l.drop k) (l'.drop k)), []))
  | 0, k, _, h => by omega
  | m + 1, k, hk, h => by
    rw [stsam_4]
    by_cases hlt : k < l.length
    · have hlt' : k < l'.length := by omega
      have hd := dep_get l k hlt
      obtain ⟨ho, hw⟩ := okK_get hL hlt
      obtain ⟨ho', hw'⟩ := okK_get hL' hlt'
      have hdd : decide (dep (l.getD k i0).kids < N) = true := decide_eq_true (by omega)
      simp -implicitDefEqProofs only [lt1 hlt, lt1 hlt', ge0, tn, tt, cond_true, okI_kids, theI_kids, ho, ho', hdd, lenne]
      rw [drop_cons l i0 hlt, drop_cons l' i0 hlt', same_cons, same1]
      by_cases hwl : (l.getD k i0).words.length = (l'.getD k i0).words.length
      · have hj := lj21 N l l' g m hlt hlt' hwl (hw) (okK_len hL) g 0 (by omega) (by have := hg k hlt; omega)
        have hj' : Lsam_9 N same l l' g m g (k : Int) 0 = _ := hj
        rw [hj', lp21 N l l' g hg hl hN hL hL' m (k + 1) (by omega) (by omega)]
        simp only [hwl, decide_true, Bool.not_true, cond_false, List.drop_zero]
        cases ((l.getD k i0).block == (l'.getD k i0).block) <;> cases eqW (l.getD k i0).words (l'.getD k i0).words <;> cases same (l.getD k i0).kids (l'.getD k i0).kids <;> rfl
      · have e : eqW (l.getD k i0).words (l'.getD k i0).words = false := by
          cases he : eqW (l.getD k i0).words (l'.getD k i0).words with
          | false => rfl
          | true => exact absurd (eqW_len he) hwl
        simp only [hwl, decide_false, Bool.not_false, cond_true, e]
        cases ((l.getD k i0).block == (l'.getD k i0).block) <;> rfl
    · rw [lt0 hlt, List.drop_of_length_le (by omega), List.drop_of_length_le (by omega)]
      simp only [cond_false, same]
def wmax : List It → Nat
  | [] => 0
  | x :: r => max x.words.length (wmax r)
theorem wmax_le : ∀ (l : List It) (i : Nat), i < l.length → (l.getD i i0).words.length ≤ wmax l
  | [], i, h => by simp at h
  | x :: r, 0, _ => by simp only [List.getD_cons_zero, wmax]; omega
  | x :: r, i + 1, h => by simp only [List.getD_cons_succ, wmax]; have := wmax_le r i (by simpa using h); omega
theorem c21 : ∀ (N : Nat) (l l' : List It), dep l < N → okK l = true → okK l' = true → CX Tryz.prog 6 [aI l, aI l'] [] (vB (same l l')) []
  | 0, l, l', h, _, _ => by omega
  | N + 1, l, l', h, hL, hL' => by
    have ho : OrcOk Tryz.prog (o21 N same) := Orc.cons_ok (Orc.nil_ok _) (ans2_ok fun x y hx => by
      simp only [Bool.and_eq_true, decide_eq_true_eq] at hx
      exact (c21 N (theI x) (theI y) hx.2 hx.1.1.2 hx.1.2).ge (asle2 (theI_de hx.1.1.1.1) (theI_de hx.1.1.1.2)) .nil)
    refine cx_of ho Tryz.func6 bsam rfl ((evsam N same l l' (l.length + wmax l + 1)).trans ?_)
    rw [lenne]
    by_cases hl : l.length = l'.length
    · simp only [hl, decide_true, Bool.not_true, cond_false]
      rw [← hl]
      exact lp21 N l l' (l.length + wmax l + 1) (fun i hi => by have := wmax_le l i hi; omega) hl (by omega) hL hL' (l.length + wmax l + 1) 0 (by omega) (by omega)
    · have e : same l l' = false := by
        cases he : same l l' with
        | false => rfl
        | true => exact absurd (same_len he) hl
      simp [hl, e]
theorem eqW_refl : ∀ l : List Wd, eqW l l = true
  | [] => rfl
  | a :: r => by
    show (eqW1 a a && eqW r r) = true
    rw [eqW_refl r]
    unfold eqW1
    simp only [beq_self_eq_true, Bool.and_self]
theorem same_refl : ∀ l : List It, same l l = true
  | [] => by simp only [same]
  | .mk a w b k :: r => by simp only [same, eqW_refl, same_refl k, same_refl r, beq_self_eq_true, Bool.and_self]
end Go.Proofs.YtmnfibmlhmeheaaGreatDoor.sk
namespace Go.Proofs.YtmnfibmlhmeheaaGreatDoor.en
open Go.RowKit Go.Eb Go.Proofs.YtmnfibmlhmeheaaGreatDoor.st Go.Proofs.YtmnfibmlhmeheaaGreatDoor.se
set_option maxRecDepth 100000
theorem chk_all (bays : List SBay) : ∀ (l : List SRel) (N : List ByteArray) (B : List Int) (i : Nat), (chkRels bays N B i l).2 = 0 → ∀ k, k < l.length → ∃ N B, addErr bays N B (l.getD k rel0) = 0
  | [], _, _, _, _, k, hk => by simp at hk
  | r :: t, N, B, i, h, k, hk => by
    simp only [chkRels] at h
    cases e : (addErr bays N B r != 0) with
    | true =>
      rw [e] at h
      simp only [cond_true] at h
      rw [h] at e
      cases e
    | false =>
      rw [e] at h
      simp only [cond_false] at h
      cases k with
      | zero => exact ⟨N, B, by simpa using e⟩
      | succ k => exact chk_all bays t _ _ _ h k (by simpa using hk)
theorem add_facts {bays : List SBay} {N : List ByteArray} {B : List Int} {r : SRel} (h : addErr bays N B r = 0) : placeErr bays B r = 0 ∧ restErr r = 0 := by
  unfold addErr at h
  obtain ⟨_, h⟩ := bz h (by decide)
  cases e : inB N r.name with
  | true => rw [e] at h; exact absurd h (show ¬ (8 : Int) = 0 by decide)
  | false =>
    rw [e, cond_false] at h
    exact bz' h
theorem plc_k {bays : List SBay} {B : List Int} {r : SRel} {k : Int} (h : placeK bays B r k = 0) : 0 ≤ r.bay ∧ r.bay < (bays.length : Int) := by
  unfold placeK at h
  obtain ⟨h1, _⟩ := bz h (by decide)
  unfold Aaa at h1
  simp only [Bool.and_eq_true, decide_eq_true_eq] at h1
  omega
theorem pfit {s : SSta} {B : List Int} {r : SRel} (h : placeErr s.bays B r = 0) : PFit s r := by
  unfold placeErr at h
  cases e1 : (r.kind == 1) with
  | true => rw [e1] at h; exact .inr ⟨.inl (eq_of_beq e1), plc_k h⟩
  | false =>
    cases e2 : (r.kind == 2) with
    | true => rw [e1, e2] at h; exact .inr ⟨.inr (.inl (eq_of_beq e2)), plc_k h⟩
    | false =>
      cases e3 : (r.kind == 3) with
      | true => rw [e1, e2, e3] at h; exact .inr ⟨.inr (.inr (eq_of_beq e3)), plc_k h⟩
      | false =>
        cases e4 : (r.kind == 4) with
        | true => exact .inl (eq_of_beq e4)
        | false => rw [e1, e2, e3, e4] at h; exact absurd h (show ¬ (10 : Int) = 0 by decide)
theorem list_rest {α : Type} {valid : α → Bool} {key : α → ByteArray} {rest : α → Int} {d : α} : ∀ (l : List α) (seen : List ByteArray), listErr valid key rest seen l = 0 → ∀ k, k < l.length → rest (l.getD k d) = 0
  | [], _, _, k, hk => by simp at hk
  | x :: r, seen, h, k, hk => by
    simp only [listErr] at h
    obtain ⟨_, h⟩ := bz h (by decide)
    cases e : inB seen (key x) with
    | true => rw [e] at h; exact absurd h (show ¬ (8 : Int) = 0 by decide)
    | false =>
      rw [e, cond_false] at h
      obtain ⟨h1, h2⟩ := bz' h
      cases k with
      | zero => exact h1
      | succ k => exact list_rest r _ h2 k (by simpa using hk)
theorem pub_n {x : SPub} (h : ev123_v x = 0) : nI x.fst = true ∧ nI x.max = true := by
  unfold ev123_v at h
  cases e1 : decide (x.fst ≥ (1 : Int)) with
  | false => rw [e1] at h; exact absurd h (show ¬ (2 : Int) = 0 by decide)
  | true =>
    rw [e1, cond_true] at h
    obtain ⟨e2, h⟩ := bz h (by decide)
    cases e3 : decide (x.max ≥ x.fst) with
    | false => rw [e3] at h; exact absurd h (show ¬ (2 : Int) = 0 by decide)
    | true =>
      rw [e3, cond_true] at h
      obtain ⟨e4, _⟩ := bz h (by decide)
      have a1 := of_decide_eq_true e1
      have a2 := of_decide_eq_true e2
      have a3 := of_decide_eq_true e3
      have a4 := of_decide_eq_true e4
      unfold nI
      exact ⟨by rw [decide_eq_true (by omega), decide_eq_true (by omega)]; rfl, by rw [decide_eq_true (by omega), decide_eq_true (by omega)]; rfl⟩
theorem lfit {r : SRel} (h : restErr r = 0) (hl : largeR r = false) : LFit r := by
  have hp : ePubs r.pubs = 0 := by
    unfold restErr at h
    obtain ⟨_, h⟩ := bz h (by decide)
    obtain ⟨_, h⟩ := bz h (by decide)
    obtain ⟨_, h⟩ := bz h (by decide)
    obtain ⟨_, h⟩ := bz h (by decide)
    obtain ⟨_, h⟩ := bz h (by decide)
    obtain ⟨_, h⟩ := bz h (by decide)
    obtain ⟨_, h⟩ := bz h (by decide)
    unfold eLists at h
    obtain ⟨_, h⟩ := bz' h
    obtain ⟨_, h⟩ := bz' h
    exact (bz' h).1
  unfold ePubs at hp
  have hq := list_rest (d := pub0) r.pubs [] hp
  unfold largeR at hl
  simp only [Bool.or_eq_false_iff, decide_eq_false_iff_not] at hl
  obtain ⟨l1, l2, l3, l4, l5, _⟩ := hl
  refine ⟨by omega, by omega, by omega, by omega, fun k hk => ?_, fun k hk => (pub_n (hq k hk)).1, fun k hk => (pub_n (hq k hk)).2⟩
  have hm : r.sets.getD k set0 ∈ r.sets := by
    rw [List.getD_eq_getElem?_getD, List.getElem?_eq_getElem hk]
    exact List.getElem_mem hk
  have := List.any_eq_false.1 l5 _ hm
  have h2 := of_decide_eq_false (by simpa using this : decide (30 < (r.sets.getD k set0).sigs.length) = false)
  omega
theorem rfit {s : SSta} {l : List SRel} (h : (chkRels s.bays (namesS s) [] 0 l).2 = 0) (hl : l.length ≤ 20) (hL : l.any largeR = false) : RFit s l := by
  have key : ∀ k, k < l.length → ∃ N B, addErr s.bays N B (l.getD k rel0) = 0 := chk_all s.bays l _ _ _ h
  refine ⟨fun k hk => ?_, fun k hk => ?_, fun k hk => ?_, by omega⟩
  · obtain ⟨N, B, e⟩ := key k hk
    exact nfit (add_facts e).2
  · obtain ⟨N, B, e⟩ := key k hk
    refine lfit (add_facts e).2 ?_
    have hm : l.getD k rel0 ∈ l := by
      rw [List.getD_eq_getElem?_getD, List.getElem?_eq_getElem hk]
      exact List.getElem_mem hk
    exact by simpa using List.any_eq_false.1 hL _ hm
  · obtain ⟨N, B, e⟩ := key k hk
    exact pfit (add_facts e).1
end Go.Proofs.YtmnfibmlhmeheaaGreatDoor.en
namespace Go.Proofs.YtmnfibmlhmeheaaGreatDoor.en
open Go.RowKit Go.Eb Go.Proofs.YtmnfibmlhmeheaaGreatDoor.st Go.Proofs.YtmnfibmlhmeheaaGreatDoor.se
set_option maxRecDepth 100000
open Go.Proofs.YtmnfibmlhmeheaaGreatDoor.sk (okK fitK)
def Sm (y : It) : Prop := y.words.length ≤ 5000 ∧ y.kids = []
theorem fit_flat : ∀ (l : List It), (∀ x ∈ l, Sm x) → fitK l = true
  | [], _ => by rw [fitK]
  | .mk a w b k :: r, h => by
    obtain ⟨h1, h2⟩ := h (.mk a w b k) (by simp)
    have hk : k = [] := h2
    subst hk
    have h1' : w.length ≤ 5000 := h1
    have ih := fit_flat r fun x hx => h x (by simp [hx])
    rw [fitK, ih, decide_eq_true (by simp), decide_eq_true (by omega), fitK]
    rfl
theorem fit_two : ∀ (l : List It), (∀ x ∈ l, x.words.length ≤ 5000 ∧ x.kids.length ≤ 5000 ∧ ∀ y ∈ x.kids, Sm y) → fitK l = true
  | [], _ => by rw [fitK]
  | .mk a w b k :: r, h => by
    obtain ⟨h1, h2, h3⟩ := h (.mk a w b k) (by simp)
    have h1' : w.length ≤ 5000 := h1
    have h2' : k.length ≤ 5000 := h2
    have ih := fit_two r fun x hx => h x (by simp [hx])
    rw [fitK, ih, fit_flat k h3, decide_eq_true (by omega), decide_eq_true (by omega)]
    rfl
theorem P_app {a b : List It} (h1 : ∀ y ∈ a, Sm y) (h2 : ∀ y ∈ b, Sm y) : ∀ y ∈ a ++ b, Sm y := fun y hy => (List.mem_append.1 hy).elim (h1 y) (h2 y)
theorem say_sm {l : List ByteArray} (h : l.length ≤ 5000) : Sm (say l) := ⟨by show (l.map fun t => (⟨t, false⟩ : Wd)).length ≤ 5000; simpa using h, rfl⟩
theorem zP (i : Int) (on fw : Bool) (x r l d : Int) : ∀ y ∈ encZone i on fw x r l d, Sm y := fun y hy => by
  cases on with
  | false => cases hy
  | true =>
    have hy' : y ∈ [say [tZone', decI i, bif fw then tForward' else tReverse', decI x, decI r, decI l, decI d]] := hy
    obtain rfl := List.mem_singleton.1 hy'
    exact say_sm (by simp)
theorem iP {b : Bool} {l : List ByteArray} (h : l.length ≤ 5000) : ∀ y ∈ encIf b (say l), Sm y := fun y hy => by
  cases b with
  | false => cases hy
  | true =>
    have hy' : y ∈ [say l] := hy
    obtain rfl := List.mem_singleton.1 hy'
    exact say_sm h
theorem num_sm (r : SRel) : ∀ y ∈ encNum r, Sm y := by
  unfold encNum
  exact P_app (P_app (P_app (P_app (P_app (P_app (P_app (P_app (P_app (P_app (P_app (zP _ _ _ _ _ _ _) (zP _ _ _ _ _ _ _)) (zP _ _ _ _ _ _ _)) (iP (by simp))) (iP (by simp))) (iP (by simp))) (iP (by simp))) (iP (by simp))) (iP (by simp))) (iP (by simp))) (iP (by simp))) (iP (by simp))
theorem lst_sm {r : SRel} (h : LFit r) : ∀ y ∈ encLst r, Sm y := by
  unfold encLst
  refine P_app (P_app (P_app ?_ ?_) ?_) ?_
  · intro y hy
    obtain ⟨x, _, rfl⟩ := List.mem_map.1 hy
    exact ⟨by show 3 ≤ 5000; omega, rfl⟩
  · intro y hy
    obtain ⟨x, hx, rfl⟩ := List.mem_map.1 hy
    obtain ⟨k, hk, e⟩ := List.getElem_of_mem hx
    have := h.sg k hk
    rw [List.getD_eq_getElem?_getD, List.getElem?_eq_getElem hk] at this
    have hs : x.sigs.length ≤ 3000 := by rw [← e]; exact this
    exact say_sm (by rw [setW_len]; omega)
  · intro y hy
    obtain ⟨x, _, rfl⟩ := List.mem_map.1 hy
    exact say_sm (by simp)
  · intro y hy
    obtain ⟨x, _, rfl⟩ := List.mem_map.1 hy
    exact say_sm (by simp)
theorem okK_enc (s : SSta) (l : List SRel) (e : Int) (hR : e = 0 → RFit s l) : okK (encRO s l e) = true := by
  unfold encRO
  cases h0 : (e == 0) with
  | false =>
    show okK [] = true
    unfold okK
    rw [fitK]
    rfl
  | true =>
    have hF := hR (eq_of_beq h0)
    rw [cond_true]
    have hle := hF.le
    unfold okK
    rw [decide_eq_true (by unfold encRels; simp; omega), fit_two]
    · rfl
    · intro x hx
      unfold encRels at hx
      obtain ⟨r, hr, rfl⟩ := List.mem_map.1 hx
      obtain ⟨k, hk, e⟩ := List.getElem_of_mem hr
      have hL := hF.lf k hk
      rw [List.getD_eq_getElem?_getD, List.getElem?_eq_getElem hk] at hL
      have hL' : LFit r := by rw [← e]; exact hL
      refine ⟨?_, ?_, ?_⟩
      · show (plainW (relW s r)).length ≤ 5000
        unfold plainW relW
        cases (r.kind == 4) <;> simp
      · show (encNum r ++ encLst r).length ≤ 5000
        have := encNum_len r
        have := encLst_len hL'
        simp
        omega
      · exact P_app (num_sm r) (lst_sm hL')
theorem same_rel (s : SSta) (l : List SRel) (e : Int) (hR : e = 0 → RFit s l) : CX Tryz.prog 6 [.c (.d (itemsD (encRO s l e))), .c (.d (itemsD (encRO s l e)))] [] (vB true) [] := by
  have hk := okK_enc s l e hR
  have := sk.c21 (dep (encRO s l e) + 1) (encRO s l e) (encRO s l e) (by omega) hk hk
  rw [sk.same_refl] at this
  exact this
end Go.Proofs.YtmnfibmlhmeheaaGreatDoor.en
