/-
  Relays as data: their abstract form. No condition.
-/
import Derived.Test.YtihcidopklhikaaGreatDoorZSt
import Derived.Test.YtihcidopklhikaaGreatDoorZTy
namespace Go.Eb
open Go.RowKit

structure SRule where
  name : ByteArray
  text : ByteArray
structure SSet where
  name : ByteArray
  sigs : List ByteArray
structure SPub where
  set : ByteArray
  fst : Int
  max : Int
structure SSub where
  loc : ByteArray
  dev : ByteArray
  set : ByteArray
  sig : ByteArray
def rule0 : SRule := ⟨e0, e0⟩
def set0 : SSet := ⟨e0, []⟩
def pub0 : SPub := ⟨e0, 0, 0⟩
def sub0 : SSub := ⟨e0, e0, e0, e0⟩
instance : Inhabited SRule := ⟨rule0⟩
instance : Inhabited SSet := ⟨set0⟩
instance : Inhabited SPub := ⟨pub0⟩
instance : Inhabited SSub := ⟨sub0⟩
def ruleC (x : SRule) : List D := [dS x.name, dS x.text]
def setC (x : SSet) : List D := [dS x.name, busesD x.sigs]
def pubC (x : SPub) : List D := [dS x.set, dI x.fst, dI x.max]
def subC (x : SSub) : List D := [dS x.loc, dS x.dev, dS x.set, dS x.sig]
abbrev rulesD (l : List SRule) : D := listD 2 ruleC rule0 l
abbrev setsD (l : List SSet) : D := listD 2 setC set0 l
abbrev pubsD (l : List SPub) : D := listD 3 pubC pub0 l
abbrev subsD (l : List SSub) : D := listD 4 subC sub0 l
theorem ruleC_inj (a b : SRule) (h : DEs (ruleC a) (ruleC b)) : a = b := by
  cases a; cases b
  have h0 := dS_inj (h.2 0 _ _ rfl rfl)
  have h1 := dS_inj (h.2 1 _ _ rfl rfl)
  simp only at h0 h1
  rw [h0, h1]
theorem setC_inj (a b : SSet) (h : DEs (setC a) (setC b)) : a = b := by
  cases a; cases b
  have h0 := dS_inj (h.2 0 _ _ rfl rfl)
  have h1 := listD_inj busC_inj _ _ (h.2 1 _ _ rfl rfl)
  simp only at h0 h1
  rw [h0, h1]
theorem pubC_inj (a b : SPub) (h : DEs (pubC a) (pubC b)) : a = b := by
  cases a; cases b
  have h0 := dS_inj (h.2 0 _ _ rfl rfl)
  have h1 := dI_inj (h.2 1 _ _ rfl rfl)
  have h2 := dI_inj (h.2 2 _ _ rfl rfl)
  simp only at h0 h1 h2
  rw [h0, h1, h2]
theorem subC_inj (a b : SSub) (h : DEs (subC a) (subC b)) : a = b := by
  cases a; cases b
  have h0 := dS_inj (h.2 0 _ _ rfl rfl)
  have h1 := dS_inj (h.2 1 _ _ rfl rfl)
  have h2 := dS_inj (h.2 2 _ _ rfl rfl)
  have h3 := dS_inj (h.2 3 _ _ rfl rfl)
  simp only at h0 h1 h2 h3
  rw [h0, h1, h2, h3]

structure SRel where
  name : ByteArray
  kind : Int
  bay : Int
  zon0 : Bool
  zfw0 : Bool
  zx0 : Int
  zr0 : Int
  zl0 : Int
  zd0 : Int
  zon1 : Bool
  zfw1 : Bool
  zx1 : Int
  zr1 : Int
  zl1 : Int
  zd1 : Int
  zon2 : Bool
  zfw2 : Bool
  zx2 : Int
  zr2 : Int
  zl2 : Int
  zd2 : Int
  min : Int
  kre : Int
  kim : Int
  scheme : Int
  wait : Int
  guard : Int
  don : Bool
  dpk : Int
  ddl : Int
  ion : Bool
  ipk : Int
  idl : Int
  fon : Bool
  fpk : Int
  fdl : Int
  shots : Int
  dead : Int
  reclaim : Int
  uon : Bool
  upk : Int
  udl : Int
  oon : Bool
  opk : Int
  odl : Int
  diff : Int
  num : Int
  den : Int
  harm : Int
  rules : List SRule
  sets : List SSet
  pubs : List SPub
  subs : List SSub
def rel0 : SRel := ⟨e0, 0, 0, false, false, 0, 0, 0, 0, false, false, 0, 0, 0, 0, false, false, 0, 0, 0, 0, 0, 0, 0, 0, 0, 0, false, 0, 0, false, 0, 0, false, 0, 0, 0, 0, 0, false, 0, 0, false, 0, 0, 0, 0, 0, 0, [], [], [], []⟩
instance : Inhabited SRel := ⟨rel0⟩
def relC (r : SRel) : List D := [dS r.name, dI r.kind, dI r.bay, dB r.zon0, dB r.zfw0, dI r.zx0, dI r.zr0, dI r.zl0, dI r.zd0, dB r.zon1, dB r.zfw1, dI r.zx1, dI r.zr1, dI r.zl1, dI r.zd1, dB r.zon2, dB r.zfw2, dI r.zx2, dI r.zr2, dI r.zl2, dI r.zd2, dI r.min, dI r.kre, dI r.kim, dI r.scheme, dI r.wait, dI r.guard, dB r.don, dI r.dpk, dI r.ddl, dB r.ion, dI r.ipk, dI r.idl, dB r.fon, dI r.fpk, dI r.fdl, dI r.shots, dI r.dead, dI r.reclaim, dB r.uon, dI r.upk, dI r.udl, dB r.oon, dI r.opk, dI r.odl, dI r.diff, dI r.num, dI r.den, dI r.harm, rulesD r.rules, setsD r.sets, pubsD r.pubs, subsD r.subs]
abbrev relsD (l : List SRel) : D := listD 53 relC rel0 l
abbrev aRel (r : SRel) : AV := .agg ((relC r).map .d)
theorem relC_inj (a b : SRel) (h : DEs (relC a) (relC b)) : a = b := by
  cases a; cases b
  have h0 := dS_inj (h.2 0 _ _ rfl rfl)
  have h1 := dI_inj (h.2 1 _ _ rfl rfl)
  have h2 := dI_inj (h.2 2 _ _ rfl rfl)
  have h3 := dB_inj (h.2 3 _ _ rfl rfl)
  have h4 := dB_inj (h.2 4 _ _ rfl rfl)
  have h5 := dI_inj (h.2 5 _ _ rfl rfl)
  have h6 := dI_inj (h.2 6 _ _ rfl rfl)
  have h7 := dI_inj (h.2 7 _ _ rfl rfl)
  have h8 := dI_inj (h.2 8 _ _ rfl rfl)
  have h9 := dB_inj (h.2 9 _ _ rfl rfl)
  have h10 := dB_inj (h.2 10 _ _ rfl rfl)
  have h11 := dI_inj (h.2 11 _ _ rfl rfl)
  have h12 := dI_inj (h.2 12 _ _ rfl rfl)
  have h13 := dI_inj (h.2 13 _ _ rfl rfl)
  have h14 := dI_inj (h.2 14 _ _ rfl rfl)
  have h15 := dB_inj (h.2 15 _ _ rfl rfl)
  have h16 := dB_inj (h.2 16 _ _ rfl rfl)
  have h17 := dI_inj (h.2 17 _ _ rfl rfl)
  have h18 := dI_inj (h.2 18 _ _ rfl rfl)
  have h19 := dI_inj (h.2 19 _ _ rfl rfl)
  have h20 := dI_inj (h.2 20 _ _ rfl rfl)
  have h21 := dI_inj (h.2 21 _ _ rfl rfl)
  have h22 := dI_inj (h.2 22 _ _ rfl rfl)
  have h23 := dI_inj (h.2 23 _ _ rfl rfl)
  have h24 := dI_inj (h.2 24 _ _ rfl rfl)
  have h25 := dI_inj (h.2 25 _ _ rfl rfl)
  have h26 := dI_inj (h.2 26 _ _ rfl rfl)
  have h27 := dB_inj (h.2 27 _ _ rfl rfl)
  have h28 := dI_inj (h.2 28 _ _ rfl rfl)
  have h29 := dI_inj (h.2 29 _ _ rfl rfl)
  have h30 := dB_inj (h.2 30 _ _ rfl rfl)
  have h31 := dI_inj (h.2 31 _ _ rfl rfl)
  have h32 := dI_inj (h.2 32 _ _ rfl rfl)
  have h33 := dB_inj (h.2 33 _ _ rfl rfl)
  have h34 := dI_inj (h.2 34 _ _ rfl rfl)
  have h35 := dI_inj (h.2 35 _ _ rfl rfl)
  have h36 := dI_inj (h.2 36 _ _ rfl rfl)
  have h37 := dI_inj (h.2 37 _ _ rfl rfl)
  have h38 := dI_inj (h.2 38 _ _ rfl rfl)
  have h39 := dB_inj (h.2 39 _ _ rfl rfl)
  have h40 := dI_inj (h.2 40 _ _ rfl rfl)
  have h41 := dI_inj (h.2 41 _ _ rfl rfl)
  have h42 := dB_inj (h.2 42 _ _ rfl rfl)
  have h43 := dI_inj (h.2 43 _ _ rfl rfl)
  have h44 := dI_inj (h.2 44 _ _ rfl rfl)
  have h45 := dI_inj (h.2 45 _ _ rfl rfl)
  have h46 := dI_inj (h.2 46 _ _ rfl rfl)
  have h47 := dI_inj (h.2 47 _ _ rfl rfl)
  have h48 := dI_inj (h.2 48 _ _ rfl rfl)
  have h49 := listD_inj ruleC_inj _ _ (h.2 49 _ _ rfl rfl)
  have h50 := listD_inj setC_inj _ _ (h.2 50 _ _ rfl rfl)
  have h51 := listD_inj pubC_inj _ _ (h.2 51 _ _ rfl rfl)
  have h52 := listD_inj subC_inj _ _ (h.2 52 _ _ rfl rfl)
  simp only at h0 h1 h2 h3 h4 h5 h6 h7 h8 h9 h10 h11 h12 h13 h14 h15 h16 h17 h18 h19 h20 h21 h22 h23 h24 h25 h26 h27 h28 h29 h30 h31 h32 h33 h34 h35 h36 h37 h38 h39 h40 h41 h42 h43 h44 h45 h46 h47 h48 h49 h50 h51 h52
  subst h0 h1 h2 h3 h4 h5 h6 h7 h8 h9 h10 h11 h12 h13 h14 h15 h16 h17 h18 h19 h20 h21 h22 h23 h24 h25 h26 h27 h28 h29 h30 h31 h32 h33 h34 h35 h36 h37 h38 h39 h40 h41 h42 h43 h44 h45 h46 h47 h48 h49 h50 h51 h52
  rfl
theorem aRel_inj : InjA aRel := aG_inj relC_inj
end Go.Eb
