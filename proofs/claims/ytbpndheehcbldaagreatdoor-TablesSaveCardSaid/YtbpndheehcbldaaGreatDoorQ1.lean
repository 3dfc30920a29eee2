/-
  Go code evaluated: part 1. No condition.
-/
import Derived.WalkKit
import Derived.MapKept
import Derived.Deep.AppendSrc
import Derived.Laws.StructEq
import Derived.ChangeKeysEq
import Derived.Lib.Builder
import Derived.Lib.UnsafeStr
import Derived.Laws.BytesArg
import Derived.Lib.ConvBytes
noncomputable section
set_option maxRecDepth 100000
namespace Go.Eb
open Go.RowKit
inductive D where
 |v (x:Value)|sl (sz n:Nat) (f:Nat ->List D)
inductive Rf where
 |d (x:D)|ptr (h off:Nat)
inductive C where
 |d (x:D)|ptr (h off:Nat)|ept (h sz i off:Nat)|ip (cs:List D)|row (h sz len:Nat)|fn (f:FuncId) (first caps:List Rf)|mp (h:Nat)|u
inductive AV where
 |c (x:C)|agg (cs:List C)|tup (vs:List (Bool×List C))|u
inductive Blk where
 |cells (cs:List C) (t:TypeId)|row (n:Nat) (f:Nat ->List D) (sz:Nat) (t:TypeId)|iter (s:ByteArray) (pos:Nat)|map (kd:Nat) (l:List (Value×Value))|dead
abbrev BA:=ByteArray
theorem za{α:Type}(a b:α):(bif true then a else b)=a:=rfl
theorem zb{α:Type}(a b:α):(bif false then a else b)=b:=rfl
theorem zd(a b:Bool):((a&&b)=true)=(a=true∧b=true):=Bool.and_eq_true a b
theorem zg{n m:Nat}(h:Nat.beq n m=true):n=m:=Nat.eq_of_beq_eq_true h
theorem zh{α:Type}{l:List α}{i:Nat}{a:α}:l.getD i a=l[i]?.getD a:=List.getD_eq_getElem?_getD
theorem zi{p:Prop}[Decidable p]:(decide p=true)=p:=decide_eq_true_eq
theorem zj{α:Type}(a b:α):(some a=some b)=(a=b):=Option.some.injEq a b
theorem zk{p:Prop}[inst:Decidable p](h:p:=by omega):decide p=true:=decide_eq_true h
theorem zl{α:Type}{l:List α}{i:Nat}(h:l.length≤i:=by omega):l.drop i=[]:=List.drop_of_length_le h
theorem zm{α:Type}{l:List α}{i:Nat}{a:α}:l[i]? =some a↔ ∃h:i<l.length,l[i]=a:=List.getElem?_eq_some_iff
theorem zn{α:Type}{l:List α}{i:Nat}(h:i<l.length):l[i]? =some l[i]:=List.getElem?_eq_getElem h
theorem zp(n:Nat): ¬n<n:=Nat.lt_irrefl n
theorem zq{α:Type}{l:List α}:l.drop 0=l:=List.drop_zero
theorem zt{p:Prop}[inst:Decidable p](h: ¬p:=by omega):decide p=false:=decide_eq_false h
abbrev RD:=Nat ->List D
abbrev iD(n:Int):D:= .v (.int .i64 n)
abbrev iA(n:Int):AV:= .c (.d (.v (.int .i64 n)))
abbrev gA(l:List D):AV:= .agg (l.map .d)
abbrev LB:=List AV ->Bool
abbrev LI:=List AV ->Int
abbrev MV:=List (Value×Value)
abbrev Hp:=List (Nat×Blk)
structure St where
 F:List AV
 H:Hp
 nm:Nat
def look:Hp ->Nat ->Option Blk
 |[],_=>none|(h,b)::r,k=>bif Nat.beq k h then some b else look r k
def ins(h:Nat)(b:Blk):Hp ->Hp
 |[]=>[(h,b)]|(k,c)::r=>bif Nat.ble h k then(bif Nat.beq h k then(h,b)::r else(h,b)::(k,c)::r)else(k,c)::ins h b r
theorem beqD(a b:Nat):Nat.beq a b=decide (a=b):=by
 rw[Bool.eq_iff_iff,zi];exact⟨zg,fun h=>by subst h;exact Nat.beq_refl a⟩
theorem bleD(a b:Nat):Nat.ble a b=decide (a<=b):=by
 rw[Bool.eq_iff_iff,zi];exact⟨Nat.le_of_ble_eq_true,Nat.ble_eq_true_of_le⟩
theorem bltD(a b:Nat):Nat.blt a b=decide (a<b):=by unfold Nat.blt;rw[bleD];rfl
theorem Ud(h k:Nat)(b:Blk): ∀H:Hp,look (ins h b H) k=if k=h then some b else look H k
 |[]=>by
  by_cases e:k=h<;>simp[ins,look,beqD,e]
 |(m,c)::r=>by
  have ih:=Ud h k b r;simp only[ins,beqD,bleD];by_cases h1:h<=m
  ·by_cases h2:h=m
   ·subst h2;by_cases e:k=h<;>simp[look,beqD,e]
   ·by_cases e:k=h<;>simp[look,beqD,e,h1,h2]
  ·by_cases e:k=h
   ·subst e;have: ¬k=m:=by omega
    simp[look,beqD,h1,ih,this]
   ·simp[look,beqD,h1,ih,e]
theorem AaH{h k:Nat}(hne:h≠k)(b c:Blk): ∀H:Hp,ins h b (ins k c H)=ins k c (ins h b H)
 |[]=>by
  have hne':=Ne.symm hne;simp only[ins,beqD,bleD];rcases Nat.lt_or_gt_of_ne hne with hlt|hlt
  ·have a1:h<=k:=by omega
   have a2: ¬k<=h:=by omega
   simp[a1,a2,hne]
  ·have a1:k<=h:=by omega
   have a2: ¬h<=k:=by omega
   simp[a1,a2,hne']
 |(m,d)::r=>by
  have ih:=AaH hne b c r;have hne':=Ne.symm hne;simp only[ins,beqD,bleD];by_cases h1:h<=m<;>by_cases h2:k<=m<;>by_cases h3:h=m<;>by_cases h4:k=m<;>by_cases h5:h<=k<;>by_cases h6:k<=h<;>first
   |omega|(simp[ins,beqD,bleD,h1,h2,h3,h4,h5,h6,hne,hne',ih];done)
   | (subst h3; have z : ¬ h <= k := by omega
      simp[ins,beqD,bleD,h2,z,hne,hne'];done)
   | (subst h4; have z : ¬ k <= h := by omega
      simp[ins,beqD,bleD,h1,z,hne,hne'];done)
   | (subst h3; have z : ¬ k <= h := by omega
      simp[ins,beqD,bleD,z,hne,hne'];done)
   | (subst h4; have z : ¬ h <= k := by omega
      simp[ins,beqD,bleD,z,hne,hne'];done)
abbrev one:Value ->Bool:=Value.oneCell'
inductive Nst where
 |free|dead|at(b:Nat)|row (b:Option Nat) (n:Nat)
def Nst.blk:Nst ->Option Nat
 | .at b=>some b| .row b _=>b|_=>none
abbrev Bt:=Nat ->Nst
abbrev Im:=Nat ->Nat ->Prop
inductive RepD (w:World) (I:Im):D ->Value ->Prop
 |v (x:Value) (h:one x=true):RepD w I (.v x) x|nil (sz:Nat) (f:RD):RepD w I (.sl sz 0 f) (.slice none 0 0)|emp (sz:Nat) (f:RD) (a:Addr) (cap:Nat):RepD w I (.sl sz 0 f) (.slice (some a) 0 cap)|sl (n:Nat) (f:RD) (sz b off cap:Nat) (g:Nat ->Nat ->Value) (hcap:n<=cap) (hsz: ∀i,i<n ->(f i).length=sz)
  (hc: ∀i j d,i<n ->(f i)[j]? =some d ->w.cell? ⟨b,off+i*sz+j,none⟩=some (g i j))
  (hi: ∀i j d,i<n ->(f i)[j]? =some d ->I b (off+i*sz+j))
  (hr: ∀i j d,i<n ->(f i)[j]? =some d ->RepD w I d (g i j)):RepD w I (.sl sz n f) (.slice (some ⟨b,off,none⟩) n cap)
def PtrAt(O:Bt)(h o:Nat)(v:Value):Prop:= ∃b,v= .pointer (some ⟨b,o,none⟩)/\(O h= .dead\/O h= .at b)
def EptAt(O:Bt)(h sz i off:Nat)(v:Value):Prop:=
 ∃b,v= .pointer (some ⟨b,i*sz+off,none⟩)/\(O h= .dead\/((O h).blk=some b/\ ∀ob n,O h= .row ob n ->i<n))
def RepRf(O:Bt)(w:World)(I:Im):Rf ->Value ->Prop
 | .d x,v=>RepD w I x v| .ptr h off,v=>PtrAt O h off v
def RepRfs(O:Bt)(w:World)(I:Im)(rs:List Rf)(vs:List Value):Prop:=
 rs.length=vs.length/\ ∀(i:Nat) r v,rs[i]? =some r ->vs[i]? =some v ->RepRf O w I r v
def RowAt(O:Bt)(w:World)(h sz len:Nat)(v:Value):Prop:=
 (len=0/\v= .slice none 0 0/\(O h= .dead\/ ∃n,O h= .row none n))\/
   ∃b cap,v= .slice (some ⟨b,0,none⟩) len cap/\len<=cap/\(O h= .dead\/((O h).blk=some b/\(∀ob n,O h= .row ob n ->len<=n)/\ ∃vs t fz,w.heap[b]? =some (.cells vs t fz)/\vs.size=cap*sz))
def RepC(O:Bt)(w:World)(I:Im):C ->Value ->Prop
 | .d x,v=>RepD w I x v| .ptr h off,v=>PtrAt O h off v| .ept h sz i off,v=>EptAt O h sz i off v| .ip cs,v=> ∃b off,v= .pointer (some ⟨b,off,none⟩)/\ ∀(j:Nat) d,cs[j]? =some d -> ∃x,w.cell? ⟨b,off+j,none⟩=some x/\I b (off+j)/\RepD w I d x| .row h sz len,v=>RowAt O w h sz len v| .fn f first caps,v=> ∃fs cs,v= .func (.func f) fs cs/\RepRfs O w I first fs.toList/\RepRfs O w I caps cs.toList
 | .mp h,v=> ∃b,v= .map (some b)/\(O h= .dead\/O h= .at b)
 | .u,v=>one v=true
def RepCs(O:Bt)(w:World)(I:Im)(cs:List C)(vs:List Value):Prop:=
 cs.length=vs.length/\ ∀(i:Nat) c v,cs[i]? =some c ->vs[i]? =some v ->RepC O w I c v
def RepP(O:Bt)(w:World)(I:Im):Bool×List C ->Value ->Prop
 |(true,cs),v=> ∃vs,v= .agg vs/\RepCs O w I cs vs.toList|(false,cs),v=> ∃c,cs=[c]/\RepC O w I c v
def RepA(O:Bt)(w:World)(I:Im):AV ->Value ->Prop
 | .c x,v=>RepC O w I x v| .agg cs,v=> ∃vs,v= .agg vs/\RepCs O w I cs vs.toList| .tup ps,v=> ∃vs,v= .tuple vs/\ps.length=vs.size/\ ∀(i:Nat) p x,ps[i]? =some p ->vs[i]? =some x ->RepP O w I p x| .u,_=>True
def RepF(O:Bt)(w:World)(I:Im)(F:List AV)(vs:Array Value):Prop:=
 F.length=vs.size/\ ∀(i:Nat) x v,F[i]? =some x ->vs[i]? =some v ->RepA O w I x v
def keyD(kd:Nat):TypeDesc:=match kd with
 |0=> .string|1=> .string|2=> .int .i64|3=> .int .i64|_=> .string
def Ge(kd:Nat)(v:Value):Prop:=match kd with
 |4=> ∃a b:Int,v= .agg #[.int .i64 a, .int .i64 b]|_=>MapKept.IsKey (keyD kd) v
def AcJ(kd:Nat)(v:Value):Prop:=match kd with
 |0=> ∃b,v= .bool b|2=> ∃b,v= .bool b|1=> ∃n,v= .int .i64 n|3=> ∃n,v= .int .i64 n|4=> ∃n,v= .int .i64 n|_=>True
def Lh:Value ->Value ->Bool
 | .string a, .string b=>a.data.toList==b.data.toList| .int _ a, .int _ b=>a==b| .agg ⟨[.int _ a, .int _ b]⟩, .agg ⟨[.int _ c, .int _ d]⟩=>a==c&&b==d|_,_=>false
def Bb:List (Value×Value) ->Value ->Option Value
 |[],_=>none|(a,v)::r,k=>bif Lh k a then some v else Bb r k
def dlen:List (Value×Value) ->Nat
 |[]=>0|(a,_)::r=>match Bb r a with
  |some _=>dlen r|none=>dlen r+1
def RepM(kd:Nat)(l:MV)(es:List MapEntry):Prop:=
 (∀e∈es,Ge kd e.key/\AcJ kd e.val/\Bb l e.key=some e.val)/\(∀k v,Ge kd k ->Bb l k=some v -> ∃e∈es,e.key=k)/\(es.map (·.key)).Nodup/\ ∀p∈l,Ge kd p.1
def RepB(O:Bt)(w:World)(I:Im)(h:Nat):Blk ->Prop
 | .cells cs t=> ∃b vs,O h= .at b/\w.heap[b]? =some (.cells vs t (0,0))/\cs.length<=vs.size/\ ∀(i:Nat) c v,cs[i]? =some c ->vs[i]? =some v ->RepC O w I c v| .row n f sz t=>0<sz/\((O h= .row none n/\n=0)\/ ∃b vs,O h= .row (some b) n/\w.heap[b]? =some (.cells vs t (0,0))/\n*sz<=vs.size/\
  ∀i,i<n ->(f i).length=sz/\ ∀(j:Nat) d,(f i)[j]? =some d -> ∃v,vs[i*sz+j]? =some v/\RepD w I d v)
 | .iter s pos=> ∃b,O h= .at b/\w.heap[b]? =some (.stringIter s pos)| .map kd l=> ∃b es clock,O h= .at b/\w.heap[b]? =some (.map es clock)/\RepM kd l es.toList| .dead=>O h= .dead
def Wu:List (Nat×Nat×Option Value):=(List.range 21).map fun i=>(0,i,bif Nat.blt i 20 then some (.int .u64 ((10^i:Nat):Int))else none)
def Glob(I:Im)(w:World):Prop:= ∀x∈Wu,I x.1 x.2.1/\w.cell? ⟨x.1,x.2.1,none⟩=x.2.2
theorem Glob.step{I I':Im}{w w':World}(h:Glob I w)(hi: ∀b o,I b o ->I' b o)(hc: ∀b o,I b o ->w'.cell? ⟨b,o,none⟩=w.cell? ⟨b,o,none⟩):Glob I' w':=fun x hx=>by
 obtain⟨h1,h2⟩:=h x hx;exact⟨hi _ _ h1,(hc _ _ h1).trans h2⟩
structure Place (O:Bt) (I:Im) (w:World):Prop where
 inj: ∀(i j b:Nat),(O i).blk=some b ->(O j).blk=some b ->i=j
 lt: ∀(h b:Nat),(O h).blk=some b ->b<w.heap.size
 off: ∀(h b o:Nat),(O h).blk=some b -> ¬I b o
 old: ∀b o,I b o ->b<w.heap.size
 gl:Glob I w
structure RelH (O:Bt) (H:Hp) (I:Im) (w:World):Prop extends Place O I w where
 dom: ∀(h:Nat),look H h=none ->O h= .free
 blk: ∀(h:Nat) B,look H h=some B ->RepB O w I h B
def Shapes(w w':World):Prop:= ∀(b:Nat) vs t fz,w.heap[b]? =some (.cells vs t fz) -> ∃vs' fz',w'.heap[b]? =some (.cells vs' t fz')/\vs'.size=vs.size
theorem Shapes.refl(w:World):Shapes w w:=fun _ vs _ fz h=>⟨vs,fz,h,rfl⟩
theorem Shapes.trans{w w₁ w₂:World}(h:Shapes w w₁)(k:Shapes w₁ w₂):Shapes w w₂:=fun b vs t fz hb=>by
 obtain⟨vs1,fz1,h1,e1⟩:=h b vs t fz hb;obtain⟨vs2,fz2,h2,e2⟩:=k b vs1 t fz1 h1;exact⟨vs2,fz2,h2,e2.trans e1⟩
structure Ext (O:Bt) (I:Im) (O':Bt) (I':Im) (w w':World):Prop where
 os:w'.os=w.os
 tape:w'.tape=w.tape
 output:w'.output=w.output
 size:w.heap.size<=w'.heap.size
 block: ∀b,b<w.heap.size ->(∀h,(O h).blk≠some b) ->w'.heap[b]? =w.heap[b]?
 keepI: ∀b o,I b o ->I' b o
 cell: ∀b o,I b o ->w'.cell? ⟨b,o,none⟩=w.cell? ⟨b,o,none⟩
 newI: ∀b o,I' b o ->I b o\/w.heap.size<=b\/ ∃h,(O h).blk=some b
 newB: ∀h b,(O' h).blk=some b ->(∃k,(O k).blk=some b)\/w.heap.size<=b
 shapes:Shapes w w'
theorem Ext.refl(O:Bt)(I:Im)(w:World):Ext O I O I w w:=
 ⟨rfl,rfl,rfl,Nat.le_refl _,fun _ _ _=>rfl,fun _ _ h=>h,fun _ _ _=>rfl,fun _ _ h=> .inl h,fun h _ hb=> .inl ⟨h,hb⟩, .refl w⟩
theorem Ext.trans{O O₁ O₂:Bt}{I I₁ I₂:Im}{w w₁ w₂:World}(h:Ext O I O₁ I₁ w w₁)(k:Ext O₁ I₁ O₂ I₂ w₁ w₂):Ext O I O₂ I₂ w w₂ where
 os:=k.os.trans h.os
 tape:=k.tape.trans h.tape
 output:=k.output.trans h.output
 size:=Nat.le_trans h.size k.size
 block b hb hn:=by
  rw[k.block b (Nat.lt_of_lt_of_le hb h.size) (fun x hx=>(h.newB x b hx).elim (fun⟨y,hy⟩=>hn y hy) (fun hle=>by omega)),h.block b hb hn]
 keepI b o hi:=k.keepI b o (h.keepI b o hi)
 cell b o hi:=(k.cell b o (h.keepI b o hi)).trans (h.cell b o hi)
 newI b o hi:=by
  rcases k.newI b o hi with h1|h1|⟨x,h1⟩
  ·exact h.newI b o h1
  ·exact .inr (.inl (Nat.le_trans h.size h1))
  ·rcases h.newB x b h1 with h2|h2
   ·exact .inr (.inr h2)
   ·exact .inr (.inl h2)
 newB x b hb:=by
  rcases k.newB x b hb with⟨y,h1⟩|h1
  ·exact h.newB y b h1
  ·exact .inr (Nat.le_trans h.size h1)
 shapes:=h.shapes.trans k.shapes
def Mono(O O':Bt):Prop:= ∀h,match O h with
 | .free=>True| .dead=>O' h= .dead| .at b=>O' h= .at b\/O' h= .dead| .row b n=>O' h= .row b n\/O' h= .dead
theorem Mono.refl(O:Bt):Mono O O:=fun h=>by cases e:O h<;>simp
theorem Mono.trans{O O₁ O₂:Bt}(h:Mono O O₁)(k:Mono O₁ O₂):Mono O O₂:=fun x=>by
 have h1:=h x;have h2:=k x;cases e:O x with
 |free=>trivial|dead=>simp only[e]at h1;simp only[h1]at h2;exact h2|row b n=>
  simp only[e]at h1;rcases h1 with h1|h1
  ·simp only[h1]at h2;exact h2
  ·simp only[h1]at h2;exact .inr h2
 |«at» b=>
  simp only[e]at h1;rcases h1 with h1|h1
  ·simp only[h1]at h2;exact h2
  ·simp only[h1]at h2;exact .inr h2
structure Keep (O:Bt) (I:Im) (w:World) (O':Bt) (I':Im) (w':World):Prop where
 mono:Mono O O'
 keepI: ∀b o,I b o ->I' b o
 cell: ∀b o,I b o ->w'.cell? ⟨b,o,none⟩=w.cell? ⟨b,o,none⟩
 shapes:Shapes w w'
theorem Keep.refl(O:Bt)(I:Im)(w:World):Keep O I w O I w:=⟨.refl O,fun _ _ h=>h,fun _ _ _=>rfl, .refl w⟩
theorem Ext.keep{O O':Bt}{I I':Im}{w w':World}(h:Ext O I O' I' w w')(hm:Mono O O'):Keep O I w O' I' w':=⟨hm,h.keepI,h.cell,h.shapes⟩
section
variable {O O':Bt}{I I':Im}{w w':World}
theorem RepD.keep(hI: ∀b o,I b o ->I' b o)(hc: ∀b o,I b o ->w'.cell? ⟨b,o,none⟩=w.cell? ⟨b,o,none⟩){x:D}{v:Value}
  (h:RepD w I x v):RepD w' I' x v:=by
 induction h with
 |v x h=>exact .v x h|nil sz f=>exact .nil sz f|emp sz f a cap=>exact .emp sz f a cap|sl n f sz b off cap g hcap hsz hcell hi hr ih=>
  exact .sl n f sz b off cap g hcap hsz (fun i j d hin hj=>(hc _ _ (hi i j d hin hj)).trans (hcell i j d hin hj)) (fun i j d hin hj=>hI _ _ (hi i j d hin hj)) (fun i j d hin hj=>ih i j d hin hj)
theorem RepD.one{x:D}{v:Value}(h:RepD w I x v):v.oneCell'=true:=by
 cases h with
 |v x h=>exact h|nil=>rfl|emp=>rfl|sl=>rfl
theorem RepD.v_eq{x v:Value}(h:RepD w I (.v x) v):v=x:=by cases h;rfl
theorem PtrAt.one{h o:Nat}{v:Value}(hp:PtrAt O h o v):v.oneCell'=true:=by
 obtain⟨b,rfl,_⟩:=hp;rfl
theorem PtrAt.keep(hm:Mono O O'){h o:Nat}{v:Value}(hp:PtrAt O h o v):PtrAt O' h o v:=by
 have h1:=hm h;obtain⟨b,hv,hd|hb⟩:=hp
 ·simp only[hd]at h1;exact⟨b,hv, .inl h1⟩
 ·simp only[hb]at h1;exact⟨b,hv,h1.symm⟩
theorem Mono.stays(hm:Mono O O'){h:Nat}(hf:O h≠ .free):O' h=O h\/O' h= .dead:=by
 have h1:=hm h;cases e:O h with
 |free=>exact absurd e hf|dead=>simp only[e]at h1;exact .inr h1|«at» b=>simp only[e]at h1;exact h1|row b n=>simp only[e]at h1;exact h1
theorem W9{h b:Nat}(hb:(O h).blk=some b):O h≠ .free:=fun e=>by rw[e]at hb;cases hb
theorem EptAt.one{h sz i o:Nat}{v:Value}(hp:EptAt O h sz i o v):v.oneCell'=true:=by
 obtain⟨b,rfl,_⟩:=hp;rfl
theorem EptAt.keep(hm:Mono O O'){h sz i o:Nat}{v:Value}(hp:EptAt O h sz i o v):EptAt O' h sz i o v:=by
 obtain⟨b,hv,hd|⟨hb,hn⟩⟩:=hp
 ·rcases hm.stays (h:=h) (by rw[hd];exact fun e=>by cases e)with h1|h1
  ·exact⟨b,hv, .inl (h1.trans hd)⟩
  ·exact⟨b,hv, .inl h1⟩
 ·rcases hm.stays (W9 hb)with h1|h1
  ·exact⟨b,hv, .inr ⟨by rw[h1];exact hb,fun ob n e=>hn ob n (h1▸e)⟩⟩
  ·exact⟨b,hv, .inl h1⟩
theorem RowAt.one{h sz len:Nat}{v:Value}(hp:RowAt O w h sz len v):v.oneCell'=true:=by
 rcases hp with⟨_,rfl,_⟩|⟨b,cap,rfl,_⟩
 ·rfl
 ·rfl
theorem RowAt.keep(hm:Mono O O')(hs:Shapes w w'){h sz len:Nat}{v:Value}(hp:RowAt O w h sz len v):RowAt O' w' h sz len v:=by
 have dd:O h= .dead ->O' h= .dead:=fun hd=>by
  rcases hm.stays (h:=h) (by rw[hd];exact fun e=>by cases e)with h1|h1
  ·exact h1.trans hd
  ·exact h1
 rcases hp with⟨hl,hv,hd|⟨n,hn⟩⟩|⟨b,cap,hv,hle,hd|⟨hb,hln,vs,t,fz,hheap,hsz⟩⟩
 ·exact .inl ⟨hl,hv, .inl (dd hd)⟩
 ·rcases hm.stays (h:=h) (by rw[hn];exact fun e=>by cases e)with h1|h1
  ·exact .inl ⟨hl,hv, .inr ⟨n,h1.trans hn⟩⟩
  ·exact .inl ⟨hl,hv, .inl h1⟩
 ·exact .inr ⟨b,cap,hv,hle, .inl (dd hd)⟩
 ·rcases hm.stays (W9 hb)with h1|h1
  ·obtain⟨vs',fz',h2,h3⟩:=hs b vs t fz hheap;exact .inr ⟨b,cap,hv,hle, .inr ⟨by rw[h1];exact hb,fun ob n e=>hln ob n (h1▸e),vs',t,fz',h2,by rw[h3,hsz]⟩⟩
  ·exact .inr ⟨b,cap,hv,hle, .inl h1⟩
theorem RepRf.keep(k:Keep O I w O' I' w'){x:Rf}{v:Value}(h:RepRf O w I x v):RepRf O' w' I' x v:=by
 cases x with
 |d x=>exact RepD.keep k.keepI k.cell h|ptr=>exact PtrAt.keep k.mono h
theorem RepRfs.keep(k:Keep O I w O' I' w'){xs:List Rf}{vs:List Value}(h:RepRfs O w I xs vs):RepRfs O' w' I' xs vs:=
 ⟨h.1,fun i r v h1 h2=>(h.2 i r v h1 h2).keep k⟩
theorem RepC.one{x:C}{v:Value}(h:RepC O w I x v):v.oneCell'=true:=by
 cases x with
 |d x=>exact RepD.one h|ptr=>exact PtrAt.one h|ept=>exact EptAt.one h|ip cs=>obtain⟨b,off,rfl,_⟩:=h;rfl
 |row=>exact RowAt.one h|fn f a b=>obtain⟨_,_,rfl,_⟩:=h;rfl
 |mp h'=>obtain⟨b,rfl,_⟩:=h;rfl
 |u=>exact h
theorem RepC.keep(k:Keep O I w O' I' w'){x:C}{v:Value}(h:RepC O w I x v):RepC O' w' I' x v:=by
 have hone:=h.one;cases x with
 |d x=>exact RepD.keep k.keepI k.cell h|ptr=>exact PtrAt.keep k.mono h|ept=>exact EptAt.keep k.mono h|ip cs=>
  obtain⟨b,off,hv,hj⟩:=h;refine⟨b,off,hv,fun j d hd=> ?_⟩;obtain⟨x,h1,h2,h3⟩:=hj j d hd;exact⟨x,(k.cell _ _ h2).trans h1,k.keepI _ _ h2,RepD.keep k.keepI k.cell h3⟩
 |row=>exact RowAt.keep k.mono k.shapes h|fn f a b=>obtain⟨fs,cs,hv,h1,h2⟩:=h;exact⟨fs,cs,hv,h1.keep k,h2.keep k⟩
 |mp h'=>
  have h1:=k.mono h';obtain⟨b,hv,hd|hb⟩:=h
  ·simp only[hd]at h1;exact⟨b,hv, .inl h1⟩
  ·simp only[hb]at h1;exact⟨b,hv,h1.symm⟩
 |u=>exact h
theorem RepCs.keep(k:Keep O I w O' I' w'){cs:List C}{vs:List Value}(h:RepCs O w I cs vs):RepCs O' w' I' cs vs:=
 ⟨h.1,fun i c v h1 h2=>(h.2 i c v h1 h2).keep k⟩
theorem RepP.keep(k:Keep O I w O' I' w'){p:Bool×List C}{v:Value}(h:RepP O w I p v):RepP O' w' I' p v:=by
 obtain⟨t,cs⟩:=p;cases t with
 |true=>obtain⟨vs,hv,hr⟩:=h;exact⟨vs,hv,hr.keep k⟩
 |false=>obtain⟨c,hcs,hr⟩:=h;exact⟨c,hcs,hr.keep k⟩
theorem RepA.keep(k:Keep O I w O' I' w'){x:AV}{v:Value}(h:RepA O w I x v):RepA O' w' I' x v:=by
 cases x with
 |c x=>exact RepC.keep k h|agg cs=>obtain⟨vs,hv,hr⟩:=h;exact⟨vs,hv,hr.keep k⟩
 |tup ps=>obtain⟨vs,hv,hl,hr⟩:=h;exact⟨vs,hv,hl,fun i p x h1 h2=>(hr i p x h1 h2).keep k⟩
 |u=>trivial
theorem RepF.keep(k:Keep O I w O' I' w'){F:List AV}{vs:Array Value}(h:RepF O w I F vs):RepF O' w' I' F vs:=
 ⟨h.1,fun i x v h1 h2=>(h.2 i x v h1 h2).keep k⟩
end
def CR(P:Program)(f:FuncId)(args:List AV)(H:Hp)(r:AV)(H':Hp):Prop:=
 ∀(O:Bt) (I:Im) (w:World) (vs:Array Value),RelH O H I w ->RepF O w I args vs ->
  Calls P f vs w fun e w'=> ∃v O' I',e= .returned v/\RelH O' H' I' w'/\RepA O' w' I' r v/\Ext O I O' I' w w'/\Mono O O'
inductive T (R:Type) where
 |leaf (r:R)|node (a b:T R)
def pr{J:Type}(p:Program):Sem J ->Option J
 | .pure a=>some a| .program k=>pr p (k p)| .load .. | .store .. | .new .. | .shape .. | .freeze .. | .frozen .. | .getObj .. | .setObj .. | .choose .. | .sys .. | .mark .. | .halt _=>none
theorem Aek{J:Type}(p:Program)(s:Sem J): ∀(a:J),pr p s=some a -> ∀w,s.run p w= .ok a w:=by
 induction s with
 |pure a=>intro b h w;simp[pr]at h;subst h;rfl|program k ih=>intro b h w;exact ih p b h w|_=>intro b h;simp[pr]at h
def absD:Value ->Option D
 | .slice none 0 0=>some (.v (.slice none 0 0))| .bool b=>some (.v (.bool b))| .int k n=>some (.v (.int k n))| .string s=>some (.v (.string s))| .pointer none=>some (.v (.pointer none))| .map none=>some (.v (.map none))| .nilFunc=>some (.v .nilFunc)| .nilIface=>some (.v .nilIface)| .func (.func f) ⟨[]⟩ ⟨[]⟩=>some (.v (.func (.func f) #[] #[]))|_=>none
def AcE:List Value ->Option (List C)
 |[]=>some []|x::r=>match absD x,AcE r with
  |some d,some l=>some (.d d::l)|_,_=>none
def absA:Value ->AV
 | .agg cs=>match AcE cs.toList with|some l=> .agg l|none=> .u
 |x=>match absD x with|some d=> .c (.d d)|none=> .u
def Ae{J:Type}(l:List J)(sz i:Nat):List J:=(l.drop (i*sz)).take sz
def gAt:List (Nat×Nat×Option Value) ->Nat ->Nat ->Option Value
 |[],_,_=>none|(b,j,v)::r,g,k=>bif Nat.beq b g&&Nat.beq j k then v else gAt r g k
def gGo(g:Nat):Nat ->RD
 |0,_=>[]|n+1,j=>match(gAt Wu g j).bind absD with
  |some d=>d::gGo g n (j+1)|none=>[]
def gOp(g:Nat):AV:=match gGo g 64 0 with
 |[]=> .u|d::r=> .c (.ip (d::r))
def opA(F:List AV):Operand ->AV
 | .tmp t=>F.getD t .u| .const v=>absA v| .global g=>gOp g| .func f=> .c (.d (.v (.func (.func f) #[] #[])))
def put(F:List AV)(dst:Option Nat)(x:AV):List AV:=match dst with|some d=>F.set d x|none=>F
def Ep(ops:Array Oper)(F:List AV)(o:Oper):Option Bool:=
 match o.guard with
 |none=>some true|some (j,want)=>match(ops[j]?).bind (·.dst)with
  |none=>some false|some t=>match F.getD t .u with
   | .c (.d (.v (.bool b)))=>some (bif want then b else !b)| .tup []=>some false|_=>none
def cellsOf:AV ->Option (List C)
 | .c x=>some [x]| .agg cs=>some cs|_=>none
def aggT(P:Program)(t:TypeId):Option Bool:=match P.underlying t with|some (.struct _)=>some true|some (.array _ _)=>some true|some _=>some false|none=>none
def Bm(P:Program)(t:TypeId):Option Nat:=(P.info? t).map (·.size)
def Agj(P:Program)(t:TypeId):Option Nat:=(P.info? t).map (·.bytes)
def Sf(P:Program)(t:TypeId):Option (List C):=match(P.info? t).bind (·.zero)with|some z=>AcE z.cells.toList|none=>none
def splice{J:Type}(cs:List J)(off:Nat)(new:List J):List J:=cs.take off++new++cs.drop (off+new.length)
def Mo(P:Program):List Field ->Option (List (Nat×Nat))
 |[]=>some []|f::r=>match Bm P f.type,Mo P r with
  |some s,some l=>some ((f.offset,s)::l)|_,_=>none
def Mx(place:Nat ->Option (Nat×Nat))(cells:List C):List (Nat×AV) ->Option (List C)
 |[]=>some cells|(i,x)::rest=>match place i,cellsOf x with
  |some (off,size),some cs=>if cs.length=size/\off+cs.length<=cells.length then Mx place (splice cells off cs) rest else none|_,_=>none
def Ke(l:List C)(off n:Nat)(agg:Bool):Option AV:=
 if off+n<=l.length then(if agg then some (.agg ((l.drop off).take n))else(l[off]?).map .c)else none
def eqN(eq:List C ->List C ->Option Bool)(s:Nat):Nat ->List C ->List C ->Option Bool
 |0,[],[]=>some true|n+1,xs,ys=>match eq (xs.take s) (ys.take s),eqN eq s n (xs.drop s) (ys.drop s)with
  |some a,some b=>some (a&&b)|_,_=>none
 |_,_,_=>none
def eqFs(eq:TypeId ->List C ->List C ->Option Bool)(P:Program):List Field ->Nat ->List C ->List C ->Option Bool
 |[],_,[],[]=>some true|f::r,off,xs,ys=>match Bm P f.type,(aggT P f.type).isSome with
  | some s, true => if f.offset = off /\ f.name ≠ "_" then (match eq f.type (xs.take s) (ys.take s), eqFs eq P r (off + s) (xs.drop s) (ys.drop s) with
   |some a,some b=>some (a&&b)|_,_=>none)else none
  |_,_=>none
 |_,_,_,_=>none
def eqT(P:Program):Nat ->TypeId ->List C ->List C ->Option Bool
 |0,_,_,_=>none|d+1,t,xs,ys=>match P.underlying t with
  |some .bool=>(match xs,ys with|[.d (.v (.bool a))],[.d (.v (.bool b))]=>some (a==b)|_,_=>none)
  |some (.int _)=>(match xs,ys with|[.d (.v (.int k a))],[.d (.v (.int k' b))]=>if k=k' then some (a==b)else none|_,_=>none)
  |some .string=>(match xs,ys with|[.d (.v (.string a))],[.d (.v (.string b))]=>some (a.toList==b.toList)|_,_=>none)
  |some (.array n e)=>(match Bm P e,(aggT P e).isSome with|some s,true=>eqN (eqT P d e) s n xs ys|_,_=>none)
  |some (.struct fs)=>if P.stoodInHeld t then none else eqFs (eqT P d) P fs.toList 0 xs ys|_=>none
def Mh:List D ->Option UInt8
 |[.v (.int .u8 x)]=>if x=(x.toNat.toUInt8.toNat:Int)then some x.toNat.toUInt8 else none|_=>none
def Dk(n:Nat)(f:RD):Bool:=(List.range n).all fun i=>(Mh (f i)).isSome
def C5(n:Nat)(f:RD):BA:=⟨((List.range n).map fun i=>(Mh (f i)).getD 0).toArray⟩
def Dl:List C ->List (Option UInt8)
 |[]=>[]| .d x::r=>Mh [x]::Dl r|_::r=>none::Dl r
def Ey(n:Nat):Option Blk ->Bool
 |some (.cells cs _)=>Nat.ble n cs.length&&((Dl cs).take n).all (·.isSome)|some (.row m f sz _)=>Nat.ble n m&&Nat.beq sz 1&&Dk n f|_=>false
def K5(n:Nat):Option Blk ->BA
 |some (.cells cs _)=>⟨(((Dl cs).take n).map (·.getD 0)).toArray⟩|some (.row _ f _ _)=>C5 n f|_=> .empty
inductive Src where
 |data (n:Nat) (f:RD)|own (h sz len:Nat)|str (s:BA)
def strF(s:BA):RD:=fun i=>[.v (.int .u8 (s.data.toList.getD i 0).toNat)]
inductive Do where
 |val (x:AV)|load (h sz i off n:Nat) (agg:Bool)|store (h sz i off:Nat) (cs:List C)|alloc (b:Blk) (mk:Nat ->AV)|append (dst:Option (Nat×Nat)) (src:Src) (e:TypeId) (sz:Nat)|next (h:Nat)
 |look (h kd:Nat) (key:Value) (ok:Bool) (z:Value)|upd (h kd:Nat) (key v:Value)|chk (h:Nat) (x:AV)|conv (h off:Nat) (u:Option (TypeId×Nat))
 |ustr (h n:Nat) (e:TypeId)|cstr (h n:Nat)|slarr (h n s:Nat)|mlen (h:Nat)|idx (h off s len:Nat) (n:Int)|call (f:FuncId) (args:List AV)
def idxD(h off s:Nat)(n:Int)(len:Nat):Do:=bif Nat.ble len 4 then .idx h off s len n else .val (.c (.ptr h (off+n.toNat*s)))
def val1(x:Value):Option (Bool×Do):=match absD x with|some d=>some (true, .val (.c (.d d)))|none=>none
def strB(P:Program)(s t:TypeId):Value ->Option (Bool×Do)
 | .string b=>(match P.underlying s,P.underlying t with
  |some _,some (.slice e)=>(match P.underlying e with|some (.int .u8)=>some (true, .val (.c (.d (.sl 1 b.size (strF b)))))|_=>none)
  |_,_=>none)
 |_=>none
def Acv(op:BinOp)(a b:Value)(slow:Option (Bool×Do)):Option (Bool×Do):=match op,a,b with
 | .rem, .int k x, .int k' y=>if k=k' then some (!(y==0), .val (.c (.d (.v (.int k (x.tmod y))))))else slow| .quo, .int k x, .int k' y=>if k=k' then some (!(y==0), .val (.c (.d (.v (.int k (k.wrap (x.tdiv y)))))))else slow|_,_,_=>slow
def asSl(s:Nat):D ->Option (Nat×RD)
 | .sl sz n f=>bif Nat.beq sz s then some (n,f)else none| .v (.slice none 0 0)=>some (0,fun _=>[])
 |_=>none
def rfOf:AV ->Option Rf
 | .c (.d x)=>some (.d x)| .c (.ptr h off)=>some (.ptr h off)|_=>none
def Vy:List AV ->Option (List Rf)
 |[]=>some []|x::r=>match rfOf x,Vy r with
  |some y,some l=>some (y::l)|_,_=>none
def rfA:Rf ->AV
 | .d x=> .c (.d x)| .ptr h off=> .c (.ptr h off)
def Zm(kd:Nat):AV ->Option Value
 | .c (.d (.v (.string s)))=>bif Nat.blt kd 2||Nat.ble 5 kd then some (.string s)else none| .c (.d (.v (.int .i64 n)))=>bif Nat.blt kd 2||Nat.ble 4 kd then none else some (.int .i64 n)| .agg [.d (.v (.int .i64 m)), .d (.v (.int .i64 n))]=>bif Nat.beq kd 4 then some (.agg #[.int .i64 m, .int .i64 n])else none|_=>none
def V5:List C ->Option (List Value)
 |[]=>some []| .d (.v x)::r=>match V5 r with|some l=>some (x::l)|none=>none
 |_::_=>none
def Agt(kd:Nat):AV ->Option Value
 | .agg cs=>bif Nat.ble 5 kd then(match V5 cs with|some l=>some (.agg l.toArray)|none=>none)else none
 | .c (.d (.v (.bool b)))=>bif Nat.beq kd 0||Nat.beq kd 2 then some (.bool b)else none| .c (.d (.v (.int .i64 n)))=>bif Nat.beq kd 1||(Nat.beq kd 3||Nat.beq kd 4)then some (.int .i64 n)else none|_=>none
def Wb(P:Program)(k:TypeId):List Field ->Bool
 | [f, g] => decide (f.offset = 0) && (decide (g.offset = 1) && (decide (f.name ≠ "_") && (decide (g.name ≠ "_") && (decide (Bm P f.type = some 1) && (decide (Bm P g.type = some 1) && (!P.stoodInHeld k &&
  (match P.underlying f.type,P.underlying g.type with|some (.int .i64),some (.int .i64)=>true|_,_=>false)))))))
 |_=>false
def Ui(P:Program)(t:TypeId):Option Nat:=match P.underlying t with
 |some (.map k e)=>(match P.underlying k,P.underlying e,(P.info? e).bind (·.zero)with
  |some .string,some .bool,some (.bool false)=>some 0|some .string,some (.int .i64),some (.int .i64 0)=>some 1|some (.int .i64),some .bool,some (.bool false)=>some 2|some (.int .i64),some (.int .i64),some (.int .i64 0)=>some 3|some .string,some (.struct _),some _=>some (5+e)|some (.struct fs),some (.int .i64),some (.int .i64 0)=>bif Wb P k fs.toList then some 4 else none|_,_,_=>none)
 |_=>none
def zM(P:Program)(t:TypeId):Value:=match P.underlying t with
 |some (.map _ e)=>(match(P.info? e).bind (·.zero)with|some z=>z|none=> .nilIface)
 |_=> .nilIface
def B8:Option Value ->Bool
 |some (.bool b)=>b|_=>false
def intOf:Option Value ->Int
 |some (.int _ n)=>n|_=>0
def Ace(kd:Nat)(o:Option Value):Value:=match kd with
 |0=> .bool (B8 o)|2=> .bool (B8 o)|_=> .int .i64 (intOf o)
def Abp(v:Value)(b ok:Bool):AV:=match absA v with
 | .agg cs=>bif ok then .tup [(true,cs),(false,[.d (.v (.bool b))])]else .agg cs|_=> .u
def Kz(kd:Nat)(z:Value)(o:Option Value)(ok:Bool):AV:=
 bif Nat.blt kd 5 then(bif ok then .tup [(false,[.d (.v (Ace kd o))]),(false,[.d (.v (.bool o.isSome))])]else .c (.d (.v (Ace kd o))))
 else match o with
  |some v=>Abp v true ok|none=>Abp z false ok
def Aiw:AV ->AV ->Option (Bool×Option Nat)
 | .c (.ptr h o), .c (.ptr k p)=>bif Nat.beq h k then some (Nat.beq o p,some h)else none| .c (.ptr _ _), .c (.d (.v (.pointer none)))=>some (false,none)| .c (.d (.v (.pointer none))), .c (.ptr _ _)=>some (false,none)|_,_=>none
def Aix(P:Program)(t:TypeId):AV ->AV ->Option Bool
 | .c (.mp _), .c (.d (.v (.map none)))=>(match P.underlying t with|some (.map _ _)=>some false|_=>none)
 |_,_=>none
def chkD(h:Option Nat)(x:AV):Do:=match h with|some k=> .chk k x|none=> .val x
def C6(ρ:Operand ->AV)(x:Option Operand)(default:Nat):Option Int:=
 match x with
 |none=>some default|some o=>match ρ o with
  | .c (.d (.v (.int _ n)))=>some n|_=>none
def S9(P:Program)(t:TypeId):Bool:=match P.underlying t with|some (.pointer e)=>(match Bm P e with|some (_+1)=>true|_=>false)|_=>false
def M8(P:Program)(f:FuncId):Bool:=match P.funcs[f]? with
 | some fn => decide (fn.name ≠ "runtime.NumGoroutine")|none=>false
def res(P:Program)(o:Oper)(ρ:Operand ->AV):Option (Bool×Do):=
 match o.op with
 | .move x=>some (true, .val (ρ x))| .assign x=>some (true, .val (ρ x))| .pick c a b=>match ρ c with
  | .c (.d (.v (.bool t)))=>some (true, .val (bif t then ρ a else ρ b))|_=>none
 | .alloc e=>match Sf P e with|some cs=>some (true, .alloc (.cells cs e) fun h=> .c (.ptr h 0))|none=>none
 | .box e x=>match cellsOf (ρ x)with|some cs=>some (true, .alloc (.cells cs e) fun h=> .c (.ptr h 0))|none=>none
 | .build t parts=>match P.underlying t,Sf P t with
  |some (.struct fields),some z=>match Mo P fields.toList with
   |some ps=>(match Mx (fun i=>ps[i]?) z (parts.toList.map fun p=>(p.1,ρ p.2))with
    |some cs=>some (true, .val (.agg cs))|none=>none)
   |none=>none
  |some (.array _ e),some z=>match Bm P e with
   |some s=>(match Mx (fun i=>some (i*s,s)) z (parts.toList.map fun p=>(p.1,ρ p.2))with
    |some cs=>some (true, .val (.agg cs))|none=>none)
   |none=>none
  |_,_=>none
 | .buildSlice t len parts=>match P.underlying t with
  |some (.slice e)=>match Bm P e,Sf P e with
   |some (s+1),some z=>(match Mx (fun i=>some (i*(s+1),s+1)) (List.replicate len z).flatten (parts.toList.map fun p=>(p.1,ρ p.2))with
    |some cs=>if len*(s+1)<=2^24/\z.length=s+1 then some (true, .alloc (.cells cs e) fun h=> .c (.row h (s+1) len))else none
    |none=>none)
   |_,_=>none
  |_=>none
 | .load t a=>match aggT P t,Bm P t with
  |some ag,some n=>match ρ a with
   | .c (.ptr h off)=>some (true, .load h 0 0 off (bif ag then n else 1) ag)| .c (.ept h sz i off)=>some (true, .load h sz i off (bif ag then n else 1) ag)| .c (.ip l)=>(match Ke (l.map .d) 0 (bif ag then n else 1) ag with|some x=>some (true, .val x)|none=>none)
   |_=>none
  |_,_=>none
 | .store t a x=>match Bm P t,cellsOf (ρ x)with
  |some n,some cs=>if cs.length=n then(match ρ a with
   | .c (.ptr h off)=>some (true, .store h 0 0 off cs)| .c (.ept h sz i off)=>some (true, .store h sz i off cs)|_=>none)else none
  |_,_=>none
 | .nilCheck x=>match ρ x with
  | .c (.ptr h off)=>some (true, .val (.c (.ptr h off)))| .c (.ept h sz i off)=>some (true, .val (.c (.ept h sz i off)))| .c (.ip l)=>some (true, .val (.c (.ip l)))| .c (.fn f a b)=>some (true, .val (.c (.fn f a b)))|_=>none
 | .binOp op t x y _=>match ρ x,ρ y with
  | .c (.d (.v (.string a))), .c (.d (.v (.string b)))=>(match op,P.underlying t with
   | .add,some .string=>some (decide (a.size+b.size<=9223372036854775807), .val (.c (.d (.v (.string (a++b))))))| .add,_=>none|_,_=>match pr P (do eqGuard op t x y (.string a) (.string b);binOp op t (.string a) (.string b))with
    |some r=>val1 r|none=>none)
  | .c (.d (.v a)), .c (.d (.v b))=>Acv op a b (match pr P (do eqGuard op t x y a b;binOp op t a b)with
   |some r=>val1 r|none=>none)
  | .agg xs, .agg ys=>match op with
   | .eql=>(match eqT P 50 t xs ys with
    |some r=>if P.eqGuardType P.depth t=false/\aggT P t=some true then val1 (.bool r)else none|none=>none)
   | .neq=>(match eqT P 50 t xs ys with
    |some r=>if P.eqGuardType P.depth t=false/\aggT P t=some true then val1 (.bool !r)else none|none=>none)
   |_=>none
  |p,q=>(match Aiw p q,op with
   |some (r,k), .eql=>if S9 P t then some (true,chkD k (.c (.d (.v (.bool r)))))else none|some (r,k), .neq=>if S9 P t then some (true,chkD k (.c (.d (.v (.bool !r)))))else none|some _,_=>none|none,op=>(match Aix P t p q,op with
    |some r, .eql=>some (true, .val (.c (.d (.v (.bool r)))))|some r, .neq=>some (true, .val (.c (.d (.v (.bool !r)))))|_,_=>none))
 | .unOp op _ x=>match ρ x with
  | .c (.d (.v a))=>(match pr P (Op.unary op a)with|some r=>val1 r|none=>none)
  |_=>none
 | .convert s t x=>match ρ x with
  | .c (.d (.v a))=>(match pr P (Go.convert s t a)with|some r=>val1 r|none=>strB P s t a)
  | .c (.ptr h off)=>(match P.underlying s,P.underlying t with
   |some (.pointer e),some .unsafePointer=>(match Bm P e with|some (_+1)=>some (true, .conv h off none)|_=>none)
   |some .unsafePointer,some (.pointer e)=>(match Bm P e with|some (z+1)=>some (true, .conv h off (some (e,z+1)))|_=>none)
   |_,_=>none)
  | .c (.row h sz len)=>(match P.underlying s,P.underlying t with
   |some (.slice e),some .string=>(match P.underlying e with|some (.int .u8)=>if sz=1 then some (true, .cstr h len)else none|_=>none)
   |_,_=>none)
  |_=>none
 | .makeFunc fn first captured=>match fn,Vy (first.toList.map ρ),Vy (captured.toList.map ρ)with
  | .func f,some a,some b=>some (true, .val (.c (.fn f a b)))|_,_,_=>none
 | .fieldAddr s x f=>match P.underlying s with
  |some (.struct fields)=>match fields[f]? with
   |some fd=>(match Bm P fd.type with
    |some (_+1)=>(match ρ x with
     | .c (.ptr h off)=>some (true, .val (.c (.ptr h (off+fd.offset))))| .c (.ept h sz i off)=>some (true, .val (.c (.ept h sz i (off+fd.offset))))| .c (.ip l)=>some (true, .val (.c (.ip (l.drop fd.offset))))|_=>none)
    |_=>none)
   |none=>none
  |_=>none
 | .field t x f=>match P.underlying t with
  |some (.struct fields)=>match fields[f]? with
   |some fd=>(match aggT P fd.type,Bm P fd.type,ρ x with
    |some ag,some n, .agg cs=>(match Ke cs fd.offset (bif ag then n else 1) ag with|some y=>some (true, .val y)|none=>none)
    |_,_,_=>none)
   |none=>none
  |_=>none
 | .indexAddr t x i=>match ρ i with
  | .c (.d (.v (.int _ n)))=>(match P.underlying t,ρ x with
   |some (.array len e), .c (.ptr h off)=>(match Bm P e with
    |some s=>some (decide (0<=n)&&decide (n<len),idxD h off s n len)|none=>none)
   |some (.array len e), .c (.ip l)=>(match Bm P e with
    |some s=>some (decide (0<=n)&&decide (n<len), .val (.c (.ip (l.drop (n.toNat*s)))))|none=>none)
   |some (.slice e), .c (.row h sz len)=>(match Bm P e with
    |some s=>if s=sz then some (decide (0<=n)&&decide (n<len), .val (.c (.ept h sz n.toNat 0)))else none|none=>none)
   |some (.slice e), .c (.d (.sl sz len f))=>(match Bm P e with
    |some s=>if s=sz then some (decide (0<=n)&&decide (n<len), .val (.c (.ip (f n.toNat))))else none|none=>none)
   |_,_=>none)
  |_=>none
 | .index t x i=>match ρ i with
  | .c (.d (.v (.int _ n)))=>(match P.underlying t,ρ x with
   |some .string, .c (.d (.v (.string s)))=>some (decide (0<=n)&&decide (n<s.size), .val (.c (.d (.v (.int .u8 (s.data.toList.getD n.toNat 0).toNat)))))|some (.array len e), .agg cs=>(match aggT P e,Bm P e with
    |some ag,some sz=>(match Ke cs (n.toNat*sz) (bif ag then sz else 1) ag with|some y=>some (decide (0<=n)&&decide (n<len), .val y)|none=>none)
    |_,_=>none)
   |_,_=>none)
  |_=>none
 | .slice t x lo hi mx=>match mx,P.underlying t with
  |none,some .string=>(match ρ x with
   | .c (.d (.v (.string s)))=>(match C6 ρ lo 0,C6 ρ hi s.size with
    |some l,some h=>some (decide (0<=l)&&decide (l<=h)&&decide (h<=s.size), .val (.c (.d (.v (.string (s.extract l.toNat h.toNat))))))|_,_=>none)
   |_=>none)
  |none,some (.slice e)=>(match ρ x with
   | .c (.row h sz len)=>(match lo,C6 ρ hi len,Bm P e with
    |none,some k,some _=>some (decide (0<=k)&&decide (k<=len), .val (.c (.row h sz k.toNat)))|_,_,_=>none)
   | .c (.d d)=>(match Bm P e with
    |some s=>(match asSl s d with
     |some (n,f)=>(match C6 ρ lo 0,C6 ρ hi n with
      |some l,some h=>some (decide (0<=l)&&decide (l<=h)&&decide (h<=n), .val (.c (.d (.sl s (h.toNat -l.toNat) fun i=>f (l.toNat+i)))))
      |_,_=>none)
     |none=>none)
    |none=>none)
   |_=>none)
  |none,some (.array len e)=>(match lo,hi,ρ x,Bm P e with
   |none,none, .c (.ptr h 0),some (s+1)=>some (true, .slarr h len (s+1))|none,none, .c (.ip l),some (s+1)=>if(l.take (len*(s+1))).length=len*(s+1)then some (true, .val (.c (.d (.sl (s+1) len (Ae (l.take (len*(s+1))) (s+1))))))else none|_,_,_,_=>none)
  |_,_=>none
 | .makeMap t r=>(match r,Ui P t with
  |none,some kd=>some (true, .alloc (.map kd []) fun h=> .c (.mp h))
  |_,_=>none)
 | .lookup t x i ok=>(match Ui P t with
  |some kd=>(match ρ x,Zm kd (ρ i)with
   | .c (.mp h),some key=>some (true, .look h kd key ok (zM P t))| .c (.d (.v (.map none))),some _=>some (true, .val (Kz kd (zM P t) none ok))|_,_=>none)
  |none=>none)
 | .mapUpdate t m k v=>(match Ui P t with
  |some kd=>(match ρ m,Zm kd (ρ k),Agt kd (ρ v)with
   | .c (.mp h),some key,some val=>some (true, .upd h kd key val)|_,_,_=>none)
  |none=>none)
 | .insert t m k v=>(match Ui P t with
  |some kd=>(match ρ m,Zm kd (ρ k),Agt kd (ρ v)with
   | .c (.mp h),some key,some val=>some (true, .upd h kd key val)|_,_,_=>none)
  |none=>none)
 | .range t x=>match P.underlying t,ρ x with
  |some .string, .c (.d (.v (.string s)))=>some (true, .alloc (.iter s 0) fun h=> .c (.ptr h 0))
  |_,_=>none
 | .next it str=>match str,ρ it with
  |true, .c (.ptr h 0)=>some (true, .next h)|_,_=>none
 | .extract x i=>match ρ x with
  | .tup ps=>(match ps[i]? with
   |some (true,cs)=>some (true, .val (.agg cs))|some (false,[c])=>some (true, .val (.c c))|_=>none)
  |_=>none
 | .call c=>match c.callee with
  | .value g=>(match ρ g with
   | .c (.d (.v (.func (.func f) ⟨[]⟩ ⟨[]⟩)))=>if M8 P f then some (true, .call f (c.args.toList.map ρ))else none| .c (.fn f a b)=>if M8 P f then some (true, .call f (a.map rfA++c.args.toList.map ρ++b.map rfA))else none|_=>none)
  | .builtin .len=>(match c.argTypes[0]?,c.args[0]? with
   |some t,some x=>(match P.underlying t,ρ x with
    |some .string, .c (.d (.v (.string s)))=>some (true, .val (.c (.d (.v (.int .i64 s.size)))))|some (.slice _), .c (.row _ _ n)=>some (true, .val (.c (.d (.v (.int .i64 n)))))|some (.slice _), .c (.d d)=>(match d with| .sl _ n _=>some (true, .val (.c (.d (.v (.int .i64 n)))))| .v (.slice none 0 0)=>some (true, .val (.c (.d (.v (.int .i64 0)))))|_=>none)
    |some (.array n _),_=>some (true, .val (.c (.d (.v (.int .i64 n)))))|some (.map _ _), .c (.mp h)=>some (true, .mlen h)|some (.map _ _), .c (.d (.v (.map none)))=>some (true, .val (.c (.d (.v (.int .i64 0)))))|_,_=>none)
   |_,_=>none)
  | .builtin .append=>(match c.argTypes.toList,c.args.toList with
   |[t,t'],[x,y]=>(match P.underlying t with
    |some (.slice e)=>(match Bm P e,Agj P e,Sf P e with
     |some (s+1),some by_,some z=>if z.length=s+1 then
      let src:Option (Nat×Src):=match P.underlying t',ρ y with
       |some (.slice e'), .c (.row h sz n)=>if e'=e/\sz=s+1 then some (n, .own h sz n)else none|some (.slice e'), .c (.d d)=>if e'=e then(match asSl (s+1) d with|some (n,f)=>some (n, .data n f)|none=>none)else none
       |some .string, .c (.d (.v (.string b)))=>if s=0 then some (b.size, .str b)else none|_,_=>none
      let dst:Option (Nat×Option (Nat×Nat)):=match ρ x with
       | .c (.row h sz n)=>if sz=s+1 then some (n,some (h,n))else none| .c (.d (.v (.slice none 0 0)))=>some (0,none)|_=>none
      (match dst,src with
      |some (n,d),some (m,sr)=>some (decide ((n+m)*by_<=140737488355328)&&decide (n+m<=9223372036854775807), .append d sr e (s+1))|_,_=>none)else none
     |_,_,_=>none)
    |_=>none)
   |_,_=>none)
  | .builtin .min=>(match c.args.toList.map ρ with
   |[.c (.d (.v (.int k a))), .c (.d (.v (.int _ b)))]=>some (true, .val (.c (.d (.v (.int k (if b<a then b else a))))))|_=>none)
  | .builtin .max=>(match c.args.toList.map ρ with
   |[.c (.d (.v (.int k a))), .c (.d (.v (.int _ b)))]=>some (true, .val (.c (.d (.v (.int k (if b>a then b else a))))))|_=>none)
  | .builtin .unsafeSliceData=>(match c.args.toList.map ρ with
   |[.c (.row h sz n)]=>some (decide (0<n), .val (.c (.ept h sz 0 0)))|[.c (.d (.v (.slice none 0 0)))]=>some (true, .val (.c (.d (.v (.pointer none)))))|_=>none)
  | .builtin .unsafeString=>(match c.argTypes.toList,c.args.toList.map ρ with
   |[_,_],[.c (.d (.v (.pointer none))), .c (.d (.v (.int .i64 n)))]=>some (decide (n=0), .val (.c (.d (.v (.string .empty)))))|[t,_],[.c (.ept h 1 0 0), .c (.d (.v (.int .i64 n)))]=>(match P.underlying t with
    |some (.pointer e)=>if Bm P e=some 1 then some (decide (0<=n)&&decide (n<=9223372036854775807), .ustr h n.toNat e)else none|_=>none)
   |_,_=>none)
  |_=>none
 |_=>none
def Aoc(P:Program)(ρ:Operand ->AV)(c:Operand)(a:Operand)(b:Operand):Option (Bool×Do):=match ρ c with
 | .c (.d (.v (.bool t)))=>some (true, .val (bif t then ρ a else ρ b))|_=>none
def AjT(P:Program)(ρ:Operand ->AV)(e:TypeId):Option (Bool×Do):=match Sf P e with|some cs=>some (true, .alloc (.cells cs e) fun h=> .c (.ptr h 0))|none=>none
def rBox(P:Program)(ρ:Operand ->AV)(e:TypeId)(x:Operand):Option (Bool×Do):=match cellsOf (ρ x)with|some cs=>some (true, .alloc (.cells cs e) fun h=> .c (.ptr h 0))|none=>none
def AjS(P:Program)(ρ:Operand ->AV)(t:TypeId)(parts:Array (Nat×Operand)):Option (Bool×Do):=match P.underlying t,Sf P t with
 |some (.struct fields),some z=>match Mo P fields.toList with
  |some ps=>(match Mx (fun i=>ps[i]?) z (parts.toList.map fun p=>(p.1,ρ p.2))with
   |some cs=>some (true, .val (.agg cs))|none=>none)
  |none=>none
 |some (.array _ e),some z=>match Bm P e with
  |some s=>(match Mx (fun i=>some (i*s,s)) z (parts.toList.map fun p=>(p.1,ρ p.2))with
   |some cs=>some (true, .val (.agg cs))|none=>none)
  |none=>none
 |_,_=>none
def Qz(P:Program)(ρ:Operand ->AV)(t:TypeId)(len:Nat)(parts:Array (Nat×Operand)):Option (Bool×Do):=match P.underlying t with
 |some (.slice e)=>match Bm P e,Sf P e with
  |some (s+1),some z=>(match Mx (fun i=>some (i*(s+1),s+1)) (List.replicate len z).flatten (parts.toList.map fun p=>(p.1,ρ p.2))with
   |some cs=>if len*(s+1)<=2^24/\z.length=s+1 then some (true, .alloc (.cells cs e) fun h=> .c (.row h (s+1) len))else none
   |none=>none)
  |_,_=>none
 |_=>none
def Aoe(P:Program)(ρ:Operand ->AV)(t:TypeId)(a:Operand):Option (Bool×Do):=match aggT P t,Bm P t with
 |some ag,some n=>match ρ a with
  | .c (.ptr h off)=>some (true, .load h 0 0 off (bif ag then n else 1) ag)| .c (.ept h sz i off)=>some (true, .load h sz i off (bif ag then n else 1) ag)| .c (.ip l)=>(match Ke (l.map .d) 0 (bif ag then n else 1) ag with|some x=>some (true, .val x)|none=>none)
  |_=>none
 |_,_=>none
def AjN(P:Program)(ρ:Operand ->AV)(t:TypeId)(a:Operand)(x:Operand):Option (Bool×Do):=match Bm P t,cellsOf (ρ x)with
 |some n,some cs=>if cs.length=n then(match ρ a with
  | .c (.ptr h off)=>some (true, .store h 0 0 off cs)| .c (.ept h sz i off)=>some (true, .store h sz i off cs)|_=>none)else none
 |_,_=>none
def V1(P:Program)(ρ:Operand ->AV)(x:Operand):Option (Bool×Do):=match ρ x with
 | .c (.ptr h off)=>some (true, .val (.c (.ptr h off)))| .c (.ept h sz i off)=>some (true, .val (.c (.ept h sz i off)))| .c (.ip l)=>some (true, .val (.c (.ip l)))| .c (.fn f a b)=>some (true, .val (.c (.fn f a b)))|_=>none
def Aau(P:Program)(ρ:Operand ->AV)(op:BinOp)(t:TypeId)(x:Operand)(y:Operand):Option (Bool×Do):=match ρ x,ρ y with
 | .c (.d (.v (.string a))), .c (.d (.v (.string b)))=>(match op,P.underlying t with
  | .add,some .string=>some (decide (a.size+b.size<=9223372036854775807), .val (.c (.d (.v (.string (a++b))))))| .add,_=>none|_,_=>match pr P (do eqGuard op t x y (.string a) (.string b);binOp op t (.string a) (.string b))with
   |some r=>val1 r|none=>none)
 | .c (.d (.v a)), .c (.d (.v b))=>Acv op a b (match pr P (do eqGuard op t x y a b;binOp op t a b)with
  |some r=>val1 r|none=>none)
 | .agg xs, .agg ys=>match op with
  | .eql=>(match eqT P 50 t xs ys with
   |some r=>if P.eqGuardType P.depth t=false/\aggT P t=some true then val1 (.bool r)else none|none=>none)
  | .neq=>(match eqT P 50 t xs ys with
   |some r=>if P.eqGuardType P.depth t=false/\aggT P t=some true then val1 (.bool !r)else none|none=>none)
  |_=>none
 |p,q=>(match Aiw p q,op with
  |some (r,k), .eql=>if S9 P t then some (true,chkD k (.c (.d (.v (.bool r)))))else none|some (r,k), .neq=>if S9 P t then some (true,chkD k (.c (.d (.v (.bool !r)))))else none|some _,_=>none|none,op=>(match Aix P t p q,op with
   |some r, .eql=>some (true, .val (.c (.d (.v (.bool r)))))|some r, .neq=>some (true, .val (.c (.d (.v (.bool !r)))))|_,_=>none))
def Aob(P:Program)(ρ:Operand ->AV)(op:UnOp)(x:Operand):Option (Bool×Do):=match ρ x with
 | .c (.d (.v a))=>(match pr P (Op.unary op a)with|some r=>val1 r|none=>none)
 |_=>none
def Aat(P:Program)(ρ:Operand ->AV)(s:TypeId)(t:TypeId)(x:Operand):Option (Bool×Do):=match ρ x with
 | .c (.d (.v a))=>(match pr P (Go.convert s t a)with|some r=>val1 r|none=>strB P s t a)
 | .c (.ptr h off)=>(match P.underlying s,P.underlying t with
  |some (.pointer e),some .unsafePointer=>(match Bm P e with|some (_+1)=>some (true, .conv h off none)|_=>none)
  |some .unsafePointer,some (.pointer e)=>(match Bm P e with|some (z+1)=>some (true, .conv h off (some (e,z+1)))|_=>none)
  |_,_=>none)
 | .c (.row h sz len)=>(match P.underlying s,P.underlying t with
  |some (.slice e),some .string=>(match P.underlying e with|some (.int .u8)=>if sz=1 then some (true, .cstr h len)else none|_=>none)
  |_,_=>none)
 |_=>none
def V2(P:Program)(ρ:Operand ->AV)(fn:Fn)(first:Array Operand)(captured:Array Operand):Option (Bool×Do):=match fn,Vy (first.toList.map ρ),Vy (captured.toList.map ρ)with
 | .func f,some a,some b=>some (true, .val (.c (.fn f a b)))|_,_,_=>none
def Sy(P:Program)(ρ:Operand ->AV)(s:TypeId)(x:Operand)(f:Nat):Option (Bool×Do):=match P.underlying s with
 |some (.struct fields)=>match fields[f]? with
  |some fd=>(match Bm P fd.type with
   |some (_+1)=>(match ρ x with
    | .c (.ptr h off)=>some (true, .val (.c (.ptr h (off+fd.offset))))| .c (.ept h sz i off)=>some (true, .val (.c (.ept h sz i (off+fd.offset))))| .c (.ip l)=>some (true, .val (.c (.ip (l.drop fd.offset))))|_=>none)
   |_=>none)
  |none=>none
 |_=>none
def AjR(P:Program)(ρ:Operand ->AV)(t:TypeId)(x:Operand)(f:Nat):Option (Bool×Do):=match P.underlying t with
 |some (.struct fields)=>match fields[f]? with
  |some fd=>(match aggT P fd.type,Bm P fd.type,ρ x with
   |some ag,some n, .agg cs=>(match Ke cs fd.offset (bif ag then n else 1) ag with|some y=>some (true, .val y)|none=>none)
   |_,_,_=>none)
  |none=>none
 |_=>none
def Sx(P:Program)(ρ:Operand ->AV)(t:TypeId)(x:Operand)(i:Operand):Option (Bool×Do):=match ρ i with
 | .c (.d (.v (.int _ n)))=>(match P.underlying t,ρ x with
  |some (.array len e), .c (.ptr h off)=>(match Bm P e with
   |some s=>some (decide (0<=n)&&decide (n<len),idxD h off s n len)|none=>none)
  |some (.array len e), .c (.ip l)=>(match Bm P e with
   |some s=>some (decide (0<=n)&&decide (n<len), .val (.c (.ip (l.drop (n.toNat*s)))))|none=>none)
  |some (.slice e), .c (.row h sz len)=>(match Bm P e with
   |some s=>if s=sz then some (decide (0<=n)&&decide (n<len), .val (.c (.ept h sz n.toNat 0)))else none|none=>none)
  |some (.slice e), .c (.d (.sl sz len f))=>(match Bm P e with
   |some s=>if s=sz then some (decide (0<=n)&&decide (n<len), .val (.c (.ip (f n.toNat))))else none|none=>none)
  |_,_=>none)
 |_=>none
def AjQ(P:Program)(ρ:Operand ->AV)(t:TypeId)(x:Operand)(i:Operand):Option (Bool×Do):=match ρ i with
 | .c (.d (.v (.int _ n)))=>(match P.underlying t,ρ x with
  |some .string, .c (.d (.v (.string s)))=>some (decide (0<=n)&&decide (n<s.size), .val (.c (.d (.v (.int .u8 (s.data.toList.getD n.toNat 0).toNat)))))|some (.array len e), .agg cs=>(match aggT P e,Bm P e with
   |some ag,some sz=>(match Ke cs (n.toNat*sz) (bif ag then sz else 1) ag with|some y=>some (decide (0<=n)&&decide (n<len), .val y)|none=>none)
   |_,_=>none)
  |_,_=>none)
 |_=>none
def AjO(P:Program)(ρ:Operand ->AV)(t:TypeId)(x:Operand)(lo:Option Operand)(hi:Option Operand)(mx:Option Operand):Option (Bool×Do):=match mx,P.underlying t with
 |none,some .string=>(match ρ x with
  | .c (.d (.v (.string s)))=>(match C6 ρ lo 0,C6 ρ hi s.size with
   |some l,some h=>some (decide (0<=l)&&decide (l<=h)&&decide (h<=s.size), .val (.c (.d (.v (.string (s.extract l.toNat h.toNat))))))|_,_=>none)
  |_=>none)
 |none,some (.slice e)=>(match ρ x with
  | .c (.row h sz len)=>(match lo,C6 ρ hi len,Bm P e with
   |none,some k,some _=>some (decide (0<=k)&&decide (k<=len), .val (.c (.row h sz k.toNat)))|_,_,_=>none)
  | .c (.d d)=>(match Bm P e with
   |some s=>(match asSl s d with
    |some (n,f)=>(match C6 ρ lo 0,C6 ρ hi n with
     |some l,some h=>some (decide (0<=l)&&decide (l<=h)&&decide (h<=n), .val (.c (.d (.sl s (h.toNat -l.toNat) fun i=>f (l.toNat+i)))))
     |_,_=>none)
    |none=>none)
   |none=>none)
  |_=>none)
 |none,some (.array len e)=>(match lo,hi,ρ x,Bm P e with
  |none,none, .c (.ptr h 0),some (s+1)=>some (true, .slarr h len (s+1))|none,none, .c (.ip l),some (s+1)=>if(l.take (len*(s+1))).length=len*(s+1)then some (true, .val (.c (.d (.sl (s+1) len (Ae (l.take (len*(s+1))) (s+1))))))else none|_,_,_,_=>none)
 |_,_=>none
def Aar(P:Program)(ρ:Operand ->AV)(t:TypeId)(r:Option Operand):Option (Bool×Do):=(match r,Ui P t with
 |none,some kd=>some (true, .alloc (.map kd []) fun h=> .c (.mp h))
 |_,_=>none)
def Aee(P:Program)(ρ:Operand ->AV)(t:TypeId)(x:Operand)(i:Operand)(ok:Bool):Option (Bool×Do):=(match Ui P t with
 |some kd=>(match ρ x,Zm kd (ρ i)with
  | .c (.mp h),some key=>some (true, .look h kd key ok (zM P t))| .c (.d (.v (.map none))),some _=>some (true, .val (Kz kd (zM P t) none ok))|_,_=>none)
 |none=>none)
def J8(P:Program)(ρ:Operand ->AV)(t:TypeId)(m:Operand)(k:Operand)(v:Operand):Option (Bool×Do):=(match Ui P t with
 |some kd=>(match ρ m,Zm kd (ρ k),Agt kd (ρ v)with
  | .c (.mp h),some key,some val=>some (true, .upd h kd key val)|_,_,_=>none)
 |none=>none)
def AjP(P:Program)(ρ:Operand ->AV)(t:TypeId)(x:Operand):Option (Bool×Do):=match P.underlying t,ρ x with
 |some .string, .c (.d (.v (.string s)))=>some (true, .alloc (.iter s 0) fun h=> .c (.ptr h 0))
 |_,_=>none
def Aod(P:Program)(ρ:Operand ->AV)(it:Operand)(str:Bool):Option (Bool×Do):=match str,ρ it with
 |true, .c (.ptr h 0)=>some (true, .next h)|_,_=>none
def Aas(P:Program)(ρ:Operand ->AV)(x:Operand)(i:Nat):Option (Bool×Do):=match ρ x with
 | .tup ps=>(match ps[i]? with
  |some (true,cs)=>some (true, .val (.agg cs))|some (false,[c])=>some (true, .val (.c c))|_=>none)
 |_=>none
def Aof(P:Program)(ρ:Operand ->AV)(c:Call):Option (Bool×Do):=match c.callee with
 | .value g=>(match ρ g with
  | .c (.d (.v (.func (.func f) ⟨[]⟩ ⟨[]⟩)))=>if M8 P f then some (true, .call f (c.args.toList.map ρ))else none| .c (.fn f a b)=>if M8 P f then some (true, .call f (a.map rfA++c.args.toList.map ρ++b.map rfA))else none|_=>none)
 | .builtin .len=>(match c.argTypes[0]?,c.args[0]? with
  |some t,some x=>(match P.underlying t,ρ x with
   |some .string, .c (.d (.v (.string s)))=>some (true, .val (.c (.d (.v (.int .i64 s.size)))))|some (.slice _), .c (.row _ _ n)=>some (true, .val (.c (.d (.v (.int .i64 n)))))|some (.slice _), .c (.d d)=>(match d with| .sl _ n _=>some (true, .val (.c (.d (.v (.int .i64 n)))))| .v (.slice none 0 0)=>some (true, .val (.c (.d (.v (.int .i64 0)))))|_=>none)
   |some (.array n _),_=>some (true, .val (.c (.d (.v (.int .i64 n)))))|some (.map _ _), .c (.mp h)=>some (true, .mlen h)|some (.map _ _), .c (.d (.v (.map none)))=>some (true, .val (.c (.d (.v (.int .i64 0)))))|_,_=>none)
  |_,_=>none)
 | .builtin .append=>(match c.argTypes.toList,c.args.toList with
  |[t,t'],[x,y]=>(match P.underlying t with
   |some (.slice e)=>(match Bm P e,Agj P e,Sf P e with
    |some (s+1),some by_,some z=>if z.length=s+1 then
     let src:Option (Nat×Src):=match P.underlying t',ρ y with
      |some (.slice e'), .c (.row h sz n)=>if e'=e/\sz=s+1 then some (n, .own h sz n)else none|some (.slice e'), .c (.d d)=>if e'=e then(match asSl (s+1) d with|some (n,f)=>some (n, .data n f)|none=>none)else none
      |some .string, .c (.d (.v (.string b)))=>if s=0 then some (b.size, .str b)else none|_,_=>none
     let dst:Option (Nat×Option (Nat×Nat)):=match ρ x with
      | .c (.row h sz n)=>if sz=s+1 then some (n,some (h,n))else none| .c (.d (.v (.slice none 0 0)))=>some (0,none)|_=>none
     (match dst,src with
     |some (n,d),some (m,sr)=>some (decide ((n+m)*by_<=140737488355328)&&decide (n+m<=9223372036854775807), .append d sr e (s+1))|_,_=>none)else none
    |_,_,_=>none)
   |_=>none)
  |_,_=>none)
 | .builtin .min=>(match c.args.toList.map ρ with
  |[.c (.d (.v (.int k a))), .c (.d (.v (.int _ b)))]=>some (true, .val (.c (.d (.v (.int k (if b<a then b else a))))))|_=>none)
 | .builtin .max=>(match c.args.toList.map ρ with
  |[.c (.d (.v (.int k a))), .c (.d (.v (.int _ b)))]=>some (true, .val (.c (.d (.v (.int k (if b>a then b else a))))))|_=>none)
 | .builtin .unsafeSliceData=>(match c.args.toList.map ρ with
  |[.c (.row h sz n)]=>some (decide (0<n), .val (.c (.ept h sz 0 0)))|[.c (.d (.v (.slice none 0 0)))]=>some (true, .val (.c (.d (.v (.pointer none)))))|_=>none)
 | .builtin .unsafeString=>(match c.argTypes.toList,c.args.toList.map ρ with
  |[_,_],[.c (.d (.v (.pointer none))), .c (.d (.v (.int .i64 n)))]=>some (decide (n=0), .val (.c (.d (.v (.string .empty)))))|[t,_],[.c (.ept h 1 0 0), .c (.d (.v (.int .i64 n)))]=>(match P.underlying t with
   |some (.pointer e)=>if Bm P e=some 1 then some (decide (0<=n)&&decide (n<=9223372036854775807), .ustr h n.toNat e)else none|_=>none)
  |_,_=>none)
 |_=>none
def resF(P:Program)(o:Oper)(ρ:Operand ->AV):Option (Bool×Do):=
 match o.op with
 | .move x=>some (true, .val (ρ x))| .assign x=>some (true, .val (ρ x))| .pick c a b=>Aoc P ρ c a b| .alloc e=>AjT P ρ e| .box e x=>rBox P ρ e x| .build t parts=>AjS P ρ t parts| .buildSlice t len parts=>Qz P ρ t len parts| .load t a=>Aoe P ρ t a| .store t a x=>AjN P ρ t a x| .nilCheck x=>V1 P ρ x| .binOp op t x y _=>Aau P ρ op t x y| .unOp op _ x=>Aob P ρ op x| .convert s t x=>Aat P ρ s t x| .makeFunc fn first captured=>V2 P ρ fn first captured
 | .fieldAddr s x f=>Sy P ρ s x f| .field t x f=>AjR P ρ t x f| .indexAddr t x i=>Sx P ρ t x i| .index t x i=>AjQ P ρ t x i| .slice t x lo hi mx=>AjO P ρ t x lo hi mx| .makeMap t r=>Aar P ρ t r| .lookup t x i ok=>Aee P ρ t x i ok| .mapUpdate t m k v=>J8 P ρ t m k v| .insert t m k v=>J8 P ρ t m k v| .range t x=>AjP P ρ t x| .next it str=>Aod P ρ it str| .extract x i=>Aas P ρ x i| .call c=>Aof P ρ c|_=>none
theorem Aea(P:Program)(o:Oper)(ρ:Operand ->AV):resF P o ρ=res P o ρ:=by
 obtain⟨dst,op,ty,pos,after,guard⟩:=o;cases op<;>rfl
def getF(F:List AV):Nat ->AV:=List.rec (motive:=fun _=>Nat ->AV) (fun _=> .u) (fun h _ ih n=>Nat.rec (motive:=fun _=>AV) h (fun m _=>ih m) n) F
def setF(x:AV)(F:List AV):Nat ->List AV:=List.rec (motive:=fun _=>Nat ->List AV) (fun _=>[]) (fun h t ih n=>Nat.rec (motive:=fun _=>List AV) (x::t) (fun m _=>h::ih m) n) F
theorem Y2: ∀(F:List AV) (n:Nat),getF F n=F.getD n .u
 |[],_=>rfl|_::_,0=>rfl|h::t,n+1=>by
  have e:getF (h::t) (n+1)=getF t n:=rfl;rw[e,Y2 t n];simp
theorem Yg(x:AV): ∀(F:List AV) (n:Nat),setF x F n=F.set n x
 |[],_=>rfl|_::_,0=>rfl|h::t,n+1=>by
  have e:setF x (h::t) (n+1)=h::setF x t n:=rfl;rw[e,Yg x t n];simp
def opF(F:List AV):Operand ->AV
 | .tmp t=>getF F t| .const v=>absA v| .global g=>gOp g| .func f=> .c (.d (.v (.func (.func f) #[] #[])))
theorem Aeu(F:List AV):opF F=opA F:=by
 funext o;cases o<;>simp only[opF,opA,Y2]
def putF(F:List AV)(dst:Option Nat)(x:AV):List AV:=match dst with|some d=>setF x F d|none=>F
theorem putF_eq(F:List AV)(dst:Option Nat)(x:AV):putF F dst x=put F dst x:=by
 cases dst<;>simp only[putF,put,Yg]
mutual
def frz(H:Hp):Nat ->C ->Option (D×List Nat)
 |0,_=>none|n+1,c=>match c with
  | .d x=>some (x,[])| .row h sz len=>match look H h with
   |some (.row _ f sz' _)=>bif Nat.beq sz sz' then some (.sl sz len f,[h])else none|some (.cells cs _)=>match frzL H n (cs.take (len*sz))with
    |some (ds,ks)=>bif Nat.beq ds.length (len*sz)then some (.sl sz len (Ae ds sz),h::ks)else none|none=>none
   |_=>none
  |_=>none
def frzL(H:Hp):Nat ->List C ->Option (List D×List Nat)
 |0,_=>none|_+1,[]=>some ([],[])|n+1,c::r=>match frz H n c,frzL H n r with
  |some (d,ks),some (ds,ks')=>some (d::ds,ks++ks')|_,_=>none
end
abbrev Ups:=List (Nat×Blk)
def A9:Ups ->Hp ->Hp
 |[],H=>H|(h,b)::r,H=>A9 r (ins h b H)
def Fm(ks:List Nat):Ups:=ks.map fun k=>(k, .dead)
def AjY:Rf ->List Nat
 | .d _=>[]| .ptr h _=>[h]
def AaD:C ->List Nat
 | .ptr h _=>[h]| .ept h _ _ _=>[h]| .row h _ _=>[h]| .mp h=>[h]| .fn _ a b=>a.flatMap AjY++b.flatMap AjY|_=>[]
def Ev:AV ->List Nat
 | .c x=>AaD x| .agg cs=>cs.flatMap AaD| .tup ps=>ps.flatMap fun p=>p.2.flatMap AaD
 | .u=>[]
def AjZ:Blk ->List Nat
 | .cells cs _=>cs.flatMap AaD|_=>[]
def AbU:Nat ->Hp ->List Nat ->List Nat ->List Nat
 |0,_,_,acc=>acc|_+1,_,[],acc=>acc|n+1,H,h::r,acc=>bif acc.contains h then AbU n H r acc else
  match look H h with
  |some b=>AbU n H (AjZ b++r) (acc++[h])|none=>AbU n H r acc
def He:Nat ->Hp ->List Nat ->List Nat ->Option (List Nat)
 |0,_,_,_=>none|_+1,_,[],acc=>some acc|n+1,H,h::r,acc=>bif acc.contains h then He n H r acc else
  match look H h with
  |some b=>He n H (AjZ b++r) (acc++[h])|none=>none
def renR(ρ:Nat ->Option Nat):Rf ->Option Rf
 | .d x=>some (.d x)| .ptr h off=>match ρ h with|some k=>some (.ptr k off)|none=>none
def AbT(ρ:Nat ->Option Nat):List Rf ->Option (List Rf)
 |[]=>some []|x::r=>match renR ρ x,AbT ρ r with
  |some y,some l=>some (y::l)|_,_=>none
def renC(ρ:Nat ->Option Nat):C ->C
 | .ptr h off=>match ρ h with|some k=> .ptr k off|none=> .u
 | .ept h sz i off=>match ρ h with|some k=> .ept k sz i off|none=> .u
 | .row h sz len=>match ρ h with|some k=> .row k sz len|none=> .u
 | .mp h=>match ρ h with|some k=> .mp k|none=> .u
 | .fn f a b=>match AbT ρ a,AbT ρ b with|some x,some y=> .fn f x y|_,_=> .u
 |x=>x
def renA(ρ:Nat ->Option Nat):AV ->AV
 | .c x=> .c (renC ρ x)| .agg cs=> .agg (cs.map (renC ρ))| .tup ps=> .tup (ps.map fun p=>(p.1,p.2.map (renC ρ)))
 | .u=> .u
def renB(ρ:Nat ->Option Nat):Blk ->Blk
 | .cells cs t=> .cells (cs.map (renC ρ)) t|b=>b
def D5(h:Nat):Nat ->List Nat ->Option Nat
 |_,[]=>none|i,k::r=>bif Nat.beq h k then some i else D5 h (i+1) r
def Ra(H:Hp)(h:Nat):Blk:=match look H h with|some b=>b|none=> .dead
def Tt(H:Hp)(ρ:Nat ->Option Nat):Nat ->List Nat ->Hp
 |_,[]=>[]|i,h::r=>(i,renB ρ (Ra H h))::Tt H ρ (i+1) r
def Nc(L:List Nat)(h0 k:Nat):Option Nat:=bif Nat.blt k L.length then L[k]? else bif Nat.blt k (L.length+16)then some (h0+(k -L.length))else none
def Jw(Hr:Hp)(U:Nat ->Option Nat):Nat ->List Nat ->Ups
 |_,[]=>[]|i,h::r=>(h,renB U (Ra Hr i))::Jw Hr U (i+1) r
def Na(Hr:Hp)(U:Nat ->Option Nat)(k0 h0:Nat):Nat ->Ups
 |0=>[]|n+1=>match look Hr (k0+n)with
  |some b=>(h0+n,renB U b)::Na Hr U k0 h0 n|none=>Na Hr U k0 h0 n
abbrev Orc:=(R:Type) ->FuncId ->List AV ->Hp ->(AV ->Hp ->Option (T R)) ->Option (T R)
structure Foot where
 rd:List Nat
 wr:List Nat
def Aco:Nat:=400
def Bk:Src ->Nat
 | .data n _=>n| .own _ _ n=>n| .str s=>s.size
def Ba:Option (Nat×Nat) ->Nat
 |none=>0|some (_,n)=>n
def Bz:Option (Nat×Nat) ->List Nat
 |none=>[]|some (h,_)=>[h]
inductive Cont where
 |cells (cs:List C)|data (f:RD)
def dstC(H:Hp)(sz:Nat)(e:TypeId):Option (Nat×Nat) ->Option Cont
 |none=>some (.cells [])|some (h,n)=>match look H h with
  |some (.cells cs t)=>bif Nat.beq t e&&Nat.ble (n*sz) cs.length then some (.cells (cs.take (n*sz)))else none|some (.row _ f sz' t)=>bif Nat.beq t e&&Nat.beq sz sz' then some (.data f)else none|_=>none
def srcC(H:Hp)(sz:Nat):Src ->Option (Cont×List Nat)
 | .data _ g=>some (.data g,[])| .str s=>some (.data fun i=>bif Nat.blt i s.size then [.v (.int .u8 (s.data.toList.getD i 0).toNat)]else [],[])
 | .own h sz' len=>match look H h with
  |some (.row _ g sz'' _)=>bif Nat.beq sz' sz''&&Nat.beq sz sz' then some (.data g,[h])else none|some (.cells cs _)=>bif Nat.ble (len*sz) cs.length&&Nat.beq sz sz' then some (.cells (cs.take (len*sz)),[h])else none|_=>none
def Ht(H:Hp)(sz n:Nat):Cont ->Option (RD×List Nat)
 | .data f=>some (f,[])| .cells cs=>match frzL H 400 cs with
  |some (ds,ks)=>bif Nat.beq ds.length (n*sz)then some (Ae ds sz,ks)else none|none=>none
def appF(n:Nat)(f g:RD):RD:=fun j=>bif Nat.blt j n then f j else g (j -n)
def appD(dst:Option (Nat×Nat))(n:Nat)(f g:RD):RD:=match dst with
 |none=>g|some _=>appF n f g
def disj(a b:List Nat):Bool:=a.all fun x=> !(b.contains x)
def appB(dst:Option (Nat×Nat))(m:Nat)(cs:List C)(sz:Nat)(e:TypeId):Blk:=match dst with
 |none=>bif Nat.beq m 0 then .row 0 (fun _=>[]) sz e else .cells cs e
 |some _=> .cells cs e
def Jz(H:Hp)(h0:Nat)(dst:Option (Nat×Nat))(src:Src)(e:TypeId)(sz:Nat):Option (AV×Ups×List Nat):=
 match dstC H sz e dst,srcC H sz src with
 |some (.cells x),some (.cells y,rd)=>some (.c (.row h0 sz (Ba dst+Bk src)),(h0,appB dst (Bk src) (x++y) sz e)::Fm (Bz dst),Bz dst++rd)|some a,some (b,rd)=>match Ht H sz (Ba dst) a,Ht H sz (Bk src) b with
  |some (f,ks),some (g,ks')=>bif disj (Bz dst) (ks++ks')then
   some (.c (.row h0 sz (Ba dst+Bk src)),(h0, .row (Ba dst+Bk src) (appD dst (Ba dst) f g) sz e)::Fm (Bz dst++(ks++ks')),Bz dst++(ks++ks')++rd)else none
  |_,_=>none
 |_,_=>none
def Gl(H:Hp)(h sz i off n:Nat)(ag:Bool):Option AV:=match look H h with
 |some (.cells cs _)=>Ke cs (i*sz+off) n ag|some (.row _ f sz' _)=>bif Nat.beq sz sz' then Ke ((f i).map .d) off n ag else none|_=>none
def Eh(H:Hp)(h sz i off:Nat)(cs:List C):Option (Ups×List Nat):=match look H h with
 |some (.cells ds t)=>bif Nat.ble (i*sz+off+cs.length) ds.length then some ([(h, .cells (splice ds (i*sz+off) cs) t)],[h])else none|some (.row n f sz' t)=>match frzL H 400 cs with
  |some (xs,ks)=>bif Nat.beq sz sz'&&Nat.ble (off+xs.length) sz&& !(ks.contains h)then
   some ((h, .row n (fun j=>bif Nat.beq j i then splice (f j) off xs else f j) sz t)::Fm ks,h::ks)else none
  |none=>none
 |_=>none
def AaZ(off n:Nat)(t:TypeId):Option (TypeId×Nat) ->Bool
 |none=>true|some (e,z)=>Nat.beq off 0&&Nat.beq t e&&Nat.ble z n
def Ax(h0:Nat)(a:Do)(H:Hp):Option (AV×Foot×Ups):=
 match a with
 | .val x=>some (x,⟨[],[]⟩,[])| .load h sz i off n ag=>match Gl H h sz i off n ag with|some x=>some (x,⟨[h],[]⟩,[])|none=>none
 | .store h sz i off cs=>match Eh H h sz i off cs with|some (u,rd)=>some (.tup [],⟨rd,u.map (·.1)⟩,u)|none=>none
 | .alloc b mk=>some (mk h0,⟨[],[h0]⟩,[(h0,b)])| .append d s e sz=>match Jz H h0 d s e sz with|some (x,u,rd)=>some (x,⟨rd,u.map (·.1)⟩,u)|none=>none
 | .next h=>match look H h with
  |some (.iter s pos)=>bif Nat.blt pos s.size then
   some (.tup [(false,[.d (.v (.bool true))]),(false,[.d (.v (.int .i64 pos))]),(false,[.d (.v (.int .i32 (Utf8.decode s pos).1))])],⟨[h],[h]⟩,[(h, .iter s (pos+(Utf8.decode s pos).2))])
   else some (.tup [(false,[.d (.v (.bool false))])],⟨[h],[h]⟩,[])
  |_=>none
 | .chk h x=>match look H h with|some (.cells ..)=>some (x,⟨[h],[]⟩,[])|_=>none
 | .conv h off u=>match look H h with
  |some (.cells cs t)=>bif Nat.blt off cs.length&&AaZ off cs.length t u then some (.c (.ptr h off),⟨[h],[]⟩,[])else none|_=>none
 | .ustr h n e=>match look H h with
  |some (.row m f sz t)=>bif Nat.ble n m&&Nat.beq sz 1&&Nat.beq t e&&Dk n f then some (.c (.d (.v (.string (C5 n f)))),⟨[h],[h]⟩,[(h, .dead)])else none|_=>none
 | .cstr h n=>bif Ey n (look H h)then some (.c (.d (.v (.string (K5 n (look H h))))),⟨[h],[]⟩,[])else none| .slarr h n s=>match look H h with
  |some (.cells cs _)=>(match frzL H 400 cs with
   |some (ds,ks)=>bif Nat.beq ds.length (n*s)then some (.c (.d (.sl s n (Ae ds s))),⟨h::ks,h::ks⟩,Fm (h::ks))else none|none=>none)
  |_=>none
 | .mlen h=>match look H h with
  |some (.map _ l)=>some (.c (.d (.v (.int .i64 (dlen l:Nat)))),⟨[h],[]⟩,[])|_=>none
 | .idx h off s _ n=>some (.c (.ptr h (off+n.toNat*s)),⟨[],[]⟩,[])| .look h kd key ok z=>match look H h with
  |some (.map kd' l)=>bif Nat.beq kd kd' then some (Kz kd z (Bb l key) ok,⟨[h],[]⟩,[])else none|_=>none
 | .upd h kd key v=>match look H h with
  |some (.map kd' l)=>bif Nat.beq kd kd' then some (.tup [],⟨[h],[h]⟩,[(h, .map kd ((key,v)::l))])else none|_=>none
 | .call .. =>none
def Agg(H:Hp)(args:List AV):Option (List Nat):=He Aco H (args.flatMap Ev) []
def Qd(L:List Nat)(args:List AV):List AV:=args.map (renA fun h=>D5 h 0 L)
def Zg(H:Hp)(L:List Nat):Hp:=Tt H (fun h=>D5 h 0 L) 0 L
def Qc(h0:Nat)(L:List Nat):Foot:=⟨L,L++(List.range 16).map (h0+·)⟩
def Js(h0:Nat)(L:List Nat)(Hr:Hp):Ups:=Jw Hr (Nc L h0) 0 L++Na Hr (Nc L h0) L.length h0 16
def Aif{R:Type}(key:Value)(k:Option Value ->Option (T R)):List (Value×Value) ->Option (T R)
 |[]=>k none|(a,v)::r=>bif Lh key a then k (some v)else Aif key k r
theorem AaE{R:Type}(key:Value)(k:Option Value ->Option (T R)): ∀l:MV,Aif key k l=k (Bb l key)
 |[]=>rfl|(a,v)::r=>by
  unfold Aif Bb;cases Lh key a with
  |true=>rfl|false=>exact AaE key k r
def C7{R:Type}(orc:Orc)(h0:Nat)(a:Do)(H:Hp)(k:AV ->Foot ->Ups ->Option (T R)):Option (T R):=
 match a with
 | .call f args=>match Agg H args with
  |some L=>orc R f (Qd L args) (Zg H L) fun r Hr=>k (renA (Nc L h0) r) (Qc h0 L) (Js h0 L Hr)
  |none=>none
 | .next h=>match look H h with
  |some (.iter s pos)=>bif Nat.blt pos s.size then
   k (.tup [(false,[.d (.v (.bool true))]),(false,[.d (.v (.int .i64 pos))]),(false,[.d (.v (.int .i32 (Utf8.decode s pos).1))])]) ⟨[h],[h]⟩ [(h, .iter s (pos+(Utf8.decode s pos).2))]
   else k (.tup [(false,[.d (.v (.bool false))])]) ⟨[h],[h]⟩ []
  |_=>none
 | .ustr h n e=>match look H h with
  |some (.row m f sz t)=>bif Nat.ble n m&&Nat.beq sz 1&&Nat.beq t e&&Dk n f then k (.c (.d (.v (.string (C5 n f))))) ⟨[h],[h]⟩ [(h, .dead)]else none|_=>none
 | .cstr h n=>bif Ey n (look H h)then k (.c (.d (.v (.string (K5 n (look H h)))))) ⟨[h],[]⟩ []else none| .look h kd key ok z=>match look H h with
  |some (.map kd' l)=>bif Nat.beq kd kd' then(bif Nat.blt kd 5 then k (Kz kd z (Bb l key) ok) ⟨[h],[]⟩ []else Aif key (fun o=>k (Kz kd z o ok) ⟨[h],[]⟩ []) l)else none
  |_=>none
 | .idx h off s len n=>bif n==0 then k (.c (.ptr h off)) ⟨[],[]⟩ []else bif Nat.ble 2 len&&n==1 then k (.c (.ptr h (off+s))) ⟨[],[]⟩ []else bif Nat.ble 3 len&&n==2 then k (.c (.ptr h (off+2*s))) ⟨[],[]⟩ []else
  bif Nat.ble 4 len&&n==3 then k (.c (.ptr h (off+3*s))) ⟨[],[]⟩ []else none
 |a=>match Ax h0 a H with
  |some (x,ft,u)=>k x ft u|none=>none
theorem Aem{h0 h off s:Nat}{n:Int}{len:Nat}{H:Hp}:Ax h0 (idxD h off s n len) H=some (.c (.ptr h (off+n.toNat*s)),⟨[],[]⟩,[]):=by
 unfold idxD;cases Nat.ble len 4<;>rfl
theorem Aen{R:Type}{orc:Orc}{h0 h off s len:Nat}{n:Int}{H:Hp}{k:AV ->Foot ->Ups ->Option (T R)}:C7 orc h0 (.idx h off s len n) H k=none\/C7 orc h0 (.idx h off s len n) H k=k (.c (.ptr h (off+n.toNat*s))) ⟨[],[]⟩ []:=by
 simp only[C7];cases h0:n==0 with
 |true=>have:=eq_of_beq h0;subst this;right;simp|false=>
  cases h1:Nat.ble 2 len&&n==1 with
  |true=>have:=eq_of_beq (zd _ _▸h1:_/\_).2;subst this;right;simp|false=>
   cases h2:Nat.ble 3 len&&n==2 with
   |true=>have:=eq_of_beq (zd _ _▸h2:_/\_).2;subst this;right;simp|false=>
    cases h3:Nat.ble 4 len&&n==3 with
    |true=>have:=eq_of_beq (zd _ _▸h3:_/\_).2;subst this;right;simp|false=>left;rfl
theorem S2{R:Type}(orc:Orc)(h0 h kd:Nat)(key:Value)(ok:Bool)(z:Value)(H:Hp)(k:AV ->Foot ->Ups ->Option (T R)):
  C7 orc h0 (.look h kd key ok z) H k=match Ax h0 (.look h kd key ok z) H with|some (x,ft,u)=>k x ft u|none=>none:=by
 simp only[C7,Ax];cases look H h with
 |none=>rfl|some b=>
  cases b with
  |map kd' l=>
   simp only;cases Nat.beq kd kd' with
   |false=>rfl|true=>
    simp only[za];cases Nat.blt kd 5 with
    |true=>rfl|false=>simp only[zb,AaE]
  |_=>rfl
def Kj{R:Type}(ops:Array Oper)(F:List AV)(o:Oper)(yes no:List AV ->Option (T R)):Option (T R):=
 match o.guard with
 |none=>yes F|some (j,want)=>match(ops[j]?).bind (·.dst)with
  |none=>no F|some t=>match F.getD t .u with
   | .c (.d (.v (.bool b)))=>bif b then(bif want then yes (F.set t (.c (.d (.v (.bool true)))))else no (F.set t (.c (.d (.v (.bool true))))))
    else(bif want then no (F.set t (.c (.d (.v (.bool false)))))else yes (F.set t (.c (.d (.v (.bool false))))))
   | .tup []=>no F|_=>none
def Afk{R:Type}(ops:Array Oper)(F:List AV)(o:Oper)(yes no:List AV ->Option (T R)):Option (T R):=
 match o.guard with
 |none=>yes F|some (j,want)=>match(ops[j]?).bind (·.dst)with
  |none=>no F|some t=>match getF F t with
   | .c (.d (.v (.bool b)))=>bif b then(bif want then yes (setF (.c (.d (.v (.bool true)))) F t)else no (setF (.c (.d (.v (.bool true)))) F t))
    else(bif want then no (setF (.c (.d (.v (.bool false)))) F t)else yes (setF (.c (.d (.v (.bool false)))) F t))
   | .tup []=>no F|_=>none
theorem Rh{R:Type}(ops:Array Oper)(F:List AV)(o:Oper)(yes no:List AV ->Option (T R)):Afk ops F o yes no=Kj ops F o yes no:=by
 unfold Afk Kj;simp only[Y2,Yg]
structure Tx where
 ft:Foot
 lo:Option (Do×AV)
 u:Ups
def Lp(a:Do)(x:AV):Option (Do×AV):=match a with
 | .load h sz i off n ag=>some (.load h sz i off n ag,x)|_=>none
def tx0:Tx:=⟨⟨[],[]⟩,none,[]⟩
def Ye{R:Type}(P:Program)(orc:Orc)(ops:Array Oper)(i:Nat)(s:St)(k:Tx ->St ->Option (T R)):Option (T R):=
 match ops[i]? with
 |none=>none|some o=>Afk ops s.F o
  (fun F=>match resF P o (opF F)with
    |none=>none|some (ok,a)=>bif ok then C7 orc (s.nm+16*i) a s.H (fun x ft u=>k ⟨ft,Lp a x,u⟩ ⟨putF F o.dst x,A9 u s.H,s.nm⟩)else none)
  (fun F=>k tx0 ⟨putF F o.dst (.tup []),s.H,s.nm⟩)
def opsK{R:Type}(P:Program)(orc:Orc)(ops:Array Oper):List Nat ->List (Nat×Tx) ->St ->(List (Nat×Tx) ->St ->Option (T R)) ->Option (T R)
 |[],tr,s,k=>k tr s|i::rest,tr,s,k=>Ye P orc ops i s fun a s'=>opsK P orc ops rest (tr++[(i,a)]) s' k
def mask(acc:List Nat)(o:Oper):Nat:=o.after.toList.foldl (fun s e=>bif Region.binds .any e then s|||(2^e.on|||acc.getD e.on 0)else s) 0
def Ky(l:List Oper)(acc:List Nat):List Nat:=match l with
 |[]=>acc|o::r=>Ky r (acc++[mask acc o])
def Lu(x y:Foot):Bool:=disj x.wr y.rd&&disj x.wr y.wr&&disj x.rd y.wr
def eqD{J:Type}(a b:J):Bool:= @decide (a=b) (Classical.propDecidable _)
theorem AfG{J:Type}{a b:J}:eqD a b=true↔a=b:=by unfold eqD;simp
def Aed(l:Do)(u:Ups):Option AV:=match l with
 | .load h sz i off n ag=>Gl (A9 u []) h sz i off n ag|_=>none
def atL(l:Do)(u:Ups):Bool:=match l with
 | .load h _ _ _ _ _=>u.any fun p=>Nat.beq p.1 h
 |_=>false
def Afc:Value ->Bool
 | .slice none 0 0=>true|_=>false
theorem Uo{v:Value}(h:Afc v=true):v= .slice none 0 0:=by
 unfold Afc at h;split at h
 ·rfl
 ·cases h
def AhT(a:Option AV)(v:AV):Bool:=match a,v with
 |some (.c (.row h s n)), .c (.row h' s' n')=>Nat.beq h h'&&(Nat.beq s s'&&Nat.beq n n')|some (.c (.d (.v x))), .c (.d (.v y))=>(Afc x&&Afc y)||eqD x y|x,y=>eqD x (some y)
theorem AhS{a:Option AV}{v:AV}(h:AhT a v=true):a=some v:=by
 unfold AhT at h;split at h
 ·simp only[zd]at h;rw[zg h.1,zg h.2.1,zg h.2.2]
 ·simp only[Bool.or_eq_true,zd]at h;rcases h with h|h
  ·rw[Uo h.1,Uo h.2]
  ·rw[AfG.1 h]
 ·exact AfG.1 h
def AhJ(x y:Tx):Bool:=match x.lo with
 |some (l,v)=>x.u.isEmpty&&atL l y.u&&AhT (Aed l y.u) v|none=>false
def Aff(ops:Array Oper)(x y:Nat×Tx):Bool:=
 match ops[x.1]?,ops[y.1]? with
 |some o,some p=>o.apart ops p&&Lu x.2.ft y.2.ft|_,_=>false
def Lv(ops:Array Oper)(x y:Nat×Tx):Bool:=
 match ops[x.1]?,ops[y.1]? with
 |some o,some p=>o.apart ops p&&(Lu x.2.ft y.2.ft||AhJ x.2 y.2)|_,_=>false
def Jo(ops:Array Oper)(ms:List Nat):List (Nat×Tx) ->Bool
 |[]=>true|x::r=>r.all (fun y=>(ms.getD y.1 0).testBit x.1||Aff ops x y)&&Jo ops ms r
def B1(ops:Array Oper)(ms:List Nat):List (Nat×Tx) ->Bool
 |[]=>true|x::r=>r.all (fun y=>(ms.getD y.1 0).testBit x.1||Lv ops x y)&&B1 ops ms r
def AlG{R:Type}(x y:Tx)(k:Option (T R)):Option (T R):=match x.lo with
 |some (l,v)=>bif x.u.isEmpty&&atL l y.u then(bif AhT (Aed l y.u) v then k else none)else none|none=>none
def AlY{R:Type}(ops:Array Oper)(x y:Nat×Tx)(k:Option (T R)):Option (T R):=
 match ops[x.1]?,ops[y.1]? with
 |some o,some p=>bif o.apart ops p then(bif Lu x.2.ft y.2.ft then k else AlG x.2 y.2 k)else none|_,_=>none
def AdY{R:Type}(ops:Array Oper)(ms:List Nat)(x:Nat×Tx):List (Nat×Tx) ->Option (T R) ->Option (T R)
 |[],k=>k|y::r,k=>bif(ms.getD y.1 0).testBit x.1 then AdY ops ms x r k else AlY ops x y (AdY ops ms x r k)
def Aax{R:Type}(ops:Array Oper)(ms:List Nat):List (Nat×Tx) ->Option (T R) ->Option (T R)
 |[],k=>k|x::r,k=>AdY ops ms x r (Aax ops ms r k)
theorem AhK{R:Type}(x y:Tx)(k:Option (T R)):AlG x y k=bif AhJ x y then k else none:=by
 unfold AlG AhJ;cases x.lo with
 |none=>rfl|some p=>
  obtain⟨l,v⟩:=p;simp only;cases(x.u.isEmpty&&atL l y.u)<;>simp
theorem Aia{R:Type}(ops:Array Oper)(x y:Nat×Tx)(k:Option (T R)):AlY ops x y k=bif Lv ops x y then k else none:=by
 unfold AlY Lv;cases ops[x.1]? with
 |none=>rfl|some o=>
  cases ops[y.1]? with
  |none=>rfl|some p=>
   simp only[AhK];cases o.apart ops p<;>cases Lu x.2.ft y.2.ft<;>simp
theorem Aao{R:Type}(ops:Array Oper)(ms:List Nat)(x:Nat×Tx): ∀(r:List (Nat×Tx)) (k:Option (T R)),AdY ops ms x r k=bif r.all (fun y=>(ms.getD y.1 0).testBit x.1||Lv ops x y)then k else none
 |[],k=>rfl|y::r,k=>by
  simp only[AdY,Aia,Aao ops ms x r k,List.all_cons];cases(ms.getD y.1 0).testBit x.1<;>cases Lv ops x y<;>simp
theorem V8{R:Type}(ops:Array Oper)(ms:List Nat): ∀(tr:List (Nat×Tx)) (k:Option (T R)),Aax ops ms tr k=bif B1 ops ms tr then k else none
 |[],k=>rfl|x::r,k=>by
  simp only[Aax,Aao,V8 ops ms r k,B1];cases r.all (fun y=>(ms.getD y.1 0).testBit x.1||Lv ops x y)<;>simp
theorem Afe{ops:Array Oper}{x y:Nat×Tx}(h:Aff ops x y=true):Lv ops x y=true:=by
 unfold Aff at h;unfold Lv;split at h
 ·rename_i o p h1 h2;simp only[zd]at h⊢;exact⟨h.1,by rw[h.2];rfl⟩
 ·cases h
theorem Pn{ops:Array Oper}{ms:List Nat}: ∀{tr:List (Nat×Tx)},Jo ops ms tr=true ->B1 ops ms tr=true
 |[],_=>rfl|x::r,h=>by
  simp only[Jo,B1,zd,List.all_eq_true]at h⊢;refine⟨fun y hy=> ?_,Pn h.2⟩;have:=h.1 y hy;simp only[Bool.or_eq_true]at this⊢;exact this.imp id Afe
def Db(ops:Array Oper):Bool:=ops.toList.zipIdx.all fun p=>p.1.after.toList.all fun e=> !Region.binds .any e||decide (e.on<p.2)
def Y9{R:Type}(draw:Bool)(P:Program)(ops:Array Oper)(tr:List (Nat×Tx))(k:Option (T R)):Option (T R):=
 bif !draw||(Jo ops (Ky ops.toList []) tr&&Db ops&&P.follows .mixedOrders)then k
 else bif Db ops&&P.follows .mixedOrders then Aax ops (Ky ops.toList []) tr k else none
theorem U0{R:Type}(draw:Bool)(P:Program)(ops:Array Oper)(tr:List (Nat×Tx))(k:Option (T R)):
  Y9 draw P ops tr k=bif !draw||(B1 ops (Ky ops.toList []) tr&&Db ops&&P.follows .mixedOrders)then k else none:=by
 unfold Y9;rw[V8];cases draw with
 |false=>rfl|true=>
  cases hc:Jo ops (Ky ops.toList []) tr with
  |true=>rw[Pn hc];cases Db ops<;>cases P.follows .mixedOrders<;>rfl|false=>cases B1 ops (Ky ops.toList []) tr<;>cases Db ops<;>cases P.follows .mixedOrders<;>rfl
inductive Out where
 |norm|exit (id:Nat)|goto (l:Nat)|ret
structure Note where
 keep:List Nat
 own:List (Nat×Nat×Nat×TypeId)
abbrev Ann:=Nat ->Option Note
def Ul(keep:List Nat):Nat ->List AV ->List AV
 |_,[]=>[]|i,x::r=>(bif keep.contains i then x else .u)::Ul keep (i+1) r
def ownC(H:Hp)(h sz:Nat)(t:TypeId):C ->Option (C×Ups)
 | .d (.v (.slice none 0 0))=>bif Nat.blt 0 sz then some (.row h sz 0,[(h, .row 0 (fun _=>[]) sz t)])else none
 | .row k sz' len=>match look H k with
  |some (.row ..)=>some (.row k sz' len,[])|some (.cells cs t')=>bif Nat.beq sz' sz&&Nat.beq t' t then(match frzL H 400 (cs.take (len*sz))with
   |some (ds,ks)=>bif Nat.beq ds.length (len*sz)&& !(ks.contains k)&&Nat.blt 0 sz then some (.row h sz len,(h, .row len (Ae ds sz) sz t)::Fm (k::ks))else none|none=>none)else none
  |_=>none
 |_=>none
def cutC(H:Hp)(h:Nat):C ->Option (C×Ups)
 | .row k z len=>match look H k with
  |some (.cells cs t)=>some (.row k z len,[(k, .cells (cs.take (len*z)) t)])|some (.row _ f z' t)=>some (.row h z len,(h, .row len f z' t)::Fm [k])|_=>none
 | .d (.v (.slice none 0 0))=>some (.d (.v (.slice none 0 0)),[])|_=>none
def frzC(H:Hp)(c:C):Option (C×Ups):=match frz H 400 c with
 |some (x,ks)=>some (.d x,Fm ks)|none=>none
def AmC(H:Hp):C ->Option (C×Ups)
 | .ip l=>some (.ip l,[])| .ptr h 0=>match look H h with
  |some (.cells cs _)=>(match frzL H 400 cs with
   |some (ds,ks)=>some (.ip ds,Fm (h::ks))|none=>none)
  |_=>none
 |_=>none
def Aeq(H:Hp)(h sz:Nat)(t:TypeId)(c:C):Option (C×Ups):=bif Nat.beq sz 0 then cutC H h c else bif Nat.beq sz 1000 then frzC H c else ownC H h sz t c
def Aer(s:St)(h i sz:Nat)(t:TypeId):Option St:=
 match look s.H h with
 |some (.cells cs t')=>(match cs[i]? with
  |some c=>(match Aeq s.H s.nm sz t c with
   |some (c',u)=>bif(u.map (·.1)).contains h then none else some ⟨s.F,ins h (.cells (cs.set i c') t') (A9 u s.H),s.nm+1⟩|none=>none)
  |none=>none)
 |_=>none
def Aib(s:St)(h i j sz:Nat)(t:TypeId):Option St:=
 match look s.H h with
 |some (.cells cs _)=>(match cs[i]? with
  |some (.row k _ _)=>(match look s.H k with
   |some (.cells cs' _)=>bif Nat.blt j cs'.length then Aer s k j sz t else some s|_=>some s)
  |_=>some s)
 |_=>none
def Ym(s:St)(x:Nat×Nat×Nat×TypeId):Option St:=
 match x with
 |(slot,off,sz,t)=>bif Nat.beq sz 2000 then(match s.F.getD slot .u with
     | .c c=>(match AmC s.H c with
      |some (c',u)=>some ⟨s.F.set slot (.c c'),A9 u s.H,s.nm+1⟩|none=>none)
     |_=>none)else match s.F.getD slot .u with
  | .c (.ptr h o)=>bif Nat.ble 1000 off then Aib s h (o+(off -1000)/100) ((off -1000)%100) sz t else Aer s h (o+off) sz t| .c (.fn _ (.ptr h o::_) _)=>bif Nat.ble 1000 off then Aib s h (o+(off -1000)/100) ((off -1000)%100) sz t else Aer s h (o+off) sz t| .c c=>(match Aeq s.H s.nm sz t c with
   |some (c',u)=>some ⟨s.F.set slot (.c c'),A9 u s.H,s.nm+1⟩|none=>none)
  | .agg cs=>(match cs[off]? with
   |some c=>(match Aeq s.H s.nm sz t c with
    |some (c',u)=>some ⟨s.F.set slot (.agg (cs.set off c')),A9 u s.H,s.nm+1⟩|none=>none)
   |none=>none)
  |_=>none
def We:List (Nat×Nat×Nat×TypeId) ->St ->Option St
 |[],s=>some s|x::r,s=>match Ym s x with|some s'=>We r s'|none=>none
def ApE(H:Hp)(h:Nat):Bool:=match look H h with
 |some .dead=>false|some _=>true|none=>false
def newL(k0:Nat)(H:Hp)(roots:List Nat):List Nat:=(AbU Aco H (List.range k0++roots) []).filter fun h=>Nat.ble k0 h&&ApE H h
def newN(k0:Nat)(L:List Nat)(h:Nat):Option Nat:=bif Nat.blt h k0 then some h else D5 h k0 L
def Km(k0:Nat)(H:Hp)(L:List Nat):Hp:=Tt H (newN k0 L) 0 (List.range k0++L)
def Aph(k0:Nat)(s:St):St:=
 let L:=newL k0 s.H (s.F.flatMap Ev)
 ⟨s.F.map (renA (newN k0 L)),Km k0 s.H L,k0+L.length⟩
def trim(k0:Nat)(note:Option Note)(s:St):Option St:=match note with
 |none=>some s|some n=>match We n.own s with
  |some s'=>some (Aph k0 ⟨Ul n.keep 0 s'.F,s'.H,s'.nm⟩)|none=>none
def E4{R:Type}(k0:Nat)(note:Option Note)(body:St ->(Out ->St ->Option (T R)) ->Option (T R)):Nat ->St ->(Out ->St ->Option (T R)) ->Option (T R)
 |0,_,_=>none|n+1,s,k=>body s fun o s'=>match o with
  | .norm=>(match trim k0 note s' with
   |none=>none|some s0=>E4 k0 note body n s0 k)
  | .exit id=>k (.exit id) s'| .goto l=>k (.goto l) s'| .ret=>k .ret s'
def Ss:Op ->Bool
 | .store _ _ (.const (.bool _))=>true|_=>false
def F8(ops:Array Oper):Bool:=match ops.toList with
 |[o0,o1,o2,o3]=>Ss o1.op&&Ss o2.op&&o0.after.toList.all (fun e=> !Region.binds .any e)&&
  o1.after.toList.any (fun e=>Nat.beq e.on 0&&Region.binds .any e)&&o1.after.toList.all (fun e=>Nat.beq e.on 0|| !Region.binds .any e)&&
  o2.after.toList.any (fun e=>Nat.beq e.on 0&&Region.binds .any e)&&o2.after.toList.all (fun e=>Nat.beq e.on 0|| !Region.binds .any e)&&
  o3.after.toList.any (fun e=>Nat.beq e.on 1&&Region.binds .any e)&&o3.after.toList.any (fun e=>Nat.beq e.on 2&&Region.binds .any e)&&o3.after.toList.all (fun e=>Nat.blt e.on 3|| !Region.binds .any e)
 |_=>false
def Er{R:Type}(P:Program)(orc:Orc)(ops:Array Oper)(draw:Bool)(s:St)(k:Out ->St ->Option (T R)):Option (T R):=
 bif draw&&F8 ops then
  bif P.follows .mixedOrders then
   Ye P orc ops 0 s fun _ s1=>(match opsK P orc ops [1,2,3] [] s1 (fun _ s'=>k .norm ⟨s'.F,s'.H,s.nm+16*ops.size⟩),opsK P orc ops [2,1,3] [] s1 (fun _ s'=>k .norm ⟨s'.F,s'.H,s.nm+16*ops.size⟩)with
   |some x,some y=>some (.node x y)|_,_=>none)else none
 else
  opsK P orc ops (List.range ops.size) [] s fun tr s'=>
   Y9 draw P ops tr (k .norm ⟨s'.F,s'.H,s.nm+16*ops.size⟩)
def B2:Code ->Option Nat
 | .region id _ _=>some id| .seq a b=>match B2 a with|some i=>some i|none=>B2 b
 | .block _ c=>B2 c| .loop c=>B2 c|_=>none
def Dg(l:Nat):Code ->Bool
 | .seq a b=>Dg l a||Dg l b| .label m=>m==l|_=>false
def Wv{R:Type}(k:St ->Option (T R)):Out ->St ->Option (T R):=fun o s=>match o with
 | .norm=>k s|_=>none
def Aiq{R:Type}(k:St ->Option (T R)):Out ->St ->Option (T R):=fun o s=>match o with
 | .ret=>k s|_=>none
def evK{R:Type}(P:Program)(orc:Orc)(ann:Ann)(k0 n:Nat):Code ->Option Nat ->St ->(Out ->St ->Option (T R)) ->Option (T R)
 | .skip,none,s,k=>k .norm s| .region id ops draw,none,s,k=>(match ann (id+100000)with
  |none=>Er P orc ops draw s k|some nt=>(match trim k0 (some nt) s with
   |none=>none|some s0=>E4 k0 ((B2 (.region id ops draw)).bind ann) (fun s' k'=>Er P orc ops draw s' (Wv fun s''=>k' .ret s'')) n s0 (Aiq fun s''=>k .norm s'')))
 | .seq a b,none,s,k=>evK P orc ann k0 n a none s fun o s'=>match o with
  | .norm=>evK P orc ann k0 n b none s' k| .exit id=>k (.exit id) s'| .goto l=>k (.goto l) s'| .ret=>k .ret s'
 | .seq a b,some l,s,k=>bif Dg l a then evK P orc ann k0 n a (some l) s fun o s'=>(match o with
  | .norm=>evK P orc ann k0 n b none s' k| .exit id=>k (.exit id) s'| .goto l=>k (.goto l) s'| .ret=>k .ret s')
  else evK P orc ann k0 n b (some l) s k
 | .cond c x y,none,s,k=>match opA s.F c with
  | .c (.d (.v (.bool b)))=>bif b then evK P orc ann k0 n x none s k else evK P orc ann k0 n y none s k|_=>none
 | .block id c,none,s,k=>evK P orc ann k0 n c none s fun o s'=>match o with
  | .norm=>k .norm s'| .exit j=>bif j==id then k .norm s' else k (.exit j) s'| .goto l=>k (.goto l) s'| .ret=>k .ret s'
 | .loop c,none,s,k=>(match trim k0 ((B2 c).bind ann) s with
  |none=>none|some s0=>E4 k0 ((B2 c).bind ann) (fun s' k'=>evK P orc ann k0 n c none s' k') n s0 k)
 | .scope c,none,s,k=>evK P orc ann k0 n c none s fun o s'=>match o with
  | .goto l=>(match findLabel c l with
   |some rest=>(match trim k0 ((B2 rest).bind ann) s' with
    |none=>none|some s0=>E4 k0 ((B2 rest).bind ann) (fun s' k'=>evK P orc ann k0 n c (some l) s' fun o s''=>match o with
     | .goto m=>bif m==l then k' .norm s'' else none| .norm=>k' (.goto l) s''| .exit id=>k' (.exit id) s''| .ret=>k' .ret s'') n s0 fun o s''=>match o with
      | .goto _=>k .norm s''| .norm=>none| .exit id=>k (.exit id) s''| .ret=>k .ret s'')
   |none=>none)
  | .norm=>k .norm s'| .exit id=>k (.exit id) s'| .ret=>k .ret s'
 | .label _,none,s,k=>k .norm s| .label m,some l,s,k=>bif m==l then k .norm s else none| .goto l,none,s,k=>k (.goto l) s| .exit id,none,s,k=>k (.exit id) s| .ret,none,s,k=>k .ret s|_,_,_,_=>none
def G2(P:Program)(fn:Func)(s:St):Option (List (Bool×List C)):=
 fn.results.toList.foldr (fun r acc=>match acc with
  |none=>none|some l=>match r with
   | .tmp t=>(match s.F.getD t .u with
    | .c x=>some ((false,[x])::l)| .agg cs=>some ((true,cs)::l)|_=>none)
   | .cell a t=>(match s.F.getD a .u,aggT P t,Bm P t with
    | .c (.ptr h off),some ag,some n=>(match Gl s.H h 0 0 off (bif ag then n else 1) ag with
     |some (.c x)=>some ((false,[x])::l)|some (.agg cs)=>some ((true,cs)::l)|_=>none)
    |_,_,_=>none)) (some [])
def Fj:List (Bool×List C) ->Option AV
 |[(true,cs)]=>some (.agg cs)|[(false,[c])]=>some (.c c)|[_]=>none|l=>some (.tup l)
def endK{R:Type}(P:Program)(fn:Func)(k0:Nat)(k:AV ->Hp ->Option (T R)):Out ->St ->Option (T R):=fun o s=>match o with
 | .exit _=>none| .goto _=>none|_=>match G2 P fn s with
  |some l=>(match Fj l with
   |some x=>let L:=newL k0 s.H (Ev x);k (renA (newN k0 L) x) (Km k0 s.H L)|none=>none)
  |none=>none
def W6{R:Type}(P:Program)(orc:Orc)(ann:Ann)(n:Nat)(fn:Func)(c:Code)(args:List AV)(H:Hp)(k:AV ->Hp ->Option (T R)):Option (T R):=
 evK P orc ann H.length n c none ⟨args++List.replicate (fn.ntmps -args.length) (.tup []),H,H.length⟩ (endK P fn H.length k)
def W7(P:Program)(orc:Orc)(ann:Ann)(n:Nat)(fn:Func)(c:Code)(args:List AV)(H:Hp):Option (T (AV×Hp)):=
 W6 P orc ann n fn c args H fun x H'=>some (.leaf (x,H'))
def seqN:Nat ->Hp ->Bool
 |_,[]=>true|i,(h,_)::r=>Nat.beq h i&&seqN (i+1) r
def Orc.cons(f0:FuncId)(g:(R:Type) ->List AV ->Hp ->(AV ->Hp ->Option (T R)) ->Option (T R))(rest:Orc):Orc:=fun R f args H k=>bif Nat.beq f f0 then g R args H k else rest R f args H k
def Orc.nil:Orc:=fun _ _ _ _ _=>none
def Ac(f:Func):Code:=match f.body with|some c=>c|none=> .skip
abbrev na:Ann:=fun _=>none
section
variable {O:Bt}{I:Im}{w:World}{P:Program}{H:Hp}
theorem Qi{v:Value}{d:D}(h:absD v=some d):RepD w I d v:=by
 unfold absD at h;split at h<;>first|(simp at h;subst h;exact .v _ rfl)|simp at h
theorem Rx: ∀{vs:List Value} {cs:List C},AcE vs=some cs ->RepCs O w I cs vs
 |[],cs,h=>by simp[AcE]at h;subst h;exact⟨rfl,fun i c v h=>by simp at h⟩
 |x::r,cs,h=>by
  simp only[AcE]at h;split at h
  ·rename_i d l hd hl;simp at h;subst h;have ih:=Rx hl;refine⟨by simp[ih.1],fun i c v h1 h2=> ?_⟩;cases i with
   |zero=>simp at h1 h2;subst h1 h2;exact Qi hd|succ i=>simp at h1 h2;exact ih.2 i c v h1 h2
  ·simp at h
theorem Abq(v:Value):RepA O w I (absA v) v:=by
 unfold absA;split
 ·rename_i cs;split
  ·rename_i l hl;exact⟨cs,rfl,Rx hl⟩
  ·trivial
 ·split
  ·rename_i d hd;exact Qi (d:=d) hd
  ·trivial
theorem Afr{g k:Nat}{v:Value}: ∀(l:List (Nat×Nat×Option Value)),gAt l g k=some v ->(g,k,some v)∈l
 |[],h=>by simp[gAt]at h|(b,j,x)::r,h=>by
  simp only[gAt]at h;cases hb:(Nat.beq b g&&Nat.beq j k)with
  |true=>
   rw[hb]at h;simp only[zd]at hb;have e1:=zg hb.1;have e2:=zg hb.2;simp only[za]at h;subst e1 e2 h;exact List.mem_cons_self ..
  |false=>rw[hb]at h;exact List.mem_cons_of_mem _ (Afr r h)
theorem Afq(hG:Glob I w)(g:Nat): ∀(n j i:Nat) (d:D),(gGo g n j)[i]? =some d -> ∃x,w.cell? ⟨g,j+i,none⟩=some x/\I g (j+i)/\RepD w I d x
 |0,j,i,d,h=>by simp[gGo]at h|n+1,j,i,d,h=>by
  simp only[gGo]at h;split at h
  ·rename_i d0 hd;cases hv:gAt Wu g j with
   |none=>rw[hv]at hd;simp at hd|some v=>
    rw[hv]at hd;obtain⟨h1,h2⟩:=hG _ (Afr _ hv);cases i with
    |zero=>simp at h;subst h;exact⟨v,h2,h1,Qi hd⟩|succ i=>
     have:=Afq hG g n (j+1) i d (by simpa using h);rwa [show j+1+i=j+(i+1)by omega]at this
  ·simp at h
theorem AmB(hG:Glob I w)(g:Nat):RepA O w I (gOp g) (.pointer (some ⟨g,0,none⟩)):=by
 unfold gOp;split
 ·trivial
 ·rename_i d r hd;refine⟨g,0,rfl,fun j x hx=> ?_⟩;have:=Afq (w:=w) (I:=I) hG g 64 0 j x (by rw[hd];exact hx);simpa using this
theorem Ms(hG:Glob I w){F:List AV}{a:Act}(h:RepF O w I F a.tmps)(x:Operand):RepA O w I (opA F x) (a.eval x):=by
 cases x with
 |tmp t=>
  simp only[opA,Act.eval];by_cases ht:t<F.length
  ·have ht':t<a.tmps.size:=h.1▸ht;have:=h.2 t F[t] a.tmps[t] (by simp[ht]) (by simp[ht']);simpa[List.getD,Array.getD,ht,ht']using this
  ·simp[List.getD,List.getElem?_eq_none (Nat.le_of_not_lt ht)];trivial
 |const v=>exact Abq v|global g=>exact AmB hG g|func f=>exact .v _ rfl
theorem Qk(hG:Glob I w){ops:Array Oper}{F:List AV}{a:Act}{o:Oper}{b:Bool}(h:RepF O w I F a.tmps)(hw:Ep ops F o=some b):Region.wanted o (yielded ops a.tmps)=b:=by
 unfold Ep at hw;unfold Region.wanted;split at hw
 ·rename_i hg;simp at hw;subst hw;simp[hg]
 ·rename_i j want hg;simp only[hg];split at hw
  ·rename_i hd;simp at hw;subst hw;simp[yielded,hd]
  ·rename_i t hd;have hy:=Ms hG h (.tmp t);simp only[opA]at hy;have hev:a.eval (.tmp t)=a.tmps.getD t undef:=rfl;split at hw
   ·rename_i x hx;rw[hx]at hy;have hlt:t<F.length:=by
     rcases Nat.lt_or_ge t F.length with hl|hl
     ·exact hl
     ·simp[List.getD,List.getElem?_eq_none hl]at hx
    have hlt':t<a.tmps.size:=h.1▸hlt;have he:a.eval (.tmp t)= .bool x:=RepD.v_eq hy;simp at hw;subst hw;have e2:a.tmps[t]? =some (.bool x):=by
     rw[hev]at he;simp_all [Array.getD]
    simp only[yielded,hd,Option.bind_some,e2];cases want<;>cases x<;>rfl
   ·rename_i hx;rw[hx]at hy;have hlt:t<F.length:=by
     rcases Nat.lt_or_ge t F.length with hl|hl
     ·exact hl
     ·simp[List.getD,List.getElem?_eq_none hl]at hx
    have hlt':t<a.tmps.size:=h.1▸hlt;obtain⟨vs,hv,hl,_⟩:=hy;simp at hw;subst hw;have e2:a.tmps[t]? =some (.tuple vs):=by
     rw[hev]at hv;simp_all [Array.getD]
    simp[yielded,hd,e2]
   ·simp at hw
theorem Bn{t:TypeId}{n:Nat}(h:Bm P t=some n)(w:World):(sizeOf t).run P w= .ok n w:=by
 unfold Bm at h;cases hi:P.info? t with
 |none=>simp[hi]at h|some i=>simp[hi]at h;simp[sizeOf,typeInfo,hi,h]
theorem J6{t:TypeId}{b:Bool}(h:aggT P t=some b)(w:World):(isAgg t).run P w= .ok b w:=by
 unfold aggT at h;unfold isAgg;cases hu:P.underlying t with
 |none=>simp[hu]at h|some d=>simp only[hu]at h;cases d<;>simp at h<;>subst h<;>simp[run_underlying hu]
theorem K6{x:AV}{v:Value}{cs:List C}(hc:cellsOf x=some cs)(h:RepA O w I x v):RepCs O w I cs v.cells.toList:=by
 cases x with
 |c x=>
  simp[cellsOf]at hc;subst hc;have h1:=RepC.one h;have e:v.cells= #[v]:=by cases v<;>first|rfl|simp[Value.oneCell']at h1
  rw[e];refine⟨rfl,fun i c y h1 h2=> ?_⟩;cases i with
  |zero=>simp at h1 h2;subst h1 h2;exact h|succ i=>simp at h1
 |agg l=>simp[cellsOf]at hc;subst hc;obtain⟨vs,rfl,hr⟩:=h;exact hr
 |tup ps=>simp[cellsOf]at hc|u=>simp[cellsOf]at hc
theorem RepCs.drop{cs:List C}{vs:List Value}(h:RepCs O w I cs vs)(n:Nat):RepCs O w I (cs.drop n) (vs.drop n):=
 ⟨by simp[h.1],fun i c v h1 h2=>h.2 (n+i) c v (by simpa using h1) (by simpa using h2)⟩
theorem RepCs.take{cs:List C}{vs:List Value}(h:RepCs O w I cs vs)(n:Nat):RepCs O w I (cs.take n) (vs.take n):=by
 refine⟨by simp[h.1],fun i c v h1 h2=> ?_⟩;rw[List.getElem?_take]at h1 h2;split at h1
 ·rename_i hi;simp only[hi,if_true]at h2;exact h.2 i c v h1 h2
 ·simp at h1
theorem RepCs.append{cs ds:List C}{vs us:List Value}(h:RepCs O w I cs vs)(k:RepCs O w I ds us):RepCs O w I (cs++ds) (vs++us):=by
 refine⟨by simp[h.1,k.1],fun i c v h1 h2=> ?_⟩;rw[List.getElem?_append]at h1 h2;split at h1
 ·rename_i hi;rw[if_pos (h.1▸hi)]at h2;exact h.2 i c v h1 h2
 ·rename_i hi;rw[if_neg (h.1▸hi)]at h2;exact k.2 (i -cs.length) c v h1 (by rw[h.1];exact h2)
theorem RepCs.splice{cs new:List C}{vs us:List Value}(h:RepCs O w I cs vs)(k:RepCs O w I new us)(off:Nat):
  RepCs O w I (splice cs off new) (vs.take off++us++vs.drop (off+us.length)):=by
 have:=((h.take off).append k).append (h.drop (off+new.length));unfold Eb.splice;rw[k.1]at this;rw[k.1];exact this
theorem Wk{cs:List C}{vs:List Value}{off n:Nat}{ag:Bool}{x:AV}(h:RepCs O w I cs vs)(hl:Ke cs off n ag=some x):
  off+n<=vs.length/\(if ag then RepA O w I x (.agg ((vs.drop off).take n).toArray)else ∃v,vs[off]? =some v/\RepA O w I x v):=by
 unfold Ke at hl;split at hl
 ·rename_i hle;refine⟨h.1▸hle, ?_⟩;cases ag with
  |true=>simp at hl;subst hl;exact⟨_,rfl,(h.drop off).take n⟩|false=>
   simp at hl;obtain⟨c,hc,rfl⟩:=hl;have hlt:off<vs.length:=by
    have:=(List.getElem?_eq_some_iff.1 hc).1;rw[h.1]at this;exact this
   simp only[Bool.false_eq_true,if_false];exact⟨vs[off],by simp[hlt],h.2 off c _ hc (by simp[hlt])⟩
 ·simp at hl
theorem Cx(b off n:Nat):(⟨b,off,none⟩:Addr).add n=⟨b,off+n,none⟩:=by unfold Addr.add;split<;>simp_all
theorem F4{t:TypeId}{ag:Bool}{n b off:Nat}{vs:List Value}{x:AV}{cs:List C}(hag:aggT P t=some ag)(hsz:Bm P t=some n)
  (hcell: ∀j v,vs[j]? =some v ->w.cell? ⟨b,off+j,none⟩=some v) (h:RepCs O w I cs vs) {o:Nat} (hl:Ke cs o (bif ag then n else 1) ag=some x):
  ∃v,(loadVar t ⟨b,off+o,none⟩).run P w= .ok v w/\RepA O w I x v:=by
 obtain⟨hle,hx⟩:=Wk h hl;unfold loadVar;cases ag with
 |true=>
  simp only[za]at hle hx;simp only[if_true]at hx;refine⟨_, ?_,hx⟩;have hlen:((vs.drop o).take n).length=n:=by simp;omega
  have:=run_loadCells_list (P:=P) w ⟨b,off+o,none⟩ ((vs.drop o).take n) (fun j v hj=>by
   rw[Cx];rw[List.getElem?_take]at hj;split at hj
   ·rw[List.getElem?_drop]at hj;rw[Nat.add_assoc];exact hcell _ _ hj
   ·simp at hj)
  rw[hlen]at this;simp[J6 hag,Bn hsz,this]
 |false=>
  simp only[Bool.false_eq_true,if_false]at hx;obtain⟨v,hv,hr⟩:=hx;refine⟨v, ?_,hr⟩;have:=hcell o v hv;simp[J6 hag,this]
theorem Mg{b:Nat}{t:TypeId}{vs:Array Value}{fz:Nat×Nat}(hb:w.heap[b]? =some (.cells vs t fz))(j:Nat)(v:Value)(hj:vs.toList[j]? =some v):
  w.cell? ⟨b,j,none⟩=some v:=by
 simp only[World.cell?,hb];simpa using hj
end
section
variable {O O':Bt}{I I':Im}{w w':World}{P:Program}{H:Hp}
def Cn:Ups ->Nat ->Option Blk
 |[],_=>none|(h,b)::r,k=>match Cn r k with
  |some c=>some c|none=>if k=h then some b else none
theorem Cz: ∀(u:Ups) (H:Hp) (k:Nat),look (A9 u H) k=match Cn u k with|some b=>some b|none=>look H k
 |[],H,k=>rfl|(h,b)::r,H,k=>by
  simp only[A9,Cz r,Cn];cases Cn r k with
  |some c=>rfl|none=>
   simp only[Ud];split<;>rfl
theorem J9: ∀{u:Ups} {k:Nat},Cn u k=none↔k∉u.map (·.1)
 |[],k=>by simp[Cn]|(h,b)::r,k=>by
  have ih:= @J9 r k;simp only[Cn,List.map_cons,List.mem_cons,not_or];split
  ·rename_i c hc;have: ¬(k∉r.map (·.1)):=fun hn=>by rw[ih.2 hn]at hc;simp at hc
   simp at this⊢;intro _;exact this
  ·rename_i hc;have:=ih.1 hc;split
   ·rename_i e;simp[e]
   ·rename_i e;simp at this⊢;exact⟨e,this⟩
theorem Fk{ks:List Nat}{k:Nat}:Cn (Fm ks) k=if k∈ks then some .dead else none:=by
 induction ks with
 |nil=>simp[Fm,Cn]|cons a r ih=>
  have e:Fm (a::r)=(a, .dead)::Fm r:=rfl;rw[e];simp only[Cn,ih];by_cases h1:k∈r
  ·simp[h1]
  ·by_cases h2:k=a
   ·subst h2;simp[h1]
   ·simp[h1,h2]
theorem RepB.ne{h:Nat}{B:Blk}(hr:RepB O w I h B):O h≠ .free:=by
 intro e;cases B with
 |cells cs t=>obtain⟨b,vs,hb,_⟩:=hr;rw[e]at hb;cases hb
 |row n f sz t=>
  rcases hr.2 with⟨hb,_⟩|⟨b,vs,hb,_⟩<;>(rw[e]at hb;cases hb)
 |iter s pos=>obtain⟨b,hb,_⟩:=hr;rw[e]at hb;cases hb
 |map d v=>obtain⟨b,es,cl,hb,_⟩:=hr;rw[e]at hb;cases hb
 |dead=>have:O h= .dead:=hr;rw[e]at this;cases this
theorem RelH.free_iff(hr:RelH O H I w){h:Nat}:O h= .free↔look H h=none:=by
 constructor
 ·intro e;cases hl:look H h with
  |none=>rfl|some B=>exact absurd e (hr.blk h B hl).ne
 ·exact hr.dom h
theorem RepB.keep(k:Keep O I w O' I' w'){h:Nat}(hO:O' h=O h)(hb: ∀b,(O h).blk=some b ->w'.heap[b]? =w.heap[b]?){B:Blk}(hr:RepB O w I h B):RepB O' w' I' h B:=by
 cases B with
 |cells cs t=>
  obtain⟨b,vs,h1,h2,h3,h4⟩:=hr;exact⟨b,vs,hO.trans h1,by rw[hb b (by rw[h1];rfl)];exact h2,h3,fun i c v hc hv=>(h4 i c v hc hv).keep k⟩
 |row n f sz t=>
  obtain⟨h0,hr⟩:=hr;refine⟨h0, ?_⟩;rcases hr with⟨h1,h2⟩|⟨b,vs,h1,h2,h3,h4⟩
  ·exact .inl ⟨hO.trans h1,h2⟩
  ·exact .inr ⟨b,vs,hO.trans h1,by rw[hb b (by rw[h1];rfl)];exact h2,h3,fun i hi=>⟨(h4 i hi).1,fun j d hd=>by
    obtain⟨v,hv,hrd⟩:=(h4 i hi).2 j d hd;exact⟨v,hv,hrd.keep k.keepI k.cell⟩⟩⟩
 |iter s pos=>obtain⟨b,h1,h2⟩:=hr;exact⟨b,hO.trans h1,by rw[hb b (by rw[h1];rfl)];exact h2⟩
 |map kd l=>
  obtain⟨b,es,clock,h1,h2,h3⟩:=hr;exact⟨b,es,clock,hO.trans h1,by rw[hb b (by rw[h1];rfl)];exact h2,h3⟩
 |dead=>exact hO.trans hr
theorem RelH.step{u:Ups}(h:RelH O H I w)(hp:Place O' I' w')(k:Keep O I w O' I' w')
  (hoth: ∀x,Cn u x=none ->O' x=O x/\ ∀b,(O x).blk=some b ->w'.heap[b]? =w.heap[b]?)
  (hnew: ∀x B,Cn u x=some B ->RepB O' w' I' x B):RelH O' (A9 u H) I' w' where
 toPlace:=hp
 dom x hx:=by
  rw[Cz]at hx;split at hx
  ·simp at hx
  ·rename_i hu;rw[(hoth x hu).1];exact h.dom x hx
 blk x B hx:=by
  rw[Cz]at hx;split at hx
  ·rename_i b hu;simp at hx;subst hx;exact hnew x _ hu
  ·rename_i hu;exact(h.blk x B hx).keep k (hoth x hu).1 (hoth x hu).2
def Bp(O:Bt)(ks:List Nat):Bt:=fun h=>if h∈ks then .dead else O h
def Ce(O:Bt)(I:Im)(ks:List Nat):Im:=fun b o=>I b o\/ ∃k∈ks,(O k).blk=some b
theorem Co{ks:List Nat}{x b:Nat}(h:(Bp O ks x).blk=some b):x∉ks/\(O x).blk=some b:=by
 unfold Bp at h;split at h
 ·cases h
 ·rename_i hx;exact⟨hx,h⟩
theorem Place.kill(h:Place O I w)(ks:List Nat):Place (Bp O ks) (Ce O I ks) w where
 inj i j b hi hj:=h.inj i j b (Co hi).2 (Co hj).2
 lt x b hx:=h.lt x b (Co hx).2
 off x b o hx hi:=by
  obtain⟨hn,hb⟩:=Co hx;rcases hi with hi|⟨k,hk,hkb⟩
  ·exact h.off x b o hb hi
  ·exact hn (h.inj x k b hb hkb▸hk)
 old b o hi:=by
  rcases hi with hi|⟨k,_,hkb⟩
  ·exact h.old b o hi
  ·exact h.lt k b hkb
 gl:=h.gl.step (fun _ _ hi=> .inl hi) (fun _ _ _=>rfl)
theorem Mono.kill(O:Bt){ks:List Nat}(hks: ∀k∈ks,O k≠ .free):Mono O (Bp O ks):=fun x=>by
 unfold Bp;by_cases hx:x∈ks
 ·simp only[hx,if_true];cases e:O x<;>simp
 ·simp only[hx,if_false];cases e:O x<;>simp
theorem Keep.kill(O:Bt)(I:Im)(w:World){ks:List Nat}(hks: ∀k∈ks,O k≠ .free):Keep O I w (Bp O ks) (Ce O I ks) w:=
 ⟨.kill O hks,fun _ _ hi=> .inl hi,fun _ _ _=>rfl, .refl w⟩
theorem Ext.kill(O:Bt)(I:Im)(w:World)(ks:List Nat):Ext O I (Bp O ks) (Ce O I ks) w w where
 os:=rfl
 tape:=rfl
 output:=rfl
 size:=Nat.le_refl _
 block _ _ _:=rfl
 keepI _ _ hi:= .inl hi
 cell _ _ _:=rfl
 newI b o hi:=by
  rcases hi with hi|⟨k,_,hk⟩
  ·exact .inl hi
  ·exact .inr (.inr ⟨k,hk⟩)
 newB x b hx:= .inl ⟨x,(Co hx).2⟩
 shapes:= .refl w
theorem RelH.kill(h:RelH O H I w){ks:List Nat}(hks: ∀k∈ks,O k≠ .free):RelH (Bp O ks) (A9 (Fm ks) H) (Ce O I ks) w:=by
 refine h.step (h.toPlace.kill ks) (.kill O I w hks) (fun x hx=> ?_) (fun x B hx=> ?_)
 ·rw[Fk]at hx;split at hx
  ·simp at hx
  ·rename_i hn;exact⟨by simp[Bp,hn],fun _ _=>rfl⟩
 ·rw[Fk]at hx;split at hx
  ·rename_i hn;simp at hx;subst hx;show Bp O ks x= .dead;simp[Bp,hn]
  ·simp at hx
theorem Jr{J:Type}{l:List J}{sz i j:Nat}{d:J}(h:(Ae l sz i)[j]? =some d):j<sz/\l[i*sz+j]? =some d:=by
 unfold Ae at h;rw[List.getElem?_take]at h;split at h
 ·rename_i hj;rw[List.getElem?_drop]at h;exact⟨hj,h⟩
 ·simp at h
theorem Md{J:Type}{l:List J}{sz i n:Nat}(hl:l.length=n*sz)(hi:i<n):(Ae l sz i).length=sz:=by
 unfold Ae;rw[List.length_take,List.length_drop,hl];have:(i+1)*sz<=n*sz:=Nat.mul_le_mul_right sz hi;rw[Nat.succ_mul]at this;omega
def RepDs(w:World)(I:Im)(ds:List D)(vs:List Value):Prop:=ds.length=vs.length/\ ∀(i:Nat) d v,ds[i]? =some d ->vs[i]? =some v ->RepD w I d v
theorem RepDs.sl{ds:List D}{b off cap n sz:Nat}{vs:List Value}(h:RepDs w I ds vs)(hl:ds.length=n*sz)(hcap:n<=cap)
  (hc: ∀j v,j<n*sz ->vs[j]? =some v ->w.cell? ⟨b,off+j,none⟩=some v) (hi: ∀j,j<n*sz ->I b (off+j)):RepD w I (.sl sz n (Ae ds sz)) (.slice (some ⟨b,off,none⟩) n cap):=by
 have lt: ∀{i j:Nat} {d:D},(Ae ds sz i)[j]? =some d ->i*sz+j<n*sz:=fun{i j d} hd=>by
  have:=(List.getElem?_eq_some_iff.1 (Jr hd).2).1;omega
 have get: ∀{i j:Nat} {d:D},(Ae ds sz i)[j]? =some d ->vs[i*sz+j]? =some (vs.getD (i*sz+j) undef):=fun{i j d} hd=>by
  have:=lt hd;have hlt:i*sz+j<vs.length:=by rw[<-h.1,hl];exact this
  simp[List.getD,hlt]
 refine .sl n _ sz b off cap (fun i j=>vs.getD (i*sz+j) undef) hcap (fun i hi=>Md hl hi) (fun i j d _ hd=> ?_) (fun i j d _ hd=> ?_) (fun i j d _ hd=> ?_)
 ·rw[Nat.add_assoc];exact hc _ _ (lt hd) (get hd)
 ·rw[Nat.add_assoc];exact hi _ (lt hd)
 ·exact h.2 _ _ _ (Jr hd).2 (get hd)
mutual
theorem AaJ(hr:RelH O H I w): ∀(n:Nat) (c:C) (d:D) (ks:List Nat) (v:Value),frz H n c=some (d,ks) ->RepC O w I c v ->
  (∀k∈ks,O k≠ .free)/\ ∀I':Im,(∀b o,I b o ->I' b o) ->(∀k∈ks,∀b,(O k).blk=some b -> ∀o,I' b o) ->RepD w I' d v
 |0,c,d,ks,v,h,hc=>by simp[frz]at h|n+1,c,d,ks,v,h,hc=>by
  cases c with
  |d x=>
   simp[frz]at h;obtain⟨rfl,rfl⟩:=h;exact⟨fun k hk=>by simp at hk,fun I' hI _=>RepD.keep hI (fun _ _ _=>rfl) hc⟩
  |row h' sz len=>
   simp only[frz]at h;split at h
   ·rename_i m f sz' t hl;cases hs:Nat.beq sz sz' with
    |false=>simp[hs]at h|true=>
     have hs':=zg hs;subst hs';simp[hs]at h;obtain⟨rfl,rfl⟩:=h;have hB:=hr.blk h' _ hl;refine⟨fun k hk=>by simp at hk;subst hk;exact hB.ne,fun I' hI hk=> ?_⟩;obtain⟨hsz0,hB⟩:=hB;have hc:RowAt O w h' sz len v:=hc;rcases hc with⟨rfl,rfl,_⟩|⟨b,cap,rfl,hle,hd|⟨hb,hln,vs,t',fz,hheap,hsz⟩⟩
     ·exact .nil sz f
     ·rcases hB with⟨h1,_⟩|⟨b,vs,h1,_⟩<;>(rw[hd]at h1;cases h1)
     ·rcases hB with⟨h1,_⟩|⟨b',vs',h1,h2,h3,h4⟩
      ·rw[h1]at hb;cases hb
      ·have hbb:b'=b:=by rw[h1]at hb;simpa[Nst.blk]using hb
       subst hbb;have hlm:=hln _ _ h1;rw[h2]at hheap;simp at hheap;obtain⟨rfl,rfl,rfl⟩:=hheap;have hkb:=hk h' (by simp) b' hb;have get: ∀i j d,i<len ->(f i)[j]? =some d -> ∃v,vs'[i*sz+j]? =some v/\RepD w I d v:=fun i j d hi hd=>(h4 i (by omega)).2 j d hd
       refine .sl len f sz b' 0 cap (fun i j=>vs'.getD (i*sz+j) undef) hle (fun i hi=>(h4 i (by omega)).1) (fun i j d hi hd=> ?_) (fun i j d hi hd=>hkb _) (fun i j d hi hd=> ?_)
       ·obtain⟨v,hv,_⟩:=get i j d hi hd;have hlt:=(Array.getElem?_eq_some_iff.1 hv).1;rw[Nat.zero_add,Mg h2 (i*sz+j) v (by simpa using hv)];have e:=(Array.getElem?_eq_some_iff.1 hv).2;simp[Array.getD,hlt,e]
       ·obtain⟨v,hv,hrd⟩:=get i j d hi hd;have hlt:=(Array.getElem?_eq_some_iff.1 hv).1;have e:=(Array.getElem?_eq_some_iff.1 hv).2;have:vs'.getD (i*sz+j) undef=v:=by simp[Array.getD,hlt,e]
        rw[this];exact hrd.keep hI (fun _ _ _=>rfl)
   ·rename_i cs t hl;split at h
    ·rename_i ds ks' hds;cases hs:Nat.beq ds.length (len*sz)with
     |false=>simp[hs]at h|true=>
      have hs':=zg hs;simp[hs]at h;obtain⟨rfl,rfl⟩:=h;have hB:=hr.blk h' _ hl;have hne:=hB.ne;obtain⟨b,vs,hb,hheap,hcl,hcv⟩:=hB;have hc:RowAt O w h' sz len v:=hc;have hcs:RepCs O w I (cs.take (len*sz)) (vs.toList.take (cs.take (len*sz)).length):=by
       refine⟨by simp;omega,fun i c v h1 h2=> ?_⟩;rw[List.getElem?_take]at h1 h2;split at h1
       ·split at h2
        ·exact hcv i c v h1 (by simpa using h2)
        ·simp at h2
       ·simp at h1
      obtain⟨hks,hrd⟩:=F5 hr n _ ds ks' _ hds hcs;refine⟨fun k hk=> ?_,fun I' hI hk=> ?_⟩
      ·simp at hk;rcases hk with rfl|hk
       ·exact hne
       ·exact hks k hk
      ·have h5:=hrd I' hI (fun k hk'=>hk k (by simp[hk']));have hlen:=h5.1;rcases hc with⟨_,_,hd|⟨m,hm⟩⟩|⟨b',cap,rfl,hle,hd|⟨hb',hln,vs',t',fz,hheap',hsz⟩⟩
       ·rw[hb]at hd;cases hd
       ·rw[hb]at hm;cases hm
       ·rw[hb]at hd;cases hd
       ·have hbb:b=b':=by rw[hb]at hb';simpa[Nst.blk]using hb'
        subst hbb;rw[hheap]at hheap';simp at hheap';obtain⟨rfl,rfl,rfl⟩:=hheap';refine h5.sl hs' hle (fun j v hj hv=> ?_) (fun j _=>hk h' (by simp) b hb' _);rw[Nat.zero_add];rw[List.getElem?_take]at hv;split at hv
        ·exact Mg hheap j v hv
        ·simp at hv
    ·simp at h
   ·simp at h
  |ptr a b=>simp[frz]at h|ept a b c e=>simp[frz]at h|ip cs=>simp[frz]at h|fn f a b=>simp[frz]at h|mp h=>simp[frz]at h|u=>simp[frz]at h
theorem F5(hr:RelH O H I w): ∀(n:Nat) (cs:List C) (ds:List D) (ks:List Nat) (vs:List Value),frzL H n cs=some (ds,ks) ->RepCs O w I cs vs ->
  (∀k∈ks,O k≠ .free)/\ ∀I':Im,(∀b o,I b o ->I' b o) ->(∀k∈ks,∀b,(O k).blk=some b -> ∀o,I' b o) ->RepDs w I' ds vs
 |0,cs,ds,ks,vs,h,hc=>by simp[frzL]at h|n+1,[],ds,ks,vs,h,hc=>by
  simp[frzL]at h;obtain⟨rfl,rfl⟩:=h;exact⟨fun k hk=>by simp at hk,fun I' _ _=>⟨hc.1,fun i d v hd=>by simp at hd⟩⟩
 |n+1,c::r,ds,ks,vs,h,hc=>by
  simp only[frzL]at h;split at h
  ·rename_i d k1 ds' k2 h1 h2;simp at h;obtain⟨rfl,rfl⟩:=h;match vs,hc.1 with
   |v::vr,hlen=>
    obtain⟨a1,a2⟩:=AaJ hr n c d k1 v h1 (hc.2 0 c v rfl rfl);obtain⟨b1,b2⟩:=F5 hr n r ds' k2 vr h2 ⟨by simpa using hlen,fun i c v e1 e2=>hc.2 (i+1) c v e1 e2⟩;refine⟨fun k hk=>(List.mem_append.1 hk).elim (a1 k) (b1 k),fun I' hI hk=> ?_⟩;have c1:=a2 I' hI (fun k hk'=>hk k (by simp[hk']));have c2:=b2 I' hI (fun k hk'=>hk k (by simp[hk']));refine⟨by simp[c2.1],fun i d' v' e1 e2=> ?_⟩;cases i with
    |zero=>simp at e1 e2;subst e1 e2;exact c1|succ i=>exact c2.2 i d' v' (by simpa using e1) (by simpa using e2)
  ·simp at h
end
end
section
variable {O O':Bt}{I I':Im}{w w':World}{P:Program}{H:Hp}
def setB(O:Bt)(h:Nat)(x:Nst):Bt:=fun k=>if k=h then x else O k
theorem Ak(O:Bt)(h:Nat)(x:Nst):setB O h x h=x:=by simp[setB]
theorem Bo{h k:Nat}{x:Nst}(e:k≠h):setB O h x k=O k:=by simp[setB,e]
theorem Mono.set{h0:Nat}(hn:O h0= .free)(st:Nst):Mono O (setB O h0 st):=fun x=>by
 by_cases e:x=h0
 ·subst e;rw[hn];trivial
 ·rw[Bo e];cases O x<;>simp
theorem Shapes.alloc(w:World)(o:Obj):Shapes w (w.alloc o):=fun b vs t fz hb=>by
 refine⟨vs,fz, ?_,rfl⟩;rw[Below.heap_alloc _ _ _ (Array.getElem?_eq_some_iff.1 hb).1];exact hb
theorem Keep.new(h:Place O I w){h0:Nat}(hn:O h0= .free)(o:Obj)(st:Nst):Keep O I w (setB O h0 st) I (w.alloc o):=
 ⟨.set hn st,fun _ _ hi=>hi,fun b o' hi=>by apply World.cell?_alloc_lt;exact h.old b o' hi, .alloc w o⟩
theorem Ext.new(h:Place O I w){h0:Nat}(hn:O h0= .free)(o:Obj)(st:Nst)(hst: ∀b,st.blk=some b ->b=w.heap.size):Ext O I (setB O h0 st) I w (w.alloc o) where
 os:=rfl
 tape:=rfl
 output:=rfl
 size:=by simp
 block b hb _:=Below.heap_alloc _ _ _ hb
 keepI _ _ hi:=hi
 cell:=(Keep.new h hn o st).cell
 newI _ _ hi:= .inl hi
 newB x b hb:=by
  by_cases e:x=h0
  ·subst e;rw[Ak]at hb;have:=hst b hb;exact .inr (by omega)
  ·rw[Bo e]at hb;exact .inl ⟨x,hb⟩
 shapes:= .alloc w o
theorem Place.new(h:Place O I w)(h0:Nat)(o:Obj)(st:Nst)(hst: ∀b,st.blk=some b ->b=w.heap.size):Place (setB O h0 st) I (w.alloc o) where
 inj i j b hi hj:=by
  by_cases e:i=h0
  ·by_cases e':j=h0
   ·omega
   ·subst e;rw[Ak]at hi;rw[Bo e']at hj;have:=hst b hi;have:=h.lt j b hj;omega
  ·by_cases e':j=h0
   ·subst e';rw[Ak]at hj;rw[Bo e]at hi;have:=hst b hj;have:=h.lt i b hi;omega
   ·rw[Bo e]at hi;rw[Bo e']at hj;exact h.inj i j b hi hj
 lt x b hx:=by
  by_cases e:x=h0
  ·subst e;rw[Ak]at hx;have:=hst b hx;simp;omega
  ·rw[Bo e]at hx;have:=h.lt x b hx;simp;omega
 off x b o' hx hi:=by
  by_cases e:x=h0
  ·subst e;rw[Ak]at hx;have:=hst b hx;have:=h.old b o' hi;omega
  ·rw[Bo e]at hx;exact h.off x b o' hx hi
 old b o' hi:=by have:=h.old b o' hi;simp;omega
 gl:=h.gl.step (fun _ _ hi=>hi) (fun b o' hi=>by apply World.cell?_alloc_lt;exact h.old b o' hi)
theorem Cm{h:Nat}{B:Blk}{k:Nat}:Cn [(h,B)] k=if k=h then some B else none:=rfl
theorem RelH.new(h:RelH O H I w){h0:Nat}(hn:O h0= .free)(o:Obj)(st:Nst)(hst: ∀b,st.blk=some b ->b=w.heap.size){B:Blk}(hB:RepB (setB O h0 st) (w.alloc o) I h0 B):
  RelH (setB O h0 st) (A9 [(h0,B)] H) I (w.alloc o):=by
 refine h.step (h.toPlace.new h0 o st hst) (.new h.toPlace hn o st) (fun x hx=> ?_) (fun x B' hx=> ?_)
 ·rw[Cm]at hx;split at hx
  ·simp at hx
  ·rename_i e;exact⟨Bo e,fun b hb=>Below.heap_alloc _ _ _ (h.lt x b hb)⟩
 ·rw[Cm]at hx;split at hx
  ·rename_i e;simp at hx;subst hx e;exact hB
  ·simp at hx
theorem Ly(w:World)(o:Obj):(w.alloc o).heap[w.heap.size]? =some o:=by
 show(w.heap.push _)[w.heap.size]? =_;simp
theorem RelH.newCells(h:RelH O H I w){h0:Nat}(hn:O h0= .free){cs:List C}{vs:Array Value}(t:TypeId)(hl:cs.length<=vs.size)(hr: ∀(i:Nat) c v,cs[i]? =some c ->vs[i]? =some v ->RepC O w I c v):
  RelH (setB O h0 (.at w.heap.size)) (A9 [(h0, .cells cs t)] H) I (w.alloc (.cells vs t)):=by
 refine h.new hn _ _ (fun b hb=>by simpa[Nst.blk]using hb.symm) ⟨w.heap.size,vs,Ak _ _ _,Ly _ _,hl,fun i c v h1 h2=> ?_⟩;exact(hr i c v h1 h2).keep (.new h.toPlace hn _ _)
theorem Gf{J:Type}{cs new:List J}{off:Nat}(hle:off+new.length<=cs.length)(i:Nat):
  (splice cs off new)[i]? =if i<off then cs[i]? else if i<off+new.length then new[i -off]? else cs[i]?:=by
 unfold splice;rw[List.getElem?_append,List.getElem?_append];simp only[List.length_append,List.length_take,List.getElem?_take,List.getElem?_drop];have:min off cs.length=off:=by omega
 rw[this];by_cases h1:i<off
 ·simp[h1];omega
 ·by_cases h2:i<off+new.length
  ·simp[h1,h2]
  ·simp only[h1,h2,if_false];congr 1;omega
theorem Dn{J:Type}{cs new:List J}{off:Nat}(hle:off+new.length<=cs.length):(splice cs off new).length=cs.length:=by
 unfold splice;simp;omega
theorem Shapes.setRow{b:Nat}{vs:Array Value}{t:TypeId}{fz:Nat×Nat}(hb:w.heap[b]? =some (.cells vs t fz)){us:Array Value}(hl:us.size=vs.size):Shapes w (w.setRow b us):=fun x vs' t' fz' hx=>by
 by_cases e:x=b
 ·subst e;rw[hb]at hx;simp at hx;obtain⟨rfl,rfl,rfl⟩:=hx;exact⟨us,fz,setRow_heap w x vs us t fz hb,hl⟩
 ·exact⟨vs',fz',by rw[setRow_other _ _ _ _ e];exact hx,rfl⟩
theorem Place.same(h:Place O I w)(hs:w'.heap.size=w.heap.size)(hc: ∀b o,I b o ->w'.cell? ⟨b,o,none⟩=w.cell? ⟨b,o,none⟩):Place O I w':=
 ⟨h.inj,fun x b hx=>by rw[hs];exact h.lt x b hx,h.off,fun b o hi=>by rw[hs];exact h.old b o hi,h.gl.step (fun _ _ hi=>hi) hc⟩
theorem Zd{b x o:Nat}{us:Array Value}(hne:x≠b):(w.setRow b us).cell? ⟨x,o,none⟩=w.cell? ⟨x,o,none⟩:=
 World.cell?_of_block (w:=w) (setRow_other w b x _ hne)
theorem Yn{cs:List C}{us:List Value}(h:RepCs O w I cs us): ∀v∈us,v.oneCell'=true:=fun v hv=>by
 obtain⟨i,hi,he⟩:=List.getElem_of_mem hv;have hi':i<cs.length:=by rw[h.1];exact hi
 exact(h.2 i cs[i] v (by simp[hi']) (by simp[hi,he])).one
theorem Mn{k b:Nat}(hb:(O k).blk=some b)(hp:Place O I w){vs:Array Value}{t:TypeId}{fz:Nat×Nat}(hheap:w.heap[b]? =some (.cells vs t fz)){us:Array Value}(hl:us.size=vs.size):Ext O I O I w (w.setRow b us) where
 os:=rfl
 tape:=rfl
 output:=rfl
 size:=by simp
 block x _ hn:=setRow_other _ _ _ _ (fun e=>hn k (by rw[e];exact hb))
 keepI _ _ hi:=hi
 cell x o hi:=Zd (fun e=>hp.off k b o hb (e▸hi))
 newI _ _ hi:= .inl hi
 newB x _ hx:= .inl ⟨x,hx⟩
 shapes:= .setRow hheap hl
theorem Cj(ks:List Nat):(Fm ks).map (·.1)=ks:=by
 unfold Fm;rw[List.map_map];exact List.map_id' ks
theorem Bl{h:Nat}{B:Blk}{ks:List Nat}(hn:h∉ks)(k:Nat):Cn ((h,B)::Fm ks) k=if k∈ks then some .dead else if k=h then some B else none:=by
 simp only[Cn,Fk];by_cases h1:k∈ks
 ·simp[h1]
 ·simp[h1]
theorem Dc{ks:List Nat}{h:Nat}(hc:ks.contains h=false):h∉ks:=fun hm=>by
 rw[List.contains_eq_mem]at hc;simp[hm]at hc
theorem Adj(h:RelH O H I w){k sz i off b:Nat}{new:List C}{u:Ups}{rd:List Nat}(hb:(O k).blk=some b)(hin: ∀ob n,O k= .row ob n ->i<n){us:List Value}(hnew:RepCs O w I new us)(hs:Eh H k sz i off new=some (u,rd)):
  ∃w' O' I',(storeCells ⟨b,i*sz+off,none⟩ us).run P w= .ok () w'/\RelH O' (A9 u H) I' w'/\Ext O I O' I' w w'/\Mono O O':=by
 unfold Eh at hs;split at hs
 ·rename_i cs t hk;cases hle:Nat.ble (i*sz+off+new.length) cs.length with
  |false=>simp[hle]at hs|true=>
   have hle':=Nat.le_of_ble_eq_true hle;simp[hle]at hs;obtain⟨rfl,rfl⟩:=hs;obtain⟨b',vs,hb',hheap,hcl,hcv⟩:=h.blk k _ hk;have:b'=b:=by rw[hb']at hb;simpa[Nst.blk]using hb
   subst this;have hlu:=hnew.1;have hl:i*sz+off+us.length<=vs.toList.length:=by simp;omega
   have hrun:=run_storeCells_at P b' (i*sz+off) t us 0 vs w hheap (by simpa using hl) (Yn hnew);simp only[Nat.add_zero]at hrun;have esp:vs.toList.take (i*sz+off)++us++vs.toList.drop (i*sz+off+us.length)=splice vs.toList (i*sz+off) us:=rfl;rw[esp]at hrun;have hsize:(splice vs.toList (i*sz+off) us).toArray.size=vs.size:=by simp[Dn hl]
   have hext:=Mn hb h.toPlace hheap hsize;refine⟨_,O,I,hrun, ?_,hext, .refl O⟩;refine h.step (h.toPlace.same (by simp) hext.cell) (hext.keep (.refl O)) (fun x hx=>⟨rfl,fun c hc=> ?_⟩) (fun x B hx=> ?_)
   ·rw[Cm]at hx;split at hx
    ·simp at hx
    ·rename_i e;exact setRow_other _ _ _ _ (fun ec=>e (h.inj x k b' (ec▸hc) hb))
   ·rw[Cm]at hx;split at hx
    ·rename_i e;simp at hx;subst hx e;refine⟨b',_,hb',setRow_heap w b' vs _ t _ hheap,by simp[Dn hl,Dn hle'];exact hcl,fun j c v h1 h2=> ?_⟩;have h2:(splice vs.toList (i*sz+off) us)[j]? =some v:=by simpa using h2
     rw[Gf hle']at h1;rw[Gf hl]at h2;refine RepC.keep (hext.keep (.refl O)) ?_;by_cases c1:j<i*sz+off
     ·simp only[c1,if_true]at h1 h2;exact hcv j c v h1 (by simpa using h2)
     ·by_cases c2:j<i*sz+off+new.length
      ·rw[if_neg c1,if_pos c2]at h1;rw[if_neg c1,if_pos (by omega)]at h2;exact hnew.2 _ c v h1 h2
      ·rw[if_neg c1,if_neg c2]at h1;rw[if_neg c1,if_neg (by omega)]at h2;exact hcv j c v h1 (by simpa using h2)
    ·simp at hx
 ·rename_i n f sz' t hk;split at hs
  ·rename_i xs ks hf;cases hc:(Nat.beq sz sz'&&Nat.ble (off+xs.length) sz&& !(ks.contains k))with
   |false=>rw[hc]at hs;cases hs|true=>
    simp only[hc,za,zj,Prod.mk.injEq]at hs;obtain⟨rfl,rfl⟩:=hs;simp only[zd,Bool.not_eq_true']at hc;obtain⟨⟨hz,hle⟩,hnk⟩:=hc;have hz':=zg hz;subst hz';have hle':=Nat.le_of_ble_eq_true hle;have hnk':=Dc hnk;obtain⟨hsz0,hB⟩:=h.blk k _ hk;obtain⟨hks,hfr⟩:=F5 h 400 _ _ _ _ hf hnew;rcases hB with⟨h1,_⟩|⟨b',vs,hb',hheap,hcl,hcv⟩
    ·rw[h1]at hb;cases hb
    ·have:b'=b:=by rw[hb']at hb;simpa[Nst.blk]using hb
     subst this;have hi:=hin _ _ hb';have hxs:=(hfr (Ce O I ks) (fun _ _ hi=> .inl hi) (fun k' hk' b hb o=> .inr ⟨k',hk',hb⟩));have hlu:=hxs.1;have hmul:i*sz+sz<=n*sz:=by have:=Nat.mul_le_mul_right sz hi;rw[Nat.succ_mul]at this;exact this
     have hl:i*sz+off+us.length<=vs.toList.length:=by simp;omega
     have hrun:=run_storeCells_at P b' (i*sz+off) t us 0 vs w hheap (by simpa using hl) (Yn hnew);simp only[Nat.add_zero]at hrun;have esp:vs.toList.take (i*sz+off)++us++vs.toList.drop (i*sz+off+us.length)=splice vs.toList (i*sz+off) us:=rfl;rw[esp]at hrun;have hsize:(splice vs.toList (i*sz+off) us).toArray.size=vs.size:=by simp[Dn hl]
     have hbk:(Bp O ks k).blk=some b':=by simp[Bp,hnk'];exact hb
     have hpk:=h.toPlace.kill ks;have hext2:=Mn hbk hpk hheap hsize;have hext:=(Ext.kill O I w ks).trans hext2;have hmono:Mono O (Bp O ks):= .kill O hks;refine⟨_,Bp O ks,Ce O I ks,hrun, ?_,hext,hmono⟩;refine h.step (hpk.same (by simp) hext2.cell) (hext.keep hmono) (fun x hx=> ?_) (fun x B hx=> ?_)
     ·rw[Bl hnk']at hx;split at hx
      ·simp at hx
      ·rename_i e1;split at hx
       ·simp at hx
       ·rename_i e2;exact⟨by simp[Bp,e1],fun c hc=>setRow_other _ _ _ _ (fun ec=>e2 (h.inj x k b' (ec▸hc) hb))⟩
     ·rw[Bl hnk']at hx;split at hx
      ·rename_i e1;simp at hx;subst hx;show Bp O ks x= .dead;simp[Bp,e1]
      ·rename_i e1;split at hx
       ·rename_i e2;simp at hx;subst hx e2;refine⟨hsz0, .inr ⟨b',_,by simp[Bp,hnk',hb'],setRow_heap w b' vs _ t _ hheap,by simp[Dn hl];exact hcl,fun j hj=> ?_⟩⟩;obtain⟨hfl,hfv⟩:=hcv j hj;have old: ∀(q:Nat) d,(f j)[q]? =some d -> ¬(j=i/\off<=q/\q<off+us.length) -> ∃v,(splice vs.toList (i*sz+off) us).toArray[j*sz+q]? =some v/\RepD (w.setRow b' (splice vs.toList (i*sz+off) us).toArray) (Ce O I ks) d v:=by
         intro q d hd hq;obtain⟨v,hv,hrd⟩:=hfv q d hd;have hqs:q<sz:=by have:=(List.getElem?_eq_some_iff.1 hd).1;omega
         refine⟨v, ?_,hrd.keep hext.keepI hext.cell⟩;have:(splice vs.toList (i*sz+off) us)[j*sz+q]? =some v:=by
          rw[Gf hl];have hv':vs.toList[j*sz+q]? =some v:=by simpa using hv
          by_cases c1:j*sz+q<i*sz+off
          ·simp only[c1,if_true];exact hv'
          ·rw[if_neg c1,if_neg ?_]
           ·exact hv'
           ·intro c2;apply hq;have hji:j=i:=by
             rcases Nat.lt_trichotomy j i with hlt|heq|hgt
             ·have:=Nat.mul_le_mul_right sz hlt;rw[Nat.succ_mul]at this;omega
             ·exact heq
             ·have:=Nat.mul_le_mul_right sz hgt;rw[Nat.succ_mul]at this;omega
            subst hji;exact⟨rfl,by omega,by omega⟩
         simpa using this
        by_cases hji:j=i
        ·subst hji;have hfle:off+xs.length<=(f j).length:=by omega
         simp only[Nat.beq_refl,za];refine⟨by rw[Dn hfle];exact hfl,fun q d hd=> ?_⟩;rw[Gf hfle]at hd;by_cases c1:q<off
         ·rw[if_pos c1]at hd;exact old q d hd (by omega)
         ·by_cases c2:q<off+xs.length
          ·rw[if_neg c1,if_pos c2]at hd;have hlt:q -off<us.length:=by omega
           refine⟨us[q -off], ?_,(hxs.2 _ d _ hd (by simp[hlt])).keep (fun _ _ hi=>hi) hext2.cell⟩;have:(splice vs.toList (j*sz+off) us)[j*sz+q]? =some us[q -off]:=by
            rw[Gf hl,if_neg (by omega),if_pos (by omega),show j*sz+q -(j*sz+off)=q -off by omega];simp[hlt]
           simpa using this
          ·rw[if_neg c1,if_neg c2]at hd;exact old q d hd (by omega)
        ·have hbq:Nat.beq j i=false:=by rw[beqD];simpa using hji
         simp only[hbq,zb];exact⟨hfl,fun q d hd=>old q d hd (by intro hh;exact hji hh.1)⟩
       ·simp at hx
  ·simp at hs
 ·simp at hs
end
section
variable {O O':Bt}{I I':Im}{w w':World}{P:Program}{H:Hp}
def ContAt(O:Bt)(w:World)(I:Im)(sz n:Nat)(c:Cont)(vs:List Value):Prop:=
 vs.length=n*sz/\match c with
  | .cells cs=>RepCs O w I cs vs| .data f=> ∀i,i<n ->(f i).length=sz/\ ∀(j:Nat) d,(f i)[j]? =some d -> ∃v,vs[i*sz+j]? =some v/\RepD w I d v
theorem ContAt.ones{sz n:Nat}{c:Cont}{vs:List Value}(h:ContAt O w I sz n c vs)(hs:0<sz): ∀v∈vs,v.oneCell'=true:=by
 cases c with
 |cells cs=>exact Yn h.2|data f=>
  intro v hv;obtain⟨q,hq,rfl⟩:=List.getElem_of_mem hv;have hq':q<n*sz:=by rw[<-h.1];exact hq
  have hi:q/sz<n:=(Nat.div_lt_iff_lt_mul hs).2 hq';have hj:q%sz<sz:=Nat.mod_lt _ hs;obtain⟨h1,h2⟩:=h.2 (q/sz) hi;have hlt:q%sz<(f (q/sz)).length:=by omega
  obtain⟨v,hv1,hv2⟩:=h2 (q%sz) (f (q/sz))[q%sz] (by simp[hlt]);rw[show q/sz*sz+q%sz=q by rw[Nat.mul_comm];exact Nat.div_add_mod q sz]at hv1;simp[hq]at hv1;rw[hv1];exact hv2.one
theorem Vq{sz n:Nat}{c:Cont}{vs:List Value}{f:RD}{ks:List Nat}(hr:RelH O H I w)(h:ContAt O w I sz n c vs)(ht:Ht H sz n c=some (f,ks)):
  (∀k∈ks,O k≠ .free)/\ ∀I':Im,(∀b o,I b o ->I' b o) ->(∀k∈ks,∀b,(O k).blk=some b -> ∀o,I' b o) ->ContAt O w I' sz n (.data f) vs:=by
 cases c with
 |data g=>
  simp[Ht]at ht;obtain⟨rfl,rfl⟩:=ht;refine⟨fun k hk=>by simp at hk,fun I' hI _=>⟨h.1,fun i hi=>⟨(h.2 i hi).1,fun j d hd=> ?_⟩⟩⟩;obtain⟨v,hv,hrd⟩:=(h.2 i hi).2 j d hd;exact⟨v,hv,hrd.keep hI (fun _ _ _=>rfl)⟩
 |cells cs=>
  simp only[Ht]at ht;split at ht
  ·rename_i ds ks' hf;cases hb:Nat.beq ds.length (n*sz)with
   |false=>simp[hb]at ht|true=>
    have hb':=zg hb;simp[hb]at ht;obtain⟨rfl,rfl⟩:=ht;obtain⟨h1,h2⟩:=F5 hr 400 _ _ _ _ hf h.2;refine⟨h1,fun I' hI hk=>⟨h.1,fun i hi=>⟨Md hb' hi,fun j d hd=> ?_⟩⟩⟩;have h3:=h2 I' hI hk;obtain⟨hj,hd'⟩:=Jr hd;have hlt:i*sz+j<vs.length:=by rw[<-h3.1];exact(List.getElem?_eq_some_iff.1 hd').1
    exact⟨vs[i*sz+j],by simp[hlt],h3.2 _ d _ hd' (by simp[hlt])⟩
  ·simp at ht
theorem ContAt.app{sz n m:Nat}{f g:RD}{us vs:List Value}(h:ContAt O w I sz n (.data f) us)(k:ContAt O w I sz m (.data g) vs):ContAt O w I sz (n+m) (.data (appF n f g)) (us++vs):=by
 refine⟨by rw[List.length_append,h.1,k.1,Nat.add_mul],fun i hi=> ?_⟩;unfold appF;rw[bltD];by_cases hin:i<n
 ·simp only[hin,decide_true,za];refine⟨(h.2 i hin).1,fun j d hd=> ?_⟩;obtain⟨v,hv,hrd⟩:=(h.2 i hin).2 j d hd;exact⟨v,by rw[List.getElem?_append_left (List.getElem?_eq_some_iff.1 hv).1];exact hv,hrd⟩
 ·simp only[hin,decide_false,zb];have him:i -n<m:=by omega
  refine⟨(k.2 _ him).1,fun j d hd=> ?_⟩;obtain⟨v,hv,hrd⟩:=(k.2 _ him).2 j d hd;refine⟨v, ?_,hrd⟩;have hge:n*sz<=i*sz:=Nat.mul_le_mul_right sz (by omega);rw[List.getElem?_append_right (by rw[h.1];omega),h.1];rw[show i*sz+j -n*sz=(i -n)*sz+j by rw[Nat.sub_mul];omega];exact hv
theorem ContAt.appC{sz n m:Nat}{xs ys:List C}{us vs:List Value}(h:ContAt O w I sz n (.cells xs) us)(k:ContAt O w I sz m (.cells ys) vs):ContAt O w I sz (n+m) (.cells (xs++ys)) (us++vs):=
 ⟨by rw[List.length_append,h.1,k.1,Nat.add_mul],RepCs.append h.2 k.2⟩
def AnE(O:Bt)(w:World)(I:Im)(sz:Nat):Src ->Value ->Prop
 | .data n g,x=>RepD w I (.sl sz n g) x| .str s,x=>x= .string s/\sz=1| .own h sz' n,x=>RowAt O w h sz' n x
theorem Qu{h sz len n:Nat}{f:RD}{t:TypeId}{v:Value}(hr:RelH O H I w)(hl:look H h=some (.row n f sz t))(hc:RowAt O w h sz len v):
  (len=0/\v= .slice none 0 0/\ ∃m,O h= .row none m)\/ ∃b cap vs,(O h).blk=some b/\v= .slice (some ⟨b,0,none⟩) len cap/\w.heap[b]? =some (.cells vs t (0,0))/\vs.size=cap*sz/\len<=cap/\len<=n/\ContAt O w I sz len (.data f) (vs.toList.take (len*sz)):=by
 obtain⟨hsz0,hB⟩:=hr.blk h _ hl;have nd:O h≠ .dead:=fun hd=>by rcases hB with⟨h1,_⟩|⟨b,vs,h1,_⟩<;>(rw[hd]at h1;cases h1)
 rcases hc with⟨rfl,rfl,hd|⟨m,hm⟩⟩|⟨b,cap,rfl,hle,hd|⟨hb,hln,vs,t',fz,hheap,hsz⟩⟩
 ·exact absurd hd nd
 ·exact .inl ⟨rfl,rfl,m,hm⟩
 ·exact absurd hd nd
 ·rcases hB with⟨h1,_⟩|⟨b',vs',h1,h2,h3,h4⟩
  ·rw[h1]at hb;cases hb
  ·have hbb:b'=b:=by rw[h1]at hb;simpa[Nst.blk]using hb
   subst hbb;have hlm:=hln _ _ h1;rw[h2]at hheap;simp at hheap;obtain⟨rfl,rfl,rfl⟩:=hheap;have hmul:len*sz<=cap*sz:=Nat.mul_le_mul_right sz hle;refine .inr ⟨b',cap,vs',hb,rfl,h2,hsz,hle,hlm,by simp;omega,fun i hi=>⟨(h4 i (by omega)).1,fun j d hd=> ?_⟩⟩;obtain⟨v,hv,hrd⟩:=(h4 i (by omega)).2 j d hd;have hj:j<sz:=by have:=(List.getElem?_eq_some_iff.1 hd).1;have:=(h4 i (by omega)).1;omega
   have hmul:i*sz+sz<=len*sz:=by have:=Nat.mul_le_mul_right sz hi;rw[Nat.succ_mul]at this;exact this
   exact⟨v,by rw[List.getElem?_take,if_pos (by omega)];simpa using hv,hrd⟩
theorem Qv{h sz len:Nat}{cs:List C}{t:TypeId}{v:Value}(hr:RelH O H I w)(hl:look H h=some (.cells cs t))(hc:RowAt O w h sz len v):
  ∃b cap vs,(O h).blk=some b/\v= .slice (some ⟨b,0,none⟩) len cap/\w.heap[b]? =some (.cells vs t (0,0))/\vs.size=cap*sz/\len<=cap/\(∀(i:Nat) c v,cs[i]? =some c ->vs[i]? =some v ->RepC O w I c v):=by
 obtain⟨b,vs,hb,hheap,hcl,hcv⟩:=hr.blk h _ hl;rcases hc with⟨_,_,hd|⟨m,hm⟩⟩|⟨b',cap,rfl,hle,hd|⟨hb',hln,vs',t',fz,hheap',hsz⟩⟩
 ·rw[hb]at hd;cases hd
 ·rw[hb]at hm;cases hm
 ·rw[hb]at hd;cases hd
 ·have hbb:b=b':=by rw[hb]at hb';simpa[Nst.blk]using hb'
  subst hbb;rw[hheap]at hheap';simp at hheap';obtain⟨rfl,rfl,rfl⟩:=hheap';exact⟨b,cap,vs,hb',rfl,hheap,hsz,hle,hcv⟩
theorem Tf{cs:List C}{vs:Array Value}{n sz cap len:Nat}(hcv: ∀(i:Nat) c v,cs[i]? =some c ->vs[i]? =some v ->RepC O w I c v)(hsz:vs.size=cap*sz)(hle:len<=cap)(hn:len*sz<=cs.length):
  ContAt O w I sz len (.cells (cs.take (len*sz))) (vs.toList.take (len*sz)):=by
 have hmul:len*sz<=cap*sz:=Nat.mul_le_mul_right sz hle;refine⟨by simp;omega,by simp;omega,fun i c v h1 h2=> ?_⟩;rw[List.getElem?_take]at h1 h2;split at h1
 ·rename_i hi;rw[if_pos hi]at h2;exact hcv i c v h1 (by simpa using h2)
 ·simp at h1
theorem AjJ{sz:Nat}{src:Src}{c:Cont}{rd:List Nat}{x:Value}{t':TypeId}(hr:RelH O H I w)(hs0:0<sz)(hk:(∃e',P.underlying t'=some (.slice e'))\/(P.underlying t'=some .string/\ ∃s,x= .string s))(hks: ∀s,x= .string s ->P.underlying t'=some .string)
  (hx:AnE O w I sz src x) (hc:srcC H sz src=some (c,rd)): ∃news,Go.Src P sz t' x (Bk src) news w/\ContAt O w I sz (Bk src) c news:=by
 have notStr: ∀o n cap,x= .slice o n cap -> ∃e',P.underlying t'=some (.slice e'):=fun o n cap hxe=>by
  rcases hk with hk|⟨_,s,hs⟩
  ·exact hk
  ·rw[hxe]at hs;cases hs
 have slice: ∀(b off n cap:Nat) (news:List Value),x= .slice (some ⟨b,off,none⟩) n cap ->ContAt O w I sz n c news ->(∀j v,news[j]? =some v ->w.cell? ⟨b,off+j,none⟩=some v) ->Go.Src P sz t' x n news w:=by
  intro b off n cap news hxe hca hcell;obtain⟨e',he'⟩:=notStr _ _ _ hxe;rw[hxe];exact Go.Src.ofSlice w he' _ n cap news hca.1 (fun j u hj=>by rw[Cx];exact hcell j u hj) (hca.ones hs0)
 cases src with
 |data n g=>
  simp[srcC]at hc;obtain⟨rfl,rfl⟩:=hc;have hx:RepD w I (.sl sz n g) x:=hx;show ∃news,Go.Src P sz t' x n news w/\ContAt O w I sz n (.data g) news;cases hx with
  |nil=>
   obtain⟨e',he'⟩:=notStr _ _ _ rfl;exact⟨[],Go.Src.ofNil w he' 0,by simp,fun i hi=>by omega⟩
  |emp _ _ a cap=>
   obtain⟨e',he'⟩:=notStr _ _ _ rfl;exact⟨[],Go.Src.ofSlice w he' a 0 cap [] (by simp) (fun j u hj=>by simp at hj) (fun u hu=>by simp at hu),by simp,fun i hi=>by omega⟩
  |sl _ _ _ b off cap gv hcap hsz hcell hI hrd=>
   have key:ContAt O w I sz n (.data g) ((List.range (n*sz)).map fun q=>gv (q/sz) (q%sz)):=by
    refine⟨by simp,fun i hi=>⟨hsz i hi,fun j d hd=> ?_⟩⟩;have hj:j<sz:=by have:=(List.getElem?_eq_some_iff.1 hd).1;rw[hsz i hi]at this;exact this
    have hmul:i*sz+sz<=n*sz:=by have:=Nat.mul_le_mul_right sz hi;rw[Nat.succ_mul]at this;exact this
    have hlt:i*sz+j<n*sz:=by omega
    have e1:(i*sz+j)/sz=i:=by rw[Nat.mul_comm,Nat.mul_add_div hs0,Nat.div_eq_of_lt hj];rfl
    have e2:(i*sz+j)%sz=j:=by rw[Nat.mul_comm,Nat.mul_add_mod,Nat.mod_eq_of_lt hj]
    exact⟨gv i j,by simp[hlt,e1,e2],hrd i j d hi hd⟩
   refine⟨_,slice b off n cap _ rfl key (fun q v hq=> ?_),key⟩;have hlt:=(List.getElem?_eq_some_iff.1 hq).1;simp at hlt;simp[hlt]at hq;subst hq;have hi:q/sz<n:=(Nat.div_lt_iff_lt_mul hs0).2 hlt;have hj:q%sz<sz:=Nat.mod_lt _ hs0;have hjl:q%sz<(g (q/sz)).length:=by rw[hsz _ hi];exact hj
   have:=hcell (q/sz) (q%sz) (g (q/sz))[q%sz] hi (by simp[hjl]);rw[show off+q/sz*sz+q%sz=off+q by rw[Nat.add_assoc,Nat.mul_comm];rw[Nat.div_add_mod q sz]]at this;exact this
 |str s=>
  obtain⟨rfl,rfl⟩:=hx;simp only[srcC,zj,Prod.mk.injEq]at hc;obtain⟨rfl,rfl⟩:=hc;refine⟨byteCells s,Go.Src.ofString w (hks s rfl) s,by rw[byteCells_length];simp[Bk],fun i hi=> ?_⟩;have hi:i<s.size:=hi;simp only[bltD,hi,decide_true,za];refine⟨rfl,fun j d hd=> ?_⟩;cases j with
  |zero=>
   simp at hd;subst hd;have hi':i<s.data.size:=hi;refine⟨_, ?_, .v _ rfl⟩;have:(byteCells s)[i]? =some (.int .u8 (s.data.toList.getD i 0).toNat):=by
    unfold byteCells;simp[List.getD];exact⟨s.data[i],Array.getElem?_eq_getElem hi',by rw[Array.getElem?_eq_getElem hi'];rfl⟩
   simpa using this
  |succ j=>simp at hd
 |own h sz' len=>
  simp only[srcC]at hc;have hx:RowAt O w h sz' len x:=hx;split at hc
  ·rename_i n g sz'' t hl;cases hb:(Nat.beq sz' sz''&&Nat.beq sz sz')with
   |false=>rw[hb]at hc;cases hc|true=>
    simp only[zd]at hb;have e1:=zg hb.1;have e2:=zg hb.2;subst e2;subst e1;simp[hb]at hc;obtain⟨rfl,rfl⟩:=hc;rcases Qu hr hl hx with⟨rfl,rfl,_⟩|⟨b,cap,vs,hb,hv,hheap,hsz,hle,hlm,hca⟩
    ·obtain⟨e',he'⟩:=notStr _ _ _ rfl;exact⟨[],Go.Src.ofNil w he' 0,by simp[Bk],fun i hi=>by simp[Bk]at hi⟩
    ·refine⟨_,slice b 0 len cap _ hv hca (fun j v hj=> ?_),hca⟩;rw[Nat.zero_add];rw[List.getElem?_take]at hj;split at hj
     ·exact Mg hheap j v hj
     ·simp at hj
  ·rename_i cs t hl;cases hb:(Nat.ble (len*sz) cs.length&&Nat.beq sz sz')with
   |false=>rw[hb]at hc;cases hc|true=>
    simp only[zd]at hb;have e1:=Nat.le_of_ble_eq_true hb.1;have e2:=zg hb.2;subst e2;simp[hb]at hc;obtain⟨rfl,rfl⟩:=hc;obtain⟨b,cap,vs,hb,hv,hheap,hsz,hle,hcv⟩:=Qv hr hl hx;have hca:=Tf (n:=len) hcv hsz hle e1;refine⟨_,slice b 0 len cap _ hv hca (fun j v hj=> ?_),hca⟩;rw[Nat.zero_add];rw[List.getElem?_take]at hj;split at hj
    ·exact Mg hheap j v hj
    ·simp at hj
  ·simp at hc
inductive DstV (O:Bt) (w:World) (sz:Nat) (e:TypeId):Option (Nat×Nat) ->Value ->List Value ->Prop
 |nil (dst:Option (Nat×Nat)) (h:dst=none\/ ∃h m,dst=some (h,0)/\O h= .row none m):DstV O w sz e dst (.slice none 0 0) []|real (h n b cap:Nat) (vs:Array Value) (hb:(O h).blk=some b) (hheap:w.heap[b]? =some (.cells vs e (0,0))) (hsz:vs.size=cap*sz) (hle:n<=cap):
  DstV O w sz e (some (h,n)) (.slice (some ⟨b,0,none⟩) n cap) (vs.toList.take (n*sz))
def AnH(O:Bt)(w:World)(sz:Nat):Option (Nat×Nat) ->Value ->Prop
 |none,v=>v= .slice none 0 0|some (h,n),v=>RowAt O w h sz n v
theorem Ako{sz:Nat}{e:TypeId}{dst:Option (Nat×Nat)}{c:Cont}{v:Value}(hr:RelH O H I w)(hv:AnH O w sz dst v)(hc:dstC H sz e dst=some c):
  ∃olds,DstV O w sz e dst v olds/\ContAt O w I sz (Ba dst) c olds:=by
 cases dst with
 |none=>
  have hv:v= .slice none 0 0:=hv;subst hv;simp[dstC]at hc;subst hc;exact⟨[], .nil _ (.inl rfl),by simp[Ba],rfl,fun i c v h=>by simp at h⟩
 |some p=>
  obtain⟨h,n⟩:=p;have hv:RowAt O w h sz n v:=hv;simp only[dstC]at hc;split at hc
  ·rename_i cs t hl;cases hb:(Nat.beq t e&&Nat.ble (n*sz) cs.length)with
   |false=>rw[hb]at hc;cases hc|true=>
    simp only[zd]at hb;have e1:=zg hb.1;have e2:=Nat.le_of_ble_eq_true hb.2;subst e1;simp[hb]at hc;subst hc;obtain⟨b,cap,vs,hb,rfl,hheap,hsz,hle,hcv⟩:=Qv hr hl hv;exact⟨_, .real h n b cap vs hb hheap hsz hle,Tf (n:=n) hcv hsz hle e2⟩
  ·rename_i m f sz' t hl;cases hb:(Nat.beq t e&&Nat.beq sz sz')with
   |false=>rw[hb]at hc;cases hc|true=>
    simp only[zd]at hb;have e1:=zg hb.1;have e2:=zg hb.2;subst e1 e2;simp[hb]at hc;subst hc;rcases Qu hr hl hv with⟨rfl,rfl,m',hm'⟩|⟨b,cap,vs,hb,rfl,hheap,hsz,hle,hlm,hca⟩
    ·exact⟨[], .nil _ (.inr ⟨h,m',rfl,hm'⟩),by simp[Ba],fun i hi=>by simp[Ba]at hi⟩
    ·exact⟨_, .real h n b cap vs hb hheap hsz hle,hca⟩
  ·simp at hc
theorem Sg(z:Array Value)(n:Nat):(Builtin.zeroCells z n).size=n*z.size:=by simp[Builtin.zeroCells]
theorem Zn{sz:Nat}{e t t' ty:TypeId}{info:TypeInfo}{z:Value}{dst:Option (Nat×Nat)}{s x:Value}{m:Nat}{olds news:List Value}(hs0:0<sz)
  (ht:P.underlying t=some (.slice e)) (hi:P.info? e=some info) (hsize:info.size=sz) (hz:info.zero=some z) (hzl:z.cells.size=sz)
  (hd:DstV O w sz e dst s olds) (hol:olds.length=Ba dst*sz) (hsrc:Go.Src P sz t' x m news w) (hfit:(Ba dst+m)*info.bytes<=140737488355328) (h63:Ba dst+m<=9223372036854775807):
  ∃v' w',(Builtin.append_ #[t,t'] ty #[s,x]).run P w= .ok v' w'/\
   ((v'= .slice none 0 0/\w'=w/\Ba dst+m=0/\(dst=none\/ ∃h k,dst=some (h,0)/\O h= .row none k))\/
    ∃b' cap' vs',v'= .slice (some ⟨b',0,none⟩) (Ba dst+m) cap'/\vs'.size=cap'*sz/\Ba dst+m<=cap'/\vs'.toList.take ((Ba dst+m)*sz)=olds++news/\
     ((b'=w.heap.size/\w'=w.drew.alloc (.cells vs' e)/\(dst=none ->0<m))\/ ∃h n vs,dst=some (h,n)/\(O h).blk=some b'/\w.heap[b']? =some (.cells vs e (0,0))/\vs'.size=vs.size/\w'=w.setRow b' vs')):=by
 subst hsize;have hnl:=hsrc.newsLen;have grow: ∀(base:Option Addr) (n cap:Nat),s= .slice base n cap ->Ba dst=n ->(Builtin.firstCells info.size n (.slice base n cap)).run P w.drew= .ok olds.toArray w.drew ->cap<n+m ->(dst=none ->0<m) ->
  ∃v' w',(Builtin.append_ #[t,t'] ty #[s,x]).run P w= .ok v' w'/\
  ((v'= .slice none 0 0/\w'=w/\Ba dst+m=0/\(dst=none\/ ∃h k,dst=some (h,0)/\O h= .row none k))\/
   ∃b' cap' vs',v'= .slice (some ⟨b',0,none⟩) (Ba dst+m) cap'/\vs'.size=cap'*info.size/\Ba dst+m<=cap'/\vs'.toList.take ((Ba dst+m)*info.size)=olds++news/\
    ((b'=w.heap.size/\w'=w.drew.alloc (.cells vs' e)/\(dst=none ->0<m))\/ ∃h n vs,dst=some (h,n)/\(O h).blk=some b'/\w.heap[b']? =some (.cells vs e (0,0))/\vs'.size=vs.size/\w'=w.setRow b' vs')):=by
  intro base n cap hs hn hold hlt hm
  subst hs
  rw[hn]at hfit h63 hol⊢
  have hnext:Builtin.nextslicecap (n+m) cap*info.bytes<=281474976710656:=by
   have h1:=nextslicecap_le hlt;have h2:=Nat.mul_le_mul_right info.bytes h1;rw[Nat.mul_assoc]at h2;omega
  have hrun:=run_append_grow_src w t t' ty e info z ht hi hz base n cap olds hold x m news hsrc hlt (by omega) hnext
  have hgc:n+m<=grownCap w (n+m) cap e:=by
   unfold grownCap;exact Nat.le_add_right _ _
  refine⟨_,_,hrun, .inr ⟨_,_,_,rfl, ?_,hgc, ?_, .inl ⟨rfl,rfl,hm⟩⟩⟩
  ·rw[Array.size_append,Sg,hzl]
   simp[hol,hnl]
   rw[<-Nat.add_mul,<-Nat.add_mul]
   congr 1
   omega
  ·simp only[Array.toList_append]
   rw[List.take_append_of_le_length (by simp[hol,hnl,Nat.add_mul]),List.take_of_length_le (by simp[hol,hnl,Nat.add_mul])]
 cases hd with
 |nil _ hdst=>
  have hn0:Ba dst=0:=by rcases hdst with rfl|⟨h,k,rfl,_⟩<;>rfl
  rcases Nat.eq_zero_or_pos m with h0|hpos
  ·subst h0;have hnews:news=[]:=List.eq_nil_of_length_eq_zero (by simpa using hnl);refine⟨.slice none 0 0,w, ?_, .inl ⟨rfl,rfl,by omega,hdst⟩⟩;rcases hsrc.kind with⟨e',hk⟩|hk<;>simp[Builtin.append_,run_underlying ht,run_underlying hk,sizeOf,typeInfo,hi,hsrc.len,hsrc.cells]
  ·refine grow none 0 0 rfl hn0 ?_ (by omega) (fun _=>hpos);simp[Builtin.firstCells]
 |real h n b cap vs hb hheap hsz hle=>
  by_cases hroom:n+m<=cap
  ·have hmul:(n+m)*info.size<=cap*info.size:=Nat.mul_le_mul_right _ hroom;have hl:n*info.size+news.length<=vs.toList.length:=by simp[hnl];rw[Nat.add_mul]at hmul;omega
   have hst:=run_storeCells_at P b (n*info.size) e news 0 vs w hheap (by simpa using hl) hsrc.one;simp only[Nat.add_zero]at hst;have esp:vs.toList.take (n*info.size)++news++vs.toList.drop (n*info.size+news.length)=splice vs.toList (n*info.size) news:=rfl;rw[esp]at hst;have hsize2:(splice vs.toList (n*info.size) news).toArray.size=vs.size:=by simp[Dn hl]
   refine⟨.slice (some ⟨b,0,none⟩) (n+m) cap,w.setRow b (splice vs.toList (n*info.size) news).toArray, ?_, .inr ⟨b,cap,_,rfl,by rw[hsize2];exact hsz,hroom, ?_, .inr ⟨h,n,vs,rfl,hb,hheap,hsize2,rfl⟩⟩⟩
   ·rcases hsrc.kind with⟨e',hk⟩|hk<;>simp[Builtin.append_,run_underlying ht,run_underlying hk,sizeOf,typeInfo,hi,hsrc.len,hroom,hsrc.cells,Addr.add_lit,hst]
   ·show(splice vs.toList (n*info.size) news).take ((n+m)*info.size)=_;unfold splice;rw[List.take_append_of_le_length (by simp[hnl,Nat.add_mul];simp[hnl]at hl;omega),List.take_of_length_le (by simp[hnl,Nat.add_mul];omega)]
  ·refine grow (some ⟨b,0,none⟩) n cap rfl rfl ?_ (by omega) (fun hx=>by cases hx);refine run_firstCells_some w.drew info.size n ⟨b,0,none⟩ n cap (vs.toList.take (n*info.size)) hol (fun j u hj=> ?_);rw[Cx,Nat.zero_add];rw[List.getElem?_take]at hj;split at hj
   ·have:=Mg hheap j u hj;exact this
   ·simp at hj
theorem Keep.drew(O:Bt)(I:Im)(w:World):Keep O I w O I w.drew:=⟨.refl O,fun _ _ h=>h,fun _ _ _=>rfl,fun _ vs _ fz h=>⟨vs,fz,h,rfl⟩⟩
theorem P0{a b:List Nat}(h:disj a b=true){x:Nat}(hx:x∈a):x∉b:=by
 have:=List.all_eq_true.1 h x hx;simpa using this
theorem AmU{dst:Option (Nat×Nat)}{h n:Nat}(e:dst=some (h,n)):h∈Bz dst:=by subst e;simp[Bz]
theorem Jy{h0:Nat}{ks die:List Nat}(hp:Place O I w)(hn0:h0∉die):
  ∀(st:Nst) (w':World),(∀b o,I b o ->w'.cell? ⟨b,o,none⟩=w.cell? ⟨b,o,none⟩) ->w.heap.size<=w'.heap.size ->(∀b,st.blk=some b ->b<w'.heap.size/\(w.heap.size<=b\/ ∃h∈die,(O h).blk=some b)) ->(∀k∈die,k∉ks) ->
   Place (setB (Bp O (die++ks)) h0 st) (Ce O I ks) w':=by
 intro st w' hcl hsz hst hdk;have hk:=hp.kill ks;have get: ∀{x b},x≠h0 ->(setB (Bp O (die++ks)) h0 st x).blk=some b ->x∉die/\x∉ks/\(O x).blk=some b:=fun{x b} e hb=>by
  rw[Bo e]at hb;obtain⟨h1,h2⟩:=Co hb;simp at h1;exact⟨h1.1,h1.2,h2⟩
 refine⟨?_, ?_, ?_, ?_,hp.gl.step (fun _ _ hi=> .inl hi) hcl⟩
 ·intro i j b hi hj;have other: ∀{x},x≠h0 ->(setB (Bp O (die++ks)) h0 st x).blk=some b ->st.blk=some b ->False:=fun{x} e hb hs=>by
   obtain⟨h1,_,h3⟩:=get e hb;rcases(hst b hs).2 with h4|⟨h,hh,h4⟩
   ·have:=hp.lt x b h3;omega
   ·exact h1 (hp.inj x h b h3 h4▸hh)
  by_cases e:i=h0
  ·by_cases e':j=h0
   ·omega
   ·subst e;rw[Ak]at hi;exact absurd hi (fun hs=>other e' hj hs)
  ·by_cases e':j=h0
   ·subst e';rw[Ak]at hj;exact absurd hj (fun hs=>other e hi hs)
   ·exact hp.inj i j b (get e hi).2.2 (get e' hj).2.2
 ·intro x b hx;by_cases e:x=h0
  ·subst e;rw[Ak]at hx;exact(hst b hx).1
  ·have:=hp.lt x b (get e hx).2.2;omega
 ·intro x b o hx hi;by_cases e:x=h0
  ·subst e;rw[Ak]at hx;rcases(hst b hx).2 with h4|⟨h,hh,h4⟩
   ·have:=hk.old b o hi;omega
   ·exact hk.off h b o (by simp[Bp,hdk h hh];exact h4) hi
  ·obtain⟨_,h2,h3⟩:=get e hx;exact hk.off x b o (by simp[Bp,h2];exact h3) hi
 ·intro b o hi;have:=hk.old b o hi;omega
theorem K7{h0:Nat}{ks die:List Nat}(hn:O h0= .free)(hd: ∀k∈die++ks,O k≠ .free)(st:Nst):Mono O (setB (Bp O (die++ks)) h0 st):=fun x=>by
 by_cases e:x=h0
 ·subst e;rw[hn];trivial
 ·rw[Bo e];exact Mono.kill O hd x
theorem Agv{h0 sz:Nat}{e t t' ty:TypeId}{info:TypeInfo}{z:Value}{dst:Option (Nat×Nat)}{src:Src}{s x:Value}{y:AV}{u:Ups}{rd:List Nat}(h:RelH O H I w)(hn:O h0= .free)(hs0:0<sz)
  (ht:P.underlying t=some (.slice e)) (hi:P.info? e=some info) (hsize:info.size=sz) (hz:info.zero=some z) (hzl:z.cells.size=sz)
  (hd:AnH O w sz dst s) (hk:(∃e',P.underlying t'=some (.slice e'))\/(P.underlying t'=some .string/\ ∃s,x= .string s)) (hks: ∀s,x= .string s ->P.underlying t'=some .string) (hx:AnE O w I sz src x)
  (hfit:(Ba dst+Bk src)*info.bytes<=140737488355328) (h63:Ba dst+Bk src<=9223372036854775807) (ha:Jz H h0 dst src e sz=some (y,u,rd)):
  ∃v' w' O' I',(Builtin.append_ #[t,t'] ty #[s,x]).run P w= .ok v' w'/\RepA O' w' I' y v'/\RelH O' (A9 u H) I' w'/\Ext O I O' I' w w'/\Mono O O':=by
 have main: ∀(c:Cont) (ks:List Nat) (B:Blk) (olds news:List Value),DstV O w sz e dst s olds ->olds.length=Ba dst*sz ->Go.Src P sz t' x (Bk src) news w ->(∀k∈ks,O k≠ .free) ->(∀k∈Bz dst,k∉ks) ->
  ContAt O w (Ce O I ks) sz (Ba dst+Bk src) c (olds++news) ->
  (B= .row (Ba dst+Bk src) (match c with| .data f=>f| .cells _=>fun _=>[]) sz e/\(∀cs,c= .cells cs ->Ba dst+Bk src=0)\/ ∃cs,c= .cells cs/\B= .cells cs e/\(dst=none ->0<Bk src)/\ ∀h n,dst=some (h,n) -> ∀k,O h≠ .row none k) ->
  ∃v' w' O' I',(Builtin.append_ #[t,t'] ty #[s,x]).run P w= .ok v' w'/\RepA O' w' I' (.c (.row h0 sz (Ba dst+Bk src))) v'/\RelH O' (A9 ((h0,B)::Fm (Bz dst++ks)) H) I' w'/\Ext O I O' I' w w'/\Mono O O':=by
  intro c ks B olds news hdv hol hsrc hksf hdk hca hB
  have hdie: ∀k∈Bz dst,O k≠ .free:=by
   intro k hk';cases dst with
   |none=>simp[Bz]at hk'|some p=>
    obtain⟨hh,n⟩:=p;simp[Bz]at hk';subst hk';cases hdv with
    |nil _ hx=>
     rcases hx with hx|⟨h',m',hx,hx'⟩
     ·cases hx
     ·cases hx;rw[hx'];exact fun e=>by cases e
    |real _ _ b cap vs hb=>exact W9 hb
  have hall: ∀k∈Bz dst++ks,O k≠ .free:=fun k hk'=>(List.mem_append.1 hk').elim (hdie k) (hksf k)
  have hn0:h0∉Bz dst:=fun hm=>hdie h0 hm hn
  have hn1:h0∉Bz dst++ks:=fun hm=>hall h0 hm hn
  obtain⟨v',w',hrun,hcase⟩:=Zn (P:=P) (ty:=ty) hs0 ht hi hsize hz hzl hdv hol hsrc hfit h63
  have fin: ∀(st:Nst),w.heap.size<=w'.heap.size ->(∀b,st.blk=some b ->b<w'.heap.size/\(w.heap.size<=b\/ ∃h∈Bz dst,(O h).blk=some b)) ->
   Keep (Bp O ks) (Ce O I ks) w (Bp O ks) (Ce O I ks) w' ->w'.os=w.os ->w'.tape=w.tape ->w'.output=w.output ->
   (∀b,b<w.heap.size ->(∀h∈Bz dst,(O h).blk≠some b) ->w'.heap[b]? =w.heap[b]?) ->
   RepC (setB (Bp O (Bz dst++ks)) h0 st) w' (Ce O I ks) (.row h0 sz (Ba dst+Bk src)) v' ->
   (∀k:Keep O I w (setB (Bp O (Bz dst++ks)) h0 st) (Ce O I ks) w',RepB (setB (Bp O (Bz dst++ks)) h0 st) w' (Ce O I ks) h0 B) ->
   ∃v' w' O' I',(Builtin.append_ #[t,t'] ty #[s,x]).run P w= .ok v' w'/\RepA O' w' I' (.c (.row h0 sz (Ba dst+Bk src))) v'/\RelH O' (A9 ((h0,B)::Fm (Bz dst++ks)) H) I' w'/\Ext O I O' I' w w'/\Mono O O':=by
   intro st hsz hst hkp hos htape hout hblock hrc hrb
   have hmono:=K7 (ks:=ks) (die:=Bz dst) hn hall st
   have hkeep:Keep O I w (setB (Bp O (Bz dst++ks)) h0 st) (Ce O I ks) w':=⟨hmono,fun _ _ hi=> .inl hi,fun b o hi=>hkp.cell b o (.inl hi),hkp.shapes⟩
   refine⟨v',w',_,Ce O I ks,hrun,hrc, ?_,⟨hos,htape,hout,hsz,fun b hb hnn=>hblock b hb (fun h _=>hnn h),fun _ _ hi=> .inl hi,hkeep.cell, ?_, ?_,hkp.shapes⟩,hmono⟩
   ·refine h.step (Jy h.toPlace hn0 st w' hkeep.cell hsz hst hdk) hkeep (fun q hq=> ?_) (fun q B' hq=> ?_)
    ·rw[Bl hn1]at hq
     split at hq
     ·simp at hq
     ·rename_i e1
      split at hq
      ·simp at hq
      ·rename_i e2
       refine⟨by rw[Bo e2];simp only[Bp,e1,if_false],fun b hb=>hblock b (h.lt q b hb) (fun h' hh' hb'=>e1 ?_)⟩
       have:=h.inj q h' b hb hb'
       rw[this];simp[hh']
    ·rw[Bl hn1]at hq
     split at hq
     ·rename_i e1
      simp at hq;subst hq
      have hne:q≠h0:=fun e=>hn1 (e▸e1)
      show setB _ _ _ q= .dead
      rw[Bo hne]
      simp only[Bp,e1,if_true]
     ·split at hq
      ·rename_i e2;simp at hq;subst hq e2;exact hrb hkeep
      ·simp at hq
   ·intro b o hi'
    rcases hi' with hi'|⟨k,_,hk'⟩
    ·exact .inl hi'
    ·exact .inr (.inr ⟨k,hk'⟩)
   ·intro q b hb
    by_cases e1:q=h0
    ·subst e1;rw[Ak]at hb
     rcases(hst b hb).2 with h1|⟨h',_,h1⟩
     ·exact .inr h1
     ·exact .inl ⟨h',h1⟩
    ·rw[Bo e1]at hb;exact .inl ⟨q,(Co hb).2⟩
  have hblk: ∀(st:Nst) (b' cap':Nat) (vs':Array Value),(st= .row (some b') (Ba dst+Bk src)/\(∃f,B= .row (Ba dst+Bk src) f sz e)\/st= .at b'/\ ∃cs,B= .cells cs e) ->w'.heap[b']? =some (.cells vs' e (0,0)) ->vs'.size=cap'*sz ->Ba dst+Bk src<=cap' ->vs'.toList.take ((Ba dst+Bk src)*sz)=olds++news ->
   (∀b o,Ce O I ks b o ->w'.cell? ⟨b,o,none⟩=w.cell? ⟨b,o,none⟩) ->
   ∀k:Keep O I w (setB (Bp O (Bz dst++ks)) h0 st) (Ce O I ks) w',RepB (setB (Bp O (Bz dst++ks)) h0 st) w' (Ce O I ks) h0 B:=by
   intro st b' cap' vs' hst hheap hsz hle htake hcell k
   have hmul:(Ba dst+Bk src)*sz<=cap'*sz:=Nat.mul_le_mul_right sz hle
   have get: ∀(q:Nat) (v:Value),q<(Ba dst+Bk src)*sz ->(olds++news)[q]? =some v ->vs'[q]? =some v:=fun q v hq hv=>by
    rw[<-htake,List.getElem?_take,if_pos hq]at hv;simpa using hv
   rcases hB with⟨hBe,hc0⟩|⟨cs,hce,hBe,_,_⟩
   ·rcases hst with⟨hst,_⟩|⟨_,cs,hB2⟩
    ·subst hst
     rw[hBe]
     refine⟨hs0, .inr ⟨b',vs',Ak _ _ _,hheap,by omega,fun i hi'=> ?_⟩⟩
     cases c with
     |cells cs=>have:=hc0 cs rfl;omega|data f=>
      refine⟨(hca.2 i hi').1,fun j d hd=> ?_⟩
      obtain⟨v,hv,hrd⟩:=(hca.2 i hi').2 j d hd
      have hlt:=(List.getElem?_eq_some_iff.1 hv).1
      rw[hca.1]at hlt
      exact⟨v,get _ v hlt hv,hrd.keep (fun _ _ hi=>hi) hcell⟩
    ·rw[hBe]at hB2;cases hB2
   ·rcases hst with⟨_,f,hB2⟩|⟨hst,_⟩
    ·rw[hBe]at hB2;cases hB2
    ·subst hst hce
     rw[hBe]
     have hcs:RepCs O w (Ce O I ks) cs (olds++news):=hca.2
     have hcl:=hcs.1
     have hal:=hca.1
     refine⟨b',vs',Ak _ _ _,hheap,by omega,fun i c v h1 h2=> ?_⟩
     have hlt:i<(olds++news).length:=by rw[<-hcl];exact(List.getElem?_eq_some_iff.1 h1).1
     have hv:(olds++news)[i]? =some v:=by
      have h3:=get i ((olds++news)[i]) (by rw[<-hal];exact hlt) (by simp[hlt]);rw[h2]at h3;simp at h3;rw[h3];simp[hlt]
     have hrc:=hcs.2 i c v h1 hv
     exact hrc.keep ⟨k.mono,fun _ _ hi=>hi,hcell,k.shapes⟩
  rcases hcase with⟨rfl,rfl,hz0,hdst⟩|⟨b',cap',vs',rfl,hsz,hle,htake,hcase⟩
  ·--nil
   refine fin (.row none 0) (Nat.le_refl _) (fun b hb=>by cases hb) (.refl _ _ _) rfl rfl rfl (fun _ _ _=>rfl) (.inl ⟨hz0,rfl, .inr ⟨0,Ak _ _ _⟩⟩) (fun k=> ?_)
   rcases hB with⟨hBe,_⟩|⟨cs,hce,hBe,h1,h2⟩
   ·rw[hBe,hz0]
    exact⟨hs0, .inl ⟨Ak _ _ _,rfl⟩⟩
   ·exfalso
    rcases hdst with hdst|⟨h',k',hdst,hk'⟩
    ·have:=h1 hdst;omega
    ·exact h2 h' 0 hdst k' hk'
  ·obtain⟨st,hstb,hst⟩: ∃st:Nst,st.blk=some b'/\(st= .row (some b') (Ba dst+Bk src)/\(∃f,B= .row (Ba dst+Bk src) f sz e)\/st= .at b'/\ ∃cs,B= .cells cs e):=by
    rcases hB with⟨hBe,_⟩|⟨cs,_,hBe,_⟩
    ·exact⟨.row (some b') (Ba dst+Bk src),rfl, .inl ⟨rfl,_,hBe⟩⟩
    ·exact⟨.at b',rfl, .inr ⟨rfl,cs,hBe⟩⟩
   have hlenN: ∀ob n,st= .row ob n ->Ba dst+Bk src<=n:=fun ob n he=>by
    rcases hst with⟨h1,_⟩|⟨h1,_⟩
    ·rw[h1]at he;cases he;exact Nat.le_refl _
    ·rw[h1]at he;cases he
   rcases hcase with⟨rfl,rfl,_⟩|⟨h',n',vs,hdst,hb',hheap,hsz',rfl⟩
   ·--a new row
    have hheap':(w.drew.alloc (.cells vs' e)).heap[w.heap.size]? =some (.cells vs' e (0,0)):=Ly w.drew _
    have hpl:=h.toPlace.kill ks
    have hcell: ∀b o,Ce O I ks b o ->(w.drew.alloc (.cells vs' e)).cell? ⟨b,o,none⟩=w.cell? ⟨b,o,none⟩:=fun b o hi'=>by
     have:=World.cell?_alloc_lt (w:=w.drew) (a:=⟨b,o,none⟩) (o:= .cells vs' e) (hpl.old b o hi');exact this
    have hsh:Shapes w (w.drew.alloc (.cells vs' e)):=Shapes.trans (Keep.drew O I w).shapes (Shapes.alloc w.drew _)
    refine fin st (by simp) (fun b hb=> ?_) ⟨.refl _,fun _ _ hi=>hi,hcell,hsh⟩ rfl rfl rfl (fun b hb _=> ?_) (.inr ⟨w.heap.size,cap',rfl,hle, .inr ⟨by rw[Ak];exact hstb,fun ob n he=>hlenN ob n (by rw[Ak]at he;exact he),vs',e,(0,0),hheap',hsz⟩⟩) (hblk st _ cap' vs' hst hheap' hsz hle htake hcell)
    ·rw[hstb]at hb;cases hb;exact⟨by simp, .inl (Nat.le_refl _)⟩
    ·exact Below.heap_alloc w.drew _ _ hb
   ·--in place
    have hheap':=setRow_heap w b' vs vs' e (0,0) hheap
    have hdm:=AmU hdst
    have hpl:=h.toPlace.kill ks
    have hbk:(Bp O ks h').blk=some b':=by simp[Bp,hdk h' hdm];exact hb'
    have hext2:=Mn hbk hpl hheap hsz'
    refine fin st (by simp) (fun b hb=> ?_) (hext2.keep (.refl _)) rfl rfl rfl (fun b _ hnb=>setRow_other _ _ _ _ (fun ee=>hnb h' hdm (ee▸hb'))) (.inr ⟨b',cap',rfl,hle, .inr ⟨by rw[Ak];exact hstb,fun ob n he=>hlenN ob n (by rw[Ak]at he;exact he),vs',e,(0,0),hheap',hsz⟩⟩) (hblk st _ cap' vs' hst hheap' hsz hle htake hext2.cell)
    rw[hstb]at hb;cases hb
    exact⟨by simp;exact h.lt h' _ hb', .inr ⟨h',hdm,hb'⟩⟩
 unfold Jz at ha;split at ha
 ·rename_i xs ys rd' hdc hsc;simp at ha;obtain⟨rfl,rfl,rfl⟩:=ha;obtain⟨olds,hdv,hca1⟩:=Ako h hd hdc;obtain⟨news,hsrc,hca2⟩:=AjJ (P:=P) h hs0 hk hks hx hsc;have key:=hca1.appC hca2;have hkil:Ce O I []=I:=by funext b o;simp[Ce]
  have:=main (.cells (xs++ys)) [] (appB dst (Bk src) (xs++ys) sz e) olds news hdv hca1.1 hsrc (fun k hk=>by simp at hk) (fun k _ hk=>by simp at hk) (by rw[hkil];exact key) (by
   cases dst with
   |none=>
    simp only[appB];cases hb:Nat.beq (Bk src) 0 with
    |true=>
     have:=zg hb;left;simp only[za];exact⟨by simp[Ba,this],fun cs _=>by simp[Ba,this]⟩
    |false=>
     right;simp only[zb];have hpos:Bk src≠0:=fun hx=>by rw[hx]at hb;simp at hb
     exact⟨_,rfl,rfl,fun _=>by omega,fun h n hx=>by cases hx⟩
   |some p=>
    right;refine⟨_,rfl,rfl,(fun hx=>by cases hx),fun h' n' hx k hk'=> ?_⟩;obtain⟨hh,n⟩:=p;cases hx;simp only[dstC]at hdc;split at hdc
    ·rename_i cs t0 hl;obtain⟨b,vs,hb,_⟩:=h.blk _ _ hl;rw[hk']at hb;cases hb
    ·rename_i m0 f0 sz0 t0 hl;cases hq:(Nat.beq t0 e&&Nat.beq sz sz0)<;>(rw[hq]at hdc;simp at hdc)
    ·simp at hdc)
  simpa using this
 ·rename_i a b rd' hno hdc hsc;split at ha
  ·rename_i f ks g ks' hf hg;cases hdj:disj (Bz dst) (ks++ks')with
   |false=>rw[hdj]at ha;cases ha|true=>
    rw[hdj]at ha;simp only[za,zj,Prod.mk.injEq]at ha;obtain⟨rfl,rfl,rfl⟩:=ha;obtain⟨olds,hdv,hca1⟩:=Ako h hd hdc;obtain⟨news,hsrc,hca2⟩:=AjJ (P:=P) h hs0 hk hks hx hsc;obtain⟨k1,d1⟩:=Vq h hca1 hf;obtain⟨k2,d2⟩:=Vq h hca2 hg;have e1:=d1 (Ce O I (ks++ks')) (fun _ _ hi=> .inl hi) (fun k hk' b hb o=> .inr ⟨k,by simp[hk'],hb⟩);have e2:=d2 (Ce O I (ks++ks')) (fun _ _ hi=> .inl hi) (fun k hk' b hb o=> .inr ⟨k,by simp[hk'],hb⟩);have key:ContAt O w (Ce O I (ks++ks')) sz (Ba dst+Bk src) (.data (appD dst (Ba dst) f g)) (olds++news):=by
     cases dst with
     |none=>
      have holds:olds=[]:=List.eq_nil_of_length_eq_zero (by have:=hca1.1;simpa[Ba]using this);subst holds;simpa[Ba,appD]using e2
     |some p=>exact e1.app e2
    exact main (.data (appD dst (Ba dst) f g)) (ks++ks') _ olds news hdv hca1.1 hsrc (fun k hk'=>(List.mem_append.1 hk').elim (k1 k) (k2 k)) (fun k hk'=>P0 hdj hk') key (.inl ⟨rfl,fun cs hx=>by cases hx⟩)
  ·simp at ha
 ·simp at ha
end
section
variable {O:Bt}{I:Im}{w:World}{P:Program}{H:Hp}
def OpOk(O:Bt)(I:Im)(w:World)(x:AV)(u:Ups)(H:Hp)(r:Result Next):Prop:=
 ∃nx w' O' I',r= .ok nx w'/\((∃v,nx= .value v/\RepA O' w' I' x v)\/(nx= .skip/\x= .tup []))/\RelH O' (A9 u H) I' w'/\Ext O I O' I' w w'/\Mono O O'
theorem A0{x:AV}{v:Value}{r:Result Next}(hr:r= .ok (.value v) w)(hx:RepA O w I x v)(h:RelH O H I w):OpOk O I w x [] H r:=
 ⟨_,w,O,I,hr, .inl ⟨v,rfl,hx⟩,h, .refl _ _ _, .refl O⟩
theorem Lb{r:Value}{ok:Bool}{x:AV}(h:val1 r=some (ok, .val x)):ok=true/\RepA O w I x r:=by
 unfold val1 at h;split at h
 ·rename_i d hd;simp at h;obtain⟨rfl,rfl⟩:=h;exact⟨rfl,Qi hd⟩
 ·simp at h
theorem La{r:Value}{ok:Bool}{a:Do}(h:val1 r=some (ok,a)): ∃x,a= .val x:=by
 unfold val1 at h;split at h
 ·simp at h;exact⟨_,h.2.symm⟩
 ·simp at h
variable {ρ:Operand ->AV}{ρv:Operand ->Value}{dst:Option Tmp}{ty:TypeId}{pos:String}{after:Array Edge}{guard:Option (Nat×Bool)}{a:Do}{x:AV}{ft:Foot}{u:Ups}{h0:Nat}
theorem As{y:AV}(hp:Ax h0 (.val y) H=some (x,ft,u)):x=y/\u=[]:=by
 simp[Ax]at hp;exact⟨hp.1.symm,hp.2.2⟩
theorem A7{y:AV}{v c:Value}(e:y= .c (.d (.v c)))(h:RepA O w I y v):v=c:=by
 subst e;exact RepD.v_eq h
theorem AlV{c p q:Operand}(hρ: ∀x,RepA O w I (ρ x) (ρv x))(h:RelH O H I w)(hs:res P ⟨dst, .pick c p q,ty,pos,after,guard⟩ ρ=some (true,a))(hp:Ax h0 a H=some (x,ft,u)):
  OpOk O I w x u H ((execOp ρv ⟨dst, .pick c p q,ty,pos,after,guard⟩).run P w):=by
 simp only[res]at hs;split at hs
 ·rename_i t ht;simp at hs;subst hs;obtain⟨rfl,rfl⟩:=As hp;have e:=A7 ht (hρ c);refine A0 (v:=if t then ρv p else ρv q) (by simp[execOp,e,asBool]) ?_ h;cases t<;>exact hρ _
 ·simp at hs
theorem Ho{e:TypeId}{cs:List C}(h:Sf P e=some cs): ∃z,(zeroValue e).run P w= .ok z w/\RepCs O w I cs z.cells.toList/\ ∃i,P.info? e=some i/\i.zero=some z:=by
 unfold Sf at h;split at h
 ·rename_i z hz;cases hi:P.info? e with
  |none=>simp[hi]at hz|some i=>simp[hi]at hz;exact⟨z,by simp[zeroValue,typeInfo,hi,hz],Rx h,i,rfl,hz⟩
 ·simp at h
theorem Aev{cs:List C}{vs:Array Value}{t:TypeId}{y:AV}{v:Value}{r:Result Next}(h:RelH O H I w)(hn:O h0= .free)(hl:cs.length<=vs.size)(hr: ∀(i:Nat) c v,cs[i]? =some c ->vs[i]? =some v ->RepC O w I c v)
  (he:r= .ok (.value v) (w.alloc (.cells vs t))) (hy:RepA (setB O h0 (.at w.heap.size)) (w.alloc (.cells vs t)) I y v):OpOk O I w y [(h0, .cells cs t)] H r:=
 ⟨_,_,_,_,he, .inl ⟨v,rfl,hy⟩,h.newCells hn t hl hr, .new h.toPlace hn _ _ (fun b hb=>by simpa[Nst.blk]using hb.symm), .set hn _⟩
theorem AeF(h0:Nat)(o:Obj):RepA (setB O h0 (.at w.heap.size)) (w.alloc o) I (.c (.ptr h0 0)) (.pointer (some ⟨w.heap.size,0,none⟩)):=⟨_,rfl, .inr (Ak _ _ _)⟩
theorem Gh{B:Blk}{mk:Nat ->AV}(hp:Ax h0 (.alloc B mk) H=some (x,ft,u)):x=mk h0/\u=[(h0,B)]:=by
 simp[Ax]at hp;exact⟨hp.1.symm,hp.2.2.symm⟩
theorem Ajf{e:TypeId}(hn:O h0= .free)(h:RelH O H I w)(hs:res P ⟨dst, .alloc e,ty,pos,after,guard⟩ ρ=some (true,a))(hp:Ax h0 a H=some (x,ft,u)):
  OpOk O I w x u H ((execOp ρv ⟨dst, .alloc e,ty,pos,after,guard⟩).run P w):=by
 simp only[res]at hs;split at hs
 ·rename_i cs hcs;simp at hs;subst hs;obtain⟨rfl,rfl⟩:=Gh hp;obtain⟨z,hz,hr,_⟩:=Ho (O:=O) (I:=I) (w:=w) hcs;have hl:=hr.1;exact Aev h hn (vs:=z.cells) (by simp at hl;omega) (fun i c v h1 h2=>hr.2 i c v h1 (by simpa using h2)) (by simp[execOp,Instr.alloc,hz,newVar,newRow]) (AeF h0 _)
 ·simp at hs
theorem Apm{e:TypeId}{y:Operand}(hn:O h0= .free)(hρ: ∀x,RepA O w I (ρ x) (ρv x))(h:RelH O H I w)(hs:res P ⟨dst, .box e y,ty,pos,after,guard⟩ ρ=some (true,a))(hp:Ax h0 a H=some (x,ft,u)):
  OpOk O I w x u H ((execOp ρv ⟨dst, .box e y,ty,pos,after,guard⟩).run P w):=by
 simp only[res]at hs;split at hs
 ·rename_i cs hcs;simp at hs;subst hs;obtain⟨rfl,rfl⟩:=Gh hp;have hr:=K6 hcs (hρ y);have hl:=hr.1;exact Aev h hn (vs:=(ρv y).cells) (by simp at hl;omega) (fun i c v h1 h2=>hr.2 i c v h1 (by simpa using h2)) (by simp[execOp,Instr.box,newVar,newRow]) (AeF h0 _)
 ·simp at hs
theorem Acf{cs:List C}{vs:List Value}{off n:Nat}{ag:Bool}{x:AV}(hcl:cs.length<=vs.length)(hcv: ∀(i:Nat) c v,cs[i]? =some c ->vs[i]? =some v ->RepC O w I c v)(hl:Ke cs off n ag=some x):
  RepCs O w I cs (vs.take cs.length):=by
 refine⟨by simp;omega,fun i c v h1 h2=> ?_⟩;rw[List.getElem?_take]at h2;split at h2
 ·exact hcv i c v h1 h2
 ·simp at h2
theorem Uf{t:TypeId}{k sz i off b n:Nat}{ag:Bool}(h:RelH O H I w)(hag:aggT P t=some ag)(hsz:Bm P t=some n)(hb:(O k).blk=some b)(hin: ∀ob m,O k= .row ob m ->i<m)(hl:Gl H k sz i off (bif ag then n else 1) ag=some x):
  ∃v,(loadVar t ⟨b,i*sz+off,none⟩).run P w= .ok v w/\RepA O w I x v:=by
 unfold Gl at hl;split at hl
 ·rename_i cs t' hk;obtain⟨b',vs,hb',hheap,hcl,hcv⟩:=h.blk k _ hk;have:b'=b:=by rw[hb']at hb;simpa[Nst.blk]using hb
  subst this;have hrep:=Acf (vs:=vs.toList) (by simpa using hcl) (fun i c v h1 h2=>hcv i c v h1 (by simpa using h2)) hl;obtain⟨v,hrun,hx⟩:=F4 (P:=P) (b:=b') (off:=0) hag hsz (fun j v hj=>by
   rw[Nat.zero_add];rw[List.getElem?_take]at hj;split at hj
   ·exact Mg hheap j v hj
   ·simp at hj) hrep hl
  rw[Nat.zero_add]at hrun;exact⟨v,hrun,hx⟩
 ·rename_i m f sz' t' hk;cases hz:Nat.beq sz sz' with
  |false=>simp[hz]at hl|true=>
   have hz':=zg hz;subst hz';simp only[hz,za]at hl;obtain⟨hsz0,hB⟩:=h.blk k _ hk;rcases hB with⟨h1,_⟩|⟨b',vs,hb',hheap,hcl,hcv⟩
   ·rw[h1]at hb;cases hb
   ·have:b'=b:=by rw[hb']at hb;simpa[Nst.blk]using hb
    subst this;have hi:=hin _ _ hb';obtain⟨hfl,hfv⟩:=hcv i hi;have hmul:i*sz+sz<=m*sz:=by have:=Nat.mul_le_mul_right sz hi;rw[Nat.succ_mul]at this;exact this
    have hlen:((vs.toList.drop (i*sz)).take sz).length=sz:=by simp;omega
    have hrep:RepCs O w I ((f i).map .d) ((vs.toList.drop (i*sz)).take sz):=by
     refine⟨by rw[hlen];simpa using hfl,fun j c v h1 h2=> ?_⟩;simp at h1;obtain⟨d,hd,rfl⟩:=h1;obtain⟨v',hv',hrd⟩:=hfv j d hd;rw[List.getElem?_take]at h2;split at h2
     ·rw[List.getElem?_drop]at h2;have h2':vs[i*sz+j]? =some v:=by simpa using h2
      rw[hv']at h2';simp at h2';subst h2';exact hrd
     ·simp at h2
    obtain⟨v,hrun,hx⟩:=F4 (P:=P) (b:=b') (off:=i*sz) hag hsz (fun j v hj=>by
     rw[List.getElem?_take]at hj;split at hj
     ·rw[List.getElem?_drop]at hj;exact Mg hheap _ v hj
     ·simp at hj) hrep hl
    exact⟨v,hrun,hx⟩
 ·simp at hl
theorem G7{k sz i off n:Nat}{ag:Bool}(h:RelH O H I w)(hl:Gl H k sz i off n ag=some x):O k≠ .dead:=by
 intro e;unfold Gl at hl;split at hl
 ·rename_i cs t' hk;obtain⟨b',vs,hb',_⟩:=h.blk k _ hk;rw[e]at hb';cases hb'
 ·rename_i m f sz' t' hk;obtain⟨_,hB⟩:=h.blk k _ hk;rcases hB with⟨h1,_⟩|⟨b',vs,hb',_⟩
  ·rw[e]at h1;cases h1
  ·rw[e]at hb';cases hb'
 ·simp at hl
theorem Kh{k sz i off:Nat}{cs:List C}{r:Ups×List Nat}(h:RelH O H I w)(hl:Eh H k sz i off cs=some r):O k≠ .dead:=by
 intro e;unfold Eh at hl;split at hl
 ·rename_i cs t' hk;obtain⟨b',vs,hb',_⟩:=h.blk k _ hk;rw[e]at hb';cases hb'
 ·rename_i m f sz' t' hk;obtain⟨_,hB⟩:=h.blk k _ hk;rcases hB with⟨h1,_⟩|⟨b',vs,hb',_⟩
  ·rw[e]at h1;cases h1
  ·rw[e]at hb';cases hb'
 ·simp at hl
theorem Amn{t:TypeId}{y:Operand}(hρ: ∀x,RepA O w I (ρ x) (ρv x))(h:RelH O H I w)(hs:res P ⟨dst, .load t y,ty,pos,after,guard⟩ ρ=some (true,a))(hp:Ax h0 a H=some (x,ft,u)):
  OpOk O I w x u H ((execOp ρv ⟨dst, .load t y,ty,pos,after,guard⟩).run P w):=by
 simp only[res]at hs;split at hs
 ·rename_i ag n hag hsz;split at hs
  ·rename_i k off hy;simp at hs;subst hs;simp only[Ax]at hp;split at hp
   ·rename_i y' hl;simp at hp;obtain⟨rfl,rfl,rfl⟩:=hp;have hv:=hρ y;rw[hy]at hv;have hv:PtrAt O k off (ρv y):=hv;obtain⟨b,hv,hd|hb⟩:=hv
    ·exact absurd hd (G7 h hl)
    ·obtain⟨v,hrun,hx⟩:=Uf (P:=P) h hag hsz (b:=b) (by rw[hb];rfl) (fun ob m e=>by rw[hb]at e;cases e) hl;simp only[Nat.zero_mul,Nat.zero_add]at hrun;exact A0 (v:=v) (by simp[execOp,Instr.loadAt,Instr.sureAddr,hv,hrun]) hx h
   ·simp at hp
  ·rename_i k sz i off hy;simp at hs;subst hs;simp only[Ax]at hp;split at hp
   ·rename_i y' hl;simp at hp;obtain⟨rfl,rfl,rfl⟩:=hp;have hv:=hρ y;rw[hy]at hv;have hv:EptAt O k sz i off (ρv y):=hv;obtain⟨b,hv,hd|⟨hb,hin⟩⟩:=hv
    ·exact absurd hd (G7 h hl)
    ·obtain⟨v,hrun,hx⟩:=Uf (P:=P) h hag hsz hb hin hl;exact A0 (v:=v) (by simp[execOp,Instr.loadAt,Instr.sureAddr,hv,hrun]) hx h
   ·simp at hp
  ·rename_i l hy;split at hs
   ·rename_i y' hl;simp at hs;subst hs;obtain⟨rfl,rfl⟩:=As hp;have hv:=hρ y;rw[hy]at hv;obtain⟨b,off,hv,hj⟩:=hv;have hrep:RepCs O w I (l.map .d) ((List.range l.length).map fun j=>(w.cell? ⟨b,off+j,none⟩).getD undef):=by
     refine⟨by simp,fun i c v h1 h2=> ?_⟩;simp at h1 h2;obtain⟨d,hd,rfl⟩:=h1;obtain⟨i',hi',rfl⟩:=h2;obtain⟨hlt,rfl⟩:=List.getElem?_eq_some_iff.1 hi';simp at hlt⊢;obtain⟨z,h1,_,h3⟩:=hj i d hd;rw[h1];exact h3
    obtain⟨v,hrun,hx⟩:=F4 (P:=P) (off:=off) hag hsz (fun j v hjv=>by
     simp at hjv;obtain⟨i',hi',hv'⟩:=hjv;obtain⟨hlt,rfl⟩:=List.getElem?_eq_some_iff.1 hi';simp at hlt hv';obtain⟨z,h1,_,_⟩:=hj j l[j] (by simp[hlt]);rw[h1]at hv'⊢;simpa using hv') hrep hl
    rw[Nat.add_zero]at hrun;exact A0 (v:=v) (by simp[execOp,Instr.loadAt,Instr.sureAddr,hv,hrun]) hx h
   ·simp at hs
  ·simp at hs
 ·simp at hs
theorem Ahb{t:TypeId}{y z:Operand}(hρ: ∀x,RepA O w I (ρ x) (ρv x))(h:RelH O H I w)(hs:res P ⟨dst, .store t y z,ty,pos,after,guard⟩ ρ=some (true,a))(hp:Ax h0 a H=some (x,ft,u)):
  OpOk O I w x u H ((execOp ρv ⟨dst, .store t y z,ty,pos,after,guard⟩).run P w):=by
 simp only[res]at hs;split at hs
 ·rename_i n cs hsz hz;split at hs
  ·rename_i hn;have hrep:=K6 hz (hρ z);have hc:(ρv z).cells.size=n:=by have:=hrep.1;simp at this;omega
   have go: ∀(k sz i off b:Nat),Ax h0 (.store k sz i off cs) H=some (x,ft,u) ->(O k).blk=some b ->(∀ob m,O k= .row ob m ->i<m) ->ρv y= .pointer (some ⟨b,i*sz+off,none⟩) ->
    OpOk O I w x u H ((execOp ρv ⟨dst, .store t y z,ty,pos,after,guard⟩).run P w):=by
    intro k sz i off b hp hb hin hv
    simp only[Ax]at hp
    split at hp
    ·rename_i u' rd hst
     simp at hp
     obtain⟨rfl,rfl,rfl⟩:=hp
     obtain⟨w',O',I',hrun,h1,h2,h3⟩:=Adj (P:=P) h hb hin hrep hst
     refine⟨.skip,w',O',I', ?_, .inr ⟨rfl,rfl⟩,h1,h2,h3⟩
     simp[execOp,Instr.storeAt,Instr.sureAddr,hv,storeVar,Bn hsz,hc,hrun]
    ·simp at hp
   split at hs
   ·rename_i k off hy;simp at hs;subst hs;have hv:=hρ y;rw[hy]at hv;have hv:PtrAt O k off (ρv y):=hv;obtain⟨b,hv,hd|hb⟩:=hv
    ·simp only[Ax]at hp;split at hp
     ·rename_i u' rd hst;exact absurd hd (Kh h hst)
     ·simp at hp
    ·exact go k 0 0 off b hp (by rw[hb];rfl) (fun ob m e=>by rw[hb]at e;cases e) (by simpa using hv)
   ·rename_i k sz i off hy;simp at hs;subst hs;have hv:=hρ y;rw[hy]at hv;have hv:EptAt O k sz i off (ρv y):=hv;obtain⟨b,hv,hd|⟨hb,hin⟩⟩:=hv
    ·simp only[Ax]at hp;split at hp
     ·rename_i u' rd hst;exact absurd hd (Kh h hst)
     ·simp at hp
    ·exact go k sz i off b hp hb hin hv
   ·simp at hs
  ·simp at hs
 ·simp at hs
theorem Wh{y:Operand}{v:Value}(hv:ρv y=v)(hp:(∃a,v= .pointer (some a))\/ ∃f a b,v= .func (.func f) a b):(execOp ρv ⟨dst, .nilCheck y,ty,pos,after,guard⟩).run P w= .ok (.value v) w:=by
 rcases hp with⟨a,rfl⟩|⟨f,a,b,rfl⟩<;>simp[execOp,hv]
theorem Yp{y:Operand}(hρ: ∀x,RepA O w I (ρ x) (ρv x))(h:RelH O H I w)(hs:res P ⟨dst, .nilCheck y,ty,pos,after,guard⟩ ρ=some (true,a))(hp:Ax h0 a H=some (x,ft,u)):
  OpOk O I w x u H ((execOp ρv ⟨dst, .nilCheck y,ty,pos,after,guard⟩).run P w):=by
 simp only[res]at hs;have hv:=hρ y;split at hs<;>first|(simp at hs;done)|skip
 all_goals
  rename_i hy
  simp at hs;subst hs;obtain⟨rfl,rfl⟩:=As hp
  have hv1:=hv
  rw[hy]at hv1
  rw[hy]at hv
  refine A0 (v:=ρv y) (Wh rfl ?_) hv h
 ·obtain⟨b,hv,_⟩:=hv1;exact .inl ⟨_,hv⟩
 ·obtain⟨b,hv,_⟩:=hv1;exact .inl ⟨_,hv⟩
 ·obtain⟨b,off,hv,_⟩:=hv1;exact .inl ⟨_,hv⟩
 ·obtain⟨fs,cs,hv,_⟩:=hv1;exact .inr ⟨_,_,_,hv⟩
theorem Ald{op:UnOp}{t:TypeId}{y:Operand}(hρ: ∀x,RepA O w I (ρ x) (ρv x))(h:RelH O H I w)(hs:res P ⟨dst, .unOp op t y,ty,pos,after,guard⟩ ρ=some (true,a))(hp:Ax h0 a H=some (x,ft,u)):
  OpOk O I w x u H ((execOp ρv ⟨dst, .unOp op t y,ty,pos,after,guard⟩).run P w):=by
 simp only[res]at hs;split at hs
 ·rename_i c hy;split at hs
  ·rename_i r hr;obtain⟨x',rfl⟩:=La hs;obtain⟨rfl,rfl⟩:=As hp;have e:=A7 hy (hρ y);exact A0 (v:=r) (by simp[execOp,e,Aek P _ r hr w]) (Lb hs).2 h
  ·simp at hs
 ·simp at hs
theorem Yu{e:TypeId}(hc:P.cellsOf e≠0)(count n:Nat)(hn:n<=count):liesAt P P.depth e count 0 e n=true:=by
 have hd:P.depth=(2*(P.types.size+Made.depth)+1)+1:=rfl;rw[hd];simp only[liesAt,Bool.or_eq_true];left;rw[hd];simp[rowAt,hc,hn,sameLayout]
theorem Th{l:List D}{b:UInt8}(h:Mh l=some b):l=[.v (.int .u8 b.toNat)]:=by
 unfold Mh at h;split at h
 ·rename_i x;split at h
  ·rename_i e;simp only[zj]at h;subst h;rw[<-e]
  ·cases h
 ·cases h
theorem Rp: ∀cs:List C,(Dl cs).length=cs.length
 |[]=>rfl|c::r=>by cases c<;>simp[Dl,Rp r]
theorem Rq: ∀(cs:List C) (i:Nat) (b:UInt8),(Dl cs)[i]? =some (some b) ->cs[i]? =some (.d (.v (.int .u8 b.toNat)))
 |[],i,b,h=>by simp[Dl]at h|c::r,0,b,h=>by
  cases c<;>simp only[Dl,List.getElem?_cons_zero,zj]at h
  case d x=>
   have:=Th h
   simp only[List.cons.injEq,and_true]at this
   simp[this]
  all_goals cases h
 |c::r,i+1,b,h=>by
  have:(Dl r)[i]? =some (some b):=by cases c<;>simpa[Dl]using h
  simpa using Rq r i b this
theorem Acx{k len b cap:Nat}(h:RelH O H I w)(hc:Ey len (look H k)=true)(hd:O k= .dead\/((O k).blk=some b/\(∀ob n,O k= .row ob n ->len<=n)/\ ∃vs t fz,w.heap[b]? =some (.cells vs t fz)/\vs.size=cap*1)):
  ∃bs:List UInt8,bs.length=len/\K5 len (look H k)=⟨bs.toArray⟩/\ ∀i,i<len ->w.cell? ⟨b,i,none⟩=some (.int .u8 ((bs.getD i 0).toNat:Int)):=by
 cases hl:look H k with
 |none=>rw[hl]at hc;cases hc|some B=>
  rw[hl]at hc;have hB:=h.blk k _ hl;cases B with
  |cells cs t=>
   simp only[Ey,zd]at hc;have hle:=Nat.le_of_ble_eq_true hc.1;obtain⟨b',vs,hb',hheap,hlen,hrep⟩:=hB;have hbb:b'=b:=by
    rcases hd with hd|⟨hd,_⟩
    ·rw[hb']at hd;cases hd
    ·rw[hb']at hd;simpa[Nst.blk]using hd
   subst hbb;have hl2:=Rp cs;refine⟨((Dl cs).take len).map (·.getD 0),by simp;omega,rfl,fun i hi=> ?_⟩;have hi2:i<(Dl cs).length:=by omega
   have hs:=List.all_eq_true.1 hc.2 ((Dl cs)[i]) (by
    rw[List.mem_iff_getElem?];exact⟨i,by rw[List.getElem?_take,if_pos hi];exact zn hi2⟩)
   obtain⟨bb,hbb⟩:=Option.isSome_iff_exists.1 hs;have hg:=Rq cs i bb (by rw[zn hi2,hbb]);have hvi:i<vs.size:=by omega
   have hr:=hrep i _ vs[i] hg (by simp);have hv:=RepD.v_eq hr;have e:((((Dl cs).take len).map (·.getD 0)).getD i 0)=bb:=by
    simp[List.getD,List.getElem?_take,hi,zn hi2,hbb]
   rw[e];simp[World.cell?,hheap,hvi,hv]
  |row m f sz t=>
   simp only[Ey,zd]at hc;obtain⟨⟨hc1,hc2⟩,hc3⟩:=hc;have hm:=Nat.le_of_ble_eq_true hc1;have e1:=zg hc2;subst e1;refine⟨(List.range len).map fun i=>(Mh (f i)).getD 0,by simp,rfl,fun i hi=> ?_⟩;obtain⟨_,hrow⟩:=hB;rcases hrow with⟨hr,hn⟩|⟨b',vs,hr,hheap,hmv,hcells⟩
   ·omega
   ·have hbb:b'=b:=by
     rcases hd with hd|⟨hd,_⟩
     ·rw[hr]at hd;cases hd
     ·rw[hr]at hd;simpa[Nst.blk]using hd
    subst hbb;have hs:=List.all_eq_true.1 hc3 i (by simpa using hi);obtain⟨bb,hbb⟩:=Option.isSome_iff_exists.1 hs;have hf:=Th hbb;obtain⟨_,hcell⟩:=hcells i (by omega);obtain⟨v,hv1,hv2⟩:=hcell 0 (.v (.int .u8 bb.toNat)) (by rw[hf];rfl);have:=RepD.v_eq hv2;subst this;simp at hv1;have e:(((List.range len).map fun i=>(Mh (f i)).getD 0).getD i 0)=bb:=by simp[List.getD,hi,hbb]
    rw[e];simp[World.cell?,hheap,hv1]
  |_=>cases hc
theorem AiR{s t e:TypeId}{b:BA}{us:TypeDesc}{r:Result Next}(h:RelH O H I w)(hsu:P.underlying s=some us)(htu:P.underlying t=some (.slice e))(hee:P.underlying e=some (.int .u8))
  (hr:r= .ok (.value (.slice (some ⟨w.heap.size,0,none⟩) b.size (grownCap w b.size 0 e))) (Lib.bytesWorld w e b)):OpOk O I w (.c (.d (.sl 1 b.size (strF b)))) [] H r:=by
 have hcell: ∀q o,I q o ->(Lib.bytesWorld w e b).cell? ⟨q,o,none⟩=w.cell? ⟨q,o,none⟩:=fun q o hi=>Lib.bytesWorld_old w e b ⟨q,o,none⟩ (h.old q o hi)
 have hsh:Shapes w (Lib.bytesWorld w e b):=fun q vs t' fz hq=>by
  have hlt:q<w.heap.size:=by
   rcases Nat.lt_or_ge q w.heap.size with h'|h'
   ·exact h'
   ·rw[Array.getElem?_eq_none h']at hq;cases hq
  exact⟨vs,fz,by rw[Lib.bytesWorld_at_old w e b q hlt];exact hq,rfl⟩
 have hsz:=Lib.bytesWorld_size w e b;have hk:Keep O I w O (fun q o=>I q o\/q=w.heap.size) (Lib.bytesWorld w e b):=⟨.refl O,fun _ _ hi=> .inl hi,hcell,hsh⟩
 have hpl : Place O (fun q o => I q o \/ q = w.heap.size) (Lib.bytesWorld w e b) := ⟨h.inj, fun x q hx => by have:=h.lt x q hx;omega,fun x q o hx hi=>by
  rcases hi with hi|hi
  ·exact h.off x q o hx hi
  ·have:=h.lt x q hx;omega,fun q o hi=>by
  rcases hi with hi|hi
  ·have:=h.old q o hi;omega
  ·omega,h.gl.step (fun _ _ hi=> .inl hi) hcell⟩
 refine⟨_,_,O,_,hr, .inl ⟨_,rfl, ?_⟩,h.step (u:=[]) hpl hk (fun x hx=>⟨rfl,fun q hq=>Lib.bytesWorld_at_old w e b q (h.lt x q hq)⟩) (fun x B hx=>by cases hx), ?_, .refl O⟩
 ·refine .sl b.size (strF b) 1 w.heap.size 0 _ (fun i _=> .int .u8 (b.data.toList.getD i 0).toNat) (by unfold grownCap;exact Nat.le_add_right _ _) (fun i hi=>rfl) (fun i j d hi hj=> ?_) (fun i j d hi hj=> .inr rfl) (fun i j d hi hj=> ?_)
  ·have hj0:j=0:=by
    have:j<1:=by
     have:=(List.getElem?_eq_some_iff.1 hj).1;simpa[strF]using this
    omega
   subst hj0;have:=Lib.bytesWorld_cell w e b i hi;simpa using this
  ·simp only[strF]at hj;cases j with
   |zero=>
    have hj:some (D.v (.int .u8 (b.data.toList.getD i 0).toNat))=some d:=hj;cases hj;exact .v _ rfl
   |succ j=>simp at hj
 ·exact⟨rfl,rfl,rfl,by omega,fun q hq _=>Lib.bytesWorld_at_old w e b q hq,fun _ _ hi=> .inl hi,hcell,fun q o hi=>hi.elim .inl fun hq=> .inr (.inl (by omega)),fun x q hx=> .inl ⟨x,hx⟩,hsh⟩
theorem Acy{s t:TypeId}{y:Operand}(hρ: ∀x,RepA O w I (ρ x) (ρv x))(h:RelH O H I w)(hs:res P ⟨dst, .convert s t y,ty,pos,after,guard⟩ ρ=some (true,a))(hp:Ax h0 a H=some (x,ft,u)):
  OpOk O I w x u H ((execOp ρv ⟨dst, .convert s t y,ty,pos,after,guard⟩).run P w):=by
 simp only[res]at hs;split at hs
 ·rename_i c hy;split at hs
  ·rename_i r hr;obtain⟨x',rfl⟩:=La hs;obtain⟨rfl,rfl⟩:=As hp;have e:=A7 hy (hρ y);exact A0 (v:=r) (by simp[execOp,e,Aek P _ r hr w]) (Lb hs).2 h
  ·rename_i hpr;clear hpr;have e:=A7 hy (hρ y);unfold strB at hs;split at hs
   ·rename_i b;split at hs
    ·rename_i us eT hsu htu;split at hs
     ·rename_i hee;simp at hs;subst hs;obtain⟨rfl,rfl⟩:=As hp;refine AiR h hsu htu hee ?_;simp only[execOp,e,Sem.run_bind];rw[Lib.run_convert_string_bytes w s t eT b hsu htu hee];rfl
     ·simp at hs
    ·simp at hs
   ·simp at hs
 ·rename_i k off hy;have hv:=hρ y;rw[hy]at hv;obtain⟨b,hv,hb⟩:=hv;split at hs
  ·rename_i e hsu htu;split at hs
   ·rename_i z hz;simp at hs;subst hs;simp only[Ax,AaZ]at hp;split at hp
    ·rename_i cs t' hl;cases hc:Nat.blt off cs.length with
     |false=>rw[hc]at hp;cases hp|true=>
      rw[hc]at hp;simp at hp;obtain⟨rfl,rfl,rfl⟩:=hp;obtain⟨b',vs,hb',hheap,hle,_⟩:=h.blk k _ hl;have hbb:=hb.resolve_left (by rw[hb'];exact fun e=>by cases e);rw[hb']at hbb;cases hbb;have hlt:off<cs.length:=by rw[bltD]at hc;simpa using hc
      obtain⟨j,hj,hjs⟩:=Option.map_eq_some_iff.1 hz;refine A0 (v:= .pointer (some ⟨b,off,none⟩)) ?_ ⟨b,rfl, .inr hb'⟩ h;simp only[execOp,hv,Sem.run_bind];rw[Lib.run_to_unsafe w ⟨b,off,none⟩ hsu htu hj (by omega) (e:=t') (cells:=vs.size) (by simp[World.shape?,hheap]) (Nat.lt_of_lt_of_le hlt hle)];rfl
    ·simp at hp
   ·simp at hs
  ·rename_i e hsu htu;split at hs
   ·rename_i z hz;simp at hs;subst hs;simp only[Ax,AaZ]at hp;split at hp
    ·rename_i cs t' hl;cases hc:(Nat.blt off cs.length&&(Nat.beq off 0&&Nat.beq t' e&&Nat.ble (z+1) cs.length))with
     |false=>rw[hc]at hp;cases hp|true=>
      rw[hc]at hp;simp only[za,zj,Prod.mk.injEq]at hp;obtain⟨rfl,rfl,rfl⟩:=hp;simp only[zd]at hc;obtain⟨hc1,⟨hc2,hc3⟩,hc4⟩:=hc;have e0:=zg hc2;have e1:=zg hc3;have e2:=Nat.le_of_ble_eq_true hc4;subst e0 e1;obtain⟨b',vs,hb',hheap,hle,_⟩:=h.blk k _ hl;have hbb:=hb.resolve_left (by rw[hb'];exact fun e=>by cases e);rw[hb']at hbb;cases hbb;obtain⟨j,hj,hjs⟩:=Option.map_eq_some_iff.1 hz;have hcell:P.cellsOf t'=z+1:=by simp[Program.cellsOf,hj,hjs]
      refine A0 (v:= .pointer (some ⟨b,0,none⟩)) ?_ ⟨b,rfl, .inr hb'⟩ h;simp only[execOp,hv,Sem.run_bind];rw[Lib.run_from_unsafe w ⟨b,0,none⟩ hsu htu hj (e:=t') (cells:=vs.size) (by simp[World.shape?,hheap]) (Yu (by omega) _ _ (by rw[hcell];exact(Nat.le_div_iff_mul_le (by omega)).2 (by omega)))];rfl
    ·simp at hp
   ·simp at hs
  ·simp at hs
 ·rename_i k sz len hy;have hv:=hρ y;rw[hy]at hv;split at hs
  ·rename_i e hsu htu;split at hs
   ·rename_i hee;split at hs
    ·rename_i e1;simp at hs;subst hs;subst e1;simp only[Ax]at hp;cases hc:Ey len (look H k)with
     |false=>rw[hc]at hp;cases hp|true=>
      rw[hc]at hp;simp at hp;obtain⟨rfl,rfl,rfl⟩:=hp;refine A0 (v:= .string (K5 len (look H k))) ?_ (.v _ rfl) h;rcases hv with⟨hl,hv,_⟩|⟨b,cap,hv,hle,hd⟩
      ·subst hl;have e2:K5 0 (look H k)=ByteArray.empty:=by
        unfold K5;split<;>rfl
       simp only[execOp,hv,Sem.run_bind];rw[run_convert_bytes_nil w s e hsu hee 0 0 t htu,e2];rfl
      ·obtain⟨bs,hbs,hS,hcell⟩:=Acx h hc hd;have hrun:=run_convert_bytes_arg (P:=P) w s e hsu hee b 0 len cap (bs.map fun b=>(b.toNat:Int)) (by simpa using hbs) (fun i hi=>by
        rw[Nat.zero_add,hcell i hi];simp[List.getD,show i<bs.length by omega]) t htu
       have es:strOfNums (bs.map fun b=>(b.toNat:Int))=K5 len (look H k):=by
        rw[hS];unfold strOfNums;congr 2;rw[List.map_map]
        conv=>rhs;rw[<-List.map_id bs]
        congr 1;funext b;simp
       simp only[execOp,hv,Sem.run_bind];rw[hrun,es];rfl
    ·simp at hs
   ·simp at hs
  ·simp at hs
 ·simp at hs
theorem Wz{s:TypeId}{y:Operand}{f:Nat}(hρ: ∀x,RepA O w I (ρ x) (ρv x))(h:RelH O H I w)(hs:res P ⟨dst, .fieldAddr s y f,ty,pos,after,guard⟩ ρ=some (true,a))(hp:Ax h0 a H=some (x,ft,u)):
  OpOk O I w x u H ((execOp ρv ⟨dst, .fieldAddr s y f,ty,pos,after,guard⟩).run P w):=by
 simp only[res]at hs;split at hs
 ·rename_i fields hu;split at hs
  ·rename_i fd hfd;split at hs
   ·rename_i m hm;have run: ∀b off,ρv y= .pointer (some ⟨b,off,none⟩) ->(execOp ρv ⟨dst, .fieldAddr s y f,ty,pos,after,guard⟩).run P w= .ok (.value (.pointer (some ⟨b,off+fd.offset,none⟩))) w:=fun b off hv'=>by
     simp[execOp,hv',Instr.fieldAt,run_underlying hu,hfd,Instr.sureAddr,fieldPlace,Bn hm,Cx]
    split at hs
    ·rename_i k off hy;simp at hs;subst hs;obtain⟨rfl,rfl⟩:=As hp;have hv:=hρ y;rw[hy]at hv;obtain⟨b,hv',hb⟩:=hv;exact A0 (run b off hv') ⟨b,rfl,hb⟩ h
    ·rename_i k sz i off hy;simp at hs;subst hs;obtain⟨rfl,rfl⟩:=As hp;have hv:=hρ y;rw[hy]at hv;obtain⟨b,hv',hb⟩:=hv;exact A0 (run b _ hv') ⟨b,by rw[Nat.add_assoc],hb⟩ h
    ·rename_i l hy;simp at hs;subst hs;obtain⟨rfl,rfl⟩:=As hp;have hv:=hρ y;rw[hy]at hv;obtain⟨b,off,hv',hj⟩:=hv;refine A0 (run b off hv') ⟨b,_,rfl,fun j d hd=> ?_⟩ h;rw[List.getElem?_drop]at hd;rw[Nat.add_assoc];exact hj _ d hd
    ·simp at hs
   ·simp at hs
  ·simp at hs
 ·simp at hs
theorem Aaw{t:TypeId}{ag:Bool}{n off:Nat}{cs:List C}{vs:Array Value}{y:AV}(hag:aggT P t=some ag)(hsz:Bm P t=some n)(h:RepCs O w I cs vs.toList)(hl:Ke cs off (bif ag then n else 1) ag=some y):
  ∃v,(part t vs off).run P w= .ok v w/\RepA O w I y v:=by
 obtain⟨hle,hx⟩:=Wk h hl;unfold part;cases ag with
 |true=>
  simp only[if_true,za]at hx;refine⟨_, ?_,hx⟩;simp only[Sem.run_bind,J6 hag,Result.andThen_ok,if_true,Bn hsz,Sem.run_pure];congr 2;apply Array.ext';simp[List.take_drop]
 |false=>
  simp only[Bool.false_eq_true,if_false]at hx;obtain⟨v,hv,hr⟩:=hx;refine⟨v, ?_,hr⟩;have:vs[off]? =some v:=by simpa using hv
  simp[J6 hag,this]
theorem Ait{t:TypeId}{y:Operand}{f:Nat}(hρ: ∀x,RepA O w I (ρ x) (ρv x))(h:RelH O H I w)(hs:res P ⟨dst, .field t y f,ty,pos,after,guard⟩ ρ=some (true,a))(hp:Ax h0 a H=some (x,ft,u)):
  OpOk O I w x u H ((execOp ρv ⟨dst, .field t y f,ty,pos,after,guard⟩).run P w):=by
 simp only[res]at hs;split at hs
 ·rename_i fields hu;split at hs
  ·rename_i fd hfd;split at hs
   ·rename_i ag n cs hag hsz hy;split at hs
    ·rename_i y' hl;simp at hs;subst hs;obtain⟨rfl,rfl⟩:=As hp;have hv:=hρ y;rw[hy]at hv;obtain⟨vs,hv',hr⟩:=hv;obtain⟨v,hrun,hx⟩:=Aaw (P:=P) hag hsz hr hl;exact A0 (v:=v) (by simp[execOp,hv',Instr.field,run_underlying hu,hfd,asAgg,hrun]) hx h
    ·simp at hs
   ·simp at hs
  ·simp at hs
 ·simp at hs
theorem Acs{y:Operand}{i:Nat}(hρ: ∀x,RepA O w I (ρ x) (ρv x))(h:RelH O H I w)(hs:res P ⟨dst, .extract y i,ty,pos,after,guard⟩ ρ=some (true,a))(hp:Ax h0 a H=some (x,ft,u)):
  OpOk O I w x u H ((execOp ρv ⟨dst, .extract y i,ty,pos,after,guard⟩).run P w):=by
 simp only[res]at hs;split at hs
 ·rename_i ps hy;have hv:=hρ y;rw[hy]at hv;obtain⟨vs,hv',hlen,hr⟩:=hv;have get: ∀p,ps[i]? =some p -> ∃v,vs[i]? =some v:=fun p hp=>by
   have:=(List.getElem?_eq_some_iff.1 hp).1;exact⟨vs[i]'(by omega),by simp[show i<vs.size by omega]⟩
  split at hs
  ·rename_i cs hp';simp at hs;subst hs;obtain⟨rfl,rfl⟩:=As hp;obtain⟨v,hvi⟩:=get _ hp';exact A0 (v:=v) (by simp[execOp,hv',Instr.extract,hvi]) (hr i _ v hp' hvi) h
  ·rename_i c hp';simp at hs;subst hs;obtain⟨rfl,rfl⟩:=As hp;obtain⟨v,hvi⟩:=get _ hp';obtain⟨c',hc',hrc⟩:=hr i _ v hp' hvi;have:c'=c:=by simpa using hc'.symm
   subst this;exact A0 (v:=v) (by simp[execOp,hv',Instr.extract,hvi]) hrc h
  ·simp at hs
 ·simp at hs
end
section
variable {O:Bt}{I:Im}{w:World}{P:Program}{H:Hp}
variable {ρ:Operand ->AV}{ρv:Operand ->Value}{dst:Option Tmp}{ty:TypeId}{pos:String}{after:Array Edge}{guard:Option (Nat×Bool)}{a:Do}{x:AV}{ft:Foot}{u:Ups}{h0:Nat}
theorem Afv(us:List Value): ∀(cur:Array Value) (off k:Nat),off+k+us.length<=cur.size ->
  (us.zipIdx k).foldl (fun cs (p:Value×Nat)=>cs.setIfInBounds (off+p.2) p.1) cur=(cur.toList.take (off+k)++us++cur.toList.drop (off+k+us.length)).toArray:=by
 induction us with
 |nil=>intro cur off k _;simp|cons v rest ih=>
  intro cur off k hle;simp only[List.zipIdx_cons,List.foldl_cons];rw[ih _ off (k+1) (by simp at hle⊢;omega)];congr 1;have e:=list_seg_step cur.toList (off+k) v rest (by simp at hle⊢;omega);simpa[Array.toList_setIfInBounds,Nat.add_assoc]using e
theorem P8{place:Nat ->Option (Nat×Nat)}: ∀{parts:List (Nat×Operand)} {cells:List C} {vs:Array Value} {cs:List C},(∀x,RepA O w I (ρ x) (ρv x)) ->RepCs O w I cells vs.toList ->
  Mx place cells (parts.map fun p=>(p.1,ρ p.2))=some cs -> ∃us,Instr.fill place vs (parts.map fun p=>(p.1,ρv p.2))=some us/\RepCs O w I cs us.toList
 |[],cells,vs,cs,_,hr,h=>by simp[Mx]at h;subst h;exact⟨vs,rfl,hr⟩|(i,o)::rest,cells,vs,cs,hρ,hr,h=>by
  simp only[List.map_cons,Mx]at h;split at h
  ·rename_i off size new hpl hnew;split at h
   ·rename_i hc;have hrep:=K6 hnew (hρ o);have hl:new.length=(ρv o).cells.size:=by have:=hrep.1;simpa using this
    have hlc:cells.length=vs.size:=by have:=hr.1;simpa using this
    have e:(ρv o).cells.zipIdx.foldl (fun cs (p:Value×Nat)=>cs.setIfInBounds (off+p.2) p.1) vs=(vs.toList.take off++(ρv o).cells.toList++vs.toList.drop (off+(ρv o).cells.toList.length)).toArray:=by
     rw[<-Array.foldl_toList,Array.toList_zipIdx];have:=Afv (ρv o).cells.toList vs off 0 (by simp;omega);simpa using this
    obtain⟨us,hus,hru⟩:=P8 (vs:=(vs.toList.take off++(ρv o).cells.toList++vs.toList.drop (off+(ρv o).cells.toList.length)).toArray) hρ (by simpa using hr.splice hrep off) h;refine⟨us, ?_,hru⟩;simp only[List.map_cons,Instr.fill,hpl];rw[if_neg (by simp;omega)];rw[<-hus];congr 1
   ·simp at h
  ·simp at h
theorem Q1: ∀{fs:List Field} {ps:List (Nat×Nat)},Mo P fs=some ps ->(fs.mapM fun f=>do pure (f.offset,<-sizeOf f.type):Sem (List (Nat×Nat))).run P w= .ok ps w
 |[],ps,h=>by simp[Mo]at h;subst h;rfl|f::r,ps,h=>by
  simp only[Mo]at h;split at h
  ·rename_i s l hs hl;simp at h;subst h;have ih:=Q1 hl;simp only[List.mapM_cons,Sem.run_bind,Bn hs,Result.andThen_ok,Sem.run_pure,ih]
  ·simp at h
theorem AiS{t:TypeId}{parts:Array (Nat×Operand)}(hρ: ∀x,RepA O w I (ρ x) (ρv x))(h:RelH O H I w)(hs:res P ⟨dst, .build t parts,ty,pos,after,guard⟩ ρ=some (true,a))(hp:Ax h0 a H=some (x,ft,u)):
  OpOk O I w x u H ((execOp ρv ⟨dst, .build t parts,ty,pos,after,guard⟩).run P w):=by
 simp only[res]at hs;split at hs
 ·rename_i fields z hu hz;split at hs
  ·rename_i ps hps;split at hs
   ·rename_i cs hcs;simp at hs;subst hs;obtain⟨rfl,rfl⟩:=As hp;obtain⟨zv,hzv,hzr,_⟩:=Ho (O:=O) (I:=I) (w:=w) hz;obtain⟨us,hus,hru⟩:=P8 hρ hzr hcs;refine A0 (v:= .agg us) ?_ ⟨us,rfl,hru⟩ h;have hm:(fields.mapM fun f=>do pure (f.offset,<-sizeOf f.type):Sem (Array (Nat×Nat))).run P w= .ok ps.toArray w:=by
     rw[Array.mapM_eq_mapM_toList,Sem.run_map,Q1 hps];rfl
    simp only[execOp,Instr.build,Sem.run_bind,hzv,Result.andThen_ok,run_underlying hu,hm];have e:(parts.map fun(p:Nat×Operand)=>(p.1,ρv p.2)).toList=parts.toList.map fun p=>(p.1,ρv p.2):=by simp
    have e2:(fun i:Nat=>ps.toArray[i]?)=(fun i:Nat=>ps[i]?):=by funext i;simp
    rw[e,e2,hus];rfl
   ·simp at hs
  ·simp at hs
 ·rename_i n e z hu hz;split at hs
  ·rename_i s hsz;split at hs
   ·rename_i cs hcs;simp at hs;subst hs;obtain⟨rfl,rfl⟩:=As hp;obtain⟨zv,hzv,hzr,_⟩:=Ho (O:=O) (I:=I) (w:=w) hz;obtain⟨us,hus,hru⟩:=P8 hρ hzr hcs;refine A0 (v:= .agg us) ?_ ⟨us,rfl,hru⟩ h;simp only[execOp,Instr.build,Sem.run_bind,hzv,Result.andThen_ok,run_underlying hu,Bn hsz];have e:(parts.map fun(p:Nat×Operand)=>(p.1,ρv p.2)).toList=parts.toList.map fun p=>(p.1,ρv p.2):=by simp
    rw[e,hus];rfl
   ·simp at hs
  ·simp at hs
 ·simp at hs
theorem Ail{t:TypeId}{y i:Operand}(hρ: ∀x,RepA O w I (ρ x) (ρv x))(h:RelH O H I w)(hs:res P ⟨dst, .index t y i,ty,pos,after,guard⟩ ρ=some (true,a))(hp:Ax h0 a H=some (x,ft,u)):
  OpOk O I w x u H ((execOp ρv ⟨dst, .index t y i,ty,pos,after,guard⟩).run P w):=by
 simp only[res]at hs;split at hs
 ·rename_i k n hi;have ei:=A7 hi (hρ i);split at hs
  ·rename_i s hu hy;simp only[zd,zi,zj,Prod.mk.injEq]at hs;obtain⟨⟨h0',h1⟩,rfl⟩:=hs;obtain⟨rfl,rfl⟩:=As hp;have ey:=A7 hy (hρ y);have hlt:n.toNat<s.size:=by omega
   refine A0 (v:= .int .u8 (s.data.toList.getD n.toNat 0).toNat) ?_ (.v _ rfl) h;have e:s[n.toNat]? =some (s.data.toList.getD n.toNat 0):=by
    have hlt':n.toNat<s.data.size:=hlt;rw[getElem?_pos s n.toNat hlt];have e1:s.data.toList.getD n.toNat 0=s.data[n.toNat]:=by
     simp only[List.getD,Array.getElem?_toList,Array.getElem?_eq_getElem hlt',Option.getD_some]
    rw[e1];rfl
   simp[execOp,ei,ey,Instr.index,asIntOf,run_underlying hu,h0',e]
  ·rename_i len e cs hu hy;split at hs
   ·rename_i ag sz hag hsz;split at hs
    ·rename_i y' hl;simp at hs;obtain⟨⟨h0',h1⟩,rfl⟩:=hs;obtain⟨rfl,rfl⟩:=As hp;have hv:=hρ y;rw[hy]at hv;obtain⟨vs,hv',hr⟩:=hv;obtain⟨v,hrun,hx⟩:=Aaw (P:=P) hag hsz hr hl;exact A0 (v:=v) (by simp[execOp,ei,hv',Instr.index,asIntOf,run_underlying hu,h0',h1,Bn hsz,hrun]) hx h
    ·simp at hs
   ·simp at hs
  ·simp at hs
 ·simp at hs
theorem Ed{J:Type}(z:List J): ∀(n:Nat),(List.replicate n z).flatten.length=n*z.length
 |0=>by simp|n+1=>by rw[List.replicate_succ,List.flatten_cons,List.length_append,Ed z n,Nat.succ_mul];omega
theorem AaM{J:Type}{z:List J}(hz:0<z.length): ∀(n q:Nat),q<n*z.length ->(List.replicate n z).flatten[q]? =z[q%z.length]?
 |0,q,h=>by simp at h|n+1,q,h=>by
  rw[List.replicate_succ,List.flatten_cons];by_cases hq:q<z.length
  ·rw[List.getElem?_append_left hq,Nat.mod_eq_of_lt hq]
  ·rw[List.getElem?_append_right (by omega),AaM hz n _ (by rw[Nat.succ_mul]at h;omega)];congr 1;rw[Nat.mod_eq_sub_mod (a:=q) (by omega)]
theorem U5{t:TypeId}{len:Nat}{parts:Array (Nat×Operand)}(hn:O h0= .free)(hρ: ∀x,RepA O w I (ρ x) (ρv x))(h:RelH O H I w)(hs:res P ⟨dst, .buildSlice t len parts,ty,pos,after,guard⟩ ρ=some (true,a))(hp:Ax h0 a H=some (x,ft,u)):
  OpOk O I w x u H ((execOp ρv ⟨dst, .buildSlice t len parts,ty,pos,after,guard⟩).run P w):=by
 simp only[res]at hs;split at hs
 ·rename_i e hu;split at hs
  ·rename_i s z hsz hz;split at hs
   ·rename_i cs hcs;split at hs
    ·rename_i hc;simp at hs;subst hs;obtain⟨rfl,rfl⟩:=Gh hp;obtain⟨zv,hzv,hzr,_⟩:=Ho (O:=O) (I:=I) (w:=w) hz;have hzl:zv.cells.size=s+1:=by have:=hzr.1;simp at this;omega
     have hinit:RepCs O w I (List.replicate len z).flatten ((Array.range (len*(s+1))).map (zv.cells[·%zv.cells.size]!)).toList:=by
      refine⟨by rw[Ed,hc.2];simp,fun i c v h1 h2=> ?_⟩;have hlt:i<len*(s+1):=by
       have:=(List.getElem?_eq_some_iff.1 h1).1;rw[Ed,hc.2]at this;exact this
      rw[AaM (by omega) _ _ (by rw[hc.2];exact hlt),hc.2]at h1;have hm:i%(s+1)<zv.cells.size:=by rw[hzl];exact Nat.mod_lt _ (by omega)
      simp[hlt]at h2;refine hzr.2 (i%(s+1)) c v h1 ?_;rw[hzl]at h2;rw[<-h2];simp[hm]
     obtain⟨us,hus,hru⟩:=P8 hρ hinit hcs;have e1:(parts.map fun(p:Nat×Operand)=>(p.1,ρv p.2)).toList=parts.toList.map fun p=>(p.1,ρv p.2):=by simp
     have hlen:=hru.1;have hcl:cs.length=len*(s+1):=by
      have key: ∀(l:List (Nat×AV)) (c0 c1:List C),Mx (fun i=>some (i*(s+1),s+1)) c0 l=some c1 ->c1.length=c0.length:=by
       intro l;induction l with
       |nil=>intro c0 c1 hh;simp[Mx]at hh;rw[hh]|cons p l ih=>
        intro c0 c1 hh;obtain⟨i,x⟩:=p;simp only[Mx]at hh;split at hh
        ·rename_i off size new hpl hnew;split at hh
         ·rename_i hcc;rw[ih _ _ hh,Dn hcc.2]
         ·simp at hh
        ·simp at hh
      rw[key _ _ _ hcs,Ed,hc.2]
     have hus2:us.size=len*(s+1):=by simp at hlen;omega
     refine Aev h hn (vs:=us) (v:= .slice (some ⟨w.heap.size,0,none⟩) len len) (by omega) (fun i c v h1 h2=>hru.2 i c v h1 (by simpa using h2)) ?_ ?_
     ·have hle: ¬(len*(s+1)>2^24):=by omega
      by_cases hz0:len*(s+1)=0
      ·have hl0:len=0:=by
        rcases Nat.mul_eq_zero.1 hz0 with h1|h1
        ·exact h1
        ·omega
       subst hl0;have e0: ∀g:Nat ->Value,Array.map g (Array.range 0)= #[]:=fun g=>by apply Array.ext';simp
       have hus':Instr.fill (fun i=>some (i*(s+1),s+1)) #[] (parts.toList.map fun p=>(p.1,ρv p.2))=some us:=by rw[Nat.zero_mul,e0]at hus;exact hus
       simp[execOp,Instr.buildSlice,run_underlying hu,Bn hsz,e0,hus',newRow]
      ·simp only[execOp,Instr.buildSlice,Sem.run_bind,run_underlying hu,Result.andThen_ok,Bn hsz,hle,if_false,Sem.run_pure,hz0,hzv];rw[e1,hus];simp[newRow]
     ·exact .inr ⟨w.heap.size,len,rfl,Nat.le_refl _, .inr ⟨by rw[Ak];rfl,(fun ob n e=>by rw[Ak]at e;cases e),us,e,(0,0),Ly _ _,hus2⟩⟩
    ·simp at hs
   ·simp at hs
  ·simp at hs
 ·simp at hs
theorem Ws{t:TypeId}{y i:Operand}(hρ: ∀x,RepA O w I (ρ x) (ρv x))(h:RelH O H I w)(hs:res P ⟨dst, .indexAddr t y i,ty,pos,after,guard⟩ ρ=some (true,a))(hp:Ax h0 a H=some (x,ft,u)):
  OpOk O I w x u H ((execOp ρv ⟨dst, .indexAddr t y i,ty,pos,after,guard⟩).run P w):=by
 simp only[res]at hs;split at hs
 ·rename_i k n hi;have ei:=A7 hi (hρ i);have hv:=hρ y;split at hs
  ·rename_i len e k' off hu hy;split at hs
   ·rename_i s hsz;simp at hs;obtain⟨⟨g0,g1⟩,rfl⟩:=hs;rw[Aem]at hp;simp only[zj,Prod.mk.injEq]at hp;obtain⟨rfl,rfl,rfl⟩:=hp;rw[hy]at hv;obtain⟨b,hv',hb⟩:=hv;exact A0 (v:= .pointer (some ⟨b,off+n.toNat*s,none⟩)) (by simp[execOp,ei,hv',Instr.indexAt,asIntOf,run_underlying hu,Instr.sureAddr,g0,g1,Bn hsz,Cx]) ⟨b,rfl,hb⟩ h
   ·simp at hs
  ·rename_i len e l hu hy;split at hs
   ·rename_i s hsz;simp at hs;obtain⟨⟨g0,g1⟩,rfl⟩:=hs;obtain⟨rfl,rfl⟩:=As hp;rw[hy]at hv;obtain⟨b,off,hv',hb⟩:=hv;refine A0 (v:= .pointer (some ⟨b,off+n.toNat*s,none⟩)) (by simp[execOp,ei,hv',Instr.indexAt,asIntOf,run_underlying hu,Instr.sureAddr,g0,g1,Bn hsz,Cx]) ⟨b,_,rfl,fun j d hd=> ?_⟩ h;rw[List.getElem?_drop]at hd;have:=hb _ d hd;rwa [<-Nat.add_assoc]at this
   ·simp at hs
  ·rename_i e k' sz len hu hy;split at hs
   ·rename_i s hsz;split at hs
    ·rename_i hsz';subst hsz';simp at hs;obtain⟨⟨g0,g1⟩,rfl⟩:=hs;obtain⟨rfl,rfl⟩:=As hp;rw[hy]at hv;have hv:RowAt O w k' s len (ρv y):=hv;rcases hv with⟨hl,_⟩|⟨b,cap,hv',hle,hb⟩
     ·exfalso;omega
     ·refine A0 (v:= .pointer (some ⟨b,n.toNat*s,none⟩)) (by simp[execOp,ei,hv',Instr.indexAt,asIntOf,run_underlying hu,g0,g1,Bn hsz,Cx]) ⟨b,by simp, ?_⟩ h;rcases hb with hb|⟨hb,hln,_⟩
      ·exact .inl hb
      ·exact .inr ⟨hb,fun ob m e=>by have:=hln ob m e;omega⟩
    ·simp at hs
   ·simp at hs
  ·rename_i e sz len f hu hy;split at hs
   ·rename_i s hsz;split at hs
    ·rename_i hsz';subst hsz';simp at hs;obtain⟨⟨g0,g1⟩,rfl⟩:=hs;obtain⟨rfl,rfl⟩:=As hp;rw[hy]at hv;have hlt:n.toNat<len:=by omega
     have key: ∀v,RepD w I (.sl s len f) v ->v=ρv y ->OpOk O I w (.c (.ip (f n.toNat))) [] H ((execOp ρv ⟨dst, .indexAddr t y i,ty,pos,after,guard⟩).run P w):=by
      intro v hr hev;cases hr with
      |nil=>omega|emp=>omega|sl _ _ _ b off cap g hcap hsz' hc hI hr=>
       refine A0 (v:= .pointer (some ⟨b,off+n.toNat*s,none⟩)) (by simp[execOp,ei,<-hev,Instr.indexAt,asIntOf,run_underlying hu,g0,g1,Bn hsz,Cx]) ⟨b,_,rfl,fun j d hd=> ?_⟩ h;exact⟨g n.toNat j,hc _ _ _ hlt hd,hI _ _ _ hlt hd,hr _ _ _ hlt hd⟩
     exact key _ hv rfl
    ·simp at hs
   ·simp at hs
  ·simp at hs
 ·simp at hs
theorem Ys{fn:Fn}{first captured:Array Operand}(hρ: ∀x,RepA O w I (ρ x) (ρv x))(h:RelH O H I w)(hs:res P ⟨dst, .makeFunc fn first captured,ty,pos,after,guard⟩ ρ=some (true,a))(hp:Ax h0 a H=some (x,ft,u)):
  OpOk O I w x u H ((execOp ρv ⟨dst, .makeFunc fn first captured,ty,pos,after,guard⟩).run P w):=by
 have one: ∀(y:AV) (r:Rf) (v:Value),rfOf y=some r ->RepA O w I y v ->RepRf O w I r v:=by
  intro y r v hy hr;unfold rfOf at hy;split at hy
  ·simp at hy;subst hy;exact hr
  ·simp at hy;subst hy;exact hr
  ·simp at hy
 have all: ∀(l:List Operand) (rs:List Rf),Vy (l.map ρ)=some rs ->RepRfs O w I rs (l.map ρv):=by
  intro l;induction l with
  |nil=>intro rs hh;simp[Vy]at hh;subst hh;exact⟨rfl,fun i r v h=>by simp at h⟩
  |cons o l ih=>
   intro rs hh;simp only[List.map_cons,Vy]at hh;split at hh
   ·rename_i y l' hy hl;simp at hh;subst hh;have:=ih l' hl;refine⟨by simpa using this.1,fun i r v h1 h2=> ?_⟩;cases i with
    |zero=>simp at h1 h2;subst h1 h2;exact one _ _ _ hy (hρ o)|succ i=>exact this.2 i r v (by simpa using h1) (by simpa using h2)
   ·simp at hh
 simp only[res]at hs;split at hs
 ·rename_i f a' b' ha hb;simp at hs;subst hs;obtain⟨rfl,rfl⟩:=As hp;refine A0 (v:= .func (.func f) (first.map ρv) (captured.map ρv)) (by simp[execOp,Instr.makeFunc]) ⟨_,_,rfl, ?_, ?_⟩ h
  ·simpa using all _ _ ha
  ·simpa using all _ _ hb
 ·simp at hs
theorem AhU{t:TypeId}{y:Operand}(hn:O h0= .free)(hρ: ∀x,RepA O w I (ρ x) (ρv x))(h:RelH O H I w)(hs:res P ⟨dst, .range t y,ty,pos,after,guard⟩ ρ=some (true,a))(hp:Ax h0 a H=some (x,ft,u)):
  OpOk O I w x u H ((execOp ρv ⟨dst, .range t y,ty,pos,after,guard⟩).run P w):=by
 simp only[res]at hs;split at hs
 ·rename_i s hu hy;simp at hs;subst hs;obtain⟨rfl,rfl⟩:=Gh hp;have e:=A7 hy (hρ y);refine⟨_,w.alloc (.stringIter s 0),setB O h0 (.at w.heap.size),I, ?_, .inl ⟨_,rfl,AeF h0 _⟩,h.new hn _ _ (fun b hb=>by simpa[Nst.blk]using hb.symm) ⟨w.heap.size,Ak _ _ _,Ly _ _⟩, .new h.toPlace hn _ _ (fun b hb=>by simpa[Nst.blk]using hb.symm), .set hn _⟩;simp[execOp,Instr.range,run_underlying hu,e]
 ·simp at hs
theorem AbQ{k b:Nat}(hb:(O k).blk=some b)(hp:Place O I w){o:Obj}(ho: ∃s q,w.heap[b]? =some (.stringIter s q))(hc: ∀vs t fz,o≠ .cells vs t fz):Ext O I O I w {w with heap:=w.heap.setIfInBounds b o} where
 os:=rfl
 tape:=rfl
 output:=rfl
 size:=by simp
 block x _ hn:=by
  have:b≠x:=fun e=>hn k (by rw[<-e];exact hb)
  simp[Array.getElem?_setIfInBounds_ne this]
 keepI _ _ hi:=hi
 cell x o' hi:=by
  have:b≠x:=fun e=>hp.off k b o' hb (e▸hi)
  simp[World.cell?,Array.getElem?_setIfInBounds_ne this]
 newI _ _ hi:= .inl hi
 newB x _ hx:= .inl ⟨x,hx⟩
 shapes x vs t fz hx:=by
  have:b≠x:=fun e=>by obtain⟨s,q,ho⟩:=ho;rw[e]at ho;rw[ho]at hx;cases hx
  exact⟨vs,fz,by simp[Array.getElem?_setIfInBounds_ne this];exact hx,rfl⟩
theorem Amh{y:Operand}{str:Bool}(hρ: ∀x,RepA O w I (ρ x) (ρv x))(h:RelH O H I w)(hs:res P ⟨dst, .next y str,ty,pos,after,guard⟩ ρ=some (true,a))(hp:Ax h0 a H=some (x,ft,u)):
  OpOk O I w x u H ((execOp ρv ⟨dst, .next y str,ty,pos,after,guard⟩).run P w):=by
 simp only[res]at hs;split at hs
 ·rename_i k hy;simp at hs;subst hs;simp only[Ax]at hp;split at hp
  ·rename_i s q hk;obtain⟨b,hb,hheap⟩:=h.blk k _ hk;have hv:=hρ y;rw[hy]at hv;obtain⟨b',hv',hb'⟩:=hv;have:b'=b:=by
    rcases hb' with hb'|hb'
    ·rw[hb]at hb';cases hb'
    ·rw[hb]at hb';cases hb';rfl
   subst this;have hlt:=h.lt k b' (by rw[hb];rfl);have hnc: ∀cs t fz,w.heap[b']? ≠some (.cells cs t fz):=fun cs t fz e=>by rw[hheap]at e;cases e
   cases hq:Nat.blt q s.size with
   |true=>
    have hq':q<s.size:=by rw[bltD]at hq;simpa using hq
    simp only[hq,za,zj,Prod.mk.injEq]at hp;obtain⟨rfl,rfl,rfl⟩:=hp;have hext:=AbQ (w:=w) (O:=O) (I:=I) (k:=k) (b:=b') (by rw[hb];rfl) h.toPlace (o:= .stringIter s (q+(Utf8.decode s q).2)) ⟨s,q,hheap⟩ (fun _ _ _ e=>by cases e);refine⟨.value (.tuple #[.bool true,goInt q, .int .i32 (Utf8.decode s q).1]),_,O,I, ?_, .inl ⟨_,rfl,⟨_,rfl,rfl,fun i p v h1 h2=> ?_⟩⟩,h.step (h.toPlace.same (by simp) hext.cell) (hext.keep (.refl O)) (fun x hx=>⟨rfl,fun c hc=> ?_⟩) (fun x B hx=> ?_),hext, .refl O⟩
    ·simp[execOp,hv',Instr.next,getObj,setObj,Sem.run,hheap,hq']
    ·match i,h1,h2 with
     |0,h1,h2=>simp at h1 h2;subst h1 h2;exact⟨_,rfl, .v _ rfl⟩|1,h1,h2=>simp at h1 h2;subst h1 h2;exact⟨_,rfl, .v _ rfl⟩|2,h1,h2=>simp at h1 h2;subst h1 h2;exact⟨_,rfl, .v _ rfl⟩|n+3,h1,h2=>simp at h1
    ·rw[Cm]at hx;split at hx
     ·simp at hx
     ·rename_i e;have:b'≠c:=fun ec=>e (h.inj x k b' (ec▸hc) (by rw[hb];rfl))
      simp[Array.getElem?_setIfInBounds_ne this]
    ·rw[Cm]at hx;split at hx
     ·rename_i e;simp at hx;subst hx e;exact⟨b',hb,by simp[hlt]⟩
     ·simp at hx
   |false=>
    have hq': ¬q<s.size:=by rw[bltD]at hq;simpa using hq
    simp only[hq,zb,zj,Prod.mk.injEq]at hp;obtain⟨rfl,rfl,rfl⟩:=hp;refine A0 (v:= .tuple #[.bool false]) ?_ ⟨_,rfl,rfl,fun i p v h1 h2=> ?_⟩ h
    ·simp[execOp,hv',Instr.next,getObj,Sem.run,hheap,hq']
    ·match i,h1,h2 with
     |0,h1,h2=>simp at h1 h2;subst h1 h2;exact⟨_,rfl, .v _ rfl⟩|n+1,h1,h2=>simp at h1
  ·simp at hp
 ·simp at hs
end
section
variable {O:Bt}{I:Im}{w:World}{P:Program}{H:Hp}
variable {ρ:Operand ->AV}{ρv:Operand ->Value}{dst:Option Tmp}{ty:TypeId}{pos:String}{after:Array Edge}{guard:Option (Nat×Bool)}{a:Do}{x:AV}{ft:Foot}{u:Ups}{h0:Nat}
def mkV(P:Program)(t:TypeId)(vs:List Value):Value:=if aggT P t=some true then .agg vs.toArray else vs.headD undef
theorem Mq{t:TypeId}{s:Nat}{vs:List Value}{off:Nat}(hs:Bm P t=some s)(hag:(aggT P t).isSome=true)(h1:aggT P t=some false ->off<vs.length/\1<=s):
  (part t vs.toArray off).run P w= .ok (mkV P t ((vs.drop off).take s)) w:=by
 obtain⟨ag,hag⟩:=Option.isSome_iff_exists.1 hag;unfold part mkV;cases ag with
 |true=>
  simp only[Sem.run_bind,J6 hag,Result.andThen_ok,if_true,Bn hs,Sem.run_pure,hag];congr 2;apply Array.ext';simp[List.take_drop]
 |false=>
  obtain⟨hlt,h0⟩:=h1 hag;have e:((vs.drop off).take s).headD undef=vs[off]:=by
   have:(vs.drop off)=vs[off]::vs.drop (off+1):=List.drop_eq_getElem_cons hlt;rw[this];cases s with
   |zero=>omega|succ s=>rfl
  rw[if_neg (by simp[hag]),e];simp[J6 hag,hlt]
theorem AmN{d:Nat}{t:TypeId}{xs ys:List C}{r:Bool}(h:eqT P d t xs ys=some r)(ht:aggT P t=some false):xs.length=1/\ys.length=1:=by
 cases d with
 |zero=>simp[eqT]at h|succ d=>
  simp only[eqT]at h;unfold aggT at ht;split at h<;>first
   |(rename_i hu;simp[hu]at ht;done)|(split at h<;>first|exact⟨rfl,rfl⟩|(split at h<;>first|exact⟨rfl,rfl⟩|simp at h)|simp at h)|simp at h
theorem AfD(d:Nat): ∀(t:TypeId) (cx cy:List C) (us vs:List Value) (r:Bool) (d':Nat),d<=d' ->eqT P d t cx cy=some r ->RepCs O w I cx us ->RepCs O w I cy vs ->
  (Op.equalIn d' t (mkV P t us) (mkV P t vs)).run P w= .ok r w:=by
 induction d with
 |zero=>intro t cx cy us vs r d' _ h;simp[eqT]at h|succ d ih=>
  intro t cx cy us vs r d' hd h hx hy;obtain⟨d',rfl⟩: ∃k,d'=k+1:=⟨d' -1,by omega⟩;simp only[eqT]at h;have single: ∀{c:C} {us:List Value},RepCs O w I [c] us -> ∃u,us=[u]/\RepC O w I c u:=by
   intro c us hr;have hl:=hr.1;match us,hl with
   |[u],_=>exact⟨u,rfl,hr.2 0 c u rfl rfl⟩
  have need: ∀{e:TypeId} {s off:Nat} {c c':List C} {q:List Value} {b:Bool},eqT P d e (c.take s) (c'.take s)=some b ->(RepCs O w I c (q.drop off)\/RepCs O w I c' (q.drop off)) ->aggT P e=some false ->off<q.length/\1<=s:=by
   intro e s off c c' q b he hr hag;obtain⟨h1,h2⟩:=AmN he hag;rw[List.length_take]at h1 h2;rcases hr with hr|hr
   ·have:=hr.1;simp at this;omega
   ·have:=hr.1;simp at this;omega
  split at h
  ·rename_i hu;split at h
   ·obtain⟨u,rfl,hu1⟩:=single hx;obtain⟨v,rfl,hv1⟩:=single hy;have e1:=RepD.v_eq hu1;have e2:=RepD.v_eq hv1;subst e1 e2;simp at h;subst h;simp only[mkV,aggT,hu];exact run_equalIn_bool' w d' t _ _ hu
   ·simp at h
  ·rename_i k0 hu;split at h
   ·split at h
    ·rename_i hk;subst hk;obtain⟨u,rfl,hu1⟩:=single hx;obtain⟨v,rfl,hv1⟩:=single hy;have e1:=RepD.v_eq hu1;have e2:=RepD.v_eq hv1;subst e1 e2;simp at h;subst h;simp only[mkV,aggT,hu];exact run_equalIn_int w d' t _ k0 _ _ hu
    ·simp at h
   ·simp at h
  ·rename_i hu;split at h
   ·obtain⟨u,rfl,hu1⟩:=single hx;obtain⟨v,rfl,hv1⟩:=single hy;have e1:=RepD.v_eq hu1;have e2:=RepD.v_eq hv1;subst e1 e2;simp at h;subst h;simp only[mkV,aggT,hu];exact run_equalIn_string w d' t _ _ hu
   ·simp at h
  ·rename_i n e hu;split at h
   ·rename_i s hs hag;have hsi:=hs;unfold Bm at hsi;cases hi:P.info? e with
    |none=>simp[hi]at hsi|some info=>
     have hcell:P.cellsOf e=s:=by simp[hi]at hsi;simp[Program.cellsOf,hi,hsi]
     have e0:mkV P t us= .agg us.toArray:=by simp[mkV,aggT,hu]
     have e1:mkV P t vs= .agg vs.toArray:=by simp[mkV,aggT,hu]
     rw[e0,e1,run_equalIn_array w d' us.toArray vs.toArray hu hi,hcell,List.range_eq_range'];have key: ∀(n j:Nat) (cx cy:List C) (r:Bool),eqN (eqT P d e) s n cx cy=some r ->RepCs O w I cx (us.drop (j*s)) ->RepCs O w I cy (vs.drop (j*s)) ->
      (Op.eqItems d' e s us.toArray vs.toArray (List.range' j n)).run P w= .ok r w:=by
      intro n
      induction n with
      |zero=>
       intro j cx cy r hh hcx hcy
       match cx,cy,hh with
       |[],[],hh=>simp[eqN]at hh;subst hh;rfl
      |succ n ihn=>
       intro j cx cy r hh hcx hcy
       simp only[eqN]at hh
       split at hh
       ·rename_i p q hp hq
        simp at hh
        have h1:=Mq (w:=w) (off:=j*s) (vs:=us) hs hag (need hp (.inl hcx))
        have h2:=Mq (w:=w) (off:=j*s) (vs:=vs) hs hag (need hp (.inr hcy))
        have h3:=ih e _ _ _ _ p d' (by omega) hp (hcx.take s) (hcy.take s)
        have h4:=ihn (j+1) _ _ q hq (by have:=hcx.drop s;rwa [List.drop_drop,show j*s+s=(j+1)*s by rw[Nat.succ_mul]]at this) (by have:=hcy.drop s;rwa [List.drop_drop,show j*s+s=(j+1)*s by rw[Nat.succ_mul]]at this)
        simp only[List.range'_succ,Op.eqItems,Sem.run_bind,h1,h2,h3,Result.andThen_ok]
        cases p
        ·simp at hh;subst hh;simp
        ·simp at hh;subst hh;simpa using h4
       ·simp at hh
     exact key n 0 cx cy r h (by simpa using hx) (by simpa using hy)
   ·simp at h
  ·rename_i fs hu;split at h
   ·simp at h
   ·rename_i hst;have e0:mkV P t us= .agg us.toArray:=by simp[mkV,aggT,hu]
    have e1:mkV P t vs= .agg vs.toArray:=by simp[mkV,aggT,hu]
    have hf:P.fieldsOf t=fs:=by simp[Program.fieldsOf,hu]
    rw[e0,e1,run_equalIn_struct w d' t us.toArray vs.toArray (by rw[hf];exact hu) (by simpa using hst),hf];have key: ∀(fs:List Field) (off:Nat) (cx cy:List C) (r:Bool),eqFs (eqT P d) P fs off cx cy=some r ->RepCs O w I cx (us.drop off) ->RepCs O w I cy (vs.drop off) ->
     (Op.eqFields d' us.toArray vs.toArray fs).run P w= .ok r w:=by
     intro fs
     induction fs with
     |nil=>
      intro off cx cy r hh hcx hcy
      match cx,cy,hh with
      |[],[],hh=>simp[eqFs]at hh;subst hh;rfl
     |cons f fs ihf=>
      intro off cx cy r hh hcx hcy
      simp only[eqFs]at hh
      split at hh
      ·rename_i s hs hag
       split at hh
       ·rename_i hc
        obtain⟨rfl,hname⟩:=hc
        split at hh
        ·rename_i p q hp hq
         simp at hh
         have h1:=Mq (w:=w) (off:=f.offset) (vs:=us) hs hag (need hp (.inl hcx))
         have h2:=Mq (w:=w) (off:=f.offset) (vs:=vs) hs hag (need hp (.inr hcy))
         have h3:=ih f.type _ _ _ _ p d' (by omega) hp (hcx.take s) (hcy.take s)
         have h4:=ihf (f.offset+s) _ _ q hq (by have:=hcx.drop s;rwa [List.drop_drop]at this) (by have:=hcy.drop s;rwa [List.drop_drop]at this)
         simp only[Op.eqFields,Sem.run_ite,hname,ne_eq,not_false_eq_true,if_true,Sem.run_bind,h1,h2,h3,Result.andThen_ok]
         cases p
         ·simp at hh;subst hh;simp
         ·simp at hh;subst hh;simpa using h4
        ·simp at hh
       ·simp at hh
      ·simp at hh
    exact key fs.toList 0 cx cy r h (by simpa using hx) (by simpa using hy)
  ·simp at h
theorem Aaq{l:List Operand}(hρ: ∀x,RepA O w I (ρ x) (ρv x)):RepF O w I (l.map ρ) (l.map ρv).toArray:=by
 refine⟨by simp,fun i x v h1 h2=> ?_⟩;simp at h1 h2;obtain⟨o,ho,rfl⟩:=h1;obtain⟨o',ho',rfl⟩:=h2;rw[ho]at ho';simp at ho';subst ho';exact hρ o
theorem AiU{op:BinOp}{t t':TypeId}{y z:Operand}(hρ: ∀x,RepA O w I (ρ x) (ρv x))(h:RelH O H I w)(hs:res P ⟨dst, .binOp op t y z t',ty,pos,after,guard⟩ ρ=some (true,a))(hp:Ax h0 a H=some (x,ft,u)):
  OpOk O I w x u H ((execOp ρv ⟨dst, .binOp op t y z t',ty,pos,after,guard⟩).run P w):=by
 have plain: ∀{p q r:Value},ρ y= .c (.d (.v p)) ->ρ z= .c (.d (.v q)) ->pr P (do eqGuard op t y z p q;binOp op t p q)=some r ->val1 r=some (true,a) ->
  OpOk O I w x u H ((execOp ρv ⟨dst, .binOp op t y z t',ty,pos,after,guard⟩).run P w):=by
  intro p q r hy hz hr hs
  obtain⟨x',rfl⟩:=La hs
  obtain⟨rfl,rfl⟩:=As hp
  have e1:=A7 hy (hρ y)
  have e2:=A7 hz (hρ z)
  have hrun:=Aek P _ r hr w
  refine A0 (v:=r) ?_ (Lb hs).2 h
  simp only[execOp,e1,e2]
  rw[Sem.run_bind,hrun]
  rfl
 simp only[res]at hs;split at hs
 ·rename_i p q hy hz;split at hs
  ·rename_i hu;simp only[zj,Prod.mk.injEq,zi]at hs;obtain⟨hle,rfl⟩:=hs;obtain⟨rfl,rfl⟩:=As hp;have e1:=A7 hy (hρ y);have e2:=A7 hz (hρ z);refine A0 (v:= .string (p++q)) ?_ (.v _ rfl) h;have hgt: ¬(((p.size+q.size:Nat):Int)>IntKind.i64.max):=by
    have:IntKind.i64.max=9223372036854775807:=by decide
    omega
   simp only[execOp,e1,e2,binOp_string_add,Op.stringOp,hgt,if_false];simp[eqGuard]
  ·simp at hs
  ·split at hs
   ·rename_i r hr;exact plain hy hz hr hs
   ·simp at hs
 ·rename_i p q hno hy hz;have slow:(match pr P (do eqGuard op t y z p q;binOp op t p q)with|some r=>val1 r|none=>none)=some (true,a) ->OpOk O I w x u H ((execOp ρv ⟨dst, .binOp op t y z t',ty,pos,after,guard⟩).run P w):=fun hs=>by
   split at hs
   ·rename_i r hr;exact plain hy hz hr hs
   ·simp at hs
  have e1:=A7 hy (hρ y);have e2:=A7 hz (hρ z);unfold Acv at hs;split at hs
  ·rename_i k m k' n;split at hs
   ·rename_i hk;subst hk;simp only[zj,Prod.mk.injEq,Bool.not_eq_true',beq_eq_false_iff_ne,ne_eq]at hs;obtain⟨hn,rfl⟩:=hs;obtain⟨rfl,rfl⟩:=As hp;refine A0 (v:= .int k (m.tmod n)) ?_ (.v _ rfl) h;simp[execOp,e1,e2,eqGuard,binOp,Op.intDiv,hn]
   ·exact slow hs
  ·rename_i k m k' n;split at hs
   ·rename_i hk;subst hk;simp only[zj,Prod.mk.injEq,Bool.not_eq_true',beq_eq_false_iff_ne,ne_eq]at hs;obtain⟨hn,rfl⟩:=hs;obtain⟨rfl,rfl⟩:=As hp;refine A0 (v:= .int k (k.wrap (m.tdiv n))) ?_ (.v _ rfl) h;simp[execOp,e1,e2,eqGuard,binOp,Op.intDiv,hn]
   ·exact slow hs
  ·exact slow hs
 ·rename_i xs ys hy hz;have hvy:=hρ y;rw[hy]at hvy;obtain⟨us,hus,hru⟩:=hvy;have hvz:=hρ z;rw[hz]at hvz;obtain⟨vs,hvs,hrv⟩:=hvz;have go: ∀r,eqT P 50 t xs ys=some r ->aggT P t=some true ->(Op.equalIn 10000 t (.agg us) (.agg vs)).run P w= .ok r w:=by
   intro r hr hag;have:=AfD 50 t xs ys us.toList vs.toList r 10000 (by omega) hr hru hrv;simpa[mkV,hag]using this
  split at hs
  ·split at hs
   ·rename_i r hr;split at hs
    ·rename_i hg;obtain⟨x',rfl⟩:=La hs;obtain⟨rfl,rfl⟩:=As hp;refine A0 (v:= .bool r) ?_ (Lb hs).2 h;have hrun:=go r hr hg.2;simp only[execOp,hus,hvs,Sem.run_bind,run_eqGuard_agg w _ t y z us vs hg.1,Result.andThen_ok,run_eql_struct,hrun];rfl
    ·simp at hs
   ·simp at hs
  ·split at hs
   ·rename_i r hr;split at hs
    ·rename_i hg;obtain⟨x',rfl⟩:=La hs;obtain⟨rfl,rfl⟩:=As hp;refine A0 (v:= .bool !r) ?_ (Lb hs).2 h;have hrun:=go r hr hg.2;simp only[execOp,hus,hvs,Sem.run_bind,run_eqGuard_agg w _ t y z us vs hg.1,Result.andThen_ok,run_neq_struct,hrun];rfl
    ·simp at hs
   ·simp at hs
  ·simp at hs
 ·have ptrs: ∀(r:Bool) (k:Option Nat),Aiw (ρ y) (ρ z)=some (r,k) ->S9 P t=true ->(∀k',k=some k' ->O k'≠ .dead) ->
   (Op.equal t (ρv y) (ρv z)).run P w= .ok r w/\(∀op',(eqGuard op' t y z (ρv y) (ρv z)).run P w= .ok () w)/\(∃p,ρv y= .pointer p)/\ ∃q,ρv z= .pointer q:=by
   intro r k hk ht hal
   unfold S9 at ht
   split at ht
   ·rename_i e hu
    split at ht
    ·rename_i s hsz
     have hvy:=hρ y
     have hvz:=hρ z
     unfold Aiw at hk
     split at hk
     ·rename_i h1 o h2 p hy hz
      cases hb:Nat.beq h1 h2 with
      |false=>simp[hb]at hk|true=>
       have:=zg hb
       subst this
       simp[hb]at hk
       obtain⟨rfl,rfl⟩:=hk
       rw[hy]at hvy
       rw[hz]at hvz
       obtain⟨b1,e1,c1⟩:=hvy
       obtain⟨b2,e2,c2⟩:=hvz
       have hnd:=hal h1 rfl
       have d1:=c1.resolve_left hnd
       have d2:=c2.resolve_left hnd
       rw[d1]at d2
       cases d2
       refine⟨?_,fun op'=> ?_,⟨_,e1⟩,⟨_,e2⟩⟩
       ·rw[e1,e2,Op.equal,Op.maxDepth]
        unfold Op.equalIn
        simp[run_underlying hu,Bn hsz,sameAddr]
        rw[Bool.eq_iff_iff]
        simp
       ·rw[e1,e2];simp[eqGuard]
     ·rename_i h1 o hy hz
      simp at hk
      obtain⟨rfl,rfl⟩:=hk
      rw[hy]at hvy
      obtain⟨b1,e1,c1⟩:=hvy
      have e2:=A7 hz hvz
      refine⟨?_,fun op'=> ?_,⟨_,e1⟩,⟨_,e2⟩⟩
      ·rw[e1,e2,Op.equal,Op.maxDepth]
       unfold Op.equalIn
       simp[run_underlying hu]
      ·rw[e1,e2];simp[eqGuard]
     ·rename_i h1 o hy hz
      simp at hk
      obtain⟨rfl,rfl⟩:=hk
      rw[hz]at hvz
      obtain⟨b1,e1,c1⟩:=hvz
      have e2:=A7 hy hvy
      refine⟨?_,fun op'=> ?_,⟨_,e2⟩,⟨_,e1⟩⟩
      ·rw[e1,e2,Op.equal,Op.maxDepth]
       unfold Op.equalIn
       simp[run_underlying hu]
      ·rw[e1,e2];simp[eqGuard]
     ·simp at hk
    ·simp at ht
   ·simp at ht
  have chk: ∀(k:Option Nat) (y':AV),Ax h0 (chkD k y') H=some (x,ft,u) ->x=y'/\u=[]/\ ∀k',k=some k' ->O k'≠ .dead:=by
   intro k y' hh;cases k with
   |none=>obtain⟨rfl,rfl⟩:=As hh;exact⟨rfl,rfl,fun k' e=>by cases e⟩
   |some k'=>
    simp only[chkD,Ax]at hh;split at hh
    ·rename_i cs t0 hl;simp at hh;obtain⟨rfl,rfl,rfl⟩:=hh;refine⟨rfl,rfl,fun k2 e hd=> ?_⟩;cases e;obtain⟨b,vs,hb,_⟩:=h.blk _ _ hl;rw[hd]at hb;cases hb
    ·simp at hh
  split at hs
  ·rename_i r k hk;split at hs
   ·rename_i ht;simp at hs;subst hs;obtain⟨rfl,rfl,hal⟩:=chk _ _ hp;obtain⟨h1,h2,⟨p,hpv⟩,⟨q,hqv⟩⟩:=ptrs r k hk ht hal;refine A0 (v:= .bool r) ?_ (.v _ rfl) h;have h2:=h2 .eql;rw[hpv,hqv]at h1 h2;simp[execOp,hpv,hqv,h2,binOp,h1]
   ·simp at hs
  ·rename_i r k hk;split at hs
   ·rename_i ht;simp at hs;subst hs;obtain⟨rfl,rfl,hal⟩:=chk _ _ hp;obtain⟨h1,h2,⟨p,hpv⟩,⟨q,hqv⟩⟩:=ptrs r k hk ht hal;refine A0 (v:= .bool !r) ?_ (.v _ rfl) h;have h2:=h2 .neq;rw[hpv,hqv]at h1 h2;simp[execOp,hpv,hqv,h2,binOp,h1]
   ·simp at hs
  ·simp at hs
  ·have maps: ∀r,Aix P t (ρ y) (ρ z)=some r ->(Op.equal t (ρv y) (ρv z)).run P w= .ok r w/\(∀op',(eqGuard op' t y z (ρv y) (ρv z)).run P w= .ok () w)/\(∃p,ρv y= .map p)/\ρv z= .map none:=by
    intro r hk;have hvy:=hρ y;have hvz:=hρ z;unfold Aix at hk;split at hk
    ·rename_i h1 hy hz;split at hk
     ·rename_i k0 e0 hu;cases hk;rw[hy]at hvy;obtain⟨b1,e1,_⟩:=hvy;have e2:=A7 hz hvz;refine⟨?_,fun op'=> ?_,⟨_,e1⟩,e2⟩
      ·rw[e1,e2,Op.equal,Op.maxDepth];unfold Op.equalIn;simp[run_underlying hu]
      ·rw[e1,e2];simp[eqGuard]
     ·cases hk
    ·cases hk
   split at hs
   ·rename_i r hk;simp at hs;subst hs;obtain⟨rfl,rfl⟩:=As hp;obtain⟨h1,h2,⟨p,hpv⟩,hqv⟩:=maps r hk;refine A0 (v:= .bool r) ?_ (.v _ rfl) h;have h2:=h2 .eql;rw[hpv,hqv]at h1 h2;simp[execOp,hpv,hqv,h2,binOp,h1]
   ·rename_i r hk;simp at hs;subst hs;obtain⟨rfl,rfl⟩:=As hp;obtain⟨h1,h2,⟨p,hpv⟩,hqv⟩:=maps r hk;refine A0 (v:= .bool !r) ?_ (.v _ rfl) h;have h2:=h2 .neq;rw[hpv,hqv]at h1 h2;simp[execOp,hpv,hqv,h2,binOp,h1]
   ·simp at hs
end
section
variable {O:Bt}{I:Im}{w:World}{P:Program}{H:Hp}
variable {ρ:Operand ->AV}{ρv:Operand ->Value}{dst:Option Tmp}{ty:TypeId}{pos:String}{after:Array Edge}{guard:Option (Nat×Bool)}{a:Do}{x:AV}{ft:Foot}{u:Ups}{h0:Nat}
theorem AeZ(e:Nat):keyD (5+e)= .string:=by rw[Nat.add_comm];rfl
theorem Akg{kd:Nat}(h:(Nat.blt kd 2||Nat.ble 5 kd)=true):keyD kd= .string/\kd≠4:=by
 rw[bltD,bleD]at h;match kd,h with
 |0,_=>exact⟨rfl,by omega⟩|1,_=>exact⟨rfl,by omega⟩|2,h=>simp at h|3,h=>simp at h|4,h=>simp at h|n+5,_=>exact⟨rfl,by omega⟩
theorem Akh{kd:Nat}(h:(Nat.blt kd 2||Nat.ble 4 kd)=false):keyD kd= .int .i64/\kd≠4:=by
 rw[bltD,bleD]at h;match kd,h with
 |0,h=>simp at h|1,h=>simp at h|2,_=>exact⟨rfl,by omega⟩|3,_=>exact⟨rfl,by omega⟩|n+4,h=>simp at h
theorem Kb{kd:Nat}{v:Value}(h:kd≠4):Ge kd v↔MapKept.IsKey (keyD kd) v:=by
 unfold Ge;split
 ·exact absurd rfl h
 ·exact Iff.rfl
def AnG(P:Program)(kd:Nat)(kt:TypeId):Prop:=(kd≠4/\P.underlying kt=some (keyD kd))\/(kd=4/\ ∃fs,P.underlying kt=some (.struct fs)/\Wb P kt fs.toList=true)
theorem Mv{t:TypeId}{kd:Nat}(h:Ui P t=some kd): ∃k e i,P.underlying t=some (.map k e)/\AnG P kd k/\P.info? e=some i/\i.zero=some (zM P t)/\(kd<5 ->zM P t=Ace kd none):=by
 unfold Ui at h;split at h
 ·rename_i k e hu;have zero: ∀z,(P.info? e).bind (·.zero)=some z -> ∃i,P.info? e=some i/\i.zero=some z:=fun z hz=>by
   cases hi:P.info? e with
   |none=>rw[hi]at hz;cases hz|some i=>rw[hi]at hz;exact⟨i,rfl,hz⟩
  split at h<;>first
   | (rename_i hk he hz
      simp only[zj]at h
      subst h
      obtain⟨i,h1,h2⟩:=zero _ hz
      exact⟨k,e,i,hu, .inl ⟨by omega,hk⟩,h1,by unfold zM;rw[hu];simp only[hz];exact h2,fun _=>by unfold zM;rw[hu];simp only[hz];rfl⟩)
   | (rename_i hk he hz
      simp only[zj]at h
      subst h
      obtain⟨i,h1,h2⟩:=zero _ hz
      exact⟨k,e,i,hu, .inl ⟨by omega,by rw[hk,AeZ]⟩,h1,by unfold zM;rw[hu];simp only[hz];exact h2,fun hlt=>by omega⟩)
   | (rename_i fs hk he hz
      cases hb:Wb P k fs.toList with
      |false=>rw[hb]at h;cases h|true=>
       rw[hb]at h
       simp only[za,zj]at h
       subst h
       obtain⟨i,h1,h2⟩:=zero _ hz
       exact⟨k,e,i,hu, .inr ⟨rfl,fs,hk,hb⟩,h1,by unfold zM;rw[hu];simp only[hz];exact h2,fun _=>by unfold zM;rw[hu];simp only[hz];rfl⟩)
   |(cases h)
 ·cases h
theorem Nd{kd:Nat}{y:AV}{key v:Value}(h:Zm kd y=some key)(hr:RepA O w I y v):v=key/\Ge kd key:=by
 unfold Zm at h;split at h
 ·rename_i s;have e:=RepD.v_eq hr;cases hb:(Nat.blt kd 2||Nat.ble 5 kd)with
  |false=>rw[hb]at h;cases h|true=>
   rw[hb]at h;simp only[za,zj]at h;subst h;exact⟨e,(Kb (Akg hb).2).2 (by rw[(Akg hb).1];trivial)⟩
 ·rename_i n;have e:=RepD.v_eq hr;cases hb:(Nat.blt kd 2||Nat.ble 4 kd)with
  |true=>rw[hb]at h;cases h|false=>
   rw[hb]at h;simp only[zb,zj]at h;subst h;exact⟨e,(Kb (Akh hb).2).2 (by rw[(Akh hb).1];rfl)⟩
 ·rename_i m n;cases hb:Nat.beq kd 4 with
  |false=>rw[hb]at h;cases h|true=>
   rw[hb]at h;simp only[za,zj]at h;subst h;have:=zg hb;subst this;obtain⟨vs,rfl,hv⟩:=hr;have hl:vs.toList.length=2:=hv.1.symm;obtain⟨p,q,hpq⟩: ∃p q,vs.toList=[p,q]:=by
    match vs.toList,hl with
    |[p,q],_=>exact⟨p,q,rfl⟩
   have h0:RepD w I (.v (.int .i64 m)) p:=hv.2 0 _ p rfl (by rw[hpq];rfl);have h1:RepD w I (.v (.int .i64 n)) q:=hv.2 1 _ q rfl (by rw[hpq];rfl);have e0:=RepD.v_eq h0;have e1:=RepD.v_eq h1;subst e0 e1;have e2:vs= #[.int .i64 m, .int .i64 n]:=Array.ext' hpq;subst e2;exact⟨rfl,m,n,rfl⟩
 ·cases h
theorem Sz: ∀{cs:List C} {l vs:List Value},V5 cs=some l ->RepCs O w I cs vs ->vs=l
 |[],l,vs,h,hr=>by
  simp[V5]at h;subst h;exact List.eq_nil_of_length_eq_zero hr.1.symm
 |c::r,l,vs,h,hr=>by
  match vs,hr with
  |[],hr=>exact absurd hr.1 (by simp)|v::vs,hr=>
   match c,h with
   | .d (.v x),h=>
    simp only[V5]at h;split at h
    ·rename_i l' hl;simp only[zj]at h;subst h;have h0:RepD w I (.v x) v:=hr.2 0 (.d (.v x)) v rfl rfl;have hv:=RepD.v_eq h0;have ht:=Sz (vs:=vs) hl ⟨by simpa using hr.1,fun i c' v' h1 h2=>hr.2 (i+1) c' v' (by simpa using h1) (by simpa using h2)⟩;rw[hv,ht]
    ·cases h
theorem AcD{kd:Nat}{y:AV}{key v:Value}(h:Agt kd y=some key)(hr:RepA O w I y v):v=key/\AcJ kd key:=by
 unfold Agt at h;split at h
 ·rename_i cs;cases hb:Nat.ble 5 kd with
  |false=>rw[hb]at h;cases h|true=>
   rw[hb]at h;simp only[za]at h;split at h
   ·rename_i l hl;simp only[zj]at h;subst h;obtain⟨vs,rfl,hv⟩:=hr;have:=Sz hl hv;refine⟨by rw[<-this], ?_⟩;rw[bleD]at hb;match kd,hb with
    |n+5,_=>trivial
   ·cases h
 ·rename_i b;have e:=RepD.v_eq hr;cases hb:(Nat.beq kd 0||Nat.beq kd 2)with
  |false=>rw[hb]at h;cases h|true=>
   rw[hb]at h;simp only[za,zj]at h;subst h;refine⟨e, ?_⟩;simp only[Bool.or_eq_true]at hb;rcases hb with hb|hb
   ·have:=zg hb;subst this;exact⟨b,rfl⟩
   ·have:=zg hb;subst this;exact⟨b,rfl⟩
 ·rename_i n;have e:=RepD.v_eq hr;cases hb:(Nat.beq kd 1||(Nat.beq kd 3||Nat.beq kd 4))with
  |false=>rw[hb]at h;cases h|true=>
   rw[hb]at h;simp only[za,zj]at h;subst h;refine⟨e, ?_⟩;simp only[Bool.or_eq_true]at hb;rcases hb with hb|hb|hb
   ·have:=zg hb;subst this;exact⟨n,rfl⟩
   ·have:=zg hb;subst this;exact⟨n,rfl⟩
   ·have:=zg hb;subst this;exact⟨n,rfl⟩
 ·cases h
theorem Acd: ∀{kd:Nat} {v:Value},kd<5 ->AcJ kd v ->Ace kd (some v)=v
 |0,_,_,⟨_,rfl⟩=>rfl|1,_,_,⟨_,rfl⟩=>rfl|2,_,_,⟨_,rfl⟩=>rfl|3,_,_,⟨_,rfl⟩=>rfl|4,_,_,⟨_,rfl⟩=>rfl|n+5,_,h,_=>by omega
theorem Lo: ∀(kd:Nat) (o:Option Value),one (Ace kd o)=true
 |0,_=>rfl|1,_=>rfl|2,_=>rfl|_+3,_=>rfl
theorem Ng(v:Value)(b ok:Bool):RepA O w I (Abp v b ok) (if ok then .tuple #[v, .bool b]else v):=by
 have hv:=Abq (O:=O) (w:=w) (I:=I) v;unfold Abp;split
 ·rename_i cs hcs;rw[hcs]at hv;cases ok with
  |false=>exact hv|true=>
   refine⟨_,rfl,rfl,fun i p x h1 h2=> ?_⟩;match i,h1,h2 with
   |0,h1,h2=>simp at h1 h2;subst h1 h2;exact hv|1,h1,h2=>simp at h1 h2;subst h1 h2;exact⟨_,rfl, .v _ rfl⟩|n+2,h1,h2=>simp at h1
 ·trivial
theorem AdV{d:TypeDesc}{a b:Value}(ha:MapKept.IsKey d a)(hb:MapKept.IsKey d b)(hd:d= .string\/d= .int .i64):Lh a b=true↔a=b:=by
 rcases hd with rfl|rfl
 ·cases a<;>simp only[MapKept.IsKey]at ha;cases b<;>simp only[MapKept.IsKey]at hb;rename_i s t;simp only[Lh,beq_iff_eq,Value.string.injEq];constructor
  ·intro h;obtain⟨⟨x⟩⟩:=s;obtain⟨⟨y⟩⟩:=t;simp at h;rw[h]
  ·rintro rfl;rfl
 ·cases a<;>simp only[MapKept.IsKey]at ha;cases b<;>simp only[MapKept.IsKey]at hb;subst ha hb;simp[Lh]
theorem Aih: ∀(kd:Nat),keyD kd= .string\/keyD kd= .int .i64
 |0=> .inl rfl|1=> .inl rfl|2=> .inr rfl|3=> .inr rfl|_+4=> .inl rfl
theorem T0{kd:Nat}{a b:Value}(ha:Ge kd a)(hb:Ge kd b):Lh a b=true↔a=b:=by
 by_cases h:kd=4
 ·subst h;obtain⟨x,y,rfl⟩:=ha;obtain⟨z,u,rfl⟩:=hb;simp[Lh]
 ·exact AdV ((Kb h).1 ha) ((Kb h).1 hb) (Aih kd)
theorem V9 {k : TypeId} {fs : List Field} (h : Wb P k fs = true) : ∃ f g, fs = [f, g] /\ f.offset = 0 /\ g.offset = 1 /\ f.name ≠ "_" /\ g.name ≠ "_" /\ Bm P f.type = some 1 /\ Bm P g.type = some 1 /\ P.stoodInHeld k = false /\ P.underlying f.type = some (.int .i64) /\ P.underlying g.type = some (.int .i64) := by
 unfold Wb at h;split at h
 ·rename_i f g;simp only[zd,zi,Bool.not_eq_true']at h;obtain⟨h1,h2,h3,h4,h5,h6,h7,h8⟩:=h;split at h8
  ·rename_i u1 u2;exact⟨f,g,rfl,h1,h2,h3,h4,h5,h6,h7,u1,u2⟩
  ·cases h8
 ·cases h
theorem AlX{kt:TypeId}{fs:Array Field}(hu:P.underlying kt=some (.struct fs))(hp:Wb P kt fs.toList=true)(a b c d:Int):
  (Op.equal kt (.agg #[.int .i64 a, .int .i64 b]) (.agg #[.int .i64 c, .int .i64 d])).run P w= .ok (a==c&&b==d) w:=by
 obtain⟨f,g,hfs,o1,o2,n1,n2,s1,s2,hst,u1,u2⟩:=V9 hp;have a1:aggT P f.type=some false:=by simp[aggT,u1]
 have a2:aggT P g.type=some false:=by simp[aggT,u2]
 have he:eqT P 2 kt [.d (.v (.int .i64 a)), .d (.v (.int .i64 b))] [.d (.v (.int .i64 c)), .d (.v (.int .i64 d))]=some (a==c&&(b==d&&true)):=by
  simp[eqT,hu,hst,hfs,eqFs,s1,s2,a1,a2,o1,o2,n1,n2,u1,u2]
 have rc: ∀x y:Int,RepCs (fun _=> .free) w (fun _ _=>False) [.d (.v (.int .i64 x)), .d (.v (.int .i64 y))] [.int .i64 x, .int .i64 y]:=fun x y=>by
  refine⟨rfl,fun i c v h1 h2=> ?_⟩;match i,h1,h2 with
  |0,h1,h2=>simp at h1 h2;subst h1 h2;exact .v _ rfl|1,h1,h2=>simp at h1 h2;subst h1 h2;exact .v _ rfl|n+2,h1,h2=>simp at h1
 have:=AfD (P:=P) (w:=w) 2 kt _ _ _ _ _ 10000 (by omega) he (rc a b) (rc c d);simpa[mkV,aggT,hu,Op.equal,Op.maxDepth]using this
theorem AbX{kt:TypeId}{fs:Array Field}(hu:P.underlying kt=some (.struct fs))(hp:Wb P kt fs.toList=true)(e:Bool)(a b:Int):(Instr.checkKey e 10000 kt (.agg #[.int .i64 a, .int .i64 b])).run P w= .ok () w:=by
 obtain⟨f,g,hfs,o1,o2,n1,n2,s1,s2,hst,u1,u2⟩:=V9 hp;have a1:aggT P f.type=some false:=by simp[aggT,u1]
 have a2:aggT P g.type=some false:=by simp[aggT,u2]
 have hf:fs= #[f,g]:=Array.ext' hfs;have p1:=Mq (P:=P) (w:=w) (vs:=[.int .i64 a, .int .i64 b]) (off:=0) s1 (by rw[a1];rfl) (fun _=>⟨by simp,by omega⟩);have p2:=Mq (P:=P) (w:=w) (vs:=[.int .i64 a, .int .i64 b]) (off:=1) s2 (by rw[a2];rfl) (fun _=>⟨by simp,by omega⟩);have k1:(Instr.checkKey e 9999 f.type (.int .i64 a)).run P w= .ok () w:=MapKept.run_checkKey (d:= .int .i64) (k:= .int .i64 a) u1 rfl e 9998;have k2:(Instr.checkKey e 9999 g.type (.int .i64 b)).run P w= .ok () w:=MapKept.run_checkKey (d:= .int .i64) (k:= .int .i64 b) u2 rfl e 9998;simp only[mkV,a1,a2,zq,List.drop_succ_cons,List.take_succ_cons,List.take_zero,List.headD_cons,zj,Bool.false_eq_true,if_false]at p1 p2;subst hf;unfold Instr.checkKey;simp[run_underlying hu,n1,n2,o1,o2,p1,p2,k1,k2,Result.andThen]
theorem Wa{kt:TypeId}{fs:Array Field}(hu:P.underlying kt=some (.struct fs))(hp:Wb P kt fs.toList=true){key:Value}(hk:Ge 4 key): ∀(es:List MapEntry) (i:Nat),(∀x∈es,Ge 4 x.key) ->
  ((Instr.findAsking kt key es i).run P w= .ok none w/\ ∀e∈es,e.key≠key)\/ ∃j e,(Instr.findAsking kt key es i).run P w= .ok (some (i+j,e.val)) w/\es[j]? =some e/\e.key=key
 |[],i,_=> .inl ⟨by simp[Instr.findAsking],fun e he=>by simp at he⟩
 |e::es,i,h=>by
  obtain⟨a,b,rfl⟩:=hk;obtain⟨c,d,hc⟩:=h e (by simp);have hq:=AlX (w:=w) hu hp a b c d;have ih:=Wa hu hp (key:= .agg #[.int .i64 a, .int .i64 b]) ⟨a,b,rfl⟩ es (i+1) (fun x hx=>h x (by simp[hx]));have run:(Instr.findAsking kt (.agg #[.int .i64 a, .int .i64 b]) (e::es) i).run P w=if(a==c&&b==d)=true then .ok (some (i,e.val)) w else(Instr.findAsking kt (.agg #[.int .i64 a, .int .i64 b]) es (i+1)).run P w:=by
   rw[Instr.findAsking,Sem.run_bind,hc,hq];simp only[Result.andThen_ok];cases(a==c&&b==d)<;>simp
  rw[run];cases hb:(a==c&&b==d)with
  |true=>
   simp only[zd,beq_iff_eq]at hb;exact .inr ⟨0,e,by simp,rfl,by rw[hc,hb.1,hb.2]⟩
  |false=>
   have hne:e.key≠ .agg #[.int .i64 a, .int .i64 b]:=fun heq=>by
    rw[hc]at heq;simp only[Value.agg.injEq]at heq;have h0:[Value.int .i64 c,Value.int .i64 d]=[Value.int .i64 a,Value.int .i64 b]:=congrArg Array.toList heq;simp at h0;simp[h0.1,h0.2]at hb
   simp only[Bool.false_eq_true,if_false];rcases ih with⟨i1,i2⟩|⟨j,e',i1,i2,i3⟩
   ·refine .inl ⟨i1,fun x hx=> ?_⟩;rcases List.mem_cons.1 hx with rfl|hx
    ·exact hne
    ·exact i2 x hx
   ·exact .inr ⟨j+1,e',by rw[i1];congr 3;omega,by simpa using i2,i3⟩
theorem Ka{kd:Nat}{kt:TypeId}(hk:AnG P kd kt){key:Value}(hkey:Ge kd key):
  (∀e,(Instr.checkKey e 10000 kt key).run P w= .ok () w)/\(Instr.keyThatStays key key).run P w= .ok key w/\
  ∀es:List MapEntry,(∀x∈es,Ge kd x.key) ->((Instr.findKey kt key es).run P w= .ok none w/\ ∀e∈es,e.key≠key)\/ ∃j e,(Instr.findKey kt key es).run P w= .ok (some (j,e.val)) w/\es[j]? =some e/\e.key=key:=by
 rcases hk with⟨h4,hu⟩|⟨rfl,fs,hu,hp⟩
 ·have hkey':=(Kb h4).1 hkey;refine⟨fun e=>MapKept.run_checkKey hu hkey' e 9999,MapKept.run_keyThatStays hkey',fun es hes=> ?_⟩;rcases MapKept.findNow_spec hkey' es 0 (fun x hx=>(Kb h4).1 (hes x hx))with⟨h1,h2⟩|⟨j,e,h1,h2,h3⟩
  ·exact .inl ⟨MapKept.run_findKey hu h1,h2⟩
  ·exact .inr ⟨j,e,MapKept.run_findKey hu (by simpa using h1),h2,h3⟩
 ·obtain⟨a,b,rfl⟩:=hkey;refine⟨fun e=>AbX hu hp e a b,by simp[Instr.keyThatStays,Instr.sameBits],fun es hes=> ?_⟩;have hf:=Wa (w:=w) hu hp (key:= .agg #[.int .i64 a, .int .i64 b]) ⟨a,b,rfl⟩ es 0 hes;have e0:(Instr.findKey kt (.agg #[.int .i64 a, .int .i64 b]) es).run P w=(Instr.findAsking kt (.agg #[.int .i64 a, .int .i64 b]) es 0).run P w:=by
   cases es with
   |nil=>simp[Instr.findKey,run_underlying hu,Instr.findNow,Instr.findAsking]|cons e r=>simp[Instr.findKey,run_underlying hu,Instr.findNow,Instr.sameNow]
  rw[e0];rcases hf with hf|⟨j,e,h1,h2,h3⟩
  ·exact .inl hf
  ·exact .inr ⟨j,e,by simpa using h1,h2,h3⟩
theorem AaO{kd:Nat}{kt:TypeId}(hk:AnG P kd kt){l:MV}{es:List MapEntry}(hM:RepM kd l es){key:Value}(hkey:Ge kd key):
  ((Instr.findKey kt key es).run P w= .ok none w/\Bb l key=none/\ ∀e∈es,e.key≠key)\/ ∃j e,(Instr.findKey kt key es).run P w= .ok (some (j,e.val)) w/\es[j]? =some e/\e.key=key/\Bb l key=some e.val/\AcJ kd e.val:=by
 rcases(Ka (w:=w) hk hkey).2.2 es (fun x hx=>(hM.1 x hx).1)with⟨h1,h2⟩|⟨j,e,h1,h2,h3⟩
 ·refine .inl ⟨h1, ?_,h2⟩;cases ha:Bb l key with
  |none=>rfl|some v=>obtain⟨e,he,hke⟩:=hM.2.1 key v hkey ha;exact absurd hke (h2 e he)
 ·have he:e∈es:=List.mem_of_getElem? h2;obtain⟨i1,i2,i3⟩:=hM.1 e he;rw[h3]at i3;exact .inr ⟨j,e,h1,h2,h3,i3,i2⟩
def M4:List (Value×Value) ->List Value
 |[]=>[]|(a,_)::r=>match Bb r a with
  |some _=>M4 r|none=>a::M4 r
theorem AfY: ∀l:MV,dlen l=(M4 l).length
 |[]=>rfl|(a,v)::r=>by
  simp only[dlen,M4,AfY r];cases Bb r a<;>simp
theorem Ma{kd:Nat}{k:Value}(hk:Ge kd k): ∀l:MV,(∀p∈l,Ge kd p.1) ->(k∈M4 l↔Bb l k≠none)
 |[],_=>by simp[M4,Bb]|(a,v)::r,h=>by
  have ih:=Ma hk r (fun p hp=>h p (by simp[hp]));have ha:Ge kd a:=h (a,v) (by simp);have hs:=T0 hk ha;simp only[M4,Bb];by_cases e:k=a
  ·subst e;rw[hs.2 rfl];simp only[za,ne_eq,reduceCtorEq,not_false_eq_true,iff_true];cases hr:Bb r k with
   |none=>exact List.mem_cons_self ..|some x=>exact ih.2 (by rw[hr];simp)
  ·have hf:Lh k a=false:=by
    cases hb:Lh k a with
    |false=>rfl|true=>exact absurd (hs.1 hb) e
   rw[hf];simp only[zb];cases Bb r a with
   |none=>simp only[List.mem_cons,e,false_or];exact ih|some x=>exact ih
theorem Rl{kd:Nat}: ∀l:MV,(∀p∈l,Ge kd p.1) ->(M4 l).Nodup
 |[],_=>by simp[M4]|(a,v)::r,h=>by
  have ih:=Rl r (fun p hp=>h p (by simp[hp]));have hm:=Ma (h (a,v) (by simp)) r (fun p hp=>h p (by simp[hp]));simp only[M4];cases hr:Bb r a with
  |some x=>exact ih|none=>
   refine List.nodup_cons.2 ⟨fun hc=> ?_,ih⟩;exact absurd hr (hm.1 hc)
theorem AaX{kd:Nat}: ∀l:MV,(∀p∈l,Ge kd p.1) -> ∀k∈M4 l,Ge kd k
 |[],_,k,h=>by simp[M4]at h|(a,v)::r,h,k,hk=>by
  simp only[M4]at hk;have ih:=AaX r (fun p hp=>h p (by simp[hp]));split at hk
  ·exact ih k hk
  ·rcases List.mem_cons.1 hk with rfl|hk
   ·exact h (k,v) (by simp)
   ·exact ih k hk
theorem Ua{J:Type}: ∀(a b:List J),a.Nodup ->(∀x∈a,x∈b) ->a.length<=b.length
 |[],_,_,_=>Nat.zero_le _|x::a,b,hn,h=>by
  obtain⟨p,q,rfl⟩:=List.append_of_mem (h x (by simp));obtain⟨h1,h2⟩:=List.nodup_cons.1 hn;have ih:=Ua a (p++q) h2 (fun y hy=>by
   have:=h y (by simp[hy]);rcases List.mem_append.1 this with h3|h3
   ·exact List.mem_append_left _ h3
   ·rcases List.mem_cons.1 h3 with rfl|h3
    ·exact absurd hy h1
    ·exact List.mem_append_right _ h3)
  simp at ih⊢;omega
theorem RepM.len{kd:Nat}{l:MV}{es:List MapEntry}(h:RepM kd l es):es.length=dlen l:=by
 rw[AfY];have e:es.length=(es.map (·.key)).length:=by simp
 rw[e];refine Nat.le_antisymm (Ua _ _ h.2.2.1 fun x hx=> ?_) (Ua _ _ (Rl l h.2.2.2) fun x hx=> ?_)
 ·obtain⟨y,hy,rfl⟩:=List.mem_map.1 hx;obtain⟨i1,_,i3⟩:=h.1 y hy;exact(Ma i1 l h.2.2.2).2 (by rw[i3];simp)
 ·have hk:=AaX l h.2.2.2 x hx;have:=(Ma hk l h.2.2.2).1 hx;cases ha:Bb l x with
  |none=>exact absurd ha this|some v=>
   obtain⟨y,hy,hky⟩:=h.2.1 x v hk ha;exact List.mem_map.2 ⟨y,hy,hky⟩
theorem Acb{t:TypeId}{r:Option Operand}(hn:O h0= .free)(h:RelH O H I w)(hs:res P ⟨dst, .makeMap t r,ty,pos,after,guard⟩ ρ=some (true,a))(hp:Ax h0 a H=some (x,ft,u)):
  OpOk O I w x u H ((execOp ρv ⟨dst, .makeMap t r,ty,pos,after,guard⟩).run P w):=by
 simp only[res]at hs;split at hs
 ·rename_i kd hk;simp at hs;subst hs;obtain⟨rfl,rfl⟩:=Gh hp;refine⟨.value (.map (some w.heap.size)),w.alloc (.map #[] 0),setB O h0 (.at w.heap.size),I, ?_, .inl ⟨_,rfl,⟨w.heap.size,rfl, .inr (Ak _ _ _)⟩⟩,h.new hn _ _ (fun b hb=>by simpa[Nst.blk]using hb.symm) ⟨w.heap.size, #[],0,Ak _ _ _,Ly _ _,⟨(fun e he=>by simp at he),(fun k v _ hv=>by simp[Bb]at hv),by simp,fun p hp=>by simp at hp⟩⟩, .new h.toPlace hn _ _ (fun b hb=>by simpa[Nst.blk]using hb.symm), .set hn _⟩;simp[execOp,Instr.makeMap]
 ·simp at hs
theorem AeH{k kd:Nat}{l:MV}{v:Value}(h:RelH O H I w)(hl:look H k=some (.map kd l))(hv:RepA O w I (.c (.mp k)) v): ∃b es clock,v= .map (some b)/\O k= .at b/\w.heap[b]? =some (.map es clock)/\RepM kd l es.toList:=by
 obtain⟨b,es,clock,hb,hheap,hM⟩:=h.blk k _ hl;obtain⟨b',rfl,hd|hb'⟩:=hv
 ·rw[hb]at hd;cases hd
 ·rw[hb]at hb';cases hb';exact⟨b,es,clock,rfl,hb,hheap,hM⟩
theorem AeR{t:TypeId}{y i:Operand}{ok:Bool}(hρ: ∀x,RepA O w I (ρ x) (ρv x))(h:RelH O H I w)(hs:res P ⟨dst, .lookup t y i ok,ty,pos,after,guard⟩ ρ=some (true,a))(hp:Ax h0 a H=some (x,ft,u)):
  OpOk O I w x u H ((execOp ρv ⟨dst, .lookup t y i ok,ty,pos,after,guard⟩).run P w):=by
 simp only[res]at hs;split at hs
 ·rename_i kd hk;split at hs
  ·rename_i k key hy hi;simp at hs;subst hs;simp only[Ax]at hp;split at hp
   ·rename_i kd' l hl;cases hb:Nat.beq kd kd' with
    |false=>rw[hb]at hp;cases hp|true=>
     rw[hb]at hp;have e:=zg hb;subst e;simp only[za,zj,Prod.mk.injEq]at hp;obtain⟨rfl,rfl,rfl⟩:=hp;obtain⟨kt,et,inf,hu,hku,hinf,hz,hz4⟩:=Mv hk;have hv:=hρ y;rw[hy]at hv;obtain⟨b,es,clock,hve,hbe,hheap,hM⟩:=AeH h hl hv;obtain⟨hke,hkey⟩:=Nd hi (hρ i);have hck:(Instr.checkKey es.isEmpty 10000 kt key).run P w= .ok () w:=(Ka hku hkey).1 es.isEmpty;have hzr:(zeroValue et).run P w= .ok (zM P t) w:=by simp[zeroValue,typeInfo,hinf,hz]
     have hrun: ∃v0:Value,(Instr.lookup t (.map (some b)) key ok).run P w= .ok (if ok then .tuple #[v0, .bool (Bb l key).isSome]else v0) w/\v0=(Bb l key).getD (zM P t)/\ ∀v,Bb l key=some v ->AcJ kd v:=by
      rcases AaO (w:=w) hku hM hkey with⟨f1,f2,_⟩|⟨j,e,f1,f2,f3,f4,f5⟩
      ·refine⟨zM P t, ?_,by rw[f2];rfl,fun v hv=>by rw[f2]at hv;cases hv⟩;simp[Instr.lookup,run_underlying hu,MapKept.run_getObj_map hheap,hck,f1,hzr,f2,Result.andThen]
      ·refine⟨e.val, ?_,by rw[f4];rfl,fun v hv=>by rw[f4]at hv;cases hv;exact f5⟩;simp[Instr.lookup,run_underlying hu,MapKept.run_getObj_map hheap,hck,f1,f4,Result.andThen]
     obtain⟨v0,hrun,hv0,hval⟩:=hrun;refine A0 (v:=if ok then .tuple #[v0, .bool (Bb l key).isSome]else v0) (by simp[execOp,hve,hke,hrun]) ?_ h;unfold Kz;cases hlt:Nat.blt kd 5 with
     |true=>
      have h4:kd<5:=by rw[bltD]at hlt;simpa using hlt
      have e0:v0=Ace kd (Bb l key):=by
       rw[hv0];cases ha:Bb l key with
       |none=>exact hz4 h4|some v=>exact(Acd h4 (hval v ha)).symm
      rw[e0];simp only[za];cases ok with
      |false=>exact RepD.v _ (Lo _ _)|true=>
       refine⟨_,rfl,rfl,fun i p v h1 h2=> ?_⟩;match i,h1,h2 with
       |0,h1,h2=>simp at h1 h2;subst h1 h2;exact⟨_,rfl, .v _ (Lo _ _)⟩|1,h1,h2=>simp at h1 h2;subst h1 h2;exact⟨_,rfl, .v _ rfl⟩|n+2,h1,h2=>simp at h1
     |false=>
      simp only[zb];cases ha:Bb l key with
      |none=>rw[ha]at hv0;rw[hv0];exact Ng _ _ _|some v=>rw[ha]at hv0;rw[hv0];exact Ng _ _ _
   ·simp at hp
  ·rename_i key hy hi;simp at hs;subst hs;obtain⟨rfl,rfl⟩:=As hp;obtain⟨kt,et,inf,hu,hku,hinf,hz,hz4⟩:=Mv hk;have hve:=A7 hy (hρ y);obtain⟨hke,hkey⟩:=Nd hi (hρ i);have hck:(Instr.checkKey true 10000 kt key).run P w= .ok () w:=(Ka hku hkey).1 true;have hzr:(zeroValue et).run P w= .ok (zM P t) w:=by simp[zeroValue,typeInfo,hinf,hz]
   have hf:(Instr.findKey kt key []).run P w= .ok none w:=by
    rcases(Ka (w:=w) hku hkey).2.2 [] (fun x hx=>by simp at hx)with⟨h1,_⟩|⟨j,e,_,h2,_⟩
    ·exact h1
    ·simp at h2
   refine A0 (v:=if ok then .tuple #[zM P t, .bool false]else zM P t) (by simp[execOp,hve,hke,Instr.lookup,run_underlying hu,hck,hf,hzr,Result.andThen]) ?_ h;unfold Kz;cases hlt:Nat.blt kd 5 with
   |true=>
    have h4:kd<5:=by rw[bltD]at hlt;simpa using hlt
    rw[hz4 h4];simp only[za];cases ok with
    |false=>exact RepD.v _ (Lo _ _)|true=>
     refine⟨_,rfl,rfl,fun i p v h1 h2=> ?_⟩;match i,h1,h2 with
     |0,h1,h2=>simp at h1 h2;subst h1 h2;exact⟨_,rfl, .v _ (Lo _ _)⟩|1,h1,h2=>simp at h1 h2;subst h1 h2;exact⟨_,rfl, .v _ rfl⟩|n+2,h1,h2=>simp at h1
   |false=>
    simp only[zb];exact Ng _ _ _
  ·simp at hs
 ·simp at hs
theorem AbR{k b:Nat}(hb:(O k).blk=some b)(hp:Place O I w){es:Array MapEntry}{clock:Nat}(ho:w.heap[b]? =some (.map es clock)){o:Obj}:Ext O I O I w {w with heap:=w.heap.setIfInBounds b o} where
 os:=rfl
 tape:=rfl
 output:=rfl
 size:=by simp
 block x _ hn:=by
  have:b≠x:=fun e=>hn k (by rw[<-e];exact hb)
  simp[Array.getElem?_setIfInBounds_ne this]
 keepI _ _ hi:=hi
 cell x o' hi:=by
  have:b≠x:=fun e=>hp.off k b o' hb (e▸hi)
  simp[World.cell?,Array.getElem?_setIfInBounds_ne this]
 newI _ _ hi:= .inl hi
 newB x _ hx:= .inl ⟨x,hx⟩
 shapes x vs t fz hx:=by
  have:b≠x:=fun e=>by rw[e]at ho;rw[ho]at hx;cases hx
  exact⟨vs,fz,by simp[Array.getElem?_setIfInBounds_ne this];exact hx,rfl⟩
theorem Pf{t:TypeId}{m k v:Operand}(hρ: ∀x,RepA O w I (ρ x) (ρv x))(h:RelH O H I w)(hs:res P ⟨dst, .mapUpdate t m k v,ty,pos,after,guard⟩ ρ=some (true,a))(hp:Ax h0 a H=some (x,ft,u)):
  OpOk O I w x u H ((execOp ρv ⟨dst, .mapUpdate t m k v,ty,pos,after,guard⟩).run P w):=by
 simp only[res]at hs;split at hs
 ·rename_i kd hk;split at hs
  ·rename_i hh key val hy hi hva;simp at hs;subst hs;simp only[Ax]at hp;split at hp
   ·rename_i kd' l hl;cases hb:Nat.beq kd kd' with
    |false=>rw[hb]at hp;cases hp|true=>
     rw[hb]at hp;have e:=zg hb;subst e;simp only[za,zj,Prod.mk.injEq]at hp;obtain⟨rfl,rfl,rfl⟩:=hp;obtain⟨kt,et,inf,hu,hku,hinf,hz,hz4⟩:=Mv hk;have hv:=hρ m;rw[hy]at hv;obtain⟨b,es,clock,hve,hbe,hheap,hM⟩:=AeH h hl hv;obtain⟨hke,hkey⟩:=Nd hi (hρ k);obtain⟨hvv,hval⟩:=AcD hva (hρ v);have hck:(Instr.checkKey false 10000 kt key).run P w= .ok () w:=(Ka hku hkey).1 false;have hblk:(O hh).blk=some b:=by rw[hbe];rfl
     have hlt:=h.lt hh b hblk;have a1:Bb ((key,val)::l) key=some val:=by
      simp only[Bb];rw[(T0 hkey hkey).2 rfl];rfl
     have a2: ∀q,Ge kd q ->q≠key ->Bb ((key,val)::l) q=Bb l q:=fun q hq hne=>by
      simp only[Bb];cases hs:Lh q key with
      |false=>rfl|true=>exact absurd ((T0 hq hkey).1 hs) hne
     have fin: ∀(es':Array MapEntry) (clock':Nat),(Instr.mapUpdate t (.map (some b)) key val).run P w= .ok () {w with heap:=w.heap.setIfInBounds b (.map es' clock')} ->RepM kd ((key,val)::l) es'.toList ->
      OpOk O I w (.tup []) [(hh, .map kd ((key,val)::l))] H ((execOp ρv ⟨dst, .mapUpdate t m k v,ty,pos,after,guard⟩).run P w):=fun es' clock' hrun hM'=>by
      have hext:=AbR (O:=O) (I:=I) (k:=hh) (b:=b) hblk h.toPlace hheap (o:= .map es' clock')
      refine⟨.skip,_,O,I, ?_, .inr ⟨rfl,rfl⟩,h.step (h.toPlace.same (by simp) hext.cell) (hext.keep (.refl O)) (fun y hy'=>⟨rfl,fun c hc=> ?_⟩) (fun y B hy'=> ?_),hext, .refl O⟩
      ·simp only[execOp,hve,hke,hvv]
       simp[hrun]
      ·rw[Cm]at hy'
       split at hy'
       ·simp at hy'
       ·rename_i e
        have:b≠c:=fun ec=>e (h.inj y hh b (ec▸hc) hblk)
        simp[Array.getElem?_setIfInBounds_ne this]
      ·rw[Cm]at hy'
       split at hy'
       ·rename_i e;simp at hy';subst hy' e
        exact⟨b,es',clock',hbe,by simp[hlt],hM'⟩
       ·simp at hy'
     have hall: ∀p∈(key,val)::l,Ge kd p.1:=fun p hp=>by
      rcases List.mem_cons.1 hp with rfl|hp
      ·exact hkey
      ·exact hM.2.2.2 p hp
     rcases AaO (w:=w) hku hM hkey with⟨f1,f2,f3⟩|⟨j,e,f1,f2,f3,f4,f5⟩
     ·refine fin (es.push {key:=key,val:=val,born:=clock}) (clock+1) ?_ ⟨fun e he=> ?_,fun q x hq hx=> ?_, ?_,hall⟩
      ·simp[Instr.mapUpdate,run_underlying hu,MapKept.run_getObj_map hheap,hck,f1,MapKept.run_setObj_map _ hheap,Result.andThen]
      ·rw[Array.toList_push,List.mem_append]at he;rcases he with he|he
       ·obtain⟨i1,i2,i3⟩:=hM.1 e he;exact⟨i1,i2,by rw[a2 _ i1 (f3 e he)];exact i3⟩
       ·simp at he;subst he;exact⟨hkey,hval,a1⟩
      ·by_cases e:q=key
       ·exact⟨{key:=key,val:=val,born:=clock},by rw[Array.toList_push];exact List.mem_append_right _ (by simp),e.symm⟩
       ·rw[a2 q hq e]at hx;obtain⟨e',he',hk'⟩:=hM.2.1 q x hq hx;exact⟨e',by rw[Array.toList_push];exact List.mem_append_left _ he',hk'⟩
      ·rw[Array.toList_push,List.map_append,List.nodup_append];refine⟨hM.2.2.1,by simp,fun q hq r hr=> ?_⟩;simp at hr;subst hr;obtain⟨e,he,rfl⟩:=List.mem_map.1 hq;exact f3 e he
     ·have hj:j<es.toList.length:=(List.getElem?_eq_some_iff.1 f2).1;have hej:es.toList[j]=e:=(List.getElem?_eq_some_iff.1 f2).2;have hej':es[j]? =some e:=by rw[<-Array.getElem?_toList];exact f2
      have hst:(Instr.keyThatStays key key).run P w= .ok key w:=(Ka hku hkey).2.1;have hmod:(es.modify j fun e=>{e with key:=key,val:=val}).toList=es.toList.modify j fun e=>{e with key:=key,val:=val}:=by simp
      have hkeys:(es.toList.modify j fun e=>{e with key:=key,val:=val}).map (·.key)=es.toList.map (·.key):=by
       apply List.ext_getElem
       ·simp
       ·intro n h1 h2;simp only[List.getElem_map,List.getElem_modify];split
        ·rename_i hjn;subst hjn;rw[hej];exact f3.symm
        ·rfl
      refine fin (es.modify j fun e=>{e with key:=key,val:=val}) clock ?_ ⟨fun e' he'=> ?_,fun q x hq hx=> ?_, ?_,hall⟩
      ·simp[Instr.mapUpdate,run_underlying hu,MapKept.run_getObj_map hheap,hck,f1,MapKept.run_setObj_map _ hheap,Result.andThen,hej',f3,hst]
      ·rw[hmod]at he';obtain⟨i,hi',hie⟩:=List.getElem_of_mem he';have hi2:i<es.toList.length:=by simpa using hi'
       rw[List.getElem_modify]at hie;split at hie
       ·subst hie;exact⟨hkey,hval,a1⟩
       ·rename_i hne;subst hie;obtain⟨i1,i2,i3⟩:=hM.1 _ (List.getElem_mem hi2);refine⟨i1,i2, ?_⟩;rw[a2 _ i1 ?_]
        ·exact i3
        ·intro hkk;have hnd:=List.pairwise_iff_getElem.1 hM.2.2.1;have he: ∀(n m:Nat) (hn:n<es.toList.length) (hm:m<es.toList.length),n<m ->es.toList[n].key≠es.toList[m].key:=fun n m hn hm hlt=>by
          have:=hnd n m (by simpa using hn) (by simpa using hm) hlt;simpa only[List.getElem_map]using this
         rcases Nat.lt_trichotomy i j with hlt|heq|hlt
         ·exact he i j hi2 hj hlt (by rw[hkk,hej,f3])
         ·exact hne heq.symm
         ·exact he j i hj hi2 hlt (by rw[hkk,hej,f3])
      ·rw[hmod];have hin:q∈es.toList.map (·.key):=by
        by_cases e2:q=key
        ·rw[e2,<-f3,<-hej];exact List.mem_map_of_mem (List.getElem_mem hj)
        ·rw[a2 q hq e2]at hx;obtain⟨e',he',hk'⟩:=hM.2.1 q x hq hx;rw[<-hk'];exact List.mem_map_of_mem he'
       rw[<-hkeys]at hin;obtain⟨e',he',hk'⟩:=List.mem_map.1 hin;exact⟨e',he',hk'⟩
      ·rw[hmod,hkeys];exact hM.2.2.1
   ·simp at hp
  ·simp at hs
 ·simp at hs
end
end Go.Eb
end
