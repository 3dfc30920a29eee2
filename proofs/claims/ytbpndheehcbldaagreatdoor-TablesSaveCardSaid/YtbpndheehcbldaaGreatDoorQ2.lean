/-
  Go code evaluated: part 2. No condition.
-/
import Derived.Test.YtbpndheehcbldaaGreatDoorQ1
import Derived.LoopN
import Derived.ScopeJumps
import Derived.ProofKit
import Derived.ChangeOld
import Derived.OpenShut
noncomputable section
set_option maxRecDepth 100000
namespace Go.Eb
open Go.RowKit
section
variable {O:Bt}{I:Im}{w:World}{P:Program}{H:Hp}
variable {ρ:Operand ->AV}{ρv:Operand ->Value}{dst:Option Tmp}{ty:TypeId}{pos:String}{after:Array Edge}{guard:Option (Nat×Bool)}{a:Do}{x:AV}{ft:Foot}{u:Ups}{h0:Nat}
theorem Ti{lo:Option Operand}{d:Nat}{n:Int}(hρ: ∀x,RepA O w I (ρ x) (ρv x))(h:C6 ρ lo d=some n):(lo=none/\n=d)\/ ∃o k,lo=some o/\ρv o= .int k n:=by
 unfold C6 at h;split at h
 ·simp at h;exact .inl ⟨rfl,h.symm⟩
 ·rename_i o;split at h
  ·rename_i k n' ho;simp at h;subst h;exact .inr ⟨o,k,rfl,A7 ho (hρ o)⟩
  ·simp at h
theorem Fg{isSlice:Bool}{len cap:Nat}{lo hi:Option Operand}{l h:Int}(hρ: ∀x,RepA O w I (ρ x) (ρv x))(h1:C6 ρ lo 0=some l)(h2:C6 ρ hi len=some h)(g0:0<=l)(g1:l<=h)(g2:h<=len)(g3:len<=cap):
  (Instr.sliceBounds isSlice len cap (lo.map ρv) (hi.map ρv) none).run P w= .ok (l.toNat,h.toNat,cap) w:=by
 obtain⟨hn,rfl⟩: ∃n:Nat,h=n:=⟨h.toNat,by omega⟩;have a0:0<=(hn:Int):=by omega
 have a1:(hn:Int)<=cap:=by omega
 have a2:hn<=cap:=by omega
 rcases Ti hρ h2 with⟨rfl,hnl⟩|⟨o,k,rfl,ho⟩<;>rcases Ti hρ h1 with⟨rfl,rfl⟩|⟨o',k',rfl,ho'⟩
 ·have:hn=len:=by omega
  subst this;simp[Instr.sliceBounds]
 ·have:hn=len:=by omega
  subst this;simp[Instr.sliceBounds,Instr.sliceBound,asIntOf,ho',g0,g1]
 ·simp[Instr.sliceBounds,Instr.sliceBound,asIntOf,ho,a0,a1,a2]
 ·simp[Instr.sliceBounds,Instr.sliceBound,asIntOf,ho,ho',a0,a1,a2,g0,g1]
theorem AhL{t:TypeId}{y:Operand}{lo hi mx:Option Operand}(hρ: ∀x,RepA O w I (ρ x) (ρv x))(h:RelH O H I w)(hs:res P ⟨dst, .slice t y lo hi mx,ty,pos,after,guard⟩ ρ=some (true,a))(hp:Ax h0 a H=some (x,ft,u)):
  OpOk O I w x u H ((execOp ρv ⟨dst, .slice t y lo hi mx,ty,pos,after,guard⟩).run P w):=by
 simp only[res]at hs;split at hs
 ·rename_i hu;split at hs
  ·rename_i s hy;split at hs
   ·rename_i l h' hl hh;simp at hs;obtain⟨⟨⟨g0,g1⟩,g2⟩,rfl⟩:=hs;obtain⟨rfl,rfl⟩:=As hp;have e:=A7 hy (hρ y);have hb:=Fg (P:=P) (isSlice:=false) (cap:=s.size) hρ hl hh g0 g1 g2 (Nat.le_refl _);refine A0 (v:= .string (s.extract l.toNat h'.toNat)) ?_ (.v _ rfl) h;simp[execOp,Instr.sliceAt,run_underlying hu,Instr.slice,e,hb]
   ·simp at hs
  ·simp at hs
 ·rename_i e hu;have hv:=hρ y;split at hs
  ·rename_i k sz len hy;split at hs
   ·rename_i q s hq hsz;simp at hs;obtain⟨⟨g0,g1⟩,rfl⟩:=hs;obtain⟨rfl,rfl⟩:=As hp;rw[hy]at hv;have hv:RowAt O w k sz len (ρv y):=hv;have hlo:C6 ρ none 0=some 0:=rfl;have run: ∀(a:Option Addr) (cap:Nat),ρv y= .slice a len cap ->len<=cap ->(execOp ρv ⟨dst, .slice t y none hi none,ty,pos,after,guard⟩).run P w= .ok (.value (.slice (if cap=0 then a else a.map (·.add 0)) q.toNat cap)) w:=by
     intro a cap hva hle;have hb:=Fg (P:=P) (isSlice:=true) (cap:=cap) hρ hlo hq (by omega) g0 g1 hle;simp at hb;simp[execOp,Instr.sliceAt,run_underlying hu,Instr.slice,hva,hb,Bn hsz]
    rcases hv with⟨hl,hv',hb⟩|⟨b,cap,hv',hle,hb⟩
    ·have e1:q.toNat=0:=by omega
     refine A0 (run none 0 (by rw[hv',hl]) (by omega)) ?_ h;exact .inl ⟨e1,by simp[e1],hb⟩
    ·refine A0 (run _ cap hv' hle) ?_ h;refine .inr ⟨b,cap, ?_,by omega, ?_⟩
     ·by_cases hc:cap=0
      ·simp[hc]
      ·simp[hc,Cx]
     ·rcases hb with hb|⟨hb,hln,hrest⟩
      ·exact .inl hb
      ·exact .inr ⟨hb,fun ob m e=>by have:=hln ob m e;omega,hrest⟩
   ·simp at hs
  ·rename_i d hy;split at hs
   ·rename_i s hsz;split at hs
    ·rename_i n f hd;split at hs
     ·rename_i l h' hl hh;simp at hs;obtain⟨⟨⟨g0,g1⟩,g2⟩,rfl⟩:=hs;obtain⟨rfl,rfl⟩:=As hp;rw[hy]at hv;have hv:RepD w I d (ρv y):=hv;have hrep:RepD w I (.sl s n f) (ρv y):=by
       cases d with
       |sl sz n' f'=>
        simp only[asSl]at hd;cases hb:Nat.beq sz s with
        |false=>rw[hb]at hd;cases hd|true=>
         have:=zg hb;subst this;rw[hb]at hd;cases hd;exact hv
       |v x=>
        unfold asSl at hd;split at hd
        ·rename_i e;cases e
        ·rename_i e;cases e;cases hd;have:=RepD.v_eq hv;rw[this];exact .nil _ _
        ·cases hd
      have run: ∀(a:Option Addr) (cap:Nat),ρv y= .slice a n cap ->n<=cap ->(execOp ρv ⟨dst, .slice t y lo hi none,ty,pos,after,guard⟩).run P w= .ok (.value (.slice (if cap=l.toNat then a else a.map (·.add (l.toNat*s))) (h'.toNat -l.toNat) (cap -l.toNat))) w:=by
       intro a cap hva hle;have hb:=Fg (P:=P) (isSlice:=true) (cap:=cap) hρ hl hh g0 g1 g2 hle;simp[execOp,Instr.sliceAt,run_underlying hu,Instr.slice,hva,hb,Bn hsz]
      generalize hvy:ρv y=v at hrep;cases hrep with
      |nil=>
       refine A0 (run none 0 hvy (Nat.le_refl _)) ?_ h;have e1:l.toNat=0:=by omega
       have e2:h'.toNat=0:=by omega
       rw[e1,e2];exact .nil _ _
      |emp _ _ ad cap=>
       refine A0 (run (some ad) cap hvy (by omega)) ?_ h;have e1:l.toNat=0:=by omega
       have e2:h'.toNat=0:=by omega
       rw[e1,e2];split
       ·exact .emp _ _ _ _
       ·exact .emp _ _ _ _
      |sl _ _ _ b off cap g hcap hsz' hc hI hr=>
       refine A0 (run _ cap hvy hcap) ?_ h;by_cases hcl:cap=l.toNat
       ·have e2:h'.toNat -l.toNat=0:=by omega
        rw[if_pos hcl,e2];exact .emp _ _ _ _
       ·rw[if_neg hcl];simp only[Option.map_some,Cx];refine .sl (h'.toNat -l.toNat) _ s b (off+l.toNat*s) (cap -l.toNat) (fun i j=>g (l.toNat+i) j) (by omega) (fun i hi=>hsz' _ (by omega)) (fun i j d hi hd=> ?_) (fun i j d hi hd=> ?_) (fun i j d hi hd=>hr _ _ _ (by omega) hd)
        ·have:=hc (l.toNat+i) j d (by omega) hd;rw[Nat.add_mul]at this;rw[show off+l.toNat*s+i*s+j=off+(l.toNat*s+i*s)+j by omega];exact this
        ·have:=hI (l.toNat+i) j d (by omega) hd;rw[Nat.add_mul]at this;rw[show off+l.toNat*s+i*s+j=off+(l.toNat*s+i*s)+j by omega];exact this
     ·simp at hs
    ·simp at hs
   ·simp at hs
  ·simp at hs
 ·rename_i len e hu;have hv:=hρ y;have hal:P.arrayLen t=len:=by simp[Program.arrayLen,hu]
  have hel:P.elem t=e:=by simp[Program.elem,hu]
  have hu':P.underlying t=some (.array (P.arrayLen t) (P.elem t)):=by rw[hal,hel];exact hu
  have run: ∀(ad:Addr) (s:Nat),Bm P e=some s ->ρv y= .pointer (some ad) ->(execOp ρv ⟨dst, .slice t y none none none,ty,pos,after,guard⟩).run P w= .ok (.value (.slice (some (if len=0 then ad else ad.add (0*s))) len len)) w:=by
   intro ad s hsz hva;have h1:=run_sliceAt_array_all (P:=P) w t ad hu';simp[execOp,hva,h1,hel,hal,Bn hsz,slicedAt,Result.andThen]
  split at hs
  ·rename_i k s hy hsz;simp only[zj,Prod.mk.injEq,true_and]at hs;subst hs;simp only[Ax]at hp;split at hp
   ·rename_i cs t' hl;split at hp
    ·rename_i ds ks hf;cases hb:Nat.beq ds.length (len*(s+1))with
     |false=>rw[hb]at hp;cases hp|true=>
      rw[hb]at hp;simp only[za,zj,Prod.mk.injEq]at hp;obtain⟨rfl,rfl,rfl⟩:=hp;have hdl:=zg hb;rw[hy]at hv;obtain⟨b,vs,hbk,hheap,hcl,hcv⟩:=h.blk k _ hl;obtain⟨b',hv',hd⟩:=hv;have:b'=b:=by
       rcases hd with hd|hd<;>(rw[hbk]at hd;cases hd)
       rfl
      subst this;have hkf:O k≠ .free:=by rw[hbk];exact fun e=>by cases e
      have hrc:RepCs O w I cs (vs.toList.take cs.length):=by
       refine⟨by simp;omega,fun i c v h1 h2=> ?_⟩;rw[List.getElem?_take]at h2;split at h2
       ·exact hcv i c v h1 (by simpa using h2)
       ·simp at h2
      obtain⟨hks,hr⟩:=F5 h 400 cs ds ks _ hf hrc;have hall: ∀q∈k::ks,O q≠ .free:=fun q hq=>by
       rcases List.mem_cons.1 hq with rfl|hq
       ·exact hkf
       ·exact hks q hq
      have hrd:=hr (Ce O I (k::ks)) (fun _ _ hi=> .inl hi) (fun q hq b hb o=> .inr ⟨q,List.mem_cons_of_mem _ hq,hb⟩);have hbk':(O k).blk=some b':=by rw[hbk];rfl
      refine⟨_,_,_,_,run _ _ hsz hv', .inl ⟨_,rfl, ?_⟩,h.kill hall,Ext.kill _ _ _ _, .kill O hall⟩;have e0:(if len=0 then(⟨b',0,none⟩:Addr)else(⟨b',0,none⟩:Addr).add (0*(s+1)))=⟨b',0,none⟩:=by
       by_cases hz:len=0
       ·rw[if_pos hz]
       ·rw[if_neg hz,Cx];simp
      rw[e0];refine hrd.sl hdl (Nat.le_refl _) (fun j v hj hvj=> ?_) (fun j _=> .inr ⟨k,List.mem_cons_self ..,hbk'⟩);rw[Nat.zero_add];rw[List.getElem?_take]at hvj;split at hvj
      ·exact Mg hheap j v hvj
      ·simp at hvj
    ·simp at hp
   ·simp at hp
  ·rename_i l s hy hsz;split at hs
   ·rename_i hlen;simp only[zj,Prod.mk.injEq,true_and]at hs;subst hs;obtain⟨rfl,rfl⟩:=As hp;rw[hy]at hv;obtain⟨b,off,hv',hcell⟩:=hv;refine A0 (run _ _ hsz hv') ?_ h;have e0:(if len=0 then(⟨b,off,none⟩:Addr)else(⟨b,off,none⟩:Addr).add (0*(s+1)))=⟨b,off,none⟩:=by
     by_cases hz:len=0
     ·rw[if_pos hz]
     ·rw[if_neg hz,Cx];simp
    rw[e0];have get: ∀i j d,(Ae (l.take (len*(s+1))) (s+1) i)[j]? =some d -> ∃x,w.cell? ⟨b,off+i*(s+1)+j,none⟩=some x/\I b (off+i*(s+1)+j)/\RepD w I d x:=fun i j d hd=>by
     have hd':=(Jr hd).2;rw[List.getElem?_take]at hd';split at hd'
     ·have:=hcell _ d hd';rwa [<-Nat.add_assoc]at this
     ·simp at hd'
    refine .sl len _ (s+1) b off len (fun i j=>(w.cell? ⟨b,off+i*(s+1)+j,none⟩).getD undef) (Nat.le_refl _) (fun i hi=>Md hlen hi) (fun i j d _ hd=> ?_) (fun i j d _ hd=> ?_) (fun i j d _ hd=> ?_)
    ·obtain⟨x,h1,_⟩:=get i j d hd;rw[h1];rfl
    ·exact(get i j d hd).choose_spec.2.1
    ·obtain⟨x,h1,_,h3⟩:=get i j d hd;rw[h1];exact h3
   ·simp at hs
  ·simp at hs
 ·simp at hs
theorem G9(w:World)(b n x:Nat)(hne:x≠b):(w.freeze ⟨b,0,none⟩ n).heap[x]? =w.heap[x]?:=by
 unfold World.freeze;split
 ·rfl
 ·simp only[Array.getElem?_modify];rw[if_neg (fun e=>hne e.symm)]
theorem Wx{w:World}{b:Nat}{vs:Array Value}{t:TypeId}{fz:Nat×Nat}(hb:w.heap[b]? =some (.cells vs t fz))(n:Nat): ∃fz',(w.freeze ⟨b,0,none⟩ n).heap[b]? =some (.cells vs t fz'):=by
 unfold World.freeze;split
 ·exact⟨fz,hb⟩
 ·simp only[Array.getElem?_modify,if_true,hb,Option.map_some];exact⟨_,rfl⟩
theorem K2{w:World}{b:Nat}{vs:Array Value}{t:TypeId}{fz:Nat×Nat}(hb:w.heap[b]? =some (.cells vs t fz))(n x o:Nat):(w.freeze ⟨b,0,none⟩ n).cell? ⟨x,o,none⟩=w.cell? ⟨x,o,none⟩:=by
 by_cases e:x=b
 ·subst e;obtain⟨fz',h1⟩:=Wx hb n;simp only[World.cell?,h1,hb]
 ·exact World.cell?_of_block (w:=w) (G9 w b n x e)
theorem L0{w:World}{b:Nat}{vs:Array Value}{t:TypeId}{fz:Nat×Nat}(hb:w.heap[b]? =some (.cells vs t fz))(n:Nat):Shapes w (w.freeze ⟨b,0,none⟩ n):=fun x vs' t' fz' hx=>by
 by_cases e:x=b
 ·subst e;obtain⟨fz2,h1⟩:=Wx hx n;exact⟨vs',fz2,h1,rfl⟩
 ·exact⟨vs',fz',by rw[G9 w b n x e];exact hx,rfl⟩
theorem Ri(w:World)(b n:Nat):(w.freeze ⟨b,0,none⟩ n).heap.size=w.heap.size:=by
 unfold World.freeze;split<;>simp
theorem Acq{k b:Nat}(hb:(O k).blk=some b)(hp:Place O I w){vs:Array Value}{t:TypeId}{fz:Nat×Nat}(hheap:w.heap[b]? =some (.cells vs t fz))(n:Nat):Ext O I O I w (w.freeze ⟨b,0,none⟩ n) where
 os:=by unfold World.freeze;split<;>rfl
 tape:=by unfold World.freeze;split<;>rfl
 output:=by unfold World.freeze;split<;>rfl
 size:=by rw[Ri];exact Nat.le_refl _
 block x _ hn:=G9 w b n x (fun e=>hn k (by rw[e];exact hb))
 keepI _ _ hi:=hi
 cell x o hi:=K2 hheap n x o
 newI _ _ hi:= .inl hi
 newB x _ hx:= .inl ⟨x,hx⟩
 shapes:=L0 hheap n
theorem Acp{k b:Nat}(hb:(O k).blk=some b)(h:RelH O H I w){vs:Array Value}{t:TypeId}{fz:Nat×Nat}(hheap:w.heap[b]? =some (.cells vs t fz))(n:Nat):
  RelH (Bp O [k]) (A9 [(k, .dead)] H) (Ce O I [k]) (w.freeze ⟨b,0,none⟩ n):=by
 have h1:=h.kill (ks:=[k]) (fun q hq=>by simp at hq;subst hq;exact W9 hb);refine h1.step (u:=[]) (h1.toPlace.same (Ri w b n) (fun x o _=>K2 hheap n x o)) ⟨.refl _,fun _ _ hi=>hi,fun x o _=>K2 hheap n x o,L0 hheap n⟩ (fun x _=>⟨rfl,fun c hc=> ?_⟩) (fun x B hx=>by simp[Cn]at hx);have:=Co hc;refine G9 w b n c fun e=>this.1 ?_
 subst e;simp[h.inj x k c this.2 hb]
theorem Ro{n:Nat}{f:RD}(h:Dk n f=true){i:Nat}(hi:i<n): ∃b:UInt8,Mh (f i)=some b/\f i=[.v (.int .u8 b.toNat)]:=by
 have:=List.all_eq_true.1 h i (by simpa using hi);unfold Mh at this⊢;split
 ·rename_i x hx;simp only[hx]at this;by_cases e:x=(x.toNat.toUInt8.toNat:Int)
  ·refine⟨x.toNat.toUInt8,by rw[if_pos e], ?_⟩;rw[hx,<-e]
  ·rw[if_neg e]at this;simp at this
 ·rename_i hx;exfalso;revert this;split
  ·rename_i x hx';exact absurd hx' (hx x)
  ·simp
theorem AcB{c:Call}(hn:O h0= .free)(hρ: ∀x,RepA O w I (ρ x) (ρv x))(h:RelH O H I w)(hs:res P ⟨dst, .call c,ty,pos,after,guard⟩ ρ=some (true,a))(hp:Ax h0 a H=some (x,ft,u)):
  OpOk O I w x u H ((execOp ρv ⟨dst, .call c,ty,pos,after,guard⟩).run P w):=by
 simp only[res]at hs;split at hs
 ·split at hs
  ·split at hs
   ·simp at hs;subst hs;simp[Ax]at hp
   ·simp at hs
  ·split at hs
   ·simp at hs;subst hs;simp[Ax]at hp
   ·simp at hs
  ·simp at hs
 ·rename_i hc;split at hs
  ·rename_i t y ht hy;have ht0:c.argTypes[0]? =some t:=ht;have hy0:c.args[0]? =some y:=hy;have hy1:(c.args.map ρv)[0]? =some (ρv y):=by simp[hy0]
   have hv:=hρ y;have slc: ∀(e:TypeId) (b:Option Addr) (n cap:Nat),P.underlying t=some (.slice e) ->ρv y= .slice b n cap ->(execOp ρv ⟨dst, .call c,ty,pos,after,guard⟩).run P w= .ok (.value (.int .i64 n)) w:=by
    intro e b n cap hu e1;simp only[execOp,resolve,hc,Sem.run_bind,Sem.run_pure,Result.andThen_ok,invoke,builtin,Builtin.len_,ht0,hy1,run_underlying hu,e1];rfl
   split at hs
   ·rename_i s hu hy';simp at hs;subst hs;obtain⟨rfl,rfl⟩:=As hp;have e:=A7 hy' hv;refine A0 (v:= .int .i64 s.size) ?_ (.v _ rfl) h;simp only[execOp,resolve,hc,Sem.run_bind,Sem.run_pure,Result.andThen_ok,invoke,builtin,Builtin.len_,ht0,hy1,run_underlying hu,e];rfl
   ·rename_i e' k sz n hu hy';simp at hs;subst hs;obtain⟨rfl,rfl⟩:=As hp;rw[hy']at hv;have hv:RowAt O w k sz n (ρv y):=hv;rcases hv with⟨hl,hv',_⟩|⟨b,cap,hv',_⟩
    ·subst hl;exact A0 (slc _ _ 0 _ hu hv') (.v _ rfl) h
    ·exact A0 (slc _ _ n _ hu hv') (.v _ rfl) h
   ·rename_i e' d hu hy';rw[hy']at hv;have hv:RepD w I d (ρv y):=hv;split at hs
    ·rename_i sz n f;simp at hs;subst hs;obtain⟨rfl,rfl⟩:=As hp;generalize hvy:ρv y=v at hv;cases hv with
     |nil=>exact A0 (slc _ _ 0 _ hu hvy) (.v _ rfl) h|emp=>exact A0 (slc _ _ 0 _ hu hvy) (.v _ rfl) h|sl=>exact A0 (slc _ _ _ _ hu hvy) (.v _ rfl) h
    ·simp at hs;subst hs;obtain⟨rfl,rfl⟩:=As hp;exact A0 (slc _ _ 0 _ hu (RepD.v_eq hv)) (.v _ rfl) h
    ·simp at hs
   ·rename_i av n e' hu;simp at hs;subst hs;obtain⟨rfl,rfl⟩:=As hp;refine A0 (v:= .int .i64 n) ?_ (.v _ rfl) h;simp only[execOp,resolve,hc,Sem.run_bind,Sem.run_pure,Result.andThen_ok,invoke,builtin,Builtin.len_,ht0,hy1,run_underlying hu];rfl
   ·rename_i k0 e0 k hu hy';simp at hs;subst hs;simp only[Ax]at hp;split at hp
    ·rename_i kd l hl;simp only[zj,Prod.mk.injEq]at hp;obtain⟨rfl,rfl,rfl⟩:=hp;rw[hy']at hv;obtain⟨b,es,clock,hve,hbe,hheap,hM⟩:=AeH h hl hv;have hlen:=hM.len;refine A0 (v:= .int .i64 (es.size:Nat)) ?_ ?_ h
     ·simp[execOp,resolve,hc,invoke,builtin,Builtin.len_,ht0,hy1,run_underlying hu,hve,MapKept.run_getObj_map hheap,Result.andThen,goInt]
     ·have e1:es.size=dlen l:=by rw[<-hlen];simp
      rw[e1];exact .v _ rfl
    ·simp at hp
   ·rename_i k0 e0 hu hy';simp at hs;subst hs;obtain⟨rfl,rfl⟩:=As hp;have hve:=A7 hy' (hρ y);refine A0 (v:= .int .i64 0) ?_ (.v _ rfl) h;simp[execOp,resolve,hc,invoke,builtin,Builtin.len_,ht0,hy1,run_underlying hu,hve,Result.andThen,goInt]
   ·simp at hs
  ·simp at hs
 ·rename_i hc;split at hs
  ·rename_i t t' y z hty hay;split at hs
   ·rename_i e hu;split at hs
    ·rename_i s by_ zc hsz hby hz;split at hs
     ·rename_i hzl;split at hs
      ·rename_i n d m sr hd hsr;simp at hs;obtain⟨⟨hf1,hf2⟩,rfl⟩:=hs;simp only[Ax]at hp;split at hp
       ·rename_i y' u' rd hap;simp at hp;obtain⟨rfl,rfl,rfl⟩:=hp;obtain⟨zv,hzv,hzr,info,hinfo,hzero⟩:=Ho (O:=O) (I:=I) (w:=w) hz;have hsize:info.size=s+1:=by simp[Bm,hinfo]at hsz;exact hsz
        have hbytes:info.bytes=by_:=by simp[Agj,hinfo]at hby;exact hby
        have hzl2:zv.cells.size=s+1:=by have:=hzr.1;simp at this;omega
        have e1:c.argTypes= #[t,t']:=by apply Array.ext';simpa using hty
        have e2:c.args.map ρv= #[ρv y,ρv z]:=by apply Array.ext';simp[hay]
        have hdst:AnH O w (s+1) d (ρv y)/\n=Ba d:=by
         have hv:=hρ y;split at hd
         ·rename_i k sz n' hy;split at hd
          ·rename_i he;simp at hd;obtain⟨rfl,rfl⟩:=hd;rw[hy]at hv;subst he;exact⟨hv,rfl⟩
          ·simp at hd
         ·rename_i hy;simp at hd;obtain⟨rfl,rfl⟩:=hd;exact⟨A7 hy hv,rfl⟩
         ·simp at hd
        have hsrc:AnE O w I (s+1) sr (ρv z)/\m=Bk sr/\((∃e',P.underlying t'=some (.slice e'))\/(P.underlying t'=some .string/\ ∃s,ρv z= .string s))/\(∀s,ρv z= .string s ->P.underlying t'=some .string):=by
         have hv:=hρ z;split at hsr
         ·rename_i e' k sz n' hu' hy;split at hsr
          ·rename_i he;simp at hsr;obtain⟨rfl,rfl⟩:=hsr;rw[hy]at hv;have hv:RowAt O w k sz n' (ρv z):=hv;refine⟨hv,rfl, .inl ⟨e',hu'⟩,fun q hq=> ?_⟩;rcases hv with⟨_,hv,_⟩|⟨_,_,hv,_⟩<;>(rw[hv]at hq;cases hq)
          ·simp at hsr
         ·rename_i e' d' hu' hy;split at hsr
          ·rename_i he;rw[hy]at hv;have hv:RepD w I d' (ρv z):=hv;split at hsr
           ·rename_i n' f hasl;simp at hsr;obtain⟨rfl,rfl⟩:=hsr;have hrep:RepD w I (.sl (s+1) n' f) (ρv z):=by
             cases d' with
             |sl sz n'' f'=>
              simp only[asSl]at hasl;cases hb:Nat.beq sz (s+1)with
              |false=>rw[hb]at hasl;cases hasl|true=>
               have:=zg hb;subst this;rw[hb]at hasl;cases hasl;exact hv
             |v x=>
              unfold asSl at hasl;split at hasl
              ·rename_i ee;cases ee
              ·rename_i ee;cases ee;cases hasl;have:=RepD.v_eq hv;rw[this];exact .nil _ _
              ·cases hasl
            refine⟨hrep,rfl, .inl ⟨e',hu'⟩,fun q hq=> ?_⟩;rw[hq]at hrep;cases hrep
           ·simp at hsr
          ·simp at hsr
         ·rename_i b hu' hy;split at hsr
          ·rename_i hs0;simp at hsr;obtain⟨rfl,rfl⟩:=hsr;subst hs0;have hz':=A7 hy hv;exact⟨⟨hz',rfl⟩,rfl, .inr ⟨hu',_,hz'⟩,fun _ _=>hu'⟩
          ·simp at hsr
         ·simp at hsr
        obtain⟨hd1,rfl⟩:=hdst;obtain⟨hs1,rfl,hs2,hs3⟩:=hsrc;obtain⟨v',w',O',I',hrun,hra,hrel,hext,hmono⟩:=Agv (P:=P) (ty:=ty) h hn (Nat.succ_pos s) hu hinfo hsize hzero hzl2 hd1 hs2 hs3 hs1 (by rw[hbytes];exact hf1) hf2 hap;refine⟨.value v',w',O',I', ?_, .inl ⟨v',rfl,hra⟩,hrel,hext,hmono⟩;simp only[execOp,resolve,hc,Sem.run_bind,Sem.run_pure,Result.andThen_ok,invoke,builtin,e1,e2,hrun]
       ·simp at hp
      ·simp at hs
     ·simp at hs
    ·simp at hs
   ·simp at hs
  ·simp at hs
 ·rename_i hc;split at hs
  ·rename_i k p k' q hargs;simp at hs;subst hs;obtain⟨rfl,rfl⟩:=As hp;have hlen:c.args.toList.length=2:=by have:=congrArg List.length hargs;simpa using this
   have: ∃y z,c.args.toList=[y,z]:=by
    match hl:c.args.toList,hlen with
    |[y,z],_=>exact⟨y,z,rfl⟩
   obtain⟨y,z,hl⟩:=this;rw[hl]at hargs;simp at hargs;have e1:=A7 hargs.1 (hρ y);have e2:=A7 hargs.2 (hρ z);have ea:(c.args.map ρv).toList=[.int k p, .int k' q]:=by simp[hl,e1,e2]
   refine A0 (v:= .int k (if q<p then q else p)) ?_ (.v _ rfl) h;simp only[execOp,resolve,hc,Sem.run_bind,Sem.run_pure,Result.andThen_ok,invoke,builtin,Builtin.min_,ea];rfl
  ·simp at hs
 ·rename_i hc;split at hs
  ·rename_i k p k' q hargs;simp at hs;subst hs;obtain⟨rfl,rfl⟩:=As hp;have hlen:c.args.toList.length=2:=by have:=congrArg List.length hargs;simpa using this
   have: ∃y z,c.args.toList=[y,z]:=by
    match hl:c.args.toList,hlen with
    |[y,z],_=>exact⟨y,z,rfl⟩
   obtain⟨y,z,hl⟩:=this;rw[hl]at hargs;simp at hargs;have e1:=A7 hargs.1 (hρ y);have e2:=A7 hargs.2 (hρ z);have ea:(c.args.map ρv).toList=[.int k p, .int k' q]:=by simp[hl,e1,e2]
   refine A0 (v:= .int k (if q>p then q else p)) ?_ (.v _ rfl) h;simp only[execOp,resolve,hc,Sem.run_bind,Sem.run_pure,Result.andThen_ok,invoke,builtin,Builtin.max_,ea];rfl
  ·simp at hs
 ·rename_i hc;split at hs
  ·rename_i k sz n hargs;simp at hs;obtain⟨hn0,rfl⟩:=hs;obtain⟨rfl,rfl⟩:=As hp;obtain⟨y,hl⟩: ∃y,c.args.toList=[y]:=by
    have hlen:c.args.toList.length=1:=by have:=congrArg List.length hargs;simpa using this
    match hl:c.args.toList,hlen with
    |[y],_=>exact⟨y,rfl⟩
   rw[hl]at hargs;simp at hargs;have hv:=hρ y;rw[hargs]at hv;have hv:RowAt O w k sz n (ρv y):=hv;rcases hv with⟨h0',_⟩|⟨b,cap,hv,hle,hd⟩
   ·omega
   ·have e2:c.args.map ρv= #[ρv y]:=by apply Array.ext';simp[hl]
    refine A0 (v:= .pointer (some ⟨b,0,none⟩)) ?_ ⟨b,by simp,hd.imp id fun⟨h1,h2,_⟩=>⟨h1,fun ob m e=>by have:=h2 ob m e;omega⟩⟩ h;simp only[execOp,resolve,hc,Sem.run_bind,Sem.run_pure,Result.andThen_ok,invoke,builtin,e2,hv];rw[Lib.run_unsafeSliceData_row w _ _ _ _ _ (by omega)];rfl
  ·rename_i hargs;simp at hs;subst hs;obtain⟨rfl,rfl⟩:=As hp;obtain⟨y,hl⟩: ∃y,c.args.toList=[y]:=by
    have hlen:c.args.toList.length=1:=by have:=congrArg List.length hargs;simpa using this
    match hl:c.args.toList,hlen with
    |[y],_=>exact⟨y,rfl⟩
   rw[hl]at hargs;simp at hargs;have hv:=A7 hargs (hρ y);have e2:c.args.map ρv= #[ρv y]:=by apply Array.ext';simp[hl]
   refine A0 (v:= .pointer none) ?_ (.v _ rfl) h;simp only[execOp,resolve,hc,Sem.run_bind,Sem.run_pure,Result.andThen_ok,invoke,builtin,e2,hv];rw[Lib.run_unsafeSliceData_nil];rfl
  ·simp at hs
 ·rename_i hc;have two: ∀{p q:AV},c.args.toList.map ρ=[p,q] -> ∃y z,c.args.toList=[y,z]/\ρ y=p/\ρ z=q/\c.args.map ρv= #[ρv y,ρv z]:=by
   intro p q hargs;have hlen:c.args.toList.length=2:=by have:=congrArg List.length hargs;simpa using this
   obtain⟨y,z,hl⟩: ∃y z,c.args.toList=[y,z]:=by
    match hl:c.args.toList,hlen with
    |[y,z],_=>exact⟨y,z,rfl⟩
   rw[hl]at hargs;simp at hargs;exact⟨y,z,hl,hargs.1,hargs.2,by apply Array.ext';simp[hl]⟩
  split at hs
  ·rename_i t1 t2 n hty hargs;simp at hs;obtain⟨rfl,rfl⟩:=hs;obtain⟨rfl,rfl⟩:=As hp;obtain⟨y,z,hl,hy,hz,e2⟩:=two hargs;have ey:=A7 hy (hρ y);have ez:=A7 hz (hρ z);have e1:c.argTypes= #[t1,t2]:=by apply Array.ext';simpa using hty
   refine A0 (v:= .string .empty) ?_ (.v _ rfl) h;simp only[execOp,resolve,hc,Sem.run_bind,Sem.run_pure,Result.andThen_ok,invoke,builtin,e1,e2,ey,ez];rw[Lib.run_unsafeString_none];rfl
  ·rename_i t1 t2 k n hty hargs;obtain⟨y,z,hl,hy,hz,e2⟩:=two hargs;have ez:=A7 hz (hρ z);have e1:c.argTypes= #[t1,t2]:=by apply Array.ext';simpa using hty
   have hv:=hρ y;rw[hy]at hv;obtain⟨b,hv,hb⟩:=hv;simp only[Nat.zero_mul,Nat.add_zero]at hv;split at hs
   ·rename_i e hu;split at hs
    ·rename_i hsz;simp at hs;obtain⟨⟨hn0,hn1⟩,rfl⟩:=hs;simp only[Ax]at hp;split at hp
     ·rename_i m f sz t' hk;cases hcc:(Nat.ble n.toNat m&&Nat.beq sz 1&&Nat.beq t' e&&Dk n.toNat f)with
      |false=>rw[hcc]at hp;cases hp|true=>
       rw[hcc]at hp;simp only[za,zj,Prod.mk.injEq]at hp;obtain⟨rfl,rfl,rfl⟩:=hp;simp only[zd]at hcc;obtain⟨⟨⟨hc1,hc2⟩,hc3⟩,hc4⟩:=hcc;have e3:=Nat.le_of_ble_eq_true hc1;have e4:=zg hc2;have e5:=zg hc3;subst e4 e5;obtain⟨nn,rfl⟩: ∃nn:Nat,n=nn:=⟨n.toNat,by omega⟩;simp only[Int.toNat_natCast]at e3 hc4⊢;obtain⟨_,hrow⟩:=h.blk k _ hk;have hbk:(O k).blk=some b:=by
        rcases hb with hb|hb
        ·rcases hrow with⟨hr,_⟩|⟨b',vs,hr,_⟩<;>(rw[hb]at hr;cases hr)
        ·exact hb.1
       rcases hrow with⟨hr,_⟩|⟨b',vs,hr,hheap,hmv,hcells⟩
       ·rw[hr]at hbk;cases hbk
       ·have:b'=b:=by rw[hr]at hbk;simpa[Nst.blk]using hbk
        subst this;have hlen:(C5 nn f).data.toList.length=nn:=by simp[C5]
        have hrun:(Builtin.unsafeString_ #[t1,t2] ty #[.pointer (some ⟨b',0,none⟩), .int .i64 nn]).run P w= .ok (.string (C5 nn f)) (w.freeze ⟨b',0,none⟩ nn):=by
         by_cases h0:nn=0
         ·subst h0;have:(w.freeze ⟨b',0,none⟩ 0)=w:=by simp[World.freeze]
          rw[this];exact Lib.run_unsafeString_none w t1 t2 ty _
         ·obtain⟨j,hj,hjs⟩:=Option.map_eq_some_iff.1 hsz;have key:=Lib.run_unsafeString_row (P:=P) w t1 t2 ty t' hu (by simp[Program.cellsOf,hj,hjs]) b' vs.size (by simp[World.shape?,hheap]) ((List.range nn).map fun i=>(Mh (f i)).getD 0) (by simp[h0]) (by simp;omega) (by simp;omega) (fun i x hx=>by
           obtain⟨hi,hx⟩:=List.getElem?_eq_some_iff.1 hx;have hi':i<nn:=by simpa using hi
           simp at hx;obtain⟨bb,hb1,hb2⟩:=Ro hc4 hi';rw[hb1]at hx;simp at hx;subst hx;obtain⟨_,hcell⟩:=hcells i (by omega);obtain⟨v,hv1,hv2⟩:=hcell 0 (.v (.int .u8 bb.toNat)) (by rw[hb2];rfl);have:=RepD.v_eq hv2;subst this;simp at hv1;have ea:(⟨b',0,none⟩:Addr).add i=⟨b',i,none⟩:=by
            unfold Addr.add;by_cases hz:i=0
            ·subst hz;simp
            ·simp[hz]
           rw[ea];simp[World.cell?,hheap,hv1])
          simp only[List.length_map,List.length_range]at key;exact key
        refine⟨.value (.string (C5 nn f)),_,_,_, ?_, .inl ⟨_,rfl, .v _ rfl⟩,Acp hbk h hheap nn,(Acq hbk h.toPlace hheap nn).trans (Ext.kill _ _ _ [k]), .kill O (fun q hq=>by simp at hq;subst hq;exact W9 hbk)⟩;simp only[execOp,resolve,hc,Sem.run_bind,Sem.run_pure,Result.andThen_ok,invoke,builtin,e1,e2,hv,ez];rw[hrun];rfl
     ·simp at hp
    ·simp at hs
   ·simp at hs
  ·simp at hs
 ·simp at hs
theorem ApK{o:Oper}(hn:look H h0=none)(hρ: ∀x,RepA O w I (ρ x) (ρv x))(h:RelH O H I w)(hs:res P o ρ=some (true,a))(hp:Ax h0 a H=some (x,ft,u)):OpOk O I w x u H ((execOp ρv o).run P w):=by
 have hn:=h.dom h0 hn;obtain⟨dst,op,ty,pos,after,guard⟩:=o;cases op with
 |move y=>simp[res]at hs;subst hs;obtain⟨rfl,rfl⟩:=As hp;exact A0 (v:=ρv y) (by simp[execOp]) (hρ y) h
 |assign y=>simp[res]at hs;subst hs;obtain⟨rfl,rfl⟩:=As hp;exact A0 (v:=ρv y) (by simp[execOp]) (hρ y) h
 |pick c p q=>exact AlV hρ h hs hp|alloc e=>exact Ajf hn h hs hp|box e y=>exact Apm hn hρ h hs hp|build t parts=>exact AiS hρ h hs hp|buildSlice t n parts=>exact U5 hn hρ h hs hp|load t y=>exact Amn hρ h hs hp|store t y z=>exact Ahb hρ h hs hp|nilCheck y=>exact Yp hρ h hs hp|binOp op t y z t'=>exact AiU hρ h hs hp|unOp op t y=>exact Ald hρ h hs hp|convert s t y=>exact Acy hρ h hs hp|makeFunc f a b=>exact Ys hρ h hs hp|fieldAddr s y f=>exact Wz hρ h hs hp|field t y f=>exact Ait hρ h hs hp|indexAddr t y i=>exact Ws hρ h hs hp|index t y i=>exact Ail hρ h hs hp|slice t y lo hi mx=>exact AhL hρ h hs hp|range t y=>exact AhU hn hρ h hs hp|makeMap t r=>exact Acb hn h hs hp|lookup t y i ok=>exact AeR hρ h hs hp|mapUpdate t m k v=>exact Pf hρ h hs hp|insert t m k v=>exact Pf (dst:=dst) (ty:=ty) (pos:=pos) (after:=after) (guard:=guard) hρ h hs hp|next y s=>exact Amh hρ h hs hp
 |extract y i=>exact Acs hρ h hs hp|call c=>exact AcB hn hρ h hs hp|_=>simp[res]at hs
end
section
variable {O O2:Bt}{I:Im}{w:World}{P:Program}{H:Hp}{ρ:Nat ->Option Nat}
theorem PtrAt.ren{h k o:Nat}{v:Value}(e:O2 k=O h)(hp:PtrAt O h o v):PtrAt O2 k o v:=by
 obtain⟨b,hv,hb⟩:=hp;exact⟨b,hv,by rw[e];exact hb⟩
theorem RepRfs.ren(hρ: ∀h k,ρ h=some k ->O2 k=O h): ∀{rs rs':List Rf} {vs:List Value},AbT ρ rs=some rs' ->RepRfs O w I rs vs ->RepRfs O2 w I rs' vs
 |[],rs',vs,h,hr=>by simp[AbT]at h;subst h;exact⟨hr.1,fun i r v h=>by simp at h⟩
 |x::r,rs',vs,h,hr=>by
  simp only[AbT]at h;split at h
  ·rename_i y l hy hl;simp at h;subst h;match vs,hr.1 with
   |v::vr,hlen=>
    have ih:=RepRfs.ren hρ (vs:=vr) hl ⟨by simpa using hlen,fun i r v h1 h2=>hr.2 (i+1) r v h1 h2⟩;refine⟨by simp[ih.1],fun i r v' h1 h2=> ?_⟩;cases i with
    |zero=>
     simp at h1 h2;subst h1 h2;have h0:=hr.2 0 x v rfl rfl;cases x with
     |d x=>simp[renR]at hy;subst hy;exact h0|ptr h' off=>
      simp only[renR]at hy;split at hy
      ·rename_i k hk;simp at hy;subst hy;exact PtrAt.ren (hρ _ _ hk) h0
      ·simp at hy
    |succ i=>exact ih.2 i r v' (by simpa using h1) (by simpa using h2)
  ·simp at h
theorem RepC.ren(hρ: ∀h k,ρ h=some k ->O2 k=O h){c:C}{v:Value}(h:RepC O w I c v):RepC O2 w I (renC ρ c) v:=by
 have hone:=h.one;cases c with
 |d x=>exact h|ip cs=>exact h|u=>exact h|ptr h' off=>
  simp only[renC];split
  ·rename_i k hk;exact PtrAt.ren (hρ _ _ hk) h
  ·exact hone
 |ept h' sz i off=>
  simp only[renC];split
  ·rename_i k hk;obtain⟨b,hv,hb⟩:=h;exact⟨b,hv,by rw[hρ _ _ hk];exact hb⟩
  ·exact hone
 |row h' sz len=>
  simp only[renC];split
  ·rename_i k hk;have h:RowAt O w h' sz len v:=h;show RowAt O2 w k sz len v;unfold RowAt at h⊢;rw[hρ _ _ hk];exact h
  ·exact hone
 |mp h'=>
  simp only[renC];split
  ·rename_i k hk;obtain⟨b,hv,hb⟩:=h;exact⟨b,hv,by rw[hρ _ _ hk];exact hb⟩
  ·exact hone
 |fn f a b=>
  simp only[renC];split
  ·rename_i x y hx hy;obtain⟨fs,cs,hv,h1,h2⟩:=h;exact⟨fs,cs,hv,h1.ren hρ hx,h2.ren hρ hy⟩
  ·exact hone
theorem RepCs.ren(hρ: ∀h k,ρ h=some k ->O2 k=O h){cs:List C}{vs:List Value}(h:RepCs O w I cs vs):RepCs O2 w I (cs.map (renC ρ)) vs:=by
 refine⟨by simp[h.1],fun i c v h1 h2=> ?_⟩;simp at h1;obtain⟨c',hc',rfl⟩:=h1;exact(h.2 i c' v hc' h2).ren hρ
theorem RepA.ren(hρ: ∀h k,ρ h=some k ->O2 k=O h){x:AV}{v:Value}(h:RepA O w I x v):RepA O2 w I (renA ρ x) v:=by
 cases x with
 |c x=>exact RepC.ren hρ h|agg cs=>obtain⟨vs,hv,hr⟩:=h;exact⟨vs,hv,hr.ren hρ⟩
 |tup ps=>
  obtain⟨vs,hv,hl,hr⟩:=h;refine⟨vs,hv,by simp[hl],fun i p x h1 h2=> ?_⟩;simp only[List.getElem?_map,Option.map_eq_some_iff]at h1;obtain⟨⟨t,cs⟩,hp,rfl⟩:=h1;have:=hr i _ x hp h2;cases t with
  |true=>obtain⟨us,hu,hc⟩:=this;exact⟨us,hu,hc.ren hρ⟩
  |false=>
   obtain⟨c,hcs,hc⟩:=this;have hcs':cs=[c]:=hcs;subst hcs';exact⟨renC ρ c,rfl,hc.ren hρ⟩
 |u=>trivial
theorem RepF.ren(hρ: ∀h k,ρ h=some k ->O2 k=O h){F:List AV}{vs:Array Value}(h:RepF O w I F vs):RepF O2 w I (F.map (renA ρ)) vs:=by
 refine⟨by simp[h.1],fun i x v h1 h2=> ?_⟩;simp at h1;obtain⟨y,hy,rfl⟩:=h1;exact(h.2 i y v hy h2).ren hρ
theorem RepB.ren(hρ: ∀h k,ρ h=some k ->O2 k=O h){h k:Nat}(e:O2 k=O h){B:Blk}(hr:RepB O w I h B):RepB O2 w I k (renB ρ B):=by
 cases B with
 |cells cs t=>
  obtain⟨b,vs,h1,h2,h3,h4⟩:=hr;refine⟨b,vs,e.trans h1,h2,by simpa using h3,fun i c v hc hv=> ?_⟩;simp at hc;obtain⟨c',hc',rfl⟩:=hc;exact(h4 i c' v hc' hv).ren hρ
 |row n f sz t=>
  obtain⟨h0,hr⟩:=hr;refine⟨h0, ?_⟩;rcases hr with⟨h1,h2⟩|⟨b,vs,h1,h2⟩
  ·exact .inl ⟨e.trans h1,h2⟩
  ·exact .inr ⟨b,vs,e.trans h1,h2⟩
 |iter s pos=>obtain⟨b,h1,h2⟩:=hr;exact⟨b,e.trans h1,h2⟩
 |map d v=>obtain⟨b,es,cl,h1,h2⟩:=hr;exact⟨b,es,cl,e.trans h1,h2⟩
 |dead=>exact e.trans hr
theorem Em{h:Nat}: ∀{l:List Nat} {s i:Nat},D5 h s l=some i ->s<=i/\l[i -s]? =some h
 |[],s,i,hi=>by simp[D5]at hi|k::r,s,i,hi=>by
  simp only[D5,beqD]at hi;by_cases e:h=k
  ·subst e;simp at hi;subst hi;exact⟨Nat.le_refl _,by simp⟩
  ·simp[e]at hi;obtain⟨h1,h2⟩:=Em hi;refine⟨by omega, ?_⟩;rw[show i -s=(i -(s+1))+1 by omega];simpa using h2
theorem Rg{h:Nat}: ∀{l:List Nat} {s:Nat},h∈l -> ∃i,D5 h s l=some i
 |[],s,hm=>by simp at hm|k::r,s,hm=>by
  simp only[D5,beqD];by_cases e:h=k
  ·exact⟨s,by simp[e]⟩
  ·simp[e];exact Rg (by simpa[e]using hm)
theorem Q7{l:List Nat}(hd:l.Nodup){i j h:Nat}(hi:l[i]? =some h)(hj:l[j]? =some h):i=j:=by
 obtain⟨a,rfl⟩:=List.getElem?_eq_some_iff.1 hi;obtain⟨b,e⟩:=List.getElem?_eq_some_iff.1 hj;have hp:l.Pairwise (·≠·):=hd;rcases Nat.lt_trichotomy i j with hlt|heq|hgt
 ·exact absurd e.symm (List.pairwise_iff_getElem.1 hp i j a b hlt)
 ·exact heq
 ·exact absurd e (List.pairwise_iff_getElem.1 hp j i b a hgt)
theorem Fi(H:Hp): ∀(n:Nat) (l acc L:List Nat),acc.Nodup ->(∀h∈acc,look H h≠none) ->He n H l acc=some L ->L.Nodup/\ ∀h∈L,look H h≠none
 |0,l,acc,L,h1,h2,h=>by simp[He]at h|n+1,[],acc,L,h1,h2,h=>by simp[He]at h;subst h;exact⟨h1,h2⟩|n+1,h::r,acc,L,h1,h2,hL=>by
  simp only[He]at hL;cases hc:acc.contains h with
  |true=>rw[hc]at hL;exact Fi H n r acc L h1 h2 hL|false=>
   have hn:=Dc hc;rw[hc]at hL;simp only[zb]at hL;split at hL
   ·rename_i b hb;refine Fi H n _ _ L ?_ ?_ hL
    ·rw[List.nodup_append];exact⟨h1,by simp,fun x hx y hy=>by simp at hy;subst hy;exact fun e=>hn (e▸hx)⟩
    ·intro x hx;simp at hx;rcases hx with hx|rfl
     ·exact h2 x hx
     ·rw[hb];simp
   ·simp at hL
theorem Fa(H:Hp)(ρ:Nat ->Option Nat): ∀(L:List Nat) (s i:Nat),look (Tt H ρ s L) i=if s<=i then(L[i -s]?).map (fun h=>renB ρ (Ra H h))else none
 |[],s,i=>by simp[Tt,look]|h::r,s,i=>by
  simp only[Tt,look,beqD,Fa H ρ r (s+1) i];by_cases e:i=s
  ·subst e;simp
  ·by_cases h1:s<=i
   ·have h2:s+1<=i:=by omega
    simp only[e,decide_false,zb,h1,h2,if_true];rw[show i -s=(i -(s+1))+1 by omega];simp
   ·have h2: ¬s+1<=i:=by omega
    simp[e,h1,h2]
theorem Jf: ∀(a b:Ups) (k:Nat),Cn (a++b) k=match Cn b k with|some c=>some c|none=>Cn a k
 |[],b,k=>by simp[Cn];cases Cn b k<;>rfl|(h,B)::r,b,k=>by
  simp only[List.cons_append,Cn,Jf r b k];cases Cn b k<;>rfl
theorem C4(Hr:Hp)(U:Nat ->Option Nat): ∀(L:List Nat) (s h:Nat),L.Nodup ->(h∉L ->Cn (Jw Hr U s L) h=none)/\ ∀i,L[i]? =some h ->Cn (Jw Hr U s L) h=some (renB U (Ra Hr (s+i)))
 |[],s,h,_=>⟨fun _=>rfl,fun i hi=>by simp at hi⟩
 |k::r,s,h,hd=>by
  have hd':=List.nodup_cons.1 hd;obtain⟨ih1,ih2⟩:=C4 Hr U r (s+1) h hd'.2;refine⟨fun hn=> ?_,fun i hi=> ?_⟩
  ·simp at hn;simp[Jw,Cn,ih1 hn.2,hn.1]
  ·cases i with
   |zero=>
    simp at hi;subst hi;simp[Jw,Cn,ih1 hd'.1]
   |succ i=>
    have:=ih2 i (by simpa using hi);simp only[Jw,Cn,this];rw[show s+(i+1)=s+1+i by omega]
theorem G6(Hr:Hp)(U:Nat ->Option Nat)(k0 h0:Nat): ∀(n h:Nat),Cn (Na Hr U k0 h0 n) h=if h0<=h/\h<h0+n then(look Hr (k0+(h -h0))).map (renB U)else none
 |0,h=>by simp[Na,Cn];omega|n+1,h=>by
  have ih:=G6 Hr U k0 h0 n h;simp only[Na];by_cases e:h=h0+n
  ·subst e;have e1: ¬(h0<=h0+n/\h0+n<h0+n):=by omega
   have e2:h0<=h0+n/\h0+n<h0+(n+1):=by omega
   rw[if_neg e1]at ih;rw[if_pos e2,show h0+n -h0=n by omega];cases hl:look Hr (k0+n)with
   |none=>simp only[ih];rfl|some b=>simp[Cn,ih]
  ·have e3:(h0<=h/\h<h0+(n+1))↔(h0<=h/\h<h0+n):=by omega
   cases hl:look Hr (k0+n)with
   |none=>simp only[ih,e3]|some b=>
    simp only[Cn,ih,e,if_false,e3];by_cases hc:h0<=h/\h<h0+n
    ·simp only[hc,and_self,if_true];cases look Hr (k0+(h -h0))<;>rfl
    ·simp only[hc,if_false]
def CE(P:Program)(f:FuncId)(args:List AV)(H:Hp)(r:AV)(H':Hp):Prop:=
 ∀(O:Bt) (I:Im) (w:World) (vs:Array Value),RelH O H I w ->RepF O w I args vs ->
  ∃v w' O' I',(callFunc f vs).run P w= .ok (.value v) w'/\RelH O' H' I' w'/\RepA O' w' I' r v/\Ext O I O' I' w w'/\Mono O O'
def CX(P:Program)(f:FuncId)(args:List AV)(H:Hp)(r:AV)(H':Hp):Prop:=
 match P.funcs[f]? with
 |some fn=>if fn.body.isNone then CE P f args H r H' else CR P f args H r H'|none=>False
def Kf(O:Bt)(L:List Nat):Bt:=fun i=>match L[i]? with|some h=>O h|none=> .free
theorem Mono.ne(hm:Mono O O2){h:Nat}(hf:O h≠ .free):O2 h≠ .free:=by
 rcases hm.stays hf with e|e
 ·rw[e];exact hf
 ·rw[e];exact fun e=>by cases e
theorem Anf{args:List AV}{L:List Nat}{vs:Array Value}(h:RelH O H I w)(hL:Agg H args=some L)(hargs:RepF O w I args vs):
  RelH (Kf O L) (Zg H L) I w/\RepF (Kf O L) w I (Qd L args) vs:=by
 obtain⟨hnd,hin⟩:=Fi H Aco (args.flatMap Ev) [] L (by simp) (by simp) hL;have hρ: ∀h k,D5 h 0 L=some k ->Kf O L k=O h:=fun h k hk=>by
  obtain⟨_,h2⟩:=Em hk;have h2':L[k]? =some h:=by simpa using h2
  simp only[Kf,h2']
 refine⟨⟨⟨?_, ?_, ?_,h.old,h.gl⟩, ?_, ?_⟩,hargs.ren hρ⟩
 ·intro i j b hi hj;unfold Kf at hi hj;split at hi
  ·rename_i x hx;split at hj
   ·rename_i y hy;have:=h.inj x y b hi hj;subst this;exact Q7 hnd hx hy
   ·cases hj
  ·cases hi
 ·intro i b hi;unfold Kf at hi;split at hi
  ·exact h.lt _ _ hi
  ·cases hi
 ·intro i b o hi;unfold Kf at hi;split at hi
  ·exact h.off _ _ _ hi
  ·cases hi
 ·intro i hi;unfold Zg at hi;rw[Fa]at hi;simp only[Nat.zero_le,if_true,Nat.sub_zero,Option.map_eq_none_iff]at hi;simp only[Kf,hi]
 ·intro i B hi;unfold Zg at hi;rw[Fa]at hi;simp only[Nat.zero_le,if_true,Nat.sub_zero,Option.map_eq_some_iff]at hi;obtain⟨x,hx,rfl⟩:=hi;have hxn:=hin x (List.mem_of_getElem? hx);obtain⟨B,hB⟩:=Option.ne_none_iff_exists'.1 hxn;have e:Ra H x=B:=by simp[Ra,hB]
  rw[e];exact(h.blk x B hB).ren hρ (by simp only[Kf,hx])
def Ps(O Oc:Bt)(L:List Nat)(h0:Nat):Bt:=fun h=>match D5 h 0 L with
 |some i=>Oc i|none=>if h0<=h/\h<h0+16 then Oc (L.length+(h -h0))else O h
theorem Abb{args:List AV}{L:List Nat}{h0:Nat}{Hr:Hp}{r:AV}{v:Value}{Oc:Bt}{I':Im}{w':World}(h:RelH O H I w)(hL:Agg H args=some L)(hfree: ∀j,j<16 ->look H (h0+j)=none)
  (hr:RelH Oc Hr I' w') (hv:RepA Oc w' I' r v) (he:Ext (Kf O L) I Oc I' w w') (hm:Mono (Kf O L) Oc):
  ∃O',RelH O' (A9 (Js h0 L Hr) H) I' w'/\RepA O' w' I' (renA (Nc L h0) r) v/\Ext O I O' I' w w'/\Mono O O':=by
 obtain⟨hnd,hin⟩:=Fi H Aco (args.flatMap Ev) [] L (by simp) (by simp) hL;have cB: ∀{i h},L[i]? =some h ->Kf O L i=O h:=fun hi=>by simp only[Kf,hi]
 have cN: ∀{i},L[i]? =none ->Kf O L i= .free:=fun hi=>by simp only[Kf,hi]
 have b1: ∀{h i},L[i]? =some h ->Ps O Oc L h0 h=Oc i:=fun{h i} hi=>by
  obtain⟨j,hj⟩:=Rg (s:=0) (List.mem_of_getElem? hi);have h2:L[j]? =some h:=by simpa using(Em hj).2
  have:=Q7 hnd hi h2;subst this;simp only[Ps,hj]
 have nidx: ∀{h},h∉L ->D5 h 0 L=none:=fun{h} hn=>by
  cases e:D5 h 0 L with
  |none=>rfl|some i=>exact absurd (List.mem_of_getElem? (by simpa using(Em e).2)) hn
 have hfl: ∀{h},h0<=h/\h<h0+16 ->h∉L:=fun{h} hc hm'=>by
  have:=hfree (h -h0) (by omega);rw[show h0+(h -h0)=h by omega]at this;exact hin h hm' this
 have b2: ∀{h},h0<=h/\h<h0+16 ->Ps O Oc L h0 h=Oc (L.length+(h -h0)):=fun{h} hc=>by
  simp only[Ps,nidx (hfl hc),hc,and_self,if_true]
 have b3: ∀{h},h∉L -> ¬(h0<=h/\h<h0+16) ->Ps O Oc L h0 h=O h:=fun{h} hn hc=>by
  simp only[Ps,nidx hn,hc,if_false]
 have hU: ∀k h,Nc L h0 k=some h ->Ps O Oc L h0 h=Oc k:=fun k h hk=>by
  unfold Nc at hk;rw[bltD,bltD]at hk;by_cases c1:k<L.length
  ·simp[c1]at hk;exact b1 (by simp[c1,hk])
  ·by_cases c2:k<L.length+16
   ·simp[c1,c2]at hk;subst hk;rw[b2 (by omega),show L.length+(h0+(k -L.length) -h0)=k by omega]
   ·simp[c1,c2]at hk
 have other: ∀{x b},x∉L ->(O x).blk=some b -> ∀k,(Kf O L k).blk≠some b:=fun{x b} hx hb k hk=>by
  cases hl:L[k]? with
  |none=>rw[cN hl]at hk;cases hk|some y=>
   rw[cB hl]at hk;exact hx (h.inj x y b hb hk▸List.mem_of_getElem? hl)
 have Fp: ∀{x b k},x∉L ->(O x).blk=some b ->(Oc k).blk=some b ->False:=fun{x b k} hx hb hk=>by
  rcases he.newB k b hk with⟨k',h1⟩|h1
  ·exact other hx hb k' h1
  ·have:=h.lt x b hb;omega
 have kinds: ∀x,(∃k,Ps O Oc L h0 x=Oc k/\(L[k]? =some x\/(h0<=x/\x<h0+16/\k=L.length+(x -h0))))\/(x∉L/\ ¬(h0<=x/\x<h0+16)/\Ps O Oc L h0 x=O x):=fun x=>by
  by_cases hx:x∈L
  ·obtain⟨i,hi⟩:=List.getElem?_of_mem hx;exact .inl ⟨i,b1 hi, .inl hi⟩
  ·by_cases hc:h0<=x/\x<h0+16
   ·exact .inl ⟨_,b2 hc, .inr ⟨hc.1,hc.2,rfl⟩⟩
   ·exact .inr ⟨hx,hc,b3 hx hc⟩
 have hmono:Mono O (Ps O Oc L h0):=fun x=>by
  by_cases hx:x∈L
  ·obtain⟨i,hi⟩:=List.getElem?_of_mem hx;have:=hm i;rw[cB hi]at this;rw[b1 hi];exact this
  ·by_cases hc:h0<=x/\x<h0+16
   ·have:=hfree (x -h0) (by omega);rw[show h0+(x -h0)=x by omega]at this;rw[h.dom x this];trivial
   ·rw[b3 hx hc];exact Mono.refl O x
 have hext:Ext O I (Ps O Oc L h0) I' w w':=by
  refine⟨he.os,he.tape,he.output,he.size,fun b hb hn=>he.block b hb (fun k hk=> ?_),he.keepI,he.cell,fun b o hi=> ?_,fun x b hx=> ?_,he.shapes⟩
  ·cases hl:L[k]? with
   |none=>rw[cN hl]at hk;cases hk|some y=>rw[cB hl]at hk;exact hn y hk
  ·rcases he.newI b o hi with h1|h1|⟨k,hk⟩
   ·exact .inl h1
   ·exact .inr (.inl h1)
   ·cases hl:L[k]? with
    |none=>rw[cN hl]at hk;cases hk|some y=>rw[cB hl]at hk;exact .inr (.inr ⟨y,hk⟩)
  ·rcases kinds x with⟨k,hk,_⟩|⟨_,_,hk⟩
   ·rw[hk]at hx;rcases he.newB k b hx with⟨k',h1⟩|h1
    ·cases hl:L[k']? with
     |none=>rw[cN hl]at h1;cases h1|some y=>rw[cB hl]at h1;exact .inl ⟨y,h1⟩
    ·exact .inr h1
   ·rw[hk]at hx;exact .inl ⟨x,hx⟩
 have lk: ∀x,Cn (Js h0 L Hr) x=(if h0<=x/\x<h0+16 then(look Hr (L.length+(x -h0))).map (renB (Nc L h0))else Cn (Jw Hr (Nc L h0) 0 L) x):=fun x=>by
  unfold Js;rw[Jf,G6];by_cases hc:h0<=x/\x<h0+16
  ·simp only[hc,and_self,if_true];cases look Hr (L.length+(x -h0))with
   |none=>simp only[Option.map_none];exact(C4 Hr (Nc L h0) L 0 x hnd).1 (hfl hc)|some b=>rfl
  ·simp only[hc,if_false]
 refine⟨Ps O Oc L h0,⟨⟨?_, ?_, ?_,hr.old,hr.gl⟩, ?_, ?_⟩,hv.ren hU,hext,hmono⟩
 ·intro i j b hi hj;rcases kinds i with⟨k,hk,hki⟩|⟨hn,hc,hk⟩<;>rcases kinds j with⟨k',hk',hkj⟩|⟨hn',hc',hk'⟩
  ·rw[hk]at hi;rw[hk']at hj;have:=hr.inj k k' b hi hj;subst this;have lt: ∀{q x:Nat},L[q]? =some x ->q<L.length:=fun hq=>(List.getElem?_eq_some_iff.1 hq).1
   rcases hki with e1|⟨e1,e2,e3⟩<;>rcases hkj with e4|⟨e4,e5,e6⟩
   ·rw[e1]at e4;simpa using e4
   ·have:=lt e1;omega
   ·have:=lt e4;omega
   ·omega
  ·rw[hk]at hi;rw[hk']at hj;exact absurd hi (fun hi=>Fp hn' hj hi)
  ·rw[hk]at hi;rw[hk']at hj;exact absurd hj (fun hj=>Fp hn hi hj)
  ·rw[hk]at hi;rw[hk']at hj;exact h.inj i j b hi hj
 ·intro x b hx;rcases kinds x with⟨k,hk,_⟩|⟨_,_,hk⟩
  ·rw[hk]at hx;exact hr.lt k b hx
  ·rw[hk]at hx;have:=h.lt x b hx;have:=he.size;omega
 ·intro x b o hx hi;rcases kinds x with⟨k,hk,_⟩|⟨hn,_,hk⟩
  ·rw[hk]at hx;exact hr.off k b o hx hi
  ·rw[hk]at hx;rcases he.newI b o hi with h1|h1|⟨k',h1⟩
   ·exact h.off x b o hx h1
   ·have:=h.lt x b hx;omega
   ·exact other hn hx k' h1
 ·intro x hx;rw[Cz]at hx;split at hx
  ·simp at hx
  ·rename_i hu;rw[lk]at hu;have hxL:x∉L:=fun hm'=>hin x hm' hx
   by_cases hc:h0<=x/\x<h0+16
   ·rw[if_pos hc]at hu;simp only[Option.map_eq_none_iff]at hu;rw[b2 hc];exact hr.dom _ hu
   ·rw[b3 hxL hc];exact h.dom x hx
 ·intro x B hx;rw[Cz]at hx;split at hx
  ·rename_i b hu;simp at hx;subst hx;rw[lk]at hu;by_cases hc:h0<=x/\x<h0+16
   ·rw[if_pos hc]at hu;simp only[Option.map_eq_some_iff]at hu;obtain⟨B,hB,rfl⟩:=hu;exact(hr.blk _ B hB).ren hU (b2 hc)
   ·rw[if_neg hc]at hu;by_cases hm':x∈L
    ·obtain⟨i,hi⟩:=List.getElem?_of_mem hm';rw[(C4 Hr (Nc L h0) L 0 x hnd).2 i hi,Nat.zero_add]at hu;simp at hu;subst hu;cases hl:look Hr i with
     |some B=>rw[show Ra Hr i=B by simp[Ra,hl]];exact(hr.blk i B hl).ren hU (b1 hi)|none=>
      exfalso;have h1:=hr.dom i hl;obtain⟨B,hB⟩:=Option.ne_none_iff_exists'.1 (hin x hm');have h2:=(h.blk x B hB).ne;exact hm.ne (h:=i) (by rw[cB hi];exact h2) h1
    ·rw[(C4 Hr (Nc L h0) L 0 x hnd).1 hm']at hu;simp at hu
  ·rename_i hu;rw[lk]at hu;have hc: ¬(h0<=x/\x<h0+16):=fun hc=>by
    have:=hfree (x -h0) (by omega);rw[show h0+(x -h0)=x by omega]at this;rw[hx]at this;simp at this
   have hm':x∉L:=fun hm'=>by
    rw[if_neg hc]at hu;obtain⟨i,hi⟩:=List.getElem?_of_mem hm';rw[(C4 Hr (Nc L h0) L 0 x hnd).2 i hi]at hu;simp at hu
   exact(h.blk x B hx).keep (hext.keep hmono) (b3 hm' hc) (fun b hb=>he.block b (h.lt x b hb) (other hm' hb))
end
section
variable {P:Program}{ops:Array Oper}
def PerfR(P:Program)(h0:Nat)(a:Do)(H:Hp)(x:AV)(ft:Foot)(u:Ups):Prop:=match a with
 | .call f args=> ∃L r Hr,Agg H args=some L/\CX P f (Qd L args) (Zg H L) r Hr/\x=renA (Nc L h0) r/\ft=Qc h0 L/\u=Js h0 L Hr|a=>Ax h0 a H=some (x,ft,u)
mutual
theorem Ww{H:Hp}: ∀(n:Nat) (c:C) (d:D) (ks:List Nat),frz H n c=some (d,ks) -> ∀k∈ks,look H k≠none
 |0,c,d,ks,h=>by simp[frz]at h|n+1,c,d,ks,h=>by
  cases c with
  |d x=>simp[frz]at h;obtain⟨rfl,rfl⟩:=h;intro k hk;simp at hk
  |row h' sz len=>
   simp only[frz]at h;split at h
   ·rename_i m f sz' t hl;cases hs:Nat.beq sz sz' with
    |false=>simp[hs]at h|true=>
     simp[hs]at h;obtain⟨rfl,rfl⟩:=h;intro k hk;simp at hk;subst hk;rw[hl];simp
   ·rename_i cs t hl;split at h
    ·rename_i ds ks' hds;cases hs:Nat.beq ds.length (len*sz)with
     |false=>simp[hs]at h|true=>
      simp[hs]at h;obtain⟨rfl,rfl⟩:=h;intro k hk;simp at hk;rcases hk with rfl|hk
      ·rw[hl];simp
      ·exact D6 n _ _ _ hds k hk
    ·simp at h
   ·simp at h
  |_=>simp[frz]at h
theorem D6{H:Hp}: ∀(n:Nat) (cs:List C) (ds:List D) (ks:List Nat),frzL H n cs=some (ds,ks) -> ∀k∈ks,look H k≠none
 |0,cs,ds,ks,h=>by simp[frzL]at h|n+1,[],ds,ks,h=>by simp[frzL]at h;obtain⟨rfl,rfl⟩:=h;intro k hk;simp at hk
 |n+1,c::r,ds,ks,h=>by
  simp only[frzL]at h;split at h
  ·rename_i d k1 ds' k2 h1 h2;simp at h;obtain⟨rfl,rfl⟩:=h;intro k hk;rcases List.mem_append.1 hk with hk|hk
   ·exact Ww n _ _ _ h1 k hk
   ·exact D6 n _ _ _ h2 k hk
  ·simp at h
end
mutual
theorem Afs{H H':Hp}: ∀(n:Nat) (c:C) (d:D) (ks:List Nat),frz H n c=some (d,ks) ->(∀k∈ks,look H' k=look H k) ->frz H' n c=some (d,ks)
 |0,c,d,ks,h,_=>by simp[frz]at h|n+1,c,d,ks,h,hk=>by
  cases c with
  |d x=>simpa[frz]using h|row h' sz len=>
   simp only[frz]at h⊢;split at h
   ·rename_i m f sz' t hl;cases hs:Nat.beq sz sz' with
    |false=>simp[hs]at h|true=>
     simp[hs]at h;obtain⟨rfl,rfl⟩:=h;rw[hk h' (by simp),hl];simp[hs]
   ·rename_i cs t hl;split at h
    ·rename_i ds ks' hds;cases hs:Nat.beq ds.length (len*sz)with
     |false=>simp[hs]at h|true=>
      simp[hs]at h;obtain⟨rfl,rfl⟩:=h;have:=Gn (H':=H') n _ _ _ hds (fun k hk'=>hk k (by simp[hk']));rw[hk h' (by simp),hl];simp[this,hs]
    ·simp at h
   ·simp at h
  |_=>simp[frz]at h
theorem Gn{H H':Hp}: ∀(n:Nat) (cs:List C) (ds:List D) (ks:List Nat),frzL H n cs=some (ds,ks) ->(∀k∈ks,look H' k=look H k) ->frzL H' n cs=some (ds,ks)
 |0,cs,ds,ks,h,_=>by simp[frzL]at h|n+1,[],ds,ks,h,_=>by simpa[frzL]using h|n+1,c::r,ds,ks,h,hk=>by
  simp only[frzL]at h⊢;split at h
  ·rename_i d k1 ds' k2 h1 h2;simp at h;obtain⟨rfl,rfl⟩:=h;rw[Afs n _ _ _ h1 (fun k hk'=>hk k (by simp[hk'])),Gn n _ _ _ h2 (fun k hk'=>hk k (by simp[hk']))]
  ·simp at h
end
theorem N8{H:Hp}{sz n:Nat}{c:Cont}{f:RD}{ks:List Nat}(h:Ht H sz n c=some (f,ks)): ∀k∈ks,look H k≠none:=by
 cases c with
 |data g=>simp[Ht]at h;obtain⟨rfl,rfl⟩:=h;intro k hk;simp at hk
 |cells cs=>
  simp only[Ht]at h;split at h
  ·rename_i ds ks' hf;cases hb:Nat.beq ds.length (n*sz)with
   |false=>simp[hb]at h|true=>simp[hb]at h;obtain⟨rfl,rfl⟩:=h;exact D6 _ _ _ _ hf
  ·simp at h
theorem N9{H H':Hp}{sz n:Nat}{c:Cont}{f:RD}{ks:List Nat}(h:Ht H sz n c=some (f,ks))(hk: ∀k∈ks,look H' k=look H k):Ht H' sz n c=some (f,ks):=by
 cases c with
 |data g=>exact h|cells cs=>
  simp only[Ht]at h⊢;split at h
  ·rename_i ds ks' hf;cases hb:Nat.beq ds.length (n*sz)with
   |false=>simp[hb]at h|true=>
    simp[hb]at h;obtain⟨rfl,rfl⟩:=h;rw[Gn _ _ _ _ hf hk];simp[hb]
  ·simp at h
theorem Tb{H:Hp}{sz:Nat}{e:TypeId}{dst:Option (Nat×Nat)}{c:Cont}(h:dstC H sz e dst=some c): ∀k∈Bz dst,look H k≠none:=by
 cases dst with
 |none=>intro k hk;simp[Bz]at hk|some p=>
  obtain⟨h',n⟩:=p;intro k hk;simp[Bz]at hk;subst hk;intro hn;simp[dstC,hn]at h
theorem Tc{H H':Hp}{sz:Nat}{e:TypeId}{dst:Option (Nat×Nat)}(hk: ∀k∈Bz dst,look H' k=look H k):dstC H' sz e dst=dstC H sz e dst:=by
 cases dst with
 |none=>rfl|some p=>obtain⟨h',n⟩:=p;simp only[dstC,hk h' (by simp[Bz])]
theorem Su{H H':Hp}{sz:Nat}{src:Src}{c:Cont}{rd:List Nat}(h:srcC H sz src=some (c,rd))(hk: ∀k∈rd,look H' k=look H k):srcC H' sz src=some (c,rd):=by
 cases src with
 |data n g=>exact h|str s=>exact h|own h' sz' len=>
  have hrd:h'∈rd:=by
   simp only[srcC]at h;split at h
   ·rename_i n g sz'' t hl;cases hb:(Nat.beq sz' sz''&&Nat.beq sz sz')with
    |false=>rw[hb]at h;cases h|true=>rw[hb]at h;simp at h;rw[<-h.2];simp
   ·rename_i cs t hl;cases hb:(Nat.ble (len*sz) cs.length&&Nat.beq sz sz')with
    |false=>rw[hb]at h;cases h|true=>rw[hb]at h;simp at h;rw[<-h.2];simp
   ·simp at h
  simp only[srcC]at h⊢;rw[hk h' hrd];exact h
theorem Xh{H:Hp}{h0:Nat}{dst:Option (Nat×Nat)}{src:Src}{e:TypeId}{sz:Nat}{x:AV}{u:Ups}{rd:List Nat}(h:Jz H h0 dst src e sz=some (x,u,rd)):
  (∀k∈u.map (·.1),k=h0\/look H k≠none)/\ ∀H',(∀k∈rd,look H' k=look H k) ->Jz H' h0 dst src e sz=some (x,u,rd):=by
 unfold Jz at h;split at h
 ·rename_i xs ys rd' hd hs;simp at h;obtain⟨rfl,rfl,rfl⟩:=h;refine⟨fun k hk=> ?_,fun H' hk=> ?_⟩
  ·simp only[List.map_cons,List.mem_cons,Cj]at hk;rcases hk with rfl|hk
   ·exact .inl rfl
   ·exact .inr (Tb hd k hk)
  ·unfold Jz;rw[Tc (fun k hk'=>hk k (by simp[hk'])),Su hs (fun k hk'=>hk k (by simp[hk'])),hd]
 ·rename_i a b rd' hno hd hs;split at h
  ·rename_i f ks g ks' hf hg;cases hdj:disj (Bz dst) (ks++ks')with
   |false=>rw[hdj]at h;cases h|true=>
    rw[hdj]at h;simp only[za,zj,Prod.mk.injEq]at h;obtain⟨rfl,rfl,rfl⟩:=h;refine⟨fun k hk=> ?_,fun H' hk=> ?_⟩
    ·simp only[List.map_cons,List.mem_cons,Cj,List.mem_append]at hk;rcases hk with rfl|hk|hk|hk
     ·exact .inl rfl
     ·exact .inr (Tb hd k hk)
     ·exact .inr (N8 hf k hk)
     ·exact .inr (N8 hg k hk)
    ·unfold Jz;rw[Tc (fun k hk'=>hk k (by simp[hk'])),Su hs (fun k hk'=>hk k (by simp[hk'])),hd];split
     ·rename_i xs ys rd2 e1 e2;simp at e1 e2;exact(hno xs ys e1 e2.1).elim
     ·rename_i a2 b2 rd2 hno2 e1 e2;simp at e1 e2;obtain⟨rfl,rfl⟩:=e2;subst e1;rw[N9 hf (fun k hk'=>hk k (by simp[hk'])),N9 hg (fun k hk'=>hk k (by simp[hk']))];simp only[hdj,za]
     ·rename_i hx;exact absurd rfl (hx a b rd' rfl)
  ·simp at h
 ·simp at h
theorem AbW{H:Hp}{h0:Nat}{a:Do}{x:AV}{ft:Foot}{u:Ups}(h:Ax h0 a H=some (x,ft,u)):
  (∀k∈u.map (·.1),k∈ft.wr)/\(∀k∈u.map (·.1),k=h0\/look H k≠none)/\ ∀H',(∀k∈ft.rd,look H' k=look H k) ->Ax h0 a H'=some (x,ft,u):=by
 cases a with
 |val y=>simp[Ax]at h;obtain⟨rfl,rfl,rfl⟩:=h;exact⟨fun k hk=>by simp at hk,fun k hk=>by simp at hk,fun _ _=>rfl⟩
 |load k sz i off n ag=>
  simp only[Ax]at h;split at h
  ·rename_i y hl;simp at h;obtain⟨rfl,rfl,rfl⟩:=h;refine⟨fun k hk=>by simp at hk,fun k hk=>by simp at hk,fun H' hk=> ?_⟩;have e:Gl H' k sz i off n ag=Gl H k sz i off n ag:=by unfold Gl;rw[hk k (by simp)]
   simp only[Ax,e,hl]
  ·simp at h
 |store k sz i off cs=>
  simp only[Ax]at h;split at h
  ·rename_i u' rd hst;simp at h;obtain⟨rfl,rfl,rfl⟩:=h;have key:(∀k∈u'.map (·.1),look H k≠none)/\ ∀H',(∀k∈rd,look H' k=look H k) ->Eh H' k sz i off cs=some (u',rd):=by
    unfold Eh at hst;split at hst
    ·rename_i ds t hl;cases hb:Nat.ble (i*sz+off+cs.length) ds.length with
     |false=>rw[hb]at hst;cases hst|true=>
      rw[hb]at hst;simp at hst;obtain⟨rfl,rfl⟩:=hst;refine⟨fun q hq=>by simp at hq;subst hq;rw[hl];simp,fun H' hk=> ?_⟩;unfold Eh;rw[hk k (by simp),hl];simp[hb]
    ·rename_i n f sz' t hl;split at hst
     ·rename_i xs ks hf;cases hb:(Nat.beq sz sz'&&Nat.ble (off+xs.length) sz&& !(ks.contains k))with
      |false=>rw[hb]at hst;cases hst|true=>
       rw[hb]at hst;simp only[za,zj,Prod.mk.injEq]at hst;obtain⟨rfl,rfl⟩:=hst;refine⟨fun q hq=> ?_,fun H' hk=> ?_⟩
       ·simp only[List.map_cons,List.mem_cons,Cj]at hq;rcases hq with rfl|hq
        ·rw[hl];simp
        ·exact D6 _ _ _ _ hf q hq
       ·unfold Eh;rw[hk k (by simp),hl,Gn _ _ _ _ hf (fun q hq=>hk q (by simp[hq]))];simp only[hb,za]
     ·simp at hst
    ·simp at hst
   refine⟨fun q hq=>hq,fun q hq=> .inr (key.1 q hq),fun H' hk=> ?_⟩;simp only[Ax,key.2 H' hk]
  ·simp at h
 |alloc B mk=>simp[Ax]at h;obtain⟨rfl,rfl,rfl⟩:=h;exact⟨fun k hk=>by simpa using hk,fun k hk=>by simp at hk;exact .inl hk,fun _ _=>rfl⟩
 |append d s e sz=>
  simp only[Ax]at h;split at h
  ·rename_i y u' rd hap;simp at h;obtain⟨rfl,rfl,rfl⟩:=h;obtain⟨h1,h2⟩:=Xh hap;exact⟨fun q hq=>hq,h1,fun H' hk=>by simp only[Ax,h2 H' hk]⟩
  ·simp at h
 |next k=>
  simp only[Ax]at h;split at h
  ·rename_i s q hl;cases hb:Nat.blt q s.size with
   |true=>
    rw[hb]at h;simp only[za,zj,Prod.mk.injEq]at h;obtain⟨rfl,rfl,rfl⟩:=h;refine⟨fun q hq=>by simpa using hq,fun q hq=>by simp at hq;subst hq;right;rw[hl];simp,fun H' hk=> ?_⟩;simp only[Ax,hk k (by simp),hl,hb,za]
   |false=>
    rw[hb]at h;simp only[zb,zj,Prod.mk.injEq]at h;obtain⟨rfl,rfl,rfl⟩:=h;refine⟨fun q hq=>by simp at hq,fun q hq=>by simp at hq,fun H' hk=> ?_⟩;simp only[Ax,hk k (by simp),hl,hb,zb]
  ·simp at h
 |cstr k n=>
  simp only[Ax]at h;cases hb:Ey n (look H k)with
  |false=>rw[hb]at h;cases h|true=>
   rw[hb]at h;simp only[za,zj,Prod.mk.injEq]at h;obtain⟨rfl,rfl,rfl⟩:=h;refine⟨fun k hk=>by simp at hk,fun k hk=>by simp at hk,fun H' hk=> ?_⟩;simp only[Ax,hk k (by simp),hb,za]
 |slarr k n s=>
  simp only[Ax]at h;split at h
  ·rename_i cs t hl;split at h
   ·rename_i ds ks hf;cases hb:Nat.beq ds.length (n*s)with
    |false=>rw[hb]at h;cases h|true=>
     rw[hb]at h;simp only[za,zj,Prod.mk.injEq]at h;obtain⟨rfl,rfl,rfl⟩:=h;refine⟨fun q hq=>by rw[Cj]at hq;exact hq,fun q hq=> ?_,fun H' hk=> ?_⟩
     ·rw[Cj]at hq;right;rcases List.mem_cons.1 hq with rfl|hq
      ·rw[hl];simp
      ·exact D6 _ _ _ _ hf q hq
     ·simp only[Ax,hk k (by simp),hl,Gn _ _ _ _ hf (fun q hq=>hk q (by simp[hq])),hb,za]
   ·simp at h
  ·simp at h
 |idx k off s len n=>simp[Ax]at h;obtain⟨rfl,rfl,rfl⟩:=h;exact⟨fun k hk=>by simp at hk,fun k hk=>by simp at hk,fun _ _=>rfl⟩
 |mlen k=>
  simp only[Ax]at h;split at h
  ·rename_i kd' l hl;simp only[zj,Prod.mk.injEq]at h;obtain⟨rfl,rfl,rfl⟩:=h;refine⟨fun k hk=>by simp at hk,fun k hk=>by simp at hk,fun H' hk=> ?_⟩;simp only[Ax,hk k (by simp),hl]
  ·simp at h
 |look k kd key ok z=>
  simp only[Ax]at h;split at h
  ·rename_i kd' l hl;cases hb:Nat.beq kd kd' with
   |false=>rw[hb]at h;cases h|true=>
    rw[hb]at h;simp only[za,zj,Prod.mk.injEq]at h;obtain⟨rfl,rfl,rfl⟩:=h;refine⟨fun k hk=>by simp at hk,fun k hk=>by simp at hk,fun H' hk=> ?_⟩;simp only[Ax,hk k (by simp),hl,hb,za]
  ·simp at h
 |upd k kd key v=>
  simp only[Ax]at h;split at h
  ·rename_i kd' l hl;cases hb:Nat.beq kd kd' with
   |false=>rw[hb]at h;cases h|true=>
    rw[hb]at h;simp only[za,zj,Prod.mk.injEq]at h;obtain⟨rfl,rfl,rfl⟩:=h;refine⟨fun k hk=>by simpa using hk,fun k hk=>by simp at hk;subst hk;right;rw[hl];simp,fun H' hk=> ?_⟩;simp only[Ax,hk k (by simp),hl,hb,za]
  ·simp at h
 |chk k y=>
  simp only[Ax]at h;split at h
  ·rename_i cs t hl;simp at h;obtain⟨rfl,rfl,rfl⟩:=h;refine⟨fun k hk=>by simp at hk,fun k hk=>by simp at hk,fun H' hk=> ?_⟩;simp only[Ax,hk k (by simp),hl]
  ·simp at h
 |conv k off o=>
  simp only[Ax]at h;split at h
  ·rename_i cs t hl;cases hb:(Nat.blt off cs.length&&AaZ off cs.length t o)with
   |false=>rw[hb]at h;cases h|true=>
    rw[hb]at h;simp only[za,zj,Prod.mk.injEq]at h;obtain⟨rfl,rfl,rfl⟩:=h;refine⟨fun k hk=>by simp at hk,fun k hk=>by simp at hk,fun H' hk=> ?_⟩;simp only[Ax,hk k (by simp),hl];rw[hb];rfl
  ·simp at h
 |ustr k n e=>
  simp only[Ax]at h;split at h
  ·rename_i m f sz t hl;cases hb:(Nat.ble n m&&Nat.beq sz 1&&Nat.beq t e&&Dk n f)with
   |false=>rw[hb]at h;cases h|true=>
    rw[hb]at h;simp only[za,zj,Prod.mk.injEq]at h;obtain⟨rfl,rfl,rfl⟩:=h;refine⟨fun k hk=>by simpa using hk,fun k hk=>by simp at hk;subst hk;right;rw[hl];simp,fun H' hk=> ?_⟩;simp only[Ax,hk k (by simp),hl,hb,za]
  ·simp at h
 |call f args=>simp[Ax]at h
theorem Ja{H H':Hp}: ∀(n:Nat) (l acc L:List Nat),He n H l acc=some L ->(∀k∈L,look H' k=look H k) ->(∀k∈acc,k∈L)/\He n H' l acc=some L
 |0,l,acc,L,h,_=>by simp[He]at h|n+1,[],acc,L,h,_=>by simp[He]at h;subst h;exact⟨fun k hk=>hk,rfl⟩
 |n+1,h::r,acc,L,hL,hk=>by
  simp only[He]at hL⊢;cases hc:acc.contains h with
  |true=>rw[hc]at hL;exact Ja n r acc L hL hk|false=>
   rw[hc]at hL;simp only[zb]at hL⊢;split at hL
   ·rename_i b hb;obtain⟨h1,h2⟩:=Ja n _ _ L hL hk;have hm:h∈L:=h1 h (by simp);refine⟨fun k hk'=>h1 k (by simp[hk']), ?_⟩;rw[hk h hm,hb];exact h2
   ·simp at hL
theorem Qm{H H':Hp}{ρ:Nat ->Option Nat}: ∀(L:List Nat) (s:Nat),(∀k∈L,look H' k=look H k) ->Tt H' ρ s L=Tt H ρ s L
 |[],s,_=>rfl|h::r,s,hk=>by
  simp only[Tt,Ra,hk h (by simp)];rw[Qm r (s+1) (fun k hk'=>hk k (by simp[hk']))]
theorem PerfR.spec{H:Hp}{h0:Nat}{a:Do}{x:AV}{ft:Foot}{u:Ups}(h:PerfR P h0 a H x ft u):
  (∀k∈u.map (·.1),k∈ft.wr)/\(∀k∈u.map (·.1),(h0<=k/\k<h0+16)\/look H k≠none)/\ ∀H',(∀k∈ft.rd,look H' k=look H k) ->PerfR P h0 a H' x ft u:=by
 have plain: ∀(hp:Ax h0 a H=some (x,ft,u)) (hq: ∀H',Ax h0 a H'=some (x,ft,u) ->PerfR P h0 a H' x ft u),(∀k∈u.map (·.1),k∈ft.wr)/\(∀k∈u.map (·.1),(h0<=k/\k<h0+16)\/look H k≠none)/\ ∀H',(∀k∈ft.rd,look H' k=look H k) ->PerfR P h0 a H' x ft u:=by
  intro hp hq;obtain⟨h1,h2,h3⟩:=AbW hp;exact⟨h1,fun k hk=>(h2 k hk).imp (fun e=>by omega) id,fun H' hk=>hq H' (h3 H' hk)⟩
 cases a with
 |call f args=>
  obtain⟨L,r,Hr,hL,hcx,rfl,rfl,rfl⟩:=h;obtain⟨hnd,hin⟩:=Fi H Aco (args.flatMap Ev) [] L (by simp) (by simp) hL;have names: ∀k∈(Js h0 L Hr).map (·.1),k∈L\/(h0<=k/\k<h0+16):=by
   intro k hk;have:Cn (Js h0 L Hr) k≠none:=fun hn=>(J9.1 hn) hk
   unfold Js at this;rw[Jf,G6]at this;by_cases hc:h0<=k/\k<h0+16
   ·exact .inr hc
   ·rw[if_neg hc]at this;left;exact Classical.byContradiction fun hn=>this ((C4 Hr _ L 0 k hnd).1 hn)
  refine⟨fun k hk=> ?_,fun k hk=> ?_,fun H' hk=> ?_⟩
  ·rcases names k hk with h1|h1
   ·simp[Qc,h1]
   ·simp only[Qc,List.mem_append,List.mem_map,List.mem_range];exact .inr ⟨k -h0,by omega,by omega⟩
  ·rcases names k hk with h1|h1
   ·exact .inr (hin k h1)
   ·exact .inl h1
  ·have hk': ∀k∈L,look H' k=look H k:=hk;refine⟨L,r,Hr,(Ja _ _ _ L hL hk').2, ?_,rfl,rfl,rfl⟩;unfold Zg;rw[Qm L 0 hk'];exact hcx
 |_=>exact plain h (fun H' hp=>hp)
theorem Tk{h:Nat}{b:Blk}: ∀(u:Ups) (H:Hp),h∉u.map (·.1) ->A9 u (ins h b H)=ins h b (A9 u H)
 |[],H,_=>rfl|(k,c)::r,H,hn=>by
  simp at hn;simp only[A9];rw[AaH (fun e=>hn.1 e.symm),Tk r _ (by simpa using hn.2)]
theorem Ru: ∀(u v:Ups) (H:Hp),(∀k∈u.map (·.1),k∉v.map (·.1)) ->A9 u (A9 v H)=A9 v (A9 u H)
 |[],v,H,_=>rfl|(k,c)::r,v,H,hd=>by
  simp only[A9];rw[<-Tk v H (hd k (by simp)),Ru r v _ (fun q hq=>hd q (by simp at hq⊢;exact .inr hq))]
theorem Cr{u:Ups}{H:Hp}{k:Nat}(hn:k∉u.map (·.1)):look (A9 u H) k=look H k:=by
 rw[Cz,J9.2 hn]
def StepR(P:Program)(ops:Array Oper)(i:Nat)(s:St)(tx:Tx)(s':St):Prop:=
 ∃o x u,ops[i]? =some o/\s'=⟨put s.F o.dst x,A9 u s.H,s.nm⟩/\
  ((Ep ops s.F o=some false/\x= .tup []/\u=[]/\tx=tx0)\/(Ep ops s.F o=some true/\ ∃a,res P o (opA s.F)=some (true,a)/\PerfR P (s.nm+16*i) a s.H x tx.ft u/\tx.lo=Lp a x/\tx.u=u))
theorem StepR.nm{i:Nat}{s s':St}{ft:Tx}(h:StepR P ops i s ft s'):s'.nm=s.nm:=by
 obtain⟨o,x,u,_,rfl,_⟩:=h;rfl
theorem Amb{F:List AV}{dst:Option Nat}{v:AV}{x:Operand}(h: ∀d,dst=some d ->x≠ .tmp d):opA (put F dst v) x=opA F x:=by
 cases dst with
 |none=>rfl|some d=>
  cases x with
  |tmp t=>
   have hne:d≠t:=fun e=>h d rfl (e▸rfl)
   simp[opA,put,List.getD,List.getElem?_set_ne hne]
  |_=>rfl
theorem Rr{ρ ρ':Operand ->AV}{o:Option Operand}{d:Nat}(h: ∀x,o=some x ->ρ x=ρ' x):C6 ρ o d=C6 ρ' o d:=by
 cases o with
 |none=>rfl|some x=>simp only[C6,h x rfl]
theorem AdZ{ρ ρ':Operand ->AV}(o:Oper)(h: ∀x∈o.op.operands,ρ x=ρ' x):res P o ρ=res P o ρ':=by
 obtain⟨dst,op,type,pos,after,guard⟩:=o;cases op<;>simp only[Op.operands]at h<;>simp only[res]
 case build t ps=>
  have e:(ps.toList.map fun p=>(p.1,ρ p.2))=(ps.toList.map fun p=>(p.1,ρ' p.2)):=List.map_congr_left fun p hp=>by
   rw[h p.2 (by simp;exact⟨p.1,by simpa using hp⟩)]
  rw[e]
 case buildSlice t n ps=>
  have e:(ps.toList.map fun p=>(p.1,ρ p.2))=(ps.toList.map fun p=>(p.1,ρ' p.2)):=List.map_congr_left fun p hp=>by
   rw[h p.2 (by simp;exact⟨p.1,by simpa using hp⟩)]
  rw[e]
 case makeFunc fn first captured=>
  have e1:first.toList.map ρ=first.toList.map ρ':=List.map_congr_left fun x hx=>h x (by simp at hx⊢;exact .inl hx)
  have e2:captured.toList.map ρ=captured.toList.map ρ':=List.map_congr_left fun x hx=>h x (by simp at hx⊢;exact .inr hx)
  rw[e1,e2]
 case slice t x lo hi mx=>
  have e0:ρ x=ρ' x:=h x (by simp)
  have e1: ∀d,C6 ρ lo d=C6 ρ' lo d:=fun d=>Rr fun y hy=>h y (by simp[hy])
  have e2: ∀d,C6 ρ hi d=C6 ρ' hi d:=fun d=>Rr fun y hy=>h y (by simp[hy])
  simp only[e0,e1,e2]
 case call c=>
  have ha:c.args.toList.map ρ=c.args.toList.map ρ':=List.map_congr_left fun x hx=>h x (by simp[Call.operands];right;simpa using hx)
  have h0: ∀x,c.args[0]? =some x ->ρ x=ρ' x:=fun x hx=>h x (by simp[Call.operands];right;exact Array.mem_of_getElem? hx)
  cases hc:c.callee with
  |value f=>have hf:ρ f=ρ' f:=h f (by simp[Call.operands,hc]);simp only[hf,ha]|invoke r m=>rfl|builtin b=>
   cases b<;>first
    |rfl|(simp only[ha];done)
    | (cases hx:c.args[0]? with
       |none=>cases c.argTypes[0]? <;>rfl|some x=>cases c.argTypes[0]? with
        |none=>rfl|some t=>simp only[h0 x hx])
    | (cases hl:c.args.toList with
       |nil=>cases c.argTypes.toList with
        |nil=>rfl|cons t r=>cases r with
         |nil=>rfl|cons t' r=>cases r<;>rfl
       |cons x r=>cases r with
        |nil=>cases c.argTypes.toList with
         |nil=>rfl|cons t r=>cases r with
          |nil=>rfl|cons t' r=>cases r<;>rfl
        |cons y r=>cases r with
         |nil=>
          rw[hl]at ha
          simp at ha
          cases c.argTypes.toList with
          |nil=>rfl|cons t r=>cases r with
           |nil=>rfl|cons t' r=>cases r with
            |nil=>simp only[ha.1,ha.2]|cons t2 r=>rfl
         |cons z r=>cases c.argTypes.toList with
          |nil=>rfl|cons t r=>cases r with
           |nil=>rfl|cons t' r=>cases r<;>rfl)
 all_goals first
  |rfl|(simp only[h _ (by simp)];done)|(simp_all;done)
theorem Ks{F:List AV}{dst:Option Nat}{v:AV}{o:Oper}(h: ∀d,dst=some d ->d∉o.looksAt ops):Ep ops (put F dst v) o=Ep ops F o:=by
 cases dst with
 |none=>rfl|some d=>
  unfold Ep;cases hg:o.guard with
  |none=>rfl|some gw=>
   obtain⟨g,want⟩:=gw;simp only;cases ht:(ops[g]?).bind (·.dst)with
   |none=>rfl|some t=>
    have hne:d≠t:=fun e=>h d rfl (by subst e;simp[Oper.looksAt,hg,ht])
    simp[put,List.getD,List.getElem?_set_ne hne]
theorem Yi{F:List AV}{dst:Option Nat}{v:AV}{o:Oper}(h: ∀d,dst=some d ->d∉o.looksAt ops):res P o (opA (put F dst v))=res P o (opA F):=
 AdZ o fun x hx=>Amb fun d hd hxd=>h d hd (by
  subst hxd;exact List.mem_append_left _ (List.mem_filterMap.2 ⟨.tmp d,by simpa using hx,rfl⟩))
theorem Aav(F:List AV){x y:Option Nat}(v z:AV)(h: ∀d,x=some d ->y≠some d):put (put F x v) y z=put (put F y z) x v:=by
 cases x with
 |none=>rfl|some d=>
  cases y with
  |none=>rfl|some e=>
   have hne:d≠e:=fun he=>h d rfl (he▸rfl)
   simp[put,List.set_comm _ _ hne]
theorem Yt{H K:Hp}{h sz i off n:Nat}{ag:Bool}(e:look H h=look K h):Gl H h sz i off n ag=Gl K h sz i off n ag:=by
 unfold Gl;rw[e]
theorem Akv{h:Nat}: ∀{u:Ups},(u.any fun p=>Nat.beq p.1 h)=true ->Cn u h≠none:=fun{u} hu hn=>by
 obtain⟨p,hp,he⟩:=List.any_eq_true.1 hu;exact J9.1 hn (List.mem_map.2 ⟨p,hp,zg he⟩)
theorem Adt{i j:Nat}{f1 f2:Tx}{s s1 s2:St}(h1:StepR P ops i s f1 s1)(h2:StepR P ops j s1 f2 s2)(hi:Lv ops (i,f1) (j,f2)=true):
  ∃t,StepR P ops j s f2 t/\StepR P ops i t f1 s2:=by
 obtain⟨o,x,u,ho,rfl,hc1⟩:=h1;obtain⟨p,y,v,hp,rfl,hc2⟩:=h2;simp only[Lv,ho,hp,zd,Bool.or_eq_true]at hi;obtain⟨hap,hor⟩:=hi;obtain⟨k1,k2,k3⟩:=Oper.apart_spec hap;simp only at hc2;rw[Ks k1,Yi k1]at hc2;rcases hor with hi|hso
 ·simp only[Lu,zd]at hi;obtain⟨⟨hd1,hd2⟩,hd3⟩:=hi;have w1: ∀k∈u.map (·.1),k∈f1.ft.wr:=by
   rcases hc1 with⟨_,_,rfl,_⟩|⟨_,a,_,hq,_⟩
   ·intro k hk;simp at hk
   ·exact hq.spec.1
  have w2: ∀k∈v.map (·.1),k∈f2.ft.wr:=by
   rcases hc2 with⟨_,_,rfl,_⟩|⟨_,a,_,hq,_⟩
   ·intro k hk;simp at hk
   ·exact hq.spec.1
  have hc2':(Ep ops s.F p=some false/\y= .tup []/\v=[]/\f2=tx0)\/(Ep ops s.F p=some true/\ ∃a,res P p (opA s.F)=some (true,a)/\PerfR P (s.nm+16*j) a s.H y f2.ft v/\f2.lo=Lp a y/\f2.u=v):=by
   rcases hc2 with hc2|⟨hw,a,hr,hq,hl⟩
   ·exact .inl hc2
   ·exact .inr ⟨hw,a,hr,hq.spec.2.2 s.H (fun k hk=>(Cr (fun hm=>P0 hd1 (w1 k hm) hk)).symm),hl⟩
  refine⟨⟨put s.F p.dst y,A9 v s.H,s.nm⟩,⟨p,y,v,hp,rfl,hc2'⟩,⟨o,x,u,ho, ?_, ?_⟩⟩
  ·simp only;rw[Aav _ _ _ k2,Ru u v _ (fun k hk hm=>P0 hd2 (w1 k hk) (w2 k hm))]
  ·simp only;rw[Ks k3,Yi k3];rcases hc1 with hc1|⟨hw,a,hr,hq,hl⟩
   ·exact .inl hc1
   ·exact .inr ⟨hw,a,hr,hq.spec.2.2 _ (fun k hk=>Cr (fun hm=>P0 hd3 hk (w2 k hm))),hl⟩
 ·unfold AhJ at hso;rcases hc1 with⟨_,_,_,hf⟩|⟨hw,a,hr,hq,hl,hu⟩
  ·rw[hf]at hso;cases hso
  ·rw[hl]at hso;cases a with
   |load h sz i' off n ag=>
    simp only[Lp,zd,List.isEmpty_iff,atL]at hso;obtain⟨⟨hu0,hin⟩,hre⟩:=hso;have hre:=AhS hre;simp only[Aed]at hre;rw[hu]at hu0;subst hu0;have hv:f2.u=v\/v=[]:=by
     rcases hc2 with⟨_,_,hv,_⟩|⟨_,_,_,_,_,hv⟩
     ·exact .inr hv
     ·exact .inl hv
    have hvin:Cn v h≠none:=by
     rcases hv with hv|hv
     ·rw[<-hv];exact Akv hin
     ·rcases hc2 with⟨_,_,_,hf⟩|⟨_,_,_,_,_,hv'⟩
      ·rw[hf]at hin;simp[tx0]at hin
      ·rw[<-hv'];exact Akv hin
    have hv2:f2.u=v:=by
     rcases hv with hv|hv
     ·exact hv
     ·rw[hv]at hvin;exact absurd rfl hvin
    refine⟨⟨put s.F p.dst y,A9 v s.H,s.nm⟩,⟨p,y,v,hp,rfl,hc2⟩,⟨o,x,[],ho, ?_, .inr ⟨?_, .load h sz i' off n ag, ?_, ?_,hl,hu⟩⟩⟩
    ·simp only[A9];rw[Aav _ _ _ k2]
    ·simp only;rw[Ks k3];exact hw
    ·simp only;rw[Yi k3];exact hr
    ·have hq:Ax (s.nm+16*i) (.load h sz i' off n ag) s.H=some (x,f1.ft,[]):=hq;show Ax (s.nm+16*i) (.load h sz i' off n ag) (A9 v s.H)=some (x,f1.ft,[]);have e:look (A9 v s.H) h=look (A9 v []) h:=by
      rw[Cz,Cz];cases hv:Cn v h with
      |none=>exact absurd hv hvin|some b=>rfl
     rw[hv2]at hre;simp only[Ax]at hq⊢;rw[Yt e,hre];cases hla:Gl s.H h sz i' off n ag with
     |none=>rw[hla]at hq;cases hq|some z=>
      rw[hla]at hq;simp only[zj,Prod.mk.injEq]at hq⊢;exact⟨trivial,hq.2.1,trivial⟩
   |_=>simp[Lp]at hso
structure Sim (O:Bt) (I:Im) (s:St) (a:Act) (w:World):Prop where
 frame:RepF O w I s.F a.tmps
 mem:RelH O s.H I w
 defers:a.defers=[]
 free: ∀h,s.nm<=h ->look s.H h=none
structure SimR (un:List Nat) (sz:Nat) (O:Bt) (I:Im) (s:St) (a:Act) (w:World):Prop where
 frame:RepF O w I s.F a.tmps
 mem:RelH O s.H I w
 defers:a.defers=[]
 free: ∀j,j∈un\/sz<=j -> ∀m,m<16 ->look s.H (s.nm+16*j+m)=none
theorem Sim.inside{O:Bt}{I:Im}{s:St}{a:Act}{w:World}(h:Sim O I s a w)(un:List Nat)(sz:Nat):SimR un sz O I s a w:=
 ⟨h.frame,h.mem,h.defers,fun j _ m _=>h.free _ (by omega)⟩
theorem SimR.out{sz:Nat}{O:Bt}{I:Im}{s:St}{a:Act}{w:World}(h:SimR [] sz O I s a w):Sim O I ⟨s.F,s.H,s.nm+16*sz⟩ a w:=
 ⟨h.frame,h.mem,h.defers,fun k hk=>by
  have hk':s.nm+16*sz<=k:=hk;have:=h.free ((k -s.nm)/16) (.inr (by omega)) ((k -s.nm)%16) (Nat.mod_lt _ (by omega));rwa [show s.nm+16*((k -s.nm)/16)+(k -s.nm)%16=k by omega]at this⟩
theorem Aei{O:Bt}{I:Im}{w:World}{F:List AV}{a:Act}{x:AV}{v:Value}(h:RepF O w I F a.tmps)(hx:RepA O w I x v)(dst:Option Nat):RepF O w I (put F dst x) (a.put dst v).tmps:=by
 cases dst with
 |none=>exact h|some d=>
  refine⟨by simp[put,Act.put,h.1],fun i y u h1 h2=> ?_⟩;simp only[put,Act.put]at h1 h2;rw[List.getElem?_set]at h1;rw[Array.getElem?_setIfInBounds]at h2;by_cases hd:d=i
  ·subst hd;simp only[if_true]at h1 h2;split at h1
   ·split at h2
    ·simp at h1 h2;subst h1 h2;exact hx
    ·simp at h2
   ·simp at h1
  ·simp only[hd,if_false]at h1 h2;exact h.2 i y u h1 h2
theorem Lc{O:Bt}{I:Im}{w:World}:RepA O w I (.tup []) undef:=⟨#[],rfl,rfl,fun i p x h=>by simp at h⟩
theorem AdX{O:Bt}{I:Im}{w:World}{rs:List Rf}{vs:List Value}(h:RepRfs O w I rs vs):RepF O w I (rs.map rfA) vs.toArray:=by
 refine⟨by simp[h.1],fun i x v h1 h2=> ?_⟩;simp at h1 h2;obtain⟨r,hr,rfl⟩:=h1;have:=h.2 i r v hr h2;cases r with
 |d x=>exact this|ptr k off=>exact this
theorem Qx{O:Bt}{I:Im}{w:World}{F G:List AV}{us vs:Array Value}(h:RepF O w I F us)(k:RepF O w I G vs):RepF O w I (F++G) (us++vs):=by
 refine⟨by simp[h.1,k.1],fun i x v h1 h2=> ?_⟩;rw[List.getElem?_append]at h1;rw[Array.getElem?_append]at h2;by_cases hi:i<F.length
 ·rw[if_pos hi]at h1;rw[if_pos (h.1▸hi)]at h2;exact h.2 i x v h1 h2
 ·rw[if_neg hi]at h1;rw[if_neg (h.1▸hi)]at h2;exact k.2 _ x v h1 (by rw[h.1];exact h2)
theorem Amy{h off sz:Nat}{n:Int}{len:Nat}{f:FuncId}{l:List AV}:(idxD h off sz n len= .call f l)=False:=by
 unfold idxD;cases Nat.ble len 4<;>simp
theorem Yd{s t:TypeId}{a:Value}{f:FuncId}{l:List AV}:(strB P s t a=some (true, .call f l))=False:=by
 unfold strB;(repeat' split)<;>simp
theorem AiD{op:BinOp}{a b:Value}{s:Option (Bool×Do)}{f:FuncId}{l:List AV}(h:Acv op a b s=some (true, .call f l)):s=some (true, .call f l):=by
 unfold Acv at h;(repeat' split at h)<;>first|exact h|(simp at h)
theorem Ane{O:Bt}{I:Im}{w:World}{ρ:Operand ->AV}{ρv:Operand ->Value}{o:Oper}{f:FuncId}{args:List AV}(hρ: ∀x,RepA O w I (ρ x) (ρv x))(hs:res P o ρ=some (true, .call f args)):
  ∃ vs : Array Value, RepF O w I args vs /\ (execOp ρv o).run P w = (callFunc f vs).run P w /\ ∃ fn, P.funcs[f]? = some fn /\ fn.name ≠ "runtime.NumGoroutine" := by
 have hop: ∃c,o.op= .call c:=by
  obtain⟨dst,op,ty,pos,after,guard⟩:=o;cases op<;>simp only[res]at hs<;>first
   |exact⟨_,rfl⟩|(exfalso;revert hs;(repeat' split)<;>simp[val1,chkD,Amy,Yd];done)|(exfalso;revert hs;(repeat' split)<;>intro hs<;>(try have hs:=AiD hs)<;>revert hs<;>(repeat' split)<;>simp[val1,chkD,Yd]<;>(repeat' split)<;>simp;done)|(exfalso;revert hs;(repeat' split)<;>simp[val1,chkD,Yd]<;>(repeat' split)<;>simp;done)
 obtain⟨dst,op,ty,pos,after,guard⟩:=o;obtain⟨c,hc⟩:=hop;simp only at hc;subst hc;have cal : ∀ {f : FuncId}, M8 P f = true -> ∃ fn, P.funcs[f]? = some fn /\ fn.name ≠ "runtime.NumGoroutine" := by
  intro f hf;unfold M8 at hf;split at hf
  ·rename_i fn hfn;exact⟨fn,hfn,by simpa using hf⟩
  ·simp at hf
 have ea:(c.args.toList.map ρv).toArray=c.args.map ρv:=by apply Array.ext';simp
 simp only[res]at hs;split at hs
 ·rename_i g hcal;split at hs
  ·rename_i f' hg;split at hs
   ·rename_i hb;simp at hs;obtain⟨rfl,rfl⟩:=hs;have e:=A7 hg (hρ g);refine⟨c.args.map ρv,by rw[<-ea];exact Aaq hρ, ?_,cal hb⟩;simp[execOp,resolve,hcal,e,Deferred.ofValue,invoke]
   ·simp at hs
  ·rename_i f' a' b' hg;split at hs
   ·rename_i hb;simp at hs;obtain⟨rfl,rfl⟩:=hs;have hv:=hρ g;rw[hg]at hv;obtain⟨fs,cs,e,h1,h2⟩:=hv;refine⟨fs++c.args.map ρv++cs, ?_, ?_,cal hb⟩
    ·have:=Qx (Qx (AdX h1) (Aaq (l:=c.args.toList) hρ)) (AdX h2);rw[ea]at this;simpa using this
    ·simp[execOp,resolve,hcal,e,Deferred.ofValue,invoke]
   ·simp at hs
  ·simp at hs
 all_goals (exfalso;revert hs;(repeat' split)<;>simp<;>(repeat' split)<;>simp)
end
section
variable {P:Program}{ops:Array Oper}
theorem G1{i:Nat}{s s':St}{ft:Tx}{un un':List Nat}{sz:Nat}{O:Bt}{I:Im}{a:Act}{w:World}{Q:Exit ->Act ->World ->Prop}{K:Act ->World ->Prop}
  (hst:StepR P ops i s ft s') (hsim:SimR un sz O I s a w) (hi:i∈un) (hisz:i<sz) (hun: ∀j∈un',j∈un/\j≠i) (hK: ∀O' I' a' w',SimR un' sz O' I' s' a' w' ->Ext O I O' I' w w' ->Mono O O' ->K a' w'):wpOp P ops Q i K a w:=by
 obtain⟨o,x,u,ho,rfl,hcase⟩:=hst;unfold wpOp;simp only[ho];have hdef: ∀v,(a.put o.dst v).defers=[]:=fun v=>by cases o.dst<;>exact hsim.defers
 rcases hcase with⟨hw,rfl,rfl,rfl⟩|⟨hw,d,hres,hperf,_,_⟩
 ·rw[Qk hsim.mem.gl hsim.frame hw];simp only[Bool.false_eq_true,if_false];exact hK O I _ w ⟨Aei hsim.frame Lc _,hsim.mem,hdef _,fun j hj m hm=>hsim.free j (hj.imp (fun h=>(hun j h).1) id) m hm⟩ (.refl _ _ _) (.refl _)
 ·rw[Qk hsim.mem.gl hsim.frame hw];simp only[if_true];left;unfold Oper.wp;have hfree: ∀j,j∈un'\/sz<=j -> ∀m,m<16 ->look (A9 u s.H) (s.nm+16*j+m)=none:=fun j hj m hm=>by
   have hji:j≠i:=by
    rcases hj with h1|h1
    ·exact(hun j h1).2
    ·omega
   have h0:=hsim.free j (hj.imp (fun h=>(hun j h).1) id) m hm;rw[Cr ?_]
   ·exact h0
   ·intro hmem;rcases hperf.spec.2.1 _ hmem with h1|h1
    ·omega
    ·exact h1 h0
  have fin: ∀(v:Value) (w':World) (O':Bt) (I':Im),RelH O' (A9 u s.H) I' w' ->RepA O' w' I' x v ->Ext O I O' I' w w' ->Mono O O' ->K (a.put o.dst v) w':=
   fun v w' O' I' h1 h2 h3 h4=>hK O' I' _ w' ⟨Aei (hsim.frame.keep (h3.keep h4)) h2 _,h1,hdef _,hfree⟩ h3 h4
  by_cases hcall: ∃f args,d= .call f args
  ·obtain⟨f,args,rfl⟩:=hcall;obtain⟨L,r,Hr,hL,hcx,rfl,_,rfl⟩:=hperf;obtain⟨vs,hvs,hrun,fn,hfn,hname⟩:=Ane (P:=P) (w:=w) (ρv:=a.eval) (fun x=>Ms hsim.mem.gl hsim.frame x) hres;rw[hrun];obtain⟨hc1,hc2⟩:=Anf hsim.mem hL hvs;have hnew: ∀j,j<16 ->look s.H (s.nm+16*i+j)=none:=hsim.free i (.inl hi);unfold CX at hcx;rw[hfn]at hcx;simp only at hcx;split at hcx
   ·obtain⟨v,w',Oc,I',hr,h1,h2,h3,h4⟩:=hcx _ I w vs hc1 hc2;obtain⟨O',k1,k2,k3,k4⟩:=Abb hsim.mem hL hnew h1 h2 h3 h4;rw[hr];simp only[Oper.upon];exact fin v w' O' I' k1 k2 k3 k4
   ·rename_i hb;have hb':fn.body≠none:=fun e=>hb (by simp[e])
    have hen:(callFunc f vs).run P w= .ok (.enter f vs) w:=by simp[callFunc,hfn,hname,hb']
    rw[hen];simp only[Oper.upon];refine(hcx _ I w vs hc1 hc2).mono ?_;rintro e w' ⟨v,Oc,I',rfl,h1,h2,h3,h4⟩;obtain⟨O',k1,k2,k3,k4⟩:=Abb hsim.mem hL hnew h1 h2 h3 h4;exact fin v w' O' I' k1 k2 k3 k4
  ·have hp:Ax (s.nm+16*i) d s.H=some (x,ft.ft,u):=by
    cases d with
    |call f args=>exact absurd ⟨f,args,rfl⟩ hcall|_=>exact hperf
   have hnew:=hsim.free i (.inl hi) 0 (by omega);obtain⟨nx,w',O',I',hrun,hnx,hrel,hext,hm⟩:=ApK (P:=P) (ρv:=a.eval) hnew (fun x=>Ms hsim.mem.gl hsim.frame x) hsim.mem hres hp;rw[hrun];rcases hnx with⟨v,rfl,hx⟩|⟨rfl,rfl⟩
   ·simp only[Oper.upon];exact fin v w' O' I' hrel hx hext hm
   ·simp only[Oper.upon];exact fin undef w' O' I' hrel Lc hext hm
def RunR(P:Program)(ops:Array Oper):List Nat ->St ->List (Nat×Tx) ->St ->Prop
 |[],s,tr,s'=>tr=[]/\s'=s|i::rest,s,tr,s'=> ∃act s1 tr',StepR P ops i s act s1/\RunR P ops rest s1 tr' s'/\tr=(i,act)::tr'
theorem RunR.nm: ∀{l:List Nat} {s s':St} {tr:List (Nat×Tx)},RunR P ops l s tr s' ->s'.nm=s.nm
 |[],s,s',tr,h=>by obtain⟨_,rfl⟩:=h;rfl
 |i::rest,s,s',tr,h=>by obtain⟨act,s1,tr',hst,hr,_⟩:=h;rw[hr.nm,hst.nm]
theorem AjL{sz:Nat}{Q:Exit ->Act ->World ->Prop}: ∀(l:List Nat) {s s':St} {tr:List (Nat×Tx)} {O:Bt} {I:Im} {a:Act} {w:World},l.Nodup ->(∀j∈l,j<sz) ->
  RunR P ops l s tr s' ->SimR l sz O I s a w ->(∀O' I' a' w',SimR [] sz O' I' s' a' w' ->Ext O I O' I' w w' ->Mono O O' ->Q .normal a' w') ->wpOps P ops Q l a w
 |[],s,s',tr,O,I,a,w,_,_,h,hsim,hQ=>by
  obtain⟨_,rfl⟩:=h;exact hQ O I a w hsim (.refl _ _ _) (.refl _)
 |i::rest,s,s',tr,O,I,a,w,hnd,hsz,h,hsim,hQ=>by
  obtain⟨act,s1,tr',hst,hrest,_⟩:=h;rw[wpOps_cons];have hni:=(List.nodup_cons.1 hnd).1;exact G1 hst hsim (by simp) (hsz i (by simp)) (un':=rest) (fun j hj=>⟨by simp[hj],fun e=>hni (e▸hj)⟩) fun O1 I1 a1 w1 hs1 he1 hm1=>
   AjL rest (List.nodup_cons.1 hnd).2 (fun j hj=>hsz j (by simp[hj])) hrest hs1 fun O2 I2 a2 w2 hs2 he2 hm2=>hQ O2 I2 a2 w2 hs2 (he1.trans he2) (hm1.trans hm2)
theorem S6: ∀(A:List Nat) {i:Nat} {B:List Nat} {s s':St} {tr:List (Nat×Tx)},RunR P ops (A++i::B) s tr s' ->
  ∃trA act trB,tr=trA++(i,act)::trB/\trA.map (·.1)=A/\((∀x∈trA,Lv ops x (i,act)=true) -> ∃s1,StepR P ops i s act s1/\RunR P ops (A++B) s1 (trA++trB) s')
 |[],i,B,s,s',tr,h=>by
  obtain⟨act,s1,tr',hst,hr,rfl⟩:=h;exact⟨[],act,tr',rfl,rfl,fun _=>⟨s1,hst,hr⟩⟩
 |a::A,i,B,s,s',tr,h=>by
  obtain⟨act0,s0,tr',hst0,hr,rfl⟩:=h;obtain⟨trA,act,trB,rfl,hmap,himp⟩:=S6 A hr;refine⟨(a,act0)::trA,act,trB,rfl,by simp[hmap],fun hind=> ?_⟩;obtain⟨s1,hst1,hr1⟩:=himp fun x hx=>hind x (by simp[hx])
  obtain⟨t,ht1,ht2⟩:=Adt hst0 hst1 (hind (a,act0) (by simp));exact⟨t,ht1,act0,s1,trA++trB,ht2,hr1,rfl⟩
theorem Pl{ms:List Nat}: ∀{A:List (Nat×Tx)} {x:Nat×Tx} {B:List (Nat×Tx)},B1 ops ms (A++x::B)=true ->
  B1 ops ms (A++B)=true/\ ∀y∈A,((ms.getD x.1 0).testBit y.1||Lv ops y x)=true
 |[],x,B,h=>by simp only[List.nil_append,B1,zd]at h;exact⟨h.2,fun y hy=>by simp at hy⟩
 |y::A,x,B,h=>by
  simp only[List.cons_append,B1,zd]at h;obtain⟨h1,h2⟩:=Pl h.2;have h3:=List.all_eq_true.1 h.1;refine⟨?_,fun z hz=> ?_⟩
  ·simp only[List.cons_append,B1,zd];exact⟨List.all_eq_true.2 fun z hz=>h3 z (by simp at hz⊢;rcases hz with hz|hz<;>simp[hz]),h1⟩
  ·simp at hz;rcases hz with rfl|hz
   ·exact h3 x (by simp)
   ·exact h2 z hz
theorem Yr{listed:Array Bool}{acc:List Nat}(hacc: ∀(j i:Nat),(∀o e,ops[j]? =some o ->e∈o.after ->Region.binds .any e=true ->listed.getD e.on false=true) ->(acc.getD j 0).testBit i=true ->listed.getD i false=true)
  (hcl: ∀(j:Nat) o e,listed.getD j false=true ->ops[j]? =some o ->e∈o.after ->Region.binds .any e=true ->listed.getD e.on false=true)
  {o:Oper} (hpre: ∀e∈o.after,Region.binds .any e=true ->listed.getD e.on false=true) {i:Nat} (h:(mask acc o).testBit i=true):listed.getD i false=true:=by
 unfold mask at h;have key: ∀(l:List Edge) (s:Nat),(∀e∈l,Region.binds .any e=true ->listed.getD e.on false=true) ->(s.testBit i=true ->listed.getD i false=true) ->
  (l.foldl (fun s e=>bif Region.binds .any e then s|||(2^e.on|||acc.getD e.on 0)else s) s).testBit i=true ->listed.getD i false=true:=by
  intro l
  induction l with
  |nil=>intro s _ hs h;exact hs h|cons e l ih=>
   intro s hl hs h
   simp only[List.foldl_cons]at h
   refine ih _ (fun e' he'=>hl e' (by simp[he'])) ?_ h
   cases hb:Region.binds .any e with
   |false=>simpa[hb]using hs|true=>
    intro ht
    simp only[za,Nat.testBit_or,Bool.or_eq_true]at ht
    have hon:=hl e (by simp) hb
    rcases ht with h1|h1|h1
    ·exact hs h1
    ·rw[Nat.testBit_two_pow]at h1
     have:e.on=i:=by simpa using h1
     rw[<-this];exact hon
    ·exact hacc e.on i (fun o' e' ho' he' hb'=>hcl e.on o' e' hon ho' he' hb') h1
 exact key o.after.toList 0 (fun e he=>hpre e (by simpa using he)) (fun h=>by simp at h) h
theorem Pe{listed:Array Bool}(hcl: ∀(j:Nat) o e,listed.getD j false=true ->ops[j]? =some o ->e∈o.after ->Region.binds .any e=true ->listed.getD e.on false=true):
  ∀(l:List Oper) (acc:List Nat),(∀(k:Nat) o,l[k]? =some o ->ops[acc.length+k]? =some o) ->
   (∀(j i:Nat),(∀o e,ops[j]? =some o ->e∈o.after ->Region.binds .any e=true ->listed.getD e.on false=true) ->(acc.getD j 0).testBit i=true ->listed.getD i false=true) ->
   ∀(j i:Nat),(∀o e,ops[j]? =some o ->e∈o.after ->Region.binds .any e=true ->listed.getD e.on false=true) ->((Ky l acc).getD j 0).testBit i=true ->listed.getD i false=true
 |[],acc,_,hacc=>hacc|o::r,acc,hops,hacc=>by
  refine Pe hcl r (acc++[mask acc o]) (fun k o' hk=> ?_) ?_
  ·have:=hops (k+1) o' (by simpa using hk);rw[List.length_append,List.length_singleton,Nat.add_assoc,Nat.add_comm 1 k];exact this
  ·intro j i hj h;rw[List.getD]at h;by_cases hlt:j<acc.length
   ·refine hacc j i hj ?_;rw[List.getElem?_append_left hlt]at h;rw[List.getD];exact h
   ·rw[List.getElem?_append_right (by omega)]at h;rcases Nat.eq_zero_or_pos (j -acc.length)with h0|h0
    ·rw[h0]at h;have hj0:j=acc.length:=by omega
     have ho:ops[j]? =some o:=by rw[hj0];exact hops 0 o (by simp)
     exact Yr hacc hcl (fun e he hb=>hj o e ho he hb) (by simpa using h)
    ·rw[List.getElem?_eq_none (by simp;omega)]at h;simp at h
theorem Aps{Q:Exit ->Act ->World ->Prop}(hdown:Db ops=true): ∀(fuel:Nat) (R:List Nat) {listed:Array Bool} {s s':St} {tr:List (Nat×Tx)} {O:Bt} {I:Im} {a:Act} {w:World},
  R.length<=fuel ->R.Pairwise (·<·) ->(∀j,j∈R↔listed.getD j true=false) ->(∀j,listed.getD j false=true\/listed.getD j true=false\/ops.size<=j) ->(∀j∈R,j<ops.size) ->
  (∀(j:Nat) o e,listed.getD j false=true ->ops[j]? =some o ->e∈o.after ->Region.binds .any e=true ->listed.getD e.on false=true) ->
  RunR P ops R s tr s' ->B1 ops (Ky ops.toList []) tr=true ->SimR R ops.size O I s a w ->(∀O' I' a' w',SimR [] ops.size O' I' s' a' w' ->Ext O I O' I' w w' ->Mono O O' ->Q .normal a' w') ->wpAny P .any ops Q fuel listed a w:=by
 have hd: ∀(j:Nat) o e,ops[j]? =some o ->e∈o.after ->Region.binds .any e=true ->e.on<j:=by
  intro j o e ho he hb;have h1:=List.all_eq_true.1 hdown (o,j) (by
   rw[List.mem_zipIdx_iff_getElem?];simpa using ho)
  have h2:=List.all_eq_true.1 h1 e (by simpa using he);simpa[hb]using h2
 have headReady: ∀(i:Nat) (R:List Nat) (listed:Array Bool) {s s':St} {tr:List (Nat×Tx)},(i::R).Pairwise (·<·) ->(∀j,j∈i::R↔listed.getD j true=false) ->(∀j,listed.getD j false=true\/listed.getD j true=false\/ops.size<=j) ->
  RunR P ops (i::R) s tr s' ->i∈Region.ready .any ops listed:=by
  intro i R listed s s' tr hs hR hall hr
  obtain⟨act,s1,tr',⟨o,_,_,ho,_⟩,_,_⟩:=hr
  refine mem_ready.2 ⟨(hR i).1 (by simp),o,ho,fun e he hb=> ?_⟩
  have hlt:=hd i o e ho he hb
  rcases hall e.on with h1|h1|h1
  ·exact h1
  ·have hm:=(hR e.on).2 h1
   simp at hm
   rcases hm with h2|h2
   ·omega
   ·have:=List.rel_of_pairwise_cons hs h2;omega
  ·have:=(Array.getElem?_eq_some_iff.1 ho).1;omega
 intro fuel;induction fuel with
 |zero=>
  intro R listed s s' tr O I a w hlen hs hR hall hsz hcl hr hcm hsim hQ;have:R=[]:=List.eq_nil_of_length_eq_zero (by omega);subst this;obtain⟨_,rfl⟩:=hr;refine⟨?_,hQ O I a w hsim (.refl _ _ _) (.refl _)⟩;apply List.eq_nil_iff_forall_not_mem.2;intro i hi;have:=(hR i).2 (mem_ready.1 hi).1;simp at this
 |succ fuel ih=>
  intro R listed s s' tr O I a w hlen hs hR hall hsz hcl hr hcm hsim hQ;refine⟨fun hnil=> ?_,fun i hi=> ?_⟩
  ·cases R with
   |nil=>obtain⟨_,rfl⟩:=hr;exact hQ O I a w hsim (.refl _ _ _) (.refl _)
   |cons i R=>have:=headReady i R listed hs hR hall hr;rw[hnil]at this;simp at this
  ·obtain⟨hun,o,ho,hpre⟩:=mem_ready.1 hi;have hmem:=(hR i).2 hun;obtain⟨A,B,rfl⟩:=List.append_of_mem hmem;obtain⟨trA,act,trB,rfl,hmap,himp⟩:=S6 A hr;obtain⟨hcm',hpair⟩:=Pl hcm;have hreach: ∀x∈trA,((Ky ops.toList []).getD i 0).testBit x.1=false:=by
    intro x hx;cases hre:((Ky ops.toList []).getD i 0).testBit x.1 with
    |false=>rfl|true=>
     have hl:=Pe hcl ops.toList [] (fun k o' hk=>by simpa using hk) (fun j i' _ h=>by simp at h) i x.1 (fun o' e ho' he hb=>by rw[ho]at ho';simp at ho';subst ho';exact hpre e he hb) hre;have hxA:x.1∈A:=by rw[<-hmap];exact List.mem_map_of_mem hx
     have hxu:=(hR x.1).1 (by simp[hxA]);rcases Nat.lt_or_ge x.1 listed.size with h'|h'
     ·simp[h']at hl hxu;rw[hl]at hxu;cases hxu
     ·simp[Array.getElem?_eq_none h']at hl
   obtain⟨s1,hst,hr'⟩:=himp fun x hx=>by have:=hpair x hx;rw[hreach x hx]at this;simpa using this
   have hisz:i<listed.size:=by
    rcases Nat.lt_or_ge i listed.size with h'|h'
    ·exact h'
    ·simp[Array.getElem?_eq_none h']at hun
   have hnot:i∉A++B:=by
    intro hm;simp at hm;have hp:=List.pairwise_append.1 hs;rcases hm with hm|hm
    ·have:=hp.2.2 i hm i (by simp);omega
    ·have:=List.rel_of_pairwise_cons hp.2.1 hm;omega
   refine G1 hst hsim hmem (hsz i hmem) (un':=A++B) (fun j hj=>⟨by simp at hj⊢;rcases hj with h1|h1<;>simp[h1],fun e=>hnot (e▸hj)⟩) fun O1 I1 a1 w1 hs1 he1 hm1=>ih (A++B) (listed:=listed.setIfInBounds i true) ?_ ?_ ?_ ?_ ?_ ?_ hr' hcm' hs1 fun O2 I2 a2 w2 hs2 he2 hm2=>hQ O2 I2 a2 w2 hs2 (he1.trans he2) (hm1.trans hm2)
   ·simp at hlen⊢;omega
   ·exact hs.sublist (by simp)
   ·intro j;by_cases hji:j=i
    ·subst hji;simp[hnot,hisz]
    ·rw[getD_set_ne true (Ne.symm hji),<-hR j];simp[hji]
   ·intro j;by_cases hji:j=i
    ·subst hji;left;simp[hisz]
    ·rw[getD_set_ne true (Ne.symm hji),getD_set_ne false (Ne.symm hji)];exact hall j
   ·intro j hj;exact hsz j (by simp at hj⊢;rcases hj with h1|h1<;>simp[h1])
   ·intro j o' e hj ho' he hb;by_cases hji:j=i
    ·subst hji;rw[ho]at ho';simp at ho';subst ho';exact getD_set_true (hpre e he hb)
    ·rw[getD_set_ne false (Ne.symm hji)]at hj;exact getD_set_true (hcl j o' e hj ho' he hb)
end
section
variable {O:Bt}{I:Im}{w:World}{H:Hp}
theorem J7(H:Hp): ∀(n:Nat) (l acc:List Nat),acc.Nodup ->(AbU n H l acc).Nodup
 |0,l,acc,h1=>h1|n+1,[],acc,h1=>h1|n+1,h::r,acc,h1=>by
  simp only[AbU];cases hc:acc.contains h with
  |true=>exact J7 H n r acc h1|false=>
   have hn:=Dc hc;simp only[zb];split
   ·rename_i b hb;refine J7 H n _ _ ?_;rw[List.nodup_append];exact⟨h1,by simp,fun x hx y hy=>by simp at hy;subst hy;exact fun e=>hn (e▸hx)⟩
   ·exact J7 H n r acc h1
def Gs(O:Bt)(k0:Nat)(L:List Nat):Bt:=fun k=>if k<k0 then O k else match L[k -k0]? with|some h=>O h|none=> .free
def MonoK(k0:Nat)(O O':Bt):Prop:= ∀h,h<k0 ->O h≠ .free ->O' h=O h\/O' h= .dead
theorem Mono.toK{O':Bt}(h:Mono O O')(k0:Nat):MonoK k0 O O':=fun _ _ hf=>h.stays hf
theorem MonoK.refl(k0:Nat)(O:Bt):MonoK k0 O O:=fun _ _ _=> .inl rfl
theorem MonoK.trans{k0:Nat}{O1 O2:Bt}(h:MonoK k0 O O1)(k:MonoK k0 O1 O2):MonoK k0 O O2:=fun x hx hf=>by
 rcases h x hx hf with e|e
 ·rw[<-e];exact k x hx (by rw[e];exact hf)
 ·rcases k x hx (by rw[e];exact fun e=>by cases e)with e'|e'
  ·exact .inr (e'.trans e)
  ·exact .inr e'
theorem MonoK.ne{k0:Nat}{O1:Bt}(h:MonoK k0 O O1)(hf: ∀x,x<k0 ->O x≠ .free): ∀x,x<k0 ->O1 x≠ .free:=fun x hx=>by
 rcases h x hx (hf x hx)with e|e
 ·rw[e];exact hf x hx
 ·rw[e];exact fun e=>by cases e
theorem Jh{k0:Nat}{L:List Nat}(k:Nat):(List.range k0++L)[k]? =if k<k0 then some k else L[k -k0]?:=by
 rw[List.getElem?_append];simp only[List.length_range];by_cases h:k<k0
 ·simp[h]
 ·simp[h]
theorem Hb(k0:Nat)(L:List Nat): ∀h k,newN k0 L h=some k ->Gs O k0 L k=O h:=fun h k hk=>by
 unfold newN at hk;rw[bltD]at hk;by_cases hh:h<k0
 ·simp[hh]at hk;subst hk;simp[Gs,hh]
 ·simp[hh]at hk;obtain⟨h1,h2⟩:=Em hk;have: ¬k<k0:=by omega
  simp only[Gs,this,if_false,h2]
theorem Rn{k0:Nat}{L:List Nat}(h:RelH O H I w)(hk: ∀x,x<k0 ->O x≠ .free)(hnd:L.Nodup)(hL: ∀x∈L,k0<=x/\look H x≠none):
  RelH (Gs O k0 L) (Km k0 H L) I w/\Ext O I (Gs O k0 L) I w w/\MonoK k0 O (Gs O k0 L):=by
 have lo: ∀{k},k<k0 ->Gs O k0 L k=O k:=fun h=>by simp[Gs,h]
 have hi: ∀{k h},¬k<k0 ->L[k -k0]? =some h ->Gs O k0 L k=O h:=fun h1 h2=>by simp only[Gs,h1,if_false,h2]
 have no: ∀{k},¬k<k0 ->L[k -k0]? =none ->Gs O k0 L k= .free:=fun h1 h2=>by simp only[Gs,h1,if_false,h2]
 have get: ∀{k b},(Gs O k0 L k).blk=some b -> ∃x,(List.range k0++L)[k]? =some x/\(O x).blk=some b:=fun{k b} hb=>by
  rw[Jh];by_cases h1:k<k0
  ·rw[lo h1]at hb;exact⟨k,by simp[h1],hb⟩
  ·cases h2:L[k -k0]? with
   |none=>rw[no h1 h2]at hb;cases hb|some x=>rw[hi h1 h2]at hb;exact⟨x,by simp[h1],hb⟩
 have nd:(List.range k0++L).Nodup:=by
  rw[List.nodup_append];exact⟨List.nodup_range,hnd,fun x hx y hy e=>by simp at hx;have:=(hL y hy).1;omega⟩
 refine⟨⟨⟨?_, ?_, ?_,h.old,h.gl⟩, ?_, ?_⟩,⟨rfl,rfl,rfl,Nat.le_refl _,fun _ _ _=>rfl,fun _ _ hi=>hi,fun _ _ _=>rfl,fun _ _ hi=> .inl hi,fun k b hb=> ?_, .refl w⟩,fun x hx _=> .inl (lo hx)⟩
 ·intro i j b hbi hbj;obtain⟨x,hx,hxb⟩:=get hbi;obtain⟨y,hy,hyb⟩:=get hbj;have:=h.inj x y b hxb hyb;subst this;exact Q7 nd hx hy
 ·intro k b hb;obtain⟨x,_,hxb⟩:=get hb;exact h.lt x b hxb
 ·intro k b o hb;obtain⟨x,_,hxb⟩:=get hb;exact h.off x b o hxb
 ·intro k hk';unfold Km at hk';rw[Fa]at hk';simp only[Nat.zero_le,if_true,Nat.sub_zero,Option.map_eq_none_iff]at hk';rw[Jh]at hk';by_cases h1:k<k0
  ·simp[h1]at hk'
  ·simp[h1]at hk';exact no h1 (by simpa using hk')
 ·intro k B hB;unfold Km at hB;rw[Fa]at hB;simp only[Nat.zero_le,if_true,Nat.sub_zero,Option.map_eq_some_iff]at hB;obtain⟨x,hx,rfl⟩:=hB;have hne:look H x≠none:=by
   rw[Jh]at hx;by_cases h1:k<k0
   ·simp[h1]at hx;subst hx;exact fun e=>hk k h1 (h.dom k e)
   ·simp[h1]at hx;exact(hL x (List.mem_of_getElem? hx)).2
  obtain⟨B,hB⟩:=Option.ne_none_iff_exists'.1 hne;rw[show Ra H x=B by simp[Ra,hB]];refine(h.blk x B hB).ren (Hb k0 L) ?_;rw[Jh]at hx;by_cases h1:k<k0
  ·simp[h1]at hx;subst hx;exact lo h1
  ·simp[h1]at hx;exact hi h1 hx
 ·obtain⟨x,_,hxb⟩:=get hb;exact .inl ⟨x,hxb⟩
theorem Q8(k0:Nat)(H:Hp)(roots:List Nat):(newL k0 H roots).Nodup/\ ∀x∈newL k0 H roots,k0<=x/\look H x≠none:=by
 refine⟨(J7 H Aco _ [] (by simp)).filter _,fun x hx=> ?_⟩;unfold newL at hx;rw[List.mem_filter]at hx;simp only[zd]at hx;refine⟨Nat.le_of_ble_eq_true hx.2.1,fun e=> ?_⟩;have:=hx.2.2;simp[ApE,e]at this
theorem Ze{k0:Nat}{L:List Nat}(h:Nat)(hh:k0+L.length<=h):look (Km k0 H L) h=none:=by
 unfold Km;rw[Fa];simp only[Nat.zero_le,if_true,Nat.sub_zero,Option.map_eq_none_iff];rw[Jh];have: ¬h<k0:=by omega
 simp only[this,if_false];exact List.getElem?_eq_none (by omega)
theorem Wr(l:List Nat): ∀(F:List AV) (j i:Nat) (x:AV),(Ul l j F)[i]? =some x ->F[i]? =some x\/x= .u
 |[],j,i,x,h=>by simp[Ul]at h|y::F,j,i,x,h=>by
  simp only[Ul]at h;cases i with
  |zero=>simp at h;cases hc:l.contains j<;>simp_all|succ i=>simp at h;simpa using Wr l F (j+1) i x h
theorem Wq(l:List Nat): ∀(F:List AV) (j:Nat),(Ul l j F).length=F.length
 |[],j=>rfl|y::F,j=>by simp[Ul,Wq l F (j+1)]
theorem Afa{F:List AV}{vs:Array Value}(h:RepF O w I F vs)(l:List Nat):RepF O w I (Ul l 0 F) vs:=by
 refine⟨by rw[Wq];exact h.1,fun i x v h1 h2=> ?_⟩;rcases Wr l F 0 i x h1 with h3|rfl
 ·exact h.2 i x v h3 h2
 ·trivial
theorem AlZ{h0 sz:Nat}{t:TypeId}{c c':C}{u:Ups}{v:Value}(h:RelH O H I w)(hn:O h0= .free)(hc:RepC O w I c v)(ho:ownC H h0 sz t c=some (c',u)):
  ∃O' I',RelH O' (A9 u H) I' w/\RepC O' w I' c' v/\Ext O I O' I' w w/\Mono O O'/\ ∀k∈u.map (·.1),k=h0\/look H k≠none:=by
 unfold ownC at ho;split at ho
 ·cases hz:Nat.blt 0 sz with
  |false=>rw[hz]at ho;cases ho|true=>
   rw[hz]at ho;simp only[za,zj,Prod.mk.injEq]at ho;obtain⟨rfl,rfl⟩:=ho;have hv:=RepD.v_eq hc;subst hv;have hz':0<sz:=by rw[bltD]at hz;simpa using hz
   have hpl:Place (setB O h0 (.row none 0)) I w:=by
    have get: ∀{x b},(setB O h0 (.row none 0) x).blk=some b ->(O x).blk=some b:=fun{x b} hx=>by
     by_cases e:x=h0
     ·subst e;rw[Ak]at hx;cases hx
     ·rw[Bo e]at hx;exact hx
    exact⟨fun i j b hi hj=>h.inj i j b (get hi) (get hj),fun x b hx=>h.lt x b (get hx),fun x b o hx=>h.off x b o (get hx),h.old,h.gl⟩
   have hk:Keep O I w (setB O h0 (.row none 0)) I w:=⟨.set hn _,fun _ _ hi=>hi,fun _ _ _=>rfl, .refl w⟩;refine⟨setB O h0 (.row none 0),I,h.step hpl hk (fun x hx=> ?_) (fun x B hx=> ?_), .inl ⟨rfl,rfl, .inr ⟨0,Ak _ _ _⟩⟩,⟨rfl,rfl,rfl,Nat.le_refl _,fun _ _ _=>rfl,fun _ _ hi=>hi,fun _ _ _=>rfl,fun _ _ hi=> .inl hi,fun x b hb=> ?_, .refl w⟩, .set hn _,fun k hk=>by simp at hk;exact .inl hk⟩
   ·rw[Cm]at hx;split at hx
    ·simp at hx
    ·rename_i e;exact⟨Bo e,fun _ _=>rfl⟩
   ·rw[Cm]at hx;split at hx
    ·rename_i e;simp at hx;subst hx e;exact⟨hz', .inl ⟨Ak _ _ _,rfl⟩⟩
    ·simp at hx
   ·by_cases e:x=h0
    ·subst e;rw[Ak]at hb;cases hb
    ·rw[Bo e]at hb;exact .inl ⟨x,hb⟩
 ·rename_i k sz' len;split at ho
  ·simp at ho;obtain⟨rfl,rfl⟩:=ho;exact⟨O,I,h,hc, .refl _ _ _, .refl _,fun k hk=>by simp at hk⟩
  ·rename_i cs t' hl;cases hb:(Nat.beq sz' sz&&Nat.beq t' t)with
   |false=>rw[hb]at ho;cases ho|true=>
    rw[hb]at ho;simp only[za]at ho;simp only[zd]at hb;have e1:=zg hb.1;have e2:=zg hb.2;subst e1 e2;split at ho
    ·rename_i ds ks hf;cases hd:(Nat.beq ds.length (len*sz')&& !(ks.contains k)&&Nat.blt 0 sz')with
     |false=>rw[hd]at ho;cases ho|true=>
      rw[hd]at ho;simp only[za,zj,Prod.mk.injEq]at ho;obtain⟨rfl,rfl⟩:=ho;simp only[zd,Bool.not_eq_true']at hd;obtain⟨⟨d1,d2⟩,d3⟩:=hd;have d1:=zg d1;have d2:=Dc d2;have d3:0<sz':=by rw[bltD]at d3;simpa using d3
      obtain⟨b,cap,vs,hbk,rfl,hheap,hsz,hle,hcv⟩:=Qv h hl hc;have hbe:O k= .at b:=by
       obtain⟨b',vs',hb',_⟩:=h.blk k _ hl;rw[hb']at hbk;cases hbk;exact hb'
      have hcl:len*sz'<=(cs.take (len*sz')).length ->len*sz'<=cs.length:=fun hh=>by simp at hh;omega
      have hmul:len*sz'<=cap*sz':=Nat.mul_le_mul_right sz' hle;have hrc:RepCs O w I (cs.take (len*sz')) (vs.toList.take (cs.take (len*sz')).length):=by
       refine⟨by simp;omega,fun i c v h1 h2=> ?_⟩;rw[List.getElem?_take]at h1 h2;split at h1
       ·split at h2
        ·exact hcv i c v h1 (by simpa using h2)
        ·simp at h2
       ·simp at h1
      obtain⟨hks,hfr⟩:=F5 h 400 _ _ _ _ hf hrc;have hxs:=hfr (Ce O I ks) (fun _ _ hi=> .inl hi) (fun k' hk' b hb o=> .inr ⟨k',hk',hb⟩);have hkf:O k≠ .free:=by rw[hbe];exact fun e=>by cases e
      have hall: ∀q∈[k]++ks,O q≠ .free:=fun q hq=>by
       simp at hq;rcases hq with rfl|hq
       ·exact hkf
       ·exact hks q hq
      have hn0:h0∉[k]:=fun hm=>by simp at hm;subst hm;exact hkf hn
      have hn1:h0∉k::ks:=fun hm=>hall h0 (by simpa using hm) hn
      have hmono:=K7 (ks:=ks) (die:=[k]) hn hall (.row (some b) len);have hplace:=Jy (ks:=ks) (die:=[k]) h.toPlace hn0 (.row (some b) len) w (fun _ _ _=>rfl) (Nat.le_refl _) (fun b' hb'=>by cases hb';exact⟨h.lt k b hbk, .inr ⟨k,by simp,hbk⟩⟩) (fun q hq=>by simp at hq;subst hq;exact d2);have hkeep:Keep O I w (setB (Bp O ([k]++ks)) h0 (.row (some b) len)) (Ce O I ks) w:=⟨hmono,fun _ _ hi=> .inl hi,fun _ _ _=>rfl, .refl w⟩;refine⟨_,Ce O I ks,h.step hplace hkeep (fun x hx=> ?_) (fun x B hx=> ?_), ?_,⟨rfl,rfl,rfl,Nat.le_refl _,fun _ _ _=>rfl,fun _ _ hi=> .inl hi,fun _ _ _=>rfl,fun b o hi=> ?_,fun x b' hb'=> ?_, .refl w⟩,hmono,fun q hq=> ?_⟩
      ·rw[Bl hn1]at hx;split at hx
       ·simp at hx
       ·rename_i e1;split at hx
        ·simp at hx
        ·rename_i e2;exact⟨by rw[Bo e2];simp only[Bp,List.cons_append,List.nil_append,e1,if_false],fun _ _=>rfl⟩
      ·rw[Bl hn1]at hx;split at hx
       ·rename_i e1;simp at hx;subst hx;have hne:x≠h0:=fun e=>hn1 (e▸e1)
        show setB _ _ _ x= .dead;rw[Bo hne];simp only[Bp,List.cons_append,List.nil_append,e1,if_true]
       ·split at hx
        ·rename_i e2;simp at hx;subst hx e2;refine⟨d3, .inr ⟨b,vs,Ak _ _ _,hheap,by omega,fun i hi=>⟨Md d1 hi,fun j d hd=> ?_⟩⟩⟩;obtain⟨_,hd'⟩:=Jr hd;have hlt:i*sz'+j<(vs.toList.take (cs.take (len*sz')).length).length:=by rw[<-hxs.1];exact(List.getElem?_eq_some_iff.1 hd').1
         have hg:(vs.toList.take (cs.take (len*sz')).length)[i*sz'+j]? =some ((vs.toList.take (cs.take (len*sz')).length)[i*sz'+j]):=by simp only[zn hlt]
         refine⟨_, ?_,hxs.2 _ d _ hd' hg⟩;rw[List.getElem?_take]at hg;split at hg
         ·simp
         ·simp at hg
        ·simp at hx
      ·exact .inr ⟨b,cap,rfl,hle, .inr ⟨by rw[Ak];rfl,(fun ob n e=>by rw[Ak]at e;cases e;exact Nat.le_refl _),vs,_,_,hheap,hsz⟩⟩
      ·rcases hi with hi|⟨q,_,hq⟩
       ·exact .inl hi
       ·exact .inr (.inr ⟨q,hq⟩)
      ·by_cases e:x=h0
       ·subst e;rw[Ak]at hb';cases hb';exact .inl ⟨k,hbk⟩
       ·rw[Bo e]at hb';exact .inl ⟨x,(Co hb').2⟩
      ·simp only[List.map_cons,List.mem_cons,Cj]at hq;rcases hq with rfl|rfl|hq
       ·exact .inl rfl
       ·right;rw[hl];simp
       ·exact .inr (D6 _ _ _ _ hf q hq)
    ·simp at ho
  ·simp at ho
 ·simp at ho
theorem AmZ{h0:Nat}{c c':C}{u:Ups}{v:Value}(h:RelH O H I w)(hn:O h0= .free)(hc:RepC O w I c v)(ho:cutC H h0 c=some (c',u)):
  ∃O' I',RelH O' (A9 u H) I' w/\RepC O' w I' c' v/\Ext O I O' I' w w/\Mono O O'/\ ∀k∈u.map (·.1),k=h0\/look H k≠none:=by
 unfold cutC at ho;split at ho
 ·rename_i k z len;split at ho
  ·rename_i cs t hl;simp only[zj,Prod.mk.injEq]at ho;obtain⟨rfl,rfl⟩:=ho;obtain⟨b,vs,hb,hheap,hcl,hcv⟩:=h.blk k _ hl;refine⟨O,I,h.step h.toPlace (.refl _ _ _) (fun x hx=>⟨rfl,fun _ _=>rfl⟩) (fun x B hx=> ?_),hc, .refl _ _ _, .refl _,fun q hq=> ?_⟩
   ·rw[Cm]at hx;split at hx
    ·rename_i e;simp at hx;subst hx e;refine⟨b,vs,hb,hheap,by simp;omega,fun i c2 v2 e1 e2=> ?_⟩;rw[List.getElem?_take]at e1;split at e1
     ·exact hcv i c2 v2 e1 e2
     ·simp at e1
    ·simp at hx
   ·simp at hq;subst hq;right;rw[hl];simp
  ·rename_i n f z' t hl;simp only[zj,Prod.mk.injEq]at ho;obtain⟨rfl,rfl⟩:=ho;obtain⟨hz,hrep⟩:=h.blk k _ hl;have fin: ∀(ob:Option Nat),O k= .row ob n ->(∀b,ob=some b ->b<w.heap.size) ->
    RepB (setB (Bp O ([k]++[])) h0 (.row ob len)) w (Ce O I []) h0 (.row len f z' t) ->RepC (setB (Bp O ([k]++[])) h0 (.row ob len)) w (Ce O I []) (.row h0 z len) v ->
    ∃O' I',RelH O' (A9 ((h0, .row len f z' t)::Fm [k]) H) I' w/\RepC O' w I' (.row h0 z len) v/\Ext O I O' I' w w/\Mono O O'/\ ∀q∈((h0,Blk.row len f z' t)::Fm [k]).map (·.1),q=h0\/look H q≠none:=fun ob hbk hlt hB hC=>by
    have hkf:O k≠ .free:=by rw[hbk];exact fun e=>by cases e
    have hall: ∀q∈[k]++[],O q≠ .free:=fun q hq=>by simp at hq;subst hq;exact hkf
    have hn1:h0∉[k]:=fun hm=>by simp at hm;subst hm;exact hkf hn
    have hmono:=K7 (ks:=[]) (die:=[k]) hn hall (.row ob len)
    have hplace:=Jy (ks:=[]) (die:=[k]) h.toPlace hn1 (.row ob len) w (fun _ _ _=>rfl) (Nat.le_refl _) (fun b' hb'=>⟨hlt b' hb', .inr ⟨k,by simp,by rw[hbk];exact hb'⟩⟩) (fun q _ hq=>by simp at hq)
    have hkeep:Keep O I w (setB (Bp O ([k]++[])) h0 (.row ob len)) (Ce O I []) w:=⟨hmono,fun _ _ hi=> .inl hi,fun _ _ _=>rfl, .refl w⟩
    refine⟨_,Ce O I [],h.step hplace hkeep (fun x hx=> ?_) (fun x B hx=> ?_),hC,⟨rfl,rfl,rfl,Nat.le_refl _,fun _ _ _=>rfl,fun _ _ hi=> .inl hi,fun _ _ _=>rfl,fun b o hi=> ?_,fun x b' hb'=> ?_, .refl w⟩,hmono,fun q hq=> ?_⟩
    ·rw[Bl hn1]at hx
     split at hx
     ·simp at hx
     ·rename_i e1
      split at hx
      ·simp at hx
      ·rename_i e2
       exact⟨by rw[Bo e2];simp only[Bp,List.append_nil,e1,if_false],fun _ _=>rfl⟩
    ·rw[Bl hn1]at hx
     split at hx
     ·rename_i e1
      simp at hx;subst hx
      have hne:x≠h0:=fun e=>hn1 (e▸e1)
      show setB _ _ _ x= .dead
      rw[Bo hne]
      simp only[Bp,List.append_nil,e1,if_true]
     ·split at hx
      ·rename_i e2
       simp at hx;subst hx e2
       exact hB
      ·simp at hx
    ·rcases hi with hi|⟨q,hq,_⟩
     ·exact .inl hi
     ·simp at hq
    ·by_cases e:x=h0
     ·subst e;rw[Ak]at hb';exact .inl ⟨k,by rw[hbk];exact hb'⟩
     ·rw[Bo e]at hb';exact .inl ⟨x,(Co hb').2⟩
    ·simp only[List.map_cons,List.mem_cons,Cj]at hq
     rcases hq with rfl|rfl|hq
     ·exact .inl rfl
     ·right;rw[hl];simp
     ·simp at hq
   rcases hrep with⟨hb,rfl⟩|⟨b,vs,hb,hheap,hsz,hel⟩
   ·rcases hc with⟨hl0,hv,_⟩|⟨b,cap,hv,hle,hd|⟨hb',_⟩⟩
    ·subst hl0;exact fin none hb (fun b e=>by cases e) ⟨hz, .inl ⟨Ak _ _ _,rfl⟩⟩ (.inl ⟨rfl,hv, .inr ⟨0,Ak _ _ _⟩⟩)
    ·rw[hb]at hd;cases hd
    ·rw[hb]at hb';cases hb'
   ·rcases hc with⟨_,_,hd|⟨m,hm⟩⟩|⟨b',cap,hv,hle,hd|⟨hb',hln,vs',t',fz,hheap',hsz'⟩⟩
    ·rw[hb]at hd;cases hd
    ·rw[hb]at hm;cases hm
    ·rw[hb]at hd;cases hd
    ·have hbb:b'=b:=by rw[hb]at hb';cases hb';rfl
     subst hbb;rw[hheap]at hheap';cases hheap';have hlen:len<=n:=hln _ _ hb;refine fin (some b') hb (fun b e=>by cases e;exact h.lt k b' (by rw[hb];rfl)) ⟨hz, .inr ⟨b',vs,Ak _ _ _,hheap,Nat.le_trans (Nat.mul_le_mul_right z' hlen) hsz,fun i hi=>⟨(hel i (by omega)).1,fun j d hd=> ?_⟩⟩⟩ (.inr ⟨b',cap,hv,hle, .inr ⟨by rw[Ak];rfl,(fun ob m e=>by rw[Ak]at e;cases e;exact Nat.le_refl _),vs,_,_,hheap,hsz'⟩⟩);obtain⟨x,h1,h2⟩:=(hel i (by omega)).2 j d hd;exact⟨x,h1,RepD.keep (fun _ _ hi=> .inl hi) (fun _ _ _=>rfl) h2⟩
  ·simp at ho
 ·simp only[zj,Prod.mk.injEq]at ho;obtain⟨rfl,rfl⟩:=ho;exact⟨O,I,h,hc, .refl _ _ _, .refl _,fun k hk=>by simp at hk⟩
 ·simp at ho
theorem AmD{h0:Nat}{c c':C}{u:Ups}{v:Value}(h:RelH O H I w)(hc:RepC O w I c v)(ho:frzC H c=some (c',u)):
  ∃O' I',RelH O' (A9 u H) I' w/\RepC O' w I' c' v/\Ext O I O' I' w w/\Mono O O'/\ ∀k∈u.map (·.1),k=h0\/look H k≠none:=by
 unfold frzC at ho;split at ho
 ·rename_i x ks hf;simp only[zj,Prod.mk.injEq]at ho;obtain⟨rfl,rfl⟩:=ho;obtain⟨hks,hr⟩:=AaJ h 400 c x ks v hf hc;refine⟨Bp O ks,Ce O I ks,h.kill hks,hr _ (fun _ _ hi=> .inl hi) (fun k hk b hb o=> .inr ⟨k,hk,hb⟩),⟨rfl,rfl,rfl,Nat.le_refl _,fun _ _ _=>rfl,fun _ _ hi=> .inl hi,fun _ _ _=>rfl,fun b o hi=> ?_,fun y b hb=> .inl ⟨y,(Co hb).2⟩, .refl w⟩, .kill O hks,fun k hk=> ?_⟩
  ·rcases hi with hi|⟨k,_,hk⟩
   ·exact .inl hi
   ·exact .inr (.inr ⟨k,hk⟩)
  ·rw[Cj]at hk;exact .inr (Ww _ _ _ _ hf k hk)
 ·simp at ho
theorem Air{h0:Nat}{c c':C}{u:Ups}{v:Value}(h:RelH O H I w)(hc:RepC O w I c v)(ho:AmC H c=some (c',u)):
  ∃O' I',RelH O' (A9 u H) I' w/\RepC O' w I' c' v/\Ext O I O' I' w w/\Mono O O'/\ ∀k∈u.map (·.1),k=h0\/look H k≠none:=by
 unfold AmC at ho;split at ho
 ·simp only[zj,Prod.mk.injEq]at ho;obtain⟨rfl,rfl⟩:=ho;exact⟨O,I,h,hc, .refl _ _ _, .refl _,fun k hk=>by simp at hk⟩
 ·rename_i k;split at ho
  ·rename_i cs t hl;split at ho
   ·rename_i ds ks hf;simp only[zj,Prod.mk.injEq]at ho;obtain⟨rfl,rfl⟩:=ho;obtain⟨b,vs,hb,hheap,hcl,hcv⟩:=h.blk k _ hl;have hkf:O k≠ .free:=by rw[hb];exact fun e=>by cases e
    have hrc:RepCs O w I cs (vs.toList.take cs.length):=by
     refine⟨by simp;omega,fun i c v h1 h2=> ?_⟩;rw[List.getElem?_take]at h2;split at h2
     ·exact hcv i c v h1 (by simpa using h2)
     ·simp at h2
    obtain⟨hks,hr⟩:=F5 h 400 cs ds ks _ hf hrc;have hall: ∀q∈k::ks,O q≠ .free:=fun q hq=>by
     rcases List.mem_cons.1 hq with rfl|hq
     ·exact hkf
     ·exact hks q hq
    have hrd:=hr (Ce O I (k::ks)) (fun _ _ hi=> .inl hi) (fun q hq b hb o=> .inr ⟨q,List.mem_cons_of_mem _ hq,hb⟩);have hbk:(O k).blk=some b:=by rw[hb];rfl
    refine⟨Bp O (k::ks),Ce O I (k::ks),h.kill hall, ?_,Ext.kill _ _ _ _, .kill O hall,fun q hq=> ?_⟩
    ·obtain⟨b',rfl,hd⟩:=hc;have:b'=b:=by
      rcases hd with hd|hd<;>(rw[hb]at hd;cases hd)
      rfl
     subst this;refine⟨b',0,rfl,fun j d hj=> ?_⟩;have hlt:j<(vs.toList.take cs.length).length:=by rw[<-hrd.1];exact(List.getElem?_eq_some_iff.1 hj).1
     have hg:(vs.toList.take cs.length)[j]? =some ((vs.toList.take cs.length)[j]):=by simp only[zn hlt]
     have hg2:=hg;rw[List.getElem?_take]at hg2;split at hg2
     ·refine⟨_, ?_, .inr ⟨k,List.mem_cons_self ..,hbk⟩,hrd.2 j d _ hj hg⟩;rw[Nat.zero_add];exact Mg hheap j _ hg2
     ·simp at hg2
    ·rw[Cj]at hq;right;rcases List.mem_cons.1 hq with rfl|hq
     ·rw[hl];simp
     ·exact D6 _ _ _ _ hf q hq
   ·simp at ho
  ·simp at ho
 ·simp at ho
theorem T6{h0 sz:Nat}{t:TypeId}{c c':C}{u:Ups}{v:Value}(h:RelH O H I w)(hn:O h0= .free)(hc:RepC O w I c v)(ho:Aeq H h0 sz t c=some (c',u)):
  ∃O' I',RelH O' (A9 u H) I' w/\RepC O' w I' c' v/\Ext O I O' I' w w/\Mono O O'/\ ∀k∈u.map (·.1),k=h0\/look H k≠none:=by
 unfold Aeq at ho;cases hb:Nat.beq sz 0 with
 |true=>rw[hb]at ho;exact AmZ h hn hc ho|false=>
  rw[hb]at ho;simp only[zb]at ho;cases hb2:Nat.beq sz 1000 with
  |true=>rw[hb2]at ho;exact AmD h hc ho|false=>rw[hb2]at ho;exact AlZ h hn hc ho
theorem Yf{F:List AV}{vs:Array Value}(h:RepF O w I F vs){i:Nat}{x:AV}(hx: ∀v,vs[i]? =some v ->RepA O w I x v):RepF O w I (F.set i x) vs:=by
 refine⟨by simpa using h.1,fun j y v h1 h2=> ?_⟩;rw[List.getElem?_set]at h1;split at h1
 ·rename_i e;split at h1
  ·simp at h1;subst h1 e;exact hx v h2
  ·simp at h1
 ·exact h.2 j y v h1 h2
theorem Ty{F:List AV}{vs:Array Value}(h:RepF O w I F vs){i:Nat}{x:AV}(hx:F.getD i .u=x)(hu:x≠ .u): ∃v,vs[i]? =some v/\RepA O w I x v:=by
 have hlt:i<F.length:=by
  rcases Nat.lt_or_ge i F.length with hl|hl
  ·exact hl
  ·simp[List.getD,List.getElem?_eq_none hl]at hx;exact absurd hx.symm hu
 have hlt':i<vs.size:=h.1▸hlt;have e:F[i]? =some x:=by simp[List.getD,hlt]at hx;simp[hlt,hx]
 exact⟨vs[i],by simp[hlt'],h.2 i x _ e (by simp[hlt'])⟩
theorem T7{s s':St}{h i0 sz:Nat}{t:TypeId}(ho:Aer s h i0 sz t=some s'){a:Act}(hs:Sim O I s a w): ∃O' I',Sim O' I' s' a w/\Ext O I O' I' w w/\Mono O O':=by
 have hn:=hs.mem.dom s.nm (hs.free s.nm (Nat.le_refl _));have free': ∀{u:Ups},(∀k∈u.map (·.1),k=s.nm\/look s.H k≠none) -> ∀h,s.nm+1<=h ->look (A9 u s.H) h=none:=fun{u} hu h hh=>by
  have h0:=hs.free h (by omega);rw[Cr]
  ·exact h0
  ·intro hm;rcases hu h hm with e|e
   ·omega
   ·exact e h0
 unfold Aer at ho;split at ho
 ·rename_i cs t' hl;split at ho
  ·rename_i c hc;split at ho
   ·rename_i c' u hoc;cases hcon:(u.map (·.1)).contains h with
    |true=>rw[hcon]at ho;cases ho|false=>
     rw[hcon]at ho;simp only[zb,zj]at ho;subst ho;have hnu:=Dc hcon;obtain⟨b,vs,hb,hheap,hcl,hcv⟩:=hs.mem.blk h _ hl;have hlt:i0<vs.size:=by have:=(List.getElem?_eq_some_iff.1 hc).1;omega
     obtain⟨O',I',h1,h2,h3,h4,h5⟩:=T6 hs.mem hn (hcv (i0) c vs[i0] hc (by simp[hlt])) hoc;have hk:=h3.keep h4;have hl':look (A9 u s.H) h=some (.cells cs t'):=by rw[Cr hnu];exact hl
     obtain⟨b',vs',hb',hheap',hcl',hcv'⟩:=h1.blk h _ hl';have hb0:b'=b:=by
      rcases h4.stays (h:=h) (by rw[hb];exact fun e=>by cases e)with e|e
      ·rw[e,hb]at hb';cases hb';rfl
      ·rw[e]at hb';cases hb'
     subst hb0;rw[hheap]at hheap';cases hheap';have hstep:RelH O' (A9 [(h, .cells (cs.set (i0) c') t')] (A9 u s.H)) I' w:=by
      refine h1.step h1.toPlace (.refl _ _ _) (fun x hx=>⟨rfl,fun _ _=>rfl⟩) (fun x B hx=> ?_);rw[Cm]at hx;split at hx
      ·rename_i e;simp at hx;subst hx e;refine⟨b',vs,hb',hheap,by simpa using hcl,fun i c2 v2 e1 e2=> ?_⟩;rw[List.getElem?_set]at e1;split at e1
       ·rename_i e3;split at e1
        ·simp at e1;subst e1 e3;simp[hlt]at e2;subst e2;exact h2
        ·simp at e1
       ·exact hcv' i c2 v2 e1 e2
      ·simp at hx
     refine⟨O',I',⟨hs.frame.keep hk,hstep,hs.defers,fun q hq=> ?_⟩,h3,h4⟩;have hq':s.nm+1<=q:=hq;rw[Ud];split
     ·rename_i e;subst e;have:=hs.free q (by omega);rw[hl]at this;simp at this
     ·exact free' h5 q hq'
   ·simp at ho
  ·simp at ho
 ·simp at ho
theorem Aay{s s':St}{h i j sz:Nat}{t:TypeId}(ho:Aib s h i j sz t=some s'){a:Act}(hs:Sim O I s a w): ∃O' I',Sim O' I' s' a w/\Ext O I O' I' w w/\Mono O O':=by
 have same:some s=some s' -> ∃O' I',Sim O' I' s' a w/\Ext O I O' I' w w/\Mono O O':=fun e=>by
  simp at e;subst e;exact⟨O,I,hs, .refl _ _ _, .refl _⟩
 unfold Aib at ho;split at ho
 ·split at ho
  ·split at ho
   ·rename_i k _ _ _ cs' _ _;cases hb:Nat.blt j cs'.length with
    |true=>rw[hb]at ho;exact T7 ho hs|false=>rw[hb]at ho;exact same ho
   ·exact same ho
  ·exact same ho
 ·simp at ho
theorem AbY{s s':St}{x:Nat×Nat×Nat×TypeId}(ho:Ym s x=some s'){a:Act}(hs:Sim O I s a w): ∃O' I',Sim O' I' s' a w/\Ext O I O' I' w w/\Mono O O':=by
 obtain⟨slot,off,sz,t⟩:=x;have hn:=hs.mem.dom s.nm (hs.free s.nm (Nat.le_refl _));have free': ∀{u:Ups},(∀k∈u.map (·.1),k=s.nm\/look s.H k≠none) -> ∀h,s.nm+1<=h ->look (A9 u s.H) h=none:=fun{u} hu h hh=>by
  have h0:=hs.free h (by omega);rw[Cr]
  ·exact h0
  ·intro hm;rcases hu h hm with e|e
   ·omega
   ·exact e h0
 simp only[Ym]at ho;cases h2000:Nat.beq sz 2000 with
 |true=>
  rw[h2000]at ho;simp only[za]at ho;split at ho
  ·rename_i c hsl;split at ho
   ·rename_i c' u hoc;simp at ho;subst ho;obtain⟨v,hv,hr⟩:=Ty hs.frame hsl (by simp);obtain⟨O',I',h1,h2,h3,h4,h5⟩:=Air (h0:=s.nm) hs.mem hr hoc;refine⟨O',I',⟨Yf (hs.frame.keep (h3.keep h4)) (fun v' hv'=> ?_),h1,hs.defers,free' h5⟩,h3,h4⟩;rw[hv]at hv';cases hv';exact h2
   ·simp at ho
  ·simp at ho
 |false=>
 rw[h2000]at ho;simp only[zb]at ho;split at ho
 ·rename_i h o hsl;cases hb:Nat.ble 1000 off with
  |true=>rw[hb]at ho;exact Aay ho hs|false=>rw[hb]at ho;exact T7 ho hs
 ·rename_i h o _ _ hsl;cases hb:Nat.ble 1000 off with
  |true=>rw[hb]at ho;exact Aay ho hs|false=>rw[hb]at ho;exact T7 ho hs
 ·rename_i c _ _ hsl;split at ho
  ·rename_i c' u hoc;simp at ho;subst ho;obtain⟨v,hv,hr⟩:=Ty hs.frame hsl (by simp);obtain⟨O',I',h1,h2,h3,h4,h5⟩:=T6 hs.mem hn hr hoc;refine⟨O',I',⟨Yf (hs.frame.keep (h3.keep h4)) (fun v' hv'=> ?_),h1,hs.defers,free' h5⟩,h3,h4⟩;rw[hv]at hv';cases hv';exact h2
  ·simp at ho
 ·rename_i cs hsl;split at ho
  ·rename_i c hc;split at ho
   ·rename_i c' u hoc;simp at ho;subst ho;obtain⟨v,hv,hr⟩:=Ty hs.frame hsl (by simp);obtain⟨vs,rfl,hrc⟩:=hr;have hlt:off<vs.toList.length:=by rw[<-hrc.1];exact(List.getElem?_eq_some_iff.1 hc).1
    obtain⟨O',I',h1,h2,h3,h4,h5⟩:=T6 hs.mem hn (hrc.2 off c vs.toList[off] hc (by simp at hlt;simp[hlt])) hoc;have hk:=h3.keep h4;refine⟨O',I',⟨Yf (hs.frame.keep hk) (fun v' hv'=> ?_),h1,hs.defers,free' h5⟩,h3,h4⟩;rw[hv]at hv';cases hv';refine⟨vs,rfl,by simpa using hrc.1,fun i c2 v2 e1 e2=> ?_⟩;rw[List.getElem?_set]at e1;split at e1
    ·rename_i e3;split at e1
     ·simp at e1;subst e1 e3;simp at hlt;simp[hlt]at e2;subst e2;simpa using h2
     ·simp at e1
    ·exact(hrc.2 i c2 v2 e1 e2).keep hk
   ·simp at ho
  ·simp at ho
 ·simp at ho
theorem Wc: ∀(l:List (Nat×Nat×Nat×TypeId)) {O:Bt} {I:Im} {s s':St} {a:Act},We l s=some s' ->Sim O I s a w -> ∃O' I',Sim O' I' s' a w/\Ext O I O' I' w w/\Mono O O'
 |[],O,I,s,s',a,h,hs=>by simp[We]at h;subst h;exact⟨O,I,hs, .refl _ _ _, .refl _⟩|x::r,O,I,s,s',a,h,hs=>by
  simp only[We]at h;split at h
  ·rename_i s1 h1;obtain⟨O1,I1,k1,k2,k3⟩:=AbY h1 hs;obtain⟨O2,I2,j1,j2,j3⟩:=Wc r h k1;exact⟨O2,I2,j1,k2.trans j2,k3.trans j3⟩
  ·simp at h
theorem AiN{k0:Nat}{s:St}{a:Act}(hs:Sim O I s a w)(hk: ∀x,x<k0 ->O x≠ .free): ∃O',Sim O' I (Aph k0 s) a w/\Ext O I O' I w w/\MonoK k0 O O':=by
 obtain⟨hnd,hL⟩:=Q8 k0 s.H (s.F.flatMap Ev);obtain⟨h1,h2,h3⟩:=Rn hs.mem hk hnd hL;exact⟨_,⟨hs.frame.ren (Hb k0 _),h1,hs.defers,fun h hh=>Ze h hh⟩,h2,h3⟩
theorem Ql{k0:Nat}{note:Option Note}{s s':St}(h:trim k0 note s=some s'){a:Act}(hs:Sim O I s a w)(hk: ∀x,x<k0 ->O x≠ .free): ∃O' I',Sim O' I' s' a w/\Ext O I O' I' w w/\MonoK k0 O O':=by
 unfold trim at h;split at h
 ·simp at h;subst h;exact⟨O,I,hs, .refl _ _ _, .refl _ _⟩
 ·rename_i n;split at h
  ·rename_i s1 h1;simp at h;subst h;obtain⟨O1,I1,k1,k2,k3⟩:=Wc n.own h1 hs;have k1':Sim O1 I1 ⟨Ul n.keep 0 s1.F,s1.H,s1.nm⟩ a w:=⟨Afa k1.frame _,k1.mem,k1.defers,k1.free⟩;obtain⟨O2,j1,j2,j3⟩:=AiN k1' ((k3.toK k0).ne hk);exact⟨O2,I1,j1,k2.trans j2,(k3.toK k0).trans j3⟩
  ·simp at h
end
def B4(P:Program)(orc:Orc):Prop:=
 ∀(R:Type) (f:FuncId) (args:List AV) (H:Hp) (k:AV ->Hp ->Option (T R)) (t:T R),orc R f args H k=some t -> ∃x H',k x H'=some t/\CX P f args H x H'
def Leaf{R:Type}:T R ->R ->Prop
 | .leaf r,x=>x=r| .node a b,x=>Leaf a x\/Leaf b x
def Sub{R:Type}(t t':T R):Prop:= ∀x,Leaf t x ->Leaf t' x
theorem Sub.refl{R:Type}(t:T R):Sub t t:=fun _ h=>h
theorem Sub.trans{R:Type}{a b c:T R}(h:Sub a b)(k:Sub b c):Sub a c:=fun x hx=>k x (h x hx)
theorem Sub.left{R:Type}(a b:T R):Sub a (.node a b):=fun _ h=> .inl h
theorem Sub.right{R:Type}(a b:T R):Sub b (.node a b):=fun _ h=> .inr h
section
variable {P:Program}{orc:Orc}{R:Type}
theorem Afj{ops:Array Oper}{F:List AV}{o:Oper}{yes no:List AV ->Option (T R)}{r:T R}(h:Kj ops F o yes no=some r):
  (Ep ops F o=some true/\yes F=some r)\/(Ep ops F o=some false/\no F=some r):=by
 unfold Kj at h;unfold Ep;cases hg:o.guard with
 |none=>simp only[hg]at h;exact .inl ⟨rfl,h⟩|some gw=>
  obtain⟨j,want⟩:=gw;simp only[hg]at h;cases hd:(ops[j]?).bind (·.dst)with
  |none=>simp only[hd]at h⊢;exact .inr ⟨trivial,h⟩|some t=>
   simp only[hd]at h⊢;have hset: ∀b,F.getD t .u= .c (.d (.v (.bool b))) ->F.set t (.c (.d (.v (.bool b))))=F:=by
    intro b hb;have hlt:t<F.length:=by
     rcases Nat.lt_or_ge t F.length with hl|hl
     ·exact hl
     ·simp[List.getD,List.getElem?_eq_none hl]at hb
    have e:F[t]= .c (.d (.v (.bool b))):=by simpa[List.getD,hlt]using hb
    rw[<-e];exact List.set_getElem_self hlt
   generalize hb:F.getD t .u=y at h⊢;match y,hb,h with
   | .tup [],hb,h=>exact .inr ⟨rfl,h⟩| .tup (_::_),hb,h=>simp at h| .agg _,hb,h=>simp at h| .u,hb,h=>simp at h| .c (.ptr _ _),hb,h=>simp at h| .c (.ept _ _ _ _),hb,h=>simp at h| .c (.ip _),hb,h=>simp at h| .c (.row _ _ _),hb,h=>simp at h| .c (.fn _ _ _),hb,h=>simp at h| .c (.mp _),hb,h=>simp at h| .c .u,hb,h=>simp at h| .c (.d (.sl _ _ _)),hb,h=>simp at h| .c (.d (.v x)),hb,h=>
    cases x with
    |bool b=>
     cases b with
     |true=>
      simp only[za]at h;rw[hset true hb]at h;cases want
      ·exact .inr ⟨rfl,h⟩
      ·exact .inl ⟨rfl,h⟩
     |false=>
      simp only[zb]at h;rw[hset false hb]at h;cases want
      ·exact .inl ⟨rfl,h⟩
      ·exact .inr ⟨rfl,h⟩
    |_=>simp at h
theorem AhY(ho:B4 P orc){h0:Nat}{a:Do}{H:Hp}{k:AV ->Foot ->Ups ->Option (T R)}{r:T R}(h:C7 orc h0 a H k=some r): ∃x ft u,k x ft u=some r/\PerfR P h0 a H x ft u:=by
 by_cases hk: ∃q kd key ok z,a= .look q kd key ok z
 ·obtain⟨q,kd,key,ok,z,rfl⟩:=hk;rw[S2]at h;split at h
  ·rename_i x ft u hp;exact⟨x,ft,u,h,hp⟩
  ·simp at h
 by_cases hk': ∃q off s len n,a= .idx q off s len n
 ·obtain⟨q,off,s,len,n,rfl⟩:=hk';rcases Aen (orc:=orc) (h0:=h0) (h:=q) (off:=off) (s:=s) (len:=len) (n:=n) (H:=H) (k:=k)with e|e
  ·rw[e]at h;cases h
  ·rw[e]at h;exact⟨_,_,_,h,rfl⟩
 unfold C7 at h;split at h
 ·rename_i f args;split at h
  ·rename_i L hL;obtain⟨x,H',hk,hc⟩:=ho _ _ _ _ _ _ h;exact⟨_,_,_,hk,L,x,H',hL,hc,rfl,rfl,rfl⟩
  ·simp at h
 ·rename_i q;split at h
  ·rename_i s pos hl;cases hb:Nat.blt pos s.size with
   |true=>
    rw[hb]at h;refine⟨_,_,_,h, ?_⟩;simp only[PerfR,Ax,hl,hb,za]
   |false=>
    rw[hb]at h;refine⟨_,_,_,h, ?_⟩;simp only[PerfR,Ax,hl,hb,zb]
  ·simp at h
 ·rename_i q n e;split at h
  ·rename_i m f sz t hl;cases hb:(Nat.ble n m&&Nat.beq sz 1&&Nat.beq t e&&Dk n f)with
   |true=>
    rw[hb]at h;refine⟨_,_,_,h, ?_⟩;simp only[PerfR,Ax,hl,hb,za]
   |false=>rw[hb]at h;cases h
  ·simp at h
 ·rename_i q n;cases hb:Ey n (look H q)with
  |true=>
   rw[hb]at h;refine⟨_,_,_,h, ?_⟩;simp only[PerfR,Ax,hb,za]
  |false=>rw[hb]at h;cases h
 ·exact absurd ⟨_,_,_,_,_,rfl⟩ hk
 ·exact absurd ⟨_,_,_,_,_,rfl⟩ hk'
 ·rename_i hno _ _ _ _ _;split at h
  ·rename_i x ft u hp;refine⟨x,ft,u,h, ?_⟩;cases a with
   |call f args=>exact absurd rfl (hno f args)|_=>exact hp
  ·simp at h
theorem Aae(ho:B4 P orc){ops:Array Oper}{i:Nat}{s:St}{k:Tx ->St ->Option (T R)}{r:T R}(h:Ye P orc ops i s k=some r): ∃ft s',k ft s'=some r/\StepR P ops i s ft s':=by
 unfold Ye at h;simp only[Rh,Aea,Aeu,putF_eq]at h;split at h
 ·simp at h
 ·rename_i o hop;rcases Afj h with⟨hw,h⟩|⟨hw,h⟩
  ·split at h
   ·simp at h
   ·rename_i ok a hres;cases ok with
    |false=>simp at h|true=>
     simp only[za]at h;obtain⟨x,ft,u,hk,hp⟩:=AhY ho h;exact⟨⟨ft,Lp a x,u⟩,_,hk,o,x,u,hop,rfl, .inr ⟨hw,a,hres,hp,rfl,rfl⟩⟩
  ·exact⟨tx0,_,h,o, .tup [],[],hop,rfl, .inl ⟨hw,rfl,rfl,rfl⟩⟩
theorem T8(ho:B4 P orc){ops:Array Oper}: ∀(l:List Nat) {tr:List (Nat×Tx)} {s:St} {k:List (Nat×Tx) ->St ->Option (T R)} {r:T R},opsK P orc ops l tr s k=some r ->
  ∃tr' s',k (tr++tr') s'=some r/\RunR P ops l s tr' s'
 |[],tr,s,k,r,h=>⟨[],s,by simpa[opsK]using h,rfl,rfl⟩|i::rest,tr,s,k,r,h=>by
  simp only[opsK]at h;obtain⟨act,s1,hk,hst⟩:=Aae ho h;obtain⟨tr',s',hk',hr⟩:=T8 ho rest hk;exact⟨(i,act)::tr',s',by simpa using hk',act,s1,tr',hst,hr,rfl⟩
def Out.toExit:Out ->Exit
 | .norm=> .normal| .exit id=> .exit id| .goto l=> .goto l| .ret=> .ret
theorem Sim.drew{O:Bt}{I:Im}{s:St}{a:Act}{w:World}(h:Sim O I s a w):Sim O I s a w.drew/\Ext O I O I w w.drew:=by
 have e:Ext O I O I w w.drew:=⟨rfl,rfl,rfl,Nat.le_refl _,fun _ _ _=>rfl,fun _ _ hi=>hi,fun _ _ _=>rfl,fun _ _ hi=> .inl hi,fun x _ hb=> .inl ⟨x,hb⟩,fun _ vs _ fz h=>⟨vs,fz,h,rfl⟩⟩;have hk:=e.keep (.refl O);refine⟨⟨h.frame.keep hk,⟨⟨h.mem.inj,h.mem.lt,h.mem.off,h.mem.old,h.mem.gl.step (fun _ _ hi=>hi) (fun _ _ _=>rfl)⟩,h.mem.dom,fun x B hx=> ?_⟩,h.defers,h.free⟩,e⟩;exact(h.mem.blk x B hx).keep hk rfl (fun _ _=>rfl)
theorem Pk{ops:Array Oper}(h:F8 ops=true): ∃o0 o1 o2 o3,ops= #[o0,o1,o2,o3]/\(∀e∈o0.after,Region.binds .any e=false)/\
  ((∃e∈o1.after,e.on=0/\Region.binds .any e=true)/\ ∀e∈o1.after,Region.binds .any e=true ->e.on=0)/\((∃e∈o2.after,e.on=0/\Region.binds .any e=true)/\ ∀e∈o2.after,Region.binds .any e=true ->e.on=0)/\
  (∃e∈o3.after,e.on=1/\Region.binds .any e=true)/\(∃e∈o3.after,e.on=2/\Region.binds .any e=true)/\ ∀e∈o3.after,Region.binds .any e=true ->e.on<3:=by
 unfold F8 at h;split at h
 ·rename_i o0 o1 o2 o3 hl;simp only[zd,List.all_eq_true,List.any_eq_true,Bool.or_eq_true,Bool.not_eq_true',beqD,bltD,zi]at h;obtain⟨⟨⟨⟨⟨⟨⟨⟨⟨_,_⟩,h0⟩,h1⟩,h1'⟩,h2⟩,h2'⟩,h3⟩,h3'⟩,h3''⟩:=h;refine⟨o0,o1,o2,o3,by apply Array.ext';exact hl,fun e he=>h0 e (by simpa using he),⟨?_,fun e he hb=> ?_⟩,⟨?_,fun e he hb=> ?_⟩, ?_, ?_,fun e he hb=> ?_⟩
  ·obtain⟨e,he,h4⟩:=h1;exact⟨e,by simpa using he,h4⟩
  ·exact(h1' e (by simpa using he)).resolve_right (by simp[hb])
  ·obtain⟨e,he,h4⟩:=h2;exact⟨e,by simpa using he,h4⟩
  ·exact(h2' e (by simpa using he)).resolve_right (by simp[hb])
  ·obtain⟨e,he,h4⟩:=h3;exact⟨e,by simpa using he,h4⟩
  ·obtain⟨e,he,h4⟩:=h3';exact⟨e,by simpa using he,h4⟩
  ·exact(h3'' e (by simpa using he)).resolve_right (by simp[hb])
 ·simp at h
theorem Acw{ops:Array Oper}(hd:F8 ops=true){s s1 sA sB:St}{f0:Tx}{trA trB:List (Nat×Tx)}(st0:StepR P ops 0 s f0 s1)(hA:RunR P ops [1,2,3] s1 trA sA)(hB:RunR P ops [2,1,3] s1 trB sB){O:Bt}{I:Im}{a:Act}{w:World}{Q:Exit ->Act ->World ->Prop}
  (hs:SimR [0,1,2,3] 4 O I s a w) (hQA: ∀O' I' a' w',SimR [] 4 O' I' sA a' w' ->Ext O I O' I' w w' ->Mono O O' ->Q .normal a' w') (hQB: ∀O' I' a' w',SimR [] 4 O' I' sB a' w' ->Ext O I O' I' w w' ->Mono O O' ->Q .normal a' w'):
  wpAny P .any ops Q ops.size (Array.replicate ops.size false) a w:=by
 obtain⟨o0,o1,o2,o3,rfl,e0,e1,e2,e3,e3',e3''⟩:=Pk hd;have rdy: ∀{i:Nat} {listed:Array Bool},i∈Region.ready .any #[o0,o1,o2,o3] listed↔listed.getD i true=false/\ ∃o, #[o0,o1,o2,o3][i]? =some o/\ ∀e∈o.after,Region.binds .any e=true ->listed.getD e.on false=true:=mem_ready;have r0:Region.ready .any #[o0,o1,o2,o3] #[false,false,false,false]≠[]/\ ∀i∈Region.ready .any #[o0,o1,o2,o3] #[false,false,false,false],i=0:=by
  refine⟨fun hn=> ?_,fun i hi=> ?_⟩
  ·have:0∈Region.ready .any #[o0,o1,o2,o3] #[false,false,false,false]:=rdy.2 ⟨rfl,o0,rfl,fun e he hb=>by rw[e0 e he]at hb;cases hb⟩;rw[hn]at this;simp at this
  ·obtain⟨h1,o,ho,h2⟩:=rdy.1 hi;match i,h1,ho with
   |0,_,_=>rfl|1,_,ho=>cases ho;obtain⟨e,he,h3,h4⟩:=e1.1;have:=h2 e he h4;rw[h3]at this;simp at this
   |2,_,ho=>cases ho;obtain⟨e,he,h3,h4⟩:=e2.1;have:=h2 e he h4;rw[h3]at this;simp at this
   |3,_,ho=>cases ho;obtain⟨e,he,h3,h4⟩:=e3;have:=h2 e he h4;rw[h3]at this;simp at this
   |n+4,h1,_=>simp at h1
 have r1:Region.ready .any #[o0,o1,o2,o3] #[true,false,false,false]≠[]/\ ∀i∈Region.ready .any #[o0,o1,o2,o3] #[true,false,false,false],i=1\/i=2:=by
  refine⟨fun hn=> ?_,fun i hi=> ?_⟩
  ·have:1∈Region.ready .any #[o0,o1,o2,o3] #[true,false,false,false]:=rdy.2 ⟨rfl,o1,rfl,fun e he hb=>by rw[e1.2 e he hb];rfl⟩;rw[hn]at this;simp at this
  ·obtain⟨h1,o,ho,h2⟩:=rdy.1 hi;match i,h1,ho with
   |0,h1,_=>simp at h1|1,_,_=>exact .inl rfl|2,_,_=>exact .inr rfl|3,_,ho=>cases ho;obtain⟨e,he,h3,h4⟩:=e3;have:=h2 e he h4;rw[h3]at this;simp at this
   |n+4,h1,_=>simp at h1
 have r2:Region.ready .any #[o0,o1,o2,o3] #[true,true,false,false]≠[]/\ ∀i∈Region.ready .any #[o0,o1,o2,o3] #[true,true,false,false],i=2:=by
  refine⟨fun hn=> ?_,fun i hi=> ?_⟩
  ·have:2∈Region.ready .any #[o0,o1,o2,o3] #[true,true,false,false]:=rdy.2 ⟨rfl,o2,rfl,fun e he hb=>by rw[e2.2 e he hb];rfl⟩;rw[hn]at this;simp at this
  ·obtain⟨h1,o,ho,h2⟩:=rdy.1 hi;match i,h1,ho with
   |0,h1,_=>simp at h1|1,h1,_=>simp at h1|2,_,_=>rfl|3,_,ho=>cases ho;obtain⟨e,he,h3,h4⟩:=e3';have:=h2 e he h4;rw[h3]at this;simp at this
   |n+4,h1,_=>simp at h1
 have r2':Region.ready .any #[o0,o1,o2,o3] #[true,false,true,false]≠[]/\ ∀i∈Region.ready .any #[o0,o1,o2,o3] #[true,false,true,false],i=1:=by
  refine⟨fun hn=> ?_,fun i hi=> ?_⟩
  ·have:1∈Region.ready .any #[o0,o1,o2,o3] #[true,false,true,false]:=rdy.2 ⟨rfl,o1,rfl,fun e he hb=>by rw[e1.2 e he hb];rfl⟩;rw[hn]at this;simp at this
  ·obtain⟨h1,o,ho,h2⟩:=rdy.1 hi;match i,h1,ho with
   |0,h1,_=>simp at h1|1,_,_=>rfl|2,h1,_=>simp at h1|3,_,ho=>cases ho;obtain⟨e,he,h3,h4⟩:=e3;have:=h2 e he h4;rw[h3]at this;simp at this
   |n+4,h1,_=>simp at h1
 have r3:Region.ready .any #[o0,o1,o2,o3] #[true,true,true,false]≠[]/\ ∀i∈Region.ready .any #[o0,o1,o2,o3] #[true,true,true,false],i=3:=by
  refine⟨fun hn=> ?_,fun i hi=> ?_⟩
  ·have:3∈Region.ready .any #[o0,o1,o2,o3] #[true,true,true,false]:=rdy.2 ⟨rfl,o3,rfl,fun e he hb=>by
    have:=e3'' e he hb;match e.on,this with
    |0,_=>rfl|1,_=>rfl|2,_=>rfl⟩
   rw[hn]at this;simp at this
  ·obtain⟨h1,o,ho,h2⟩:=rdy.1 hi;match i,h1,ho with
   |0,h1,_=>simp at h1|1,h1,_=>simp at h1|2,h1,_=>simp at h1|3,_,_=>rfl|n+4,h1,_=>simp at h1
 have r4:Region.ready .any #[o0,o1,o2,o3] #[true,true,true,true]=[]:=by
  apply List.eq_nil_iff_forall_not_mem.2;intro i hi;obtain⟨h1,_⟩:=rdy.1 hi;match i,h1 with
  |0,h1=>simp at h1|1,h1=>simp at h1|2,h1=>simp at h1|3,h1=>simp at h1|n+4,h1=>simp at h1
 obtain⟨f1,s2,tr2,st1,hA,_⟩:=hA;obtain⟨f2,s3,tr3,st2,hA,_⟩:=hA;obtain⟨f3,s4,tr4,st3,hA,_⟩:=hA;obtain⟨_,rfl⟩:=hA;obtain⟨g1,t2,ur2,su1,hB,_⟩:=hB;obtain⟨g2,t3,ur3,su2,hB,_⟩:=hB;obtain⟨g3,t4,ur4,su3,hB,_⟩:=hB;obtain⟨_,rfl⟩:=hB;show wpAny P .any #[o0,o1,o2,o3] Q 4 #[false,false,false,false] a w;refine⟨fun hn=>absurd hn r0.1,fun i hi=> ?_⟩;cases r0.2 i hi;refine G1 st0 hs (by simp) (by omega) (un':=[1,2,3]) (fun j hj=>by simp at hj⊢;omega) fun O1 I1 a1 w1 hs1 he1 hm1=> ?_
 show wpAny P .any #[o0,o1,o2,o3] Q 3 #[true,false,false,false] a1 w1;refine⟨fun hn=>absurd hn r1.1,fun i hi=> ?_⟩;rcases r1.2 i hi with rfl|rfl
 ·refine G1 st1 hs1 (by simp) (by omega) (un':=[2,3]) (fun j hj=>by simp at hj⊢;omega) fun O2 I2 a2 w2 hs2 he2 hm2=> ?_
  show wpAny P .any #[o0,o1,o2,o3] Q 2 #[true,true,false,false] a2 w2;refine⟨fun hn=>absurd hn r2.1,fun i hi=> ?_⟩;cases r2.2 i hi;refine G1 st2 hs2 (by simp) (by omega) (un':=[3]) (fun j hj=>by simp at hj⊢;omega) fun O3 I3 a3 w3 hs3 he3 hm3=> ?_
  show wpAny P .any #[o0,o1,o2,o3] Q 1 #[true,true,true,false] a3 w3;refine⟨fun hn=>absurd hn r3.1,fun i hi=> ?_⟩;cases r3.2 i hi;refine G1 st3 hs3 (by simp) (by omega) (un':=[]) (fun j hj=>by simp at hj) fun O4 I4 a4 w4 hs4 he4 hm4=> ?_
  exact⟨r4,hQA O4 I4 a4 w4 hs4 (he1.trans (he2.trans (he3.trans he4))) (hm1.trans (hm2.trans (hm3.trans hm4)))⟩
 ·refine G1 su1 hs1 (by simp) (by omega) (un':=[1,3]) (fun j hj=>by simp at hj⊢;omega) fun O2 I2 a2 w2 hs2 he2 hm2=> ?_
  show wpAny P .any #[o0,o1,o2,o3] Q 2 #[true,false,true,false] a2 w2;refine⟨fun hn=>absurd hn r2'.1,fun i hi=> ?_⟩;cases r2'.2 i hi;refine G1 su2 hs2 (by simp) (by omega) (un':=[3]) (fun j hj=>by simp at hj⊢;omega) fun O3 I3 a3 w3 hs3 he3 hm3=> ?_
  show wpAny P .any #[o0,o1,o2,o3] Q 1 #[true,true,true,false] a3 w3;refine⟨fun hn=>absurd hn r3.1,fun i hi=> ?_⟩;cases r3.2 i hi;refine G1 su3 hs3 (by simp) (by omega) (un':=[]) (fun j hj=>by simp at hj) fun O4 I4 a4 w4 hs4 he4 hm4=> ?_
  exact⟨r4,hQB O4 I4 a4 w4 hs4 (he1.trans (he2.trans (he3.trans he4))) (hm1.trans (hm2.trans (hm3.trans hm4)))⟩
def Good(k0:Nat)(O:Bt)(I:Im)(w:World)(k:Out ->St ->Option (T R))(t:T R)(Q:Exit ->Act ->World ->Prop):Prop:=
 ∀out s' t',k out s'=some t' ->Sub t' t -> ∀O' I' a' w',Sim O' I' s' a' w' ->Ext O I O' I' w w' ->MonoK k0 O O' ->Q out.toExit a' w'
theorem Sw(ho:B4 P orc){id:Nat}{ops:Array Oper}{draw:Bool}{s:St}{k:Out ->St ->Option (T R)}{t:T R}(h:Er P orc ops draw s k=some t)(k0:Nat):
  ∀O I a w Q,Sim O I s a w ->Good k0 O I w k t Q ->(Code.region id ops draw).wp P Q a w:=by
 unfold Er at h;cases hdd:(draw&&F8 ops)with
 |true=>
  rw[hdd]at h;simp only[zd]at hdd;obtain⟨rfl,hd⟩:=hdd;simp only[za]at h;cases hf:P.follows .mixedOrders with
  |false=>rw[hf]at h;cases h|true=>
   rw[hf]at h;simp only[za]at h;obtain⟨f0,s1,h,st0⟩:=Aae ho h;split at h
   ·rename_i x y hx hy;simp at h;subst h;obtain⟨trA,sA,hkA,hA⟩:=T8 ho _ hx;obtain⟨trB,sB,hkB,hB⟩:=T8 ho _ hy;have hsz:ops.size=4:=by obtain⟨_,_,_,_,rfl,_⟩:=Pk hd;rfl
    intro O I a w Q hsim hG;refine wp_region_any hf ?_;obtain⟨hs1,he1⟩:=hsim.drew;refine Acw hd st0 hA hB (hs1.inside _ _) (fun O' I' a' w' h1 h2 h3=> ?_) (fun O' I' a' w' h1 h2 h3=> ?_)
    ·rw[hsz]at hkA;have hnm:s.nm=sA.nm:=by rw[hA.nm,st0.nm]
     rw[hnm]at hkA;exact hG _ _ _ hkA (.left _ _) O' I' a' w' h1.out (he1.trans h2) (h3.toK k0)
    ·rw[hsz]at hkB;have hnm:s.nm=sB.nm:=by rw[hB.nm,st0.nm]
     rw[hnm]at hkB;exact hG _ _ _ hkB (.right _ _) O' I' a' w' h1.out (he1.trans h2) (h3.toK k0)
   ·simp at h
 |false=>
  rw[hdd]at h;simp only[zb]at h;obtain⟨tr,s',hk,hr⟩:=T8 ho _ h;simp only[List.nil_append,U0]at hk;have hnm:=hr.nm;have hlt: ∀j∈List.range ops.size,j<ops.size:=fun j hj=>by simpa using hj
  cases draw with
  |false=>
   simp only[Bool.not_false,Bool.true_or,za]at hk;rw[<-hnm]at hk;exact fun O I a w Q hsim hG=>wp_region (AjL _ List.nodup_range hlt hr (hsim.inside _ _) fun O' I' a' w' h1 h2 h3=>hG _ _ _ hk (.refl _) O' I' a' w' h1.out h2 (h3.toK k0))
  |true=>
   cases hc:(B1 ops (Ky ops.toList []) tr&&Db ops&&P.follows .mixedOrders)with
   |false=>simp[hc]at hk|true=>
    simp only[hc,Bool.not_true,Bool.false_or,za]at hk;simp only[zd]at hc;rw[<-hnm]at hk;intro O I a w Q hsim hG;refine wp_region_any hc.2 ?_;obtain⟨hs1,he1⟩:=hsim.drew;refine Aps hc.1.2 ops.size (List.range ops.size) (by simp) List.pairwise_lt_range ?_ ?_ hlt ?_ hr hc.1.1 (hs1.inside _ _) fun O' I' a' w' h1 h2 h3=>hG _ _ _ hk (.refl _) O' I' a' w' h1.out (he1.trans h2) (h3.toK k0)
    ·intro j;by_cases hj:j<ops.size<;>simp[hj]
    ·intro j;by_cases hj:j<ops.size
     ·simp[hj]
     ·right;right;omega
    ·intro j o e hj;exfalso;by_cases hj':j<ops.size<;>simp[hj']at hj
def Z2(P:Program)(rest:Code)(l:Nat)(Q:Exit ->Act ->World ->Prop):Nat ->Act ->World ->Prop
 |0,_,_=>False|n+1,a,w=>rest.wp P (Exit.jump l (Z2 P rest l Q n) Q) a w
def Exit.sweep(P:Program)(c:Code)(Q:Exit ->Act ->World ->Prop):Exit ->Act ->World ->Prop
 | .goto l,a,w=> ∃rest n,findLabel c l=some rest/\Z2 P rest l Q n a w|e,a,w=>Q e a w
theorem Qj{c:Code}{a:Act}{w:World}{Q:Exit ->Act ->World ->Prop}(first:c.wp P (Exit.sweep P c Q) a w):(Code.scope c).wp P Q a w:=by
 intro b k cs;have key: ∀(l:Nat) (rest:Code),findLabel c l=some rest -> ∀n a w,Z2 P rest l Q n a w -> ∃e a' w',Q e a' w'/\Arrives P (lone (b.at a (.code rest:: .inScope c::k)) cs w) b k cs e a' w':=by
  intro l rest hf n;have hg:gotoIn l (.inScope c::k)=some (.code rest:: .inScope c::k):=by simp[gotoIn,hf]
  induction n with
  |zero=>intro a w h;exact h.elim|succ n ih=>
   intro a w h;obtain⟨e,a₁,w₁,hq,harr⟩:=h b (.inScope c::k) cs;cases e with
   |normal=>exact⟨.normal,a₁,w₁,hq,Steps.trans harr (.one step_inScope)⟩|exit id=>exact⟨.exit id,a₁,w₁,hq,fun k' hk=>harr k' (by simp[exitTo,hk])⟩
   |goto l'=>
    obtain⟨rfl,hJ'⟩:=hq;obtain⟨e₂,a₂,w₂,hq₂,harr₂⟩:=ih a₁ w₁ hJ';exact⟨e₂,a₂,w₂,hq₂, .of_steps (harr _ hg) harr₂⟩
   |ret=>exact⟨_,a₁,w₁,hq,harr⟩|panic ch=>exact⟨_,a₁,w₁,hq,harr⟩|outgrown=>exact⟨_,a₁,w₁,hq,harr⟩
 obtain⟨e,a₁,w₁,hq,harr⟩:=first b (.inScope c::k) cs
 cases e with
 |normal=>exact⟨.normal,a₁,w₁,hq, .head step_scope (Steps.trans harr (.one step_inScope))⟩|exit id=>exact⟨.exit id,a₁,w₁,hq,fun k' hk=> .head step_scope (harr k' (by simp[exitTo,hk]))⟩
 |goto l'=>
  obtain⟨rest,n,hf,hs⟩:=hq;have hg:gotoIn l' (.inScope c::k)=some (.code rest:: .inScope c::k):=by simp[gotoIn,hf]
  obtain⟨e₂,a₂,w₂,hq₂,harr₂⟩:=key l' rest hf n a₁ w₁ hs;exact⟨e₂,a₂,w₂,hq₂, .of_steps (.head step_scope (harr _ hg)) harr₂⟩
 |ret=>exact⟨_,a₁,w₁,hq, .of_steps (.one step_scope) harr⟩|panic ch=>exact⟨_,a₁,w₁,hq, .of_steps (.one step_scope) harr⟩|outgrown=>exact⟨_,a₁,w₁,hq, .of_steps (.one step_scope) harr⟩
end
section
variable {P:Program}{orc:Orc}{R:Type}
theorem Good.move{k0:Nat}{O O1:Bt}{I I1:Im}{w w1:World}{k:Out ->St ->Option (T R)}{t t1:T R}{Q:Exit ->Act ->World ->Prop}(h:Good k0 O I w k t Q)(hs:Sub t1 t)(he:Ext O I O1 I1 w w1)(hm:MonoK k0 O O1):Good k0 O1 I1 w1 k t1 Q:=
 fun out s' t' hk hs' O' I' a' w' h1 h2 h3=>h out s' t' hk (hs'.trans hs) O' I' a' w' h1 (he.trans h2) (hm.trans h3)
abbrev NF(k0:Nat)(O:Bt):Prop:= ∀x,x<k0 ->O x≠ .free
theorem S8{c:Code}{k0:Nat}{note:Option Note}{body:St ->(Out ->St ->Option (T R)) ->Option (T R)}
  (hbody: ∀s k t,body s k=some t -> ∀O I a w Q,Sim O I s a w ->NF k0 O ->Good k0 O I w k t Q ->c.wp P Q a w):
  ∀(n:Nat) {s:St} {k:Out ->St ->Option (T R)} {t:T R},E4 k0 note body n s k=some t -> ∀O I a w Q,Sim O I s a w ->NF k0 O ->Good k0 O I w k t Q ->Code.rounds P c Q n a w
 |0,s,k,t,h=>by simp[E4]at h|n+1,s,k,t,h=>by
  intro O I a w Q hsim hnf hG;simp only[E4]at h;rw[rounds_succ];refine hbody _ _ _ h O I a w _ hsim hnf fun out s' t' hk hsub O' I' a' w' h1 h2 h3=> ?_
  cases out with
  |norm=>
   simp only at hk;split at hk
   ·simp at hk
   ·rename_i s0 hs0;obtain⟨O0,I0,k1,k2,k3⟩:=Ql hs0 h1 (h3.ne hnf);exact S8 hbody n hk O0 I0 a' w' Q k1 ((h3.trans k3).ne hnf) (hG.move hsub (h2.trans k2) (h3.trans k3))
  |exit id=>exact hG _ _ _ hk hsub O' I' a' w' h1 h2 h3|goto l=>exact hG _ _ _ hk hsub O' I' a' w' h1 h2 h3|ret=>exact hG _ _ _ hk hsub O' I' a' w' h1 h2 h3
def Out.pass(l:Nat):Out ->Exit
 | .norm=> .goto l| .goto _=> .normal| .exit id=> .exit id| .ret=> .ret
def GoodP(l k0:Nat)(O:Bt)(I:Im)(w:World)(k:Out ->St ->Option (T R))(t:T R)(Q:Exit ->Act ->World ->Prop):Prop:=
 ∀out s' t',k out s'=some t' ->Sub t' t -> ∀O' I' a' w',Sim O' I' s' a' w' ->Ext O I O' I' w w' ->MonoK k0 O O' ->Q (out.pass l) a' w'
theorem GoodP.move{l k0:Nat}{O O1:Bt}{I I1:Im}{w w1:World}{k:Out ->St ->Option (T R)}{t t1:T R}{Q:Exit ->Act ->World ->Prop}(h:GoodP l k0 O I w k t Q)(hs:Sub t1 t)(he:Ext O I O1 I1 w w1)(hm:MonoK k0 O O1):GoodP l k0 O1 I1 w1 k t1 Q:=
 fun out s' t' hk hs' O' I' a' w' h1 h2 h3=>h out s' t' hk (hs'.trans hs) O' I' a' w' h1 (he.trans h2) (hm.trans h3)
theorem Rc{rest:Code}{l k0:Nat}{note:Option Note}{body:St ->(Out ->St ->Option (T R)) ->Option (T R)}
  (hbody: ∀s k t,body s k=some t -> ∀O I a w Q,Sim O I s a w ->NF k0 O ->GoodP l k0 O I w k t Q ->rest.wp P Q a w):
  ∀(n:Nat) {s:St} {k:Out ->St ->Option (T R)} {t:T R},E4 k0 note body n s k=some t ->(∀s',k .norm s'=none) -> ∀O I a w Q,Sim O I s a w ->NF k0 O ->GoodP l k0 O I w k t Q ->Z2 P rest l Q n a w
 |0,s,k,t,h=>by simp[E4]at h|n+1,s,k,t,h=>by
  intro hkn O I a w Q hsim hnf hG;simp only[E4]at h;refine hbody _ _ _ h O I a w _ hsim hnf fun out s' t' hk hsub O' I' a' w' h1 h2 h3=> ?_
  cases out with
  |norm=>
   simp only at hk;split at hk
   ·simp at hk
   ·rename_i s0 hs0;obtain⟨O0,I0,k1,k2,k3⟩:=Ql hs0 h1 (h3.ne hnf);exact⟨rfl,Rc hbody n hk hkn O0 I0 a' w' Q k1 ((h3.trans k3).ne hnf) (hG.move hsub (h2.trans k2) (h3.trans k3))⟩
  |exit id=>exact hG _ _ _ hk hsub O' I' a' w' h1 h2 h3|goto l'=>exact hG _ _ _ hk hsub O' I' a' w' h1 h2 h3|ret=>exact hG _ _ _ hk hsub O' I' a' w' h1 h2 h3
def Fro(c:Code):Option Nat ->Code ->Prop
 |none,r=>r=c|some l,r=>findLabel c l=some r
theorem Pg(l:Nat)(c:Code):Dg l c=(findLabel c l).isSome:=by
 induction c with
 |seq a b iha ihb=>
  simp only[Dg,findLabel,iha,ihb];cases findLabel a l<;>simp
 |label m=>simp only[Dg,findLabel];by_cases e:m==l<;>simp[e]|_=>rfl
theorem Acl{k0:Nat}{note:Option Note}{body:St ->(Out ->St ->Option (T R)) ->Option (T R)}{n:Nat}{s:St}{k:St ->Option (T R)}{t:T R}(h:E4 k0 note (fun s' k'=>body s' (Wv fun s''=>k' .ret s'')) n s (Aiq k)=some t):
  body s (Wv k)=some t:=by
 cases n with
 |zero=>simp[E4]at h|succ n=>simpa only[E4,Aiq]using h
theorem Good.gate{k0:Nat}{O:Bt}{I:Im}{w:World}{k:Out ->St ->Option (T R)}{t:T R}{Q:Exit ->Act ->World ->Prop}(h:Good k0 O I w k t Q):Good k0 O I w (Wv fun s'=>k .norm s') t Q:=fun out s' t' hk=>by
 cases out with
 |norm=>exact h .norm s' t' hk|_=>simp[Wv]at hk
theorem Akl(ho:B4 P orc)(ann:Ann)(k0 n:Nat)(c:Code): ∀(lab:Option Nat) (s:St) (k:Out ->St ->Option (T R)) (t:T R),evK P orc ann k0 n c lab s k=some t ->
  ∀r,Fro c lab r -> ∀O I a w Q,Sim O I s a w ->NF k0 O ->Good k0 O I w k t Q ->r.wp P Q a w:=by
 induction c with
 |skip=>
  intro lab s k t h r hr O I a w Q hsim hnf hG;cases lab with
  |some l=>simp[evK]at h|none=>
   cases hr;exact wp_skip (hG .norm s t (by simpa[evK]using h) (.refl _) O I a w hsim (.refl _ _ _) (.refl _ _))
 |region id ops draw=>
  intro lab s k t h r hr O I a w Q hsim hnf hG;cases lab with
  |some l=>simp[evK]at h|none=>
   cases hr;simp only[evK]at h;split at h
   ·exact Sw ho h k0 O I a w Q hsim hG
   ·split at h
    ·simp at h
    ·rename_i s0 hs0;obtain⟨O0,I0,k1,k2,k3⟩:=Ql hs0 hsim hnf;have h:=Acl h;exact Sw ho h k0 O0 I0 a w Q k1 (hG.move (.refl _) k2 k3).gate
 |seq x y ihx ihy=>
  intro lab s k t h r hr O I a w Q hsim hnf hG;have go: ∀(lab:Option Nat) (r:Code),Fro x lab r ->(evK P orc ann k0 n x lab s fun o s'=>match o with
   | .norm=>evK P orc ann k0 n y none s' k| .exit id=>k (.exit id) s'| .goto l=>k (.goto l) s'| .ret=>k .ret s')=some t ->(Code.seq r y).wp P Q a w:=by
   intro lab r hr h;refine wp_seq (ihx _ _ _ _ h r hr O I a w _ hsim hnf fun out s' t' hk hsub O' I' a' w' h1 h2 h3=> ?_);cases out with
   |norm=>exact ihy _ _ _ _ hk y rfl O' I' a' w' Q h1 (h3.ne hnf) (hG.move hsub h2 h3)|exit id=>exact hG _ _ _ hk hsub O' I' a' w' h1 h2 h3|goto l=>exact hG _ _ _ hk hsub O' I' a' w' h1 h2 h3|ret=>exact hG _ _ _ hk hsub O' I' a' w' h1 h2 h3
  cases lab with
  |none=>cases hr;simp only[evK]at h;exact go none x rfl h|some l=>
   simp only[evK]at h;have hr:findLabel (.seq x y) l=some r:=hr;simp only[findLabel]at hr;cases hh:findLabel x l with
   |some rest=>
    rw[hh]at hr;simp at hr;subst hr;rw[Pg,hh]at h;simp only[Option.isSome_some,za]at h;exact go (some l) rest hh h
   |none=>
    rw[hh]at hr;rw[Pg,hh]at h;simp only[Option.isSome_none,zb]at h;exact ihy (some l) _ _ _ h r hr O I a w Q hsim hnf hG
 |cond c x y ihx ihy=>
  intro lab s k t h r hr O I a w Q hsim hnf hG;cases lab with
  |some l=>simp[evK]at h|none=>
   cases hr;simp only[evK]at h;split at h
   ·rename_i b hb;have ev:a.eval c= .bool b:=A7 hb (Ms hsim.mem.gl hsim.frame c);cases b with
    |true=>exact wp_cond_true ev (ihx _ _ _ _ h x rfl O I a w Q hsim hnf hG)|false=>exact wp_cond_false ev (ihy _ _ _ _ h y rfl O I a w Q hsim hnf hG)
   ·simp at h
 |block id c ih=>
  intro lab s k t h r hr O I a w Q hsim hnf hG;cases lab with
  |some l=>simp[evK]at h|none=>
   cases hr;simp only[evK]at h;refine wp_block (ih _ _ _ _ h c rfl O I a w _ hsim hnf fun out s' t' hk hsub O' I' a' w' h1 h2 h3=> ?_);cases out with
   |norm=>exact hG _ _ _ hk hsub O' I' a' w' h1 h2 h3|exit j=>
    by_cases hj:j=id
    ·subst hj;simp only[beq_self_eq_true,za]at hk;simp only[Out.toExit,Exit.inBlock,if_true];exact hG _ _ _ hk hsub O' I' a' w' h1 h2 h3
    ·have:(j==id)=false:=by simpa using hj
     simp only[this,zb]at hk;simp only[Out.toExit,Exit.inBlock,hj,if_false];exact hG _ _ _ hk hsub O' I' a' w' h1 h2 h3
   |goto l=>exact hG _ _ _ hk hsub O' I' a' w' h1 h2 h3|ret=>exact hG _ _ _ hk hsub O' I' a' w' h1 h2 h3
 |loop c ih=>
  intro lab s k t h r hr O I a w Q hsim hnf hG;cases lab with
  |some l=>simp[evK]at h|none=>
   cases hr;simp only[evK]at h;split at h
   ·simp at h
   ·rename_i s0 hs0;obtain⟨O0,I0,k1,k2,k3⟩:=Ql hs0 hsim hnf;refine wp_loop_rounds n (S8 (P:=P) (c:=c) (fun s k t hb O I a w Q h1 h2 h3=>ih none _ _ _ hb c rfl O I a w Q h1 h2 h3) n h O0 I0 a w Q k1 (k3.ne hnf) (hG.move (.refl _) k2 k3))
 |scope c ih=>
  intro lab s k t h r hr O I a w Q hsim hnf hG;cases lab with
  |some l=>simp[evK]at h|none=>
   cases hr;simp only[evK]at h;refine Qj (ih _ _ _ _ h c rfl O I a w _ hsim hnf fun out s' t' hk hsub O' I' a' w' h1 h2 h3=> ?_);cases out with
   |norm=>exact hG _ _ _ hk hsub O' I' a' w' h1 h2 h3|exit id=>exact hG _ _ _ hk hsub O' I' a' w' h1 h2 h3|ret=>exact hG _ _ _ hk hsub O' I' a' w' h1 h2 h3|goto l=>
    simp only at hk;split at hk
    ·rename_i rest hrest;split at hk
     ·simp at hk
     ·rename_i s0 hs0;obtain⟨O0,I0,k1,k2,k3⟩:=Ql hs0 h1 (h3.ne hnf);refine⟨rest,n,hrest,Rc (P:=P) (l:=l) ?_ n hk (fun _=>rfl) O0 I0 a' w' Q k1 ((h3.trans k3).ne hnf) ?_⟩
      ·intro s2 k2 t2 hb O2 I2 a2 w2 Q2 j1 j2 j3;refine ih _ _ _ _ hb rest hrest O2 I2 a2 w2 Q2 j1 j2 fun out s3 t3 hk3 hsub3 O3 I3 a3 w3 i1 i2 i3=> ?_
       cases out with
       |goto m=>
        by_cases hm:m=l
        ·subst hm;simp only[beq_self_eq_true,za]at hk3;exact j3 _ _ _ hk3 hsub3 O3 I3 a3 w3 i1 i2 i3
        ·have:(m==l)=false:=by simpa using hm
         simp only[this,zb]at hk3;simp at hk3
       |norm=>exact j3 _ _ _ hk3 hsub3 O3 I3 a3 w3 i1 i2 i3|exit id=>exact j3 _ _ _ hk3 hsub3 O3 I3 a3 w3 i1 i2 i3|ret=>exact j3 _ _ _ hk3 hsub3 O3 I3 a3 w3 i1 i2 i3
      ·intro out s3 t3 hk3 hsub3 O3 I3 a3 w3 i1 i2 i3;have hG':=hG.move hsub (h2.trans k2) (h3.trans k3);cases out with
       |norm=>simp at hk3|goto m=>exact hG' .norm _ _ hk3 hsub3 O3 I3 a3 w3 i1 i2 i3|exit id=>exact hG' (.exit id) _ _ hk3 hsub3 O3 I3 a3 w3 i1 i2 i3|ret=>exact hG' .ret _ _ hk3 hsub3 O3 I3 a3 w3 i1 i2 i3
    ·simp at hk
 |label m=>
  intro lab s k t h r hr O I a w Q hsim hnf hG;cases lab with
  |none=>
   cases hr;exact wp_label (hG .norm s t (by simpa[evK]using h) (.refl _) O I a w hsim (.refl _ _ _) (.refl _ _))
  |some l=>
   simp only[evK]at h;have hr:findLabel (.label m) l=some r:=hr;simp only[findLabel]at hr;by_cases e:m=l
   ·subst e;simp at hr;subst hr;simp at h;exact wp_skip (hG .norm s t h (.refl _) O I a w hsim (.refl _ _ _) (.refl _ _))
   ·simp[e]at hr
 |goto l=>
  intro lab s k t h r hr O I a w Q hsim hnf hG;cases lab with
  |some l=>simp[evK]at h|none=>cases hr;exact wp_goto (hG (.goto l) s t (by simpa[evK]using h) (.refl _) O I a w hsim (.refl _ _ _) (.refl _ _))
 |exit id=>
  intro lab s k t h r hr O I a w Q hsim hnf hG;cases lab with
  |some l=>simp[evK]at h|none=>cases hr;exact wp_exit (hG (.exit id) s t (by simpa[evK]using h) (.refl _) O I a w hsim (.refl _ _ _) (.refl _ _))
 |ret=>
  intro lab s k t h r hr O I a w Q hsim hnf hG;cases lab with
  |some l=>simp[evK]at h|none=>cases hr;exact wp_ret (hG .ret s t (by simpa[evK]using h) (.refl _) O I a w hsim (.refl _ _ _) (.refl _ _))
 |rangeFunc f params assign body _ _=>intro lab s k t h;simp[evK]at h|refuse why=>intro lab s k t h;simp[evK]at h
end
section
variable {P:Program}{orc:Orc}{R:Type}
def Ku(tmps:Array Value):ResultVar ->Sem Value
 | .tmp t=>pure (tmps.getD t undef)| .cell a t=>do loadVar t (<-asAddr (tmps.getD a undef))
theorem Vz{O:Bt}{I:Im}{s:St}{a:Act}{w:World}(hsim:Sim O I s a w): ∀(rs:List ResultVar) {l:List (Bool×List C)},
  rs.foldr (fun r acc=>match acc with
  |none=>none|some l=>match r with
   | .tmp t=>(match s.F.getD t .u with
    | .c x=>some ((false,[x])::l)| .agg cs=>some ((true,cs)::l)|_=>none)
   | .cell a t=>(match s.F.getD a .u,aggT P t,Bm P t with
    | .c (.ptr h off),some ag,some n=>(match Gl s.H h 0 0 off (bif ag then n else 1) ag with
     |some (.c x)=>some ((false,[x])::l)|some (.agg cs)=>some ((true,cs)::l)|_=>none)
    |_,_,_=>none)) (some [])=some l ->
  ∃vs:List Value,(rs.mapM (Ku a.tmps)).run P w= .ok vs w/\l.length=vs.length/\ ∀(i:Nat) p v,l[i]? =some p ->vs[i]? =some v ->RepP O w I p v:=by
 intro rs;induction rs with
 |nil=>intro l h;simp at h;subst h;exact⟨[],rfl,rfl,fun i p v h=>by simp at h⟩
 |cons r rs ih=>
  intro l h;rw[List.foldr_cons]at h;split at h
  ·simp at h
  ·rename_i l0 hl0;obtain⟨vs,hrun,hlen,hrep⟩:=ih hl0;have fin: ∀(p:Bool×List C) (v:Value),(Ku a.tmps r).run P w= .ok v w ->RepP O w I p v ->l=p::l0 ->
    ∃vs:List Value,((r::rs).mapM (Ku a.tmps)).run P w= .ok vs w/\l.length=vs.length/\ ∀(i:Nat) p v,l[i]? =some p ->vs[i]? =some v ->RepP O w I p v:=by
    intro p v hv hp hl
    subst hl
    refine⟨v::vs,by simp[List.mapM_cons,hv,hrun],by simp[hlen],fun i q y h1 h2=> ?_⟩
    cases i with
    |zero=>simp at h1 h2;subst h1 h2;exact hp|succ i=>simp at h1 h2;exact hrep i q y h1 h2
   cases r with
   |tmp t=>
    simp only at h;have hx:=Ms hsim.mem.gl hsim.frame (.tmp t);simp only[opA]at hx;split at h
    ·rename_i x hx';rw[hx']at hx;simp at h;exact fin (false,[x]) (a.eval (.tmp t)) rfl ⟨x,rfl,hx⟩ h.symm
    ·rename_i cs hx';rw[hx']at hx;simp at h;exact fin (true,cs) (a.eval (.tmp t)) rfl hx h.symm
    ·simp at h
   |cell ad t=>
    simp only at h;have hx:=Ms hsim.mem.gl hsim.frame (.tmp ad);simp only[opA]at hx;split at h
    ·rename_i k off ag n hx' hag hsz;rw[hx']at hx;have hx:PtrAt O k off (a.eval (.tmp ad)):=hx;obtain⟨b,hv,hb⟩:=hx;have hload: ∀y,Gl s.H k 0 0 off (bif ag then n else 1) ag=some y -> ∃v,(Ku a.tmps (.cell ad t)).run P w= .ok v w/\RepA O w I y v:=by
      intro y hy;have hb:=hb.resolve_left (G7 hsim.mem hy);obtain⟨v,hrun',hx''⟩:=Uf (P:=P) hsim.mem hag hsz (b:=b) (by rw[hb];rfl) (fun ob m e=>by rw[hb]at e;cases e) hy;simp only[Nat.zero_mul,Nat.zero_add]at hrun';have hv':a.tmps.getD ad undef= .pointer (some ⟨b,off,none⟩):=hv;refine⟨v, ?_,hx''⟩;simp only[Ku,hv',asAddr,Sem.run_bind,Sem.run_pure,Result.andThen_ok,hrun']
     split at h
     ·rename_i x hy;obtain⟨v,h1,h2⟩:=hload _ hy;simp at h;exact fin (false,[x]) v h1 ⟨x,rfl,h2⟩ h.symm
     ·rename_i cs hy;obtain⟨v,h1,h2⟩:=hload _ hy;simp at h;exact fin (true,cs) v h1 h2 h.symm
     ·simp at h
    ·simp at h
theorem Qs: ∀{H:Hp} {i:Nat},seqN i H=true -> ∀h,look H h=none↔ ¬(i<=h/\h<i+H.length)
 |[],i,_,h=>by simp[look]|(k,b)::r,i,hs,h=>by
  simp only[seqN,zd]at hs;have:=zg hs.1;subst this;have ih:=Qs hs.2 h;simp only[look,beqD,List.length_cons];by_cases e:h=k
  ·subst e;simp
  ·simp only[e,decide_false,zb,ih];omega
theorem Qw{O:Bt}{I:Im}{s:St}{a:Act}{w:World}{fn:Func}(hsim:Sim O I s a w){l:List (Bool×List C)}{x:AV}(hl:G2 P fn s=some l)(hof:Fj l=some x):
  ∃v,(results fn a.tmps).run P w= .ok v w/\RepA O w I x v:=by
 obtain⟨us,hrun,hlen,hrep⟩:=Vz (P:=P) hsim fn.results.toList hl;have hm:(fn.results.mapM (Ku a.tmps)).run P w= .ok us.toArray w:=by
  rw[Array.mapM_eq_mapM_toList,Sem.run_map,hrun];rfl
 have e:results fn a.tmps=(fn.results.mapM (Ku a.tmps))>>=fun vs=>pure (if h:vs.size=1 then vs[0]else .tuple vs):=by
  unfold results;congr 2
 rw[e];simp only[Sem.run_bind,hm,Result.andThen_ok,Sem.run_pure];refine⟨_,rfl, ?_⟩;unfold Fj at hof;split at hof
 ·rename_i cs;simp at hof;subst hof;obtain⟨v,rfl⟩: ∃v,us=[v]:=by
   match us,hlen with
   |[v],_=>exact⟨v,rfl⟩
  exact hrep 0 _ v rfl rfl
 ·rename_i c';simp at hof;subst hof;obtain⟨v,rfl⟩: ∃v,us=[v]:=by
   match us,hlen with
   |[v],_=>exact⟨v,rfl⟩
  obtain⟨c'',h1,h2⟩:=hrep 0 _ v rfl rfl;have:c''=c':=by simpa using h1.symm
  subst this;exact h2
 ·simp at hof
 ·rename_i hn1 hn2 hn3;simp at hof;subst hof;have hne:us.toArray.size≠1:=by
   intro h1;have:l.length=1:=by rw[hlen];simpa using h1
   obtain⟨p,hp⟩: ∃p,l=[p]:=by
    match l,this with
    |[p],_=>exact⟨p,rfl⟩
   exact hn3 p hp
  rw[dif_neg hne];exact⟨us.toArray,rfl,by simpa using hlen,fun i p v h1 h2=>hrep i p v h1 (by simpa using h2)⟩
theorem Abd(ho:B4 P orc){ann:Ann}{n:Nat}{f:FuncId}{fn:Func}{c:Code}{args:List AV}{H:Hp}{x:AV}{H':Hp}{t:T (AV×Hp)}(hf:P.funcs[f]? =some fn)(hb:fn.body=some c)(hH:seqN 0 H=true)
  (h:W7 P orc ann n fn c args H=some t) (ht: ∀y,Leaf t y ->y=(x,H')):CR P f args H x H':=by
 unfold W7 W6 at h;intro O I w vs hmem hargs;have hlk:=fun h=>Qs hH h
 have hnf:NF H.length O:=fun q hq=>fun e=>by
  have:=(hmem.free_iff.1 e);exact((hlk q).1 this) ⟨Nat.zero_le _,by omega⟩
 have hfree: ∀q,H.length<=q ->O q= .free:=fun q hq=>hmem.dom q ((hlk q).2 (by omega))
 refine calls_of_wp hf hb (Akl ho ann H.length n c none _ _ _ h c rfl O I _ w _ ⟨?_,hmem,rfl,fun q hq=>(hlk q).2 (by have:H.length<=q:=hq;omega)⟩ hnf ?_)
 ·refine⟨by simp[hargs.1],fun i y v h1 h2=> ?_⟩;simp only at h1 h2;rw[List.getElem?_append]at h1;rw[Array.getElem?_append]at h2;by_cases hi:i<args.length
  ·rw[if_pos hi]at h1;rw[if_pos (hargs.1▸hi)]at h2;exact hargs.2 i y v h1 h2
  ·rw[if_neg hi]at h1;rw[if_neg (hargs.1▸hi)]at h2;rw[List.getElem?_replicate]at h1;rw[Array.getElem?_replicate]at h2;split at h1
   ·split at h2
    ·simp at h1 h2;subst h1 h2;exact Lc
    ·simp at h2
   ·simp at h1
 ·intro out s' t' hk hsub O' I' a' w' hsim hext hmono;have fin:(out= .norm\/out= .ret) ->(match G2 P fn s' with
   |some l=>(match Fj l with
    |some x=>some (T.leaf (renA (newN H.length (newL H.length s'.H (Ev x))) x,Km H.length s'.H (newL H.length s'.H (Ev x))))|none=>none)
   |none=>none)=some t' ->a'.defers=[]/\ ∃v,(results fn a'.tmps).run P w'= .ok v w'/\ ∃v' O'' I'',Ending.returned v= .returned v'/\RelH O'' H' I'' w'/\RepA O'' w' I'' x v'/\Ext O I O'' I'' w w'/\Mono O O'':=by
   intro _ hk;split at hk
   ·rename_i l hl;split at hk
    ·rename_i y hy;simp at hk;subst hk;obtain⟨v,hv,hx⟩:=Qw (P:=P) hsim hl hy;have he:=ht _ (hsub _ rfl);simp only[Prod.mk.injEq]at he;obtain⟨e1,e2⟩:=he;obtain⟨hnd,hL⟩:=Q8 H.length s'.H (Ev y);obtain⟨h1,h2,h3⟩:=Rn hsim.mem (hmono.ne hnf) hnd hL;rw[e2]at h1;have hx':=hx.ren (Hb H.length (newL H.length s'.H (Ev y)));rw[e1]at hx';refine⟨hsim.defers,v,hv,v,_,I',rfl,h1,hx',hext.trans h2,fun q=> ?_⟩;by_cases hq:q<H.length
     ·have:=(hmono.trans h3) q hq (hnf q hq);cases e:O q with
      |free=>trivial|dead=>rw[e]at this;simpa using this|«at» b=>rw[e]at this;exact this|row b m=>rw[e]at this;exact this
     ·rw[hfree q (by omega)];trivial
    ·simp at hk
   ·simp at hk
  cases out with
  |exit id=>simp[endK]at hk|goto l=>simp[endK]at hk|norm=>exact fin (.inl rfl) hk|ret=>exact fin (.inr rfl) hk
theorem CX.of_cr{f:FuncId}{fn:Func}{c:Code}{args:List AV}{H:Hp}{x:AV}{H':Hp}(hf:P.funcs[f]? =some fn)(hb:fn.body=some c)(h:CR P f args H x H'):CX P f args H x H':=by
 unfold CX;rw[hf];simp only[hb,Option.isNone_some,Bool.false_eq_true,if_false];exact h
theorem Orc.cons_ok{f0:FuncId}{g:(R:Type) ->List AV ->Hp ->(AV ->Hp ->Option (T R)) ->Option (T R)}{rest:Orc}(hr:B4 P rest)
  (hg: ∀(R:Type) args H (k:AV ->Hp ->Option (T R)) t,g R args H k=some t -> ∃x H',k x H'=some t/\CX P f0 args H x H'):B4 P (Orc.cons f0 g rest):=fun R f args H k t h=>by
 unfold Orc.cons at h;cases hf:Nat.beq f f0 with
 |false=>rw[hf]at h;exact hr R f args H k t h|true=>rw[hf]at h;have e:=zg hf;subst e;exact hg R args H k t h
theorem Orc.nil_ok(P:Program):B4 P Orc.nil:=fun R f args H k t h=>by simp[Orc.nil]at h
end
inductive Shp (P:Program):TypeId ->List D ->Prop
 |bool {t:TypeId} (hu:P.underlying t=some .bool) (b:Bool):Shp P t [.v (.bool b)]|int {t:TypeId} {k:IntKind} (hu:P.underlying t=some (.int k)) (n:Int) (hw:(Lit.int k n).wf=true):Shp P t [.v (.int k n)]|str {t:TypeId} (hu:P.underlying t=some .string) (s:BA) (hs:s.size<=maxLen):Shp P t [.v (.string s)]|sl {t e:TypeId} (hu:P.underlying t=some (.slice e)) (n:Nat) (f:RD) (hn:n<=maxLen) (hf: ∀i,i<n ->Shp P e (f i)):Shp P t [.sl (P.cellsOf e) n f]|struct {t:TypeId} {fs:Array Field} (hu:P.underlying t=some (.struct fs)) (ps:List (List D)) (hl:ps.length=fs.toList.length) (hp: ∀(i:Nat) f p,fs.toList[i]? =some f ->ps[i]? =some p ->Shp P f.type p):Shp P t ps.flatten|array {t e:TypeId} {n:Nat} (hu:P.underlying t=some (.array n e)) (ps:List (List D)) (hl:ps.length=n) (hp: ∀p∈ps,Shp P e p):Shp P t ps.flatten
def Ha(P:Program)(S:List TypeId):List Field ->Nat ->Option Nat
 |[],off=>some off|f::r,off=>if f.offset=off/\S.contains f.type=true then Ha P S r (off+P.cellsOf f.type)else none
def okT(P:Program)(S:List TypeId)(t:TypeId):Bool:=
 match P.underlying t with
 |some .bool=>true|some (.int _)=>true|some .string=>true|some (.slice e)=>S.contains e&&decide (0<P.cellsOf e)|some (.struct fs)=>Ha P S fs.toList 0==some (P.cellsOf t)|some (.array n e)=>S.contains e&&(n*P.cellsOf e==P.cellsOf t)|_=>false
section
variable {H:Type}{enc:TypeId×Value ->H}{P:Program}{w:World}{spare:Nat ->Bool}{held:Bool}{O:Bt}
def allI(w:World):Im:=fun b _=>b<w.heap.size
theorem Aeb{I:Im}:RepCs O w I [] []:=⟨rfl,fun i c v h=>by simp at h⟩
theorem Uc{J M:Type}{g:J ->Option M}: ∀{l:List J} {r:List M},l.mapM g=some r ->r.length=l.length/\ ∀(i:Nat) x,l[i]? =some x -> ∃y,r[i]? =some y/\g x=some y
 |[],r,h=>by simp at h;subst h;exact⟨rfl,fun i x h=>by simp at h⟩
 |a::l,r,h=>by
  rw[List.mapM_cons]at h;simp only[bind,Option.bind_eq_some_iff,pure,zj]at h;obtain⟨y,hy,r',hr',rfl⟩:=h;obtain⟨h1,h2⟩:=Uc hr';refine⟨by simp[h1],fun i x hx=> ?_⟩;cases i with
  |zero=>simp at hx;subst hx;exact⟨y,rfl,hy⟩|succ i=>simp at hx;obtain⟨z,hz,hg⟩:=h2 i x hx;exact⟨z,by simpa using hz,hg⟩
theorem Agf{a:Addr}{n:Nat}{cs:List Value}(h:w.cells? 0 a n=some cs):cs.length=n/\ ∀(j:Nat) v,cs[j]? =some v ->w.cell? (a.add j)=some v:=by
 unfold World.cells? at h;rw[if_pos (Nat.zero_le _)]at h;obtain⟨h1,h2⟩:=Uc h;refine⟨by simpa using h1,fun j v hv=> ?_⟩;have hj:j<n:=by have:=(List.getElem?_eq_some_iff.1 hv).1;simp at h1;omega
 obtain⟨y,hy,hg⟩:=h2 j j (by simp[hj]);rw[hv]at hy;simp at hy;subst hy;exact hg
theorem AdL{a:Addr}{j:Nat}{v:Value}(h:w.cell? (a.add j)=some v):(a.add j).spot=none:=World.cell?_spot h
theorem Kv: ∀(xs:List (TypeId×List Value)),(∀x∈xs,∃ds:List D,RepCs O w (allI w) (ds.map .d) x.2/\Shp P x.1 ds) ->
  ∃ps:List (List D),ps.length=xs.length/\RepCs O w (allI w) (ps.flatten.map .d) (xs.map (·.2)).flatten/\ ∀(i:Nat) x p,xs[i]? =some x ->ps[i]? =some p ->Shp P x.1 p
 |[],_=>⟨[],rfl,Aeb,fun i x p h=>by simp at h⟩
 |x::xs,h=>by
  obtain⟨ds,h1,h2⟩:=h x (by simp);obtain⟨ps,hl,hr,hs⟩:=Kv xs (fun y hy=>h y (by simp[hy]));refine⟨ds::ps,by simp[hl],by simpa using h1.append hr,fun i y p hy hp=> ?_⟩;cases i with
  |zero=>simp at hy hp;subst hy hp;exact h2|succ i=>simp at hy hp;exact hs i y p hy hp
theorem Kk{S:List TypeId}{cs:List Value}: ∀(fs:List Field) (off:Nat) {m:Nat},Ha P S fs off=some m ->m<=cs.length ->
  (fs.map fun f=>(cs.drop f.offset).take (P.cellsOf f.type)).flatten=(cs.drop off).take (m -off)/\off<=m
 |[],off,m,h,hm=>by simp[Ha]at h;subst h;simp|f::fs,off,m,h,hm=>by
  simp only[Ha]at h;split at h
  ·rename_i hc;obtain⟨rfl,_⟩:=hc;obtain⟨h1,h2⟩:=Kk fs _ h hm;refine⟨?_,by omega⟩;rw[List.map_cons,List.flatten_cons,h1];have e:m -f.offset=P.cellsOf f.type+(m -(f.offset+P.cellsOf f.type)):=by omega
   rw[e,List.take_add,List.drop_drop]
  ·simp at h
theorem Ph{S:List TypeId}: ∀{fs:List Field} {off m:Nat},Ha P S fs off=some m -> ∀f∈fs,S.contains f.type=true
 |[],off,m,h,f,hf=>by simp at hf|g::fs,off,m,h,f,hf=>by
  simp only[Ha]at h;split at h
  ·rename_i hc;simp at hf;rcases hf with rfl|hf
   ·exact hc.2
   ·exact Ph h f hf
  ·simp at h
theorem Kl{cs:List Value}(c:Nat): ∀(n j:Nat),(j+n)*c<=cs.length ->((List.range' j n).map fun i=>(cs.drop (i*c)).take c).flatten=(cs.drop (j*c)).take (n*c)
 |0,j,_=>by simp|n+1,j,h=>by
  rw[List.range'_succ,List.map_cons,List.flatten_cons,Kl c n (j+1) (by rw[show j+1+n=j+(n+1)by omega];exact h)];have e:(n+1)*c=c+n*c:=by rw[Nat.succ_mul];omega
  rw[e,List.take_add,List.drop_drop,show j*c+c=(j+1)*c by rw[Nat.succ_mul]]
theorem Aet(S:List TypeId)(hS:S.all (okT P S)=true): ∀(fuel:Nat) (t:TypeId) (cs:List Value) (d:DataW H) (ps:List MemPlace),S.contains t=true ->DataW.trod enc P w 0 spare held fuel t cs=some (d,ps) ->
  ∃ds:List D,RepCs O w (allI w) (ds.map .d) cs/\Shp P t ds:=by
 intro fuel;induction fuel with
 |zero=>intro t cs d ps _ h;simp[DataW.trod]at h|succ fuel ih=>
  intro t cs d ps ht h;have hok:okT P S t=true:=List.all_eq_true.1 hS t (by simpa using ht);have single: ∀{x:D} {v:Value},RepD w (allI w) x v ->RepCs O w (allI w) ([x].map .d) [v]:=fun hr=>
   ⟨rfl,fun i c v h1 h2=>by
    cases i with
    |zero=>simp at h1 h2;subst h1 h2;exact hr|succ i=>simp at h1⟩
  unfold okT at hok;split at hok
  ·rename_i hu;obtain⟨b,rfl,_⟩:=DataW.trod_bool hu h;exact⟨_,single (.v _ rfl), .bool hu b⟩
  ·rename_i k hu;obtain⟨n,rfl,_,hw⟩:=DataW.trod_int hu h;exact⟨_,single (.v _ rfl), .int hu n hw⟩
  ·rename_i hu;obtain⟨s,rfl,_,hs⟩:=DataW.trod_string hu h;exact⟨_,single (.v _ rfl), .str hu s hs⟩
  ·rename_i e hu;simp only[zd,zi]at hok;simp only[DataW.trod,hu]at h;split at h
   all_goals first
    |(rename_i h1 h2;simp at h1;done)|(rename_i h1;simp at h1;done)|skip
   ·rename_i h1
    exact⟨[.sl (P.cellsOf e) 0 fun _=>[]],single (.nil _ _), .sl hu 0 _ (by simp) (fun i hi=>by omega)⟩
   ·rename_i e' a len cap h1
    obtain rfl:e'=e:=by simpa using h1.symm
    split at h
    ·rename_i hc
     simp only[Option.bind_eq_some_iff]at h
     obtain⟨elems,hel,_⟩:=h
     obtain⟨hlen,hget⟩:=Uc hel
     have hex: ∀i,∃ds:List D,∃vs:List Value,i<len ->vs.length=P.cellsOf e'/\(∀(j:Nat) v,vs[j]? =some v ->w.cell? ((a.add (i*P.cellsOf e')).add j)=some v)/\RepCs O w (allI w) (ds.map .d) vs/\Shp P e' ds:=by
      intro i;by_cases hi:i<len
      ·obtain⟨y,_,hy⟩:=hget i i (by simp[hi]);simp only[Option.bind_eq_some_iff]at hy;obtain⟨vs,hvs,hd⟩:=hy;obtain⟨hl,hcell⟩:=Agf hvs;obtain⟨ds,hr,hs⟩:=ih e' vs _ _ hok.1 hd;exact⟨ds,vs,fun _=>⟨hl,hcell,hr,hs⟩⟩
      ·exact⟨[],[],fun h=>absurd h hi⟩
     obtain⟨f,hf⟩:=Classical.axiomOfChoice hex
     obtain⟨g,hg⟩:=Classical.axiomOfChoice hf
     rcases Nat.eq_zero_or_pos len with h0|h0
     ·subst h0
      exact⟨[.sl (P.cellsOf e') 0 fun _=>[]],single (.emp _ _ a cap), .sl hu 0 _ (by simp) (fun i hi=>by omega)⟩
     ·have hspot:a.spot=none:=by
       obtain⟨hl,hcell,_,_⟩:=hg 0 h0;have hv:=hcell 0 ((g 0)[0]'(by omega)) (by simp);have hsp:=AdL hv;simpa[Addr.add]using hsp
      obtain⟨b,off,sp⟩:=a
      simp only at hspot
      subst hspot
      refine⟨[.sl (P.cellsOf e') len f],single ?_, .sl hu len f (by omega) (fun i hi=>(hg i hi).2.2.2)⟩
      have hflen: ∀i,i<len ->(f i).length=P.cellsOf e':=fun i hi=>by
       obtain⟨hl,_,hr,_⟩:=hg i hi;have:=hr.1;simp at this;omega
      have hcellg: ∀i j x,i<len ->(f i)[j]? =some x ->w.cell? ⟨b,off+i*P.cellsOf e'+j,none⟩=some ((g i).getD j undef):=fun i j x hi hj=>by
       obtain⟨hl,hcell,hr,_⟩:=hg i hi;have hjl:j<(g i).length:=by
        have h2:=(List.getElem?_eq_some_iff.1 hj).1;rw[hflen i hi]at h2;omega
       have h3:=hcell j (g i)[j] (by simp[hjl]);rw[Cx,Cx]at h3;rw[h3];simp[List.getD,hjl]
      refine .sl len f (P.cellsOf e') b off cap (fun i j=>(g i).getD j undef) hc.2.1 hflen hcellg (fun i j x hi hj=>World.block_lt_of_cell? _ _ (hcellg i j x hi hj)) (fun i j x hi hj=> ?_)
      obtain⟨hl,hcell,hr,_⟩:=hg i hi
      have hjl:j<(g i).length:=by
       have h2:=(List.getElem?_eq_some_iff.1 hj).1;rw[hflen i hi]at h2;omega
      have:=hr.2 j (.d x) (g i)[j] (by simp[hj]) (by simp[hjl])
      have e2:(g i).getD j undef=(g i)[j]:=by simp[List.getD,hjl]
      show RepD w (allI w) x ((g i).getD j undef)
      rw[e2]
      exact this
    ·simp at h
   all_goals simp at h
  ·rename_i fs hu;simp only[beq_iff_eq]at hok;obtain⟨xs,n,hfuel,_,hlen,hsz,hget⟩:=DataW.trod_struct hu h;obtain rfl:n=fuel:=by omega
   obtain⟨ps,hpl,hpr,hps⟩:=Kv (P:=P) (w:=w) (O:=O) (fs.toList.map fun f=>(f.type,(cs.drop f.offset).take (P.cellsOf f.type))) (by
    intro x hx;obtain⟨f,hf,rfl⟩:=List.mem_map.1 hx;obtain⟨i,hi,rfl⟩:=List.getElem_of_mem hf;have hi':i<fs.size:=by simpa using hi
    have hy:=hget i fs[i] (by simp[hi']);have hx2:xs[i]? =some xs[i]:=by simp[show i<xs.length by omega]
    rw[hx2]at hy;simpa using ih _ _ _ _ (Ph hok _ hf) hy)
   have hfl:=(Kk (cs:=cs) fs.toList 0 hok (by omega)).1;simp only[List.map_map,Function.comp_def]at hpr;rw[hfl]at hpr;exact⟨ps.flatten,by simpa[<-hlen]using hpr, .struct hu ps (by simpa using hpl) (fun i f p hf hp=>hps i (f.type,(cs.drop f.offset).take (P.cellsOf f.type)) p (by simp at hf;simp[hf]) hp)⟩
  ·rename_i n e hu;simp only[zd,beq_iff_eq]at hok;obtain⟨xs,m,hfuel,_,hlen,hsz,hget⟩:=DataW.trod_array hu h;obtain rfl:m=fuel:=by omega
   obtain⟨ps,hpl,hpr,hps⟩:=Kv (P:=P) (w:=w) (O:=O) ((List.range n).map fun i=>(e,(cs.drop (i*P.cellsOf e)).take (P.cellsOf e))) (by
    intro x hx;obtain⟨i,hi,rfl⟩:=List.mem_map.1 hx;simp at hi;have hy:=hget i hi;have hx2:xs[i]? =some xs[i]:=by simp[show i<xs.length by omega]
    rw[hx2]at hy;exact ih _ _ _ _ hok.1 hy)
   have hfl:=Kl (cs:=cs) (P.cellsOf e) n 0 (by simp;omega);simp only[List.map_map,Function.comp_def,List.range_eq_range']at hpr;rw[hfl]at hpr;refine⟨ps.flatten,by simpa[hok.2,<-hlen]using hpr, .array hu ps (by simpa using hpl) (fun p hp=> ?_)⟩;obtain⟨i,hi,rfl⟩:=List.getElem_of_mem hp;have hi':i<n:=by simp at hpl;omega
   exact hps i (e,(cs.drop (i*P.cellsOf e)).take (P.cellsOf e)) ps[i] (by simp[hi']) (by simp[hi])
  ·simp at hok
theorem AbZ{r:Reach}{base:Nat}{t:TypeId}{v:Value}{S:List TypeId}(hok:okT P S t=true)(ha:aggT P t=some false)(h:Value.okWide P w r base t v):v.cells= #[v]:=by
 unfold okT at hok;unfold aggT at ha;unfold Value.okWide at h;split at hok
 all_goals (rename_i hu;simp only[hu]at ha h)
 all_goals first
  |(simp at ha;done)|(simp only[Cell.okWide,hu]at h;cases v<;>first|rfl|(simp[Cell.ok,hu]at h))|(simp at hok;done)
theorem AiW{S:List TypeId}(hS:S.all (okT P S)=true){r:Reach}{base:Nat}{t:TypeId}{v:Value}{d:DataW H}{ps:List MemPlace}(ht:S.contains t=true)(hv:Value.okWide P w r base t v)
  (h:DataW.Trod enc P w 0 spare held t v d ps):
  ∃ds av,RepA O w (allI w) av v/\Shp P t ds/\((aggT P t=some true/\av= .agg (ds.map .d))\/(aggT P t=some false/\ ∃x,ds=[x]/\av= .c (.d x))):=by
 obtain⟨fuel,hf⟩:=h;have hok:okT P S t=true:=List.all_eq_true.1 hS t (by simpa using ht);obtain⟨ds,hr,hs⟩:=Aet (O:=O) S hS fuel t _ d ps ht hf;cases ha:aggT P t with
 |none=>unfold aggT at ha;unfold okT at hok;split at ha<;>simp_all|some b=>
  cases b with
  |true=>
   have: ∃cs,v= .agg cs:=by
    unfold aggT at ha;unfold Value.okWide at hv;split at ha
    ·rename_i hu;simp only[hu]at hv;obtain⟨cs,rfl,_⟩:=hv;exact⟨cs,rfl⟩
    ·rename_i hu;simp only[hu]at hv;obtain⟨cs,rfl,_⟩:=hv;exact⟨cs,rfl⟩
    ·simp at ha
    ·simp at ha
   obtain⟨cs,rfl⟩:=this;exact⟨ds, .agg (ds.map .d),⟨cs,rfl,hr⟩,hs, .inl ⟨rfl,rfl⟩⟩
  |false=>
   have e:=AbZ hok ha hv;rw[e]at hr;have hl:=hr.1;simp at hl;obtain⟨x,rfl⟩: ∃x,ds=[x]:=by
    match ds,hl with
    |[x],_=>exact⟨x,rfl⟩
   exact⟨[x], .c (.d x),hr.2 0 (.d x) v rfl rfl,hs, .inr ⟨rfl,x,rfl,rfl⟩⟩
theorem Shp.bool_inv{t:TypeId}{ds:List D}(h:Shp P t ds)(hu:P.underlying t=some .bool): ∃b,ds=[.v (.bool b)]:=by
 cases h with
 |bool _ b=>exact⟨b,rfl⟩|int h'=>rw[hu]at h';simp at h'|str h'=>rw[hu]at h';simp at h'|sl h'=>rw[hu]at h';simp at h'|struct h'=>rw[hu]at h';simp at h'|array h'=>rw[hu]at h';simp at h'
theorem Shp.int_inv{t:TypeId}{ds:List D}{k:IntKind}(h:Shp P t ds)(hu:P.underlying t=some (.int k)): ∃n,ds=[.v (.int k n)]/\(Lit.int k n).wf=true:=by
 cases h with
 |bool h'=>rw[hu]at h';simp at h'|int h' n hw=>rw[hu]at h';simp at h';subst h';exact⟨n,rfl,hw⟩|str h'=>rw[hu]at h';simp at h'|sl h'=>rw[hu]at h';simp at h'|struct h'=>rw[hu]at h';simp at h'|array h'=>rw[hu]at h';simp at h'
theorem Shp.str_inv{t:TypeId}{ds:List D}(h:Shp P t ds)(hu:P.underlying t=some .string): ∃s:BA,ds=[.v (.string s)]/\s.size<=maxLen:=by
 cases h with
 |bool h'=>rw[hu]at h';simp at h'|int h'=>rw[hu]at h';simp at h'|str _ s hs=>exact⟨s,rfl,hs⟩|sl h'=>rw[hu]at h';simp at h'|struct h'=>rw[hu]at h';simp at h'|array h'=>rw[hu]at h';simp at h'
theorem Shp.sl_inv{t e:TypeId}{ds:List D}(h:Shp P t ds)(hu:P.underlying t=some (.slice e)): ∃n f,ds=[.sl (P.cellsOf e) n f]/\n<=maxLen/\ ∀i,i<n ->Shp P e (f i):=by
 cases h with
 |bool h'=>rw[hu]at h';simp at h'|int h'=>rw[hu]at h';simp at h'|str h'=>rw[hu]at h';simp at h'|sl h' n f hn hf=>rw[hu]at h';simp at h';subst h';exact⟨n,f,rfl,hn,hf⟩|struct h'=>rw[hu]at h';simp at h'|array h'=>rw[hu]at h';simp at h'
theorem Shp.struct_inv{t:TypeId}{fs:Array Field}{ds:List D}(h:Shp P t ds)(hu:P.underlying t=some (.struct fs)): ∃ps:List (List D),ds=ps.flatten/\ps.length=(fs.toList.map (·.type)).length/\ ∀(i:Nat) u p,(fs.toList.map (·.type))[i]? =some u ->ps[i]? =some p ->Shp P u p:=by
 cases h with
 |bool h'=>rw[hu]at h';simp at h'|int h'=>rw[hu]at h';simp at h'|str h'=>rw[hu]at h';simp at h'|sl h'=>rw[hu]at h';simp at h'|struct h' ps hl hp=>
  rw[hu]at h';simp at h';subst h';refine⟨ps,rfl,by simpa using hl,fun i u p h1 h2=> ?_⟩;simp at h1;obtain⟨f,hf,rfl⟩:=h1;exact hp i f p (by simpa using hf) h2
 |array h'=>rw[hu]at h';simp at h'
theorem Shp.array_inv{t e:TypeId}{n:Nat}{ds:List D}(h:Shp P t ds)(hu:P.underlying t=some (.array n e)): ∃ps:List (List D),ds=ps.flatten/\ps.length=n/\ ∀p∈ps,Shp P e p:=by
 cases h with
 |bool h'=>rw[hu]at h';simp at h'|int h'=>rw[hu]at h';simp at h'|str h'=>rw[hu]at h';simp at h'|sl h'=>rw[hu]at h';simp at h'|struct h'=>rw[hu]at h';simp at h'|array h' ps hl hp=>rw[hu]at h';simp at h';obtain⟨rfl,rfl⟩:=h';exact⟨ps,rfl,hl,hp⟩
theorem Ld(hl:laidOutB P=true){W W':World}(hb:Below W.heap.size W W'): ∀{ts:List TypeId} {vs:List Value} {ds:List (DataW H)} {ps:List MemPlace},(∀t∈ts,P.readableRec t=true/\t<P.types.size) ->
  DataW.TrodAll enc P W 0 (fun _=>true) true ts vs ds ps ->DataW.TrodAll enc P W' 0 (fun b=>decide (b<W.heap.size)) true ts vs ds ps
 |[],[],[],ps,_,h=>h|t::ts,v::vs,d::ds,ps,hr,h=>by
  obtain⟨p,q,h1,h2,rfl⟩:=h;have h1':=h1;obtain⟨m,hm⟩:=h1';have hlt: ∀x∈p,x.block<W.heap.size:=DataW.trod_lt m _ _ _ hm;exact⟨p,q,Below.trod hl (hr t (by simp)).1 (hr t (by simp)).2 h1 hb hlt,Ld hl hb (fun t ht=>hr t (by simp[ht])) h2,rfl⟩
theorem Zf{f:FuncId}{args:List AV}{x:AV}{Hc:Hp}{vs:Array Value}{b:Bool}(hx:x= .c (.d (.v (.bool b))))(h:CR P f args [] x Hc)(hr:RepF (fun _=> .free) w (allI w) args vs)(hg:Glob (allI w) w:=by intro x hx;cases hx):
  Calls P f vs w fun e w'=>e= .returned (.bool b)/\Below w.heap.size w w':=by
 subst hx;refine(h (fun _=> .free) (allI w) w vs ⟨⟨(fun i j b hi=>by cases hi),(fun k b hk=>by cases hk),(fun k b o hk=>by cases hk),(fun b o hi=>hi),hg⟩,fun _ _=>rfl,(fun k B hk=>by simp[look]at hk)⟩ hr).mono ?_;rintro e w' ⟨v,O',I',rfl,_,hrep,hext,_⟩;exact⟨by rw[RepD.v_eq hrep],hext.os,hext.tape,hext.output,hext.size,fun k hk=>hext.block k hk (fun h hb=>by cases hb)⟩
end
inductive DE :D ->D ->Prop
 |v (x:Value):DE (.v x) (.v x)|nil (sz:Nat) (f:RD):DE (.v (.slice none 0 0)) (.sl sz 0 f)|sl (sz n:Nat) (f g:RD) (h1: ∀i,i<n ->(f i).length=(g i).length) (h2: ∀(i j:Nat) (d e:D),i<n ->(f i)[j]? =some d ->(g i)[j]? =some e ->DE d e):DE (.sl sz n f) (.sl sz n g)
theorem DE.refl: ∀x:D,DE x x:=by
 intro x;refine D.rec (motive_1:=fun x=>DE x x) (motive_2:=fun l=> ∀(j:Nat) d,l[j]? =some d ->DE d d) (fun x=> .v x) (fun sz n f ih=> ?_) (fun j d h=>by simp at h) (fun a l ha hl j d h=> ?_) x
 ·refine .sl sz n f f (fun _ _=>rfl) (fun i j d e _ h1 h2=> ?_);rw[h1]at h2;cases h2;exact ih i j d h1
 ·cases j with
  |zero=>simp at h;subst h;exact ha|succ j=>exact hl j d (by simpa using h)
def DEs(a b:List D):Prop:=a.length=b.length/\ ∀(j:Nat) d e,a[j]? =some d ->b[j]? =some e ->DE d e
theorem DEs.refl(a:List D):DEs a a:=⟨rfl,fun j d e h1 h2=>by rw[h1]at h2;cases h2;exact .refl d⟩
theorem DEs.nil:DEs [] []:= .refl []
theorem DEs.cons{x y:D}{a b:List D}(h:DE x y)(k:DEs a b):DEs (x::a) (y::b):=by
 refine⟨by simp[k.1],fun j d e h1 h2=> ?_⟩;cases j with
 |zero=>simp at h1 h2;subst h1 h2;exact h|succ j=>exact k.2 j d e (by simpa using h1) (by simpa using h2)
theorem DE.sls{sz n:Nat}{f g:RD}(h: ∀i,i<n ->DEs (f i) (g i)):DE (.sl sz n f) (.sl sz n g):=
 .sl sz n f g (fun i hi=>(h i hi).1) (fun i j d e hi h1 h2=>(h i hi).2 j d e h1 h2)
theorem DE.sl_eq{sz n:Nat}{f g:RD}(h: ∀i,i<n ->f i=g i):DE (.sl sz n f) (.sl sz n g):= .sls fun i hi=>by rw[h i hi];exact .refl _
def Cle:C ->C ->Prop
 | .d x, .d y=>DE x y| .ip a, .ip b=>DEs a b|x,y=>x=y\/y= .u
theorem Cle.refl(c:C):Cle c c:=by
 cases c with
 |d x=>exact DE.refl x|ip a=>exact DEs.refl a|_=>exact .inl rfl
def Csle(a b:List C):Prop:=a.length=b.length/\ ∀(j:Nat) d e,a[j]? =some d ->b[j]? =some e ->Cle d e
theorem Csle.refl(a:List C):Csle a a:=⟨rfl,fun j d e h1 h2=>by rw[h1]at h2;cases h2;exact .refl d⟩
theorem Csle.nil:Csle [] []:= .refl []
theorem Csle.cons{x y:C}{a b:List C}(h:Cle x y)(k:Csle a b):Csle (x::a) (y::b):=by
 refine⟨by simp[k.1],fun j d e h1 h2=> ?_⟩;cases j with
 |zero=>simp at h1 h2;subst h1 h2;exact h|succ j=>exact k.2 j d e (by simpa using h1) (by simpa using h2)
def Ale:AV ->AV ->Prop
 | .c x, .c y=>Cle x y| .agg a, .agg b=>Csle a b| .tup a, .tup b=>a.length=b.length/\ ∀(j:Nat) p q,a[j]? =some p ->b[j]? =some q ->p.1=q.1/\Csle p.2 q.2|_, .u=>True|_,_=>False
theorem Ale.refl(x:AV):Ale x x:=by
 cases x with
 |c x=>exact Cle.refl x|agg a=>exact Csle.refl a|tup a=>exact⟨rfl,fun j p q h1 h2=>by rw[h1]at h2;cases h2;exact⟨rfl, .refl _⟩⟩
 |u=>trivial
def Ble:Blk ->Blk ->Prop
 | .cells a t, .cells b u=>t=u/\Csle a b| .row n f sz t, .row m g sz' t'=>n=m/\sz=sz'/\t=t'/\ ∀i,i<n ->DEs (f i) (g i)|x,y=>x=y
theorem Ble.refl(x:Blk):Ble x x:=by
 cases x with
 |cells a t=>exact⟨rfl, .refl a⟩|row n f sz t=>exact⟨rfl,rfl,rfl,fun i _=> .refl _⟩
 |_=>exact rfl
def Hle(H K:Hp):Prop:= ∀h,match look H h,look K h with
 |none,none=>True|some a,some b=>Ble a b|_,_=>False
theorem Hle.refl(H:Hp):Hle H H:=fun h=>by
 cases look H h with
 |none=>trivial|some a=>exact .refl a
theorem Hle.nil:Hle [] []:= .refl []
theorem Hle.cons{n:Nat}{a b:Blk}{H K:Hp}(h:Ble a b)(k:Hle H K):Hle ((n,a)::H) ((n,b)::K):=fun x=>by
 simp only[look,beqD];by_cases e:x=n
 ·simp only[e,decide_true,za];exact h
 ·simp only[e,decide_false,zb];exact k x
section
variable {O:Bt}{I:Im}{w:World}{P:Program}
theorem RepD.le{x y:D}(h:DE x y): ∀{v:Value},RepD w I x v ->RepD w I y v:=by
 induction h with
 |v x=>intro v h;exact h|nil sz f=>intro v h;have:=RepD.v_eq h;subst this;exact .nil _ _|sl sz n f g h1 h2 ih=>
  intro v h;cases h with
  |nil=>exact .nil _ _|emp=>exact .emp _ _ _ _|sl _ _ _ b off cap gv hcap hsz hc hi hr=>
   have get: ∀{i j:Nat} {e:D},i<n ->(g i)[j]? =some e -> ∃d,(f i)[j]? =some d:=fun{i j e} hin he=>by
    have hlt:=(List.getElem?_eq_some_iff.1 he).1;rw[<-h1 i hin]at hlt;exact⟨(f i)[j],by simp[hlt]⟩
   refine .sl n g sz b off cap gv hcap (fun i hin=>by rw[<-h1 i hin];exact hsz i hin) (fun i j e hin he=> ?_) (fun i j e hin he=> ?_) (fun i j e hin he=> ?_)
   ·obtain⟨d,hd⟩:=get hin he;exact hc i j d hin hd
   ·obtain⟨d,hd⟩:=get hin he;exact hi i j d hin hd
   ·obtain⟨d,hd⟩:=get hin he;exact ih i j d e hin hd he (hr i j d hin hd)
theorem RepC.le{x y:C}(h:Cle x y){v:Value}(hr:RepC O w I x v):RepC O w I y v:=by
 have one:=hr.one;unfold Cle at h;split at h
 ·exact RepD.le h hr
 ·rename_i a b;obtain⟨bb,off,hv,hj⟩:=hr;refine⟨bb,off,hv,fun j e he=> ?_⟩;have hlt:=(List.getElem?_eq_some_iff.1 he).1;rw[<-h.1]at hlt;obtain⟨z,h1,h2,h3⟩:=hj j a[j] (by simp[hlt]);exact⟨z,h1,h2,h3.le (h.2 j _ e (by simp[hlt]) he)⟩
 ·rcases h with rfl|rfl
  ·exact hr
  ·exact one
theorem RepCs.le{a b:List C}{vs:List Value}(h:Csle a b)(hr:RepCs O w I a vs):RepCs O w I b vs:=by
 refine⟨by rw[<-h.1];exact hr.1,fun i c v h1 h2=> ?_⟩;have hlt:i<a.length:=by rw[h.1];exact(List.getElem?_eq_some_iff.1 h1).1
 exact RepC.le (h.2 i a[i] c (by simp[hlt]) h1) (hr.2 i a[i] v (by simp[hlt]) h2)
theorem RepA.le{x y:AV}(h:Ale x y){v:Value}(hr:RepA O w I x v):RepA O w I y v:=by
 unfold Ale at h;split at h
 ·exact RepC.le h hr
 ·obtain⟨vs,hv,hc⟩:=hr;exact⟨vs,hv,hc.le h⟩
 ·rename_i a b;obtain⟨vs,hv,hl,hp⟩:=hr;refine⟨vs,hv,by rw[<-h.1];exact hl,fun i q u h1 h2=> ?_⟩;have hlt:i<a.length:=by rw[h.1];exact(List.getElem?_eq_some_iff.1 h1).1
  obtain⟨e,hc⟩:=h.2 i a[i] q (by simp[hlt]) h1;have hp':=hp i a[i] u (by simp[hlt]) h2;generalize a[i]=p at e hc hp';obtain⟨t,cs⟩:=p;obtain⟨t',ds⟩:=q;simp only at e;subst e;cases t with
  |true=>obtain⟨us,hu,hcs⟩:=hp';exact⟨us,hu,hcs.le hc⟩
  |false=>
   obtain⟨c,hcs,hrc⟩:=hp';have hcs':cs=[c]:=hcs;subst hcs';have hl:=hc.1;match ds,hl with
   |[d],_=>exact⟨d,rfl,RepC.le (hc.2 0 c d rfl rfl) hrc⟩
 ·trivial
 ·exact h.elim
theorem RepB.le{h:Nat}{x y:Blk}(hb:Ble x y)(hr:RepB O w I h x):RepB O w I h y:=by
 unfold Ble at hb;split at hb
 ·rename_i a t b u;obtain⟨rfl,hc⟩:=hb;obtain⟨bb,vs,h1,h2,h3,h4⟩:=hr;refine⟨bb,vs,h1,h2,by rw[<-hc.1];exact h3,fun i c v e1 e2=> ?_⟩;have hlt:i<a.length:=by rw[hc.1];exact(List.getElem?_eq_some_iff.1 e1).1
  exact RepC.le (hc.2 i a[i] c (by simp[hlt]) e1) (h4 i a[i] v (by simp[hlt]) e2)
 ·obtain⟨rfl,rfl,rfl,hd⟩:=hb;obtain⟨h0,hr⟩:=hr;refine⟨h0, ?_⟩;rcases hr with hr|⟨b,vs,h1,h2,h3,h4⟩
  ·exact .inl hr
  ·refine .inr ⟨b,vs,h1,h2,h3,fun i hi=>⟨by rw[<-(hd i hi).1];exact(h4 i hi).1,fun j e he=> ?_⟩⟩;have hlt:=(List.getElem?_eq_some_iff.1 he).1;rw[<-(hd i hi).1]at hlt;obtain⟨v,hv,hrd⟩:=(h4 i hi).2 j _ (zn hlt);exact⟨v,hv,hrd.le ((hd i hi).2 j _ e (zn hlt) he)⟩
 ·rw[<-hb];exact hr
theorem RelH.le{H K:Hp}(h:Hle H K)(hr:RelH O H I w):RelH O K I w:=by
 refine⟨hr.toPlace,fun x hx=> ?_,fun x B hx=> ?_⟩
 ·have:=h x;rw[hx]at this;cases e:look H x with
  |none=>exact hr.dom x e|some a=>rw[e]at this;exact this.elim
 ·have:=h x;rw[hx]at this;cases e:look H x with
  |none=>rw[e]at this;exact this.elim|some a=>rw[e]at this;exact(hr.blk x a e).le this
theorem RepF.le{F G:List AV}{vs:Array Value}(hl:F.length=G.length)(h: ∀(i:Nat) x y,F[i]? =some x ->G[i]? =some y ->Ale x y)(hr:RepF O w I F vs):RepF O w I G vs:=by
 refine⟨by rw[<-hl];exact hr.1,fun i y v h1 h2=> ?_⟩;have hlt:i<F.length:=by rw[hl];exact(List.getElem?_eq_some_iff.1 h1).1
 exact(hr.2 i F[i] v (by simp[hlt]) h2).le (h i F[i] y (by simp[hlt]) h1)
theorem CR.le{f:FuncId}{args:List AV}{H H' K':Hp}{x y:AV}(h:CR P f args H x H')(hx:Ale x y)(hK:Hle H' K'):CR P f args H y K':=fun O I w vs h1 h2=>
 (h O I w vs h1 h2).mono fun e w' ⟨v,O',I',he,k1,k2,k3,k4⟩=>⟨v,O',I',he,k1.le hK,k2.le hx,k3,k4⟩
def Asle(F G:List AV):Prop:=F.length=G.length/\ ∀(i:Nat) x y,F[i]? =some x ->G[i]? =some y ->Ale x y
theorem Asle.refl(a:List AV):Asle a a:=⟨rfl,fun j d e h1 h2=>by rw[h1]at h2;cases h2;exact .refl d⟩
theorem Asle.nil:Asle [] []:= .refl []
theorem Asle.cons{x y:AV}{a b:List AV}(h:Ale x y)(k:Asle a b):Asle (x::a) (y::b):=by
 refine⟨by simp[k.1],fun j d e h1 h2=> ?_⟩;cases j with
 |zero=>simp at h1 h2;subst h1 h2;exact h|succ j=>exact k.2 j d e (by simpa using h1) (by simpa using h2)
theorem CR.ge{f:FuncId}{args args':List AV}{H K H':Hp}{x:AV}(h:CR P f args H x H')(ha:Asle args' args)(hK:Hle K H):CR P f args' K x H':=fun O I w vs h1 h2=>
 h O I w vs (h1.le hK) (h2.le ha.1 ha.2)
theorem CE.le{f:FuncId}{args:List AV}{H H' K':Hp}{x y:AV}(h:CE P f args H x H')(hx:Ale x y)(hK:Hle H' K'):CE P f args H y K':=fun O I w vs h1 h2=>by
 obtain⟨v,w',O',I',hr,k1,k2,k3,k4⟩:=h O I w vs h1 h2;exact⟨v,w',O',I',hr,k1.le hK,k2.le hx,k3,k4⟩
theorem CE.ge{f:FuncId}{args args':List AV}{H K H':Hp}{x:AV}(h:CE P f args H x H')(ha:Asle args' args)(hK:Hle K H):CE P f args' K x H':=fun O I w vs h1 h2=>
 h O I w vs (h1.le hK) (h2.le ha.1 ha.2)
theorem CX.le{f:FuncId}{args:List AV}{H H' K':Hp}{x y:AV}(h:CX P f args H x H')(hx:Ale x y)(hK:Hle H' K'):CX P f args H y K':=by
 unfold CX at h⊢;split at h
 ·rename_i fn hf;split at h
  ·rename_i hb;rw[if_pos hb];exact h.le hx hK
  ·rename_i hb;rw[if_neg hb];exact h.le hx hK
 ·exact h
theorem CX.ge{f:FuncId}{args args':List AV}{H K H':Hp}{x:AV}(h:CX P f args H x H')(ha:Asle args' args)(hK:Hle K H):CX P f args' K x H':=by
 unfold CX at h⊢;split at h
 ·rename_i fn hf;split at h
  ·rename_i hb;rw[if_pos hb];exact h.ge ha hK
  ·rename_i hb;rw[if_neg hb];exact h.ge ha hK
 ·exact h
end
def beqV:Value ->Value ->Bool
 | .bool a, .bool b=>a==b| .int k a, .int l b=>decide (k=l)&&a==b| .string a, .string b=>decide (a.data.toList=b.data.toList)| .slice none 0 0, .slice none 0 0=>true| .pointer none, .pointer none=>true| .map none, .map none=>true| .nilFunc, .nilFunc=>true| .nilIface, .nilIface=>true| .func (.func f) ⟨[]⟩ ⟨[]⟩, .func (.func g) ⟨[]⟩ ⟨[]⟩=>Nat.beq f g|_,_=>false
theorem Rs{a b:Value}(h:beqV a b=true):a=b:=by
 unfold beqV at h;split at h<;>simp_all;rename_i a b;have:a=b:=by cases a;cases b;congr 1
 rw[this]
def Kd(p:Nat ->Bool):Nat ->Bool
 |0=>true|n+1=>Kd p n&&p n
theorem Hd{p:Nat ->Bool}: ∀{n:Nat},Kd p n=true -> ∀i,i<n ->p i=true
 |0,_,i,hi=>by omega|n+1,h,i,hi=>by
  simp only[Kd,zd]at h;rcases Nat.lt_or_ge i n with h1|h1
  ·exact Hd h.1 i h1
  ·obtain rfl:i=n:=by omega
   exact h.2
mutual
def Xb:Nat ->D ->D ->Bool
 |0,_,_=>false|k+1, .v a, .v b=>beqV a b|k+1, .sl sz n f, .sl sz' m g=>Nat.beq sz sz'&&Nat.beq n m&&Kd (fun i=>U7 k (f i) (g i)) n
 |_+1,_,_=>false
def U7:Nat ->List D ->List D ->Bool
 |0,_,_=>false|_+1,[],[]=>true|k+1,x::a,y::b=>Xb k x y&&U7 k a b|_+1,_,_=>false
end
mutual
theorem Abg: ∀(k:Nat) (x y:D),Xb k x y=true ->DE x y
 |0,x,y,h=>by simp[Xb]at h|k+1, .v a, .v b,h=>by simp only[Xb]at h;rw[Rs h];exact .v b|k+1, .sl sz n f, .sl sz' m g,h=>by
  simp only[Xb,zd]at h;have e1:=zg h.1.1;have e2:=zg h.1.2;subst e1 e2;exact .sls fun i hi=>Qe k _ _ (Hd h.2 i hi)
 |k+1, .v _, .sl _ _ _,h=>by simp[Xb]at h|k+1, .sl _ _ _, .v _,h=>by simp[Xb]at h
theorem Qe: ∀(k:Nat) (x y:List D),U7 k x y=true ->DEs x y
 |0,x,y,h=>by simp[U7]at h|k+1,[],[],h=> .nil|k+1,x::a,y::b,h=>by
  simp only[U7,zd]at h;exact .cons (Abg k x y h.1) (Qe k a b h.2)
 |k+1,[],_::_,h=>by simp[U7]at h|k+1,_::_,[],h=>by simp[U7]at h
end
def AiV:Rf ->Rf ->Bool
 | .ptr a b, .ptr c d=>Nat.beq a c&&Nat.beq b d| .d (.v a), .d (.v b)=>beqV a b|_,_=>false
theorem Abf{a b:Rf}(h:AiV a b=true):a=b:=by
 unfold AiV at h;split at h
 ·simp only[zd]at h;rw[zg h.1,zg h.2]
 ·rw[Rs h]
 ·simp at h
def beqL{J:Type}(p:J ->J ->Bool):List J ->List J ->Bool
 |[],[]=>true|x::a,y::b=>p x y&&beqL p a b|_,_=>false
theorem Ga{J:Type}{p:J ->J ->Bool}{q:J ->J ->Prop}(hp: ∀x y,p x y=true ->q x y): ∀{a b:List J},beqL p a b=true ->a.length=b.length/\ ∀(j:Nat) x y,a[j]? =some x ->b[j]? =some y ->q x y
 |[],[],_=>⟨rfl,fun j x y h=>by simp at h⟩
 |x::a,y::b,h=>by
  simp only[beqL,zd]at h;obtain⟨h1,h2⟩:=Ga hp h.2;refine⟨by simp[h1],fun j u v e1 e2=> ?_⟩;cases j with
  |zero=>simp at e1 e2;subst e1 e2;exact hp _ _ h.1|succ j=>exact h2 j u v (by simpa using e1) (by simpa using e2)
 |[],_::_,h=>by simp[beqL]at h|_::_,[],h=>by simp[beqL]at h
theorem U6{J:Type}{p:J ->J ->Bool}(hp: ∀x y,p x y=true ->x=y): ∀{a b:List J},beqL p a b=true ->a=b
 |[],[],_=>rfl|x::a,y::b,h=>by
  simp only[beqL,zd]at h;rw[hp _ _ h.1,U6 hp h.2]
 |[],_::_,h=>by simp[beqL]at h|_::_,[],h=>by simp[beqL]at h
def beqC(k:Nat):C ->C ->Bool
 | .d x, .d y=>Xb k x y| .ptr a b, .ptr c d=>Nat.beq a c&&Nat.beq b d| .ept a b c d, .ept a' b' c' d'=>Nat.beq a a'&&Nat.beq b b'&&Nat.beq c c'&&Nat.beq d d'| .ip a, .ip b=>U7 k a b| .row a b c, .row a' b' c'=>Nat.beq a a'&&Nat.beq b b'&&Nat.beq c c'| .fn f a b, .fn g c d=>Nat.beq f g&&beqL AiV a c&&beqL AiV b d| .mp a, .mp b=>Nat.beq a b|_, .u=>true|_,_=>false
theorem U8{k:Nat}{x y:C}(h:beqC k x y=true):Cle x y:=by
 have nb: ∀{a b:Nat},Nat.beq a b=true ->a=b:=fun h=>zg h
 unfold beqC at h;split at h
 ·exact Abg k _ _ h
 ·simp only[zd]at h;rw[nb h.1,nb h.2];exact .refl _
 ·simp only[zd]at h;rw[nb h.1.1.1,nb h.1.1.2,nb h.1.2,nb h.2];exact .refl _
 ·exact Qe k _ _ h
 ·simp only[zd]at h;rw[nb h.1.1,nb h.1.2,nb h.2];exact .refl _
 ·simp only[zd]at h;rw[nb h.1.1,U6 (fun _ _ h=>Abf h) h.1.2,U6 (fun _ _ h=>Abf h) h.2];exact .refl _
 ·rw[nb h];exact .refl _
 ·unfold Cle;split<;>simp_all
 ·simp at h
def beqA(k:Nat):AV ->AV ->Bool
 | .c x, .c y=>beqC k x y| .agg a, .agg b=>beqL (beqC k) a b| .tup a, .tup b=>beqL (fun p q=>(p.1==q.1)&&beqL (beqC k) p.2 q.2) a b
 |_, .u=>true|_,_=>false
theorem Ano{k:Nat}{x y:AV}(h:beqA k x y=true):Ale x y:=by
 unfold beqA at h;split at h
 ·exact U8 h
 ·exact Ga (fun _ _ h=>U8 h) h
 ·exact Ga (q:=fun p q=>p.1=q.1/\Csle p.2 q.2) (fun p q h=>by
   simp only[zd,beq_iff_eq]at h;exact⟨h.1,Ga (fun _ _ h=>U8 h) h.2⟩) h
 ·unfold Ale;split<;>simp_all
 ·simp at h
def beqB(k:Nat):Blk ->Blk ->Bool
 | .cells a t, .cells b u=>Nat.beq t u&&beqL (beqC k) a b| .row n f sz t, .row m g sz' t'=>Nat.beq n m&&Nat.beq sz sz'&&Nat.beq t t'&&Kd (fun i=>U7 k (f i) (g i)) n
 | .dead, .dead=>true| .iter s p, .iter s' p'=>decide (s.data.toList=s'.data.toList)&&Nat.beq p p'| .map a l, .map b l'=>Nat.beq a b&&beqL (fun p q=>beqV p.1 q.1&&beqV p.2 q.2) l l'
 |_,_=>false
theorem Anm{k:Nat}{x y:Blk}(h:beqB k x y=true):Ble x y:=by
 have nb: ∀{a b:Nat},Nat.beq a b=true ->a=b:=fun h=>zg h
 unfold beqB at h;split at h
 ·simp only[zd]at h;exact⟨nb h.1,Ga (fun _ _ h=>U8 h) h.2⟩
 ·simp only[zd]at h;refine⟨nb h.1.1.1,nb h.1.1.2,nb h.1.2,fun i hi=>Qe k _ _ (Hd h.2 i hi)⟩
 ·exact rfl
 ·simp only[zd,zi]at h;rename_i s p s' p';have:s=s':=by cases s;cases s';congr 1;exact Array.ext' h.1
  rw[this,nb h.2];exact .refl _
 ·simp only[zd]at h;have e:=U6 (p:=fun(p q:Value×Value)=>beqV p.1 q.1&&beqV p.2 q.2) (fun p q hpq=>by
   simp only[zd]at hpq;exact Prod.ext (Rs hpq.1) (Rs hpq.2)) h.2
  rw[nb h.1,e];exact .refl _
 ·simp at h
def beqH(k:Nat):Hp ->Hp ->Bool
 |[],[]=>true|(n,a)::H,(m,b)::K=>Nat.beq n m&&beqB k a b&&beqH k H K|_,_=>false
theorem Agn{k:Nat}: ∀{H K:Hp},beqH k H K=true ->Hle H K
 |[],[],_=> .nil|(n,a)::H,(m,b)::K,h=>by
  simp only[beqH,zd]at h;have:=zg h.1.1;subst this;exact .cons (Anm h.1.2) (Agn h.2)
 |[],_::_,h=>by simp[beqH]at h|_::_,[],h=>by simp[beqH]at h
def join(k:Nat):T (AV×Hp) ->Option (AV×Hp)
 | .leaf r=>some r| .node a b=>match join k a,join k b with
  |some (x,H),some (y,K)=>bif beqA k y x&&beqH k K H then some (x,H)else none|_,_=>none
def Ends(t:T (AV×Hp))(x:AV)(H:Hp):Prop:= ∀y,Leaf t y ->Ale y.1 x/\Hle y.2 H
section
variable {P:Program}{orc:Orc}
theorem AiO(ho:B4 P orc){ann:Ann}{n:Nat}{f:FuncId}{fn:Func}{c:Code}{args:List AV}{H:Hp}{t:T (AV×Hp)}(hf:P.funcs[f]? =some fn)(hb:fn.body=some c)(hH:seqN 0 H=true)
  (h:W7 P orc ann n fn c args H=some t): ∀(O:Bt) (I:Im) (w:World) (vs:Array Value),RelH O H I w ->RepF O w I args vs ->
  Calls P f vs w fun e w'=> ∃y v O' I',Leaf t y/\e= .returned v/\RelH O' y.2 I' w'/\RepA O' w' I' y.1 v/\Ext O I O' I' w w'/\Mono O O':=by
 unfold W7 W6 at h;intro O I w vs hmem hargs;have hlk:=fun h=>Qs hH h
 have hnf:NF H.length O:=fun q hq=>fun e=>by
  have:=(hmem.free_iff.1 e);exact((hlk q).1 this) ⟨Nat.zero_le _,by omega⟩
 have hfree: ∀q,H.length<=q ->O q= .free:=fun q hq=>hmem.dom q ((hlk q).2 (by omega))
 refine calls_of_wp hf hb (Akl ho ann H.length n c none _ _ _ h c rfl O I _ w _ ⟨?_,hmem,rfl,fun q hq=>(hlk q).2 (by have:H.length<=q:=hq;omega)⟩ hnf ?_)
 ·refine⟨by simp[hargs.1],fun i y v h1 h2=> ?_⟩;simp only at h1 h2;rw[List.getElem?_append]at h1;rw[Array.getElem?_append]at h2;by_cases hi:i<args.length
  ·rw[if_pos hi]at h1;rw[if_pos (hargs.1▸hi)]at h2;exact hargs.2 i y v h1 h2
  ·rw[if_neg hi]at h1;rw[if_neg (hargs.1▸hi)]at h2;rw[List.getElem?_replicate]at h1;rw[Array.getElem?_replicate]at h2;split at h1
   ·split at h2
    ·simp at h1 h2;subst h1 h2;exact Lc
    ·simp at h2
   ·simp at h1
 ·intro out s' t' hk hsub O' I' a' w' hsim hext hmono;have fin:(match G2 P fn s' with
   |some l=>(match Fj l with
    |some x=>some (T.leaf (renA (newN H.length (newL H.length s'.H (Ev x))) x,Km H.length s'.H (newL H.length s'.H (Ev x))))|none=>none)
   |none=>none)=some t' ->a'.defers=[]/\ ∃v,(results fn a'.tmps).run P w'= .ok v w'/\ ∃y v' O'' I'',Leaf t y/\Ending.returned v= .returned v'/\RelH O'' y.2 I'' w'/\RepA O'' w' I'' y.1 v'/\Ext O I O'' I'' w w'/\Mono O O'':=by
   intro hk;split at hk
   ·rename_i l hl;split at hk
    ·rename_i y hy;simp at hk;subst hk;obtain⟨v,hv,hx⟩:=Qw (P:=P) hsim hl hy;have he:=hsub _ rfl;obtain⟨hnd,hL⟩:=Q8 H.length s'.H (Ev y);obtain⟨h1,h2,h3⟩:=Rn hsim.mem (hmono.ne hnf) hnd hL;have hx':=hx.ren (Hb H.length (newL H.length s'.H (Ev y)));refine⟨hsim.defers,v,hv,_,v,_,I',he,rfl,h1,hx',hext.trans h2,fun q=> ?_⟩;by_cases hq:q<H.length
     ·have:=(hmono.trans h3) q hq (hnf q hq);cases e:O q with
      |free=>trivial|dead=>rw[e]at this;simpa using this|«at» b=>rw[e]at this;exact this|row b m=>rw[e]at this;exact this
     ·rw[hfree q (by omega)];trivial
    ·simp at hk
   ·simp at hk
  cases out with
  |exit id=>simp[endK]at hk|goto l=>simp[endK]at hk|norm=>exact fin hk|ret=>exact fin hk
theorem AiP(ho:B4 P orc){ann:Ann}{n:Nat}{f:FuncId}{fn:Func}{c:Code}{args:List AV}{H:Hp}{x:AV}{H':Hp}{t:T (AV×Hp)}(hf:P.funcs[f]? =some fn)(hb:fn.body=some c)(hH:seqN 0 H=true)
  (h:W7 P orc ann n fn c args H=some t) (ht:Ends t x H'):CR P f args H x H':=fun O I w vs h1 h2=>
 (AiO ho hf hb hH h O I w vs h1 h2).mono fun e w' ⟨y,v,O',I',hl,he,k1,k2,k3,k4⟩=>⟨v,O',I',he,k1.le (ht y hl).2,k2.le (ht y hl).1,k3,k4⟩
end
theorem DE.trans{x y:D}(h:DE x y): ∀{z:D},DE y z ->DE x z:=by
 induction h with
 |v x=>intro z h;exact h|nil sz f=>
  intro z h;cases h with
  |sl _ _ _ g h1 h2=>exact .nil _ _
 |sl sz n f g h1 h2 ih=>
  intro z h;cases h with
  |sl _ _ _ k k1 k2=>
   refine .sl sz n f k (fun i hi=>(h1 i hi).trans (k1 i hi)) (fun i j d e hi hd he=> ?_);have hlt:=(List.getElem?_eq_some_iff.1 hd).1;rw[h1 i hi]at hlt;exact ih i j d _ hi hd (zn hlt) (k2 i j _ e hi (zn hlt) he)
theorem DEs.trans{a b c:List D}(h:DEs a b)(k:DEs b c):DEs a c:=by
 refine⟨h.1.trans k.1,fun j d e hd he=> ?_⟩;have hlt:=(List.getElem?_eq_some_iff.1 hd).1;rw[h.1]at hlt;exact(h.2 j d _ hd (zn hlt)).trans (k.2 j _ e (zn hlt) he)
theorem Cle.of_u{c:C}(k:Cle .u c):c= .u:=by
 cases c<;>first
  |rfl|(rcases k with k|k<;>cases k)
theorem Cle.cases{a b:C}(h1: ∀x,a≠ .d x)(h2: ∀x,a≠ .ip x)(h:Cle a b):a=b\/b= .u:=by
 cases a with
 |d x=>exact absurd rfl (h1 x)|ip x=>exact absurd rfl (h2 x)|_=>cases b<;>exact h
theorem Cle.trans{a b c:C}(h:Cle a b)(k:Cle b c):Cle a c:=by
 cases a with
 |d x=>
  cases b with
  |d y=>
   cases c with
   |d z=>exact DE.trans h k|u=>exact .inr rfl|_=>rcases k with k|k<;>cases k
  |u=>
   cases c with
   |u=>exact .inr rfl|_=>rcases k with k|k<;>cases k
  |_=>rcases h with h|h<;>cases h
 |ip x=>
  cases b with
  |ip y=>
   cases c with
   |ip z=>exact DEs.trans h k|u=>exact .inr rfl|_=>rcases k with k|k<;>cases k
  |u=>
   cases c with
   |u=>exact .inr rfl|_=>rcases k with k|k<;>cases k
  |_=>rcases h with h|h<;>cases h
 |_=>
  all_goals
   rcases Cle.cases (by intro x e;cases e) (by intro x e;cases e) h with rfl|rfl
   ·exact k
   ·rw[Cle.of_u k];exact .inr rfl
theorem Csle.trans{a b c:List C}(h:Csle a b)(k:Csle b c):Csle a c:=by
 refine⟨h.1.trans k.1,fun j d e hd he=> ?_⟩;have hlt:=(List.getElem?_eq_some_iff.1 hd).1;rw[h.1]at hlt;exact(h.2 j d _ hd (zn hlt)).trans (k.2 j _ e (zn hlt) he)
theorem Ale.trans{a b c:AV}(h:Ale a b)(k:Ale b c):Ale a c:=by
 cases c with
 |u=>cases a<;>trivial|c z=>
  cases b with
  |c y=>cases a with
   |c x=>exact Cle.trans h k|_=>exact h.elim
  |_=>exact k.elim
 |agg z=>
  cases b with
  |agg y=>cases a with
   |agg x=>exact Csle.trans h k|_=>exact h.elim
  |_=>exact k.elim
 |tup z=>
  cases b with
  |tup y=>cases a with
   |tup x=>
    refine⟨h.1.trans k.1,fun j p q hp hq=> ?_⟩;have hlt:=(List.getElem?_eq_some_iff.1 hp).1;rw[h.1]at hlt;obtain⟨e1,c1⟩:=h.2 j p _ hp (zn hlt);obtain⟨e2,c2⟩:=k.2 j _ q (zn hlt) hq;exact⟨e1.trans e2,c1.trans c2⟩
   |_=>exact h.elim
  |_=>exact k.elim
theorem Ble.trans{a b c:Blk}(h:Ble a b)(k:Ble b c):Ble a c:=by
 cases a with
 |cells x t=>
  cases b with
  |cells y u=>
   cases c with
   |cells z v=>exact⟨h.1.trans k.1,h.2.trans k.2⟩|_=>exact nomatch k
  |_=>exact nomatch h
 |row n f sz t=>
  cases b with
  |row m g sz' t'=>
   cases c with
   |row q r sz2 t2=>
    obtain⟨rfl,rfl,rfl,h4⟩:=h;obtain⟨rfl,rfl,rfl,k4⟩:=k;exact⟨rfl,rfl,rfl,fun i hi=>(h4 i hi).trans (k4 i hi)⟩
   |_=>exact nomatch k
  |_=>exact nomatch h
 |iter s p=>
  cases b with
  |iter s' p'=>have h:Blk.iter s p= .iter s' p':=h;rw[h];exact k|_=>exact nomatch h
 |map a b'=>
  cases b with
  |map a' b2=>have h:Blk.map a b'= .map a' b2:=h;rw[h];exact k|_=>exact nomatch h
 |dead=>
  cases b with
  |dead=>exact k|_=>exact nomatch h
theorem Hle.trans{H K L:Hp}(h:Hle H K)(k:Hle K L):Hle H L:=fun x=>by
 have h1:=h x;have h2:=k x;cases e1:look H x<;>cases e2:look K x<;>cases e3:look L x<;>simp only[e1,e2,e3]at h1 h2⊢;exact h1.trans h2
theorem Yx{k:Nat}: ∀{t:T (AV×Hp)} {x:AV} {H:Hp},join k t=some (x,H) ->Ends t x H
 | .leaf r,x,H,h=>by
  simp[join]at h;subst h;intro y hy;cases hy;exact⟨.refl _, .refl _⟩
 | .node a b,x,H,h=>by
  simp only[join]at h;split at h
  ·rename_i x' H' y K ha hb;cases hc:(beqA k y x'&&beqH k K H')with
   |false=>rw[hc]at h;cases h|true=>
    rw[hc]at h;simp only[za,zj,Prod.mk.injEq]at h;obtain⟨rfl,rfl⟩:=h;simp only[zd]at hc;intro z hz;rcases hz with hz|hz
    ·exact Yx ha z hz
    ·obtain⟨h1,h2⟩:=Yx hb z hz;exact⟨h1.trans (Ano hc.1),h2.trans (Agn hc.2)⟩
  ·simp at h
section
variable {R:Type}
abbrev KO(R:Type):=Out ->St ->Option (T R)
abbrev EV(R:Type):=Option Nat ->St ->KO R ->Option (T R)
def Acj(eb:EV R)(k:KO R):KO R:=fun o s'=>match o with
 | .norm=>eb none s' k| .exit id=>k (.exit id) s'| .goto l=>k (.goto l) s'| .ret=>k .ret s'
def Amu(id:Nat)(k:KO R):KO R:=fun o s'=>match o with
 | .norm=>k .norm s'| .exit j=>bif j==id then k .norm s' else k (.exit j) s'| .goto l=>k (.goto l) s'| .ret=>k .ret s'
def kItC(k0:Nat)(note:Option Note)(ih:St ->KO R ->Option (T R))(k:KO R):KO R:=fun o s'=>match o with
 | .norm=>(match trim k0 note s' with
  |none=>none|some s0=>ih s0 k)
 | .exit id=>k (.exit id) s'| .goto l=>k (.goto l) s'| .ret=>k .ret s'
def itC(k0:Nat)(note:Option Note)(body:St ->KO R ->Option (T R))(n:Nat):St ->KO R ->Option (T R):=
 Nat.rec (motive:=fun _=>St ->KO R ->Option (T R)) (fun _ _=>none) (fun _ ih s k=>body s (kItC k0 note ih k)) n
def Ank(ec:EV R):St ->KO R ->Option (T R):=fun s' k'=>ec none s' k'
def kGiC(l:Nat)(k':KO R):KO R:=fun o s''=>match o with
 | .goto m=>bif m==l then k' .norm s'' else none| .norm=>k' (.goto l) s''| .exit id=>k' (.exit id) s''| .ret=>k' .ret s''
def Apn(l:Nat)(ec:EV R):St ->KO R ->Option (T R):=fun s' k'=>ec (some l) s' (kGiC l k')
def kGeC(k:KO R):KO R:=fun o s''=>match o with
 | .goto _=>k .norm s''| .norm=>none| .exit id=>k (.exit id) s''| .ret=>k .ret s''
def gNC(k':KO R):KO R:=fun o s''=>match o with
 | .norm=>k' .ret s''|_=>none
def gRC(k:KO R):KO R:=fun o s''=>match o with
 | .ret=>k .norm s''|_=>none
def Anj(P:Program)(orc:Orc)(ops:Array Oper)(draw:Bool):St ->KO R ->Option (T R):=fun s' k'=>Er P orc ops draw s' (gNC k')
def kScC(ann:Ann)(k0 n:Nat)(c:Code)(ec:EV R)(k:KO R):KO R:=fun o s'=>match o with
 | .goto l=>(match findLabel c l with
  |some rest=>(match trim k0 ((B2 rest).bind ann) s' with
   |none=>none|some s0=>itC k0 ((B2 rest).bind ann) (Apn l ec) n s0 (kGeC k))
  |none=>none)
 | .norm=>k .norm s'| .exit id=>k (.exit id) s'| .ret=>k .ret s'
def ApY:EV R:=fun lab s k=>match lab with
 |none=>k .norm s|some _=>none
def mReg(P:Program)(orc:Orc)(ann:Ann)(k0 n:Nat)(id:Nat)(ops:Array Oper)(draw:Bool):EV R:=fun lab s k=>match lab with
 |none=>(match ann (id+100000)with
  |none=>Er P orc ops draw s k|some nt=>(match trim k0 (some nt) s with
   |none=>none|some s0=>itC k0 ((B2 (.region id ops draw)).bind ann) (Anj P orc ops draw) n s0 (gRC k)))
 |some _=>none
def mSeq(a:Code)(ea eb:EV R):EV R:=fun lab s k=>match lab with
 |none=>ea none s (Acj eb k)|some l=>bif Dg l a then ea (some l) s (Acj eb k)else eb (some l) s k
def Amk(c:Operand)(ex ey:EV R):EV R:=fun lab s k=>match lab with
 |none=>(match opA s.F c with
  | .c (.d (.v (.bool b)))=>bif b then ex none s k else ey none s k|_=>none)
 |some _=>none
def mBlk(id:Nat)(ec:EV R):EV R:=fun lab s k=>match lab with
 |none=>ec none s (Amu id k)|some _=>none
def Amj(ann:Ann)(k0 n:Nat)(c:Code)(ec:EV R):EV R:=fun lab s k=>match lab with
 |none=>(match trim k0 ((B2 c).bind ann) s with
  |none=>none|some s0=>itC k0 ((B2 c).bind ann) (Ank ec) n s0 k)
 |some _=>none
def Aol(ann:Ann)(k0 n:Nat)(c:Code)(ec:EV R):EV R:=fun lab s k=>match lab with
 |none=>ec none s (kScC ann k0 n c ec k)|some _=>none
def Aon(m:Nat):EV R:=fun lab s k=>match lab with
 |none=>k .norm s|some l=>bif m==l then k .norm s else none
def mOut(o:Out):EV R:=fun lab s k=>match lab with
 |none=>k o s|some _=>none
def Aom:EV R:=fun _ _ _=>none
def evC(P:Program)(orc:Orc)(ann:Ann)(k0 n:Nat)(c:Code):EV R:=
 Code.rec (motive:=fun _=>EV R) ApY (fun id ops draw=>mReg P orc ann k0 n id ops draw) (fun a _ ea eb=>mSeq a ea eb) (fun c _ _ ex ey=>Amk c ex ey) (fun id _ ec=>mBlk id ec) (fun c ec=>Amj ann k0 n c ec)
  (fun _ _ _ _ _ _=>Aom) (fun id=>mOut (.exit id)) (fun c ec=>Aol ann k0 n c ec) (fun m=>Aon m) (fun l=>mOut (.goto l)) (mOut .ret) (fun _=>Aom) c
theorem AaG{k0:Nat}{note:Option Note}{b b':St ->KO R ->Option (T R)}(hb: ∀s k,b s k=b' s k): ∀(n:Nat) (s:St) (k:KO R),itC k0 note b n s k=E4 k0 note b' n s k
 |0,s,k=>rfl|n+1,s,k=>by
  show b s (kItC k0 note (itC k0 note b n) k)=_;simp only[E4];rw[hb];refine congrArg _ (funext fun o=>funext fun s'=> ?_);cases o with
  |norm=>
   simp only[kItC];cases trim k0 note s' with
   |none=>rfl|some s0=>exact AaG hb n s0 k
  |_=>rfl
variable (P:Program)(orc:Orc)(ann:Ann)(k0 n:Nat)
theorem AoQ: ∀(c:Code) (lab:Option Nat) (s:St) (k:KO R),evC P orc ann k0 n c lab s k=evK P orc ann k0 n c lab s k:=by
 intro c;induction c with
 |skip=>intro lab s k;cases lab<;>simp only[evK]<;>rfl|region id ops draw=>
  intro lab s k;cases lab with
  |some l=>simp only[evK];rfl|none=>
   simp only[evK];show mReg P orc ann k0 n id ops draw none s k=_;simp only[mReg];cases ann (id+100000)with
   |none=>rfl|some nt=>
    simp only[];cases trim k0 (some nt) s with
    |none=>rfl|some s0=>
     simp only[];have e:gRC k=Aiq fun s''=>k .norm s'':=funext fun o=>funext fun s''=>by cases o<;>rfl
     rw[e];refine AaG (fun s' k'=> ?_) n s0 _;unfold Anj;have e:gNC k'=Wv fun s''=>k' .ret s'':=funext fun o=>funext fun s''=>by cases o<;>rfl
     rw[e]
 |seq a b iha ihb=>
  intro lab s k;have e:Acj (evC P orc ann k0 n b) k=fun o s'=>match o with
   | .norm=>evK P orc ann k0 n b none s' k| .exit id=>k (.exit id) s'| .goto l=>k (.goto l) s'| .ret=>k .ret s':=funext fun o=>funext fun s'=>by
   cases o with
   |norm=>exact ihb none s' k|_=>rfl
  cases lab with
  |none=>
   simp only[evK];show evC P orc ann k0 n a none s (Acj (evC P orc ann k0 n b) k)=_;rw[e,iha];rfl
  |some l=>
   simp only[evK];show(bif Dg l a then evC P orc ann k0 n a (some l) s (Acj (evC P orc ann k0 n b) k)else evC P orc ann k0 n b (some l) s k)=_;rw[e,iha,ihb];rfl
 |cond c x y ihx ihy=>
  intro lab s k;cases lab with
  |some l=>simp only[evK];rfl|none=>
   simp only[evK];show Amk c (evC P orc ann k0 n x) (evC P orc ann k0 n y) none s k=_;simp only[Amk,ihx,ihy];rfl
 |block id c ih=>
  intro lab s k;cases lab with
  |some l=>simp only[evK];rfl|none=>
   simp only[evK];show evC P orc ann k0 n c none s (Amu id k)=_;rw[ih];refine congrArg _ (funext fun o=>funext fun s'=> ?_);cases o<;>rfl
 |loop c ih=>
  intro lab s k;cases lab with
  |some l=>simp only[evK];rfl|none=>
   simp only[evK];show Amj ann k0 n c (evC P orc ann k0 n c) none s k=_;simp only[Amj];cases trim k0 ((B2 c).bind ann) s with
   |none=>rfl|some s0=>exact AaG (fun s' k'=>ih none s' k') n s0 k
 |scope c ih=>
  intro lab s k;cases lab with
  |some l=>simp only[evK];rfl|none=>
   simp only[evK];show evC P orc ann k0 n c none s (kScC ann k0 n c (evC P orc ann k0 n c) k)=_;rw[ih];refine congrArg _ (funext fun o=>funext fun s'=> ?_);cases o with
   |goto l=>
    simp only[kScC];cases findLabel c l with
    |none=>rfl|some rest=>
     simp only[];cases trim k0 ((B2 rest).bind ann) s' with
     |none=>rfl|some s0=>
      simp only[];have e:kGeC k=fun o s''=>match o with
       | .goto _=>k .norm s''| .norm=>none| .exit id=>k (.exit id) s''| .ret=>k .ret s'':=funext fun o=>funext fun s''=>by cases o<;>rfl
      rw[e];refine AaG (fun s1 k1=> ?_) n s0 _;unfold Apn;rw[ih];refine congrArg _ (funext fun o=>funext fun s''=> ?_);cases o<;>rfl
   |_=>rfl
 |label m=>intro lab s k;cases lab<;>simp only[evK]<;>rfl|goto l=>intro lab s k;cases lab<;>simp only[evK]<;>rfl|exit l=>intro lab s k;cases lab<;>simp only[evK]<;>rfl|ret=>intro lab s k;cases lab<;>simp only[evK]<;>rfl|_=>intro lab s k;cases lab<;>simp only[evK]<;>rfl
end
def lfK:AV ->Hp ->Option (T (AV×Hp)):=fun x H'=>some (.leaf (x,H'))
def Ai(P:Program)(orc:Orc)(ann:Ann)(n:Nat)(fn:Func)(c:Code)(args:List AV)(H:Hp):Option (T (AV×Hp)):=
 evC P orc ann H.length n c none ⟨args++List.replicate (fn.ntmps -args.length) (.tup []),H,H.length⟩ (endK P fn H.length lfK)
theorem AiQ(P:Program)(orc:Orc)(ann:Ann)(n:Nat)(fn:Func)(c:Code)(args:List AV)(H:Hp):Ai P orc ann n fn c args H=W7 P orc ann n fn c args H:=AoQ P orc ann H.length n c none _ _
theorem Akp{P:Program}{orc:Orc}(ho:B4 P orc){ann:Ann}{n:Nat}{f:FuncId}{fn:Func}{c:Code}{args:List AV}{H:Hp}{x:AV}{H':Hp}(hf:P.funcs[f]? =some fn)(hb:fn.body=some c)(hH:seqN 0 H=true)
 (h:W7 P orc ann n fn c args H=some (.leaf (x,H'))):CX P f args H x H':= .of_cr hf hb (Abd ho hf hb hH h (fun _ hy=>hy))
section
variable {R:Type}(P:Program)(orc:Orc)(ann:Ann)(k0 n:Nat)
def G5(lb:Code)(m:Nat)(s:St)(k:KO R):Option (T R):=
 itC k0 ((B2 lb).bind ann) (Ank (evC P orc ann k0 n lb)) m s k
def Afb(lb:Code)(m:Nat)(k:KO R):KO R:=kItC k0 ((B2 lb).bind ann) (itC k0 ((B2 lb).bind ann) (Ank (evC P orc ann k0 n lb)) m) k
def kAt:List Bool ->Code ->KO R ->KO R
 |[],_,k=>k|false::p, .seq a b,k=>kAt p a (Acj (evC P orc ann k0 n b) k)|true::p, .seq _ b,k=>kAt p b k|false::p, .cond _ x _,k=>kAt p x k|true::p, .cond _ _ y,k=>kAt p y k|_::p, .block id c,k=>kAt p c (Amu id k)|_::_,_,k=>k
end
def sub:List Bool ->Code ->Code
 |[],c=>c|false::p, .seq a _=>sub p a|true::p, .seq _ b=>sub p b|false::p, .cond _ a _=>sub p a|true::p, .cond _ _ b=>sub p b|_::p, .block _ c=>sub p c|_::p, .loop c=>sub p c|_::p, .scope c=>sub p c|_::_,c=>c
def S3(r:Nat):Code ->Option (List Bool)
 | .seq a b=>(match S3 r a with
  |some p=>some (false::p)|none=>(match S3 r b with|some p=>some (true::p)|none=>none))
 | .cond _ a b=>(match S3 r a with
  |some p=>some (false::p)|none=>(match S3 r b with|some p=>some (true::p)|none=>none))
 | .block _ c=>(match S3 r c with|some p=>some (false::p)|none=>none)
 | .loop c=>(match B2 c with|some i=>bif Nat.beq i r then some []else none|none=>none)
 |_=>none
def V7(r:Nat)(c:Code):List Bool:=match S3 r c with|some p=>p|none=>[]
def Jt(r:Nat)(c:Code):Code:=match sub (V7 r c) c with| .loop b=>b|x=>x
def Mp(r:Nat):Code ->Option (List Bool)
 | .seq a b=>(match Mp r a with
  |some p=>some (false::p)|none=>(match Mp r b with|some p=>some (true::p)|none=>none))
 | .cond _ a b=>(match Mp r a with
  |some p=>some (false::p)|none=>(match Mp r b with|some p=>some (true::p)|none=>none))
 | .block _ c=>(match Mp r c with|some p=>some (false::p)|none=>none)
 | .region id _ _=>bif Nat.beq id r then some []else none|_=>none
def AhZ(r:Nat)(c:Code):List Bool:=match Mp r c with|some p=>p|none=>[]
def AoJ{R:Type}(P:Program)(orc:Orc)(ann:Ann)(k0 n:Nat)(c:Code)(m:Nat)(s:St)(k:KO R):Option (T R):=match c with
 | .region id ops draw=>itC k0 ((B2 (.region id ops draw)).bind ann) (Anj P orc ops draw) m s (gRC k)|_=>none
def AoK(i:Nat):List (Nat×AV) ->AV
 |[]=> .u|(j,x)::r=>bif Nat.beq i j then x else AoK i r
def frm(l:List (Nat×AV)):Nat ->Nat ->List AV
 |_,0=>[]|i,n+1=>AoK i l::frm l (i+1) n
def A1:List (Nat×Note) ->Ann
 |[],_=>none|(r,x)::l,i=>bif Nat.beq i r then some x else A1 l i
abbrev kEnd(P:Program)(fn:Func)(k0:Nat):Out ->St ->Option (T (AV×Hp)):=endK P fn k0 lfK
def LK(P:Program)(orc:Orc)(ann:Ann)(k0 g:Nat)(fn:Func)(r m:Nat)(s:St):Option (T (AV×Hp)):=
 G5 P orc ann k0 g (Jt r (Ac fn)) m s (kAt P orc ann k0 g (V7 r (Ac fn)) (Ac fn) (kEnd P fn k0))
def LK2(P:Program)(orc:Orc)(ann:Ann)(k0 g:Nat)(fn:Func)(r m r2 m2:Nat)(s:St):Option (T (AV×Hp)):=
 G5 P orc ann k0 g (Jt r2 (Jt r (Ac fn))) m2 s (kAt P orc ann k0 g (V7 r2 (Jt r (Ac fn))) (Jt r (Ac fn)) (Afb P orc ann k0 g (Jt r (Ac fn)) m (kAt P orc ann k0 g (V7 r (Ac fn)) (Ac fn) (kEnd P fn k0))))
def GK(P:Program)(orc:Orc)(ann:Ann)(k0 g:Nat)(fn:Func)(r m:Nat)(s:St):Option (T (AV×Hp)):=
 AoJ P orc ann k0 g (sub (AhZ r (Ac fn)) (Ac fn)) m s (kAt P orc ann k0 g (AhZ r (Ac fn)) (Ac fn) (kEnd P fn k0))
def GK2(P:Program)(orc:Orc)(ann:Ann)(k0 g:Nat)(fn:Func)(r m r2 m2:Nat)(s:St):Option (T (AV×Hp)):=
 AoJ P orc ann k0 g (sub (AhZ r2 (Jt r (Ac fn))) (Jt r (Ac fn))) m2 s (kAt P orc ann k0 g (AhZ r2 (Jt r (Ac fn))) (Jt r (Ac fn)) (Afb P orc ann k0 g (Jt r (Ac fn)) m (kAt P orc ann k0 g (V7 r (Ac fn)) (Ac fn) (kEnd P fn k0))))
def ansP{J:Type}(dec:List AV ->Option J)(g:J ->AV):(R:Type) ->List AV ->Hp ->(AV ->Hp ->Option (T R)) ->Option (T R):=fun _ args H k=>match H with
 |[]=>(match dec args with|some a=>k (g a) []|none=>none)
 |_::_=>none
theorem Fq{P:Program}{f0:FuncId}{J:Type}{dec:List AV ->Option J}{g:J ->AV}{enc:J ->List AV}(hd: ∀args a,dec args=some a ->args=enc a)(hc: ∀a,CX P f0 (enc a) [] (g a) []):
  ∀(R:Type) args H (k:AV ->Hp ->Option (T R)) t,ansP dec g R args H k=some t -> ∃x H',k x H'=some t/\CX P f0 args H x H':=fun R args H k t h=>by
 unfold ansP at h;split at h
 ·split at h
  ·rename_i a ha;rw[hd args a ha];exact⟨_,_,h,hc a⟩
  ·simp at h
 ·simp at h
def ansC{J:Type}(dec:List AV ->Option J)(c:J ->Bool)(g:J ->AV):(R:Type) ->List AV ->Hp ->(AV ->Hp ->Option (T R)) ->Option (T R):=fun _ args H k=>match H with
 |[]=>(match dec args with|some a=>bif c a then k (g a) []else none|none=>none)
 |_::_=>none
theorem Va{P:Program}{f0:FuncId}{J:Type}{dec:List AV ->Option J}{c:J ->Bool}{g:J ->AV}{enc:J ->List AV}(hd: ∀args a,dec args=some a ->args=enc a)(hc: ∀a,c a=true ->CX P f0 (enc a) [] (g a) []):
  ∀(R:Type) args H (k:AV ->Hp ->Option (T R)) t,ansC dec c g R args H k=some t -> ∃x H',k x H'=some t/\CX P f0 args H x H':=fun R args H k t h=>by
 unfold ansC at h;split at h
 ·split at h
  ·rename_i a ha;rw[hd args a ha];cases hca:c a with
   |true=>rw[hca]at h;exact⟨_,_,h,hc a hca⟩|false=>rw[hca]at h;cases h
  ·simp at h
 ·simp at h
theorem Mc{P:Program}{orc:Orc}(ho:B4 P orc){ann:Ann}{n:Nat}{f:FuncId}{fn:Func}{c:Code}{args:List AV}{H:Hp}{x:AV}{H':Hp}(hf:P.funcs[f]? =some fn)(hb:fn.body=some c)(hH:seqN 0 H=true)
 (h:Ai P orc ann n fn c args H=some (.leaf (x,H'))):CR P f args H x H':=Abd ho hf hb hH ((AiQ P orc ann n fn c args H).symm.trans h) (fun _ hy=>hy)
theorem Am{P:Program}{orc:Orc}(ho:B4 P orc){ann:Ann}{n:Nat}{f:FuncId}{fn:Func}{c:Code}{args:List AV}{H:Hp}{x:AV}{H':Hp}(hf:P.funcs[f]? =some fn)(hb:fn.body=some c)(hH:seqN 0 H=true)
 (h:Ai P orc ann n fn c args H=some (.leaf (x,H'))):CX P f args H x H':= .of_cr hf hb (Mc ho hf hb hH h)
def dec0:List AV ->Option Unit
 |[]=>some ()|_=>none
def Agc:List AV ->Option Int
 |[.c (.d (.v (.int .i32 n)))]=>some n|_=>none
def dec8:List AV ->Option Int
 |[.c (.d (.v (.int .u8 n)))]=>some n|_=>none
def decS:List AV ->Option BA
 |[.c (.d (.v (.string s)))]=>some s|_=>none
abbrev v32(n:Int):AV:= .c (.d (.v (.int .i32 n)))
abbrev v8(n:Int):AV:= .c (.d (.v (.int .u8 n)))
theorem AmX(args:List AV)(a:Unit)(h:dec0 args=some a):args=[]:=by unfold dec0 at h;split at h<;>simp_all
theorem U3(args:List AV)(a:Int)(h:Agc args=some a):args=[v32 a]:=by unfold Agc at h;split at h<;>simp_all
theorem U1(args:List AV)(a:Int)(h:dec8 args=some a):args=[v8 a]:=by unfold dec8 at h;split at h<;>simp_all
abbrev vI(n:Int):AV:= .c (.d (.v (.int .i64 n)))
abbrev vB(b:Bool):AV:= .c (.d (.v (.bool b)))
abbrev vS(s:BA):AV:= .c (.d (.v (.string s)))
theorem D9(args:List AV)(a:BA)(h:decS args=some a):args=[vS a]:=by unfold decS at h;split at h<;>simp_all
abbrev pI(n:Int):Bool×List C:=(false,[.d (.v (.int .i64 n))])
end Go.Eb
end
