/-
  Go code evaluated: part 4. No condition.
-/
import Derived.Test.YtbpndheehcbldaaGreatDoorQ3
open Go.IntKind (wrap u32 i32)
noncomputable section
open Go.Proofs Go.Proofs.Tryz
set_option maxRecDepth 100000
namespace Go.Y.sg
open Go.RowKit Go.Eb Go.Y.st
structure KSc where
 okd:LB
 dm:List AV ->List (Value×Value)
 oko:LB
 ow:LI
 okf:LB
 fi:List AV ->Plc
def oSc(Z:KSc):Orc:=Orc.cons 77 (ansN (fun x=>Z.okd x) (fun _=> .c (.mp 0)) fun x=>[(0, .map 1 (Z.dm x))]) (Orc.cons 78 (ansG Z.oko fun x=>vI (Z.ow x)) (Orc.cons 79 (ansG Z.okf fun x=>aPl (Z.fi x)) (Orc.cons 80 (inl prog Orc.nil na 1 f80) Orc.nil)))
def AgF:Ann:=A1 [(3,⟨[4,1,13,14,15],[]⟩),(9,⟨[5,4,1,27,13,14,15,28,29],[]⟩)]
def Xo(Z:KSc)(c:SCfg)(g m:Nat)(l1:MV)(i15:Int):=LK prog (oSc Z) AgF 0 g f33 3 m ⟨frm [(1, .c (.ptr 0 0)),(4, .c (.mp 1)),(13, .c (.d (Ad 53 relC rel0 (SCfg.qh c)))),(14,iA (↑(List.length (SCfg.qh c)):Int)),(15,iA i15)] 0 f33.ntmps,[(0, .cells (List.map C.d (cfgC c)) 30),(1, .map 1 l1)],2⟩
def Tl(Z:KSc)(c:SCfg)(g mo m:Nat)(l1:MV)(i5:Int)(i15:Int)(i28:Int)(i29:Int):=LK2 prog (oSc Z) AgF 0 g f33 3 mo 9 m ⟨frm [(1, .c (.ptr 0 0)),(4, .c (.mp 1)),(5,iA i5),(13, .c (.d (Ad 53 relC rel0 (SCfg.qh c)))),(14,iA (↑(List.length (SCfg.qh c)):Int)),(15,iA i15),(27, .c (.d (Ad 4 subC sub0 (SRel.ql (List.getD (SCfg.qh c) (Int.toNat i15) rel0))))),(28,iA i28),(29,iA i29)] 0 f33.ntmps,[(0, .cells (List.map C.d (cfgC c)) 30),(1, .map 1 l1)],2⟩
theorem bsck:f33.body=some (Ac f33):=by kernel_rfl
theorem Aqv(Z:KSc)(c:SCfg)(g:Nat):Ai prog (oSc Z) AgF g f33 (Ac f33) [aCfg c] []=
 (bif KSc.okd Z [gA (cfgC c)]then Xo Z c g g (KSc.dm Z [gA (cfgC c)]) 0 else none):=by kernel_rfl
theorem Aln(Z:KSc)(c:SCfg)(g m:Nat)(l1:MV)(i15:Int):Xo Z c g (m+1) l1 i15=
 (bif decide (i15<(↑c.qh.length:Int))then(bif decide (0<=i15)&&decide (i15<(↑c.qh.length:Int))then(bif KSc.oko Z [gA (relC (c.qh.getD
 i15.toNat rel0))]then(bif KSc.ow Z [gA (relC (c.qh.getD i15.toNat rel0))] !=0 then some (T.leaf (.tup [(false,[.d (iD i15)]),(false,[C.d
 (iD (KSc.ow Z [gA (relC (c.qh.getD i15.toNat rel0))]))])],[]))else Tl Z c g m g l1 i15 i15 ((↑(SRel.ql (c.qh.getD i15.toNat rel0)).length:
 Int)) 0)else none)else none)else some (T.leaf (.tup [(false,[.d (iD 0)]),(false,[.d (iD 0)])],[]))):=by kernel_rfl
theorem Alm(Z:KSc)(c:SCfg)(g mo m:Nat)(l1:MV)(i5:Int)(i15:Int)(i28:Int)(i29:Int):Tl Z c g mo (m+1) l1 i5 i15 i28 i29=
 (bif decide (i29<i28)then(bif decide (0<=i29)&&decide (i29<(↑(SRel.ql (c.qh.getD i15.toNat rel0)).length:Int))then(bif Option.isSome (Bb l1 (Value.string (SSub.dev
 ((SRel.ql (c.qh.getD i15.toNat rel0)).getD i29.toNat sub0))))then(bif KSc.okf Z [gA (cfgC c),iA i5, .c (.d (.v (.int .i64
 (Eb.intOf (Bb l1 (Value.string (SSub.dev ((SRel.ql (c.qh.getD i15.toNat rel0)).getD i29.toNat sub0)))))))),gA (subC ((SRel.ql (c.qh.getD i15.toNat
 rel0)).getD i29.toNat sub0))]then(bif Plc.err (KSc.fi Z [gA (cfgC c),iA i5,iA (Eb.intOf (Bb l1 (Value.string
 (SSub.dev ((SRel.ql (c.qh.getD i15.toNat rel0)).getD i29.toNat sub0))))),gA (subC ((SRel.ql (c.qh.getD i15.toNat rel0)).getD i29.toNat sub0))]) !=0
 then some (T.leaf (.tup [(false,[.d (iD i5)]),(false,[.d (iD (Plc.err (KSc.fi Z [gA (cfgC c), .c (.d (.v (.int .i64
 i5))),iA (Eb.intOf (Bb l1 (Value.string (SSub.dev ((SRel.ql (c.qh.getD i15.toNat rel0)).getD i29.toNat sub0))))),gA (subC
 ((SRel.ql (c.qh.getD i15.toNat rel0)).getD i29.toNat sub0))])))])],[]))else Tl Z c g mo m l1 i5 i15 i28 (wrap .i64 (i29+1)))else none)else(bif KSc.okf Z
 [gA (cfgC c),iA i5,iA (-1),gA (subC ((SRel.ql (c.qh.getD i15.toNat rel0)).getD i29.toNat
 sub0))]then(bif Plc.err (KSc.fi Z [gA (cfgC c), .c (.d (iD i5)),iA (-1),gA (subC
 ((SRel.ql (c.qh.getD i15.toNat rel0)).getD i29.toNat sub0))]) !=0 then some (T.leaf (.tup [(false,[.d (iD i5)]),(false,[.d (iD (Plc.err (KSc.fi
 Z [gA (cfgC c),iA i5,iA (-1),gA (subC ((SRel.ql (c.qh.getD i15.toNat rel0)).getD
 i29.toNat sub0))])))])],[]))else Tl Z c g mo m l1 i5 i15 i28 (wrap .i64 (i29+1)))else none))else none)else Xo Z c g mo l1 (wrap .i64 (i15+1))):=by kernel_rfl
theorem Aoq(l:List BA)(g:Nat)(hb:l.length<=9223372036854775807): ∀(m k:Nat) (seen:List BA),k<=l.length ->l.length -k<m ->Abx l g m (Ap seen) k=some (.leaf (vB (repS seen (l.drop k)),[]))
 |0,k,_,_,h=>by omega|m+1,k,seen,hk,h=>by
  rw[Alp];by_cases hlt:k<l.length
  ·rw[Av (d:=e0) hlt,lt1 hlt,ge0,tn,nx hlt hb,C2,<-Cc,Aoq l g hb m (k+1) _ (by omega) (by omega),tt,za,za];simp only[repS];cases inB seen (l.getD k e0)<;>rfl
  ·rw[lt0 hlt,zl];rfl
theorem cRpt(l:List BA)(h:Au l=true):CX prog 141 [.c (.d (Ab l))] [] (vB (repS [] l)) []:=
 Am (Orc.nil_ok _) func141 brpt rfl ((AqC l (l.length+1)).trans (Aoq l (l.length+1) (Bi h) (l.length+1) 0 [] (by omega) (by omega)))
theorem Amm(c:SCfg)(g:Nat)(hb:c.qh.length<=9223372036854775807): ∀(m k:Nat) (acc:MV),k<=c.qh.length ->c.qh.length -k<m ->X0 c g m acc k=some (.leaf (.c (.mp 0),[(0, .map 1 (devA acc k (c.qh.drop k)))]))
 |0,k,_,_,h=>by omega|m+1,k,acc,hk,h=>by
  rw[Alw];by_cases hlt:k<c.qh.length
  ·rw[Av (d:=rel0) hlt,lt1 hlt,ge0,tn,nx hlt hb,Amm c g hb m (k+1) _ (by omega) (by omega),Amm c g hb m (k+1) _ (by omega) (by omega),tt,za,za];simp only[devA];cases(!(Bb acc (Value.string (c.qh.getD k rel0).name)).isSome)<;>rfl
  ·rw[lt0 hlt,zl];rfl
theorem cDvs(c:SCfg)(h:Au c.qh=true):CX prog 77 [aCfg c] [] (.c (.mp 0)) [(0, .map 1 (devA [] 0 c.qh))]:=
 Am (Orc.nil_ok _) func77 bdvs rfl ((AqX c (c.qh.length+1)).trans (Amm c (c.qh.length+1) (Bi h) (c.qh.length+1) 0 [] (by omega) (by omega)))
abbrev eR1:=en1 aRel
theorem D7:InjT eR1:=Cf aRel_inj
abbrev eBu:=en1 (aD Ab)
theorem M3:InjT eBu:=Cf (Xn (A8 (sz:=1) (d0:=e0) Ca))
def cNe(l:List BA):Bool:= !l.isEmpty&&decide (l.length<=1000000)
def ZOw:KOw where
 oko:=okG eR1 fitR
 ou x:=outS (theT eR1 x)
 okn:=okG eR1 fitR
 inn x:=inS (theT eR1 x)
 okc:=okG eBu cNe
 cl x:=theT eBu x
 okr:=okG eBu Au
 rp x:=repS [] (theT eBu x)
 oks:=okG eRS fun a=>Au a.1.qj
 so x:=Cy (theT eRS x).1 (theT eRS x).2
theorem sOw:OrcS prog (oOw ZOw):=
 .cons (.t' (enc:=eR1) (c:=fitR) (r:=fun r=> .c (.d (Ab (outS r)))) fun r h=>cOuD r (Cv h)) (.cons (.t' (enc:=eR1) (c:=fitR) (r:=fun r=> .c (.d (Ab (inS r)))) fun r h=>cIn r (Cv h))
  (.cons (.nt (enc:=eBu) (c:=cNe) (r:=rowS) (H':=hpS) fun l h=>by
    unfold cNe at h;simp only[zd,zi,Bool.not_eq_true',List.isEmpty_eq_false_iff]at h;exact cln.cClone l h.1 h.2)
  (.cons (.lt (enc:=eBu) (c:=Au) (r:=fun l=>vB (repS [] l)) func141 brpt (fun _=>rfl) fun l h=>cRpt l h)
  (.cons (.t' (enc:=eRS) (c:=fun a=>Au a.1.qj) (r:=fun a=>vI (Cy a.1 a.2)) fun a h=>cSo a.1 a.2 h) .nil))))
theorem Ama{r:SRel}(h:FitR r):outS r≠[]:=by
 have h1:=h.k1;have h4:=h.k4;have:r.kind=1\/r.kind=2\/r.kind=3\/r.kind=4:=by omega
 unfold outS;intro e;have e:=(List.append_eq_nil_iff.1 e).1;rcases this with k|k|k|k<;>(rw[k]at e;revert e;decide)
theorem AeN(r:SRel)(g mo:Nat)(K:List BA)(i:Nat)(hs:(r.qj.getD i set0).qm.length<=1000): ∀(m j:Nat) (seen:List BA),j<=(r.qj.getD i set0).qm.length ->(r.qj.getD i set0).qm.length -j<m ->
  R3 ZOw r g mo m (Ap K) (Ap seen) i ((r.qj.getD i set0).qm.length:Nat) j=bif H0 K seen ((r.qj.getD i set0).qm.drop j) !=0 then lN (H0 K seen ((r.qj.getD i set0).qm.drop j))else J2 ZOw r g mo (Ap K) (wrap IntKind.i64 ((i:Int)+1))
 |0,j,_,_,h=>by omega|m+1,j,seen,hj,h=>by
  rw[AgZ,tn i,tn j];by_cases hlt:j<(r.qj.getD i set0).qm.length
  ·rw[Av (d:=e0) hlt,lt1 hlt,ge0,nx hlt,C2,C2,<-Cc,AeN r g mo K i hs m (j+1) _ (by omega) (by omega),tt,za,za];simp only[H0];cases inB K ((r.qj.getD i set0).qm.getD j e0)with
   |false=>rfl|true=>cases inB seen ((r.qj.getD i set0).qm.getD j e0)<;>rfl
  ·rw[lt0 hlt,zl];rfl
theorem AeO(r:SRel)(g:Nat)(K:List BA)(hr:FitR r)(hg:1000<g): ∀(m k:Nat),k<=r.qj.length ->r.qj.length -k<m ->
  J2 ZOw r g m (Ap K) k=bif Fh K (r.qj.drop k) !=0 then lN (Fh K (r.qj.drop k))else Nj ZOw r g g 0
 |0,k,_,h=>by omega|m+1,k,hk,h=>by
  rw[Aha];by_cases hlt:k<r.qj.length
  ·have hs:=hr.sg _ (Lz set0 hlt);have e:R3 ZOw r g m g (Ap K) [] (k:Int) ((r.qj.getD k set0).qm.length:Nat) 0=_:=AeN r g m K k hs g 0 [] (by omega) (by omega);rw[nx hlt (by have:=hr.se;omega),AeO r g K hr hg m (k+1) (by omega) (by omega),zq]at e;rw[Av (d:=set0) hlt,lt1 hlt,ge0,tn,tt,za,za];refine e.trans ?_;simp only[Fh];cases hz:(H0 K [] (r.qj.getD k set0).qm !=0)with
   |true=>simp only[za,hz]|false=>rfl
  ·rw[lt0 hlt,zl];rfl
theorem AeM(r:SRel)(g:Nat)(hr:FitR r): ∀(m k:Nat),k<=r.qk.length ->r.qk.length -k<m ->Nj ZOw r g m k=lN (Jc r (r.qk.drop k))
 |0,k,_,h=>by omega|m+1,k,hk,h=>by
  rw[AgY];by_cases hlt:k<r.qk.length
  ·rw[Av (d:=pub0) hlt,lt1 hlt,ge0,tn,nx hlt (by have:=hr.pu;omega),AeM r g hr m (k+1) (by omega) (by omega),tt,za,za];generalize r.qk.getD k pub0=p;have k1:ZOw.oks [AV.agg (List.map C.d (relC r)),AV.c (C.d (D.v (Value.string p.set)))]=true:=Ao Jl (c:=fun a=>Au a.1.qj) (r,p.set) (by unfold Au;exact zk (by have:=hr.se;show r.qj.length<=_;omega));have t1:theT eRS [AV.agg (List.map C.d (relC r)),AV.c (C.d (D.v (Value.string p.set)))]=(r,p.set):=Aj Jl (r,p.set);have k2:ZOw.so [AV.agg (List.map C.d (relC r)),AV.c (C.d (D.v (Value.string p.set)))]=Cy r p.set:=by dsimp only[ZOw];rw[t1]
   rw[k1,k2,za];simp only[Jc];cases decide (Cy r p.set<0)<;>rfl
  ·rw[lt0 hlt,zl];rfl
theorem cOwn(r:SRel)(h:fitR r=true):CX prog 78 [aRel r] [] (vI (Ki r)) []:=by
 have hr:=Cv h;have ol:=Ll r;have hru:=hr.ru;obtain⟨g,hg⟩: ∃g,2000<g:=⟨2001,by omega⟩;refine Am sOw.ok func78 bown rfl ((AqI ZOw r g).trans ?_);have k1:ZOw.oko [AV.agg (List.map C.d (relC r))]=true:=Ao D7 (c:=fitR) r h;have t1:theT eR1 [AV.agg (List.map C.d (relC r))]=r:=Aj D7 r;have k2:ZOw.ou [AV.agg (List.map C.d (relC r))]=outS r:=by dsimp only[ZOw];rw[t1]
 have k3:ZOw.okn [AV.agg (List.map C.d (relC r))]=true:=k1;have k4:ZOw.inn [AV.agg (List.map C.d (relC r))]=inS r:=by dsimp only[ZOw];rw[t1]
 have k5:ZOw.okc [AV.c (C.d (Ad 1 busC e0 (outS r)))]=true:=Ao M3 (c:=cNe) (outS r) (by
  unfold cNe;rw[zk];cases ho:outS r with
  |nil=>exact absurd ho (Ama hr)|cons a b=>rfl)
 have k6:ZOw.cl [AV.c (C.d (Ad 1 busC e0 (outS r)))]=outS r:=Aj M3 (outS r);have hcat:=RL.cat (c:=busC) (d0:=e0) (RL.data (outS r)) (RL.data (inS r));have hin:(inS r).length=r.ql.length:=by simp[inS]
 have hsu:=hr.su;have a1:Asle [AV.c (C.d (D.sl 1 ((outS r).length+(inS r).length) (appF (outS r).length (fun i=>busC ((outS r).getD i e0)) fun i=>busC ((inS r).getD i e0))))] (eBu (outS r++inS r)):= .cons (show DE _ _ from hcat.de (sz:=1)) .nil;have a2:Asle (eBu (outS r++inS r)) [AV.c (C.d (D.sl 1 ((outS r).length+(inS r).length) (appF (outS r).length (fun i=>busC ((outS r).getD i e0)) fun i=>busC ((inS r).getD i e0))))]:= .cons (show DE _ _ from hcat.ed (sz:=1)) .nil;have k7:ZOw.okr [AV.c (C.d (D.sl 1 ((outS r).length+(inS r).length) (appF (outS r).length (fun i=>busC ((outS r).getD i e0)) fun i=>busC ((inS r).getD i e0))))]=true:=
  Wg M3 (a:=outS r++inS r) a1 a2 (by unfold Au;exact zk (by rw[List.length_append];omega))
 have k8:ZOw.rp [AV.c (C.d (D.sl 1 ((outS r).length+(inS r).length) (appF (outS r).length (fun i=>busC ((outS r).getD i e0)) fun i=>busC ((inS r).getD i e0))))]=repS [] (outS r++inS r):=by
  dsimp only[ZOw];rw[Mm M3 (a:=outS r++inS r) a1 a2]
 have k9:(decide (((outS r).length+(inS r).length)*16<=140737488355328)&&decide ((outS r).length+(inS r).length<=9223372036854775807))=true:=by
  rw[zk,zk];rfl
 rw[k1,k2,k3,k4,k5,k6,k7,k8,k9];simp only[za];unfold Ki;cases hrep:repS [] (outS r++inS r)with
 |true=>rfl|false=>
  rw[zb,zb];have l1:Xr ZOw r g g (Ap []) ((0:Nat):Int)=J2 ZOw r g g (Ap ([]++((outS r).drop 0).map id)) 0:=Gk (nm:=id) (d0:=e0) (l:=outS r) (L:=fun m mp i=>Xr ZOw r g m mp i) (NX:=fun mp=>J2 ZOw r g g mp 0) (fun m k N hk=>by
   rw[Adg,k2,lt1 hk,ge0,tn,nx hk,Cc,tt,za,za];rfl) (fun m mp=>by rw[Adg,k2,lt0 (zp _)];rfl) g 0 [] (by omega) (by omega)
  rw[zq,List.map_id,List.nil_append]at l1;have l2:J2 ZOw r g g (Ap (outS r)) ((0:Nat):Int)=_:=AeO r g (outS r) hr (by omega) g 0 (by omega) (by have:=hr.se;omega);have l3:Nj ZOw r g g ((0:Nat):Int)=_:=AeM r g hr g 0 (by omega) (by have:=hr.pu;omega);rw[zq]at l2 l3;refine Eq.trans l1 (Eq.trans l2 ?_);cases hz:(Fh (outS r) r.qj !=0)with
  |true=>rfl|false=>exact l3
def vQ(p:Int×Int):AV:= .tup [(false,[.d (dI p.1)]),(false,[.d (dI p.2)])]
def fitC(l:List SRel):Bool:=decide (l.length<=1000)&&(l.all fitR&&l.all Ci)
theorem E6{l:List SRel}(h:fitC l=true):l.length<=1000/\(∀r∈l,fitR r=true)/\l.all Ci=true:=by
 unfold fitC at h;simp only[zd,zi]at h;exact⟨h.1,List.all_eq_true.1 h.2.1,h.2.2⟩
abbrev eCf:=en1 aCfg
theorem Abr:InjA aCfg:=Kn AiL
theorem D8:InjT eCf:=Cf Abr
def eFd(c:SCfg)(a:Int×Int×SSub):List AV:=[aCfg c,vI a.1,vI a.2.1,Aji a.2.2]
theorem AgL:InjA Aji:=Kn J5
theorem Uz(c:SCfg):InjT (eFd c):=fun a b h=>by
 obtain⟨x1,h⟩:=Ar (Ar h).2;obtain⟨x2,h⟩:=Ar h;obtain⟨x3,h⟩:=Ar h;exact Prod.ext (Hs _ _ x1) (Prod.ext (Hs _ _ x2) (AgL _ _ x3))
def cFd(l:List SRel)(a:Int×Int×SSub):Bool:=decide (a.2.1<l.length)
def ZSc(c:SCfg):KSc where
 okd:=okG eCf fun a=>Au a.qh
 dm x:=devA [] 0 (theT eCf x).qh
 oko:=okG eR1 fitR
 ow x:=Ki (theT eR1 x)
 okf:=okG (eFd c) (cFd c.qh)
 fi x:=Pr c.qh (theT (eFd c) x).1 (theT (eFd c) x).2.1 (theT (eFd c) x).2.2
theorem sSc(c:SCfg)(h:fitC c.qh=true):OrcS prog (oSc (ZSc c)):=
 .cons (.nt (enc:=eCf) (c:=fun a=>Au a.qh) (r:=fun _=> .c (.mp 0)) (H':=fun a=>[(0, .map 1 (devA [] 0 a.qh))]) fun a h=>cDvs a h) (.cons (.t' (enc:=eR1) (c:=fitR) (r:=fun r=>vI (Ki r)) fun r h=>cOwn r h)
  (.cons (.t' (enc:=eFd c) (c:=cFd c.qh) (r:=fun a=>aPl (Pr c.qh a.1 a.2.1 a.2.2)) fun a ha=>Ang c a.1 a.2.1 a.2.2 (by unfold cFd at ha;simpa using ha) (E6 h).2.2) (.cons (.inl .nil func80 (by kernel_rfl)) .nil)))
abbrev lE(p:Int×Int):Option (T (AV×Hp)):=some (.leaf (vQ p,[]))
theorem P9(l:List SRel)(n:BA):F9 l n<l.length/\(F9 l n<0 ->F9 l n= -1):=by
 rcases Mw (fun r:SRel=>isT r.name n) rel0 l 0 with⟨h1,_⟩|⟨k,hk,h1,_⟩
 ·have h1:F9 l n= -1:=h1;omega
 ·have h1:F9 l n=_:=h1;omega
theorem Akb(c:SCfg)(g mo:Nat)(i:Nat)(hs:(c.qh.getD i rel0).ql.length<=1000): ∀(m j:Nat),j<=(c.qh.getD i rel0).ql.length ->(c.qh.getD i rel0).ql.length -j<m ->
  Tl (ZSc c) c g mo m (devA [] 0 c.qh) i i ((c.qh.getD i rel0).ql.length:Nat) j=bif Hz c.qh i ((c.qh.getD i rel0).ql.drop j) !=0 then lE (i,Hz c.qh i ((c.qh.getD i rel0).ql.drop j))else Xo (ZSc c) c g mo (devA [] 0 c.qh) (wrap IntKind.i64 ((i:Int)+1))
 |0,j,_,h=>by omega|m+1,j,hj,h=>by
  rw[Alm,tn i,tn j];by_cases hlt:j<(c.qh.getD i rel0).ql.length
  ·rw[Av (d:=sub0) hlt,lt1 hlt,ge0,nx hlt,Akb c g mo i hs m (j+1) (by omega) (by omega),tt,za,za];generalize (c.qh.getD i rel0).ql.getD j sub0=x;have key: ∀d:Int,d<c.qh.length ->(ZSc c).okf [aCfg c,AV.c (C.d (D.v (Value.int IntKind.i64 (i:Int)))),AV.c (C.d (D.v (Value.int IntKind.i64 d))),AV.agg (List.map C.d (subC x))]=true/\(ZSc c).fi [aCfg c,AV.c (C.d (D.v (Value.int IntKind.i64 (i:Int)))),AV.c (C.d (D.v (Value.int IntKind.i64 d))),AV.agg (List.map C.d (subC x))]=Pr c.qh i d x:=fun d hd=>by
    have t:theT (eFd c) [aCfg c,AV.c (C.d (D.v (Value.int IntKind.i64 (i:Int)))),AV.c (C.d (D.v (Value.int IntKind.i64 d))),AV.agg (List.map C.d (subC x))]=((i:Int),d,x):=Aj (Uz c) ((i:Int),d,x);refine⟨Ao (Uz c) (c:=cFd c.qh) ((i:Int),d,x) (by unfold cFd;exact zk hd), ?_⟩;dsimp only[ZSc];rw[t]
   obtain⟨d1,d2⟩:=P9 c.qh x.dev;obtain⟨k1,k2⟩:=key (F9 c.qh x.dev) d1;obtain⟨k3,k4⟩:=key (-1) (by omega);rw[Ags];simp only[Hz];cases hd:decide (F9 c.qh x.dev<0)with
   |true=>
    have hd':=d2 (of_decide_eq_true hd);rw[za,Option.isSome_none,zb,k3,k4,za];have e:Ut c.qh i x=Pr c.qh i (-1) x:=by unfold Ut;rw[hd']
    rw[e];cases hz:((Pr c.qh i (-1) x).err !=0)with
    |true=>simp only[za,hz];rfl|false=>rfl
   |false=>
    rw[zb,Option.isSome_some,za];show(bif(ZSc c).okf [aCfg c,_,AV.c (C.d (D.v (Value.int IntKind.i64 (F9 c.qh x.dev)))),_]then(bif Plc.err ((ZSc c).fi [aCfg c,_,AV.c (C.d (D.v (Value.int IntKind.i64 (F9 c.qh x.dev)))),_]) !=0 then lE (i,Plc.err ((ZSc c).fi [aCfg c,_,AV.c (C.d (D.v (Value.int IntKind.i64 (F9 c.qh x.dev)))),_]))else _)else none)=_;rw[k1,k2,za];have e:Ut c.qh i x=Pr c.qh i (F9 c.qh x.dev) x:=rfl;rw[e];cases hz:((Pr c.qh i (F9 c.qh x.dev) x).err !=0)with
    |true=>simp only[za,hz]|false=>rfl
  ·rw[lt0 hlt,zl];rfl
theorem Akc(c:SCfg)(g:Nat)(hl:fitC c.qh=true)(hg:1000<g): ∀(m k:Nat),k<=c.qh.length ->c.qh.length -k<m ->Xo (ZSc c) c g m (devA [] 0 c.qh) k=lE (Fy c.qh k (c.qh.drop k))
 |0,k,_,h=>by omega|m+1,k,hk,h=>by
  rw[Aln];by_cases hlt:k<c.qh.length
  ·obtain⟨hn,hf,_⟩:=E6 hl;have hfr:=hf _ (Lz rel0 hlt);have hr:=Cv hfr;have e:Tl (ZSc c) c g m g (devA [] 0 c.qh) k k ((c.qh.getD k rel0).ql.length:Nat) ((0:Nat):Int)=_:=Akb c g m k hr.su g 0 (by omega) (by have:=hr.su;omega);rw[nx hlt,Akc c g hl hg m (k+1) (by omega) (by omega),zq]at e;rw[Av (d:=rel0) hlt,lt1 hlt,ge0,tn,tt,za,za];have k1:(ZSc c).oko [AV.agg (List.map C.d (relC (c.qh.getD k rel0)))]=true:=Ao D7 (c:=fitR) (c.qh.getD k rel0) hfr;have k2:(ZSc c).ow [AV.agg (List.map C.d (relC (c.qh.getD k rel0)))]=Ki (c.qh.getD k rel0):=congrArg Ki (Aj D7 (c.qh.getD k rel0));rw[k1,k2,za];simp only[Fy];unfold Lj;cases hz:(Ki (c.qh.getD k rel0) !=0)with
   |true=>simp only[za,hz];rfl|false=>
    refine e.trans ?_;simp only[zb];cases hy:(Hz c.qh k (c.qh.getD k rel0).ql !=0)<;>rfl
  ·rw[lt0 hlt,zl];rfl
theorem cSck(c:SCfg)(h:fitC c.qh=true):CX prog 33 [aCfg c] [] (vQ (Fy c.qh 0 c.qh)) []:=by
 obtain⟨g,hg⟩: ∃g,2000<g:=⟨2001,by omega⟩;have hn:=(E6 h).1;refine Am (sSc c h).ok func33 bsck rfl ((Aqv (ZSc c) c g).trans ?_);have k1:(ZSc c).okd [aCfg c]=true:=Ao D8 (c:=fun a=>Au a.qh) c (by unfold Au;exact zk (by show c.qh.length<=_;omega));have k2:(ZSc c).dm [aCfg c]=devA [] 0 c.qh:=by
  dsimp only[ZSc];rw[show theT eCf [aCfg c]=c from Aj D8 c]
 rw[k1,k2,za];have:=Akc c g h (by omega) g 0 (by omega) (by omega);exact this
def Abo:Ann:=A1 [(10,⟨[4,3],[(3,0,1,9)]⟩),(14,⟨[5,3],[(3,0,1,9)]⟩)]
def Nh(k:Int)(g m:Nat)(n0:Nat)(f0:RD)(i4:Int):=LK prog Orc.nil Abo 0 g f53 10 m ⟨frm [(3, .c (.row 0 1 n0)),(4,iA i4)] 0 f53.ntmps,[(0, .row n0 f0 1 9)],1⟩
def Vc(k:Int)(g m:Nat)(n0:Nat)(f0:RD)(i5:Int):=LK prog Orc.nil Abo 0 g f53 14 m ⟨frm [(3, .c (.row 0 1 n0)),(5,iA i5)] 0 f53.ntmps,[(0, .row n0 f0 1 9)],1⟩
theorem brfi:f53.body=some (Ac f53):=by kernel_rfl
theorem Aiu(k:Int)(g:Nat):Ai prog Orc.nil Abo g f53 (Ac f53) [vI k] []=
 (bif k==1 then some (T.leaf (.c (.row (0) (1) (10)),[(0, .cells [.d (.v (.string (⟨#[116,(114:UInt8),105,112]⟩))), .d (.v (.string (⟨#[99,108,111,115,101]⟩))),
 .d (.v (Value.string (⟨#[102,97,105,108]⟩))), .d (.v (.string (⟨#[115,101,110,100]⟩))), .d (.v (.string (⟨#[116,114,97,110,115,102,101,114]⟩))), .d (D.v
 (Value.string (⟨#[122,111,110,101,49]⟩))), .d (.v (.string (⟨#[122,111,(110:UInt8),101,50]⟩))), .d (.v (.string (⟨#[122,111,110,101,51]⟩))), .d (.v (Value.string
 (⟨#[116,105,109,101]⟩))), .d (.v (.string (⟨#[115,116,97,(114:UInt8),116,101,100]⟩)))] (9))]))else(bif k==2 then(bif k==2 then some (T.leaf (.c (.row (0) (1)
 (7)),[(0, .cells [.d (.v (.string (⟨#[116,114,105,112]⟩))), .d (.v (.string (⟨#[99,108,111,115,101]⟩))), .d (.v (.string (⟨#[102,97,105,108]⟩))), .d (.v (.string
 (⟨#[116,105,109,101]⟩))), .d (.v (.string (⟨#[115,116,(97:UInt8),114,116,101,100]⟩))), .d (.v (.string (⟨#[117,110,100,101,(114:UInt8)]⟩))), .d (.v (.string
 (⟨#[111,118,101,114]⟩)))] (9))]))else(bif k==4 then Nh k g g (0:Nat) (fun x=>[]) 0 else some (T.leaf (.c (.d (.v (.slice none 0 0))),[]))))else(bif k==3 then some
 (T.leaf (.c (.row (0) (1) (7)),[(0, .cells [.d (.v (.string (⟨#[116,114,105,112]⟩))), .d (.v (Value.string (⟨#[99,108,111,115,101]⟩))), .d (.v (.string (⟨#[102,
 97,105,(108:UInt8)]⟩))), .d (.v (.string (⟨#[116,105,109,101]⟩))), .d (.v (.string (⟨#[115,(116:UInt8),97,114,116,101,100]⟩))), .d (.v (.string (⟨#[117,110,100,
 (101:UInt8),114]⟩))), .d (.v (.string (⟨#[111,118,101,114]⟩)))] (9))]))else(bif k==4 then Nh k g g 0 (fun x=>[]) 0 else some (T.leaf (.c (.d (.v (.slice none 0 0))),
 [])))))):=by kernel_rfl
theorem AgV(k:Int)(g m:Nat)(n0:Nat)(f0:RD)(i4:Int):Nh k g (m+1) n0 f0 i4=
 (bif decide (i4<10)then(bif Ey 1 (some (.cells [.d (.v (Value.int IntKind.u8 (wrap IntKind.u8 (wrap .i64 (48+i4)))))] (5)))then(bif decide ((n0+1)*
 16<=140737488355328)&&decide (n0+1<=9223372036854775807)then Nh k g m (n0+1) (appF n0 f0 (Ae [D.v (.string (ByteArray.mk #[116,114,105,112]++K5 1 (some (.cells
 [.d (.v (Value.int IntKind.u8 (wrap IntKind.u8 (wrap .i64 (48+i4)))))] (5)))))] (0+1))) (wrap .i64 (i4+1))else none)else none)else Vc k g g n0 f0
 0):=by kernel_rfl
theorem AgU(k:Int)(g m:Nat)(n0:Nat)(f0:RD)(i5:Int):Vc k g (m+1) n0 f0 i5=
 (bif decide (i5<6)then(bif Ey 1 (some (.cells [.d (.v (Value.int IntKind.u8 (wrap IntKind.u8 (wrap .i64 (48+i5)))))] (5)))then(bif decide ((n0+1)*
 16<=140737488355328)&&decide (n0+1<=9223372036854775807)then Vc k g m (n0+1) (appF n0 f0 (Ae [D.v (.string (ByteArray.mk #[116,114,105,112,49]++K5 1 (some (.cells
 [.d (.v (Value.int IntKind.u8 (wrap IntKind.u8 (wrap .i64 (48+i5)))))] (5)))))] (0+1))) (wrap .i64 (i5+1))else none)else none)else some (T.leaf
 (.c (.row (0) (1) n0),[(0, .row n0 f0 (1) (9))]))):=by kernel_rfl
def oRu(okf:LB)(fx:List AV ->List BA):Orc:=Orc.cons 53 (ansN (fun x=>okf x) (fun x=> .c (.row 0 1 (fx x).length)) fun x=>[(0, .row (fx x).length (fun i=>busC ((fx x).getD i e0)) 1 9)]) Orc.nil
def AkD:Ann:=A1 [(3,⟨[1,4,3],[]⟩)]
def Aby(okf:LB)(fx:List AV ->List BA)(r:SRel)(g m:Nat)(n1:Nat)(f1:RD)(i4:Int):=LK prog (oRu okf fx) AkD 0 g f24 3 m ⟨frm [(1, .c (.ptr 0 0)),(3, .c (.row 1 1 n1)),(4,iA i4)] 0 f24.ntmps,[(0, .cells (List.map C.d (relC r)) 64),(1, .row n1 f1 1 9)],2⟩
theorem brou:f24.body=some (Ac f24):=by kernel_rfl
theorem AqD(okf:LB)(fx:List AV ->List BA)(r:SRel)(g:Nat):Ai prog (oRu okf fx) AkD g f24 (Ac f24) [aRel r] []=
 (bif okf [iA r.kind]then Aby okf fx r g g (fx [iA r.kind]).length (fun i=>busC ((fx [iA r.kind]).getD i
 e0)) 0 else none):=by kernel_rfl
theorem AcZ(okf:LB)(fx:List AV ->List BA)(r:SRel)(g m:Nat)(n1:Nat)(f1:RD)(i4:Int):Aby okf fx r g (m+1) n1 f1 i4=
 (bif decide (i4<(↑r.qi.length:Int))then(bif decide (0<=i4)&&decide (i4<(↑r.qi.length:Int))then(bif decide ((n1+1)*16<=140737488355328)&&decide (n1+1<=
 9223372036854775807)then Aby okf fx r g m (n1+1) (appF n1 f1 (Ae [dS (SRule.name (r.qi.getD i4.toNat Be))] (0+1))) (wrap .i64 (i4+1))else none)else none)else
 some (T.leaf (.c (.row ((0:Nat)) (1) n1),[(0, .row n1 f1 (1) (9))]))):=by kernel_rfl
def AkE:Ann:=A1 [(3,⟨[1,4,3],[(3,0,1,9)]⟩)]
def Xp(r:SRel)(g m:Nat)(n1:Nat)(f1:RD)(i4:Int):=LK prog Orc.nil AkE 0 g f126 3 m ⟨frm [(1, .c (.ptr 0 0)),(3, .c (.row 1 1 n1)),(4,iA i4)] 0 f126.ntmps,[(0, .cells (List.map C.d (relC r)) 64),(1, .row n1 f1 1 9)],2⟩
theorem brin:f126.body=some (Ac f126):=by kernel_rfl
theorem AqE(r:SRel)(g:Nat):Ai prog Orc.nil AkE g f126 (Ac f126) [aRel r] []=
 Xp r g g 0 (fun x=>[]) 0:=by kernel_rfl
theorem Ada(r:SRel)(g m:Nat)(n1:Nat)(f1:RD)(i4:Int):Xp r g (m+1) n1 f1 i4=
 (bif decide (i4<(↑r.ql.length:Int))then(bif decide (0<=i4)&&decide (i4<(↑r.ql.length:Int))then(bif decide ((n1+1)*16<=140737488355328)&&decide (n1+1<=
 9223372036854775807)then Xp r g m (n1+1) (appF n1 f1 (Ae [dS (SSub.loc (r.ql.getD i4.toNat sub0))] (0+1))) (wrap .i64 (i4+1))else none)else none)else some
 (T.leaf (.c (.row (0) ((1:Nat)) n1),[(0, .row n1 f1 (1) (9))]))):=by kernel_rfl
def AkA:Ann:=A1 [(2,⟨[5,1,2],[]⟩)]
def Abv(c:SCfg)(n:BA)(g m:Nat)(i5:Int):=LK prog Orc.nil AkA 0 g f54 2 m ⟨frm [(1, .c (.d (.v (.string n)))),(2, .c (.ptr 0 0)),(5,iA i5)] 0 f54.ntmps,[(0, .cells (List.map C.d (cfgC c)) 30)],1⟩
theorem brrl:f54.body=some (Ac f54):=by kernel_rfl
theorem AqA(c:SCfg)(n:BA)(g:Nat):Ai prog Orc.nil AkA g f54 (Ac f54) [aCfg c,vS n] []=
 Abv c n g g 0:=by kernel_rfl
theorem AcX(c:SCfg)(n:BA)(g m:Nat)(i5:Int):Abv c n g (m+1) i5=
 (bif decide (i5<(↑c.qh.length:Int))then(bif decide (0<=i5)&&decide (i5<(↑c.qh.length:Int))then(bif(SRel.name (c.qh.getD i5.toNat rel0)).toList==n.toList
 then leI i5 else Abv c n g m (wrap IntKind.i64 (i5+1)))else none)else leI (-1)):=by kernel_rfl
def Akz:Ann:=A1 [(2,⟨[5,1,2],[]⟩)]
def Abu(r:SRel)(n:BA)(g m:Nat)(i5:Int):=LK prog Orc.nil Akz 0 g f55 2 m ⟨frm [(1, .c (.d (.v (.string n)))),(2, .c (.ptr 0 0)),(5,iA i5)] 0 f55.ntmps,[(0, .cells (List.map C.d (relC r)) 64)],1⟩
theorem brse:f55.body=some (Ac f55):=by kernel_rfl
theorem Aqz(r:SRel)(n:BA)(g:Nat):Ai prog Orc.nil Akz g f55 (Ac f55) [aRel r,vS n] []=
 Abu r n g g 0:=by kernel_rfl
theorem AcW(r:SRel)(n:BA)(g m:Nat)(i5:Int):Abu r n g (m+1) i5=
 (bif decide (i5<(↑r.qj.length:Int))then(bif decide (0<=i5)&&decide (i5<(↑r.qj.length:Int))then(bif(SSet.name (r.qj.getD i5.toNat set0)).toList==n.toList
 then leI i5 else Abu r n g m (wrap IntKind.i64 (i5+1)))else none)else leI (-1)):=by kernel_rfl
def AkB:Ann:=A1 [(2,⟨[1,2,5],[]⟩)]
def Abw(r:SRel)(n:BA)(g m:Nat)(i5:Int):=LK prog Orc.nil AkB 0 g f56 2 m ⟨frm [(1, .c (.d (.v (.string n)))),(2, .c (.ptr 0 0)),(5,iA i5)] 0 f56.ntmps,[(0, .cells (List.map C.d (relC r)) 64)],1⟩
theorem brpu:f56.body=some (Ac f56):=by kernel_rfl
theorem AqB(r:SRel)(n:BA)(g:Nat):Ai prog Orc.nil AkB g f56 (Ac f56) [aRel r,vS n] []=
 Abw r n g g 0:=by kernel_rfl
theorem AcY(r:SRel)(n:BA)(g m:Nat)(i5:Int):Abw r n g (m+1) i5=
 (bif decide (i5<(↑r.qk.length:Int))then(bif decide (0<=i5)&&decide (i5<(↑r.qk.length:Int))then(bif(SPub.set (r.qk.getD i5.toNat pub0)).toList==n.toList then
 leB true else Abw r n g m (wrap .i64 (i5+1)))else none)else leB false):=by kernel_rfl
structure KRf where
 okl:LB
 rl:LI
 oks:LB
 se:LI
 pu:LB
 okx:LB
 ix:LI
def oRf(Z:KRf):Orc:=Orc.cons 54 (ansG Z.okl fun x=>vI (Z.rl x)) (Orc.cons 55 (ansG Z.oks fun x=>vI (Z.se x)) (Orc.cons 56 (ansG Z.oks fun x=>vB (Z.pu x)) (Orc.cons 52 (ansG Z.okx fun x=>vI (Z.ix x)) Orc.nil)))
theorem evRf(Z:KRf)(c:SCfg)(of sub:Int):Ai prog (oRf Z) na 5 f25 (Ac f25) [aCfg c,vI of,vI sub] []=
 (bif decide (of<0)then some (T.leaf (.tup [(true,[.d (iD 0), .d (iD 0), .d (iD 0)]),(false,[.d (iD 1)])],
 []))else(bif decide (of>=(↑c.qh.length:Int))then some (T.leaf (.tup [(true,[.d (iD 0), .d (iD 0), .d (iD 0)]),(false,[.d (D.v
 (Value.int IntKind.i64 1))])],[]))else(bif decide (sub<0)then some (T.leaf (.tup [(true,[.d (iD 0), .d (iD 0), .d (.v (.int .i64
 0))]),(false,[.d (iD 1)])],[]))else(bif decide (0<=of)&&decide (of<(↑c.qh.length:Int))then(bif decide (sub>=(↑(SRel.ql (c.qh.getD of.toNat
 rel0)).length:Int))then some (T.leaf (.tup [(true,[.d (iD 0), .d (iD 0), .d (iD 0)]),(false,[.d (iD 1)])],[]))else
 (bif decide (0<=of)&&decide (of<(↑c.qh.length:Int))then(bif decide (0<=sub)&&decide (sub<(↑(SRel.ql (c.qh.getD of.toNat rel0)).length:Int))then(bif KRf.okl
 Z [gA (cfgC c), .c (.d (.v (.string (SSub.dev ((SRel.ql (c.qh.getD of.toNat rel0)).getD sub.toNat sub0)))))]then(bif decide (KRf.rl Z [.agg (List.map
 .d (cfgC c)), .c (.d (.v (.string (SSub.dev ((SRel.ql (c.qh.getD of.toNat rel0)).getD sub.toNat sub0)))))]<0)then some (T.leaf (.tup [(true,[.d (iD 0),
 .d (iD 0), .d (iD 0)]),(false,[.d (iD 9)])],[]))else(bif KRf.rl Z [gA (cfgC c), .c (.d (.v (.string (SSub.dev
 ((SRel.ql (c.qh.getD of.toNat rel0)).getD sub.toNat sub0)))))]==of then some (T.leaf (.tup [(true,[.d (iD 0), .d (iD 0), .d (.v (.int .i64
 0))]),(false,[.d (iD 12)])],[]))else(bif decide (0<=KRf.rl Z [gA (cfgC c), .c (.d (.v (.string (SSub.dev ((SRel.ql (c.qh.getD of.toNat
 rel0)).getD sub.toNat sub0)))))])&&decide (KRf.rl Z [gA (cfgC c), .c (.d (.v (.string (SSub.dev ((SRel.ql (c.qh.getD of.toNat rel0)).getD sub.toNat
 sub0)))))]<(↑c.qh.length:Int))then(bif KRf.oks Z [gA (relC (c.qh.getD (Int.toNat (KRf.rl Z [gA (cfgC c), .c (.d (.v (.string
 (SSub.dev ((SRel.ql (c.qh.getD of.toNat rel0)).getD sub.toNat sub0)))))])) rel0)), .c (.d (.v (.string (SSub.set ((SRel.ql (c.qh.getD of.toNat rel0)).getD sub.toNat
 sub0)))))]then(bif decide (KRf.se Z [gA (relC (c.qh.getD (Int.toNat (KRf.rl Z [gA (cfgC c), .c (.d (.v (Value.string (SSub.dev
 ((SRel.ql (c.qh.getD of.toNat rel0)).getD sub.toNat sub0)))))])) rel0)), .c (.d (.v (.string (SSub.set ((SRel.ql (c.qh.getD of.toNat rel0)).getD sub.toNat sub0)))))]<
 0)then some (T.leaf (.tup [(true,[.d (iD 0), .d (iD 0), .d (iD 0)]),(false,[.d (iD 9)])],[]))else(bif
 decide (0<=KRf.rl Z [gA (cfgC c), .c (.d (.v (.string (SSub.dev ((SRel.ql (c.qh.getD of.toNat rel0)).getD sub.toNat sub0)))))])&&decide (KRf.rl Z
 [gA (cfgC c), .c (.d (.v (.string (SSub.dev ((SRel.ql (c.qh.getD of.toNat rel0)).getD sub.toNat sub0)))))]<(↑c.qh.length:Int))then(bif KRf.oks Z
 [gA (relC (c.qh.getD (Int.toNat (KRf.rl Z [gA (cfgC c), .c (.d (.v (Value.string (SSub.dev ((SRel.ql (c.qh.getD of.toNat rel0)).getD
 sub.toNat sub0)))))])) rel0)), .c (.d (.v (.string (SSub.set ((SRel.ql (c.qh.getD of.toNat rel0)).getD sub.toNat sub0)))))]then(bif !KRf.pu Z [gA (relC
 (c.qh.getD (Int.toNat (KRf.rl Z [gA (cfgC c), .c (.d (.v (.string (SSub.dev ((SRel.ql (c.qh.getD of.toNat rel0)).getD sub.toNat sub0)))))])) rel0)),
 .c (.d (.v (.string (SSub.set ((SRel.ql (c.qh.getD of.toNat rel0)).getD sub.toNat sub0)))))]then some (T.leaf (.tup [(true,[.d (iD 0), .d (.v
 (.int .i64 0)), .d (iD 0)]),(false,[.d (iD 11)])],[]))else(bif decide (0<=KRf.rl Z [gA (cfgC c), .c (.d (.v (.string (SSub.dev
 ((SRel.ql (c.qh.getD of.toNat rel0)).getD sub.toNat sub0)))))])&&decide (KRf.rl Z [gA (cfgC c), .c (.d (.v (.string (SSub.dev ((SRel.ql (c.qh.getD
 of.toNat rel0)).getD sub.toNat sub0)))))]<(↑c.qh.length:Int))then(bif decide (0<=KRf.se Z [gA (relC (c.qh.getD (Int.toNat (KRf.rl Z [.agg (List.map
 .d (cfgC c)), .c (.d (.v (.string (SSub.dev ((SRel.ql (c.qh.getD of.toNat rel0)).getD sub.toNat sub0)))))])) rel0)), .c (.d (.v (.string (SSub.set ((SRel.ql
 (c.qh.getD of.toNat rel0)).getD sub.toNat sub0)))))])&&decide (KRf.se Z [gA (relC (c.qh.getD (Int.toNat (KRf.rl Z [gA (cfgC c), .c (.d
 (.v (.string (SSub.dev ((SRel.ql (c.qh.getD of.toNat rel0)).getD sub.toNat sub0)))))])) rel0)), .c (.d (.v (.string (SSub.set ((SRel.ql (c.qh.getD of.toNat rel0)).getD
 sub.toNat sub0)))))]<(↑(SRel.qj (c.qh.getD (Int.toNat (KRf.rl Z [gA (cfgC c), .c (.d (.v (Value.string (SSub.dev ((SRel.ql (c.qh.getD of.toNat
 rel0)).getD sub.toNat sub0)))))])) rel0)).length:Int))then(bif KRf.okx Z [.c (.d (Ad ((1:Nat)) busC e0 (SSet.qm ((SRel.qj (c.qh.getD (Int.toNat (KRf.rl Z [AV.agg
 (List.map C.d (cfgC c)), .c (.d (.v (.string (SSub.dev ((SRel.ql (c.qh.getD of.toNat rel0)).getD sub.toNat sub0)))))])) rel0)).getD (Int.toNat (KRf.se Z [.agg (List.map C.d
 (relC (c.qh.getD (Int.toNat (KRf.rl Z [gA (cfgC c), .c (.d (.v (.string (SSub.dev ((SRel.ql (c.qh.getD of.toNat rel0)).getD sub.toNat sub0)))))]))
 rel0))), .c (.d (.v (.string (SSub.set ((SRel.ql (c.qh.getD of.toNat rel0)).getD sub.toNat sub0)))))])) set0)))), .c (.d (.v (Value.string (SSub.sig ((SRel.ql
 (c.qh.getD of.toNat rel0)).getD sub.toNat sub0)))))]then(bif decide (KRf.ix Z [.c (.d (Ad (1) busC e0 (SSet.qm ((SRel.qj (c.qh.getD (Int.toNat (KRf.rl Z [AV.agg
 (List.map C.d (cfgC c)), .c (.d (.v (.string (SSub.dev ((SRel.ql (c.qh.getD of.toNat rel0)).getD sub.toNat sub0)))))])) rel0)).getD (Int.toNat (KRf.se Z [.agg (List.map C.d
 (relC (c.qh.getD (Int.toNat (KRf.rl Z [gA (cfgC c), .c (.d (.v (.string (SSub.dev ((SRel.ql (c.qh.getD of.toNat rel0)).getD sub.toNat sub0)))))]))
 rel0))), .c (.d (.v (.string (SSub.set ((SRel.ql (c.qh.getD of.toNat rel0)).getD sub.toNat sub0)))))])) set0)))), .c (.d (.v (Value.string (SSub.sig ((SRel.ql
 (c.qh.getD of.toNat rel0)).getD sub.toNat sub0)))))]<0)then some (T.leaf (.tup [(true,[.d (iD 0), .d (iD 0), .d (.v (.int .i64
 0))]),(false,[.d (iD 9)])],[]))else some (T.leaf (.tup [(true,[.d (iD (KRf.rl Z [gA (cfgC c), .c (.d (.v (.string (SSub.dev
 ((SRel.ql (c.qh.getD of.toNat rel0)).getD sub.toNat sub0)))))])), .d (iD (KRf.se Z [gA (relC (c.qh.getD (Int.toNat (KRf.rl Z [.agg (List.map
 .d (cfgC c)), .c (.d (.v (.string (SSub.dev ((SRel.ql (c.qh.getD of.toNat rel0)).getD sub.toNat sub0)))))])) rel0)), .c (.d (.v (.string (SSub.set ((SRel.ql
 (c.qh.getD of.toNat rel0)).getD sub.toNat sub0)))))])), .d (iD (KRf.ix Z [.c (.d (Ad (1) busC e0 (SSet.qm ((SRel.qj (c.qh.getD (Int.toNat (KRf.rl Z [AV.agg
 (List.map C.d (cfgC c)), .c (.d (.v (Value.string (SSub.dev ((SRel.ql (c.qh.getD of.toNat rel0)).getD sub.toNat sub0)))))])) rel0)).getD (Int.toNat (KRf.se Z [AV.agg
 (List.map C.d (relC (c.qh.getD (Int.toNat (KRf.rl Z [gA (cfgC c), .c (.d (.v (.string (SSub.dev ((SRel.ql (c.qh.getD of.toNat rel0)).getD sub.toNat
 sub0)))))])) rel0))), .c (.d (.v (.string (SSub.set ((SRel.ql (c.qh.getD of.toNat rel0)).getD sub.toNat sub0)))))])) set0)))), .c (.d (.v (.string (SSub.sig ((SRel.ql
 (c.qh.getD of.toNat rel0)).getD sub.toNat sub0)))))]))]),(false,[.d (iD 0)])],[])))else none)else none)else none))else none)else none))else
 none)else none)))else none)else none)else none))else none)))):=by kernel_rfl
def oTw(okx:LB)(ix:LI):Orc:=Orc.cons 52 (ansG okx fun x=>vI (ix x)) Orc.nil
def Akx:Ann:=A1 [(2,⟨[0,3],[]⟩)]
def Abs(okx:LB)(ix:LI)(l:List BA)(g m:Nat)(i3:Int):=LK prog (oTw okx ix) Akx 0 g f125 2 m ⟨frm [(0, .c (.d (Ad 1 busC e0 l))),(3,iA i3)] 0 f125.ntmps,[],0⟩
theorem btwi:f125.body=some (Ac f125):=by kernel_rfl
theorem Aqs(okx:LB)(ix:LI)(l:List BA)(g:Nat):Ai prog (oTw okx ix) Akx g f125 (Ac f125) [.c (.d (Ab l))] []=
 Abs okx ix l g g 0:=by kernel_rfl
theorem Ali(okx:LB)(ix:LI)(l:List BA)(g m:Nat)(i3:Int):Abs okx ix l g (m+1) i3=
 (bif decide (i3<(↑l.length:Int))then(bif decide (0<=(↑(0:Nat):Int))&&decide ((↑(0:Nat):Int)<=i3)&&decide (i3<=(↑l.length:Int))then(bif decide (0<=i3)&&
 decide (i3<(↑l.length:Int))then(bif okx [.c (.d (.sl (1) (i3.toNat -Int.toNat (↑(0:Nat):Int)) fun i=>busC (l.getD (Int.toNat (↑(0:Nat):Int)+i) e0))),AV.c
 (.d (.v (.string (l.getD i3.toNat e0))))]then(bif decide (ix [.c (.d (.sl (1) (i3.toNat -Int.toNat (↑(0:Nat):Int)) fun i=>busC (l.getD (Int.toNat (↑(0:Nat):Int)+
 i) e0))), .c (.d (.v (.string (l.getD i3.toNat e0))))]>=0)then leB true else Abs okx ix l g m (wrap .i64 (i3+1)))else none)else none)else none)else leB false):=by kernel_rfl
structure KRo where
 oko:LB
 ou:List AV ->List BA
 inn:List AV ->List BA
 okt:LB
 tw:LB
 okx:LB
 ix:LI
 oks:LB
 se:LI
 okf:LB
 fi:List AV ->Plc
def oRo(Z:KRo):Orc:=Orc.cons 24 (ansN (fun x=>Z.oko x) (fun x=> .c (.row 0 1 (Z.ou x).length)) fun x=>[(0, .row (Z.ou x).length (fun i=>busC ((Z.ou x).getD i e0)) 1 9)]) (Orc.cons 126 (ansG Z.oko fun x=> .c (.d (Ab (Z.inn x))))
 (Orc.cons 125 (ansL Z.okt fun x=>vB (Z.tw x)) (Orc.cons 52 (ansL Z.okx fun x=>vI (Z.ix x)) (Orc.cons 55 (ansG Z.oks fun x=>vI (Z.se x)) (Orc.cons 25 (ansG Z.okf fun x=>aPl (Z.fi x)) Orc.nil)))))
def Xj:Ann:=A1 [(5,⟨[6,5,1,2],[]⟩),(8,⟨[6,5,1,2,7],[]⟩),(16,⟨[5,1,2,9],[]⟩),(21,⟨[1,2,5,10],[]⟩)]
def Tm(Z:KRo)(c:SCfg)(i:Int)(g m:Nat)(i6:Int):=LK prog (oRo Z) Xj 0 g f64 5 m ⟨frm [(1,iA i),(2, .c (.ptr 0 0)),(5, .c (.ptr 1 0)),(6,iA i6)] 0 f64.ntmps,[(0, .cells (List.map C.d (cfgC c)) 30),(1, .cells (List.map C.d (relC (List.getD (SCfg.qh c) (Int.toNat i) rel0))) 64)],2⟩
def Xs(Z:KRo)(c:SCfg)(i:Int)(g mo m:Nat)(i6:Int)(i7:Int):=LK2 prog (oRo Z) Xj 0 g f64 5 mo 8 m ⟨frm [(1,iA i),(2, .c (.ptr 0 0)),(5, .c (.ptr 1 0)),(6,iA i6),(7,iA i7)] 0 f64.ntmps,[(0, .cells (List.map C.d (cfgC c)) 30),(1, .cells (List.map C.d (relC (List.getD (SCfg.qh c) (Int.toNat i) rel0))) 64)],2⟩
def Nm(Z:KRo)(c:SCfg)(i:Int)(g m:Nat)(i9:Int):=LK prog (oRo Z) Xj 0 g f64 16 m ⟨frm [(1,iA i),(2, .c (.ptr 0 0)),(5, .c (.ptr 1 0)),(9,iA i9)] 0 f64.ntmps,[(0, .cells (List.map C.d (cfgC c)) 30),(1, .cells (List.map C.d (relC (List.getD (SCfg.qh c) (Int.toNat i) rel0))) 64)],2⟩
def Nk(Z:KRo)(c:SCfg)(i:Int)(g m:Nat)(i10:Int):=LK prog (oRo Z) Xj 0 g f64 21 m ⟨frm [(1,iA i),(2, .c (.ptr 0 0)),(5, .c (.ptr 1 0)),(10,iA i10)] 0 f64.ntmps,[(0, .cells (List.map C.d (cfgC c)) 30),(1, .cells (List.map C.d (relC (List.getD (SCfg.qh c) (Int.toNat i) rel0))) 64)],2⟩
theorem bone:f64.body=some (Ac f64):=by kernel_rfl
theorem AqJ(Z:KRo)(c:SCfg)(i:Int)(g:Nat):Ai prog (oRo Z) Xj g f64 (Ac f64) [aCfg c,vI i] []=
 (bif decide (0<=i)&&decide (i<(↑c.qh.length:Int))then(bif KRo.oko Z [gA (relC (c.qh.getD i.toNat rel0))]then(bif KRo.oko Z [.agg (List.map C.d
 (relC (c.qh.getD i.toNat rel0)))]then(bif decide (((KRo.ou Z [gA (relC (c.qh.getD i.toNat rel0))]).length+(KRo.inn Z [gA (relC
 (c.qh.getD i.toNat rel0))]).length)*16<=140737488355328)&&decide ((KRo.ou Z [gA (relC (c.qh.getD i.toNat rel0))]).length+(KRo.inn Z [.agg (List.map
 .d (relC (c.qh.getD i.toNat rel0)))]).length<=9223372036854775807)then(bif KRo.okt Z [.c (.d (.sl (1) ((KRo.ou Z [gA (relC (c.qh.getD i.toNat
 rel0))]).length+(KRo.inn Z [gA (relC (c.qh.getD i.toNat rel0))]).length) (appF (KRo.ou Z [gA (relC (c.qh.getD i.toNat rel0))]).length
 (fun i_1=>busC ((KRo.ou Z [gA (relC (c.qh.getD i.toNat rel0))]).getD i_1 e0)) fun i_1=>busC ((KRo.inn Z [gA (relC (c.qh.getD i.toNat
 rel0))]).getD i_1 e0))))]then(bif KRo.tw Z [.c (.d (.sl (1) ((KRo.ou Z [gA (relC (c.qh.getD i.toNat rel0))]).length+(KRo.inn Z [.agg (List.map C.d
 (relC (c.qh.getD i.toNat rel0)))]).length) (appF (KRo.ou Z [gA (relC (c.qh.getD i.toNat rel0))]).length (fun i_1=>busC ((KRo.ou Z [.agg (List.map C.d
 (relC (c.qh.getD i.toNat rel0)))]).getD i_1 e0)) fun i_1=>busC ((KRo.inn Z [gA (relC (c.qh.getD i.toNat rel0))]).getD i_1 e0))))]then leI 8 else Tm Z c i
 g g 0)else none)else none)else none)else none)else none):=by kernel_rfl
theorem Als(Z:KRo)(c:SCfg)(i:Int)(g m:Nat)(i6:Int):Tm Z c i g (m+1) i6=
 (bif decide (i6<(↑(SRel.qj (c.qh.getD i.toNat rel0)).length:Int))then Xs Z c i g m g i6 0 else Nm Z c i g g 0):=by kernel_rfl
theorem Alr(Z:KRo)(c:SCfg)(i:Int)(g mo m:Nat)(i6:Int)(i7:Int):Xs Z c i g mo (m+1) i6 i7=
 (bif decide (0<=i6)&&decide (i6<(↑(SRel.qj (c.qh.getD i.toNat rel0)).length:Int))then(bif decide (i7<(↑(SSet.qm ((SRel.qj (c.qh.getD i.toNat rel0)).getD
 i6.toNat set0)).length:Int))then(bif decide (0<=i6)&&decide (i6<(↑(SRel.qj (c.qh.getD i.toNat rel0)).length:Int))then(bif decide (0<=i7)&&decide (i7<
 (↑(SSet.qm ((SRel.qj (c.qh.getD i.toNat rel0)).getD i6.toNat set0)).length:Int))then(bif KRo.oko Z [gA (relC (c.qh.getD i.toNat rel0))]then(bif
 KRo.okx Z [.c (.d (Ad (1) busC e0 (KRo.ou Z [gA (relC (c.qh.getD i.toNat rel0))]))), .c (.d (.v (.string ((SSet.qm ((SRel.qj (c.qh.getD i.toNat
 rel0)).getD i6.toNat set0)).getD i7.toNat e0))))]then(bif decide (KRo.ix Z [.c (.d (Ad (1) busC e0 (KRo.ou Z [gA (relC (c.qh.getD i.toNat rel0))]))),AV.c
 (.d (.v (.string ((SSet.qm ((SRel.qj (c.qh.getD i.toNat rel0)).getD i6.toNat set0)).getD i7.toNat e0))))]<0)then leI 9 else(bif decide (0<=i6)&&decide (i6<
 (↑(SRel.qj (c.qh.getD i.toNat rel0)).length:Int))then(bif decide (0<=(↑(0:Nat):Int))&&decide ((↑(0:Nat):Int)<=i7)&&decide (i7<=(↑(SSet.qm ((SRel.qj
 (c.qh.getD i.toNat rel0)).getD i6.toNat set0)).length:Int))then(bif KRo.okx Z [.c (.d (.sl (1) (i7.toNat -Int.toNat (↑(0:Nat):Int)) fun i_1=>busC ((SSet.qm
 ((SRel.qj (c.qh.getD i.toNat rel0)).getD i6.toNat set0)).getD (Int.toNat (↑(0:Nat):Int)+i_1) e0))), .c (.d (.v (.string ((SSet.qm ((SRel.qj (c.qh.getD i.toNat
 rel0)).getD i6.toNat set0)).getD i7.toNat e0))))]then(bif decide (KRo.ix Z [.c (.d (.sl (1) (i7.toNat -Int.toNat (↑(0:Nat):Int)) fun i_1=>busC ((SSet.qm ((SRel.qj
 (c.qh.getD i.toNat rel0)).getD i6.toNat set0)).getD (Int.toNat (↑(0:Nat):Int)+i_1) e0))), .c (.d (.v (Value.string ((SSet.qm ((SRel.qj (c.qh.getD i.toNat
 rel0)).getD i6.toNat set0)).getD i7.toNat e0))))]>=0)then leI 8 else Xs Z c i g mo m i6 (wrap .i64 (i7+1)))else none)else none)else none))else none)else none)else
 none)else none)else Tm Z c i g mo (wrap .i64 (i6+1)))else none):=by kernel_rfl
theorem Ahd(Z:KRo)(c:SCfg)(i:Int)(g m:Nat)(i9:Int):Nm Z c i g (m+1) i9=
 (bif decide (i9<(↑(SRel.qk (c.qh.getD i.toNat rel0)).length:Int))then(bif decide (0<=i9)&&decide (i9<(↑(SRel.qk (c.qh.getD i.toNat rel0)).length:Int))then
 (bif KRo.oks Z [gA (relC (c.qh.getD i.toNat rel0)), .c (.d (.v (Value.string (SPub.set ((SRel.qk (c.qh.getD i.toNat rel0)).getD i9.toNat pub0)))))]
 then(bif decide (KRo.se Z [gA (relC (c.qh.getD i.toNat rel0)), .c (.d (.v (.string (SPub.set ((SRel.qk (c.qh.getD i.toNat rel0)).getD i9.toNat
 pub0)))))]<0)then leI 9 else Nm Z c i g m (wrap .i64 (i9+1)))else none)else none)else Nk Z c i g g 0):=by kernel_rfl
theorem Ahc(Z:KRo)(c:SCfg)(i:Int)(g m:Nat)(i10:Int):Nk Z c i g (m+1) i10=
 (bif decide (i10<(↑(SRel.ql (c.qh.getD i.toNat rel0)).length:Int))then(bif KRo.okf Z [gA (cfgC c), .c (.d (iD i)), .c (.d
 (iD i10))]then(bif Plc.err (KRo.fi Z [gA (cfgC c),iA i,iA i10]) !=0 then leI (Plc.err (KRo.fi
 Z [gA (cfgC c), .c (.d (iD i)),iA i10]))else Nk Z c i g m (wrap .i64 (i10+1)))else none)else
 leI 0):=by kernel_rfl
def oRc(ok:LB)(er:LI):Orc:=Orc.cons 64 (ansG ok fun x=>vI (er x)) Orc.nil
def AkG:Ann:=A1 [(2,⟨[4,1],[]⟩)]
def Abz(ok:LB)(er:LI)(c:SCfg)(g m:Nat)(i4:Int):=LK prog (oRc ok er) AkG 0 g f30 2 m ⟨frm [(1, .c (.ptr 0 0)),(4,iA i4)] 0 f30.ntmps,[(0, .cells (List.map C.d (cfgC c)) 30)],1⟩
theorem brck:f30.body=some (Ac f30):=by kernel_rfl
theorem AqH(ok:LB)(er:LI)(c:SCfg)(g:Nat):Ai prog (oRc ok er) AkG g f30 (Ac f30) [aCfg c] []=
 Abz ok er c g g 0:=by kernel_rfl
theorem Alq(ok:LB)(er:LI)(c:SCfg)(g m:Nat)(i4:Int):Abz ok er c g (m+1) i4=
 (bif decide (i4<(↑c.qh.length:Int))then(bif ok [gA (cfgC c),iA i4]then(bif er [gA (cfgC c), .c (.d (.v
 (.int .i64 i4)))] !=0 then some (T.leaf (.tup [(false,[.d (iD i4)]),(false,[.d (iD (er [gA (cfgC c), .c (.d (.v
 (.int .i64 i4)))]))])],[]))else Abz ok er c g m (wrap .i64 (i4+1)))else none)else some (T.leaf (.tup [(false,[.d (iD 0)]),(false,[.d (.v (.int
 .i64 0))])],[]))):=by kernel_rfl
end Go.Y.sg
namespace Go.Y.st
open Go.RowKit Go.Eb
abbrev nilC:C:= .d (.v (.slice none 0 0))
def oNm(nk:BA ->Bool):Orc:=Orc.cons 65 (ansP decS fun s=>vB (nk s)) Orc.nil
def oNam(nk:BA ->Bool):Orc:=Orc.cons 127 (inl prog (oNm nk) na 1 f127) Orc.nil
def o26(nk:BA ->Bool):Orc:=Orc.cons 68 (inl prog (oNam nk) na 1 f68) Orc.nil
def oWi:Orc:=Orc.cons 129 (inl prog Orc.nil na 1 f129) Orc.nil
def oIm(nk:BA ->Bool):Orc:=Orc.cons 128 (inl prog oWi na 1 f128) (Orc.cons 129 (inl prog Orc.nil na 1 f129) (oNam nk))
def o28(nk:BA ->Bool):Orc:=Orc.cons 70 (inl prog (oIm nk) na 1 f70) Orc.nil
def o30(nk:BA ->Bool):Orc:=Orc.cons 72 (inl prog (oIm nk) na 1 f72) Orc.nil
abbrev fnOf(f:FuncId):AV:= .c (.fn f [.ptr 0 0] [])
abbrev H1(s0:BA)(mpa:MV):Hp:=[(0, .cells [.d (dS s0),nilC,nilC,nilC,nilC, .mp 1] 207),(1, .map 0 mpa)]
abbrev H1'(s0:BA)(mpa:MV)(ka:Nat)(ga:RD):Hp:=[(0, .cells [.d (dS s0), .row 2 1 ka,nilC,nilC,nilC, .mp 1] 207),(1, .map 0 mpa),(2, .row ka ga 1 9)]
abbrev H2(s0:BA)(ka:Nat)(ga:RD)(mpa:MV):Hp:=[(0, .cells [.d (dS s0), .row 1 1 ka,nilC,nilC,nilC, .mp 2] 207),(1, .row ka ga 1 9),(2, .map 0 mpa)]
abbrev H2'(s0:BA)(ka:Nat)(ga:RD)(mpa:MV)(kb:Nat)(gb:RD):Hp:=[(0, .cells [.d (dS s0), .row 1 1 ka, .row 3 5 kb,nilC,nilC, .mp 2] 207),(1, .row ka ga 1 9),(2, .map 0 mpa),(3, .row kb gb 5 144)]
abbrev H3(s0:BA)(ka:Nat)(ga:RD)(kb:Nat)(gb:RD)(mpa:MV):Hp:=[(0, .cells [.d (dS s0), .row 1 1 ka, .row 2 5 kb,nilC,nilC, .mp 3] 207),(1, .row ka ga 1 9),(2, .row kb gb 5 144),(3, .map 0 mpa)]
abbrev H3'(s0:BA)(ka:Nat)(ga:RD)(kb:Nat)(gb:RD)(mpa:MV)(kc:Nat)(gc:RD):Hp:=[(0, .cells [.d (dS s0), .row 1 1 ka, .row 2 5 kb, .row 4 6 kc,nilC, .mp 3] 207),(1, .row ka ga 1 9),(2, .row kb gb 5 144),(3, .map 0 mpa),(4, .row kc gc 6 147)]
abbrev H4(s0:BA)(ka:Nat)(ga:RD)(kb:Nat)(gb:RD)(kc:Nat)(gc:RD)(mpa:MV):Hp:=[(0, .cells [.d (dS s0), .row 1 1 ka, .row 2 5 kb, .row 3 6 kc,nilC, .mp 4] 207),(1, .row ka ga 1 9),(2, .row kb gb 5 144),(3, .row kc gc 6 147),(4, .map 0 mpa)]
abbrev H4'(s0:BA)(ka:Nat)(ga:RD)(kb:Nat)(gb:RD)(kc:Nat)(gc:RD)(mpa:MV)(kd:Nat)(gd:RD):Hp:=[(0, .cells [.d (dS s0), .row 1 1 ka, .row 2 5 kb, .row 3 6 kc, .row 5 12 kd, .mp 4] 207),(1, .row ka ga 1 9),(2, .row kb gb 5 144),(3, .row kc gc 6 147),(4, .map 0 mpa),(5, .row kd gd 12 118)]
abbrev H5(s0:BA)(ka:Nat)(ga:RD)(kb:Nat)(gb:RD)(kc:Nat)(gc:RD)(kd:Nat)(gd:RD)(mpa:MV):Hp:=[(0, .cells [.d (dS s0), .row 1 1 ka, .row 2 5 kb, .row 3 6 kc, .row 4 12 kd, .mp 5] 207),(1, .row ka ga 1 9),(2, .row kb gb 5 144),(3, .row kc gc 6 147),(4, .row kd gd 12 118),(5, .map 0 mpa)]
def Apy:Ann:=A1 [(2,⟨[1,8,9,10],[(1,1,1,9)]⟩)]
def Ajp(nk:BA ->Bool)(l:List BA)(s0:BA)(mpa:MV)(g m:Nat)(l1:MV)(n2:Nat)(f2:RD)(i10:Int):=LK prog (o26 nk) Apy 2 g f67 2 m ⟨frm [(1, .c (.fn 68 [Rf.ptr 0 0] [])),(8, .c (.d (.sl 1 (List.length l) fun i=>busC (List.getD l i e0)))),(9,iA (↑(List.length l):Int)),(10,iA i10)] 0 f67.ntmps,[(0, .cells [.d (.v (.string s0)), .row 2 1 n2, .d (.v (.slice none 0 0)), .d (.v (.slice none 0 0)), .d (.v (.slice none 0 0)), .mp 1] 207),(1, .map 0 l1),(2, .row n2 f2 1 9)],3⟩
theorem b26:f67.body=some (Ac f67):=by kernel_rfl
theorem ev26(nk:BA ->Bool)(l:List BA)(s0:BA)(mpa:MV)(g:Nat):Ai prog (o26 nk) Apy g f67 (Ac f67) [.c (.d (Ab l)),fnOf 68] [(0, .cells [.d (dS s0),nilC,nilC,nilC,nilC, .mp 1] 207),(1, .map 0 mpa)]=
 Ajp nk l s0 mpa g g mpa 0 (fun x=>[]) 0:=by kernel_rfl
theorem AjG(nk:BA ->Bool)(l:List BA)(s0:BA)(mpa:MV)(g m:Nat)(l1:MV)(n2:Nat)(f2:RD)(i10:Int):Ajp nk l s0 mpa g (m+1) l1 n2 f2 i10=
 (bif decide (i10<(↑l.length:Int))then(bif decide (0<=i10)&&decide (i10<(↑l.length:Int))then(bif !nk (l.getD i10.toNat e0)then some (T.leaf (.c (.d (.v (.int .i64
 7))),[(0, .cells [.d (.v (.string s0)), .row (2) (1) n2, .d (.v (Value.slice none (0:Nat) 0)), .d (.v (.slice none 0 0)), .d (.v (.slice none 0 0)), .mp (1)] (207)),
 (1, .map ((0:Nat)) l1),(2, .row n2 f2 (1) (9))]))else(bif B8 (Bb l1 (Value.string (l.getD i10.toNat e0)))then some (T.leaf (.c (.d (iD 8)),
 [(0, .cells [.d (.v (.string s0)), .row (2) (1) n2, .d (.v (.slice none 0 0)), .d (.v (.slice none 0 0)), .d (.v (.slice none 0 0)), .mp (1)] (207)),(1, .map (0) l1),
 (2, .row n2 f2 (1) (9))]))else(bif decide ((n2+1)*16<=140737488355328)&&decide (n2+1<=9223372036854775807)then Ajp nk l s0 mpa g m ((Value.string (l.getD i10.toNat
 e0),Value.bool true)::l1) (n2+1) (appF n2 f2 (Ae [dS (l.getD i10.toNat e0)] (0+1))) (wrap .i64 (i10+1))else none)))else none)else some (T.leaf (.c (.d (.v
 (.int .i64 0))),[(0, .cells [.d (.v (.string s0)), .row (2) (1) n2, .d (.v (.slice none 0 0)), .d (.v (.slice none 0 0)), .d (.v (Value.slice none 0 0)), .mp (1)]
 (207)),(1, .map (0) l1),(2, .row n2 f2 (1) (9))]))):=by kernel_rfl
def ann28:Ann:=A1 [(2,⟨[1,8,9,10],[(1,2,5,144)]⟩)]
def Ajo(nk:BA ->Bool)(l:List SLine)(s0:BA)(ka:Nat)(ga:RD)(mpa:MV)(g m:Nat)(l2:MV)(n3:Nat)(f3:RD)(i10:Int):=LK prog (o28 nk) ann28 3 g f69 2 m ⟨frm [(1, .c (.fn 70 [Rf.ptr 0 0] [])),(8, .c (.d (.sl 5 (List.length l) fun i=>Az (List.getD l i Ah)))),(9,iA (↑(List.length l):Int)),(10,iA i10)] 0 f69.ntmps,[(0, .cells [.d (.v (.string s0)), .row 1 1 ka, .row 3 5 n3, .d (.v (.slice none 0 0)), .d (.v (.slice none 0 0)), .mp 2] 207),(1, .row ka ga 1 9),(2, .map 0 l2),(3, .row n3 f3 5 144)],4⟩
theorem b28:f69.body=some (Ac f69):=by kernel_rfl
theorem ev28(nk:BA ->Bool)(l:List SLine)(s0:BA)(ka:Nat)(ga:RD)(mpa:MV)(g:Nat):Ai prog (o28 nk) ann28 g f69 (Ac f69) [.c (.d (Aq l)),fnOf 70] [(0, .cells [.d (dS s0), .row 1 1 ka,nilC,nilC,nilC, .mp 2] 207),(1, .row ka ga 1 9),(2, .map 0 mpa)]=
 Ajo nk l s0 ka ga mpa g g mpa 0 (fun x=>[]) 0:=by kernel_rfl
theorem AjF(nk:BA ->Bool)(l:List SLine)(s0:BA)(ka:Nat)(ga:RD)(mpa:MV)(g m:Nat)(l2:MV)(n3:Nat)(f3:RD)(i10:Int):Ajo nk l s0 ka ga mpa g (m+1) l2 n3 f3 i10=
 (bif decide (i10<(↑l.length:Int))then(bif decide (0<=i10)&&decide (i10<(↑l.length:Int))then(bif !nk (SLine.name (l.getD i10.toNat Ah))then some (T.leaf (.c (.d
 (iD 7)),[(0, .cells [.d (.v (.string s0)), .row (1) (1) ka, .row ((3:Nat)) (5) n3, .d (.v (.slice none 0 0)), .d (.v (.slice none 0 0)), .mp (2)] (207)),
 (1, .row ka ga (1) (9)),(2, .map (0) l2),(3, .row n3 f3 (5) (144))]))else(bif B8 (Bb l2 (Value.string (SLine.name (l.getD i10.toNat Ah))))then some (T.leaf (.c (.d
 (iD 8)),[(0, .cells [.d (.v (.string s0)), .row (1) (1) ka, .row (3) (5) n3, .d (.v (.slice none 0 0)), .d (.v (.slice none 0 0)), .mp (2)] ((207:Nat))),
 (1, .row ka ga (1) (9)),(2, .map (0) l2),(3, .row n3 f3 (5) (144))]))else(bif decide (SLine.r1 (l.getD i10.toNat Ah)>=0)then(bif decide (SLine.r1 (l.getD i10.toNat
 Ah)<=1000)then(bif decide (SLine.x1 (l.getD i10.toNat Ah)>=1)then(bif !decide (SLine.x1 (l.getD i10.toNat Ah)<=1000)then some (T.leaf (iA 2,[((0:
 Nat), .cells [.d (.v (.string s0)), .row (1) (1) ka, .row (3) (5) n3, .d (.v (.slice none 0 0)), .d (.v (Value.slice none 0 0)), .mp (2)] (207)),(1, .row ka ga (1)
 (9)),(2, .map (0) l2),(3, .row n3 f3 (5) (144))]))else(bif decide (SLine.r0 (l.getD i10.toNat Ah)>=0)then(bif decide (SLine.r0 (l.getD i10.toNat Ah)<=1000)then(bif
 decide (SLine.x0 (l.getD i10.toNat Ah)>=1)then(bif !decide (SLine.x0 (l.getD i10.toNat Ah)<=1000)then some (T.leaf (iA 2,[(0, .cells [.d (.v
 (.string s0)), .row (1) (1) ka, .row (3) ((5:Nat)) n3, .d (.v (.slice none 0 0)), .d (.v (.slice none 0 0)), .mp (2)] (207)),(1, .row ka ga (1) (9)),(2, .map (0)
 l2),(3, .row n3 f3 (5) (144))]))else(bif decide ((n3+1)*48<=140737488355328)&&decide (n3+1<=9223372036854775807)then Ajo nk l s0 ka ga mpa g m ((Value.string
 (SLine.name (l.getD i10.toNat Ah)),Value.bool true)::l2) (n3+1) (appF n3 f3 (Ae [dS (SLine.name (l.getD i10.toNat Ah)),dI (SLine.r1 (l.getD i10.toNat Ah)),dI (SLine.x1
 (l.getD i10.toNat Ah)),dI (SLine.r0 (l.getD i10.toNat Ah)),dI (SLine.x0 (l.getD i10.toNat Ah))] (4+1))) (wrap .i64 (i10+1))else none))else some (T.leaf (.c (.d
 (iD 2)),[(0, .cells [.d (.v (.string s0)), .row (1) (1) ka, .row (3) (5) n3, .d (.v (.slice none 0 0)), .d (.v (.slice none 0 0)), .mp (2)] (207)),(1,
 .row ka ga (1) (9)),(2, .map (0) l2),(3, .row n3 f3 (5) (144))])))else some (T.leaf (.c (.d (iD 2)),[(0, .cells [.d (.v (.string s0)),
 .row (1) (1) ka, .row (3) (5) n3, .d (.v (Value.slice none (0:Nat) 0)), .d (.v (.slice none 0 0)), .mp (2)] (207)),(1, .row ka ga (1) (9)),(2, .map ((0:Nat)) l2),
 (3, .row n3 f3 (5) (144))])))else some (T.leaf (iA 2,[(0, .cells [.d (.v (Value.string s0)), .row (1) (1) ka, .row (3) (5) n3, .d (.v (.slice
 none 0 0)), .d (.v (Value.slice none 0 (0:Nat))), .mp (2)] (207)),(1, .row ka ga (1) (9)),(2, .map (0) l2),(3, .row n3 f3 (5) ((144:Nat)))]))))else some (T.leaf
 (iA 2,[(0, .cells [.d (.v (.string s0)), .row (1) (1) ka, .row ((3:Nat)) (5) n3, .d (.v (.slice none 0 0)), .d (.v (.slice none 0 0)), .mp (2)]
 (207)),(1, .row ka ga (1) (9)),(2, .map (0) l2),(3, .row n3 f3 (5) (144))])))else some (T.leaf (iA 2,[(0, .cells [.d (.v (.string s0)),
 .row (1) (1) ka, .row (3) (5) n3, .d (.v (.slice none 0 0)), .d (.v (.slice none 0 0)), .mp (2)] (207)),(1, .row ka ga (1) (9)),(2, .map (0) l2),((3:Nat), .row
 n3 f3 (5) (144))])))else some (T.leaf (iA 2,[(0, .cells [.d (.v (.string s0)), .row (1) (1) ka, .row (3) (5) n3, .d (.v (.slice none 0 0)), .d (.v
 (.slice none 0 0)), .mp (2)] (207)),(1, .row ka ga (1) (9)),(2, .map (0) l2),(3, .row n3 f3 (5) (144))])))))else none)else some (T.leaf (.c (.d (.v (.int .i64
 0))),[(0, .cells [.d (.v (.string s0)), .row (1) (1) ka, .row (3) ((5:Nat)) n3, .d (.v (.slice none 0 0)), .d (.v (.slice none 0 0)), .mp (2)] (207)),(1, .row ka ga
 (1) (9)),(2, .map (0) l2),(3, .row n3 f3 (5) (144))]))):=by kernel_rfl
def Apx:Ann:=A1 [(2,⟨[1,8,9,10],[(1,3,6,147)]⟩)]
def Ajn(nk:BA ->Bool)(l:List SSrc)(s0:BA)(ka:Nat)(ga:RD)(kb:Nat)(gb:RD)(mpa:MV)(g m:Nat)(l3:MV)(n4:Nat)(f4:RD)(i10:Int):=LK prog (o30 nk) Apx 4 g f71 2 m ⟨frm [(1, .c (.fn 72 [Rf.ptr 0 0] [])),(8, .c (.d (.sl 6 (List.length l) fun i=>Ay (List.getD l i src0)))),(9,iA (↑(List.length l):Int)),(10,iA i10)] 0 f71.ntmps,[(0, .cells [.d (.v (.string s0)), .row 1 1 ka, .row 2 5 kb, .row 4 6 n4, .d (.v (.slice none 0 0)), .mp 3] 207),(1, .row ka ga 1 9),(2, .row kb gb 5 144),(3, .map 0 l3),(4, .row n4 f4 6 147)],5⟩
theorem b30:f71.body=some (Ac f71):=by kernel_rfl
theorem ev30(nk:BA ->Bool)(l:List SSrc)(s0:BA)(ka:Nat)(ga:RD)(kb:Nat)(gb:RD)(mpa:MV)(g:Nat):Ai prog (o30 nk) Apx g f71 (Ac f71) [.c (.d (Cl l)),fnOf 72] [(0, .cells [.d (dS s0), .row 1 1 ka, .row 2 5 kb,nilC,nilC, .mp 3] 207),(1, .row ka ga 1 9),(2, .row kb gb 5 144),(3, .map 0 mpa)]=
 Ajn nk l s0 ka ga kb gb mpa g g mpa 0 (fun x=>[]) 0:=by kernel_rfl
theorem AjC(nk:BA ->Bool)(l:List SSrc)(s0:BA)(ka:Nat)(ga:RD)(kb:Nat)(gb:RD)(mpa:MV)(g m:Nat)(l3:MV)(n4:Nat)(f4:RD)(i10:Int):Ajn nk l s0 ka ga kb gb mpa g (m+1) l3 n4 f4 i10=
 (bif decide (i10<(↑l.length:Int))then(bif decide (0<=i10)&&decide (i10<(↑l.length:Int))then(bif !nk (SSrc.name (l.getD i10.toNat src0))then some (T.leaf (.c (.d
 (iD 7)),[(0, .cells [.d (.v (.string s0)), .row (1) (1) ka, .row ((2:Nat)) (5) kb, .row (4) (6) n4, .d (.v (.slice none 0 0)), .mp (3)] (207)),(1, .row
 ka ga (1) ((9:Nat))),(2, .row kb gb (5) (144)),(3, .map (0) l3),(4, .row n4 f4 (6) (147))]))else(bif B8 (Bb l3 (Value.string (SSrc.name (l.getD i10.toNat src0))))
 then some (T.leaf (iA 8,[(0, .cells [.d (.v (Value.string s0)), .row (1) (1) ka, .row (2) (5) kb, .row (4) (6) n4, .d (.v (.slice none 0 0)),C.mp
 ((3:Nat))] (207)),(1, .row ka ga (1) (9)),(2, .row kb gb (5) (144)),(3, .map (0) l3),(4, .row n4 f4 (6) (147))]))else(bif decide (SSrc.emf (l.getD i10.toNat
 src0)>=1)then(bif !decide (SSrc.emf (l.getD i10.toNat src0)<=1000000)then some (T.leaf (iA 2,[(0, .cells [.d (.v (.string s0)), .row (1) (1) ka,
 .row (2) (5) kb, .row (4) (6) n4, .d (.v (.slice none 0 0)), .mp (3)] (207)),(1, .row ka ga ((1:Nat)) (9)),(2, .row kb gb (5) (144)),(3, .map (0) l3),(4, .row
 n4 f4 (6) (147))]))else(bif decide (SSrc.r1 (l.getD i10.toNat src0)>=0)then(bif decide (SSrc.r1 (l.getD i10.toNat src0)<=1000)then(bif decide (SSrc.x1 (l.getD i10.toNat
 src0)>=1)then(bif !decide (SSrc.x1 (l.getD i10.toNat src0)<=1000)then some (T.leaf (iA 2,[(0, .cells [.d (.v (.string s0)), .row (1) (1) ka,
 .row (2) (5) kb, .row (4) (6) n4, .d (.v (Value.slice none 0 0)), .mp (3)] (207)),(1, .row ka ga (1) (9)),(2, .row kb gb (5) (144)),(3, .map (0) l3),(4, .row
 n4 f4 (6) (147))]))else(bif decide (SSrc.r0 (l.getD i10.toNat src0)>=0)then(bif decide (SSrc.r0 (l.getD i10.toNat src0)<=1000)then(bif decide (SSrc.x0 (l.getD i10.toNat
 src0)>=1)then(bif !decide (SSrc.x0 (l.getD i10.toNat src0)<=1000)then some (T.leaf (iA 2,[(0, .cells [.d (.v (.string s0)), .row (1) (1) ka,
 .row (2) (5) kb, .row (4) (6) n4, .d (.v (.slice none 0 0)), .mp (3)] (207)),(1, .row ka ga (1) (9)),(2, .row kb gb (5) (144)),(3, .map (0) l3),(4, .row n4 f4
 (6) ((147:Nat)))]))else(bif decide ((n4+1)*56<=140737488355328)&&decide (n4+1<=9223372036854775807)then Ajn nk l s0 ka ga kb gb mpa g m ((Value.string (SSrc.name
 (l.getD i10.toNat src0)),Value.bool true)::l3) (n4+1) (appF n4 f4 (Ae [dS (SSrc.name (l.getD i10.toNat src0)),dI (SSrc.emf (l.getD i10.toNat src0)),dI (SSrc.r1 (l.getD
 i10.toNat src0)),dI (SSrc.x1 (l.getD i10.toNat src0)),dI (SSrc.r0 (l.getD i10.toNat src0)),dI (SSrc.x0 (l.getD i10.toNat src0))] (5+1))) (wrap .i64 (i10+1))else
 none))else some (T.leaf (.c (.d (iD 2)),[(0, .cells [.d (.v (.string s0)), .row (1) (1) ka, .row (2) (5) kb, .row (4) ((6:Nat)) n4, .d (.v
 (.slice none 0 0)), .mp (3)] (207)),(1, .row ka ga (1) (9)),(2, .row kb gb ((5:Nat)) (144)),(3, .map (0) l3),(4, .row n4 f4 (6) (147))])))else some (T.leaf
 (iA 2,[(0, .cells [.d (.v (.string s0)), .row (1) (1) ka, .row (2) (5) kb, .row (4) (6) n4, .d (.v (Value.slice none 0 0)), .mp (3)] (207)),(1,
 .row ka ga (1) (9)),(2, .row kb gb (5) (144)),(3, .map (0) l3),(4, .row n4 f4 (6) (147))])))else some (T.leaf (iA 2,[(0, .cells [.d (.v
 (.string s0)), .row (1) (1) ka, .row (2) (5) kb, .row (4) (6) n4, .d (.v (Value.slice none 0 (0:Nat))), .mp (3)] (207)),(1, .row ka ga (1) (9)),(2, .row kb gb (5)
 (144)),(3, .map (0) l3),(4, .row n4 f4 (6) (147))]))))else some (T.leaf (iA 2,[(0, .cells [.d (.v (Value.string s0)), .row (1) (1) ka,C.row
 (2) (5) kb, .row (4) (6) n4, .d (.v (.slice none 0 0)), .mp (3)] ((207:Nat))),(1, .row ka ga (1) (9)),(2, .row kb gb (5) (144)),(3, .map (0) l3),(4, .row n4 f4
 (6) (147))])))else some (T.leaf (iA 2,[(0, .cells [.d (.v (.string s0)), .row (1) ((1:Nat)) ka, .row (2) (5) kb, .row (4) (6) n4, .d (.v (.slice
 none 0 0)), .mp (3)] (207)),(1, .row ka ga (1) (9)),(2, .row kb gb (5) (144)),(3, .map (0) l3),(4, .row n4 f4 (6) (147))])))else some (T.leaf (.c (.d (.v (.int
 .i64 2))),[(0, .cells [.d (.v (.string s0)), .row (1) (1) ka, .row (2) ((5:Nat)) kb, .row (4) (6) n4, .d (.v (.slice none 0 0)), .mp (3)] (207)),(1, .row ka ga (1)
 (9)),(2, .row kb gb (5) (144)),(3, .map (0) l3),(4, .row n4 f4 (6) (147))]))))else some (T.leaf (iA 2,[(0, .cells [.d (.v (.string s0)),
 .row (1) (1) ka, .row (2) (5) kb, .row (4) (6) n4, .d (.v (.slice none 0 0)), .mp (3)] (207)),(1, .row ka ga (1) (9)),(2, .row kb gb ((5:Nat)) (144)),(3, .map
 (0) l3),(4, .row n4 f4 (6) (147))])))))else none)else some (T.leaf (.c (.d (iD 0)),[(0, .cells [.d (.v (.string s0)), .row (1) (1) ka,C.row
 (2) (5) kb, .row (4) (6) n4, .d (.v (.slice none 0 0)), .mp (3)] (207)),(1, .row ka ga (1) (9)),(2, .row kb gb (5) ((144:Nat))),(3, .map (0) l3),(4, .row n4 f4
 (6) (147))]))):=by kernel_rfl
abbrev A5:=(BA×Nat×Nat×Nat×Nat×Unit×Unit)×(Nat×RD)×(Nat×RD)×(Nat×RD)×(Nat×RD)×(List (Value×Value))×Unit
def dH5:Dec Hp A5:= .cons (.blk 0 (.cells 207 (.cons .str (.cons (.row 1 1) (.cons (.row 2 5) (.cons (.row 3 6) (.cons (.row 4 12) (.cons (.mp 5) .nil)))))))) (.cons (.blk 1 (.rowB 1 9)) (.cons (.blk 2 (.rowB 5 144)) (.cons (.blk 3 (.rowB 6 147)) (.cons (.blk 4 (.rowB 12 118)) (.cons (.blk 5 (.mapB 0)) .nil)))))
def dBay:Dec (List AV) (Unit×RBay×Unit):= .cons (.c (.ptr 0 0)) (.cons (.agg bayD) .nil)
def d55:Dec (List AV×Hp) ((Unit×RBay×Unit)×A5):= .pair dBay dH5
def o55:Orc:=oWi
def Apv:Ann:=A1 [(5,⟨[3,0,27,28,29],[]⟩)]
def Vn(x:SBay)(s0:BA)(ka:Nat)(ga:RD)(kb:Nat)(gb:RD)(kc:Nat)(gc:RD)(kd:Nat)(gd:RD)(mpa:MV)(g m:Nat)(i29:Int):=LK prog o55 Apv 6 g f131 5 m ⟨frm [(0, .c (.ptr 0 0)),(3, .c (.ptr 6 0)),(27, .c (.d (.sl 2 (List.length (SBay.qe x)) fun i=>Gm (List.getD (SBay.qe x) i A4)))),(28,iA (↑(List.length (SBay.qe x)):Int)),(29,iA i29)] 0 f131.ntmps,[(0, .cells [.d (.v (.string s0)), .row 1 1 ka, .row 2 5 kb, .row 3 6 kc, .row 4 12 kd, .mp 5] 207),(1, .row ka ga 1 9),(2, .row kb gb 5 144),(3, .row kc gc 6 147),(4, .row kd gd 12 118),(5, .map 0 mpa),(6, .cells (List.map C.d (bayC x)) 118)],7⟩
theorem b55:f131.body=some (Ac f131):=by kernel_rfl
theorem ev55(x:SBay)(s0:BA)(ka:Nat)(ga:RD)(kb:Nat)(gb:RD)(kc:Nat)(gc:RD)(kd:Nat)(gd:RD)(mpa:MV)(g:Nat):Ai prog o55 Apv g f131 (Ac f131) [.c (.ptr 0 0),aBay x] [(0, .cells [.d (dS s0), .row 1 1 ka, .row 2 5 kb, .row 3 6 kc, .row 4 12 kd, .mp 5] 207),(1, .row ka ga 1 9),(2, .row kb gb 5 144),(3, .row kc gc 6 147),(4, .row kd gd 12 118),(5, .map 0 mpa)]=
 (bif decide ((↑x.qe.length:Int)<1)then some (T.leaf (iA 3,[(0, .cells [.d (.v (Value.string s0)), .row (1) (1) ka, .row (2) (5) kb,C.row
 (3) (6) kc, .row (4) (12) kd, .mp (5)] (207)),((1:Nat), .row ka ga (1) (9)),(2, .row kb gb (5) (144)),(3, .row kc gc (6) (147)),(4, .row kd gd (12) (118)),(5,
 .map (0) mpa)]))else(bif decide ((↑x.qe.length:Int)>2)then some (T.leaf (.c (.d (iD 3)),[(0, .cells [.d (.v (.string s0)), .row (1)
 (1) ka, .row (2) (5) kb, .row (3) ((6:Nat)) kc, .row (4) (12) kd, .mp (5)] (207)),(1, .row ka ga (1) (9)),(2, .row kb gb (5) ((144:Nat))),(3, .row kc gc (6)
 (147)),(4, .row kd gd (12) (118)),(5, .map (0) mpa)]))else(bif x.kind==3 then(bif(↑x.qe.length:Int) !=2 then some (T.leaf (iA 3,[(0,
 .cells [.d (.v (Value.string s0)), .row (1) (1) ka, .row (2) (5) kb, .row (3) (6) kc, .row (4) (12) kd, .mp (5)] ((207:Nat))),(1, .row ka ga (1) (9)),(2, .row
 kb gb (5) (144)),(3, .row kc gc (6) (147)),(4, .row kd gd (12) (118)),(5, .map (0) mpa)]))else Vn x s0 ka ga kb gb kc gc kd gd mpa g g 0)else Vn x s0 ka ga kb gb kc
 gc kd gd mpa g g 0))):=by kernel_rfl
theorem AnU(x:SBay)(s0:BA)(ka:Nat)(ga:RD)(kb:Nat)(gb:RD)(kc:Nat)(gc:RD)(kd:Nat)(gd:RD)(mpa:MV)(g m:Nat)(i29:Int):Vn x s0 ka ga kb gb kc gc kd gd mpa g (m+1) i29=
 (bif decide (i29<(↑x.qe.length:Int))then(bif decide (0<=i29)&&decide (i29<(↑x.qe.length:Int))then(bif decide (SLink.bus (x.qe.getD i29.toNat A4)>=0)then
 (bif !decide (SLink.bus (x.qe.getD i29.toNat A4)<=wrap .i64 ((↑ka:Int) -1))then some (T.leaf (iA 9,[(0, .cells [.d (.v (.string s0)),
 .row (1) (1) ka, .row ((2:Nat)) (5) kb, .row (3) (6) kc, .row (4) (12) kd, .mp (5)] (207)),(1, .row ka ga (1) (9)),((2:Nat), .row kb gb (5) (144)),(3, .row kc
 gc (6) (147)),(4, .row kd gd (12) (118)),(5, .map (0) mpa)]))else(bif SLink.pos (x.qe.getD i29.toNat A4) !=1 then(bif SLink.pos (x.qe.getD i29.toNat A4) !=0 then
 some (T.leaf (iA 16,[(0, .cells [.d (.v (.string s0)), .row (1) (1) ka, .row (2) (5) kb, .row (3) (6) kc, .row (4) (12) kd, .mp (5)] (207)),(1,
 .row ka ga (1) (9)),((2:Nat), .row kb gb (5) (144)),(3, .row kc gc (6) (147)),(4, .row kd gd (12) (118)),(5, .map ((0:Nat)) mpa)]))else(bif x.kind==3
 then some (T.leaf (iA 16,[(0, .cells [.d (.v (.string s0)), .row (1) (1) ka, .row (2) (5) kb, .row (3) (6) kc, .row (4) (12) kd, .mp (5)] (207)),
 (1, .row ka ga (1) (9)),(2, .row kb gb (5) (144)),(3, .row kc gc (6) (147)),(4, .row kd gd ((12:Nat)) (118)),(5, .map (0) mpa)]))else(bif decide (i29>0)
 then(bif decide (0<=wrap .i64 (i29 -1))&&decide (wrap .i64 (i29 -1)<(↑x.qe.length:Int))then(bif SLink.bus (x.qe.getD (Int.toNat (wrap .i64
 (i29 -1))) A4)==SLink.bus (x.qe.getD i29.toNat A4)then some (T.leaf (iA 12,[(0, .cells [.d (.v (Value.string s0)), .row (1) (1) ka, .row (2)
 (5) kb, .row (3) (6) kc, .row (4) (12) kd, .mp (5)] ((207:Nat))),(1, .row ka ga (1) (9)),(2, .row kb gb (5) (144)),(3, .row kc gc (6) (147)),(4, .row kd gd
 (12) (118)),(5, .map (0) mpa)]))else Vn x s0 ka ga kb gb kc gc kd gd mpa g m (wrap .i64 (i29+1)))else none)else Vn x s0 ka ga kb gb kc gc kd gd mpa g m
 (wrap .i64 (i29+1)))))else(bif decide (i29>0)then(bif decide (0<=wrap IntKind.i64 (i29 -1))&&decide (wrap .i64 (i29 -1)<(↑x.qe.length:
 Int))then(bif SLink.bus (x.qe.getD (Int.toNat (wrap .i64 (i29 -1))) A4)==SLink.bus (x.qe.getD i29.toNat A4)then some (T.leaf (.c (.d (.v (Value.int
 IntKind.i64 12))),[(0, .cells [.d (.v (.string s0)), .row (1) (1) ka, .row (2) (5) kb, .row (3) (6) kc, .row (4) (12) kd, .mp (5)] (207)),(1, .row ka ga (1) (9)),(2,
 .row kb gb (5) (144)),((3:Nat), .row kc gc (6) (147)),(4, .row kd gd (12) (118)),(5, .map (0) mpa)]))else Vn x s0 ka ga kb gb kc gc kd gd mpa g m (wrap
 .i64 (i29+1)))else none)else Vn x s0 ka ga kb gb kc gc kd gd mpa g m (wrap .i64 (i29+1)))))else some (T.leaf (iA 9,[(0, .cells [.d (.v
 (.string s0)), .row (1) (1) ka, .row (2) (5) kb, .row (3) (6) kc, .row (4) (12) kd, .mp (5)] (207)),(1, .row ka ga (1) (9)),(2, .row kb gb ((5:Nat)) (144)),(3,
 .row kc gc (6) (147)),(4, .row kd gd (12) (118)),(5, .map (0) mpa)])))else none)else some (T.leaf (iA 0,[(0, .cells [.d (.v (.string s0)),
 .row (1) (1) ka, .row (2) (5) kb, .row (3) (6) kc, .row (4) (12) kd, .mp (5)] (207)),(1, .row ka ga (1) (9)),((2:Nat), .row kb gb (5) (144)),(3, .row kc gc (6)
 (147)),(4, .row kd gd (12) (118)),(5, .map ((0:Nat)) mpa)]))):=by kernel_rfl
def o54:Orc:=Orc.cons 128 (inl prog oWi na 1 f128) oWi
def ArM:Ann:=A1 []
theorem b54:f130.body=some (Ac f130):=by kernel_rfl
theorem ev54(x:SBay)(g:Nat):Ai prog o54 ArM g f130 (Ac f130) [aBay x] []=
 (bif x.kind==3 then(bif decide (x.zr>=0)then(bif decide (x.zr<=1000)then(bif decide (x.zx>=1)then(bif !decide (x.zx<=1000)then leB false else(bif x.vt !=0 then leB
 false else(bif x.kind==1 then(bif decide (x.fin>=0)then(bif decide (x.fin<=1)then(bif decide (x.ct>=1)then(bif decide (x.ct<=100)then(bif decide (x.sat>=0)then
 (bif decide (x.sat<=16383)then(bif decide (x.qg>=1)then leB (decide (x.qg<=6))else leB false)else leB false)else leB false)else leB false)else leB false)else
 leB false)else leB false)else(bif decide (x.fin>=0)then(bif decide (x.fin<=0)then(bif decide (x.ct>=1)then(bif decide (x.ct<=100)then(bif decide (x.sat>=0)then
 (bif decide (x.sat<=16383)then(bif decide (x.qg>=1)then leB (decide (x.qg<=6))else leB false)else leB false)else leB false)else leB false)else leB false)else
 leB false)else leB false))))else leB false)else leB false)else leB false)else(bif !(x.zr==0&&(x.zx==0&&true))then leB false else(bif decide (x.vt>=1)then(bif
 !decide (x.vt<=10000)then leB false else(bif x.kind==1 then(bif decide (x.fin>=0)then(bif decide (x.fin<=1)then(bif decide (x.ct>=1)then(bif decide (x.ct<=100)then
 (bif decide (x.sat>=0)then(bif decide (x.sat<=16383)then(bif decide (x.qg>=1)then leB (decide (x.qg<=6))else leB false)else leB false)else leB false)else leB
 false)else leB false)else leB false)else leB false)else(bif decide (x.fin>=0)then(bif decide (x.fin<=0)then(bif decide (x.ct>=1)then(bif decide (x.ct<=100)then(bif
 decide (x.sat>=0)then(bif decide (x.sat<=16383)then(bif decide (x.qg>=1)then leB (decide (x.qg<=6))else leB false)else leB false)else leB false)else leB false)
 else leB false)else leB false)else leB false)))else leB false))):=by kernel_rfl
def d54:Dec (List AV×Hp) ((RBay×Unit)×Unit):= .pair (.cons (.agg bayD) .nil) .nil
def oRa(nk:BA ->Bool)(okr rg:RBay ->Bool):Orc:=Orc.cons 130 (ansD d54 (fun a=>okr a.1.1) (fun a=>vB (rg a.1.1)) fun _=>[]) (oIm nk)
def o33(nk:BA ->Bool)(okr rg:RBay ->Bool)(ok:(Unit×RBay×Unit)×A5 ->Bool)(lk:(Unit×RBay×Unit)×A5 ->Int):Orc:=Orc.cons 131 (ansD d55 ok (fun a=>vI (lk a)) (fun a=>(d55.enc a).2)) (oRa nk okr rg)
def AnA:Ann:=A1 [(18,⟨[3,50,0,51,52],[]⟩)]
def Kr(nk:BA ->Bool)(okr rg:RBay ->Bool)(ok:(Unit×RBay×Unit)×A5 ->Bool)(lk:(Unit×RBay×Unit)×A5 ->Int)(x:SBay)(s0:BA)(ka:Nat)(ga:RD)(kb:Nat)(gb:RD)(kc:Nat)(gc:RD)(bs:List SBay)(mpa:MV)(g m:Nat)(i52:Int):=LK prog (o33 nk okr rg ok lk) AnA 6 g f74 18 m ⟨frm [(0, .c (.ptr 0 0)),(3, .c (.ptr 6 0)),(50, .c (.row 4 12 (List.length bs))),(51,iA (↑(List.length bs):Int)),(52,iA i52)] 0 f74.ntmps,[(0, .cells [.d (.v (.string s0)), .row 1 1 ka, .row 2 5 kb, .row 3 6 kc, .row 4 12 (List.length bs), .mp 5] 207),(1, .row ka ga 1 9),(2, .row kb gb 5 144),(3, .row kc gc 6 147),(4, .row (List.length bs) (fun i=>bayC (List.getD bs i bay0)) 12 118),(5, .map 0 mpa),(6, .cells (List.map C.d (bayC x)) 118)],7⟩
theorem b33:f74.body=some (Ac f74):=by kernel_rfl
theorem ev33(nk:BA ->Bool)(okr rg:RBay ->Bool)(ok:(Unit×RBay×Unit)×A5 ->Bool)(lk:(Unit×RBay×Unit)×A5 ->Int)(x:SBay)(s0:BA)(ka:Nat)(ga:RD)(kb:Nat)(gb:RD)(kc:Nat)(gc:RD)(bs:List SBay)(mpa:MV)(g:Nat):Ai prog (o33 nk okr rg ok lk) AnA g f74 (Ac f74) [.c (.ptr 0 0),aBay x] [(0, .cells [.d (dS s0), .row 1 1 ka, .row 2 5 kb, .row 3 6 kc, .row 4 12 bs.length, .mp 5] 207),(1, .row ka ga 1 9),(2, .row kb gb 5 144),(3, .row kc gc 6 147),(4, .row bs.length (fun i=>bayC (bs.getD i bay0)) 12 118),(5, .map 0 mpa)]=
 (bif !nk x.name then some (T.leaf (iA 7,[(0, .cells [.d (.v (.string s0)), .row (1) (1) ka, .row (2) (5) kb, .row (3) (6) kc, .row (4) (12)
 bs.length, .mp (5)] (207)),(1, .row ka ga ((1:Nat)) (9)),(2, .row kb gb (5) (144)),(3, .row kc gc (6) (147)),(4, .row bs.length (fun i=>bayC (bs.getD i bay0))
 (12) (118)),(5, .map (0) mpa)]))else(bif B8 (Bb mpa (Value.string x.name))then some (T.leaf (iA 8,[(0, .cells [.d (.v (.string s0)), .row (1)
 (1) ka, .row (2) (5) kb, .row (3) (6) kc, .row (4) (12) bs.length, .mp (5)] (207)),(1, .row ka ga (1) (9)),(2, .row kb gb ((5:Nat)) (144)),(3, .row kc gc (6)
 (147)),(4, .row bs.length (fun i=>bayC (bs.getD i bay0)) (12) (118)),(5, .map (0) mpa)]))else(bif x.kind==1 then(bif decide (x.off>=0)then(bif !decide (x.off<=
 wrap .i64 ((↑kb:Int) -1))then some (T.leaf (iA 9,[(0, .cells [.d (.v (.string s0)), .row (1) (1) ka, .row (2) (5) kb, .row (3) (6) kc,
 .row (4) (12) bs.length, .mp (5)] (207)),(1, .row ka ga ((1:Nat)) (9)),(2, .row kb gb (5) (144)),(3, .row kc gc (6) (147)),(4, .row bs.length (fun i=>bayC
 (bs.getD i bay0)) (12) (118)),(5, .map (0) mpa)]))else(bif okr (x.name,x.kind,x.off,x.fin,x.zr,x.zx,B7 x.qe,x.qf,x.ct,x.vt,x.sat,x.qg,())then(bif !rg
 (x.name,x.kind,x.off,x.fin,x.zr,x.zx,B7 x.qe,x.qf,x.ct,x.vt,x.sat,x.qg,())then some (T.leaf (iA 2,[(0, .cells [.d (.v (.string
 s0)), .row (1) (1) ka, .row (2) (5) kb, .row (3) (6) kc, .row (4) (12) bs.length, .mp (5)] (207)),(1, .row ka ga (1) (9)),(2, .row kb gb (5) (144)),(3, .row kc gc
 (6) (147)),(4, .row bs.length (fun i=>bayC (bs.getD i bay0)) (12) (118)),(5, .map (0) mpa)]))else Kr nk okr rg ok lk x s0 ka ga kb gb kc gc bs mpa g g 0)else none))
 else some (T.leaf (iA 9,[(0, .cells [.d (.v (.string s0)), .row (1) (1) ka, .row (2) (5) kb, .row (3) (6) kc, .row (4) (12) bs.length, .mp (5)]
 (207)),(1, .row ka ga (1) (9)),(2, .row kb gb (5) (144)),(3, .row kc gc (6) ((147:Nat))),(4, .row bs.length (fun i=>bayC (bs.getD i bay0)) (12) (118)),(5,
 .map (0) mpa)])))else(bif x.kind==2 then(bif decide (x.off>=0)then(bif !decide (x.off<=wrap .i64 ((↑kc:Int) -1))then some (T.leaf (.c (.d (.v (Value.int
 IntKind.i64 9))),[(0, .cells [.d (.v (.string s0)), .row (1) (1) ka, .row (2) (5) kb, .row (3) (6) kc, .row (4) (12) bs.length, .mp (5)] (207)),(1, .row ka ga (1)
 (9)),(2, .row kb gb (5) ((144:Nat))),(3, .row kc gc (6) (147)),(4, .row bs.length (fun i=>bayC (bs.getD i bay0)) (12) (118)),(5, .map (0) mpa)]))else(bif okr
 (x.name,x.kind,x.off,x.fin,x.zr,x.zx,B7 x.qe,x.qf,x.ct,x.vt,x.sat,x.qg,())then(bif !rg (x.name,x.kind,x.off,x.fin,x.zr,x.zx,B7 x.qe,x.qf,
 x.ct,x.vt,x.sat,x.qg,())then some (T.leaf (iA 2,[(0, .cells [.d (.v (.string s0)), .row (1) ((1:Nat)) ka, .row (2) (5) kb, .row (3) (6)
 kc, .row (4) (12) bs.length, .mp (5)] (207)),(1, .row ka ga (1) (9)),(2, .row kb gb (5) (144)),(3, .row kc gc (6) (147)),(4, .row bs.length (fun i=>bayC
 (bs.getD i bay0)) (12) (118)),(5, .map (0) mpa)]))else Kr nk okr rg ok lk x s0 ka ga kb gb kc gc bs mpa g g 0)else none))else some (T.leaf (iA 9,
 [(0, .cells [.d (.v (.string s0)), .row (1) (1) ka, .row ((2:Nat)) (5) kb, .row (3) (6) kc, .row (4) (12) bs.length, .mp (5)] (207)),(1, .row ka ga (1) ((9:Nat))),
 (2, .row kb gb (5) (144)),(3, .row kc gc (6) (147)),(4, .row bs.length (fun i=>bayC (bs.getD i bay0)) (12) (118)),(5, .map (0) mpa)])))else(bif x.kind==3 then
 (bif decide (x.off>=0)then(bif !decide (x.off<=wrap .i64 (1 -1))then some (T.leaf (iA 9,[(0, .cells [.d (.v (Value.string s0)),C.row
 (1) (1) ka, .row (2) (5) kb, .row (3) (6) kc, .row (4) (12) bs.length, .mp (5)] ((207:Nat))),(1, .row ka ga (1) (9)),(2, .row kb gb (5) (144)),(3, .row kc gc (6)
 (147)),(4, .row bs.length (fun i=>bayC (bs.getD i bay0)) (12) (118)),(5, .map (0) mpa)]))else(bif okr (x.name,x.kind,x.off,x.fin,x.zr,x.zx,B7 x.qe,x.qf,
 x.ct,x.vt,x.sat,x.qg,())then(bif !rg (x.name,x.kind,x.off,x.fin,x.zr,x.zx,B7 x.qe,x.qf,x.ct,x.vt,x.sat,x.qg,())then some (T.leaf (.c (.d (D.v
 (Value.int IntKind.i64 2))),[(0, .cells [.d (.v (.string s0)), .row (1) (1) ka, .row (2) (5) kb, .row (3) (6) kc, .row ((4:Nat)) (12) bs.length, .mp (5)] (207)),(1,
 .row ka ga (1) (9)),(2, .row kb gb (5) (144)),((3:Nat), .row kc gc (6) (147)),(4, .row bs.length (fun i=>bayC (bs.getD i bay0)) (12) (118)),(5, .map ((0:
 Nat)) mpa)]))else Kr nk okr rg ok lk x s0 ka ga kb gb kc gc bs mpa g g 0)else none))else some (T.leaf (iA 9,[((0:Nat), .cells [.d (.v (.string
 s0)), .row (1) (1) ka, .row (2) (5) kb, .row (3) (6) kc, .row (4) (12) bs.length, .mp (5)] (207)),(1, .row ka ga (1) (9)),(2, .row kb gb (5) (144)),(3, .row kc gc
 (6) (147)),(4, .row bs.length (fun i=>bayC (bs.getD i bay0)) (12) (118)),(5, .map (0) mpa)])))else some (T.leaf (iA 10,[(0, .cells [.d (.v
 (.string s0)), .row (1) (1) ka, .row (2) ((5:Nat)) kb, .row (3) (6) kc, .row (4) (12) bs.length, .mp (5)] (207)),(1, .row ka ga (1) (9)),(2, .row kb gb (5) (144)),
 (3, .row kc gc (6) (147)),(4, .row bs.length (fun i=>bayC (bs.getD i bay0)) (12) (118)),(5, .map (0) mpa)]))))))):=by kernel_rfl
theorem AlD(nk:BA ->Bool)(okr rg:RBay ->Bool)(ok:(Unit×RBay×Unit)×A5 ->Bool)(lk:(Unit×RBay×Unit)×A5 ->Int)(x:SBay)(s0:BA)(ka:Nat)(ga:RD)(kb:Nat)(gb:RD)(kc:Nat)(gc:RD)(bs:List SBay)(mpa:MV)(g m:Nat)(i52:Int):Kr nk okr rg ok lk x s0 ka ga kb gb kc gc bs mpa g (m+1) i52=
 (bif decide (i52<(↑bs.length:Int))then(bif decide (0<=i52)&&decide (i52<(↑bs.length:Int))then(bif x.kind !=3 then(bif x.kind==SBay.kind (bs.getD i52.toNat bay0)
 then(bif x.off==SBay.off (bs.getD i52.toNat bay0)then(bif x.fin==SBay.fin (bs.getD i52.toNat bay0)then some (T.leaf (iA 12,[(0, .cells [.d (.v
 (.string s0)), .row (1) (1) ka, .row ((2:Nat)) (5) kb, .row (3) (6) kc, .row (4) (12) bs.length, .mp (5)] (207)),(1, .row ka ga (1) ((9:Nat))),(2, .row kb gb (5)
 (144)),(3, .row kc gc (6) (147)),(4, .row bs.length (fun i=>bayC (bs.getD i bay0)) (12) (118)),(5, .map (0) mpa)]))else Kr nk okr rg ok lk x s0 ka ga kb gb kc gc bs
 mpa g m (wrap .i64 (i52+1)))else Kr nk okr rg ok lk x s0 ka ga kb gb kc gc bs mpa g m (wrap .i64 (i52+1)))else Kr nk okr rg ok lk x s0 ka ga kb gb kc gc bs
 mpa g m (wrap .i64 (i52+1)))else Kr nk okr rg ok lk x s0 ka ga kb gb kc gc bs mpa g m (wrap .i64 (i52+1)))else none)else(bif ok (((),(x.name,x.kind,
 x.off,x.fin,x.zr,x.zx,D.sl 2 x.qe.length fun i=>Gm (x.qe.getD i A4),x.qf,x.ct,x.vt,x.sat,x.qg,()),()),(s0,ka,kb,kc,bs.length,(),()),(ka,ga),
 (kb,gb),(kc,gc),(bs.length,fun i=>bayC (bs.getD i bay0)),mpa,())then(bif lk (((),(x.name,x.kind,x.off,x.fin,x.zr,x.zx,D.sl 2 x.qe.length fun i=>Gm
 (x.qe.getD i A4),x.qf,x.ct,x.vt,x.sat,x.qg,()),()),(s0,ka,kb,kc,bs.length,(),()),(ka,ga),(kb,gb),(kc,gc),(bs.length,fun i=>bayC (bs.getD i
 bay0)),mpa,()) !=0 then some (T.leaf (iA (lk (((),(x.name,x.kind,x.off,x.fin,x.zr,x.zx,D.sl 2 x.qe.length fun i=>Gm (x.qe.getD i A4),
 x.qf,x.ct,x.vt,x.sat,x.qg,()),()),(s0,ka,kb,kc,bs.length,(),()),(ka,ga),(kb,gb),(kc,gc),(bs.length,fun i=>bayC (bs.getD i bay0)),mpa,())),[(0,
 .cells [.d (.v (.string s0)), .row (1) (1) ka, .row (2) (5) kb, .row (3) (6) kc, .row (4) ((12:Nat)) bs.length, .mp (5)] (207)),(1, .row ka ga (1) (9)),(2, .row
 kb gb (5) (144)),(3, .row kc gc (6) (147)),(4, .row bs.length (fun i=>bayC (bs.getD i bay0)) (12) (118)),(5, .map (0) (Prod.fst (Prod.snd (Prod.snd (Prod.snd
 (Prod.snd (Prod.snd (Prod.snd (((),(x.name,x.kind,x.off,x.fin,x.zr,x.zx,D.sl 2 x.qe.length fun i=>Gm (x.qe.getD i A4),x.qf,x.ct,x.vt,x.sat,x.qg,()),
 ()),(s0,ka,kb,kc,bs.length,(),()),(ka,ga),(kb,gb),(kc,gc),(bs.length,fun i=>bayC (bs.getD i bay0)),mpa,())))))))))]))else(bif decide ((bs.length+1)*120<=
 140737488355328)&&decide (bs.length+1<=9223372036854775807)then some (T.leaf (iA 0,[(0, .cells [.d (.v (.string s0)), .row (1) (1) ka, .row (2)
 (5) kb, .row (3) (6) kc, .row (6) (12) (bs.length+1), .mp (5)] (207)),(1, .row ka ga (1) (9)),(2, .row kb gb (5) (144)),(3, .row kc gc (6) (147)),(4, .dead),
 (5, .map (0) ((Value.string x.name,Value.bool true)::Prod.fst (Prod.snd (Prod.snd (Prod.snd (Prod.snd (Prod.snd (Prod.snd (((),(x.name,x.kind,x.off,x.fin,x.zr,x.zx,
 D.sl 2 x.qe.length fun i=>Gm (x.qe.getD i A4),x.qf,x.ct,x.vt,x.sat,x.qg,()),()),(s0,ka,kb,kc,bs.length,(),()),(ka,ga),(kb,gb),(kc,gc),
 (bs.length,fun i=>bayC (bs.getD i bay0)),mpa,()))))))))),(6, .row (bs.length+1) (appF bs.length (fun i=>bayC (bs.getD i bay0)) (Ae [D.v (.string x.name),D.v (.int
 .i64 x.kind),iD x.off,iD x.fin,iD x.zr,iD x.zx,D.sl 2 x.qe.length fun i=>Gm (x.qe.getD i A4),D.v
 (Value.bool x.qf),iD x.ct,iD x.vt,iD x.sat,iD x.qg] (11+1))) (12) (118))]))else none))else none)):=by kernel_rfl
def h33(cn:Nat ->RD ->RD)(bc:RBay ->List D)(a:(Unit×RBay×Unit)×A5):Hp:=[(0, .cells [.d (dS a.2.1.1), .row 1 1 a.2.2.1.1, .row 2 5 a.2.2.2.1.1, .row 3 6 a.2.2.2.2.1.1, .row 6 12 (a.2.2.2.2.2.1.1+1), .mp 5] 207),(1, .row a.2.2.1.1 a.2.2.1.2 1 9),(2, .row a.2.2.2.1.1 a.2.2.2.1.2 5 144),(3, .row a.2.2.2.2.1.1 a.2.2.2.2.1.2 6 147),(4, .dead),(5, .map 0 ((.string a.1.2.1.1, .bool true)::a.2.2.2.2.2.2.1)),(6, .row (a.2.2.2.2.2.1.1+1) (appF a.2.2.2.2.2.1.1 (cn a.2.2.2.2.2.1.1 a.2.2.2.2.2.1.2) (Ae (bc a.1.2.1) 12)) 12 118)]
def h33e(cn:Nat ->RD ->RD)(a:(Unit×RBay×Unit)×A5):Hp:=[(0, .cells [.d (dS a.2.1.1), .row 1 1 a.2.2.1.1, .row 2 5 a.2.2.2.1.1, .row 3 6 a.2.2.2.2.1.1, .row 4 12 a.2.2.2.2.2.1.1, .mp 5] 207),(1, .row a.2.2.1.1 a.2.2.1.2 1 9),(2, .row a.2.2.2.1.1 a.2.2.2.1.2 5 144),(3, .row a.2.2.2.2.1.1 a.2.2.2.2.1.2 6 147),(4, .row a.2.2.2.2.2.1.1 (cn a.2.2.2.2.2.1.1 a.2.2.2.2.2.1.2) 12 118),(5, .map 0 a.2.2.2.2.2.2.1)]
def o32(cn:Nat ->RD ->RD)(bc:RBay ->List D)(ok:(Unit×RBay×Unit)×A5 ->Bool)(er:(Unit×RBay×Unit)×A5 ->Int):Orc:=Orc.cons 74 (ansB d55 ok (fun a=>er a==0) (fun _=>vI 0) (h33 cn bc) (fun a=>vI (er a)) (h33e cn)) Orc.nil
def ann32:Ann:=A1 [(2,⟨[1,8,9,10],[(1,4,12,118)]⟩)]
def Zu(cn:Nat ->RD ->RD)(bc:RBay ->List D)(ok:(Unit×RBay×Unit)×A5 ->Bool)(er:(Unit×RBay×Unit)×A5 ->Int)(l:List SBay)(s0:BA)(ka:Nat)(ga:RD)(kb:Nat)(gb:RD)(kc:Nat)(gc:RD)(mpa:MV)(g m:Nat)(l4:MV)(n5:Nat)(f5:RD)(i10:Int):=LK prog (o32 cn bc ok er) ann32 5 g f73 2 m ⟨frm [(1, .c (.fn 74 [Rf.ptr 0 0] [])),(8, .c (.d (.sl 12 (List.length l) fun i=>bayC (List.getD l i bay0)))),(9,iA (↑(List.length l):Int)),(10,iA i10)] 0 f73.ntmps,[(0, .cells [.d (.v (.string s0)), .row 1 1 ka, .row 2 5 kb, .row 3 6 kc, .row 5 12 n5, .mp 4] 207),(1, .row ka ga 1 9),(2, .row kb gb 5 144),(3, .row kc gc 6 147),(4, .map 0 l4),(5, .row n5 f5 12 118)],6⟩
theorem b32:f73.body=some (Ac f73):=by kernel_rfl
theorem ev32(cn:Nat ->RD ->RD)(bc:RBay ->List D)(ok:(Unit×RBay×Unit)×A5 ->Bool)(er:(Unit×RBay×Unit)×A5 ->Int)(l:List SBay)(s0:BA)(ka:Nat)(ga:RD)(kb:Nat)(gb:RD)(kc:Nat)(gc:RD)(mpa:MV)(g:Nat):Ai prog (o32 cn bc ok er) ann32 g f73 (Ac f73) [.c (.d (Cg l)),fnOf 74] [(0, .cells [.d (dS s0), .row 1 1 ka, .row 2 5 kb, .row 3 6 kc,nilC, .mp 4] 207),(1, .row ka ga 1 9),(2, .row kb gb 5 144),(3, .row kc gc 6 147),(4, .map 0 mpa)]=
 Zu cn bc ok er l s0 ka ga kb gb kc gc mpa g g mpa 0 (fun x=>[]) 0:=by kernel_rfl
theorem AjB(cn:Nat ->RD ->RD)(bc:RBay ->List D)(ok:(Unit×RBay×Unit)×A5 ->Bool)(er:(Unit×RBay×Unit)×A5 ->Int)(l:List SBay)(s0:BA)(ka:Nat)(ga:RD)(kb:Nat)(gb:RD)(kc:Nat)(gc:RD)(mpa:MV)(g m:Nat)(l4:MV)(n5:Nat)(f5:RD)(i10:Int):Zu cn bc ok er l s0 ka ga kb gb kc gc mpa g (m+1) l4 n5 f5 i10=
 (bif decide (i10<(↑l.length:Int))then(bif decide (0<=i10)&&decide (i10<(↑l.length:Int))then(bif ok (((),(SBay.name (l.getD i10.toNat bay0),SBay.kind (l.getD
 i10.toNat bay0),SBay.off (l.getD i10.toNat bay0),SBay.fin (l.getD i10.toNat bay0),SBay.zr (l.getD i10.toNat bay0),SBay.zx (l.getD i10.toNat bay0),B7 (SBay.qe (l.getD
 i10.toNat bay0)),SBay.qf (l.getD i10.toNat bay0),SBay.ct (l.getD i10.toNat bay0),SBay.vt (l.getD i10.toNat bay0),SBay.sat (l.getD i10.toNat bay0),SBay.qg (l.getD
 i10.toNat bay0),()),()),(s0,ka,kb,kc,n5,(),()),(ka,ga),(kb,gb),(kc,gc),(n5,f5),l4,())then(bif er (((),(SBay.name (l.getD i10.toNat bay0),SBay.kind (l.getD
 i10.toNat bay0),SBay.off (l.getD i10.toNat bay0),SBay.fin (l.getD i10.toNat bay0),SBay.zr (l.getD i10.toNat bay0),SBay.zx (l.getD i10.toNat bay0),B7 (SBay.qe (l.getD
 i10.toNat bay0)),SBay.qf (l.getD i10.toNat bay0),SBay.ct (l.getD i10.toNat bay0),SBay.vt (l.getD i10.toNat bay0),SBay.sat (l.getD i10.toNat bay0),SBay.qg (l.getD
 i10.toNat bay0),()),()),(s0,ka,kb,kc,n5,(),()),(ka,ga),(kb,gb),(kc,gc),(n5,f5),l4,())==0 then Zu cn bc ok er l s0 ka ga kb gb kc gc mpa g m ((Value.string
 (SBay.name (l.getD i10.toNat bay0)),Value.bool true)::Prod.fst (Prod.snd (Prod.snd (Prod.snd (Prod.snd (Prod.snd (Prod.snd (((),(SBay.name (l.getD i10.toNat bay0),SBay.kind
 (l.getD i10.toNat bay0),SBay.off (l.getD i10.toNat bay0),SBay.fin (l.getD i10.toNat bay0),SBay.zr (l.getD i10.toNat bay0),SBay.zx (l.getD i10.toNat bay0),B7 (SBay.qe
 (l.getD i10.toNat bay0)),SBay.qf (l.getD i10.toNat bay0),SBay.ct (l.getD i10.toNat bay0),SBay.vt (l.getD i10.toNat bay0),SBay.sat (l.getD i10.toNat bay0),SBay.qg
 (l.getD i10.toNat bay0),()),()),(s0,ka,kb,kc,n5,(),()),(ka,ga),(kb,gb),(kc,gc),(n5,f5),l4,())))))))) (n5+(1:Nat)) (appF n5 (cn n5 f5) (Ae (bc (SBay.name
 (l.getD i10.toNat bay0),SBay.kind (l.getD i10.toNat bay0),SBay.off (l.getD i10.toNat bay0),SBay.fin (l.getD i10.toNat bay0),SBay.zr (l.getD i10.toNat bay0),SBay.zx (l.getD
 i10.toNat bay0),B7 (SBay.qe (l.getD i10.toNat bay0)),SBay.qf (l.getD i10.toNat bay0),SBay.ct (l.getD i10.toNat bay0),SBay.vt (l.getD i10.toNat bay0),SBay.sat (l.getD
 i10.toNat bay0),SBay.qg (l.getD i10.toNat bay0),())) 12)) (wrap .i64 (i10+1))else(bif er (((),(SBay.name (l.getD i10.toNat bay0),SBay.kind (l.getD i10.toNat
 bay0),SBay.off (l.getD i10.toNat bay0),SBay.fin (l.getD i10.toNat bay0),SBay.zr (l.getD i10.toNat bay0),SBay.zx (l.getD i10.toNat bay0),B7 (SBay.qe (l.getD i10.toNat
 bay0)),SBay.qf (l.getD i10.toNat bay0),SBay.ct (l.getD i10.toNat bay0),SBay.vt (l.getD i10.toNat bay0),SBay.sat (l.getD i10.toNat bay0),SBay.qg (l.getD i10.toNat
 bay0),()),()),(s0,ka,kb,kc,n5,(),()),(ka,ga),(kb,gb),(kc,gc),(n5,f5),l4,()) !=0 then some (T.leaf (iA (er (((),(SBay.name (l.getD
 i10.toNat bay0),SBay.kind (l.getD i10.toNat bay0),SBay.off (l.getD i10.toNat bay0),SBay.fin (l.getD i10.toNat bay0),SBay.zr (l.getD i10.toNat bay0),SBay.zx (l.getD i10.toNat
 bay0),B7 (SBay.qe (l.getD i10.toNat bay0)),SBay.qf (l.getD i10.toNat bay0),SBay.ct (l.getD i10.toNat bay0),SBay.vt (l.getD i10.toNat bay0),SBay.sat (l.getD i10.toNat
 bay0),SBay.qg (l.getD i10.toNat bay0),()),()),(s0,ka,kb,kc,n5,(),()),(ka,ga),(kb,gb),(kc,gc),(n5,f5),l4,())),[(0, .cells [.d (.v (.string s0)),
 .row (1) (1) ka, .row (2) (5) kb, .row (3) (6) kc, .row (5) (12) n5, .mp (4)] (207)),(1, .row ka ga (1) ((9:Nat))),(2, .row kb gb (5) (144)),(3, .row kc gc (6)
 (147)),(4, .map (0) (Prod.fst (Prod.snd (Prod.snd (Prod.snd (Prod.snd (Prod.snd (Prod.snd (((),(SBay.name (l.getD i10.toNat bay0),SBay.kind (l.getD i10.toNat bay0),SBay.off
 (l.getD i10.toNat bay0),SBay.fin (l.getD i10.toNat bay0),SBay.zr (l.getD i10.toNat bay0),SBay.zx (l.getD i10.toNat bay0),B7 (SBay.qe (l.getD i10.toNat bay0)),SBay.qf
 (l.getD i10.toNat bay0),SBay.ct (l.getD i10.toNat bay0),SBay.vt (l.getD i10.toNat bay0),SBay.sat (l.getD i10.toNat bay0),SBay.qg (l.getD i10.toNat bay0),()),()),(s0,ka,
 kb,kc,n5,(),()),(ka,ga),(kb,gb),(kc,gc),(n5,f5),l4,()))))))))),(5, .row n5 (cn n5 f5) (12) (118))]))else Zu cn bc ok er l s0 ka ga kb gb kc gc mpa g m (Prod.fst
 (Prod.snd (Prod.snd (Prod.snd (Prod.snd (Prod.snd (Prod.snd (((),(SBay.name (l.getD i10.toNat bay0),SBay.kind (l.getD i10.toNat bay0),SBay.off (l.getD i10.toNat bay0),SBay.fin
 (l.getD i10.toNat bay0),SBay.zr (l.getD i10.toNat bay0),SBay.zx (l.getD i10.toNat bay0),B7 (SBay.qe (l.getD i10.toNat bay0)),SBay.qf (l.getD i10.toNat bay0),SBay.ct
 (l.getD i10.toNat bay0),SBay.vt (l.getD i10.toNat bay0),SBay.sat (l.getD i10.toNat bay0),SBay.qg (l.getD i10.toNat bay0),()),()),(s0,ka,kb,kc,n5,(),()),(ka,ga),
 (kb,gb),(kc,gc),(n5,f5),l4,())))))))) n5 (cn n5 f5) (wrap .i64 (i10+1))))else none)else none)else some (T.leaf (iA 0,[(0, .cells
 [.d (.v (.string s0)), .row (1) (1) ka, .row (2) (5) kb, .row (3) (6) kc, .row (5) (12) n5, .mp (4)] (207)),(1, .row ka ga (1) ((9:Nat))),(2, .row kb gb (5) (144)),
 (3, .row kc gc (6) (147)),(4, .map (0) l4),(5, .row n5 f5 (12) (118))]))):=by kernel_rfl
theorem AiX{k b:Nat}(h:k+1<=1000)(hb:b<=1000):(decide ((k+1)*b<=140737488355328)&&decide (k+1<=9223372036854775807))=true:=by
 have h1:(k+1)*b<=1000*1000:=Nat.mul_le_mul h hb;rw[zk,zk];rfl
theorem sNm:OrcS prog (oNm Ag):= .cons (.p D9 c15) .nil
theorem sNam:OrcS prog (oNam Ag):= .cons (.inl sNm func127 (by kernel_rfl)) .nil
theorem s26:OrcS prog (o26 Ag):= .cons (.inl sNam func68 (by kernel_rfl)) .nil
theorem sWi:OrcS prog oWi:= .cons (.inl .nil func129 (by kernel_rfl)) .nil
theorem sIm:OrcS prog (oIm Ag):= .cons (.inl sWi func128 (by kernel_rfl)) (.cons (.inl .nil func129 (by kernel_rfl)) sNam)
theorem s28:OrcS prog (o28 Ag):= .cons (.inl sIm func70 (by kernel_rfl)) .nil
theorem s30:OrcS prog (o30 Ag):= .cons (.inl sIm func72 (by kernel_rfl)) .nil
theorem c26(l:List BA)(s0:BA)(N:List BA)(hl:l.length<=900):
  CX prog 67 [.c (.d (Ab l)),fnOf 68] (H1 s0 (Ap N)) (vI (D3 id (fun N _ x=>Bq N x) N [] l).1)
   (H1' s0 (Ap (N++(D3 id (fun N _ x=>Bq N x) N [] l).2.map id)) (D3 id (fun N _ x=>Bq N x) N [] l).2.length (fun i=>busC ((D3 id (fun N _ x=>Bq N x) N [] l).2.getD i e0))):=by
 obtain⟨g,hg⟩: ∃g,l.length<g:=⟨l.length+1,by omega⟩;obtain⟨f',hr,he⟩:=Gp (nm:=id) (F:=fun N _ x=>Bq N x) (N:=N) (c:=busC) (d0:=e0) (l:=l) (L:=fun m mp n f i=>Ajp Ag l s0 (Ap N) g m mp n f i) (HX:=fun mp n f=>H1' s0 mp n f)
  (fun m k before f hk hb hr=>by
    refine⟨_,f,hr.app' rfl,hr, ?_⟩;rw[AjG];simp only[lt1 hk,ge0,tn,Bool.and_self,za,nx hk,C2,AiX (k:=k) (b:=16) (by omega) (by omega)];unfold Bq;simp only[id];cases Ag (l.getD k e0)with
    |false=>rfl|true=>cases inB (N++before.map id) (l.getD k e0)<;>rfl)
  (fun m mp n f=>by
    rw[AjG,lt0 (zp _)];rfl) g 0 [] (fun _=>[]) (by omega) (by omega) rfl (.nil _)
 have hev:=ev26 Ag l s0 (Ap N) g;simp only[List.map_nil,List.append_nil,zq]at he hr;refine(Am s26.ok func67 b26 rfl (hev.trans he)).le (.refl _) ?_;exact .cons (.refl _) (.cons (.refl _) (.cons hr.ble .nil))
theorem c28(l:List SLine)(s0:BA)(ka:Nat)(ga:RD)(N:List BA)(hl:l.length<=900):
  CX prog 69 [.c (.d (Aq l)),fnOf 70] (H2 s0 ka ga (Ap N)) (vI (Hk N l).1)
   (H2' s0 ka ga (Ap (N++(Hk N l).2.map SLine.name)) (Hk N l).2.length (fun i=>Az ((Hk N l).2.getD i Ah))):=by
 obtain⟨g,hg⟩: ∃g,l.length<g:=⟨l.length+1,by omega⟩;obtain⟨f',hr,he⟩:=Gp (nm:=SLine.name) (F:=fun N _ x=>Jg N x) (N:=N) (c:=Az) (d0:=Ah) (l:=l) (L:=fun m mp n f i=>Ajo Ag l s0 ka ga (Ap N) g m mp n f i) (HX:=fun mp n f=>H2' s0 ka ga mp n f)
  (fun m k before f hk hb hr=>by
    refine⟨_,f,hr.app' rfl,hr, ?_⟩;rw[AjF];simp only[lt1 hk,ge0,tn,Bool.and_self,za,nx hk,C2,AiX (k:=k) (b:=48) (by omega) (by omega),fNot,fAnd];unfold Jg Bq El Aa;cases Ag (l.getD k Ah).name with
    |false=>rfl|true=>
     cases inB (N++before.map SLine.name) (l.getD k Ah).name with
     |true=>rfl|false=>
      generalize decide ((l.getD k Ah).r1>=0)=b1;generalize decide ((l.getD k Ah).r1<=1000)=b2;generalize decide ((l.getD k Ah).x1>=1)=b3;generalize decide ((l.getD k Ah).x1<=1000)=b4;generalize decide ((l.getD k Ah).r0>=0)=b5;generalize decide ((l.getD k Ah).r0<=1000)=b6;generalize decide ((l.getD k Ah).x0>=1)=b7;generalize decide ((l.getD k Ah).x0<=1000)=b8;cases b1<;>cases b2<;>cases b3<;>cases b4<;>first|rfl|(cases b5<;>cases b6<;>cases b7<;>cases b8<;>rfl))
  (fun m mp n f=>by
    rw[AjF,lt0 (zp _)];rfl) g 0 [] (fun _=>[]) (by omega) (by omega) rfl (.nil _)
 have hev:=ev28 Ag l s0 ka ga (Ap N) g;simp only[List.map_nil,List.append_nil,zq]at he hr;refine(Am s28.ok func69 b28 rfl (hev.trans he)).le (.refl _) ?_;exact .cons (.refl _) (.cons (.refl _) (.cons (.refl _) (.cons hr.ble .nil)))
theorem c30(l:List SSrc)(s0:BA)(ka:Nat)(ga:RD)(kb:Nat)(gb:RD)(N:List BA)(hl:l.length<=900):
  CX prog 71 [.c (.d (Cl l)),fnOf 72] (H3 s0 ka ga kb gb (Ap N)) (vI (tSrc N l).1)
   (H3' s0 ka ga kb gb (Ap (N++(tSrc N l).2.map SSrc.name)) (tSrc N l).2.length (fun i=>Ay ((tSrc N l).2.getD i src0))):=by
 obtain⟨g,hg⟩: ∃g,l.length<g:=⟨l.length+1,by omega⟩;obtain⟨f',hr,he⟩:=Gp (nm:=SSrc.name) (F:=fun N _ x=>Pd N x) (N:=N) (c:=Ay) (d0:=src0) (l:=l) (L:=fun m mp n f i=>Ajn Ag l s0 ka ga kb gb (Ap N) g m mp n f i) (HX:=fun mp n f=>H3' s0 ka ga kb gb mp n f)
  (fun m k before f hk hb hr=>by
    refine⟨_,f,hr.app' rfl,hr, ?_⟩;rw[AjC];simp only[lt1 hk,ge0,tn,Bool.and_self,za,nx hk,C2,AiX (k:=k) (b:=56) (by omega) (by omega),fNot,fAnd];unfold Pd Bq El Aa;cases Ag (l.getD k src0).name with
    |false=>rfl|true=>
     cases inB (N++before.map SSrc.name) (l.getD k src0).name with
     |true=>rfl|false=>
      generalize decide ((l.getD k src0).emf>=1)=a1;generalize decide ((l.getD k src0).emf<=1000000)=a2;generalize decide ((l.getD k src0).r1>=0)=b1;generalize decide ((l.getD k src0).r1<=1000)=b2;generalize decide ((l.getD k src0).x1>=1)=b3;generalize decide ((l.getD k src0).x1<=1000)=b4;generalize decide ((l.getD k src0).r0>=0)=b5;generalize decide ((l.getD k src0).r0<=1000)=b6;generalize decide ((l.getD k src0).x0>=1)=b7;generalize decide ((l.getD k src0).x0<=1000)=b8;cases a1<;>cases a2<;>first|rfl|(cases b1<;>cases b2<;>cases b3<;>cases b4<;>first|rfl|(cases b5<;>cases b6<;>cases b7<;>cases b8<;>rfl)))
  (fun m mp n f=>by
    rw[AjC,lt0 (zp _)];rfl) g 0 [] (fun _=>[]) (by omega) (by omega) rfl (.nil _)
 have hev:=ev30 Ag l s0 ka ga kb gb (Ap N) g;simp only[List.map_nil,List.append_nil,zq]at he hr;refine(Am s30.ok func71 b30 rfl (hev.trans he)).le (.refl _) ?_;exact .cons (.refl _) (.cons (.refl _) (.cons (.refl _) (.cons (.refl _) (.cons hr.ble .nil))))
abbrev lI(e:Int)(H:Hp):Option (T (AV×Hp)):=some (.leaf (vI e,H))
theorem w1{k:Nat}(h:k<=9223372036854775807):wrap IntKind.i64 ((k:Int) -1)=(k:Int) -1:=wrap_id
theorem AeU(n:Nat):decide ((n:Int)<1)=decide (n<1):=by rw[decide_eq_decide];omega
theorem AeV(n:Nat):decide ((n:Int)>2)=decide (2<n):=by rw[decide_eq_decide];omega
theorem AeT(n:Nat):((n:Int) !=2)=(n !=2):=by
 rw[Bool.eq_iff_iff];simp only[bne_iff_ne];omega
theorem gt0(k:Nat):decide ((k:Int)>0)=decide (0<k):=by rw[decide_eq_decide];omega
section
variable (x:SBay)(s0:BA)(ka:Nat)(ga:RD)(kb:Nat)(gb:RD)(kc:Nat)(gc:RD)(kd:Nat)(gd:RD)(mpa:MV)
def AbV(l:List SLink):Nat ->Option Int
 |0=>none|k+1=>some (l.getD k A4).bus
theorem lp55(hka:ka<=9223372036854775807)(hl:x.qe.length<=9223372036854775807)(g:Nat): ∀(m k:Nat),k<=x.qe.length ->x.qe.length -k<m ->
  Vn x s0 ka ga kb gb kc gc kd gd mpa g m k=lI (Fl ka x.kind (AbV x.qe k) (x.qe.drop k)) (H5 s0 ka ga kb gb kc gc kd gd mpa)
 |0,k,_,h=>by omega|m+1,k,hk,h=>by
  rw[AnU];by_cases hlt:k<x.qe.length
  ·have ih:=lp55 hka hl g m (k+1) (by omega) (by omega);rw[Av (d:=A4) hlt];simp only[lt1 hlt,ge0,tn,Bool.and_self,za,nx hlt,ih,w1 hka,Fl,Aa];cases k with
   |zero=>
    simp only[AbV,List.getD_cons_zero];generalize decide ((x.qe.getD 0 A4).bus>=0)=b1;generalize decide ((x.qe.getD 0 A4).bus<=(ka:Int) -1)=b2;generalize ((x.qe.getD 0 A4).pos !=1)=b3;generalize ((x.qe.getD 0 A4).pos !=0)=b4;generalize (x.kind==3)=b5;cases b1<;>cases b2<;>cases b3<;>cases b4<;>cases b5<;>rfl
   |succ k=>
    have e1:wrap IntKind.i64 (((k+1:Nat):Int) -1)=(k:Int):=by rw[wrap_id];omega
    have e2:decide (((k+1:Nat):Int)>0)=true:=by rw[gt0];simp
    have e3:decide ((k:Int)<(x.qe.length:Int))=true:=lt1 (by omega);have e4:(some (x.qe.getD k A4).bus==some (x.qe.getD (k+1) A4).bus)=((x.qe.getD k A4).bus==(x.qe.getD (k+1) A4).bus):=rfl;simp only[AbV,e1,e2,e3,e4,ge0,tn,Bool.and_self,za];generalize decide ((x.qe.getD (k+1) A4).bus>=0)=b1;generalize decide ((x.qe.getD (k+1) A4).bus<=(ka:Int) -1)=b2;generalize ((x.qe.getD (k+1) A4).pos !=1)=b3;generalize ((x.qe.getD (k+1) A4).pos !=0)=b4;generalize (x.kind==3)=b5;generalize ((x.qe.getD k A4).bus==(x.qe.getD (k+1) A4).bus)=b6;cases b1<;>cases b2<;>cases b3<;>cases b4<;>cases b5<;>cases b6<;>rfl
  ·rw[lt0 hlt,zl];rfl
theorem c55(hka:ka<=9223372036854775807)(hl:x.qe.length<=9223372036854775807):CX prog 131 [.c (.ptr 0 0),aBay x] (H5 s0 ka ga kb gb kc gc kd gd mpa) (vI (Bx ka x)) (H5 s0 ka ga kb gb kc gc kd gd mpa):=by
 obtain⟨g,hg⟩: ∃g,x.qe.length<g:=⟨x.qe.length+1,by omega⟩;refine Am (sWi.ok) func131 b55 rfl ((ev55 x s0 ka ga kb gb kc gc kd gd mpa g).trans ?_);have:=lp55 x s0 ka ga kb gb kc gc kd gd mpa hka hl g g 0 (by omega) (by omega);have e0:Vn x s0 ka ga kb gb kc gc kd gd mpa g g 0=lI (Fl ka x.kind none x.qe) (H5 s0 ka ga kb gb kc gc kd gd mpa):=this;rw[e0,AeU,AeV,AeT];unfold Bx;generalize decide (x.qe.length<1)=b1;generalize decide (2<x.qe.length)=b2;generalize (x.kind==3)=b3;generalize (x.qe.length !=2)=b4;cases b1<;>cases b2<;>cases b3<;>cases b4<;>rfl
end
theorem s54:OrcS prog o54:= .cons (.inl sWi func128 (by kernel_rfl)) sWi
theorem c54(x:SBay):CX prog 130 [aBay x] [] (vB (Dh x)) []:=by
 refine Am s54.ok func130 b54 rfl ((ev54 x 1).trans ?_);simp only[fNot,bAnd,neN,Bool.and_true];unfold Dh El Aa;cases(x.kind==3)with
 |true=>
  simp only[za];cases(x.kind==1)<;>simp only[za,zb,Bool.and_assoc,bAnd]
 |false=>
  simp only[zb];cases(x.kind==1)<;>simp only[za,zb,Bool.and_assoc,bAnd]
def eqs(a:A5):Bool:=Nat.beq a.1.2.1 a.2.1.1&&(Nat.beq a.1.2.2.1 a.2.2.1.1&&(Nat.beq a.1.2.2.2.1 a.2.2.2.1.1&&(Nat.beq a.1.2.2.2.2.1 a.2.2.2.2.1.1&&(Nat.ble a.1.2.1 900&&(Nat.ble a.1.2.2.1 900&&(Nat.ble a.1.2.2.2.1 900&&Nat.ble a.1.2.2.2.2.1 900))))))
theorem Apa(a:(Unit×RBay×Unit)×A5)(h:eqs a.2=true):(d55.enc a).2=H5 a.2.1.1 a.2.2.1.1 a.2.2.1.2 a.2.2.2.1.1 a.2.2.2.1.2 a.2.2.2.2.1.1 a.2.2.2.2.1.2 a.2.2.2.2.2.1.1 a.2.2.2.2.2.1.2 a.2.2.2.2.2.2.1/\(a.2.2.1.1<=900/\a.2.2.2.1.1<=900/\a.2.2.2.2.1.1<=900/\a.2.2.2.2.2.1.1<=900):=by
 unfold eqs at h;simp only[zd]at h;have⟨h1,h2,h3,h4,h5,h6,h7,h8⟩:=h;have e1:=zg h1;have e2:=zg h2;have e3:=zg h3;have e4:=zg h4;have g5:=Nat.le_of_ble_eq_true h5;have g6:=Nat.le_of_ble_eq_true h6;have g7:=Nat.le_of_ble_eq_true h7;have g8:=Nat.le_of_ble_eq_true h8;refine⟨?_,by omega,by omega,by omega,by omega⟩;show [(0,Blk.cells [.d (dS a.2.1.1), .row 1 1 a.2.1.2.1, .row 2 5 a.2.1.2.2.1, .row 3 6 a.2.1.2.2.2.1, .row 4 12 a.2.1.2.2.2.2.1, .mp 5] 207),(1, .row a.2.2.1.1 a.2.2.1.2 1 9),(2, .row a.2.2.2.1.1 a.2.2.2.1.2 5 144),(3, .row a.2.2.2.2.1.1 a.2.2.2.2.1.2 6 147),(4, .row a.2.2.2.2.2.1.1 a.2.2.2.2.2.1.2 12 118),(5, .map 0 a.2.2.2.2.2.2.1)]=_;rw[e1,e2,e3,e4]
def ok33(a:(Unit×RBay×Unit)×A5):Bool:=okRB a.1.2.1&&eqs a.2
def lk33(a:(Unit×RBay×Unit)×A5):Int:=Bx a.2.2.1.1 (rbay a.1.2.1)
theorem T9{x:RBay}(h:okRB x=true):(rbay x).qe.length<=9223372036854775807:=by
 unfold okRB okLk at h;simp only[zd,zi]at h;exact h.2
theorem s33:OrcS prog (o33 Ag okRB (fun a=>Dh (rbay a)) ok33 lk33):=by
 refine .cons (.d fun a ha=> ?_) (.cons (.d fun a ha=> ?_) sIm)
 ·unfold ok33 at ha;simp only[zd]at ha;obtain⟨e,h1,_⟩:=Apa a ha.2;rw[e];exact(c55 (rbay a.1.2.1) _ _ _ _ _ _ _ _ _ _ (by omega) (T9 ha.1)).ge (.cons (.refl _) (.cons (Xc _ ha.1) .nil)) (.refl _)
 ·exact(c54 (rbay a.1.1)).ge (.cons (Xc _ ha) .nil) (.refl _)
section
variable (x:SBay)(s0:BA)(ka:Nat)(ga:RD)(kb:Nat)(gb:RD)(kc:Nat)(gc:RD)(bs:List SBay)(mpa:MV)
abbrev cnB(bs:List SBay):RD:=fun i=>bayC (bs.getD i bay0)
def H33:Hp:=[(0, .cells [.d (dS s0), .row 1 1 ka, .row 2 5 kb, .row 3 6 kc, .row 6 12 (bs.length+1), .mp 5] 207),(1, .row ka ga 1 9),(2, .row kb gb 5 144),(3, .row kc gc 6 147),(4, .dead),(5, .map 0 ((.string x.name, .bool true)::mpa)),(6, .row (bs.length+1) (appF bs.length (cnB bs) (Ae (bayC x) 12)) 12 118)]
def Ajg:Option (T (AV×Hp)):=bif Bx ka x !=0 then lI (Bx ka x) (H5 s0 ka ga kb gb kc gc bs.length (cnB bs) mpa)else lI 0 (H33 x s0 ka ga kb gb kc gc bs mpa)
theorem lp33(hka:ka<=900)(hkb:kb<=900)(hkc:kc<=900)(hbs:bs.length<=900)(hl:x.qe.length<=9223372036854775807)(g:Nat): ∀(m k:Nat),k<=bs.length ->bs.length -k<m ->
  Kr Ag okRB (fun a=>Dh (rbay a)) ok33 lk33 x s0 ka ga kb gb kc gc bs mpa g m k=bif(bs.drop k).any (Fp x)then lI 12 (H5 s0 ka ga kb gb kc gc bs.length (cnB bs) mpa)else Ajg x s0 ka ga kb gb kc gc bs mpa
 |0,k,_,h=>by omega|m+1,k,hk,h=>by
  rw[AlD];by_cases hlt:k<bs.length
  ·have ih:=lp33 hka hkb hkc hbs hl g m (k+1) (by omega) (by omega);rw[Av (d:=bay0) hlt];simp only[lt1 hlt,ge0,tn,Bool.and_self,za,nx hlt,ih,List.any_cons,Fp];generalize (x.kind !=3)=b1;generalize (x.kind==(bs.getD k bay0).kind)=b2;generalize (x.off==(bs.getD k bay0).off)=b3;generalize (x.fin==(bs.getD k bay0).fin)=b4;cases b1<;>cases b2<;>cases b3<;>cases b4<;>rfl
  ·rw[lt0 hlt,zl];have hok:ok33 (((),bayR x,()),(s0,ka,kb,kc,bs.length,(),()),(ka,ga),(kb,gb),(kc,gc),(bs.length,cnB bs),mpa,())=true:=by
    unfold ok33;have e1:okRB (bayR x)=true:=Gi hl;have e2:eqs ((s0,ka,kb,kc,bs.length,(),()),(ka,ga),(kb,gb),(kc,gc),(bs.length,cnB bs),mpa,())=true:=by
     unfold eqs;simp only[Nat.beq_refl,Bool.true_and,bleD,zk hka,zk hkb,zk hkc,zk hbs]
    simp only[e1,e2,Bool.and_self]
   have hlk:lk33 (((),bayR x,()),(s0,ka,kb,kc,bs.length,(),()),(ka,ga),(kb,gb),(kc,gc),(bs.length,cnB bs),mpa,())=Bx ka x:=by
    unfold lk33;simp only[Jb]
   simp only[zb,List.any_nil];show(bif ok33 (((),bayR x,()),(s0,ka,kb,kc,bs.length,(),()),(ka,ga),(kb,gb),(kc,gc),(bs.length,cnB bs),mpa,())then(bif lk33 (((),bayR x,()),(s0,ka,kb,kc,bs.length,(),()),(ka,ga),(kb,gb),(kc,gc),(bs.length,cnB bs),mpa,()) !=0 then
    lI (lk33 (((),bayR x,()),(s0,ka,kb,kc,bs.length,(),()),(ka,ga),(kb,gb),(kc,gc),(bs.length,cnB bs),mpa,())) (H5 s0 ka ga kb gb kc gc bs.length (cnB bs) mpa)else
    (bif decide ((bs.length+1)*120<=140737488355328)&&decide (bs.length+1<=9223372036854775807)then lI 0 (H33 x s0 ka ga kb gb kc gc bs mpa)else none))else none)=_
   rw[hok,hlk,AiX (k:=bs.length) (b:=120) (by omega) (by omega)];unfold Ajg;cases(Bx ka x !=0)<;>rfl
def r33:Option (T (AV×Hp)):=bif Ec ka kb kc (B8 (Bb mpa (.string x.name))) bs x !=0 then lI (Ec ka kb kc (B8 (Bb mpa (.string x.name))) bs x) (H5 s0 ka ga kb gb kc gc bs.length (cnB bs) mpa)else lI 0 (H33 x s0 ka ga kb gb kc gc bs mpa)
theorem e33(hka:ka<=900)(hkb:kb<=900)(hkc:kc<=900)(hbs:bs.length<=900)(hl:x.qe.length<=9223372036854775807)(g:Nat)(hg:bs.length<g):
  Ai prog (o33 Ag okRB (fun a=>Dh (rbay a)) ok33 lk33) AnA g f74 (Ac f74) [.c (.ptr 0 0),aBay x] (H5 s0 ka ga kb gb kc gc bs.length (cnB bs) mpa)=r33 x s0 ka ga kb gb kc gc bs mpa:=by
 refine(ev33 Ag okRB (fun a=>Dh (rbay a)) ok33 lk33 x s0 ka ga kb gb kc gc bs mpa g).trans ?_;have hL:=lp33 x s0 ka ga kb gb kc gc bs mpa hka hkb hkc hbs hl g g 0 (by omega) (by omega);have hL0:Kr Ag okRB (fun a=>Dh (rbay a)) ok33 lk33 x s0 ka ga kb gb kc gc bs mpa g g 0=bif bs.any (Fp x)then lI 12 (H5 s0 ka ga kb gb kc gc bs.length (cnB bs) mpa)else Ajg x s0 ka ga kb gb kc gc bs mpa:=hL;have e1:okRB (bayR x)=true:=Gi hl;have e2:Dh (rbay (bayR x))=Dh x:=by rw[Jb]
 have e1':okRB (x.name,x.kind,x.off,x.fin,x.zr,x.zx,B7 x.qe,x.qf,x.ct,x.vt,x.sat,x.qg,())=true:=e1;have e2':Dh (rbay (x.name,x.kind,x.off,x.fin,x.zr,x.zx,B7 x.qe,x.qf,x.ct,x.vt,x.sat,x.qg,()))=Dh x:=e2;have w0:wrap IntKind.i64 ((1:Int) -1)=(1:Int) -1:=by decide
 rw[hL0];simp only[e1',e2',w1 (show kb<=9223372036854775807 by omega),w1 (show kc<=9223372036854775807 by omega),w0,za];unfold r33 Ec Sn Aa Ajg;cases Ag x.name with
 |false=>rfl|true=>
  cases B8 (Bb mpa (Value.string x.name))with
  |true=>rfl|false=>
   cases(x.kind==1)with
   |true=>
    simp only[za,zb,Bool.not_true];generalize decide (x.off>=0)=b1;generalize decide (x.off<=(kb:Int) -1)=b2;cases b1<;>cases b2<;>first|rfl|(cases Dh x<;>first|rfl|(cases bs.any (Fp x)<;>rfl))
   |false=>
    cases(x.kind==2)with
    |true=>
     simp only[za,zb,Bool.not_true];generalize decide (x.off>=0)=b1;generalize decide (x.off<=(kc:Int) -1)=b2;cases b1<;>cases b2<;>first|rfl|(cases Dh x<;>first|rfl|(cases bs.any (Fp x)<;>rfl))
    |false=>
     cases(x.kind==3)with
     |true=>
      simp only[za,zb,Bool.not_true];generalize decide (x.off>=0)=b1;generalize decide (x.off<=(1:Int) -1)=b2;cases b1<;>cases b2<;>first|rfl|(cases Dh x<;>first|rfl|(cases bs.any (Fp x)<;>rfl))
     |false=>rfl
end
def ok32(a:(Unit×RBay×Unit)×A5):Bool:=(okRB a.1.2.1&&eqs a.2)&&okE Cg (.sl 12 a.2.2.2.2.2.1.1 a.2.2.2.2.2.1.2)
def er32(a:(Unit×RBay×Unit)×A5):Int:=Ec a.2.2.1.1 a.2.2.2.1.1 a.2.2.2.2.1.1 (B8 (Bb a.2.2.2.2.2.2.1 (.string (rbay a.1.2.1).name))) (theE Cg (.sl 12 a.2.2.2.2.2.1.1 a.2.2.2.2.2.1.2)) (rbay a.1.2.1)
def cn32(n:Nat)(f:RD):RD:=cnB (theE Cg (.sl 12 n f))
def bc32(x:RBay):List D:=bayC (rbay x)
theorem s32:OrcS prog (o32 cn32 bc32 ok32 er32):=by
 have key: ∀a,ok32 a=true -> ∀e K,r33 (rbay a.1.2.1) a.2.1.1 a.2.2.1.1 a.2.2.1.2 a.2.2.2.1.1 a.2.2.2.1.2 a.2.2.2.2.1.1 a.2.2.2.2.1.2 (theE Cg (.sl 12 a.2.2.2.2.2.1.1 a.2.2.2.2.2.1.2)) a.2.2.2.2.2.2.1=lI e K ->CX prog 74 (d55.enc a).1 (d55.enc a).2 (vI e) K:=by
  intro a ha e K hr;unfold ok32 at ha;simp only[zd]at ha;have⟨⟨h1,h2⟩,h3⟩:=ha;obtain⟨he,g1,g2,g3,g4⟩:=Apa a h2;have hn:=(RL.of_ok h3).1;have hb:=Agl (t:=118) h3;generalize hbs:theE Cg (.sl 12 a.2.2.2.2.2.1.1 a.2.2.2.2.2.1.2)=bs at hr hn hb;have hc:=e33 (rbay a.1.2.1) a.2.1.1 a.2.2.1.1 a.2.2.1.2 a.2.2.2.1.1 a.2.2.2.1.2 a.2.2.2.2.1.1 a.2.2.2.2.1.2 bs a.2.2.2.2.2.2.1 g1 g2 g3 (by omega) (T9 h1) (bs.length+1) (by omega);rw[hr]at hc;refine(Am s33.ok func74 b33 rfl hc).ge (.cons (.refl _) (.cons (Xc _ h1) .nil)) ?_;rw[he];have e0:a.2.2.2.2.2.1.1=bs.length:=hn;refine .cons ?_ (.cons (.refl _) (.cons (.refl _) (.cons (.refl _) (.cons hb (.cons (.refl _) .nil)))));rw[e0];exact .refl _
 refine .cons (.b (fun a ha hb=> ?_) (fun a ha hb=> ?_)) .nil
 ·have hb':er32 a=0:=by simpa using hb
  have h3:okE Cg (.sl 12 a.2.2.2.2.2.1.1 a.2.2.2.2.2.1.2)=true:=by unfold ok32 at ha;simp only[zd]at ha;exact ha.2
  have hn:=(RL.of_ok h3).1;refine(key a ha 0 _ ?_).le (.refl _) (.refl _);unfold r33;unfold er32 at hb';rw[hb'];simp only[bne_self_eq_false,zb];congr 3;unfold h33 H33 cn32 bc32;rw[<-hn];rfl
 ·have hb':er32 a≠0:=by intro e;rw[e]at hb;simp at hb
  have h3:okE Cg (.sl 12 a.2.2.2.2.2.1.1 a.2.2.2.2.2.1.2)=true:=by unfold ok32 at ha;simp only[zd]at ha;exact ha.2
  have h2:eqs a.2=true:=by unfold ok32 at ha;simp only[zd]at ha;exact ha.1.2
  have hx:=key a ha (er32 a) (H5 a.2.1.1 a.2.2.1.1 a.2.2.1.2 a.2.2.2.1.1 a.2.2.2.1.2 a.2.2.2.2.1.1 a.2.2.2.2.1.2 (theE Cg (.sl 12 a.2.2.2.2.2.1.1 a.2.2.2.2.2.1.2)).length (cnB (theE Cg (.sl 12 a.2.2.2.2.2.1.1 a.2.2.2.2.2.1.2))) a.2.2.2.2.2.2.1) (by
   unfold r33;have:(Ec a.2.2.1.1 a.2.2.2.1.1 a.2.2.2.2.1.1 (B8 (Bb a.2.2.2.2.2.2.1 (Value.string (rbay a.1.2.1).name))) (theE Cg (.sl 12 a.2.2.2.2.2.1.1 a.2.2.2.2.2.1.2)) (rbay a.1.2.1) !=0)=true:=by
    unfold er32 at hb';simpa using hb'
   rw[this];rfl)
  refine hx.le (.refl _) ?_;unfold h33e cn32;have hn:=(RL.of_ok h3).1;rw[<-hn];exact .refl _
theorem c32(l:List SBay)(s0:BA)(ka:Nat)(ga:RD)(kb:Nat)(gb:RD)(kc:Nat)(gc:RD)(N:List BA)(hl:l.length<=900)(hka:ka<=900)(hkb:kb<=900)(hkc:kc<=900)(hlk: ∀i,i<l.length ->(l.getD i bay0).qe.length<=9223372036854775807):
  CX prog 73 [.c (.d (Cg l)),fnOf 74] (H4 s0 ka ga kb gb kc gc (Ap N)) (vI (tBay ka kb kc N l).1)
   (H4' s0 ka ga kb gb kc gc (Ap (N++(tBay ka kb kc N l).2.map SBay.name)) (tBay ka kb kc N l).2.length (fun i=>bayC ((tBay ka kb kc N l).2.getD i bay0))):=by
 obtain⟨g,hg⟩: ∃g,l.length<g:=⟨l.length+1,by omega⟩;obtain⟨f',hr,he⟩:=Gp (nm:=SBay.name) (F:=fun N before x=>Jv ka kb kc N before x) (N:=N) (c:=bayC) (d0:=bay0) (l:=l) (L:=fun m mp n f i=>Zu cn32 bc32 ok32 er32 l s0 ka ga kb gb kc gc (Ap N) g m mp n f i) (HX:=fun mp n f=>H4' s0 ka ga kb gb kc gc mp n f)
  (fun m k before f hk hb hr=>by
    have hthe:=hr.the (sz:=12) Kc;have hx:rbay (bayR (l.getD k bay0))=l.getD k bay0:=Jb _;have hok:ok32 (((),bayR (l.getD k bay0),()),(s0,ka,kb,kc,k,(),()),(ka,ga),(kb,gb),(kc,gc),(k,f),Ap (N++before.map SBay.name),())=true:=by
     unfold ok32;have e1:okRB (bayR (l.getD k bay0))=true:=Gi (hlk k hk);have e2:eqs ((s0,ka,kb,kc,k,(),()),(ka,ga),(kb,gb),(kc,gc),(k,f),Ap (N++before.map SBay.name),())=true:=by
      unfold eqs;simp only[Nat.beq_refl,Bool.true_and,bleD,zk hka,zk hkb,zk hkc,zk (show k<=900 by omega)]
     simp only[e1,e2,hthe.1,Bool.and_self]
    have her:er32 (((),bayR (l.getD k bay0),()),(s0,ka,kb,kc,k,(),()),(ka,ga),(kb,gb),(kc,gc),(k,f),Ap (N++before.map SBay.name),())=Jv ka kb kc (N++before.map SBay.name) before (l.getD k bay0):=by
     unfold er32 Jv;simp only[hx,hthe.2,C2]
    refine⟨appF k (cn32 k f) (Ae (bc32 (bayR (l.getD k bay0))) 12),cn32 k f, ?_, ?_, ?_⟩
    ·unfold bc32 cn32;rw[hx,hthe.2];have:=(RL.data (c:=bayC) (d0:=bay0) before).app' (x:=l.getD k bay0) (sz:=12) rfl;rw[hb]at this;exact this
    ·unfold cn32;rw[hthe.2];have:=RL.data (c:=bayC) (d0:=bay0) before;rw[hb]at this;exact this
    ·rw[AjB];simp only[lt1 hk,ge0,tn,Bool.and_self,za,nx hk];show(bif ok32 (((),bayR (l.getD k bay0),()),(s0,ka,kb,kc,k,(),()),(ka,ga),(kb,gb),(kc,gc),(k,f),Ap (N++before.map SBay.name),())then
      (bif er32 (((),bayR (l.getD k bay0),()),(s0,ka,kb,kc,k,(),()),(ka,ga),(kb,gb),(kc,gc),(k,f),Ap (N++before.map SBay.name),())==0 then
        Zu cn32 bc32 ok32 er32 l s0 ka ga kb gb kc gc (Ap N) g m ((Value.string (l.getD k bay0).name,Value.bool true)::Ap (N++before.map SBay.name)) (k+1) (appF k (cn32 k f) (Ae (bc32 (bayR (l.getD k bay0))) 12)) ((k+1:Nat):Int)
      else(bif er32 (((),bayR (l.getD k bay0),()),(s0,ka,kb,kc,k,(),()),(ka,ga),(kb,gb),(kc,gc),(k,f),Ap (N++before.map SBay.name),()) !=0 then lI (er32 (((),bayR (l.getD k bay0),()),(s0,ka,kb,kc,k,(),()),(ka,ga),(kb,gb),(kc,gc),(k,f),Ap (N++before.map SBay.name),())) (H4' s0 ka ga kb gb kc gc (Ap (N++before.map SBay.name)) k (cn32 k f))else Zu cn32 bc32 ok32 er32 l s0 ka ga kb gb kc gc (Ap N) g m (Ap (N++before.map SBay.name)) k (cn32 k f) ((k+1:Nat):Int)))else none)=_
     rw[hok,her];unfold bne;cases(Jv ka kb kc (N++before.map SBay.name) before (l.getD k bay0)==0)<;>rfl)
  (fun m mp n f=>by
    rw[AjB,lt0 (zp _)];rfl) g 0 [] (fun _=>[]) (by omega) (by omega) rfl (.nil _)
 have hev:=ev32 cn32 bc32 ok32 er32 l s0 ka ga kb gb kc gc (Ap N) g;simp only[List.map_nil,List.append_nil,zq]at he hr;refine(Am s32.ok func73 b32 rfl (hev.trans he)).le (.refl _) ?_;exact .cons (.refl _) (.cons (.refl _) (.cons (.refl _) (.cons (.refl _) (.cons (.refl _) (.cons hr.ble .nil)))))
abbrev AL:=D×Unit×Unit
abbrev RW1:=Nat×RD
abbrev A26:=AL×(BA×Unit×Unit×Unit×Unit×Unit×Unit)×List (Value×Value)×Unit
def d26:Dec (List AV×Hp) A26:= .pair (.cons (.c .data) (.cons (.c (.meth 68)) .nil)) (.cons (.blk 0 (.cells 207 (.cons .str (.cons .nilS (.cons .nilS (.cons .nilS (.cons .nilS (.cons (.mp 1) .nil)))))))) (.cons (.blk 1 (.mapB 0)) .nil))
abbrev A28:=AL×(BA×Nat×Unit×Unit×Unit×Unit×Unit)×RW1×List (Value×Value)×Unit
def d28:Dec (List AV×Hp) A28:= .pair (.cons (.c .data) (.cons (.c (.meth 70)) .nil)) (.cons (.blk 0 (.cells 207 (.cons .str (.cons (.row 1 1) (.cons .nilS (.cons .nilS (.cons .nilS (.cons (.mp 2) .nil)))))))) (.cons (.blk 1 (.rowB 1 9)) (.cons (.blk 2 (.mapB 0)) .nil)))
abbrev A30:=AL×(BA×Nat×Nat×Unit×Unit×Unit×Unit)×RW1×RW1×List (Value×Value)×Unit
def d30:Dec (List AV×Hp) A30:= .pair (.cons (.c .data) (.cons (.c (.meth 72)) .nil)) (.cons (.blk 0 (.cells 207 (.cons .str (.cons (.row 1 1) (.cons (.row 2 5) (.cons .nilS (.cons .nilS (.cons (.mp 3) .nil)))))))) (.cons (.blk 1 (.rowB 1 9)) (.cons (.blk 2 (.rowB 5 144)) (.cons (.blk 3 (.mapB 0)) .nil))))
abbrev A32:=AL×(BA×Nat×Nat×Nat×Unit×Unit×Unit)×RW1×RW1×RW1×List (Value×Value)×Unit
def d32:Dec (List AV×Hp) A32:= .pair (.cons (.c .data) (.cons (.c (.meth 74)) .nil)) (.cons (.blk 0 (.cells 207 (.cons .str (.cons (.row 1 1) (.cons (.row 2 5) (.cons (.row 3 6) (.cons .nilS (.cons (.mp 4) .nil)))))))) (.cons (.blk 1 (.rowB 1 9)) (.cons (.blk 2 (.rowB 5 144)) (.cons (.blk 3 (.rowB 6 147)) (.cons (.blk 4 (.mapB 0)) .nil)))))
structure K12 where
 nk:BA ->Bool
 ok1:A26 ->Bool
 e1:A26 ->Int
 m1:A26 ->List (Value×Value)
 n1:A26 ->Nat
 f1:A26 ->RD
 ok2:A28 ->Bool
 e2:A28 ->Int
 m2:A28 ->List (Value×Value)
 n2:A28 ->Nat
 f2:A28 ->RD
 ok3:A30 ->Bool
 e3:A30 ->Int
 m3:A30 ->List (Value×Value)
 n3:A30 ->Nat
 f3:A30 ->RD
 ok4:A32 ->Bool
 e4:A32 ->Int
 m4:A32 ->List (Value×Value)
 n4:A32 ->Nat
 f4:A32 ->RD
def o12(Z:K12):Orc:=Orc.cons 65 (ansP decS fun s=>vB (Z.nk s)) (Orc.cons 66 (inl prog Orc.nil na 1 f66)
 (Orc.cons 67 (ansD d26 Z.ok1 (fun a=>vI (Z.e1 a)) fun a=>H1' a.2.1.1 (Z.m1 a) (Z.n1 a) (Z.f1 a))
 (Orc.cons 69 (ansD d28 Z.ok2 (fun a=>vI (Z.e2 a)) fun a=>H2' a.2.1.1 a.2.2.1.1 a.2.2.1.2 (Z.m2 a) (Z.n2 a) (Z.f2 a))
 (Orc.cons 71 (ansD d30 Z.ok3 (fun a=>vI (Z.e3 a)) fun a=>H3' a.2.1.1 a.2.2.1.1 a.2.2.1.2 a.2.2.2.1.1 a.2.2.2.1.2 (Z.m3 a) (Z.n3 a) (Z.f3 a))
 (Orc.cons 73 (ansD d32 Z.ok4 (fun a=>vI (Z.e4 a)) fun a=>H4' a.2.1.1 a.2.2.1.1 a.2.2.1.2 a.2.2.2.1.1 a.2.2.2.1.2 a.2.2.2.2.1.1 a.2.2.2.2.1.2 (Z.m4 a) (Z.n4 a) (Z.f4 a)) Orc.nil)))))
def ArP:Ann:=A1 []
theorem b12:f31.body=some (Ac f31):=by kernel_rfl
theorem ev12(Z:K12)(s:SSta)(g:Nat):Ai prog (o12 Z) ArP g f31 (Ac f31) [aSta s] []=
 (fun t6=>(fun t5=>(fun t4=>(fun t3=>(fun t2=>(fun t1=>(bif !K12.nk Z s.name then leI 7 else(bif(↑s.qa.length:Int)==0 then leI 3 else(bif decide
 ((↑s.qa.length:Int)>4)then leI 3 else(bif decide ((↑s.qb.length:Int)>6)then leI 3 else(bif decide ((↑s.qc.length:Int)>4)then leI 3 else(bif decide
 ((↑s.qd.length:Int)>16)then leI 3 else(bif K12.ok1 Z t6 then(bif K12.e1 Z t6==0 then(bif K12.ok2 Z t4 then(bif K12.e2 Z t4==0 then(bif K12.ok3 Z t2 then(bif K12.e3
 Z t2==0 then(bif K12.ok4 Z t1 then leI (K12.e4 Z t1)else none)else leI (K12.e3 Z t2))else none)else(bif K12.e2 Z t4==0 then none else leI (K12.e2 Z t4)))else none)else
 (bif K12.e1 Z t6==0 then none else(bif K12.e1 Z t6==0 then none else leI (K12.e1 Z t6))))else none)))))))) ((Cg s.qd,(),()),(⟨#[]⟩,K12.n1 Z t6,K12.n2 Z t4,K12.n3 Z
 t2,(),(),()),t5,t3,(K12.n3 Z t2,K12.f3 Z t2),K12.m3 Z t2,())) ((Cl s.qc,(),()),(⟨#[]⟩,K12.n1 Z t6,K12.n2 Z t4,(),(),(),()),t5,t3,K12.m2 Z t4,())) (K12.n2 Z
 t4,K12.f2 Z t4)) ((Aq s.qb,(),()),(⟨#[]⟩,K12.n1 Z t6,(),(),(),(),()),t5,K12.m1 Z t6,())) (K12.n1 Z t6,K12.f1 Z t6)) ((Ab s.qa,(),()),(⟨#[]⟩,(),(),(),(),
 (),()),[],()):=by kernel_rfl
abbrev u1(a:A26):=D3 id (fun N _ x=>Bq N x) (theM a.2.2.1) [] (theE Ab a.1.1)
abbrev u2(a:A28):=Hk (theM a.2.2.2.1) (theE Aq a.1.1)
abbrev u3(a:A30):=tSrc (theM a.2.2.2.2.1) (theE Cl a.1.1)
abbrev u4(a:A32):=tBay a.2.2.1.1 a.2.2.2.1.1 a.2.2.2.2.1.1 (theM a.2.2.2.2.2.1) (theE Cg a.1.1)
def Z12:K12 where
 nk:=Ag
 ok1 a:=okE Ab a.1.1&&(decide ((theE Ab a.1.1).length<=900)&&okM a.2.2.1)
 e1 a:=(u1 a).1
 m1 a:=Ap (theM a.2.2.1++(u1 a).2.map id)
 n1 a:=(u1 a).2.length
 f1 a:=fun i=>busC ((u1 a).2.getD i e0)
 ok2 a:=okE Aq a.1.1&&(decide ((theE Aq a.1.1).length<=900)&&(okM a.2.2.2.1&&Nat.beq a.2.1.2.1 a.2.2.1.1))
 e2 a:=(u2 a).1
 m2 a:=Ap (theM a.2.2.2.1++(u2 a).2.map SLine.name)
 n2 a:=(u2 a).2.length
 f2 a:=fun i=>Az ((u2 a).2.getD i Ah)
 ok3 a:=okE Cl a.1.1&&(decide ((theE Cl a.1.1).length<=900)&&(okM a.2.2.2.2.1&&(Nat.beq a.2.1.2.1 a.2.2.1.1&&Nat.beq a.2.1.2.2.1 a.2.2.2.1.1)))
 e3 a:=(u3 a).1
 m3 a:=Ap (theM a.2.2.2.2.1++(u3 a).2.map SSrc.name)
 n3 a:=(u3 a).2.length
 f3 a:=fun i=>Ay ((u3 a).2.getD i src0)
 ok4 a:=okE Cg a.1.1&&(decide ((theE Cg a.1.1).length<=900)&&(okM a.2.2.2.2.2.1&&(Nat.beq a.2.1.2.1 a.2.2.1.1&&(Nat.beq a.2.1.2.2.1 a.2.2.2.1.1&&(Nat.beq a.2.1.2.2.2.1 a.2.2.2.2.1.1&&(Nat.ble a.2.2.1.1 900&&(Nat.ble a.2.2.2.1.1 900&&(Nat.ble a.2.2.2.2.1.1 900&&Mt (theE Cg a.1.1)))))))))
 e4 a:=(u4 a).1
 m4 a:=Ap (theM a.2.2.2.2.2.1++(u4 a).2.map SBay.name)
 n4 a:=(u4 a).2.length
 f4 a:=fun i=>bayC ((u4 a).2.getD i bay0)
theorem s12:OrcS prog (o12 Z12):=by
 refine .cons (.p D9 c15) (.cons (.inl .nil func66 (by kernel_rfl)) (.cons (.d fun a ha=> ?_) (.cons (.d fun a ha=> ?_) (.cons (.d fun a ha=> ?_) (.cons (.d fun a ha=> ?_) .nil)))))
 ·have ha':(okE Ab a.1.1&&(decide ((theE Ab a.1.1).length<=900)&&okM a.2.2.1))=true:=ha;simp only[zd,zi]at ha';have⟨h1,h2,h3⟩:=ha';have hm:=Hu h3;refine(c26 (theE Ab a.1.1) a.2.1.1 (theM a.2.2.1) h2).ge (.cons (Du h1) (.cons (.refl _) .nil)) ?_;show Hle (H1 a.2.1.1 a.2.2.1) _;rw[<-hm];exact .refl _
 ·have ha':(okE Aq a.1.1&&(decide ((theE Aq a.1.1).length<=900)&&(okM a.2.2.2.1&&Nat.beq a.2.1.2.1 a.2.2.1.1)))=true:=ha;simp only[zd,zi]at ha';have⟨h1,h2,h3,h4⟩:=ha';have hm:=Hu h3;have e4:=zg h4;refine(c28 (theE Aq a.1.1) a.2.1.1 a.2.2.1.1 a.2.2.1.2 (theM a.2.2.2.1) h2).ge (.cons (Du h1) (.cons (.refl _) .nil)) ?_;show Hle [(0, .cells [.d (dS a.2.1.1), .row 1 1 a.2.1.2.1,nilC,nilC,nilC, .mp 2] 207),(1, .row a.2.2.1.1 a.2.2.1.2 1 9),(2, .map 0 a.2.2.2.1)] _;rw[<-hm,e4];exact .refl _
 ·have ha':(okE Cl a.1.1&&(decide ((theE Cl a.1.1).length<=900)&&(okM a.2.2.2.2.1&&(Nat.beq a.2.1.2.1 a.2.2.1.1&&Nat.beq a.2.1.2.2.1 a.2.2.2.1.1))))=true:=ha;simp only[zd,zi]at ha';have⟨h1,h2,h3,h4,h5⟩:=ha';have hm:=Hu h3;have e4:=zg h4;have e5:=zg h5;refine(c30 (theE Cl a.1.1) a.2.1.1 a.2.2.1.1 a.2.2.1.2 a.2.2.2.1.1 a.2.2.2.1.2 (theM a.2.2.2.2.1) h2).ge (.cons (Du h1) (.cons (.refl _) .nil)) ?_;show Hle [(0, .cells [.d (dS a.2.1.1), .row 1 1 a.2.1.2.1, .row 2 5 a.2.1.2.2.1,nilC,nilC, .mp 3] 207),(1, .row a.2.2.1.1 a.2.2.1.2 1 9),(2, .row a.2.2.2.1.1 a.2.2.2.1.2 5 144),(3, .map 0 a.2.2.2.2.1)] _;rw[<-hm,e4,e5];exact .refl _
 ·have ha':(okE Cg a.1.1&&(decide ((theE Cg a.1.1).length<=900)&&(okM a.2.2.2.2.2.1&&(Nat.beq a.2.1.2.1 a.2.2.1.1&&(Nat.beq a.2.1.2.2.1 a.2.2.2.1.1&&(Nat.beq a.2.1.2.2.2.1 a.2.2.2.2.1.1&&(Nat.ble a.2.2.1.1 900&&(Nat.ble a.2.2.2.1.1 900&&(Nat.ble a.2.2.2.2.1.1 900&&Mt (theE Cg a.1.1))))))))))=true:=ha;simp only[zd,zi]at ha';have⟨h1,h2,h3,h4,h5,h6,h7,h8,h9,h10⟩:=ha';have hm:=Hu h3;have e4:=zg h4;have e5:=zg h5;have e6:=zg h6;refine(c32 (theE Cg a.1.1) a.2.1.1 a.2.2.1.1 a.2.2.1.2 a.2.2.2.1.1 a.2.2.2.1.2 a.2.2.2.2.1.1 a.2.2.2.2.1.2 (theM a.2.2.2.2.2.1) h2 (Nat.le_of_ble_eq_true h7) (Nat.le_of_ble_eq_true h8) (Nat.le_of_ble_eq_true h9) (Wl h10)).ge (.cons (Du h1) (.cons (.refl _) .nil)) ?_;show Hle [(0, .cells [.d (dS a.2.1.1), .row 1 1 a.2.1.2.1, .row 2 5 a.2.1.2.2.1, .row 3 6 a.2.1.2.2.2.1,nilC, .mp 4] 207),(1, .row a.2.2.1.1 a.2.2.1.2 1 9),(2, .row a.2.2.2.1.1 a.2.2.2.1.2 5 144),(3, .row a.2.2.2.2.1.1 a.2.2.2.2.1.2 6 147),(4, .map 0 a.2.2.2.2.2.1)] _;rw[<-hm,e4,e5,e6];exact .refl _
theorem Amp(n:Nat):((n:Int)==0)=(n==0):=by cases n<;>rfl
theorem S7(n k:Nat):decide ((n:Int)>(k:Int))=decide (k<n):=by rw[decide_eq_decide];omega
theorem c12(s:SSta)(hlk:Mt s.qd=true):CX prog 31 [aSta s] [] (vI (A3 s)) []:=by
 refine Am s12.ok func31 b12 rfl ((ev12 Z12 s 1).trans ?_);have t4: ∀n:Nat,decide ((n:Int)>4)=decide (4<n):=fun n=>S7 n 4
 have t6: ∀n:Nat,decide ((n:Int)>6)=decide (6<n):=fun n=>S7 n 6
 have t16: ∀n:Nat,decide ((n:Int)>16)=decide (16<n):=fun n=>S7 n 16
 simp only[Amp,t4,t6,t16,fOr];unfold A3;show(bif !Ag s.name then _ else _)=_;cases Ag s.name with
 |false=>rfl|true=>
  simp only[Bool.not_true,zb];have hcb:(s.qa.length==0||(decide (4<s.qa.length)||(decide (6<s.qb.length)||(decide (4<s.qc.length)||decide (16<s.qd.length)))))=Jp s:=rfl;rw[hcb];cases hc:Jp s with
  |true=>rfl|false=>
   simp only[zb];unfold Jp at hc;simp only[Bool.or_eq_false_iff,decide_eq_false_iff_not]at hc;have⟨_,h4,h6,h4',h16⟩:=hc;have M0:okM ([]:MV)=true:=Je [];have M0':theM ([]:MV)=[]:=E9 [];obtain⟨L1,L1'⟩:=Bj (sz:=1) (d0:=e0) Ca s.qa;obtain⟨L2,L2'⟩:=Bj (sz:=5) (d0:=Ah) Ls s.qb;obtain⟨L3,L3'⟩:=Bj (sz:=6) (d0:=src0) Pw s.qc;obtain⟨L4,L4'⟩:=Bj (sz:=12) (d0:=bay0) Kc s.qd;have x1: ∀y,Z12.ok1 ((Ab s.qa,(),()),y,[],())=true:=fun y=>by
    show(okE Ab (Ab s.qa)&&(decide ((theE Ab (Ab s.qa)).length<=900)&&okM []))=true;rw[L1,L1',M0,zk];rfl
   have y1: ∀y,u1 ((Ab s.qa,(),()),y,[],())=tBus s.qa:=fun y=>by
    show D3 id (fun N _ x=>Bq N x) (theM []) [] (theE Ab (Ab s.qa))=_;rw[L1',M0'];rfl
   have z1: ∀y,Z12.e1 ((Ab s.qa,(),()),y,[],())=(tBus s.qa).1:=fun y=>by show(u1 _).1=_;rw[y1]
   rw[x1,z1];simp only[za];cases E1:((tBus s.qa).1==0)with
   |false=>
    have:((tBus s.qa).1 !=0)=true:=by unfold bne;rw[E1];rfl
    rw[this];rfl
   |true=>
    have E1':(tBus s.qa).1=0:=by simpa using E1
    have N1:(tBus s.qa).2=s.qa:=by have:=Pv (nm:=id) (f:=fun N _ x=>Bq N x) (N:=[]) [] s.qa E1';rw[List.nil_append]at this;exact this
    have n1: ∀y,Z12.n1 ((Ab s.qa,(),()),y,[],())=s.qa.length:=fun y=>by show(u1 _).2.length=_;rw[y1,N1]
    have m1: ∀y,Z12.m1 ((Ab s.qa,(),()),y,[],())=Ap s.qa:=fun y=>by
     show Ap (theM []++(u1 _).2.map id)=_;rw[y1,N1,M0'];simp
    rw[E1'];simp only[za,n1,m1,bne_self_eq_false,zb];have x2: ∀a b c d,Z12.ok2 ((Aq s.qb,(),()),(a,s.qa.length,b),(s.qa.length,c),Ap s.qa,d)=true:=fun a b c d=>by
     show(okE Aq (Aq s.qb)&&(decide ((theE Aq (Aq s.qb)).length<=900)&&(okM (Ap s.qa)&&Nat.beq s.qa.length s.qa.length)))=true;rw[L2,L2',Je,zk,Nat.beq_refl];rfl
    have y2: ∀a b c d,u2 ((Aq s.qb,(),()),(a,s.qa.length,b),(s.qa.length,c),Ap s.qa,d)=Hk s.qa s.qb:=fun a b c d=>by
     show Hk (theM (Ap s.qa)) (theE Aq (Aq s.qb))=_;rw[L2',E9]
    have z2: ∀a b c d,Z12.e2 ((Aq s.qb,(),()),(a,s.qa.length,b),(s.qa.length,c),Ap s.qa,d)=(Hk s.qa s.qb).1:=fun a b c d=>by show(u2 _).1=_;rw[y2]
    rw[x2,z2];simp only[za];cases E2:((Hk s.qa s.qb).1==0)with
    |false=>
     have:((Hk s.qa s.qb).1 !=0)=true:=by unfold bne;rw[E2];rfl
     rw[this];rfl
    |true=>
     have E2':(Hk s.qa s.qb).1=0:=by simpa using E2
     have N2:(Hk s.qa s.qb).2=s.qb:=by have:=Pv (nm:=SLine.name) (f:=fun N _ x=>Jg N x) (N:=s.qa) [] s.qb E2';rw[List.nil_append]at this;exact this
     have n2: ∀a b c d,Z12.n2 ((Aq s.qb,(),()),(a,s.qa.length,b),(s.qa.length,c),Ap s.qa,d)=s.qb.length:=fun a b c d=>by show(u2 _).2.length=_;rw[y2,N2]
     have m2: ∀a b c d,Z12.m2 ((Aq s.qb,(),()),(a,s.qa.length,b),(s.qa.length,c),Ap s.qa,d)=Ap (s.qa++s.qb.map SLine.name):=fun a b c d=>by
      show Ap (theM (Ap s.qa)++(u2 _).2.map SLine.name)=_;rw[y2,N2,E9]
     rw[E2'];simp only[za,n2,m2,bne_self_eq_false,zb];have x3: ∀a b c d e,Z12.ok3 ((Cl s.qc,(),()),(a,s.qa.length,s.qb.length,b),(s.qa.length,c),(s.qb.length,d),Ap (s.qa++s.qb.map SLine.name),e)=true:=fun a b c d e=>by
      show(okE Cl (Cl s.qc)&&(decide ((theE Cl (Cl s.qc)).length<=900)&&(okM (Ap (s.qa++s.qb.map SLine.name))&&(Nat.beq s.qa.length s.qa.length&&Nat.beq s.qb.length s.qb.length))))=true;rw[L3,L3',Je,zk,Nat.beq_refl,Nat.beq_refl];rfl
     have y3: ∀a b c d e,u3 ((Cl s.qc,(),()),(a,s.qa.length,s.qb.length,b),(s.qa.length,c),(s.qb.length,d),Ap (s.qa++s.qb.map SLine.name),e)=tSrc (s.qa++s.qb.map SLine.name) s.qc:=fun a b c d e=>by
      show tSrc (theM (Ap (s.qa++s.qb.map SLine.name))) (theE Cl (Cl s.qc))=_;rw[L3',E9]
     have z3: ∀a b c d e,Z12.e3 ((Cl s.qc,(),()),(a,s.qa.length,s.qb.length,b),(s.qa.length,c),(s.qb.length,d),Ap (s.qa++s.qb.map SLine.name),e)=(tSrc (s.qa++s.qb.map SLine.name) s.qc).1:=fun a b c d e=>by show(u3 _).1=_;rw[y3]
     rw[x3,z3];simp only[za];cases E3:((tSrc (s.qa++s.qb.map SLine.name) s.qc).1==0)with
     |false=>
      have:((tSrc (s.qa++s.qb.map SLine.name) s.qc).1 !=0)=true:=by unfold bne;rw[E3];rfl
      rw[this];rfl
     |true=>
      have E3':(tSrc (s.qa++s.qb.map SLine.name) s.qc).1=0:=by simpa using E3
      have N3:(tSrc (s.qa++s.qb.map SLine.name) s.qc).2=s.qc:=by have:=Pv (nm:=SSrc.name) (f:=fun N _ x=>Pd N x) (N:=s.qa++s.qb.map SLine.name) [] s.qc E3';rw[List.nil_append]at this;exact this
      have n3: ∀a b c d e,Z12.n3 ((Cl s.qc,(),()),(a,s.qa.length,s.qb.length,b),(s.qa.length,c),(s.qb.length,d),Ap (s.qa++s.qb.map SLine.name),e)=s.qc.length:=fun a b c d e=>by show(u3 _).2.length=_;rw[y3,N3]
      have m3: ∀a b c d e,Z12.m3 ((Cl s.qc,(),()),(a,s.qa.length,s.qb.length,b),(s.qa.length,c),(s.qb.length,d),Ap (s.qa++s.qb.map SLine.name),e)=Ap (s.qa++s.qb.map SLine.name++s.qc.map SSrc.name):=fun a b c d e=>by
       show Ap (theM (Ap (s.qa++s.qb.map SLine.name))++(u3 _).2.map SSrc.name)=_;rw[y3,N3,E9]
      rw[E3'];simp only[za,n3,m3,bne_self_eq_false,zb];have x4: ∀a b c d e f,Z12.ok4 ((Cg s.qd,(),()),(a,s.qa.length,s.qb.length,s.qc.length,b),(s.qa.length,c),(s.qb.length,d),(s.qc.length,e),Ap (s.qa++s.qb.map SLine.name++s.qc.map SSrc.name),f)=true:=fun a b c d e f=>by
       show(okE Cg (Cg s.qd)&&(decide ((theE Cg (Cg s.qd)).length<=900)&&(okM (Ap (s.qa++s.qb.map SLine.name++s.qc.map SSrc.name))&&(Nat.beq s.qa.length s.qa.length&&(Nat.beq s.qb.length s.qb.length&&(Nat.beq s.qc.length s.qc.length&&(Nat.ble s.qa.length 900&&(Nat.ble s.qb.length 900&&(Nat.ble s.qc.length 900&&Mt (theE Cg (Cg s.qd)))))))))))=true;rw[L4,L4',Je,zk,Nat.beq_refl,Nat.beq_refl,Nat.beq_refl,bleD,bleD,bleD,zk,zk,zk,hlk];rfl
      have z4: ∀a b c d e f,Z12.e4 ((Cg s.qd,(),()),(a,s.qa.length,s.qb.length,s.qc.length,b),(s.qa.length,c),(s.qb.length,d),(s.qc.length,e),Ap (s.qa++s.qb.map SLine.name++s.qc.map SSrc.name),f)=(tBay s.qa.length s.qb.length s.qc.length (s.qa++s.qb.map SLine.name++s.qc.map SSrc.name) s.qd).1:=fun a b c d e f=>by
       show(tBay s.qa.length s.qb.length s.qc.length (theM (Ap (s.qa++s.qb.map SLine.name++s.qc.map SSrc.name))) (theE Cg (Cg s.qd))).1=_;rw[L4',E9]
      rw[x4,z4];rfl
def oBe:Orc:=Orc.cons 113 (inl prog Orc.nil na 1 f113) Orc.nil
def oOh:Orc:=Orc.cons 60 (inl prog oBe na 1 f60) oBe
def ArN:Ann:=A1 []
theorem b49:f115.body=some (Ac f115):=by kernel_rfl
def ev49_6(x:SBay):Option (T (AV×Hp)):=
 (bif decide (x.sat>=0)then(bif decide (x.sat<=16383)then(bif decide (x.qg>=1)then leB (decide (x.qg<=6))else leB false)else leB false)else leB false)
def ev49_5(x:SBay):Option (T (AV×Hp)):=
 (bif !x.kind==3 then(bif decide (x.vt>=1)then(bif !decide (x.vt<=10000)then leB false else(ev49_6 x))else leB false)else(ev49_6 x))
def ev49_4(x:SBay):Option (T (AV×Hp)):=
 (bif decide (x.ct>=1)then(bif !decide (x.ct<=100)then leB false else(bif x.kind==3 then(bif x.vt !=0 then leB false else(ev49_5 x))else(ev49_5 x)))else leB false)
def ev49_3(x:SBay):Option (T (AV×Hp)):=
 (bif !x.kind==3 then(bif !(x.zr==0&&(x.zx==0&&true))then leB false else(ev49_4 x))else(ev49_4 x))
def ev49_2(x:SBay):Option (T (AV×Hp)):=
 (bif x.kind==3 then(bif decide (x.zr>=0)then(bif decide (x.zr<=1000)then(bif decide (x.zx>=1)then(bif !decide (x.zx<=1000)then leB false else(ev49_3 x))else leB
 false)else leB false)else leB false)else(ev49_3 x))
def ev49_1(x:SBay):Option (T (AV×Hp)):=
 (bif !x.kind==1 then(bif x.fin !=0 then leB false else(ev49_2 x))else(ev49_2 x))
theorem ev49(x:SBay)(g:Nat):Ai prog oOh ArN g f115 (Ac f115) [aBay x] []=
 (bif x.kind==1 then(bif decide (x.fin>=0)then(bif !decide (x.fin<=1)then leB false else(ev49_1 x))else leB false)else(ev49_1 x)):=by kernel_rfl
def ann50:Ann:=A1 [(5,⟨[3,2,5,6],[]⟩)]
def Vo(s:SSta)(x:SBay)(g m:Nat)(i6:Int):=LK prog Orc.nil ann50 0 g f116 5 m ⟨frm [(2, .c (.ptr 0 0)),(3, .c (.ptr 1 0)),(5,iA (↑(List.length (SBay.qe x)):Int)),(6,iA i6)] 0 f116.ntmps,[(0, .cells (List.map C.d (staC s)) 27),(1, .cells (List.map C.d (bayC x)) 118)],2⟩
theorem b50:f116.body=some (Ac f116):=by kernel_rfl
theorem ev50(s:SSta)(x:SBay)(g:Nat):Ai prog Orc.nil ann50 g f116 (Ac f116) [aSta s,aBay x] []=
 (bif decide ((↑x.qe.length:Int)<1)then leI 3 else(bif decide ((↑x.qe.length:Int)>2)then leI 3 else(bif x.kind==3 then(bif(↑x.qe.length:Int) !=2 then leI
 3 else Vo s x g g 0)else Vo s x g g 0))):=by kernel_rfl
theorem AnV(s:SSta)(x:SBay)(g m:Nat)(i6:Int):Vo s x g (m+1) i6=
 (bif decide (i6<(↑x.qe.length:Int))then(bif decide (0<=i6)&&decide (i6<(↑x.qe.length:Int))then(bif decide (SLink.bus (x.qe.getD i6.toNat A4)<0)then leI 9
 else(bif decide (SLink.bus (x.qe.getD i6.toNat A4)>=(↑s.qa.length:Int))then leI 9 else(bif SLink.pos (x.qe.getD i6.toNat A4) !=1 then(bif SLink.pos (x.qe.getD
 i6.toNat A4) !=0 then leI 16 else(bif x.kind==3 then leI 16 else(bif decide (i6>0)then(bif decide (0<=wrap .i64 (i6 -1))&&decide (wrap .i64 (i6 -1)<
 (↑x.qe.length:Int))then(bif SLink.bus (x.qe.getD i6.toNat A4)==SLink.bus (x.qe.getD (Int.toNat (wrap .i64 (i6 -1))) A4)then leI 12 else Vo s x g m
 (wrap .i64 (i6+1)))else none)else Vo s x g m (wrap IntKind.i64 (i6+1)))))else(bif decide (i6>0)then(bif decide (0<=wrap .i64 (i6 -1))&&
 decide (wrap .i64 (i6 -1)<(↑x.qe.length:Int))then(bif SLink.bus (x.qe.getD i6.toNat A4)==SLink.bus (x.qe.getD (Int.toNat (wrap .i64 (i6 -1))) A4)
 then leI 12 else Vo s x g m (wrap .i64 (i6+1)))else none)else Vo s x g m (wrap .i64 (i6+1))))))else none)else leI 0):=by kernel_rfl
def dSB:Dec (List AV×Hp) ((RSta×RBay×Unit)×Unit):= .pair (.cons (.agg staD) (.cons (.agg bayD) .nil)) .nil
def dSI:Dec (List AV×Hp) ((RSta×Int×Unit)×Unit):= .pair (.cons (.agg staD) (.cons (.c .i64) .nil)) .nil
def dSI4:Dec (List AV×Hp) ((RSta×Int×Int×Int×Int×Unit)×Unit):= .pair (.cons (.agg staD) (.cons (.c .i64) (.cons (.c .i64) (.cons (.c .i64) (.cons (.c .i64) .nil))))) .nil
def dDS:Dec (List AV×Hp) ((D×BA×Unit)×Unit):= .pair (.cons (.c .data) (.cons (.c .str) .nil)) .nil
def o24(rg okr:RBay ->Bool)(ok:RSta ->RBay ->Bool)(lk:RSta ->RBay ->Int):Orc:=Orc.cons 114 (inl prog Orc.nil na 1 f114) (Orc.cons 115 (ansD d54 (fun a=>okr a.1.1) (fun a=>vB (rg a.1.1)) fun _=>[])
 (Orc.cons 116 (ansD dSB (fun a=>ok a.1.1 a.1.2.1) (fun a=>vI (lk a.1.1 a.1.2.1)) fun _=>[]) Orc.nil))
def Apz:Ann:=A1 [(8,⟨[5,2,1,7],[]⟩)]
def Vp(rg okr:RBay ->Bool)(ok:RSta ->RBay ->Bool)(lk:RSta ->RBay ->Int)(s:SSta)(n:Int)(g m:Nat)(i7:Int):=LK prog (o24 rg okr ok lk) Apz 0 g f62 8 m ⟨frm [(1,iA n),(2, .c (.ptr 0 0)),(5, .c (.ptr 1 0)),(7,iA i7)] 0 f62.ntmps,[(0, .cells (List.map C.d (staC s)) 27),(1, .cells (List.map C.d (bayC (List.getD (SSta.qd s) (Int.toNat n) bay0))) 118)],2⟩
theorem b24:f62.body=some (Ac f62):=by kernel_rfl
theorem ev24(rg okr:RBay ->Bool)(ok:RSta ->RBay ->Bool)(lk:RSta ->RBay ->Int)(s:SSta)(n:Int)(g:Nat):Ai prog (o24 rg okr ok lk) Apz g f62 (Ac f62) [aSta s,vI n] []=
 (bif decide (0<=n)&&decide (n<(↑s.qd.length:Int))then(bif SBay.kind (s.qd.getD n.toNat bay0)==1 then(bif decide (SBay.off (s.qd.getD n.toNat bay0)<0)then leI 9
 else(bif decide (SBay.off (s.qd.getD n.toNat bay0)>=(↑s.qb.length:Int))then leI 9 else(bif okr (SBay.name (s.qd.getD n.toNat bay0),SBay.kind (s.qd.getD n.toNat
 bay0),SBay.off (s.qd.getD n.toNat bay0),SBay.fin (s.qd.getD n.toNat bay0),SBay.zr (s.qd.getD n.toNat bay0),SBay.zx (s.qd.getD n.toNat bay0),B7 (SBay.qe (s.qd.getD
 n.toNat bay0)),SBay.qf (s.qd.getD n.toNat bay0),SBay.ct (s.qd.getD n.toNat bay0),SBay.vt (s.qd.getD n.toNat bay0),SBay.sat (s.qd.getD n.toNat bay0),SBay.qg
 (s.qd.getD n.toNat bay0),())then(bif !rg (SBay.name (s.qd.getD n.toNat bay0),SBay.kind (s.qd.getD n.toNat bay0),SBay.off (s.qd.getD n.toNat bay0),SBay.fin
 (s.qd.getD n.toNat bay0),SBay.zr (s.qd.getD n.toNat bay0),SBay.zx (s.qd.getD n.toNat bay0),B7 (SBay.qe (s.qd.getD n.toNat bay0)),SBay.qf (s.qd.getD n.toNat
 bay0),SBay.ct (s.qd.getD n.toNat bay0),SBay.vt (s.qd.getD n.toNat bay0),SBay.sat (s.qd.getD n.toNat bay0),SBay.qg (s.qd.getD n.toNat bay0),())then leI 2 else Vp
 rg okr ok lk s n g g 0)else none)))else(bif SBay.kind (s.qd.getD n.toNat bay0)==2 then(bif decide (SBay.off (s.qd.getD n.toNat bay0)<0)then leI 9 else(bif decide
 (SBay.off (s.qd.getD n.toNat bay0)>=(↑s.qc.length:Int))then leI 9 else(bif okr (SBay.name (s.qd.getD n.toNat bay0),SBay.kind (s.qd.getD n.toNat bay0),SBay.off
 (s.qd.getD n.toNat bay0),SBay.fin (s.qd.getD n.toNat bay0),SBay.zr (s.qd.getD n.toNat bay0),SBay.zx (s.qd.getD n.toNat bay0),B7 (SBay.qe (s.qd.getD n.toNat bay0)),
 SBay.qf (s.qd.getD n.toNat bay0),SBay.ct (s.qd.getD n.toNat bay0),SBay.vt (s.qd.getD n.toNat bay0),SBay.sat (s.qd.getD n.toNat bay0),SBay.qg (s.qd.getD
 n.toNat bay0),())then(bif !rg (SBay.name (s.qd.getD n.toNat bay0),SBay.kind (s.qd.getD n.toNat bay0),SBay.off (s.qd.getD n.toNat bay0),SBay.fin (s.qd.getD n.toNat
 bay0),SBay.zr (s.qd.getD n.toNat bay0),SBay.zx (s.qd.getD n.toNat bay0),B7 (SBay.qe (s.qd.getD n.toNat bay0)),SBay.qf (s.qd.getD n.toNat bay0),SBay.ct
 (s.qd.getD n.toNat bay0),SBay.vt (s.qd.getD n.toNat bay0),SBay.sat (s.qd.getD n.toNat bay0),SBay.qg (s.qd.getD n.toNat bay0),())then leI 2 else Vp rg okr ok lk s n
 g g 0)else none)))else(bif SBay.kind (s.qd.getD n.toNat bay0)==3 then(bif SBay.off (s.qd.getD n.toNat bay0) !=0 then leI 9 else(bif okr (SBay.name (s.qd.getD n.toNat
 bay0),SBay.kind (s.qd.getD n.toNat bay0),SBay.off (s.qd.getD n.toNat bay0),SBay.fin (s.qd.getD n.toNat bay0),SBay.zr (s.qd.getD n.toNat bay0),SBay.zx (s.qd.getD
 n.toNat bay0),B7 (SBay.qe (s.qd.getD n.toNat bay0)),SBay.qf (s.qd.getD n.toNat bay0),SBay.ct (s.qd.getD n.toNat bay0),SBay.vt (s.qd.getD n.toNat bay0),SBay.sat
 (s.qd.getD n.toNat bay0),SBay.qg (s.qd.getD n.toNat bay0),())then(bif !rg (SBay.name (s.qd.getD n.toNat bay0),SBay.kind (s.qd.getD n.toNat bay0),SBay.off
 (s.qd.getD n.toNat bay0),SBay.fin (s.qd.getD n.toNat bay0),SBay.zr (s.qd.getD n.toNat bay0),SBay.zx (s.qd.getD n.toNat bay0),B7 (SBay.qe (s.qd.getD n.toNat bay0)),
 SBay.qf (s.qd.getD n.toNat bay0),SBay.ct (s.qd.getD n.toNat bay0),SBay.vt (s.qd.getD n.toNat bay0),SBay.sat (s.qd.getD n.toNat bay0),SBay.qg (s.qd.getD
 n.toNat bay0),())then leI 2 else Vp rg okr ok lk s n g g 0)else none))else leI 10)))else none):=by kernel_rfl
theorem AnW(rg okr:RBay ->Bool)(ok:RSta ->RBay ->Bool)(lk:RSta ->RBay ->Int)(s:SSta)(n:Int)(g m:Nat)(i7:Int):Vp rg okr ok lk s n g (m+1) i7=
 (bif decide (i7<n)then(bif SBay.kind (s.qd.getD n.toNat bay0) !=3 then(bif decide (0<=i7)&&decide (i7<(↑s.qd.length:Int))then(bif SBay.kind (s.qd.getD i7.toNat
 bay0)==SBay.kind (s.qd.getD n.toNat bay0)then(bif decide (0<=i7)&&decide (i7<(↑s.qd.length:Int))then(bif SBay.off (s.qd.getD i7.toNat bay0)==SBay.off
 (s.qd.getD n.toNat bay0)then(bif decide (0<=i7)&&decide (i7<(↑s.qd.length:Int))then(bif SBay.fin (s.qd.getD i7.toNat bay0)==SBay.fin (s.qd.getD n.toNat bay0)
 then leI 12 else Vp rg okr ok lk s n g m (wrap .i64 (i7+1)))else none)else Vp rg okr ok lk s n g m (wrap .i64 (i7+1)))else none)else Vp rg okr ok lk s n g m
 (wrap .i64 (i7+1)))else none)else(bif ok (s.name,D.sl 1 s.qa.length fun i=>busC (s.qa.getD i e0),D.sl 5 s.qb.length fun i=>Az (s.qb.getD i Ah),D.sl
 6 s.qc.length fun i=>Ay (s.qc.getD i src0),D.sl 12 s.qd.length fun i=>bayC (s.qd.getD i bay0),()) (SBay.name (s.qd.getD n.toNat bay0),SBay.kind (s.qd.getD
 n.toNat bay0),SBay.off (s.qd.getD n.toNat bay0),SBay.fin (s.qd.getD n.toNat bay0),SBay.zr (s.qd.getD n.toNat bay0),SBay.zx (s.qd.getD n.toNat bay0),D.sl 2 (SBay.qe
 (s.qd.getD n.toNat bay0)).length fun i=>Gm ((SBay.qe (s.qd.getD n.toNat bay0)).getD i A4),SBay.qf (s.qd.getD n.toNat bay0),SBay.ct (s.qd.getD n.toNat bay0),
 SBay.vt (s.qd.getD n.toNat bay0),SBay.sat (s.qd.getD n.toNat bay0),SBay.qg (s.qd.getD n.toNat bay0),())then leI (lk (s.name,D.sl 1 s.qa.length fun i=>busC
 (s.qa.getD i e0),D.sl 5 s.qb.length fun i=>Az (s.qb.getD i Ah),D.sl 6 s.qc.length fun i=>Ay (s.qc.getD i src0),D.sl 12 s.qd.length fun i=>bayC (s.qd.getD
 i bay0),()) (SBay.name (s.qd.getD n.toNat bay0),SBay.kind (s.qd.getD n.toNat bay0),SBay.off (s.qd.getD n.toNat bay0),SBay.fin (s.qd.getD n.toNat bay0),SBay.zr
 (s.qd.getD n.toNat bay0),SBay.zx (s.qd.getD n.toNat bay0),D.sl 2 (SBay.qe (s.qd.getD n.toNat bay0)).length fun i=>Gm ((SBay.qe (s.qd.getD n.toNat bay0)).getD i
 A4),SBay.qf (s.qd.getD n.toNat bay0),SBay.ct (s.qd.getD n.toNat bay0),SBay.vt (s.qd.getD n.toNat bay0),SBay.sat (s.qd.getD n.toNat bay0),SBay.qg (s.qd.getD
 n.toNat bay0),()))else none))else(bif ok (s.name,D.sl 1 s.qa.length fun i=>busC (s.qa.getD i e0),D.sl 5 s.qb.length fun i=>Az (s.qb.getD i Ah),D.sl (6:Nat)
 s.qc.length fun i=>Ay (s.qc.getD i src0),D.sl 12 s.qd.length fun i=>bayC (s.qd.getD i bay0),()) (SBay.name (s.qd.getD n.toNat bay0),SBay.kind (s.qd.getD n.toNat
 bay0),SBay.off (s.qd.getD n.toNat bay0),SBay.fin (s.qd.getD n.toNat bay0),SBay.zr (s.qd.getD n.toNat bay0),SBay.zx (s.qd.getD n.toNat bay0),D.sl 2 (SBay.qe
 (s.qd.getD n.toNat bay0)).length fun i=>Gm ((SBay.qe (s.qd.getD n.toNat bay0)).getD i A4),SBay.qf (s.qd.getD n.toNat bay0),SBay.ct (s.qd.getD n.toNat bay0),
 SBay.vt (s.qd.getD n.toNat bay0),SBay.sat (s.qd.getD n.toNat bay0),SBay.qg (s.qd.getD n.toNat bay0),())then leI (lk (s.name,D.sl 1 s.qa.length fun i=>busC
 (s.qa.getD i e0),D.sl 5 s.qb.length fun i=>Az (s.qb.getD i Ah),D.sl (6:Nat) s.qc.length fun i=>Ay (s.qc.getD i src0),D.sl 12 s.qd.length fun i=>bayC
 (s.qd.getD i bay0),()) (SBay.name (s.qd.getD n.toNat bay0),SBay.kind (s.qd.getD n.toNat bay0),SBay.off (s.qd.getD n.toNat bay0),SBay.fin (s.qd.getD n.toNat bay0),
 SBay.zr (s.qd.getD n.toNat bay0),SBay.zx (s.qd.getD n.toNat bay0),D.sl 2 (SBay.qe (s.qd.getD n.toNat bay0)).length fun i=>Gm ((SBay.qe (s.qd.getD n.toNat
 bay0)).getD i A4),SBay.qf (s.qd.getD n.toNat bay0),SBay.ct (s.qd.getD n.toNat bay0),SBay.vt (s.qd.getD n.toNat bay0),SBay.sat (s.qd.getD n.toNat bay0),SBay.qg
 (s.qd.getD n.toNat bay0),()))else none)):=by kernel_rfl
def o20(nk:BA ->Bool)(ok:D ->BA ->Bool)(ix:D ->BA ->Int):Orc:=Orc.cons 57 (ansP decS fun s=>vB (nk s)) (Orc.cons 52 (ansD dDS (fun a=>ok a.1.1 a.1.2.1) (fun a=>vI (ix a.1.1 a.1.2.1)) fun _=>[]) Orc.nil)
def ArO:Ann:=A1 []
theorem b20:f58.body=some (Ac f58):=by kernel_rfl
theorem ev20(nk:BA ->Bool)(ok:D ->BA ->Bool)(ix:D ->BA ->Int)(l:List BA)(s:BA)(g:Nat):Ai prog (o20 nk ok ix) ArO g f58 (Ac f58) [.c (.d (Ab l)),vS s] []=
 (bif !nk s then leI 7 else(bif ok (Ab l) s then(bif decide (ix (Ab l) s>=0)then leI 8 else leI 0)else none)):=by kernel_rfl
structure K8 where
 nk:BA ->Bool
 okn:(RSta×Int×Int×Int×Int×Unit) ->Bool
 nm:(RSta×Int×Int×Int×Int×Unit) ->D
 okd:D ->BA ->Bool
 nd:D ->BA ->Int
 okb:RSta ->Int ->Bool
 be:RSta ->Int ->Int
def o8(Z:K8):Orc:=Orc.cons 57 (ansP decS fun s=>vB (Z.nk s)) (Orc.cons 59 (ansD dSI4 (fun a=>Z.okn a.1) (fun a=> .c (.d (Z.nm a.1))) fun _=>[]) (Orc.cons 58 (ansD dDS (fun a=>Z.okd a.1.1 a.1.2.1) (fun a=>vI (Z.nd a.1.1 a.1.2.1)) fun _=>[])
 (Orc.cons 61 (inl prog oOh na 1 f61) (Orc.cons 62 (ansD dSI (fun a=>Z.okb a.1.1 a.1.2.1) (fun a=>vI (Z.be a.1.1 a.1.2.1)) fun _=>[]) oOh))))
def ann8:Ann:=A1 [(7,⟨[1,3,4,5,6,7],[]⟩),(13,⟨[1,3,4,5,6,9],[]⟩),(21,⟨[1,4,3,5,6,11],[]⟩),(29,⟨[1,5,4,3,6,13],[]⟩)]
def L8_7(Z:K8)(s:SSta)(g m:Nat)(i7:Int):=LK prog (o8 Z) ann8 0 g f28 7 m ⟨frm [(1, .c (.ptr 0 0)),(3,iA (↑(List.length (SSta.qa s)):Int)),(4,iA (↑(List.length (SSta.qb s)):Int)),(5,iA (↑(List.length (SSta.qc s)):Int)),(6,iA (↑(List.length (SSta.qd s)):Int)),(7,iA i7)] 0 f28.ntmps,[(0, .cells (List.map C.d (staC s)) 27)],1⟩
def X4(Z:K8)(s:SSta)(g m:Nat)(i9:Int):=LK prog (o8 Z) ann8 0 g f28 13 m ⟨frm [(1, .c (.ptr 0 0)),(3,iA (↑(List.length (SSta.qa s)):Int)),(4,iA (↑(List.length (SSta.qb s)):Int)),(5,iA (↑(List.length (SSta.qc s)):Int)),(6,iA (↑(List.length (SSta.qd s)):Int)),(9,iA i9)] 0 f28.ntmps,[(0, .cells (List.map C.d (staC s)) 27)],1⟩
def X3(Z:K8)(s:SSta)(g m:Nat)(i11:Int):=LK prog (o8 Z) ann8 0 g f28 21 m ⟨frm [(1, .c (.ptr 0 0)),(3,iA (↑(List.length (SSta.qa s)):Int)),(4,iA (↑(List.length (SSta.qb s)):Int)),(5,iA (↑(List.length (SSta.qc s)):Int)),(6,iA (↑(List.length (SSta.qd s)):Int)),(11,iA i11)] 0 f28.ntmps,[(0, .cells (List.map C.d (staC s)) 27)],1⟩
def Vm(Z:K8)(s:SSta)(g m:Nat)(i13:Int):=LK prog (o8 Z) ann8 0 g f28 29 m ⟨frm [(1, .c (.ptr 0 0)),(3,iA (↑(List.length (SSta.qa s)):Int)),(4,iA (↑(List.length (SSta.qb s)):Int)),(5,iA (↑(List.length (SSta.qc s)):Int)),(6,iA (↑(List.length (SSta.qd s)):Int)),(13,iA i13)] 0 f28.ntmps,[(0, .cells (List.map C.d (staC s)) 27)],1⟩
theorem b8:f28.body=some (Ac f28):=by kernel_rfl
theorem ev8(Z:K8)(s:SSta)(g:Nat):Ai prog (o8 Z) ann8 g f28 (Ac f28) [aSta s] []=
 (bif !K8.nk Z s.name then leI 7 else(bif decide ((↑s.qa.length:Int)<1)then leI 3 else(bif decide ((↑s.qa.length:Int)>4)then leI 3 else(bif decide
 ((↑s.qb.length:Int)>6)then leI 3 else(bif decide ((↑s.qc.length:Int)>4)then leI 3 else(bif decide ((↑s.qd.length:Int)>16)then leI 3 else L8_7 Z s g g
 0)))))):=by kernel_rfl
theorem AnP(Z:K8)(s:SSta)(g m:Nat)(i7:Int):L8_7 Z s g (m+1) i7=
 (bif decide (i7<(↑s.qa.length:Int))then(bif K8.okn Z ((s.name,D.sl 1 s.qa.length fun i=>busC (s.qa.getD i e0),D.sl 5 s.qb.length fun i=>Az (s.qb.getD i
 Ah),D.sl 6 s.qc.length fun i=>Ay (s.qc.getD i src0),D.sl 12 s.qd.length fun i=>bayC (s.qd.getD i bay0),()),i7,0,0,0,())then(bif decide (0<=i7)&&decide (i7
 <(↑s.qa.length:Int))then(bif K8.okd Z (K8.nm Z ((s.name,D.sl 1 s.qa.length fun i=>busC (s.qa.getD i e0),D.sl 5 s.qb.length fun i=>Az (s.qb.getD i Ah),
 D.sl 6 s.qc.length fun i=>Ay (s.qc.getD i src0),D.sl 12 s.qd.length fun i=>bayC (s.qd.getD i bay0),()),i7,0,0,0,())) (s.qa.getD i7.toNat e0)then(bif K8.nd Z
 (K8.nm Z ((s.name,D.sl 1 s.qa.length fun i=>busC (s.qa.getD i e0),D.sl 5 s.qb.length fun i=>Az (s.qb.getD i Ah),D.sl 6 s.qc.length fun i=>Ay (s.qc.getD i
 src0),D.sl 12 s.qd.length fun i=>bayC (s.qd.getD i bay0),()),i7,0,0,0,())) (s.qa.getD i7.toNat e0) !=0 then leI (K8.nd Z (K8.nm Z ((s.name,D.sl 1 s.qa.length
 fun i=>busC (s.qa.getD i e0),D.sl 5 s.qb.length fun i=>Az (s.qb.getD i Ah),D.sl 6 s.qc.length fun i=>Ay (s.qc.getD i src0),D.sl 12 s.qd.length fun i=>bayC
 (s.qd.getD i bay0),()),i7,0,0,0,())) (s.qa.getD i7.toNat e0))else L8_7 Z s g m (wrap .i64 (i7+1)))else none)else none)else none)else X4 Z s g g 0):=by kernel_rfl
theorem AjA(Z:K8)(s:SSta)(g m:Nat)(i9:Int):X4 Z s g (m+1) i9=
 (bif decide (i9<(↑s.qb.length:Int))then(bif K8.okn Z ((s.name,D.sl 1 s.qa.length fun i=>busC (s.qa.getD i e0),D.sl 5 s.qb.length fun i=>Az (s.qb.getD i
 Ah),D.sl 6 s.qc.length fun i=>Ay (s.qc.getD i src0),D.sl 12 s.qd.length fun i=>bayC (s.qd.getD i bay0),()),(↑s.qa.length:Int),i9,0,0,())then(bif decide
 (0<=i9)&&decide (i9<(↑s.qb.length:Int))then(bif K8.okd Z (K8.nm Z ((s.name,D.sl 1 s.qa.length fun i=>busC (s.qa.getD i e0),D.sl 5 s.qb.length fun i=>Az
 (s.qb.getD i Ah),D.sl 6 s.qc.length fun i=>Ay (s.qc.getD i src0),D.sl 12 s.qd.length fun i=>bayC (s.qd.getD i bay0),()),(↑s.qa.length:Int),i9,0,0,()))
 (SLine.name (s.qb.getD i9.toNat Ah))then(bif K8.nd Z (K8.nm Z ((s.name,D.sl 1 s.qa.length fun i=>busC (s.qa.getD i e0),D.sl 5 s.qb.length fun i=>Az
 (s.qb.getD i Ah),D.sl 6 s.qc.length fun i=>Ay (s.qc.getD i src0),D.sl 12 s.qd.length fun i=>bayC (s.qd.getD i bay0),()),(↑s.qa.length:Int),i9,0,0,()))
 (SLine.name (s.qb.getD i9.toNat Ah))==0 then(bif decide (0<=i9)&&decide (i9<(↑s.qb.length:Int))then(bif decide (SLine.r1 (s.qb.getD i9.toNat Ah)>=0)then(bif
 decide (SLine.r1 (s.qb.getD i9.toNat Ah)<=1000)then(bif decide (SLine.x1 (s.qb.getD i9.toNat Ah)>=1)then(bif !decide (SLine.x1 (s.qb.getD i9.toNat Ah)<=1000)then
 leI 2 else(bif decide (0<=i9)&&decide (i9<(↑s.qb.length:Int))then(bif decide (SLine.r0 (s.qb.getD i9.toNat Ah)>=0)then(bif decide (SLine.r0 (s.qb.getD
 i9.toNat Ah)<=1000)then(bif decide (SLine.x0 (s.qb.getD i9.toNat Ah)>=1)then(bif !decide (SLine.x0 (s.qb.getD i9.toNat Ah)<=1000)then leI 2 else(bif K8.nd Z (K8.nm Z
 ((s.name,D.sl 1 s.qa.length fun i=>busC (s.qa.getD i e0),D.sl 5 s.qb.length fun i=>Az (s.qb.getD i Ah),D.sl 6 s.qc.length fun i=>Ay (s.qc.getD i src0),
 D.sl 12 s.qd.length fun i=>bayC (s.qd.getD i bay0),()),(↑s.qa.length:Int),i9,0,0,())) (SLine.name (s.qb.getD i9.toNat Ah)) !=0 then leI (K8.nd Z (K8.nm Z
 ((s.name,D.sl 1 s.qa.length fun i=>busC (s.qa.getD i e0),D.sl 5 s.qb.length fun i=>Az (s.qb.getD i Ah),D.sl 6 s.qc.length fun i=>Ay (s.qc.getD i src0),
 D.sl 12 s.qd.length fun i=>bayC (s.qd.getD i bay0),()),(↑s.qa.length:Int),i9,0,0,())) (SLine.name (s.qb.getD i9.toNat Ah)))else X4 Z s g m (wrap .i64
 (i9+1))))else leI 2)else leI 2)else leI 2)else none))else leI 2)else leI 2)else leI 2)else none)else(bif K8.nd Z (K8.nm Z ((s.name,D.sl 1 s.qa.length fun i=>busC
 (s.qa.getD i e0),D.sl 5 s.qb.length fun i=>Az (s.qb.getD i Ah),D.sl 6 s.qc.length fun i=>Ay (s.qc.getD i src0),D.sl 12 s.qd.length fun i=>bayC (s.qd.getD
 i bay0),()),(↑s.qa.length:Int),i9,0,0,())) (SLine.name (s.qb.getD i9.toNat Ah)) !=0 then leI (K8.nd Z (K8.nm Z ((s.name,D.sl 1 s.qa.length fun i=>busC
 (s.qa.getD i e0),D.sl 5 s.qb.length fun i=>Az (s.qb.getD i Ah),D.sl 6 s.qc.length fun i=>Ay (s.qc.getD i src0),D.sl 12 s.qd.length fun i=>bayC (s.qd.getD
 i bay0),()),(↑s.qa.length:Int),i9,0,0,())) (SLine.name (s.qb.getD i9.toNat Ah)))else X4 Z s g m (wrap .i64 (i9+1))))else none)else none)else none)else
 X3 Z s g g 0):=by kernel_rfl
theorem Ajz(Z:K8)(s:SSta)(g m:Nat)(i11:Int):X3 Z s g (m+1) i11=
 (bif decide (i11<(↑s.qc.length:Int))then(bif K8.okn Z ((s.name,D.sl 1 s.qa.length fun i=>busC (s.qa.getD i e0),D.sl 5 s.qb.length fun i=>Az (s.qb.getD i
 Ah),D.sl 6 s.qc.length fun i=>Ay (s.qc.getD i src0),D.sl 12 s.qd.length fun i=>bayC (s.qd.getD i bay0),()),(↑s.qa.length:Int),(↑s.qb.length:Int),i11,0,
 ())then(bif decide (0<=i11)&&decide (i11<(↑s.qc.length:Int))then(bif K8.okd Z (K8.nm Z ((s.name,D.sl 1 s.qa.length fun i=>busC (s.qa.getD i e0),D.sl 5
 s.qb.length fun i=>Az (s.qb.getD i Ah),D.sl 6 s.qc.length fun i=>Ay (s.qc.getD i src0),D.sl 12 s.qd.length fun i=>bayC (s.qd.getD i bay0),()),
 (↑s.qa.length:Int),(↑s.qb.length:Int),i11,0,())) (SSrc.name (s.qc.getD i11.toNat src0))then(bif K8.nd Z (K8.nm Z ((s.name,D.sl 1 s.qa.length fun i=>busC
 (s.qa.getD i e0),D.sl 5 s.qb.length fun i=>Az (s.qb.getD i Ah),D.sl 6 s.qc.length fun i=>Ay (s.qc.getD i src0),D.sl 12 s.qd.length fun i=>bayC (s.qd.getD
 i bay0),()),(↑s.qa.length:Int),(↑s.qb.length:Int),i11,0,())) (SSrc.name (s.qc.getD i11.toNat src0))==0 then(bif decide (0<=i11)&&decide (i11<
 (↑s.qc.length:Int))then(bif decide (SSrc.emf (s.qc.getD i11.toNat src0)>=1)then(bif decide (SSrc.emf (s.qc.getD i11.toNat src0)<=1000000)then(bif decide (SSrc.r1
 (s.qc.getD i11.toNat src0)>=0)then(bif decide (SSrc.r1 (s.qc.getD i11.toNat src0)<=1000)then(bif decide (SSrc.x1 (s.qc.getD i11.toNat src0)>=1)then(bif decide
 (SSrc.x1 (s.qc.getD i11.toNat src0)<=1000)then(bif decide (SSrc.r0 (s.qc.getD i11.toNat src0)>=0)then(bif decide (SSrc.r0 (s.qc.getD i11.toNat src0)<=1000)then(bif
 decide (SSrc.x0 (s.qc.getD i11.toNat src0)>=1)then(bif !decide (SSrc.x0 (s.qc.getD i11.toNat src0)<=1000)then leI 2 else(bif K8.nd Z (K8.nm Z ((s.name,D.sl 1
 s.qa.length fun i=>busC (s.qa.getD i e0),D.sl 5 s.qb.length fun i=>Az (s.qb.getD i Ah),D.sl 6 s.qc.length fun i=>Ay (s.qc.getD i src0),D.sl 12
 s.qd.length fun i=>bayC (s.qd.getD i bay0),()),(↑s.qa.length:Int),(↑s.qb.length:Int),i11,0,())) (SSrc.name (s.qc.getD i11.toNat src0)) !=0 then leI (K8.nd
 Z (K8.nm Z ((s.name,D.sl 1 s.qa.length fun i=>busC (s.qa.getD i e0),D.sl 5 s.qb.length fun i=>Az (s.qb.getD i Ah),D.sl (6:Nat) s.qc.length fun i=>Ay
 (s.qc.getD i src0),D.sl 12 s.qd.length fun i=>bayC (s.qd.getD i bay0),()),(↑s.qa.length:Int),(↑s.qb.length:Int),i11,0,())) (SSrc.name (s.qc.getD
 i11.toNat src0)))else X3 Z s g m (wrap .i64 (i11+1))))else leI 2)else leI 2)else leI 2)else leI 2)else leI 2)else leI 2)else leI 2)else leI 2)else leI 2)else
 none)else(bif K8.nd Z (K8.nm Z ((s.name,D.sl 1 s.qa.length fun i=>busC (s.qa.getD i e0),D.sl 5 s.qb.length fun i=>Az (s.qb.getD i Ah),D.sl 6 s.qc.length fun
 i=>Ay (s.qc.getD i src0),D.sl 12 s.qd.length fun i=>bayC (s.qd.getD i bay0),()),(↑s.qa.length:Int),(↑s.qb.length:Int),i11,0,())) (SSrc.name (s.qc.getD
 i11.toNat src0)) !=0 then leI (K8.nd Z (K8.nm Z ((s.name,D.sl 1 s.qa.length fun i=>busC (s.qa.getD i e0),D.sl 5 s.qb.length fun i=>Az (s.qb.getD i Ah),D.sl 6
 s.qc.length fun i=>Ay (s.qc.getD i src0),D.sl 12 s.qd.length fun i=>bayC (s.qd.getD i bay0),()),(↑s.qa.length:Int),(↑s.qb.length:Int),i11,0,()))
 (SSrc.name (s.qc.getD i11.toNat src0)))else X3 Z s g m (wrap .i64 (i11+1))))else none)else none)else none)else Vm Z s g g 0):=by kernel_rfl
theorem Ajy(Z:K8)(s:SSta)(g m:Nat)(i13:Int):Vm Z s g (m+1) i13=
 (bif decide (i13<(↑s.qd.length:Int))then(bif K8.okn Z ((s.name,D.sl 1 s.qa.length fun i=>busC (s.qa.getD i e0),D.sl 5 s.qb.length fun i=>Az (s.qb.getD i
 Ah),D.sl 6 s.qc.length fun i=>Ay (s.qc.getD i src0),D.sl 12 s.qd.length fun i=>bayC (s.qd.getD i bay0),()),(↑s.qa.length:Int),(↑s.qb.length:Int),
 (↑s.qc.length:Int),i13,())then(bif decide (0<=i13)&&decide (i13<(↑s.qd.length:Int))then(bif K8.okd Z (K8.nm Z ((s.name,D.sl 1 s.qa.length fun i=>busC
 (s.qa.getD i e0),D.sl 5 s.qb.length fun i=>Az (s.qb.getD i Ah),D.sl 6 s.qc.length fun i=>Ay (s.qc.getD i src0),D.sl 12 s.qd.length fun i=>bayC (s.qd.getD
 i bay0),()),(↑s.qa.length:Int),(↑s.qb.length:Int),(↑s.qc.length:Int),i13,())) (SBay.name (s.qd.getD i13.toNat bay0))then(bif K8.nd Z (K8.nm Z ((s.name,D.sl
 1 s.qa.length fun i=>busC (s.qa.getD i e0),D.sl 5 s.qb.length fun i=>Az (s.qb.getD i Ah),D.sl 6 s.qc.length fun i=>Ay (s.qc.getD i src0),D.sl (12:Nat)
 s.qd.length fun i=>bayC (s.qd.getD i bay0),()),(↑s.qa.length:Int),(↑s.qb.length:Int),(↑s.qc.length:Int),i13,())) (SBay.name (s.qd.getD i13.toNat bay0))
 ==0 then(bif K8.okb Z (s.name,D.sl 1 s.qa.length fun i=>busC (s.qa.getD i e0),D.sl 5 s.qb.length fun i=>Az (s.qb.getD i Ah),D.sl 6 s.qc.length fun i=>Ay
 (s.qc.getD i src0),D.sl 12 s.qd.length fun i=>bayC (s.qd.getD i bay0),()) i13 then(bif K8.be Z (s.name,D.sl 1 s.qa.length fun i=>busC (s.qa.getD i e0),D.sl 5
 s.qb.length fun i=>Az (s.qb.getD i Ah),D.sl 6 s.qc.length fun i=>Ay (s.qc.getD i src0),D.sl 12 s.qd.length fun i=>bayC (s.qd.getD i bay0),()) i13 !=0 then
 leI (K8.be Z (s.name,D.sl 1 s.qa.length fun i=>busC (s.qa.getD i e0),D.sl 5 s.qb.length fun i=>Az (s.qb.getD i Ah),D.sl 6 s.qc.length fun i=>Ay (s.qc.getD
 i src0),D.sl 12 s.qd.length fun i=>bayC (s.qd.getD i bay0),()) i13)else Vm Z s g m (wrap IntKind.i64 (i13+1)))else none)else(bif K8.nd Z (K8.nm Z ((s.name,
 D.sl 1 s.qa.length fun i=>busC (s.qa.getD i e0),D.sl 5 s.qb.length fun i=>Az (s.qb.getD i Ah),D.sl 6 s.qc.length fun i=>Ay (s.qc.getD i src0),D.sl 12
 s.qd.length fun i=>bayC (s.qd.getD i bay0),()),(↑s.qa.length:Int),(↑s.qb.length:Int),(↑s.qc.length:Int),i13,())) (SBay.name (s.qd.getD i13.toNat bay0))
 !=0 then leI (K8.nd Z (K8.nm Z ((s.name,D.sl 1 s.qa.length fun i=>busC (s.qa.getD i e0),D.sl 5 s.qb.length fun i=>Az (s.qb.getD i Ah),D.sl 6 s.qc.length fun i
 =>Ay (s.qc.getD i src0),D.sl 12 s.qd.length fun i=>bayC (s.qd.getD i bay0),()),(↑s.qa.length:Int),(↑s.qb.length:Int),(↑s.qc.length:Int),i13,()))
 (SBay.name (s.qd.getD i13.toNat bay0)))else Vm Z s g m (wrap .i64 (i13+1))))else none)else none)else none)else leI 0):=by kernel_rfl
end Go.Y.st
end
