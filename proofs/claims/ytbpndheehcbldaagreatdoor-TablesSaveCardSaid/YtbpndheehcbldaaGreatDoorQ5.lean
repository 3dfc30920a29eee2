/-
  Go code evaluated: part 5. No condition.
-/
import Derived.Test.YtbpndheehcbldaaGreatDoorQ4
open Go.IntKind (wrap u32 i32)
noncomputable section
open Go.Proofs Go.Proofs.Tryz
set_option maxRecDepth 100000
namespace Go.Y.st
open Go.RowKit Go.Eb
def Aje:Ann:=A1 [(3,⟨[5,4,3,2,12,11],[]⟩),(7,⟨[5,4,3,13,11],[]⟩),(11,⟨[5,4,14,11],[]⟩)]
def Ajq(s:SSta)(nb nl ns nq:Int)(g m:Nat)(n1:Nat)(f1:RD)(i12:Int):=LK prog Orc.nil Aje 0 g f59 3 m ⟨frm [(2,iA nl),(3,iA ns),(4,iA nq),(5, .c (.ptr 0 0)),(11, .c (.row 1 1 n1)),(12,iA i12)] 0 f59.ntmps,[(0, .cells (List.map C.d (staC s)) 27),(1, .row n1 f1 1 9)],2⟩
def AgQ(s:SSta)(nb nl ns nq:Int)(g m:Nat)(n1:Nat)(f1:RD)(i13:Int):=LK prog Orc.nil Aje 0 g f59 7 m ⟨frm [(3,iA ns),(4,iA nq),(5, .c (.ptr 0 0)),(11, .c (.row 1 1 n1)),(13,iA i13)] 0 f59.ntmps,[(0, .cells (List.map C.d (staC s)) 27),(1, .row n1 f1 1 9)],2⟩
def X6(s:SSta)(nb nl ns nq:Int)(g m:Nat)(n1:Nat)(f1:RD)(i14:Int):=LK prog Orc.nil Aje 0 g f59 11 m ⟨frm [(4,iA nq),(5, .c (.ptr 0 0)),(11, .c (.row 1 1 n1)),(14,iA i14)] 0 f59.ntmps,[(0, .cells (List.map C.d (staC s)) 27),(1, .row n1 f1 1 9)],2⟩
theorem b21:f59.body=some (Ac f59):=by kernel_rfl
theorem ev21(s:SSta)(nb nl ns nq:Int)(g:Nat):Ai prog Orc.nil Aje g f59 (Ac f59) [aSta s,vI nb,vI nl,vI ns,vI nq] []=
 (bif decide (0<=(↑(0:Nat):Int))&&decide ((↑(0:Nat):Int)<=nb)&&decide (nb<=(↑s.qa.length:Int))then(bif decide ((0+(nb.toNat -Int.toNat (↑(0:Nat):Int)))
 *16<=140737488355328)&&decide (0+(nb.toNat -Int.toNat (↑(0:Nat):Int))<=9223372036854775807)then Ajq s nb nl ns nq g g (0+(nb.toNat -Int.toNat (↑(0:Nat):Int)))
 (appF 0 (Ae [] (0+1)) fun i=>busC (s.qa.getD (Int.toNat (↑(0:Nat):Int)+i) e0)) 0 else none)else none):=by kernel_rfl
theorem AjI(s:SSta)(nb nl ns nq:Int)(g m:Nat)(n1:Nat)(f1:RD)(i12:Int):Ajq s nb nl ns nq g (m+1) n1 f1 i12=
 (bif decide (i12<nl)then(bif decide (0<=i12)&&decide (i12<(↑s.qb.length:Int))then(bif decide ((n1+1)*16<=(140737488355328:Nat))&&decide (n1+1<=
 9223372036854775807)then Ajq s nb nl ns nq g m (n1+1) (appF n1 f1 (Ae [dS (SLine.name (s.qb.getD i12.toNat Ah))] (0+1))) (wrap .i64 (i12+1))else none)else none)
 else AgQ s nb nl ns nq g g n1 f1 0):=by kernel_rfl
theorem AjH(s:SSta)(nb nl ns nq:Int)(g m:Nat)(n1:Nat)(f1:RD)(i13:Int):AgQ s nb nl ns nq g (m+1) n1 f1 i13=
 (bif decide (i13<ns)then(bif decide (0<=i13)&&decide (i13<(↑s.qc.length:Int))then(bif decide ((n1+1)*16<=(140737488355328:Nat))&&decide (n1+1<=
 9223372036854775807)then AgQ s nb nl ns nq g m (n1+1) (appF n1 f1 (Ae [dS (SSrc.name (s.qc.getD i13.toNat src0))] (0+1))) (wrap .i64 (i13+1))else none)else none)
 else X6 s nb nl ns nq g g n1 f1 0):=by kernel_rfl
theorem AdE(s:SSta)(nb nl ns nq:Int)(g m:Nat)(n1:Nat)(f1:RD)(i14:Int):X6 s nb nl ns nq g (m+1) n1 f1 i14=
 (bif decide (i14<nq)then(bif decide (0<=i14)&&decide (i14<(↑s.qd.length:Int))then(bif decide ((n1+1)*16<=(140737488355328:Nat))&&decide (n1+1<=
 9223372036854775807)then X6 s nb nl ns nq g m (n1+1) (appF n1 f1 (Ae [dS (SBay.name (s.qd.getD i14.toNat bay0))] (0+1))) (wrap .i64 (i14+1))else none)else none)
 else some (T.leaf (.c (.row (0) (1) n1),[(0, .row n1 f1 (1) (9))]))):=by kernel_rfl
theorem b46:f52.body=some (Ac f52):=by kernel_rfl
def idxF(s:BA):Nat ->List BA ->Int
 |_,[]=> -1|i,x::r=>bif x.toList==s.toList then(i:Int)else idxF s (i+1) r
theorem Ajs(a b:BA):(a.toList==b.toList)=(b.data.toList==a.data.toList):=by
 rw[ByteArray.toList_eq,ByteArray.toList_eq,Bool.beq_comm]
theorem Up(s:BA): ∀(l:List BA) (i:Nat),decide (idxF s i l>=0)=inB l s
 |[],i=>rfl|x::r,i=>by
  have ih:=Up s r (i+1);unfold inB at ih⊢;simp only[idxF,List.any_cons,Ajs];cases(s.data.toList==x.data.toList)with
  |true=>simp only[za,Bool.true_or];exact zk|false=>simp only[zb,Bool.false_or];exact ih
theorem lp46(l:List BA)(s:BA)(g:Nat)(hl:l.length<=9223372036854775807): ∀(m k:Nat),k<=l.length ->l.length -k<m ->L46 l s g m k=some (.leaf (vI (idxF s k (l.drop k)),[]))
 |0,k,_,h=>by omega|m+1,k,hk,h=>by
  rw[st46];by_cases hlt:k<l.length
  ·have ih:=lp46 l s g hl m (k+1) (by omega) (by omega);rw[Av (d:=e0) hlt];simp only[lt1 hlt,ge0,tn,Bool.and_self,za,nx hlt hl,ih,idxF];cases((l.getD k e0).toList==s.toList)<;>rfl
  ·rw[lt0 hlt,zl];rfl
theorem c46(l:List BA)(s:BA)(hl:l.length<=9223372036854775807):CX prog 52 [.c (.d (Ab l)),vS s] [] (vI (idxF s 0 l)) []:=by
 obtain⟨g,hg⟩: ∃g,l.length<g:=⟨l.length+1,by omega⟩;exact Am (Orc.nil_ok _) func52 b46 rfl ((ev46 l s g).trans (lp46 l s g hl g 0 (by omega) (by omega)))
def okDS(x:D)(_:BA):Bool:=okE Ab x&&decide ((theE Ab x).length<=9223372036854775807)
def ixDS(x:D)(s:BA):Int:=idxF s 0 (theE Ab x)
theorem s20:OrcS prog (o20 Ag okDS ixDS):=by
 refine .cons (.p D9 c16) (.cons (.d fun a ha=> ?_) .nil);unfold okDS at ha;simp only[zd,zi]at ha;exact(c46 (theE Ab a.1.1) a.1.2.1 ha.2).ge (.cons (Du ha.1) (.cons (.refl _) .nil)) (.refl _)
theorem c20(l:List BA)(s:BA)(hl:l.length<=9223372036854775807):CX prog 58 [.c (.d (Ab l)),vS s] [] (vI (Bq l s)) []:=by
 refine Am s20.ok func58 b20 rfl ((ev20 Ag okDS ixDS l s 1).trans ?_);have e1:okDS (Ab l) s=true:=by unfold okDS;rw[(Bj Ca l).1,(Bj Ca l).2];simp[hl]
 have e2:ixDS (Ab l) s=idxF s 0 l:=by unfold ixDS;rw[(Bj Ca l).2]
 rw[e1,e2,Up];unfold Bq;cases Ag s<;>cases inB l s<;>rfl
theorem app_loop{J:Type}{nm:J ->BA}{d0:J}{l:List J}{q:Nat}{L:Nat ->Nat ->RD ->Int ->Option (T (AV×Hp))}{E:Nat ->RD ->Option (T (AV×Hp))}(hq:q<=l.length)(hq2:q<=900)
  (hst: ∀(m k n:Nat) (f:RD),k<q ->n<=9000 ->L (m+1) n f k=L m (n+1) (appF n f (Ae (busC (nm (l.getD k d0))) 1)) ((k+1:Nat):Int)) (hend: ∀m n f,L (m+1) n f q=E n f):
  ∀(m k n:Nat) (f:RD) (acc:List BA),RL busC e0 n f acc ->k<=q ->q -k<m ->acc.length+(q -k)<=9000 -> ∃n' f',RL busC e0 n' f' (acc++((l.take q).drop k).map nm)/\L m n f k=E n' f'
 |0,k,n,f,acc,_,_,h,_=>by omega|m+1,k,n,f,acc,hr,hk,h,hb=>by
  by_cases e:k=q
  ·subst e;rw[hend,zl (by simp;omega)];exact⟨n,f,by simpa using hr,rfl⟩
  ·have hlt:k<q:=by omega
   rw[hst m k n f hlt (by have:=hr.len;omega)];have ht:k<(l.take q).length:=by simp;omega
   have hg:(l.take q).getD k d0=l.getD k d0:=by simp[List.getD,hlt]
   rw[Av (d:=d0) ht,hg];obtain⟨n',f',h1,h2⟩:=app_loop hq hq2 hst hend m (k+1) (n+1) (appF n f (Ae (busC (nm (l.getD k d0))) 1)) (acc++[nm (l.getD k d0)]) (hr.app' rfl) (by omega) (by omega) (by simp;omega);exact⟨n',f',by simpa using h1,h2⟩
def B0(s:SSta)(nb nl ns nq:Nat):List BA:=s.qa.take nb++(s.qb.take nl).map SLine.name++(s.qc.take ns).map SSrc.name++(s.qd.take nq).map SBay.name
theorem apOk{n:Nat}(h:n<=9000):(decide ((n+1)*16<=140737488355328)&&decide (n+1<=9223372036854775807))=true:=by
 rw[zk,zk];rfl
theorem c21(s:SSta)(nb nl ns nq:Nat)(h1:nb<=s.qa.length)(h2:nl<=s.qb.length)(h3:ns<=s.qc.length)(h4:nq<=s.qd.length)(g1:nb<=900)(g2:nl<=900)(g3:ns<=900)(g4:nq<=900):
  CX prog 59 [aSta s,vI nb,vI nl,vI ns,vI nq] [] (.c (.d (Ab (B0 s nb nl ns nq)))) []:=by
 obtain⟨g,hg⟩: ∃g,900<g:=⟨901,by omega⟩;have lt1': ∀{k n:Nat},k<n ->decide ((k:Int)<(n:Int))=true:=lt1;have p4:=fun n f acc (hr:RL busC e0 n f acc) (hb:acc.length<=8000)=>app_loop (nm:=SBay.name) (d0:=bay0) (l:=s.qd) (q:=nq) (L:=fun m n f i=>X6 s nb nl ns nq g m n f i) (E:=fun n f=>some (.leaf (.c (.row 0 1 n),[(0, .row n f 1 9)]))) h4 g4
  (fun m k n f hk hn=>by
    rw[AdE];simp only[lt1 hk,lt1 (show k<s.qd.length by omega),ge0,tn,Bool.and_self,za,nx hk,apOk hn];rfl)
  (fun m n f=>by rw[AdE,lt0 (zp _)];rfl) g 0 n f acc hr (by omega) (by omega) (by omega)
 have p3:=fun n f acc (hr:RL busC e0 n f acc) (hb:acc.length<=7000)=>app_loop (nm:=SSrc.name) (d0:=src0) (l:=s.qc) (q:=ns) (L:=fun m n f i=>AgQ s nb nl ns nq g m n f i) (E:=fun n f=>X6 s nb nl ns nq g g n f 0) h3 g3
  (fun m k n f hk hn=>by
    rw[AjH];simp only[lt1 hk,lt1 (show k<s.qc.length by omega),ge0,tn,Bool.and_self,za,nx hk,apOk hn];rfl)
  (fun m n f=>by rw[AjH,lt0 (zp _)];rfl) g 0 n f acc hr (by omega) (by omega) (by omega)
 have p2:=fun n f acc (hr:RL busC e0 n f acc) (hb:acc.length<=6000)=>app_loop (nm:=SLine.name) (d0:=Ah) (l:=s.qb) (q:=nl) (L:=fun m n f i=>Ajq s nb nl ns nq g m n f i) (E:=fun n f=>AgQ s nb nl ns nq g g n f 0) h2 g2
  (fun m k n f hk hn=>by
    rw[AjI];simp only[lt1 hk,lt1 (show k<s.qb.length by omega),ge0,tn,Bool.and_self,za,nx hk,apOk hn];rfl)
  (fun m n f=>by rw[AjI,lt0 (zp _)];rfl) g 0 n f acc hr (by omega) (by omega) (by omega)
 have hr0:RL busC e0 (0+(Int.toNat (nb:Int) -Int.toNat ((0:Nat):Int))) (appF 0 (Ae [] (0+1)) fun i=>busC (s.qa.getD (Int.toNat ((0:Nat):Int)+i) e0)) (s.qa.take nb):=by
  have:RL busC e0 nb (fun i=>busC (s.qa.getD (Int.toNat ((0:Nat):Int)+i) e0)) (s.qa.take nb):= .eq (by simp;omega) fun i hi=>by
   have e:(s.qa.take nb).getD i e0=s.qa.getD i e0:=by simp[List.getD,hi]
   rw[e];simp
  have h:=(RL.nil (c:=busC) (d0:=e0) (Ae [] (0+1))).cat this;simpa using h
 obtain⟨n2,f2,r2,q2⟩:=p2 _ _ _ hr0 (by simp;omega);obtain⟨n3,f3,r3,q3⟩:=p3 _ _ _ r2 (by simp;omega);obtain⟨n4,f4,r4,q4⟩:=p4 _ _ _ r3 (by simp;omega);have hev:=ev21 s nb nl ns nq g;have e1:(decide ((0:Int)<=((0:Nat):Int))&&decide (((0:Nat):Int)<=(nb:Int))&&decide ((nb:Int)<=(s.qa.length:Int)))=true:=by
  rw[zk,zk,zk];rfl
 have e2:(decide ((0+(Int.toNat (nb:Int) -Int.toNat ((0:Nat):Int)))*16<=140737488355328)&&decide (0+(Int.toNat (nb:Int) -Int.toNat ((0:Nat):Int))<=9223372036854775807))=true:=by
  rw[zk,zk];rfl
 rw[e1,e2]at hev;simp only[za]at hev;have hc:=Mc (Orc.nil_ok prog) func59 b21 rfl (hev.trans (q2.trans (q3.trans q4)));have hd:=hc.data (y:= .c (.d (.sl 1 n4 f4))) rfl;refine(CX.of_cr func59 b21 hd).le ?_ (.refl _);have r4':RL busC e0 n4 f4 (B0 s nb nl ns nq):=by unfold B0;simpa using r4
 exact r4'.de
end Go.Y.st
namespace Go.Y.sg
open Go.RowKit Go.Eb Go.Y.st
def w10(t:TypeId)(k:Int):BA:=ByteArray.mk #[(116:UInt8),(114:UInt8),(105:UInt8),(112:UInt8)]++K5 (1:Nat) (some (Blk.cells [C.d (D.v (Value.int IntKind.u8 (wrap IntKind.u8 (wrap IntKind.i64 ((48:Int)+k)))))] t))
def w16(t:TypeId)(k:Int):BA:=ByteArray.mk #[(116:UInt8),(114:UInt8),(105:UInt8),(112:UInt8),(49:UInt8)]++K5 (1:Nat) (some (Blk.cells [C.d (D.v (Value.int IntKind.u8 (wrap IntKind.u8 (wrap IntKind.i64 ((48:Int)+k)))))] t))
def ck1(t:TypeId)(k:Int):Bool:=Ey (1:Nat) (some (Blk.cells [C.d (D.v (Value.int IntKind.u8 (wrap IntKind.u8 (wrap IntKind.i64 ((48:Int)+k)))))] t))
theorem Ala(t:TypeId)(k:Nat)(h:k<10):ck1 t k=true/\w10 t k=sgBus.getD k e0:=by
 have:k=0\/k=1\/k=2\/k=3\/k=4\/k=5\/k=6\/k=7\/k=8\/k=9:=by omega
 rcases this with rfl|rfl|rfl|rfl|rfl|rfl|rfl|rfl|rfl|rfl<;>exact⟨rfl,rfl⟩
theorem AkZ(t:TypeId)(k:Nat)(h:k<6):ck1 t k=true/\w16 t k=sgBus.getD (10+k) e0:=by
 have:k=0\/k=1\/k=2\/k=3\/k=4\/k=5:=by omega
 rcases this with rfl|rfl|rfl|rfl|rfl|rfl<;>exact⟨rfl,rfl⟩
theorem Zi:sgBus.length=16:=by simp[sgBus]
theorem Abe{n:Nat}{f:RD}(h:n<16)(hr:RLe busC e0 n f (sgBus.take n)){w:BA}(hw:w=sgBus.getD n e0):RLe busC e0 (n+1) (appF n f (Ae [D.v (Value.string w)] 1)) (sgBus.take (n+1)):=by
 have:=hr.app (x:=sgBus.getD n e0) (sz:=1) (ds:=[D.v (Value.string w)]) rfl (by rw[hw];exact .refl _);rw[List.take_add_one,show sgBus[n]? =some (sgBus.getD n e0)by simp[List.getD,Zi,h]];exact this
theorem AeK(q:Int)(g:Nat): ∀(m k:Nat) (f:RD),k<=6 ->6 -k<m ->RLe busC e0 (10+k) f (sgBus.take (10+k)) -> ∃f',RLe busC e0 16 f' sgBus/\Vc q g m (10+k) f k=lfR 16 f'
 |0,k,f,_,h,_=>by omega|m+1,k,f,hk,h,hr=>by
  rw[AgU];by_cases hlt:k<6
  ·obtain⟨e2,e3⟩:=AkZ 5 k hlt;have hr':=Abe (by omega) hr e3;obtain⟨f',h1,h2⟩:=AeK q g m (k+1) _ (by omega) (by omega) hr';refine⟨f',h1, ?_⟩;have e1:decide ((k:Int)<6)=true:=zk;unfold ck1 at e2;rw[e1,e2,J0 (by omega),za,za,za,show wrap IntKind.i64 ((k:Int)+1)=((k+1:Nat):Int)by rw[wrap_id];omega,Nat.zero_add];exact h2
  ·obtain rfl:k=6:=by omega
   rw[List.take_of_length_le (by rw[Zi];omega)]at hr;exact⟨f,hr,rfl⟩
theorem AeL(q:Int)(g:Nat)(hg:6<g): ∀(m k:Nat) (f:RD),k<=10 ->10 -k<m ->RLe busC e0 k f (sgBus.take k) -> ∃f',RLe busC e0 16 f' sgBus/\Nh q g m k f k=lfR 16 f'
 |0,k,f,_,h,_=>by omega|m+1,k,f,hk,h,hr=>by
  rw[AgV];by_cases hlt:k<10
  ·obtain⟨e2,e3⟩:=Ala 5 k hlt;have hr':=Abe (by omega) hr e3;obtain⟨f',h1,h2⟩:=AeL q g hg m (k+1) _ (by omega) (by omega) hr';refine⟨f',h1, ?_⟩;have e1:decide ((k:Int)<10)=true:=zk;unfold ck1 at e2;rw[e1,e2,J0 (by omega),za,za,za,show wrap IntKind.i64 ((k:Int)+1)=((k+1:Nat):Int)by rw[wrap_id];omega,Nat.zero_add];exact h2
  ·obtain rfl:k=10:=by omega
   have e1:decide (((10:Nat):Int)<10)=false:=rfl;rw[e1,zb];exact AeK q g g 0 f (by omega) (by omega) hr
theorem cRfi(k:Int)(h1:1<=k)(h4:k<=4):CX prog 53 [vI k] [] (rowS (Cu k)) (hpS (Cu k)):=by
 have:k=1\/k=2\/k=3\/k=4:=by omega
 have go: ∀(k:Int) (l:List BA),Ai prog Orc.nil Abo 20 f53 (Ac f53) [vI k] []=some (.leaf (.c (.row 0 1 l.length),[(0, .cells ((l.map dS).map .d) 9)])) ->
  CX prog 53 [vI k] [] (rowS l) (hpS l):=fun k l h=>
  CX.of_cr func53 brfi (CR.cellsRow (ds:=l.map dS) (by simp) (fun i hi=>by
   simp[busC,List.getD,hi]) (Mc (Orc.nil_ok _) func53 brfi rfl h))
 rcases this with rfl|rfl|rfl|rfl
 ·have e:=Aiu 1 20;rw[show((1:Int)==1)=true from rfl,za]at e;exact go 1 sgLine e
 ·have e:=Aiu 2 20;rw[show((2:Int)==1)=false from rfl,zb,show((2:Int)==2)=true from rfl,za,za]at e;exact go 2 sgSrc e
 ·have e:=Aiu 3 20;rw[show((3:Int)==1)=false from rfl,zb,show((3:Int)==2)=false from rfl,zb,show((3:Int)==3)=true from rfl,za]at e;exact go 3 sgSrc e
 ·obtain⟨f',hr,he⟩:=AeL 4 20 (by omega) 20 0 (fun _=>[]) (by omega) (by omega) (.nil _);have e:=Aiu 4 20;rw[show((4:Int)==1)=false from rfl,zb,show((4:Int)==2)=false from rfl,zb,show((4:Int)==3)=false from rfl,zb,show((4:Int)==4)=true from rfl,za]at e;have he:Nh 4 20 20 0 (fun _=>[]) 0=_:=he;have c:=Am (Orc.nil_ok _) func53 brfi rfl (e.trans he);show CX prog 53 [vI 4] [] (rowS sgBus) (hpS sgBus);unfold rowS hpS;rw[Zi];exact c.le (.refl _) (.cons ⟨rfl,rfl,rfl,hr.le⟩ (.refl _))
theorem cROu(r:SRel)(h:FitR r):CX prog 24 [aRel r] [] (rowS (outS r)) (hpS (outS r)):=by
 have ho:OrcS prog (oRu (okG eI1 k14) fun x=>Cu (theT eI1 x)):=
  .cons (.nt (enc:=eI1) (c:=k14) (r:=fun k=>rowS (Cu k)) (H':=fun k=>hpS (Cu k)) fun k hk=>by
   unfold k14 at hk;simp only[zd,zi]at hk;exact cRfi k hk.1 hk.2) .nil
 have hru:=h.ru;have hfl:=Rj r.kind;have e:=AqD (okG eI1 k14) (fun x=>Cu (theT eI1 x)) r (r.qi.length+1);have k1:okG eI1 k14 [AV.c (C.d (D.v (Value.int IntKind.i64 r.kind)))]=true:=Ao M2 (c:=k14) r.kind (by unfold k14;rw[zk h.k1,zk h.k4];rfl);have k2:theT eI1 [AV.c (C.d (D.v (Value.int IntKind.i64 r.kind)))]=r.kind:=Aj M2 r.kind;rw[k1,k2,za]at e;obtain⟨f',h1,h2⟩:=app_loop (L:=fun m n f i=>Aby (okG eI1 k14) (fun x=>Cu (theT eI1 x)) r (r.qi.length+1) m n f i) (K:=lfR) (l:=r.qi) (d:=Be) (c:=busC) (d0:=e0) (ch:=fun x=>[dS x.name]) (e:=SRule.name) (sz:=1)
  (fun m k n f hk hn=>by rw[AcZ,lt1 hk,ge0,tn,nx hk,J0 (by omega),tt,za,za,za,Nat.zero_add])
  (fun m n f=>by rw[AcZ,lt0 (zp _)];rfl) (fun _=>rfl) (fun k hk=> .refl _) (r.qi.length+1) 0 (Cu r.kind).length (fun i=>busC ((Cu r.kind).getD i e0)) (Cu r.kind) (by omega) (by omega) (by omega) ⟨rfl,fun i _=> .refl _⟩
 simp only[Nat.sub_zero,zq]at h1 h2;have h1:RLe busC e0 ((Cu r.kind).length+r.qi.length) f' (outS r):=h1;refine(Am ho.ok func24 brou rfl (e.trans h2)).le ?_ (.cons ⟨h1.len,rfl,rfl,h1.le⟩ (.refl _));unfold rowS;rw[h1.len];exact .refl _
theorem cRIn(r:SRel)(h:FitR r):CX prog 126 [aRel r] [] (.c (.d (Ab (inS r)))) []:=by
 have hl:=h.su;obtain⟨f',h1,h2⟩:=app_loop (L:=fun m n f i=>Xp r (r.ql.length+1) m n f i) (K:=lfR) (l:=r.ql) (d:=sub0) (c:=busC) (d0:=e0) (ch:=fun x=>[dS x.loc]) (e:=SSub.loc) (sz:=1)
  (fun m k n f hk hn=>by rw[Ada,lt1 hk,ge0,tn,nx hk,J0 (by omega),tt,za,za,za,Nat.zero_add])
  (fun m n f=>by rw[Ada,lt0 (zp _)];rfl) (fun _=>rfl) (fun k hk=> .refl _) (r.ql.length+1) 0 0 (fun _=>[]) [] (by omega) (by omega) (by omega) (.nil _)
 simp only[Nat.sub_zero,Nat.zero_add,List.nil_append,zq]at h1 h2;have h2:Xp r (r.ql.length+1) (r.ql.length+1) 0 (fun _=>[]) 0=lfR r.ql.length f':=h2;have hc:=(Mc (Orc.nil_ok _) func126 brin rfl ((AqE r (r.ql.length+1)).trans h2)).data (y:= .c (.d (.sl 1 r.ql.length f'))) rfl;exact(CX.of_cr func126 brin hc).le (show DE _ _ from h1.de) (.refl _)
theorem cRrl(c:SCfg)(n:BA)(h:Au c.qh=true):CX prog 54 [aCfg c,vS n] [] (vI (F9 c.qh n)) []:=
 Am (Orc.nil_ok _) func54 brrl rfl ((AqA c n (c.qh.length+1)).trans (Lx (p:=fun r:SRel=>isT r.name n) (l:=c.qh) (d0:=rel0) (L:=fun m i=>Abv c n (c.qh.length+1) m i) (fun m k hk=>by
  rw[AcX,lt1 hk,ge0,tn,nx hk (Bi h),tt,za,za]) (fun m=>by rw[AcX,lt0 (zp _)];rfl) (c.qh.length+1) 0 (by omega) (by omega)))
theorem cRse(r:SRel)(n:BA)(h:Au r.qj=true):CX prog 55 [aRel r,vS n] [] (vI (Cy r n)) []:=
 Am (Orc.nil_ok _) func55 brse rfl ((Aqz r n (r.qj.length+1)).trans (Lx (p:=fun s:SSet=>isT s.name n) (l:=r.qj) (d0:=set0) (L:=fun m i=>Abu r n (r.qj.length+1) m i) (fun m k hk=>by
  rw[AcW,lt1 hk,ge0,tn,nx hk (Bi h),tt,za,za]) (fun m=>by rw[AcW,lt0 (zp _)];rfl) (r.qj.length+1) 0 (by omega) (by omega)))
abbrev lB(b:Bool):Option (T (AV×Hp)):=some (.leaf (vB b,[]))
theorem cRpu(r:SRel)(n:BA)(h:Au r.qk=true):CX prog 56 [aRel r,vS n] [] (vB (r.qk.any fun p=>isT p.set n)) []:=by
 have e:=Gt (p:=fun p:SPub=>isT p.set n) (l:=r.qk) (d0:=pub0) (L:=fun m i=>Abw r n (r.qk.length+1) m i) (A:=lB true) (B:=lB false) (fun m k hk=>by
  rw[AcY,lt1 hk,ge0,tn,nx hk (Bi h),tt,za,za]) (fun m=>by rw[AcY,lt0 (zp _)];rfl) (r.qk.length+1) 0 (by omega) (by omega)
 refine Am (Orc.nil_ok _) func56 brpu rfl ((AqB r n (r.qk.length+1)).trans (Eq.trans e ?_));rw[zq];cases(r.qk.any fun p=>isT p.set n)<;>rfl
theorem Akj(s:BA): ∀(l:List BA) (i:Nat),idxF s i l=idxP (fun x:BA=>isT x s) i l
 |[],i=>rfl|x::t,i=>by
  unfold idxF idxP;rw[Akj s t (i+1)]
theorem cRix(l:List BA)(n:BA)(h:Au l=true):CX prog 52 [.c (.d (Ab l)),vS n] [] (vI (F3 l n)) []:=by
 have:=c46 l n (Bi h);rw[Akj]at this;exact this
abbrev eCS:=en2 aCfg vS
theorem AfW:InjT eCS:=K4 Abr AcK
def ZRf:KRf where
 okl:=okG eCS fun a=>Au a.1.qh
 rl x:=F9 (theT eCS x).1.qh (theT eCS x).2
 oks:=okG eRS fun a=>Au a.1.qj&&Au a.1.qk
 se x:=Cy (theT eRS x).1 (theT eRS x).2
 pu x:=(theT eRS x).1.qk.any fun p=>isT p.set (theT eRS x).2
 okx:=okG eIx cIx
 ix x:=F3 (theT eIx x).1 (theT eIx x).2
theorem sRf:OrcS prog (oRf ZRf):=
 .cons (.t' (enc:=eCS) (c:=fun a=>Au a.1.qh) (r:=fun a=>vI (F9 a.1.qh a.2)) fun a h=>cRrl a.1 a.2 h)
  (.cons (.t' (enc := eRS) (c := fun a => Au a.1.qj && Au a.1.qk) (r := fun a => vI (Cy a.1 a.2)) fun a h => cRse a.1 a.2 (by simp only[zd]at h;exact h.1))
  (.cons (.t' (enc := eRS) (c := fun a => Au a.1.qj && Au a.1.qk) (r := fun a => vB (a.1.qk.any fun p => isT p.set a.2)) fun a h => cRpu a.1 a.2 (by simp only[zd]at h;exact h.2))
  (.cons (.t' (enc:=eIx) (c:=cIx) (r:=fun a=>vI (F3 a.1 a.2)) fun a h=>cRix a.1 a.2 h) .nil)))
theorem cRFi(c:SCfg)(i k:Nat)(hc:fitC c.qh=true)(hi:i<c.qh.length)(hk:k<(c.qh.getD i rel0).ql.length):CX prog 25 [aCfg c,vI i,vI k] [] (aPl (Ut c.qh i ((c.qh.getD i rel0).ql.getD k sub0))) []:=by
 obtain⟨hn,hf,ho⟩:=E6 hc;refine Am sRf.ok func25 (by kernel_rfl) rfl ((evRf ZRf c i k).trans ?_);have t1:decide ((i:Int)<0)=false:=zt;have t2:decide ((i:Int)>=(c.qh.length:Int))=false:=zt;have t3:decide ((k:Int)<0)=false:=zt;have t4:(decide ((0:Int)<=i)&&decide ((i:Int)<(c.qh.length:Int)))=true:=by rw[zk,zk];rfl
 have t5:decide ((k:Int)>=((c.qh.getD i rel0).ql.length:Int))=false:=zt;have t6:(decide ((0:Int)<=k)&&decide ((k:Int)<((c.qh.getD i rel0).ql.length:Int)))=true:=by rw[zk,zk];rfl
 rw[t1,t2,t3,t4,tn i,t5,t6,tn k];simp only[za,zb];generalize (c.qh.getD i rel0).ql.getD k sub0=x;have k1:ZRf.okl [AV.agg (List.map C.d (cfgC c)),AV.c (C.d (D.v (Value.string x.dev)))]=true:=Ao AfW (c:=fun a=>Au a.1.qh) (c,x.dev) (by unfold Au;exact zk (by show c.qh.length<=_;omega));have s1:theT eCS [AV.agg (List.map C.d (cfgC c)),AV.c (C.d (D.v (Value.string x.dev)))]=(c,x.dev):=Aj AfW (c,x.dev);have k2:ZRf.rl [AV.agg (List.map C.d (cfgC c)),AV.c (C.d (D.v (Value.string x.dev)))]=F9 c.qh x.dev:=by dsimp only[ZRf];rw[s1]
 rw[k1,k2];simp only[za];show _=some (T.leaf (aPl (Pr c.qh i (F9 c.qh x.dev) x),([]:Hp)));unfold Pr;obtain⟨dl,_⟩:=P9 c.qh x.dev;generalize F9 c.qh x.dev=d at dl⊢;cases h1:decide (d<0)with
 |true=>rfl|false=>
  have h1':0<=d:=by have:=of_decide_eq_false h1;omega
  cases h2:(d==(i:Int))with
  |true=>rfl|false=>
   have e1:(decide (0<=d)&&decide (d<(c.qh.length:Int)))=true:=by rw[zk h1',zk dl];rfl
   have hr:Ci (c.qh.getD d.toNat rel0)=true:=E7 ho rfl _;generalize c.qh.getD d.toNat rel0=r at hr⊢;obtain⟨_,o2,o3,_,o5⟩:=Jd hr;have k3:ZRf.oks [AV.agg (List.map C.d (relC r)),AV.c (C.d (D.v (Value.string x.set)))]=true:=Ao Jl (c:=fun a=>Au a.1.qj&&Au a.1.qk) (r,x.set) (by unfold Au;rw[zk o2,zk o3];rfl);have s2:theT eRS [AV.agg (List.map C.d (relC r)),AV.c (C.d (D.v (Value.string x.set)))]=(r,x.set):=Aj Jl (r,x.set);have k4:ZRf.se [AV.agg (List.map C.d (relC r)),AV.c (C.d (D.v (Value.string x.set)))]=Cy r x.set:=by dsimp only[ZRf];rw[s2]
   have k5:ZRf.pu [AV.agg (List.map C.d (relC r)),AV.c (C.d (D.v (Value.string x.set)))]=r.qk.any fun p=>isT p.set x.set:=by dsimp only[ZRf];rw[s2]
   rw[e1,k3,k4,k5];simp only[za,zb];unfold AmF;cases h3:decide (Cy r x.set<0)with
   |true=>rfl|false=>
    cases h4:(r.qk.any fun p=>isT p.set x.set)with
    |false=>rfl|true=>
     obtain⟨j,hj,hje,_⟩:=Afg (p:=fun s:SSet=>isT s.name x.set) set0 (l:=r.qj) (by have:=of_decide_eq_false h3;show 0<=Cy r x.set;omega);have hje:Cy r x.set=j:=hje;have e2:(decide (0<=Cy r x.set)&&decide (Cy r x.set<(r.qj.length:Int)))=true:=by rw[hje,zk,zk];rfl
     have hs:Ln (r.qj.getD (Cy r x.set).toNat set0)=true:=E7 o5 rfl _;generalize r.qj.getD (Cy r x.set).toNat set0=q at hs⊢;have k6:ZRf.okx [AV.c (C.d (Ad 1 busC e0 q.qm)),AV.c (C.d (D.v (Value.string x.sig)))]=true:=Ao Et (c:=cIx) (q.qm,x.sig) hs;have s3:theT eIx [AV.c (C.d (Ad 1 busC e0 q.qm)),AV.c (C.d (D.v (Value.string x.sig)))]=(q.qm,x.sig):=Aj Et (q.qm,x.sig);have k7:ZRf.ix [AV.c (C.d (Ad 1 busC e0 q.qm)),AV.c (C.d (D.v (Value.string x.sig)))]=F3 q.qm x.sig:=by dsimp only[ZRf];rw[s3]
     rw[e2,k6,k7];simp only[Bool.not_true,za,zb];cases h5:decide (F3 q.qm x.sig<0)<;>rfl
theorem Anq(l:List BA)(x:BA):(l.any fun y=>isT y x)=inB l x:=by
 unfold inB;congr 1;funext y;rw[Um];show(x.toList==y.toList)=_;rw[ByteArray.toList_eq,ByteArray.toList_eq]
theorem Tw(l:List BA)(x:BA):decide (F3 l x>=0)=inB l x:=(Re _ l 0).trans (Anq l x)
theorem AgW(l:List BA)(x:BA):decide (F3 l x<0)= !inB l x:=by
 rw[<-Tw,Bool.eq_iff_iff,Bool.not_eq_true',zi,decide_eq_false_iff_not];omega
theorem sTw:OrcS prog (oTw (okG eIx cIx) fun x=>F3 (theT eIx x).1 (theT eIx x).2):= .cons (.t' (enc:=eIx) (c:=cIx) (r:=fun a=>vI (F3 a.1 a.2)) fun a h=>cRix a.1 a.2 h) .nil
theorem AnM(l:List BA)(k:Nat)(hk:k<=l.length):RL busC e0 (Int.toNat (k:Int) -Int.toNat ((0:Nat):Int)) (fun i=>busC (l.getD (Int.toNat ((0:Nat):Int)+i) e0)) (l.take k):=by
 have e:Int.toNat (k:Int) -Int.toNat ((0:Nat):Int)=k:=by simp
 rw[e];refine .eq (by simp;omega) fun i hi=> ?_
 have:Int.toNat ((0:Nat):Int)+i=i:=by simp
 rw[this,zh,zh,List.getElem?_take,if_pos hi]
theorem AcQ(l:List BA)(k:Nat)(x:BA)(hk:k<=l.length)(hl:l.length<=9223372036854775807):
  okG eIx cIx [AV.c (C.d (D.sl 1 (Int.toNat (k:Int) -Int.toNat ((0:Nat):Int)) fun i=>busC (l.getD (Int.toNat ((0:Nat):Int)+i) e0))),AV.c (C.d (D.v (Value.string x)))]=true/\
  theT eIx [AV.c (C.d (D.sl 1 (Int.toNat (k:Int) -Int.toNat ((0:Nat):Int)) fun i=>busC (l.getD (Int.toNat ((0:Nat):Int)+i) e0))),AV.c (C.d (D.v (Value.string x)))]=(l.take k,x):=by
 obtain⟨h1,h2⟩:=Aki (AnM l k hk) x;exact⟨Wg Et h1 h2 (by unfold cIx Au;exact zk (by simp;omega)),Mm Et h1 h2⟩
theorem Vr{l:List BA}{k:Nat}(h:k<l.length):l.take (k+1)=l.take k++[l.getD k e0]:=by
 rw[List.take_add_one,show l[k]? =some (l.getD k e0)by simp[List.getD,h]];rfl
theorem Aoo(l:List BA)(g:Nat)(hb:l.length<=9223372036854775807): ∀(m k:Nat),k<=l.length ->l.length -k<m ->Abs (okG eIx cIx) (fun x=>F3 (theT eIx x).1 (theT eIx x).2) l g m k=some (.leaf (vB (repS (l.take k) (l.drop k)),[]))
 |0,k,_,h=>by omega|m+1,k,hk,h=>by
  rw[Ali];by_cases hlt:k<l.length
  ·obtain⟨k1,k2⟩:=AcQ l k (l.getD k e0) hk hb;have e1:(decide ((0:Int)<=((0:Nat):Int))&&decide (((0:Nat):Int)<=(k:Int))&&decide ((k:Int)<=(l.length:Int)))=true:=by rw[zk,zk,zk];rfl
   rw[e1,lt1 hlt,ge0,nx hlt hb,Aoo l g hb m (k+1) (by omega) (by omega),tt];have k1':okG eIx cIx [AV.c (C.d (D.sl 1 (Int.toNat (k:Int) -Int.toNat ((0:Nat):Int)) fun i=>busC (l.getD (Int.toNat ((0:Nat):Int)+i) e0))),AV.c (C.d (D.v (Value.string (l.getD (Int.toNat (k:Int)) e0))))]=true:=k1;have k2':theT eIx [AV.c (C.d (D.sl 1 (Int.toNat (k:Int) -Int.toNat ((0:Nat):Int)) fun i=>busC (l.getD (Int.toNat ((0:Nat):Int)+i) e0))),AV.c (C.d (D.v (Value.string (l.getD (Int.toNat (k:Int)) e0))))]=(l.take k,l.getD k e0):=k2;rw[k1',k2',Tw,Av (d:=e0) hlt,Vr hlt];simp only[za,repS];cases inB (l.take k) (l.getD k e0)<;>rfl
  ·rw[lt0 hlt,zl];rfl
theorem cTwi(l:List BA)(h:Au l=true):CX prog 125 [.c (.d (Ab l))] [] (vB (repS [] l)) []:=
 Am sTw.ok func125 btwi rfl ((Aqs _ _ l (l.length+1)).trans (Aoo l (l.length+1) (Bi h) (l.length+1) 0 (by omega) (by omega)))
def eFk(c:SCfg)(a:Int×Int):List AV:=[aCfg c,vI a.1,vI a.2]
theorem Uy(c:SCfg):InjT (eFk c):=fun a b h=>by
 obtain⟨x1,h⟩:=Ar (Ar h).2;obtain⟨x2,h⟩:=Ar h;exact Prod.ext (Hs _ _ x1) (Hs _ _ x2)
def cFk(c:SCfg)(a:Int×Int):Bool:=(decide (0<=a.1)&&decide (a.1<c.qh.length))&&(decide (0<=a.2)&&decide (a.2<(c.qh.getD a.1.toNat rel0).ql.length))
def fiS(c:SCfg)(a:Int×Int):Plc:=Ut c.qh a.1 ((c.qh.getD a.1.toNat rel0).ql.getD a.2.toNat sub0)
def ZRo(c:SCfg):KRo where
 oko:=okG eR1 fitR
 ou x:=outS (theT eR1 x)
 inn x:=inS (theT eR1 x)
 okt:=okG eBu Au
 tw x:=repS [] (theT eBu x)
 okx:=okG eIx cIx
 ix x:=F3 (theT eIx x).1 (theT eIx x).2
 oks:=okG eRS fun a=>Au a.1.qj
 se x:=Cy (theT eRS x).1 (theT eRS x).2
 okf:=okG (eFk c) (cFk c)
 fi x:=fiS c (theT (eFk c) x)
theorem Agh{c:SCfg}{a:Int×Int}(h:cFk c a=true): ∃i k:Nat,a=((i:Int),(k:Int))/\i<c.qh.length/\k<(c.qh.getD i rel0).ql.length:=by
 unfold cFk at h;simp only[zd,zi]at h;have⟨⟨h1,h2⟩,h3,h4⟩:=h;have⟨x,y⟩:=a;obtain⟨i,rfl⟩:=Int.eq_ofNat_of_zero_le h1;obtain⟨k,rfl⟩:=Int.eq_ofNat_of_zero_le h3;refine⟨i,k,rfl,by simpa using h2, ?_⟩;have h4:(k:Int)<((c.qh.getD (Int.toNat (i:Int)) rel0).ql.length:Int):=h4;rw[Int.toNat_natCast]at h4;omega
theorem Agi{c:SCfg}{i k:Nat}(hi:i<c.qh.length)(hk:k<(c.qh.getD i rel0).ql.length):cFk c ((i:Int),(k:Int))=true:=by
 unfold cFk;simp only[zd,zi];refine⟨⟨by omega,by omega⟩,by omega, ?_⟩;show(k:Int)<((c.qh.getD (Int.toNat (i:Int)) rel0).ql.length:Int);rw[Int.toNat_natCast];omega
theorem sRo(c:SCfg)(h:fitC c.qh=true):OrcS prog (oRo (ZRo c)):=
 .cons (.nt (enc:=eR1) (c:=fitR) (r:=fun r=>rowS (outS r)) (H':=fun r=>hpS (outS r)) fun r h=>cROu r (Cv h)) (.cons (.t' (enc:=eR1) (c:=fitR) (r:=fun r=> .c (.d (Ab (inS r)))) fun r h=>cRIn r (Cv h))
  (.cons (.lt (enc:=eBu) (c:=Au) (r:=fun l=>vB (repS [] l)) func125 btwi (fun _=>rfl) fun l h=>cTwi l h)
  (.cons (.lt (enc:=eIx) (c:=cIx) (r:=fun a=>vI (F3 a.1 a.2)) func52 b46 (fun _=>rfl) fun a h=>cRix a.1 a.2 h)
  (.cons (.t' (enc:=eRS) (c:=fun a=>Au a.1.qj) (r:=fun a=>vI (Cy a.1 a.2)) fun a h=>cRse a.1 a.2 h)
  (.cons (.t' (enc:=eFk c) (c:=cFk c) (r:=fun a=>aPl (fiS c a)) fun a ha=>by
    obtain⟨i,k,rfl,hi,hk⟩:=Agh ha;have:=cRFi c i k h hi hk;exact this) .nil)))))
theorem Akd(c:SCfg)(i:Nat)(r:SRel)(er:c.qh.getD i rel0=r)(hr:fitR r=true)(g mo:Nat)(a:Nat)(ha:a<r.qj.length): ∀(m j:Nat),j<=(r.qj.getD a set0).qm.length ->(r.qj.getD a set0).qm.length -j<m ->
  Xs (ZRo c) c i g mo m a j=bif H0 (outS r) ((r.qj.getD a set0).qm.take j) ((r.qj.getD a set0).qm.drop j) !=0 then lN (H0 (outS r) ((r.qj.getD a set0).qm.take j) ((r.qj.getD a set0).qm.drop j))else Tm (ZRo c) c i g mo (wrap IntKind.i64 ((a:Int)+1))
 |0,j,_,h=>by omega|m+1,j,hj,h=>by
  have hF:=Cv hr;have ol:=Ll r;have hru:=hF.ru;have hs:=hF.sg _ (Lz set0 ha);have e0':(decide ((0:Int)<=(a:Int))&&decide ((a:Int)<(r.qj.length:Int)))=true:=by rw[zk,zk];rfl
  rw[Alr,tn i,er,tn a,e0'];by_cases hlt:j<(r.qj.getD a set0).qm.length
  ·have k1:(ZRo c).oko [AV.agg (List.map C.d (relC r))]=true:=Ao D7 (c:=fitR) r hr;have t1:theT eR1 [AV.agg (List.map C.d (relC r))]=r:=Aj D7 r;have k2:(ZRo c).ou [AV.agg (List.map C.d (relC r))]=outS r:=by dsimp only[ZRo];rw[t1]
   have ih:=Akd c i r er hr g mo a ha m (j+1) (by omega) (by omega);rw[Vr hlt]at ih;rw[Av (d:=e0) hlt];generalize hL:(r.qj.getD a set0).qm=L at*;have e1:(decide ((0:Int)<=((0:Nat):Int))&&decide (((0:Nat):Int)<=(j:Int))&&decide ((j:Int)<=(L.length:Int)))=true:=by rw[zk,zk,zk];rfl
   have e2:(decide ((0:Int)<=(j:Int))&&decide ((j:Int)<(L.length:Int)))=true:=by rw[zk,zk];rfl
   obtain⟨k5,t5⟩:=AcQ L j (L.getD j e0) hj (by omega);have k3:(ZRo c).okx [AV.c (C.d (Ad 1 busC e0 (outS r))),AV.c (C.d (D.v (Value.string (L.getD j e0))))]=true:=Ao Et (c:=cIx) (outS r,L.getD j e0) (by unfold cIx Au;exact zk (by show(outS r).length<=_;omega));have t3:theT eIx [AV.c (C.d (Ad 1 busC e0 (outS r))),AV.c (C.d (D.v (Value.string (L.getD j e0))))]=(outS r,L.getD j e0):=Aj Et (outS r,L.getD j e0);have k4:(ZRo c).ix [AV.c (C.d (Ad 1 busC e0 (outS r))),AV.c (C.d (D.v (Value.string (L.getD j e0))))]=F3 (outS r) (L.getD j e0):=by dsimp only[ZRo];rw[t3]
   have k5':(ZRo c).okx [AV.c (C.d (D.sl 1 (Int.toNat (j:Int) -Int.toNat ((0:Nat):Int)) fun i=>busC (L.getD (Int.toNat ((0:Nat):Int)+i) e0))),AV.c (C.d (D.v (Value.string (L.getD j e0))))]=true:=k5;have k6:(ZRo c).ix [AV.c (C.d (D.sl 1 (Int.toNat (j:Int) -Int.toNat ((0:Nat):Int)) fun i=>busC (L.getD (Int.toNat ((0:Nat):Int)+i) e0))),AV.c (C.d (D.v (Value.string (L.getD j e0))))]=F3 (L.take j) (L.getD j e0):=by dsimp only[ZRo];rw[t5]
   have e3:wrap IntKind.i64 ((j:Int)+1)=((j+1:Nat):Int):=nx hlt;rw[e1,e2,lt1 hlt,e3,ih,k1,k2];have q1:L.getD (Int.toNat (j:Int)) e0=L.getD j e0:=rfl;rw[q1,k3,k4,k5',k6,Tw,AgW];simp only[za];simp only[H0];cases inB (outS r) (L.getD j e0)with
   |false=>rfl|true=>cases inB (L.take j) (L.getD j e0)<;>rfl
  ·rw[lt0 hlt,zl];rfl
theorem Ake(c:SCfg)(i:Nat)(r:SRel)(er:c.qh.getD i rel0=r)(hr:fitR r=true)(g:Nat)(hg:1000<g): ∀(m k:Nat),k<=r.qj.length ->r.qj.length -k<m ->
  Tm (ZRo c) c i g m k=bif Fh (outS r) (r.qj.drop k) !=0 then lN (Fh (outS r) (r.qj.drop k))else Nm (ZRo c) c i g g 0
 |0,k,_,h=>by omega|m+1,k,hk,h=>by
  have hF:=Cv hr;rw[Als,tn i,er];by_cases hlt:k<r.qj.length
  ·have hs:=hF.sg _ (Lz set0 hlt);have e:Xs (ZRo c) c i g m g k ((0:Nat):Int)=_:=Akd c i r er hr g m k hlt g 0 (by omega) (by omega);rw[nx hlt (by have:=hF.se;omega),Ake c i r er hr g hg m (k+1) (by omega) (by omega),zq,List.take_zero]at e;rw[Av (d:=set0) hlt,lt1 hlt,za];refine e.trans ?_;simp only[Fh];cases hz:(H0 (outS r) [] (r.qj.getD k set0).qm !=0)with
   |true=>simp only[za,hz]|false=>rfl
  ·rw[lt0 hlt,zl];rfl
theorem AeQ(c:SCfg)(i:Nat)(r:SRel)(er:c.qh.getD i rel0=r)(hr:fitR r=true)(g:Nat): ∀(m k:Nat),k<=r.qk.length ->r.qk.length -k<m ->Nm (ZRo c) c i g m k=bif Jc r (r.qk.drop k) !=0 then lN (Jc r (r.qk.drop k))else Nk (ZRo c) c i g g 0
 |0,k,_,h=>by omega|m+1,k,hk,h=>by
  have hF:=Cv hr;rw[Ahd,tn i,er];by_cases hlt:k<r.qk.length
  ·rw[Av (d:=pub0) hlt,lt1 hlt,ge0,tn k,nx hlt (by have:=hF.pu;omega),AeQ c i r er hr g m (k+1) (by omega) (by omega),tt,za,za];generalize r.qk.getD k pub0=p;have k1:(ZRo c).oks [AV.agg (List.map C.d (relC r)),AV.c (C.d (D.v (Value.string p.set)))]=true:=Ao Jl (c:=fun a=>Au a.1.qj) (r,p.set) (by unfold Au;exact zk (by have:=hF.se;show r.qj.length<=_;omega));have t1:theT eRS [AV.agg (List.map C.d (relC r)),AV.c (C.d (D.v (Value.string p.set)))]=(r,p.set):=Aj Jl (r,p.set);have k2:(ZRo c).se [AV.agg (List.map C.d (relC r)),AV.c (C.d (D.v (Value.string p.set)))]=Cy r p.set:=by dsimp only[ZRo];rw[t1]
   rw[k1,k2,za];simp only[Jc];cases decide (Cy r p.set<0)<;>rfl
  ·rw[lt0 hlt,zl];rfl
theorem AeP(c:SCfg)(i:Nat)(r:SRel)(er:c.qh.getD i rel0=r)(hi:i<c.qh.length)(hr:fitR r=true)(g:Nat): ∀(m k:Nat),k<=r.ql.length ->r.ql.length -k<m ->Nk (ZRo c) c i g m k=lN (Hz c.qh i (r.ql.drop k))
 |0,k,_,h=>by omega|m+1,k,hk,h=>by
  have hF:=Cv hr;rw[Ahc,tn i,er];by_cases hlt:k<r.ql.length
  ·rw[Av (d:=sub0) hlt,lt1 hlt,nx hlt (by have:=hF.su;omega),AeP c i r er hi hr g m (k+1) (by omega) (by omega),za];have k1:(ZRo c).okf [AV.agg (List.map C.d (cfgC c)),AV.c (C.d (D.v (Value.int IntKind.i64 (i:Int)))),AV.c (C.d (D.v (Value.int IntKind.i64 (k:Int))))]=true:=Ao (Uy c) (c:=cFk c) ((i:Int),(k:Int)) (Agi hi (by rw[er];exact hlt));have k2:(ZRo c).fi [AV.agg (List.map C.d (cfgC c)),AV.c (C.d (D.v (Value.int IntKind.i64 (i:Int)))),AV.c (C.d (D.v (Value.int IntKind.i64 (k:Int))))]=Ut c.qh i (r.ql.getD k sub0):=by
    dsimp only[ZRo];rw[show theT (eFk c) [AV.agg (List.map C.d (cfgC c)),AV.c (C.d (D.v (Value.int IntKind.i64 (i:Int)))),AV.c (C.d (D.v (Value.int IntKind.i64 (k:Int))))]=((i:Int),(k:Int))from Aj (Uy c) ((i:Int),(k:Int))];unfold fiS;simp only[Int.toNat_natCast];rw[er]
   rw[k1,k2,za];simp only[Hz];cases hz:((Ut c.qh i (r.ql.getD k sub0)).err !=0)with
   |true=>simp only[za,hz]|false=>rfl
  ·rw[lt0 hlt,zl];rfl
theorem cOne(c:SCfg)(i:Nat)(hc:fitC c.qh=true)(hi:i<c.qh.length):CX prog 64 [aCfg c,vI i] [] (vI (Lj c.qh i (c.qh.getD i rel0))) []:=by
 obtain⟨hn,hf,ho⟩:=E6 hc;have hr:=hf _ (Lz rel0 hi);obtain⟨r,er⟩: ∃r,c.qh.getD i rel0=r:=⟨_,rfl⟩;rw[er]at hr⊢;have hF:=Cv hr;have ol:=Ll r;have hru:=hF.ru;have hsu:=hF.su;obtain⟨g,hg⟩: ∃g,2000<g:=⟨2001,by omega⟩;refine Am (sRo c hc).ok func64 bone rfl ((AqJ (ZRo c) c i g).trans ?_);have e0':(decide ((0:Int)<=(i:Int))&&decide ((i:Int)<(c.qh.length:Int)))=true:=by rw[zk,zk];rfl
 have k1:(ZRo c).oko [AV.agg (List.map C.d (relC r))]=true:=Ao D7 (c:=fitR) r hr;have t1:theT eR1 [AV.agg (List.map C.d (relC r))]=r:=Aj D7 r;have k2:(ZRo c).ou [AV.agg (List.map C.d (relC r))]=outS r:=by dsimp only[ZRo];rw[t1]
 have k4:(ZRo c).inn [AV.agg (List.map C.d (relC r))]=inS r:=by dsimp only[ZRo];rw[t1]
 have hcat:=RL.cat (c:=busC) (d0:=e0) (RL.data (outS r)) (RL.data (inS r));have hin:(inS r).length=r.ql.length:=by simp[inS]
 have a1:Asle [AV.c (C.d (D.sl 1 ((outS r).length+(inS r).length) (appF (outS r).length (fun i=>busC ((outS r).getD i e0)) fun i=>busC ((inS r).getD i e0))))] (eBu (outS r++inS r)):= .cons (show DE _ _ from hcat.de (sz:=1)) .nil;have a2:Asle (eBu (outS r++inS r)) [AV.c (C.d (D.sl 1 ((outS r).length+(inS r).length) (appF (outS r).length (fun i=>busC ((outS r).getD i e0)) fun i=>busC ((inS r).getD i e0))))]:= .cons (show DE _ _ from hcat.ed (sz:=1)) .nil;have k7:(ZRo c).okt [AV.c (C.d (D.sl 1 ((outS r).length+(inS r).length) (appF (outS r).length (fun i=>busC ((outS r).getD i e0)) fun i=>busC ((inS r).getD i e0))))]=true:=
  Wg M3 (a:=outS r++inS r) a1 a2 (by unfold Au;exact zk (by rw[List.length_append];omega))
 have k8:(ZRo c).tw [AV.c (C.d (D.sl 1 ((outS r).length+(inS r).length) (appF (outS r).length (fun i=>busC ((outS r).getD i e0)) fun i=>busC ((inS r).getD i e0))))]=repS [] (outS r++inS r):=by
  dsimp only[ZRo];rw[Mm M3 (a:=outS r++inS r) a1 a2]
 have k9:(decide (((outS r).length+(inS r).length)*16<=140737488355328)&&decide ((outS r).length+(inS r).length<=9223372036854775807))=true:=by
  rw[zk,zk];rfl
 rw[e0',tn i,er,k1,k2,k4,k7,k8,k9];simp only[za];unfold Lj Ki;cases hrep:repS [] (outS r++inS r)with
 |true=>rfl|false=>
  rw[zb];have l2:Tm (ZRo c) c i g g ((0:Nat):Int)=_:=Ake c i r er hr g (by omega) g 0 (by omega) (by have:=hF.se;omega);have l3:Nm (ZRo c) c i g g ((0:Nat):Int)=_:=AeQ c i r er hr g g 0 (by omega) (by have:=hF.pu;omega);have l4:Nk (ZRo c) c i g g ((0:Nat):Int)=_:=AeP c i r er hi hr g g 0 (by omega) (by omega);rw[zq]at l2 l3 l4;refine Eq.trans l2 ?_;cases hz:(Fh (outS r) r.qj !=0)with
  |true=>simp only[za,zb,hz]|false=>
   simp only[za,zb];refine Eq.trans l3 ?_;cases hy:(Jc r r.qk !=0)with
   |true=>rfl|false=>exact l4
def eCi(c:SCfg)(i:Int):List AV:=[aCfg c,vI i]
theorem AfV(c:SCfg):InjT (eCi c):=fun a b h=>Hs _ _ (Ar (Ar h).2).1
def cCi(c:SCfg)(i:Int):Bool:=decide (0<=i)&&decide (i<c.qh.length)
theorem sRc(c:SCfg)(h:fitC c.qh=true):OrcS prog (oRc (okG (eCi c) (cCi c)) fun x=>Lj c.qh (theT (eCi c) x) (c.qh.getD (theT (eCi c) x).toNat rel0)):=
 .cons (.t' (enc:=eCi c) (c:=cCi c) (r:=fun i=>vI (Lj c.qh i (c.qh.getD i.toNat rel0))) fun i hi=>by
  unfold cCi at hi;simp only[zd,zi]at hi;obtain⟨k,rfl⟩:=Int.eq_ofNat_of_zero_le hi.1;have:=cOne c k h (by omega);exact this) .nil
theorem Aor(c:SCfg)(g:Nat)(hc:fitC c.qh=true): ∀(m k:Nat),k<=c.qh.length ->c.qh.length -k<m ->Abz (okG (eCi c) (cCi c)) (fun x=>Lj c.qh (theT (eCi c) x) (c.qh.getD (theT (eCi c) x).toNat rel0)) c g m k=lE (Fy c.qh k (c.qh.drop k))
 |0,k,_,h=>by omega|m+1,k,hk,h=>by
  rw[Alq];by_cases hlt:k<c.qh.length
  ·have hn:=(E6 hc).1;have k1:okG (eCi c) (cCi c) [AV.agg (List.map C.d (cfgC c)),AV.c (C.d (D.v (Value.int IntKind.i64 (k:Int))))]=true:=Ao (AfV c) (c:=cCi c) (k:Int) (by unfold cCi;rw[zk,zk];rfl);have t1:theT (eCi c) [AV.agg (List.map C.d (cfgC c)),AV.c (C.d (D.v (Value.int IntKind.i64 (k:Int))))]=(k:Int):=Aj (AfV c) (k:Int);rw[Av (d:=rel0) hlt,lt1 hlt,nx hlt,Aor c g hc m (k+1) (by omega) (by omega),k1,t1,tn k,za,za];simp only[Fy];cases hz:(Lj c.qh k (c.qh.getD k rel0) !=0)with
   |true=>rfl|false=>rfl
  ·rw[lt0 hlt,zl];rfl
theorem cRck(c:SCfg)(h:fitC c.qh=true):CX prog 30 [aCfg c] [] (vQ (Fy c.qh 0 c.qh)) []:=
 Am (sRc c h).ok func30 brck rfl ((AqH _ _ c (c.qh.length+1)).trans (Aor c (c.qh.length+1) h (c.qh.length+1) 0 (by omega) (by omega)))
end Go.Y.sg
namespace Go.Y.tb
open Go.RowKit Go.Eb Go.Y.st
open Go.Y.sg (fitR FitR Cv fitC E6 eR1 D7 cOuD cSix Ll eFd Uz cFd P9 Ang aPl cFk Agh Agi eFk Uy fiS)
def vQ(p:Int×Int):AV:= .tup [(false,[.d (dI p.1)]),(false,[.d (dI p.2)])]
structure KTc where
 okS:LB
 chk:LI
 okT:LB
 se:List AV ->Int×Int
 okg:LB
 sg:List AV ->Int×Int
def oTc(Z:KTc):Orc:=Orc.cons 31 (ansG Z.okS fun x=>vI (Z.chk x)) (Orc.cons 32 (ansG Z.okT fun x=>vQ (Z.se x)) (Orc.cons 33 (ansG Z.okg fun x=>vQ (Z.sg x)) Orc.nil))
def oRt(Z:KTc):Orc:=Orc.cons 28 (ansG Z.okS fun x=>vI (Z.chk x)) (Orc.cons 29 (ansG Z.okT fun x=>vQ (Z.se x)) (Orc.cons 30 (ansG Z.okg fun x=>vQ (Z.sg x)) Orc.nil))
theorem evTc(Z:KTc)(c:SCfg):Ai prog (oTc Z) na 5 f13 (Ac f13) [aCfg c] []=
 (bif KTc.okS Z [gA (staC c.sta)]then(bif KTc.chk Z [gA (staC c.sta)] !=0 then leI (KTc.chk Z [gA (staC c.sta)])else
 (bif KTc.okT Z [gA (staC c.sta), .c (.d (Ad (53) relC rel0 c.qh))]then(bif Prod.snd (KTc.se Z [gA (staC c.sta), .c (.d (Ad (53) relC
 rel0 c.qh))]) !=0 then leI (Prod.snd (KTc.se Z [gA (staC c.sta), .c (.d (Ad (53) relC rel0 c.qh))]))else(bif KTc.okg Z [gA (cfgC c)]
 then leI (Prod.snd (KTc.sg Z [gA (cfgC c)]))else none))else none))else none):=by kernel_rfl
theorem evRt(Z:KTc)(c:SCfg):Ai prog (oRt Z) na 5 f12 (Ac f12) [aCfg c] []=
 (bif KTc.okS Z [gA (staC c.sta)]then(bif KTc.chk Z [gA (staC c.sta)] !=0 then leI (KTc.chk Z [gA (staC c.sta)])else
 (bif KTc.okT Z [gA (staC c.sta), .c (.d (Ad (53) relC rel0 c.qh))]then(bif Prod.snd (KTc.se Z [gA (staC c.sta), .c (.d (Ad (53) relC
 rel0 c.qh))]) !=0 then leI (Prod.snd (KTc.se Z [gA (staC c.sta), .c (.d (Ad (53) relC rel0 c.qh))]))else(bif KTc.okg Z [gA (cfgC c)]
 then leI (Prod.snd (KTc.sg Z [gA (cfgC c)]))else none))else none))else none):=by kernel_rfl
def AgG:Ann:=A1 [(4,⟨[1,3],[]⟩),(9,⟨[1,4],[]⟩)]
def Xw(r:SRel)(g m:Nat)(i3:Int):=LK prog Orc.nil AgG 0 g f44 4 m ⟨frm [(1, .c (.ptr 0 0)),(3,iA i3)] 0 f44.ntmps,[(0, .cells (List.map C.d (relC r)) 64)],1⟩
def R7(r:SRel)(g m:Nat)(i4:Int):=LK prog Orc.nil AgG 0 g f44 9 m ⟨frm [(1, .c (.ptr 0 0)),(4,iA i4)] 0 f44.ntmps,[(0, .cells (List.map C.d (relC r)) 64)],1⟩
theorem blg7:f44.body=some (Ac f44):=by kernel_rfl
theorem AqQ(r:SRel)(g:Nat):Ai prog Orc.nil AgG g f44 (Ac f44) [aRel r] []=
 (bif decide ((↑r.qi.length:Int)>20)then leB true else(bif decide ((↑r.qj.length:Int)>8)then leB true else(bif decide ((↑r.qk.length:Int)>8)then leB true
 else(bif decide ((↑r.ql.length:Int)>30)then leB true else Xw r g g 0)))):=by kernel_rfl
theorem Adq(r:SRel)(g m:Nat)(i3:Int):Xw r g (m+1) i3=
 (bif decide (i3<(↑r.qj.length:Int))then(bif decide (0<=i3)&&decide (i3<(↑r.qj.length:Int))then(bif decide ((↑(SSet.qm (r.qj.getD i3.toNat set0)).length:
 Int)>30)then leB true else Xw r g m (wrap IntKind.i64 (i3+1)))else none)else R7 r g g 0):=by kernel_rfl
theorem Adp(r:SRel)(g m:Nat)(i4:Int):R7 r g (m+1) i4=
 (bif decide (i4<(↑r.qi.length:Int))then(bif decide (0<=i4)&&decide (i4<(↑r.qi.length:Int))then(bif decide ((↑(ByteArray.size (SRule.text (r.qi.getD i4.toNat
 Be))):Int)>200)then leB true else R7 r g m (wrap IntKind.i64 (i4+1)))else none)else leB false):=by kernel_rfl
def oLg8(ok lg:LB):Orc:=Orc.cons 44 (ansG ok fun x=>vB (lg x)) Orc.nil
def AkK:Ann:=A1 [(4,⟨[1,3],[]⟩)]
def AbA(ok lg:LB)(c:SCfg)(g m:Nat)(i3:Int):=LK prog (oLg8 ok lg) AkK 0 g f20 4 m ⟨frm [(1, .c (.ptr 0 0)),(3,iA i3)] 0 f20.ntmps,[(0, .cells (List.map C.d (cfgC c)) 30)],1⟩
theorem blg8:f20.body=some (Ac f20):=by kernel_rfl
theorem AqP(ok lg:LB)(c:SCfg)(g:Nat):Ai prog (oLg8 ok lg) AkK g f20 (Ac f20) [aCfg c] []=
 (bif decide ((↑c.qh.length:Int)>20)then leB true else AbA ok lg c g g 0):=by kernel_rfl
theorem Ado(ok lg:LB)(c:SCfg)(g m:Nat)(i3:Int):AbA ok lg c g (m+1) i3=
 (bif decide (i3<(↑c.qh.length:Int))then(bif decide (0<=i3)&&decide (i3<(↑c.qh.length:Int))then(bif ok [gA (relC (c.qh.getD i3.toNat rel0))]
 then(bif lg [gA (relC (c.qh.getD i3.toNat rel0))]then leB true else AbA ok lg c g m (wrap .i64 (i3+1)))else none)else none)else leB false):=by kernel_rfl
def oLg9(ok5 l5 ok8 l8:LB):Orc:=Orc.cons 19 (ansG ok5 fun x=>vB (l5 x)) (Orc.cons 20 (ansG ok8 fun x=>vB (l8 x)) Orc.nil)
theorem Arb(ok5 l5 ok8 l8:LB)(c:SCfg):Ai prog (oLg9 ok5 l5 ok8 l8) na 5 f8 (Ac f8) [aCfg c] []=
 (bif ok5 [gA (staC c.sta)]then(bif l5 [gA (staC c.sta)]then leB true else(bif ok8 [gA (cfgC c)]then leB (l8 [AV.agg
 (List.map C.d (cfgC c))])else none))else none):=by kernel_rfl
end Go.Y.tb
namespace Go.Y.se
open Go.RowKit Go.Eb
abbrev Zo(x:SRule):AV:= .agg ((E0 x).map .d)
abbrev aSet(x:SSet):AV:= .agg ((setC x).map .d)
abbrev aPub(x:SPub):AV:= .agg ((pubC x).map .d)
abbrev aSub(x:SSub):AV:= .agg ((subC x).map .d)
abbrev dF(f:FuncId):D:= .v (.func (.func f) #[] #[])
abbrev dNF:D:= .v .nilFunc
theorem AmL(s:BA):Ai prog Orc.nil na 5 f195 (Ac f195) [vS s] []=
 (bif s.toList==ByteArray.toList (⟨#[116,114,117,101]⟩)then(bif s.toList==ByteArray.toList (⟨#[116,114,117,101]⟩)then leB true else leB false)else(bif s.toList==
 ByteArray.toList (⟨#[102,97,108,115,101]⟩)then(bif s.toList==ByteArray.toList (⟨#[102,97,108,115,101]⟩)then leB true else leB false)else(bif s.toList==
 ByteArray.toList (⟨#[110,111,(116:UInt8)]⟩)then(bif s.toList==ByteArray.toList (⟨#[110,111,116]⟩)then leB true else leB false)else(bif s.toList==ByteArray.toList
 (⟨#[97,110,100]⟩)then(bif s.toList==ByteArray.toList (⟨#[97,110,100]⟩)then leB true else leB false)else(bif s.toList==ByteArray.toList (⟨#[111,114]⟩)then(bif
 s.toList==ByteArray.toList (⟨#[111,114]⟩)then leB true else leB false)else(bif s.toList==ByteArray.toList (⟨#[120,111,114]⟩)then(bif s.toList==ByteArray.toList
 (⟨#[120,111,114]⟩)then leB true else leB false)else(bif s.toList==ByteArray.toList (⟨#[109,105,110]⟩)then(bif s.toList==ByteArray.toList (⟨#[109,105,110]⟩)then leB
 true else leB false)else(bif s.toList==ByteArray.toList (⟨#[109,97,120]⟩)then(bif s.toList==ByteArray.toList (⟨#[109,97,(120:UInt8)]⟩)then leB true else leB false)
 else(bif s.toList==ByteArray.toList (⟨#[97,98,115]⟩)then(bif s.toList==ByteArray.toList (⟨#[97,98,115]⟩)then leB true else leB false)else(bif s.toList==
 ByteArray.toList (⟨#[(105:UInt8),102]⟩)then(bif s.toList==ByteArray.toList (⟨#[105,102]⟩)then leB true else leB false)else(bif s.toList==ByteArray.toList (⟨#[114,105,
 115,(101:UInt8)]⟩)then(bif s.toList==ByteArray.toList (⟨#[114,105,115,101]⟩)then leB true else leB false)else(bif s.toList==ByteArray.toList (⟨#[102,97,(108:
 UInt8),108]⟩)then(bif s.toList==ByteArray.toList (⟨#[102,97,108,108]⟩)then leB true else leB false)else(bif s.toList==ByteArray.toList (⟨#[100,(101:UInt8),108,97,
 121]⟩)then(bif s.toList==ByteArray.toList (⟨#[100,101,108,97,(121:UInt8)]⟩)then leB true else leB false)else(bif s.toList==ByteArray.toList (⟨#[104,111,108,100]⟩)
 then(bif s.toList==ByteArray.toList (⟨#[104,111,(108:UInt8),100]⟩)then leB true else leB false)else(bif s.toList==ByteArray.toList (⟨#[108,97,116,99,104]⟩)then
 (bif s.toList==ByteArray.toList (⟨#[(108:UInt8),97,116,99,104]⟩)then leB true else leB false)else(bif s.toList==ByteArray.toList (⟨#[99,111,117,110,116]⟩)then leB
 true else leB false)))))))))))))))):=by kernel_rfl
def C9(s:BA):Bool:=
 (bif ByteArray.toList s==ByteArray.toList (ByteArray.mk #[(116:UInt8),(114:UInt8),(117:UInt8),(101:UInt8)])then(bif ByteArray.toList s==ByteArray.toList
 (ByteArray.mk #[(116:UInt8),(114:UInt8),(117:UInt8),(101:UInt8)])then(true)else(false))else(bif ByteArray.toList s==ByteArray.toList (ByteArray.mk #[(102:
 UInt8),(97:UInt8),(108:UInt8),(115:UInt8),(101:UInt8)])then(bif ByteArray.toList s==ByteArray.toList (ByteArray.mk #[(102:UInt8),(97:UInt8),(108:UInt8),(115
 :UInt8),(101:UInt8)])then(true)else(false))else(bif ByteArray.toList s==ByteArray.toList (ByteArray.mk #[(110:UInt8),(111:UInt8),(116:UInt8)])then(bif
 ByteArray.toList s==ByteArray.toList (ByteArray.mk #[(110:UInt8),(111:UInt8),(116:UInt8)])then(true)else(false))else(bif ByteArray.toList s==ByteArray.toList
 (ByteArray.mk #[(97:UInt8),(110:UInt8),(100:UInt8)])then(bif ByteArray.toList s==ByteArray.toList (ByteArray.mk #[(97:UInt8),(110:UInt8),(100:UInt8)])then
 (true)else(false))else(bif ByteArray.toList s==ByteArray.toList (ByteArray.mk #[(111:UInt8),(114:UInt8)])then(bif ByteArray.toList s==ByteArray.toList (ByteArray.mk
 #[(111:UInt8),(114:UInt8)])then(true)else(false))else(bif ByteArray.toList s==ByteArray.toList (ByteArray.mk #[(120:UInt8),(111:UInt8),(114:UInt8)])then(bif
 ByteArray.toList s==ByteArray.toList (ByteArray.mk #[(120:UInt8),(111:UInt8),(114:UInt8)])then(true)else(false))else(bif ByteArray.toList s==ByteArray.toList
 (ByteArray.mk #[(109:UInt8),(105:UInt8),(110:UInt8)])then(bif ByteArray.toList s==ByteArray.toList (ByteArray.mk #[(109:UInt8),(105:UInt8),(110:UInt8)])then
 (true)else(false))else(bif ByteArray.toList s==ByteArray.toList (ByteArray.mk #[(109:UInt8),(97:UInt8),(120:UInt8)])then(bif ByteArray.toList s==ByteArray.toList
 (ByteArray.mk #[(109:UInt8),(97:UInt8),(120:UInt8)])then(true)else(false))else(bif ByteArray.toList s==ByteArray.toList (ByteArray.mk #[(97:UInt8),(98:UInt8),
 (115:UInt8)])then(bif ByteArray.toList s==ByteArray.toList (ByteArray.mk #[(97:UInt8),(98:UInt8),(115:UInt8)])then(true)else(false))else(bif ByteArray.toList s
 ==ByteArray.toList (ByteArray.mk #[(105:UInt8),(102:UInt8)])then(bif ByteArray.toList s==ByteArray.toList (ByteArray.mk #[(105:UInt8),(102:UInt8)])then(true)else
 (false))else(bif ByteArray.toList s==ByteArray.toList (ByteArray.mk #[(114:UInt8),(105:UInt8),(115:UInt8),(101:UInt8)])then(bif ByteArray.toList s==
 ByteArray.toList (ByteArray.mk #[(114:UInt8),(105:UInt8),(115:UInt8),(101:UInt8)])then(true)else(false))else(bif ByteArray.toList s==ByteArray.toList
 (ByteArray.mk #[(102:UInt8),(97:UInt8),(108:UInt8),(108:UInt8)])then(bif ByteArray.toList s==ByteArray.toList (ByteArray.mk #[(102:UInt8),(97:UInt8),(108:
 UInt8),(108:UInt8)])then(true)else(false))else(bif ByteArray.toList s==ByteArray.toList (ByteArray.mk #[(100:UInt8),(101:UInt8),(108:UInt8),(97:UInt8),(121:
 UInt8)])then(bif ByteArray.toList s==ByteArray.toList (ByteArray.mk #[(100:UInt8),(101:UInt8),(108:UInt8),(97:UInt8),(121:UInt8)])then(true)else(false))else
 (bif ByteArray.toList s==ByteArray.toList (ByteArray.mk #[(104:UInt8),(111:UInt8),(108:UInt8),(100:UInt8)])then(bif ByteArray.toList s==ByteArray.toList
 (ByteArray.mk #[(104:UInt8),(111:UInt8),(108:UInt8),(100:UInt8)])then(true)else(false))else(bif ByteArray.toList s==ByteArray.toList (ByteArray.mk #[(108:
 UInt8),(97:UInt8),(116:UInt8),(99:UInt8),(104:UInt8)])then(bif ByteArray.toList s==ByteArray.toList (ByteArray.mk #[(108:UInt8),(97:UInt8),(116:UInt8),(99:
 UInt8),(104:UInt8)])then(true)else(false))else(bif ByteArray.toList s==ByteArray.toList (ByteArray.mk #[(99:UInt8),(111:UInt8),(117:UInt8),(110:UInt8),(116:
 UInt8)])then(true)else(false)))))))))))))))))
theorem Arz(s:BA):Ai prog Orc.nil na 5 f195 (Ac f195) [vS s] []=some (.leaf (vB (C9 s),[])):=by
 rw[AmL];unfold C9;simp only[Jx]
def AkX:Ann:=A1 [(4,⟨[1,11,12],[]⟩)]
def AbL(x:SRule)(g m:Nat)(i12:Int):=LK prog Orc.nil AkX 0 g f197 4 m ⟨frm [(1, .c (.ptr 0 0)),(11,iA (↑(ByteArray.size (SRule.text x)):Int)),(12,iA i12)] 0 f197.ntmps,[(0, .cells (List.map C.d (E0 x)) 136)],1⟩
theorem b117:f197.body=some (Ac f197):=by kernel_rfl
theorem Ary(x:SRule)(g:Nat):Ai prog Orc.nil AkX g f197 (Ac f197) [Zo x] []=
 (bif decide ((↑(ByteArray.size x.text):Int)>120)then leI 4 else AbL x g g 0):=by kernel_rfl
theorem AlF(x:SRule)(g m:Nat)(i12:Int):AbL x g (m+1) i12=
 (bif decide (i12<(↑(ByteArray.size x.text):Int))then(bif decide (0<=i12)&&decide (i12<(↑(ByteArray.size x.text):Int))then(bif decide ((↑(UInt8.toNat ((Array.toList
 (ByteArray.data x.text)).getD i12.toNat 0)):Int)<32)then leI 5 else(bif decide ((↑(UInt8.toNat ((Array.toList (ByteArray.data x.text)).getD i12.toNat 0)):Int)>126)then
 leI 5 else(bif(↑(UInt8.toNat ((Array.toList (ByteArray.data x.text)).getD i12.toNat 0)):Int)==34 then leI 5 else AbL x g m (wrap .i64 (i12+1)))))else none)else
 leI 0):=by kernel_rfl
theorem AmJ(x:SPub):Ai prog (Orc.cons 189 (inl prog Orc.nil na 1 f189) Orc.nil) na 5 f203 (Ac f203) [aPub x] []=
 (bif decide (x.fst>=1)then(bif !decide (x.fst<=100)then leI 2 else(bif decide (x.max>=x.fst)then(bif !decide (x.max<=1000)then leI 2 else leI 0)else leI 2))else leI 2):=by kernel_rfl
def Dz(x:SPub):Int:=
 (bif decide (SPub.fst x>=(1:Int))then(bif !decide (SPub.fst x<=(100:Int))then((2:Int))else(bif decide (SPub.max x>=SPub.fst x)then(bif !decide (SPub.max x<=(1000:
 Int))then((2:Int))else((0:Int)))else((2:Int))))else((2:Int)))
theorem Aru(x:SPub):Ai prog (Orc.cons 189 (inl prog Orc.nil na 1 f189) Orc.nil) na 5 f203 (Ac f203) [aPub x] []=some (.leaf (vI (Dz x),[])):=by
 rw[AmJ];unfold Dz;simp only[Aqf]
def oN(nk:BA ->Bool)(r:Orc):Orc:=Orc.cons 65 (ansP decS fun s=>vB (nk s)) r
def o147(nk:BA ->Bool):Orc:=Orc.cons 228 (inl prog (oN nk Orc.nil) na 1 f228) Orc.nil
def AkQ:Ann:=A1 [(2,⟨[0,1,7,8],[]⟩)]
def AbF(nk:BA ->Bool)(l:List BA)(g m:Nat)(i8:Int):=LK prog (o147 nk) AkQ 0 g f242 2 m ⟨frm [(0, .c (.d (Ad 1 busC e0 l))),(1, .c (.d (.v (Value.func (Fn.func (228:FuncId)) #[] #[])))),(7,iA (↑(List.length l):Int)),(8,iA i8)] 0 f242.ntmps,[],0⟩
theorem b147:f242.body=some (Ac f242):=by kernel_rfl
theorem Ark(nk:BA ->Bool)(l:List BA)(g:Nat):Ai prog (o147 nk) AkQ g f242 (Ac f242) [.c (.d (Ab l)), .c (.d (dF 228))] []=
 AbF nk l g g 0:=by kernel_rfl
theorem AdF(nk:BA ->Bool)(l:List BA)(g m:Nat)(i8:Int):AbF nk l g (m+1) i8=
 (bif decide (i8<(↑l.length:Int))then(bif decide (0<=i8)&&decide (i8<(↑l.length:Int))then(bif !nk (l.getD i8.toNat e0)then leI i8 else AbF nk l g m (wrap
 .i64 (i8+1)))else none)else leI (-1)):=by kernel_rfl
def o119(oki:LB)(ix:LI):Orc:=Orc.cons 242 (ansG oki fun x=>vI (ix x)) Orc.nil
def o142(oki:LB)(ix:LI):Orc:=Orc.cons 227 (inl prog (o119 oki ix) na 1 f227) Orc.nil
def ApC:Ann:=A1 []
theorem b119:f199.body=some (Ac f199):=by kernel_rfl
theorem Arw(oki:LB)(ix:LI)(l:List BA)(g:Nat):Ai prog (o142 oki ix) ApC g f199 (Ac f199) [.c (.d (Ab l))] []=
 (bif oki [.c (.d (Ad (1) busC e0 l)), .c (.d (.v (Value.func (Fn.func 228) #[] #[])))]then leB !decide (ix [.c (.d (Ad (1) busC e0 l)), .c (.d (.v (Value.func
 (Fn.func 228) #[] #[])))]>=0)else none):=by kernel_rfl
def o114(nk rs:BA ->Bool):Orc:=oN nk (Orc.cons 195 (ansP decS fun s=>vB (rs s)) Orc.nil)
theorem AmM(nk rs:BA ->Bool)(x:SRule):Ai prog (o114 nk rs) na 5 f194 (Ac f194) [Zo x] []=
 (bif nk x.name then leB !rs x.name else leB false):=by kernel_rfl
def Y6(nk rs:BA ->Bool)(x:SRule):Bool:=
 (bif nk (SRule.name x)then(!rs (SRule.name x))else(false))
theorem ArA(nk rs:BA ->Bool)(x:SRule):Ai prog (o114 nk rs) na 5 f194 (Ac f194) [Zo x] []=some (.leaf (vB (Y6 nk rs x),[])):=by
 rw[AmM];unfold Y6;simp only[Jx]
def o118(nk:BA ->Bool)(okn nm:LB):Orc:=oN nk (Orc.cons 199 (ansG okn fun x=>vB (nm x)) Orc.nil)
def ApD:Ann:=A1 []
theorem b118:f198.body=some (Ac f198):=by kernel_rfl
theorem Arx(nk:BA ->Bool)(okn nm:LB)(x:SSet)(g:Nat):Ai prog (o118 nk okn nm) ApD g f198 (Ac f198) [aSet x] []=
 (bif nk x.name then(bif okn [.c (.d (Ad (1) busC e0 x.qm))]then leB (nm [.c (.d (Ad (1) busC e0 x.qm))])else none)else leB false):=by kernel_rfl
theorem AmK(nk:BA ->Bool)(x:SPub):Ai prog (oN nk Orc.nil) na 5 f201 (Ac f201) [aPub x] []=
 leB (nk x.set):=by kernel_rfl
def AfC(nk:BA ->Bool)(x:SPub):Bool:=
 ((nk (SPub.set x)))
theorem Arv(nk:BA ->Bool)(x:SPub):Ai prog (oN nk Orc.nil) na 5 f201 (Ac f201) [aPub x] []=some (.leaf (vB (AfC nk x),[])):=by
 rw[AmK];unfold AfC;simp only[Jx]
def o124(nk:BA ->Bool):Orc:=Orc.cons 199 (inl prog (Orc.cons 227 (inl prog (Orc.cons 242 (inl prog (o147 nk) na 6 f242) Orc.nil) na 1 f227) Orc.nil) na 1 f199) Orc.nil
def ApB:Ann:=A1 []
theorem b124:f204.body=some (Ac f204):=by kernel_rfl
theorem Art(nk:BA ->Bool)(x:SSub)(g:Nat):Ai prog (o124 nk) ApB g f204 (Ac f204) [aSub x] []=
 (bif !nk x.loc then leB false else(bif !nk x.dev then leB false else(bif !nk x.set then leB false else(bif !nk x.sig then leB false else leB true)))):=by kernel_rfl
def o126(okv va okt:LB)(rt:LI):Orc:=Orc.cons 194 (ansG okv fun x=>vB (va x)) (Orc.cons 196 (inl prog Orc.nil na 1 f196) (Orc.cons 197 (ansG okt fun x=>vI (rt x)) Orc.nil))
def AkW:Ann:=A1 [(3,⟨[2,5,10,11,12],[]⟩)]
def AbK(okv va okt:LB)(rt:LI)(l:List SRule)(g m:Nat)(l1:MV)(i12:Int):=LK prog (o126 okv va okt rt) AkW 0 g f206 3 m ⟨frm [(2, .c (.ptr 0 0)),(5, .c (.mp 1)),(10, .c (.d (Ad 2 E0 Be l))),(11,iA (↑(List.length l):Int)),(12,iA i12)] 0 f206.ntmps,[(0, .cells [.d (.v (Value.func (Fn.func (194:FuncId)) #[] #[])), .d (.v (Value.func (Fn.func (196:FuncId)) #[] #[])), .d (.v (Value.func (Fn.func (197:FuncId)) #[] #[]))] 264),(1, .map 0 l1)],2⟩
theorem b126:f206.body=some (Ac f206):=by kernel_rfl
theorem Ars(okv va okt:LB)(rt:LI)(l:List SRule)(g:Nat):Ai prog (o126 okv va okt rt) AkW g f206 (Ac f206) [.agg [.d (dF 194), .d (dF 196), .d (dF 197)], .c (.d (Qt l))] []=
 AbK okv va okt rt l g g ([]) 0:=by kernel_rfl
theorem AdK(okv va okt:LB)(rt:LI)(l:List SRule)(g m:Nat)(l1:MV)(i12:Int):AbK okv va okt rt l g (m+1) l1 i12=
 (bif decide (i12<(↑l.length:Int))then(bif decide (0<=i12)&&decide (i12<(↑l.length:Int))then(bif okv [gA (E0 (l.getD i12.toNat Be))]then(bif !va
 [gA (E0 (l.getD i12.toNat Be))]then leI 7 else(bif B8 (Bb l1 (Value.string (SRule.name (l.getD i12.toNat Be))))then leI 8 else(bif okt [.agg (List.map C.d
 (E0 (l.getD i12.toNat Be)))]then(bif rt [gA (E0 (l.getD i12.toNat Be))] !=0 then leI (rt [gA (E0 (l.getD i12.toNat Be))])else AbK okv va
 okt rt l g m ((Value.string (SRule.name (l.getD i12.toNat Be)),Value.bool true)::l1) (wrap .i64 (i12+1)))else none)))else none)else none)else leI 0):=by kernel_rfl
def o127(okv va:LB):Orc:=Orc.cons 198 (ansG okv fun x=>vB (va x)) (Orc.cons 200 (inl prog Orc.nil na 1 f200) Orc.nil)
def AkV:Ann:=A1 [(3,⟨[2,5,10,11,12],[]⟩)]
def AbJ(okv va:LB)(l:List SSet)(g m:Nat)(l1:MV)(i12:Int):=LK prog (o127 okv va) AkV 0 g f207 3 m ⟨frm [(2, .c (.ptr 0 0)),(5, .c (.mp 1)),(10, .c (.d (Ad 2 setC set0 l))),(11,iA (↑(List.length l):Int)),(12,iA i12)] 0 f207.ntmps,[(0, .cells [.d (.v (Value.func (Fn.func (198:FuncId)) #[] #[])), .d (.v (Value.func (Fn.func (200:FuncId)) #[] #[])), .d (.v Value.nilFunc)] 269),(1, .map 0 l1)],2⟩
theorem b127:f207.body=some (Ac f207):=by kernel_rfl
theorem Arr(okv va:LB)(l:List SSet)(g:Nat):Ai prog (o127 okv va) AkV g f207 (Ac f207) [.agg [.d (dF 198), .d (dF 200), .d dNF], .c (.d (Sk l))] []=
 AbJ okv va l g g ([]) 0:=by kernel_rfl
theorem AdJ(okv va:LB)(l:List SSet)(g m:Nat)(l1:MV)(i12:Int):AbJ okv va l g (m+1) l1 i12=
 (bif decide (i12<(↑l.length:Int))then(bif decide (0<=i12)&&decide (i12<(↑l.length:Int))then(bif okv [gA (setC (l.getD i12.toNat set0))]then(bif
 !va [gA (setC (l.getD i12.toNat set0))]then leI 7 else(bif B8 (Bb l1 (Value.string (SSet.name (l.getD i12.toNat set0))))then leI 8 else AbJ okv va l g m
 ((Value.string (SSet.name (l.getD i12.toNat set0)),Value.bool true)::l1) (wrap .i64 (i12+1))))else none)else none)else leI 0):=by kernel_rfl
def o128(okv va okt:LB)(rt:LI):Orc:=Orc.cons 201 (ansG okv fun x=>vB (va x)) (Orc.cons 202 (inl prog Orc.nil na 1 f202) (Orc.cons 203 (ansG okt fun x=>vI (rt x)) Orc.nil))
def AkU:Ann:=A1 [(3,⟨[2,5,10,11,12],[]⟩)]
def AbI(okv va okt:LB)(rt:LI)(l:List SPub)(g m:Nat)(l1:MV)(i12:Int):=LK prog (o128 okv va okt rt) AkU 0 g f208 3 m ⟨frm [(2, .c (.ptr 0 0)),(5, .c (.mp 1)),(10, .c (.d (Ad 3 pubC pub0 l))),(11,iA (↑(List.length l):Int)),(12,iA i12)] 0 f208.ntmps,[(0, .cells [.d (.v (Value.func (Fn.func (201:FuncId)) #[] #[])), .d (.v (Value.func (Fn.func (202:FuncId)) #[] #[])), .d (.v (Value.func (Fn.func (203:FuncId)) #[] #[]))] 273),(1, .map 0 l1)],2⟩
theorem b128:f208.body=some (Ac f208):=by kernel_rfl
theorem Arq(okv va okt:LB)(rt:LI)(l:List SPub)(g:Nat):Ai prog (o128 okv va okt rt) AkU g f208 (Ac f208) [.agg [.d (dF 201), .d (dF 202), .d (dF 203)], .c (.d (Yk l))] []=
 AbI okv va okt rt l g g ([]) 0:=by kernel_rfl
theorem AdI(okv va okt:LB)(rt:LI)(l:List SPub)(g m:Nat)(l1:MV)(i12:Int):AbI okv va okt rt l g (m+1) l1 i12=
 (bif decide (i12<(↑l.length:Int))then(bif decide (0<=i12)&&decide (i12<(↑l.length:Int))then(bif okv [gA (pubC (l.getD i12.toNat pub0))]then(bif
 !va [gA (pubC (l.getD i12.toNat pub0))]then leI 7 else(bif B8 (Bb l1 (Value.string (SPub.set (l.getD i12.toNat pub0))))then leI 8 else(bif okt [AV.agg
 (List.map C.d (pubC (l.getD i12.toNat pub0)))]then(bif rt [gA (pubC (l.getD i12.toNat pub0))] !=0 then leI (rt [gA (pubC (l.getD i12.toNat
 pub0))])else AbI okv va okt rt l g m ((Value.string (SPub.set (l.getD i12.toNat pub0)),Value.bool true)::l1) (wrap .i64 (i12+1)))else none)))else none)else none)
 else leI 0):=by kernel_rfl
def o129(okv va:LB):Orc:=Orc.cons 204 (ansG okv fun x=>vB (va x)) (Orc.cons 205 (inl prog Orc.nil na 1 f205) Orc.nil)
def AkT:Ann:=A1 [(3,⟨[2,5,10,11,12],[]⟩)]
def AbH(okv va:LB)(l:List SSub)(g m:Nat)(l1:MV)(i12:Int):=LK prog (o129 okv va) AkT 0 g f209 3 m ⟨frm [(2, .c (.ptr 0 0)),(5, .c (.mp 1)),(10, .c (.d (Ad 4 subC sub0 l))),(11,iA (↑(List.length l):Int)),(12,iA i12)] 0 f209.ntmps,[(0, .cells [.d (.v (Value.func (Fn.func (204:FuncId)) #[] #[])), .d (.v (Value.func (Fn.func (205:FuncId)) #[] #[])), .d (.v Value.nilFunc)] 278),(1, .map 0 l1)],2⟩
theorem b129:f209.body=some (Ac f209):=by kernel_rfl
theorem Arp(okv va:LB)(l:List SSub)(g:Nat):Ai prog (o129 okv va) AkT g f209 (Ac f209) [.agg [.d (dF 204), .d (dF 205), .d dNF], .c (.d (Yc l))] []=
 AbH okv va l g g ([]) 0:=by kernel_rfl
theorem AdH(okv va:LB)(l:List SSub)(g m:Nat)(l1:MV)(i12:Int):AbH okv va l g (m+1) l1 i12=
 (bif decide (i12<(↑l.length:Int))then(bif decide (0<=i12)&&decide (i12<(↑l.length:Int))then(bif okv [gA (subC (l.getD i12.toNat sub0))]then(bif
 !va [gA (subC (l.getD i12.toNat sub0))]then leI 7 else(bif B8 (Bb l1 (Value.string (SSub.loc (l.getD i12.toNat sub0))))then leI 8 else AbH okv va l g m
 ((Value.string (SSub.loc (l.getD i12.toNat sub0)),Value.bool true)::l1) (wrap .i64 (i12+1))))else none)else none)else leI 0):=by kernel_rfl
def o85(ok1 ok2 ok3 ok4:LB)(f1 f2 f3 f4:LI):Orc:=Orc.cons 206 (ansG ok1 fun x=>vI (f1 x)) (Orc.cons 207 (ansG ok2 fun x=>vI (f2 x)) (Orc.cons 208 (ansG ok3 fun x=>vI (f3 x)) (Orc.cons 209 (ansG ok4 fun x=>vI (f4 x)) Orc.nil)))
def ArJ:Ann:=A1 []
theorem b85:f140.body=some (Ac f140):=by kernel_rfl
theorem ev85(ok1 ok2 ok3 ok4:LB)(f1 f2 f3 f4:LI)(r:SRel)(g:Nat):Ai prog (o85 ok1 ok2 ok3 ok4 f1 f2 f3 f4) ArJ g f140 (Ac f140) [aRel r] []=
 (bif ok1 [.agg [.d (.v (Value.func (Fn.func 194) #[] #[])), .d (.v (Value.func (Fn.func 196) #[] #[])), .d (.v (Value.func (Fn.func 197) #[] #[]))], .c (.d (Ad (2) E0 Be
 r.qi))]then(bif f1 [.agg [.d (.v (Value.func (Fn.func 194) #[] #[])), .d (.v (Value.func (Fn.func 196) #[] #[])), .d (.v (Value.func (Fn.func 197) #[] #[]))],AV.c
 (.d (Ad (2) E0 Be r.qi))] !=0 then leI (f1 [.agg [.d (.v (Value.func (Fn.func 194) #[] #[])), .d (.v (Value.func (Fn.func 196) #[] #[])), .d (.v (Value.func (Fn.func
 197) #[] #[]))], .c (.d (Ad (2) E0 Be r.qi))])else(bif ok2 [.agg [.d (.v (Value.func (Fn.func 198) #[] #[])), .d (.v (Value.func (Fn.func 200) #[] #[])), .d (D.v
 Value.nilFunc)], .c (.d (Ad (2) setC set0 r.qj))]then(bif f2 [.agg [.d (.v (Value.func (Fn.func 198) #[] #[])), .d (.v (Value.func (Fn.func 200) #[] #[])), .d (D.v
 Value.nilFunc)], .c (.d (Ad (2) setC set0 r.qj))] !=0 then leI (f2 [.agg [.d (.v (Value.func (Fn.func 198) #[] #[])), .d (.v (Value.func (Fn.func 200) #[] #[])),C.d
 (D.v Value.nilFunc)], .c (.d (Ad (2) setC set0 r.qj))])else(bif ok3 [.agg [.d (.v (Value.func (Fn.func 201) #[] #[])), .d (.v (Value.func (Fn.func 202) #[] #[])),C.d
 (D.v (Value.func (Fn.func 203) #[] #[]))], .c (.d (Ad (3) pubC pub0 r.qk))]then(bif f3 [.agg [.d (.v (Value.func (Fn.func 201) #[] #[])), .d (.v (Value.func (Fn.func
 202) #[] #[])), .d (.v (Value.func (Fn.func 203) #[] #[]))], .c (.d (Ad ((3:Nat)) pubC pub0 r.qk))] !=0 then leI (f3 [.agg [.d (.v (Value.func (Fn.func 201) #[]
 #[])), .d (.v (Value.func (Fn.func 202) #[] #[])), .d (.v (Value.func (Fn.func 203) #[] #[]))], .c (.d (Ad (3) pubC pub0 r.qk))])else(bif ok4 [.agg [.d (D.v
 (Value.func (Fn.func 204) #[] #[])), .d (.v (Value.func (Fn.func 205) #[] #[])), .d (.v Value.nilFunc)], .c (.d (Ad (4) subC sub0 r.ql))]then leI (f4 [.agg [.d (D.v
 (Value.func (Fn.func 204) #[] #[])), .d (.v (Value.func (Fn.func (205:Nat)) #[] #[])), .d (.v Value.nilFunc)], .c (.d (Ad (4) subC sub0 r.ql))])else none))else none))
 else none))else none):=by kernel_rfl
def o113:Orc:=Orc.cons 192 (inl prog (Orc.cons 189 (inl prog Orc.nil na 1 f189) Orc.nil) na 1 f192) Orc.nil
def AkR:Ann:=A1 [(2,⟨[0,1,7,8],[]⟩)]
def AbG(l:List SSet)(g m:Nat)(i8:Int):=LK prog o113 AkR 0 g f46 2 m ⟨frm [(0, .c (.d (Ad 2 setC set0 l))),(1, .c (.d (.v (Value.func (Fn.func (192:FuncId)) #[] #[])))),(7,iA (↑(List.length l):Int)),(8,iA i8)] 0 f46.ntmps,[],0⟩
theorem b141:f46.body=some (Ac f46):=by kernel_rfl
theorem Arl(l:List SSet)(g:Nat):Ai prog o113 AkR g f46 (Ac f46) [.c (.d (Sk l)), .c (.d (dF 192))] []=
 AbG l g g 0:=by kernel_rfl
theorem AdG(l:List SSet)(g m:Nat)(i8:Int):AbG l g (m+1) i8=
 (bif decide (i8<(↑l.length:Int))then(bif decide (0<=i8)&&decide (i8<(↑l.length:Int))then(bif decide ((↑(SSet.qm (l.getD i8.toNat set0)).length:Int)>=1)then
 (bif !decide ((↑(SSet.qm (l.getD i8.toNat set0)).length:Int)<=24)then leI i8 else AbG l g m (wrap .i64 (i8+1)))else leI i8)else none)else leI (-1)):=by kernel_rfl
def o84(oki:LB)(ix:LI):Orc:=Orc.cons 193 (inl prog (Orc.cons 46 (ansG oki fun x=>vI (ix x)) Orc.nil) na 1 f193) Orc.nil
def ArK:Ann:=A1 []
theorem b84:f139.body=some (Ac f139):=by kernel_rfl
theorem ev84(oki:LB)(ix:LI)(r:SRel)(g:Nat):Ai prog (o84 oki ix) ArK g f139 (Ac f139) [aRel r] []=
 (bif decide ((↑r.qi.length:Int)<=16)then(bif decide ((↑r.qj.length:Int)<=4)then(bif decide ((↑r.qk.length:Int)<=4)then(bif decide ((↑r.ql.length:Int)<=
 24)then(bif oki [.c (.d (Ad (2) setC set0 r.qj)), .c (.d (.v (Value.func (Fn.func 192) #[] #[])))]then leB !decide (ix [.c (.d (Ad (2) setC set0 r.qj)), .c (C.d
 (D.v (Value.func (Fn.func 192) #[] #[])))]>=0)else none)else leB false)else leB false)else leB false)else leB false):=by kernel_rfl
end Go.Y.se
namespace Go.Y.se
open Go.RowKit Go.Eb Go.Y.st
theorem sN{r:Orc}(h:OrcS prog r):OrcS prog (oN Ag r):= .cons (.p D9 c15) h
theorem sW:OrcS prog (Orc.cons 189 (inl prog Orc.nil na 1 f189) Orc.nil):= .cons (.inl .nil func189 (by kernel_rfl)) .nil
def eFn(f:FuncId):Unit ->AV:=fun _=> .c (.d (dF f))
theorem AfT(f:FuncId):InjA (eFn f):=fun _ _ _=>rfl
abbrev eBus:=aD Ab
theorem AaW:InjA eBus:=Xn (A8 (sz:=1) (d0:=e0) Ca)
theorem AgM:InjA Zo:=Kn Li
theorem Ajj:InjA aSet:=Kn Lg
theorem Ajk:InjA aPub:=Kn Px
theorem Ajh:InjA aSub:=Kn J5
theorem c115(s:BA):CX prog 195 [vS s] [] (vB (C9 s)) []:=Am (Orc.nil_ok _) func195 (by kernel_rfl) rfl (Arz s)
theorem c123(x:SPub):CX prog 203 [aPub x] [] (vI (Dz x)) []:=Am sW.ok func203 (by kernel_rfl) rfl (Aru x)
theorem AoA(x:SRule)(g:Nat)(hs:x.text.size<=120): ∀(m k:Nat),k<=x.text.size ->x.text.size -k<m ->AbL x g m k=lN (bif(x.text.data.toList.drop k).any Gb then 5 else 0)
 |0,k,_,h=>by omega|m+1,k,hk,h=>by
  rw[AlF];by_cases hlt:k<x.text.size
  ·have hl:k<x.text.data.toList.length:=by simpa using hlt
   have ih:=AoA x g hs m (k+1) (by omega) (by omega);rw[Av (d:=0) hl];rw[lt1 hlt,ge0,tn,nx hlt,ih];simp only[tt,za,List.any_cons,Gb];generalize decide (((x.text.data.toList.getD k 0).toNat:Int)<32)=a1;generalize decide (((x.text.data.toList.getD k 0).toNat:Int)>126)=a2;generalize (((x.text.data.toList.getD k 0).toNat:Int)==34)=a3;cases a1<;>cases a2<;>cases a3<;>rfl
  ·rw[lt0 hlt,zl (by simp;omega)];rfl
theorem c117(x:SRule):CX prog 197 [Zo x] [] (vI (D2 x.text)) []:=by
 obtain⟨g,hg⟩: ∃g,x.text.size<g:=⟨x.text.size+1,by omega⟩;refine Am (Orc.nil_ok _) func197 b117 rfl ((Ary x g).trans ?_);have e:decide ((x.text.size:Int)>120)=decide (120<x.text.size):=by
  rw[Bool.eq_iff_iff,zi,zi];omega
 unfold D2;rw[e];cases h1:decide (120<x.text.size)with
 |true=>rfl|false=>
  have hs:x.text.size<=120:=by simp at h1;omega
  have:=AoA x g hs g 0 (by omega) (by omega);simp only[zb];exact this
theorem s147:OrcS prog (o147 Ag):= .cons (.inl (sN .nil) func228 (by kernel_rfl)) .nil
theorem c147(l:List BA)(hl:l.length<=9223372036854775807):CX prog 242 [.c (.d (Ab l)), .c (.d (dF 228))] [] (vI (idxP (fun s=> !Ag s) 0 l)) []:=by
 obtain⟨g,hg⟩: ∃g,l.length<g:=⟨l.length+1,by omega⟩;refine Am s147.ok func242 b147 rfl ((Ark Ag l g).trans ?_);have:=Lx (p:=fun s=> !Ag s) (l:=l) (d0:=e0) (L:=fun m i=>AbF Ag l g m i) (fun m k hk=>by
  rw[AdF,lt1 hk,ge0,tn,nx hk hl];simp only[tt,za]) (fun m=>by rw[AdF,lt0 (zp _)];rfl) g 0 (by omega) (by omega)
 exact this
abbrev eNm:=en2 eBus (eFn 228)
theorem AfR:InjT eNm:=K4 AaW (AfT _)
def cLen{J O:Type}(a:List J×O):Bool:=Au a.1
theorem s142:OrcS prog (o142 (okG eNm cLen) fun x=>idxP (fun s=> !Ag s) 0 (theT eNm x).1):=
 .cons (.inl (.cons (.t' (r:=fun(a:List BA×Unit)=>vI (idxP (fun s=> !Ag s) 0 a.1)) fun a h=>c147 a.1 (Bi h)) .nil) func227 (by kernel_rfl)) .nil
theorem Akw(l:List BA):(!l.any fun s=> !Ag s)=l.all Ag:=by
 induction l with
 |nil=>rfl|cons x r ih=>simp only[List.any_cons,List.all_cons,Bool.not_or,ih,Bool.not_not]
theorem c119(l:List BA)(hl:Au l=true):CX prog 199 [.c (.d (Ab l))] [] (vB (l.all Ag)) []:=by
 refine Am s142.ok func199 b119 rfl ((Arw _ _ l 1).trans ?_);have k:=Ao AfR (c:=cLen) (l,()) hl;have t:=Aj AfR (l,());simp only[en2,aD,eFn]at k t;rw[k,t,Re,Akw];rfl
def H8(x:SRule):Bool:=Ag x.name&& !C9 x.name
def Qr(x:SSet):Bool:=Ag x.name&&x.qm.all Ag
def T5(x:SPub):Bool:=Ag x.set
def Qn(x:SSub):Bool:=Ag x.loc&&(Ag x.dev&&(Ag x.set&&Ag x.sig))
theorem c114(x:SRule):CX prog 194 [Zo x] [] (vB (H8 x)) []:=by
 refine Am (sN (.cons (.p D9 c115) .nil)).ok func194 (by kernel_rfl) rfl ((ArA Ag C9 x).trans ?_);unfold Y6 H8;cases Ag x.name<;>rfl
abbrev eB1:=en1 eBus
theorem AfX:InjT eB1:=Cf AaW
theorem c118(x:SSet)(hx:Ln x=true):CX prog 198 [aSet x] [] (vB (Qr x)) []:=by
 refine Am (sN (.cons (.t' (enc:=eB1) (c:=Au) (r:=fun a=>vB (a.all Ag)) fun a h=>c119 a h) .nil)).ok func198 b118 rfl ((Arx Ag (okG eB1 Au) (fun y=>(theT eB1 y).all Ag) x 1).trans ?_);have k:=Ao AfX (c:=Au) x.qm hx;have t:=Aj AfX x.qm;simp only[en1,aD]at k t;rw[k,t];unfold Qr;cases Ag x.name<;>rfl
theorem c121(x:SPub):CX prog 201 [aPub x] [] (vB (T5 x)) []:=Am (sN .nil).ok func201 (by kernel_rfl) rfl (Arv Ag x)
theorem s124:OrcS prog (o124 Ag):= .cons (.inl (.cons (.inl (.cons (.inl s147 func242 (by kernel_rfl)) .nil) func227 (by kernel_rfl)) .nil) func199 (by kernel_rfl)) .nil
theorem c124(x:SSub):CX prog 204 [aSub x] [] (vB (Qn x)) []:=by
 refine Am s124.ok func204 b124 rfl ((Art Ag x 1).trans ?_);unfold Qn;cases Ag x.loc<;>cases Ag x.dev<;>cases Ag x.set<;>cases Ag x.sig<;>rfl
def c1{J:Type}(_:J):Bool:=true
abbrev eRu:=en1 Zo
abbrev eSe:=en1 aSet
abbrev ePu:=en1 aPub
abbrev eSu:=en1 aSub
theorem AfM:InjT eRu:=Cf AgM
theorem AfL:InjT eSe:=Cf Ajj
theorem AfO:InjT ePu:=Cf Ajk
theorem AfK:InjT eSu:=Cf Ajh
theorem Xe(seen:List BA)(s:BA):B8 (Bb (Ap seen) (.string s))=inB seen s:=C2 seen s
theorem s126:OrcS prog (o126 (okG eRu c1) (fun x=>H8 (theT eRu x)) (okG eRu c1) fun x=>D2 (theT eRu x).text):=
 .cons (.t' (r:=fun a=>vB (H8 a)) fun a _=>c114 a) (.cons (.inl .nil func196 (by kernel_rfl)) (.cons (.t' (r:=fun(a:SRule)=>vI (D2 a.text)) fun a _=>c117 a) .nil))
theorem c126(l:List SRule)(hl:Au l=true):CX prog 206 [.agg [.d (dF 194), .d (dF 196), .d (dF 197)], .c (.d (Qt l))] [] (vI (Cd H8 SRule.name (fun x=>D2 x.text) [] l)) []:=by
 obtain⟨g,hg⟩: ∃g,l.length<g:=⟨l.length+1,by omega⟩;refine Am s126.ok func206 b126 rfl ((Ars _ _ _ _ l g).trans ?_);have:=H7 (valid:=H8) (key:=SRule.name) (rest:=fun x=>D2 x.text) (l:=l) (d0:=Be) (L:=fun m mp i=>AbK (okG eRu c1) (fun x=>H8 (theT eRu x)) (okG eRu c1) (fun x=>D2 (theT eRu x).text) l g m mp i) (fun m k seen hk=>by
  have k1:=Ao AfM (c:=c1) (l.getD k Be) rfl;have t1:=Aj AfM (l.getD k Be);simp only[en1]at k1 t1;rw[AdK,lt1 hk,ge0,tn,nx hk (Bi hl),k1,t1,Xe,Cc];simp only[tt,za]) (fun m mp=>by rw[AdK,lt0 (zp _)];rfl) g 0 [] (by omega) (by omega)
 exact this
theorem s127:OrcS prog (o127 (okG eSe Ln) fun x=>Qr (theT eSe x)):= .cons (.t' (r:=fun a=>vB (Qr a)) fun a h=>c118 a h) (.cons (.inl .nil func200 (by kernel_rfl)) .nil)
def V0{J:Type}(_:J):Int:=0
theorem c127(l:List SSet)(hl:Au l=true)(ha:l.all Ln=true):CX prog 207 [.agg [.d (dF 198), .d (dF 200), .d dNF], .c (.d (Sk l))] [] (vI (Cd Qr SSet.name V0 [] l)) []:=by
 obtain⟨g,hg⟩: ∃g,l.length<g:=⟨l.length+1,by omega⟩;refine Am s127.ok func207 b127 rfl ((Arr _ _ l g).trans ?_);have:=H7 (valid:=Qr) (key:=SSet.name) (rest:=V0) (l:=l) (d0:=set0) (L:=fun m mp i=>AbJ (okG eSe Ln) (fun x=>Qr (theT eSe x)) l g m mp i) (fun m k seen hk=>by
  have k1:=Ao AfL (c:=Ln) (l.getD k set0) (E7 ha rfl k);have t1:=Aj AfL (l.getD k set0);simp only[en1]at k1 t1;rw[AdJ,lt1 hk,ge0,tn,nx hk (Bi hl),k1,t1,Xe,Cc];simp only[tt,za];rfl) (fun m mp=>by rw[AdJ,lt0 (zp _)];rfl) g 0 [] (by omega) (by omega)
 exact this
theorem s128:OrcS prog (o128 (okG ePu c1) (fun x=>T5 (theT ePu x)) (okG ePu c1) fun x=>Dz (theT ePu x)):=
 .cons (.t' (r:=fun a=>vB (T5 a)) fun a _=>c121 a) (.cons (.inl .nil func202 (by kernel_rfl)) (.cons (.t' (r:=fun(a:SPub)=>vI (Dz a)) fun a _=>c123 a) .nil))
theorem c128(l:List SPub)(hl:Au l=true):CX prog 208 [.agg [.d (dF 201), .d (dF 202), .d (dF 203)], .c (.d (Yk l))] [] (vI (Cd T5 SPub.set Dz [] l)) []:=by
 obtain⟨g,hg⟩: ∃g,l.length<g:=⟨l.length+1,by omega⟩;refine Am s128.ok func208 b128 rfl ((Arq _ _ _ _ l g).trans ?_);have:=H7 (valid:=T5) (key:=SPub.set) (rest:=Dz) (l:=l) (d0:=pub0) (L:=fun m mp i=>AbI (okG ePu c1) (fun x=>T5 (theT ePu x)) (okG ePu c1) (fun x=>Dz (theT ePu x)) l g m mp i) (fun m k seen hk=>by
  have k1:=Ao AfO (c:=c1) (l.getD k pub0) rfl;have t1:=Aj AfO (l.getD k pub0);simp only[en1]at k1 t1;rw[AdI,lt1 hk,ge0,tn,nx hk (Bi hl),k1,t1,Xe,Cc];simp only[tt,za]) (fun m mp=>by rw[AdI,lt0 (zp _)];rfl) g 0 [] (by omega) (by omega)
 exact this
theorem s129:OrcS prog (o129 (okG eSu c1) fun x=>Qn (theT eSu x)):= .cons (.t' (r:=fun a=>vB (Qn a)) fun a _=>c124 a) (.cons (.inl .nil func205 (by kernel_rfl)) .nil)
theorem c129(l:List SSub)(hl:Au l=true):CX prog 209 [.agg [.d (dF 204), .d (dF 205), .d dNF], .c (.d (Yc l))] [] (vI (Cd Qn SSub.loc V0 [] l)) []:=by
 obtain⟨g,hg⟩: ∃g,l.length<g:=⟨l.length+1,by omega⟩;refine Am s129.ok func209 b129 rfl ((Arp _ _ l g).trans ?_);have:=H7 (valid:=Qn) (key:=SSub.loc) (rest:=V0) (l:=l) (d0:=sub0) (L:=fun m mp i=>AbH (okG eSu c1) (fun x=>Qn (theT eSu x)) l g m mp i) (fun m k seen hk=>by
  have k1:=Ao AfK (c:=c1) (l.getD k sub0) rfl;have t1:=Aj AfK (l.getD k sub0);simp only[en1]at k1 t1;rw[AdH,lt1 hk,ge0,tn,nx hk (Bi hl),k1,t1,Xe,Cc];simp only[tt,za];rfl) (fun m mp=>by rw[AdH,lt0 (zp _)];rfl) g 0 [] (by omega) (by omega)
 exact this
end Go.Y.se
namespace Go.Eb
open Go.RowKit
def dec3:List AV ->Option (Int×Int×Int)
 |[.c (.d (.v (.int .i64 a))), .c (.d (.v (.int .i64 b))), .c (.d (.v (.int .i64 c)))]=>some (a,b,c)|_=>none
theorem U2(args:List AV)(a:Int×Int×Int)(h:dec3 args=some a):args=[vI a.1,vI a.2.1,vI a.2.2]:=by
 unfold dec3 at h;split at h
 ·cases h;rfl
 ·simp at h
def decE:List AV ->Option (Bool×Int×Int×Int)
 |[.agg [.d (.v (.bool o)), .d (.v (.int .i64 a)), .d (.v (.int .i64 b))], .c (.d (.v (.int .i64 c)))]=>some (o,a,b,c)|_=>none
theorem Agb(args:List AV)(a:Bool×Int×Int×Int)(h:decE args=some a):args=[.agg [.d (dB a.1), .d (dI a.2.1), .d (dI a.2.2.1)],vI a.2.2.2]:=by
 unfold decE at h;split at h
 ·cases h;rfl
 ·simp at h
def elOk(on:Bool)(pk dl least:Int):Bool:=bif on then Aa pk 1 16383&&Aa dl least 500 else(pk==0)&&(dl==0)
end Go.Eb
namespace Go.Y.se
open Go.RowKit Go.Eb
def oWi:Orc:=Orc.cons 189 (inl prog Orc.nil na 1 f189) Orc.nil
def oW3:Orc:=Orc.cons 189 (ansP dec3 fun a=>vB (Aa a.1 a.2.1 a.2.2)) Orc.nil
def oE3:Orc:=Orc.cons 190 (ansP decE fun a=>vB (elOk a.1 a.2.1 a.2.2.1 a.2.2.2)) oW3
def oZo:Orc:=Orc.cons 191 (inl prog oW3 na 1 f191) oW3
theorem AoM(a b c:Int):Ai prog Orc.nil na 5 f189 (Ac f189) [vI a,vI b,vI c] []=
 (bif decide (a>=b)then leB (decide (a<=c))else leB false):=by kernel_rfl
def Afy(a b c:Int):Bool:=
 (bif decide (a>=b)then((decide (a<=c)))else(false))
theorem evWi(a b c:Int):Ai prog Orc.nil na 5 f189 (Ac f189) [vI a,vI b,vI c] []=some (.leaf (vB (Afy a b c),[])):=by
 rw[AoM];unfold Afy;simp only[Jx]
theorem AoP(o:Bool)(a b c:Int):Ai prog oW3 na 5 f190 (Ac f190) [.agg [.d (dB o), .d (dI a), .d (dI b)],vI c] []=
 (bif !o then leB (o==false&&(a==0&&(b==0&&true)))else(bif Aa a 1 16383 then leB (Aa b c 500)else leB false)):=by kernel_rfl
def AfA(o:Bool)(a b c:Int):Bool:=
 (bif !o then((o==false&&(a==(0:Int)&&(b==(0:Int)&&true))))else(bif Aa a (1:Int) (16383:Int)then((Aa b c (500:Int)))else(false)))
theorem evEl(o:Bool)(a b c:Int):Ai prog oW3 na 5 f190 (Ac f190) [.agg [.d (dB o), .d (dI a), .d (dI b)],vI c] []=some (.leaf (vB (AfA o a b c),[])):=by
 rw[AoP];unfold AfA;simp only[Jx]
theorem AoZ(r:SRel):Ai prog oW3 na 5 f133 (Ac f133) [aRel r] []=
 (bif r.kind !=1 then(bif r.zon0==false&&(r.zfw0==false&&(r.zx0==0&&(r.zr0==0&&(r.zl0==0&&(r.zd0==0&&true)))))&&(r.zon1==false&&(r.zfw1==false&&
 (r.zx1==0&&(r.zr1==0&&(r.zl1==0&&(r.zd1==0&&true)))))&&(r.zon2==false&&(r.zfw2==false&&(r.zx2==0&&(r.zr2==0&&(r.zl2==0&&(r.zd2==0&&
 true)))))&&true))then(bif r.min==0 then(bif r.kre==0 then(bif r.kim==0 then(bif r.qn==0 then(bif r.wait==0 then(bif r.guard==0 then(bif r.qp==0 then
 (bif r.dead==0 then(bif r.kind !=2 then(bif r.qo==0 then(bif r.uon==false&&(r.upk==0&&(r.udl==0&&true))then(bif r.kind==4 then(bif r.oon==false&&
 (r.opk==0&&(r.odl==0&&true))then(bif r.don==false&&(r.dpk==0&&(r.ddl==0&&true))then(bif r.ion==false&&(r.ipk==0&&(r.idl==0&&true))then leB
 (r.fon==false&&(r.fpk==0&&(r.fdl==0&&true)))else leB false)else leB false)else leB false)else(bif r.oon==false&&(r.opk==0&&(r.odl==0&&true))then(bif
 r.diff==0 then(bif r.num==0 then(bif r.den==0 then leB (r.harm==0)else leB false)else leB false)else leB false)else leB false))else(bif r.kind==4 then leB false
 else leB false))else(bif r.kind==4 then leB false else leB false))else(bif r.kind==4 then(bif r.qo==0 then(bif r.don==false&&(r.dpk==0&&(r.ddl==0&&
 true))then(bif r.ion==false&&(r.ipk==0&&(r.idl==0&&true))then leB (r.fon==false&&(r.fpk==0&&(r.fdl==0&&true)))else leB false)else leB false)else leB
 false)else(bif r.qo==0 then(bif r.diff==0 then(bif r.num==0 then(bif r.den==0 then leB (r.harm==0)else leB false)else leB false)else leB false)else leB
 false)))else(bif r.kind !=2 then(bif r.kind==4 then leB false else leB false)else(bif r.kind==4 then leB false else leB false)))else(bif r.kind !=2 then(bif r.kind==
 4 then leB false else leB false)else(bif r.kind==4 then leB false else leB false)))else(bif r.kind !=2 then(bif r.kind==4 then leB false else leB false)else(bif r.kind
 ==4 then leB false else leB false)))else(bif r.kind !=2 then(bif r.kind==4 then leB false else leB false)else(bif r.kind==4 then leB false else leB false)))else(bif
 r.kind !=2 then(bif r.kind==4 then leB false else leB false)else(bif r.kind==4 then leB false else leB false)))else(bif r.kind !=2 then(bif r.kind==4 then leB false
 else leB false)else(bif r.kind==4 then leB false else leB false)))else(bif r.kind !=2 then(bif r.kind==4 then leB false else leB false)else(bif r.kind==4 then leB
 false else leB false)))else(bif r.kind !=2 then(bif r.kind==4 then leB false else leB false)else(bif r.kind==4 then leB false else leB false)))else(bif r.kind !=2 then
 (bif r.kind==4 then leB false else leB false)else(bif r.kind==4 then leB false else leB false)))else(bif r.kind !=2 then(bif r.uon==false&&(r.upk==0&&(r.udl==0
 &&true))then(bif r.kind==4 then(bif r.oon==false&&(r.opk==0&&(r.odl==0&&true))then(bif r.don==false&&(r.dpk==0&&(r.ddl==0&&true))then(bif r.ion==
 false&&(r.ipk==0&&(r.idl==0&&true))then leB (r.fon==false&&(r.fpk==0&&(r.fdl==0&&true)))else leB false)else leB false)else leB false)else(bif r.oon==
 false&&(r.opk==0&&(r.odl==0&&true))then(bif r.diff==0 then(bif r.num==0 then(bif r.den==0 then leB (r.harm==0)else leB false)else leB false)else leB false)
 else leB false))else(bif r.kind==4 then leB false else leB false))else(bif r.kind==4 then(bif r.don==false&&(r.dpk==0&&(r.ddl==0&&true))then(bif r.ion==
 false&&(r.ipk==0&&(r.idl==0&&true))then leB (r.fon==false&&(r.fpk==0&&(r.fdl==0&&true)))else leB false)else leB false)else(bif r.diff==0 then(bif
 r.num==0 then(bif r.den==0 then leB (r.harm==0)else leB false)else leB false)else leB false)))):=by kernel_rfl
def Ji(r:SRel):Bool:=
 (bif SRel.kind r !=(1:Int)then(bif SRel.zon0 r==false&&(SRel.zfw0 r==false&&(SRel.zx0 r==(0:Int)&&(SRel.zr0 r==(0:Int)&&(SRel.zl0 r==(0:Int)&&
 (SRel.zd0 r==(0:Int)&&true)))))&&(SRel.zon1 r==false&&(SRel.zfw1 r==false&&(SRel.zx1 r==(0:Int)&&(SRel.zr1 r==(0:Int)&&(SRel.zl1 r==(0:Int)&&
 (SRel.zd1 r==(0:Int)&&true)))))&&(SRel.zon2 r==false&&(SRel.zfw2 r==false&&(SRel.zx2 r==(0:Int)&&(SRel.zr2 r==(0:Int)&&(SRel.zl2 r==(0:Int)&&
 (SRel.zd2 r==(0:Int)&&true)))))&&true))then(bif SRel.min r==(0:Int)then(bif SRel.kre r==(0:Int)then(bif SRel.kim r==(0:Int)then(bif SRel.qn r==(0:
 Int)then(bif SRel.wait r==(0:Int)then(bif SRel.guard r==(0:Int)then(bif SRel.qp r==(0:Int)then(bif SRel.dead r==(0:Int)then(bif SRel.kind r !=(2:Int)
 then(bif SRel.qo r==(0:Int)then(bif SRel.uon r==false&&(SRel.upk r==(0:Int)&&(SRel.udl r==(0:Int)&&true))then(bif SRel.kind r==(4:Int)then(bif
 SRel.oon r==false&&(SRel.opk r==(0:Int)&&(SRel.odl r==(0:Int)&&true))then(bif SRel.don r==false&&(SRel.dpk r==(0:Int)&&(SRel.ddl r==(0:Int)&&true))
 then(bif SRel.ion r==false&&(SRel.ipk r==(0:Int)&&(SRel.idl r==(0:Int)&&true))then((SRel.fon r==false&&(SRel.fpk r==(0:Int)&&(SRel.fdl r==(0:Int)&&
 true))))else(false))else(false))else(false))else(bif SRel.oon r==false&&(SRel.opk r==(0:Int)&&(SRel.odl r==(0:Int)&&true))then(bif SRel.diff r==(0:Int)
 then(bif SRel.num r==(0:Int)then(bif SRel.den r==(0:Int)then((SRel.harm r==(0:Int)))else(false))else(false))else(false))else(false)))else(bif SRel.kind r
 ==(4:Int)then(false)else(false)))else(bif SRel.kind r==(4:Int)then(false)else(false)))else(bif SRel.kind r==(4:Int)then(bif SRel.qo r==(0:Int)then
 (bif SRel.don r==false&&(SRel.dpk r==(0:Int)&&(SRel.ddl r==(0:Int)&&true))then(bif SRel.ion r==false&&(SRel.ipk r==(0:Int)&&(SRel.idl r==(0:Int)&&
 true))then((SRel.fon r==false&&(SRel.fpk r==(0:Int)&&(SRel.fdl r==(0:Int)&&true))))else(false))else(false))else(false))else(bif SRel.qo r==(0:Int)
 then(bif SRel.diff r==(0:Int)then(bif SRel.num r==(0:Int)then(bif SRel.den r==(0:Int)then((SRel.harm r==(0:Int)))else(false))else(false))else(false))
 else(false))))else(bif SRel.kind r !=(2:Int)then(bif SRel.kind r==(4:Int)then(false)else(false))else(bif SRel.kind r==(4:Int)then(false)else(false))))else
 (bif SRel.kind r !=(2:Int)then(bif SRel.kind r==(4:Int)then(false)else(false))else(bif SRel.kind r==(4:Int)then(false)else(false))))else(bif SRel.kind r !=
 (2:Int)then(bif SRel.kind r==(4:Int)then(false)else(false))else(bif SRel.kind r==(4:Int)then(false)else(false))))else(bif SRel.kind r !=(2:Int)then(bif
 SRel.kind r==(4:Int)then(false)else(false))else(bif SRel.kind r==(4:Int)then(false)else(false))))else(bif SRel.kind r !=(2:Int)then(bif SRel.kind r==(4:
 Int)then(false)else(false))else(bif SRel.kind r==(4:Int)then(false)else(false))))else(bif SRel.kind r !=(2:Int)then(bif SRel.kind r==(4:Int)then(false)
 else(false))else(bif SRel.kind r==(4:Int)then(false)else(false))))else(bif SRel.kind r !=(2:Int)then(bif SRel.kind r==(4:Int)then(false)else(false))else
 (bif SRel.kind r==(4:Int)then(false)else(false))))else(bif SRel.kind r !=(2:Int)then(bif SRel.kind r==(4:Int)then(false)else(false))else(bif SRel.kind r==
 (4:Int)then(false)else(false))))else(bif SRel.kind r !=(2:Int)then(bif SRel.kind r==(4:Int)then(false)else(false))else(bif SRel.kind r==(4:Int)then
 (false)else(false))))else(bif SRel.kind r !=(2:Int)then(bif SRel.uon r==false&&(SRel.upk r==(0:Int)&&(SRel.udl r==(0:Int)&&true))then(bif SRel.kind r==
 (4:Int)then(bif SRel.oon r==false&&(SRel.opk r==(0:Int)&&(SRel.odl r==(0:Int)&&true))then(bif SRel.don r==false&&(SRel.dpk r==(0:Int)&&(SRel.ddl r==
 (0:Int)&&true))then(bif SRel.ion r==false&&(SRel.ipk r==(0:Int)&&(SRel.idl r==(0:Int)&&true))then((SRel.fon r==false&&(SRel.fpk r==(0:Int)&&
 (SRel.fdl r==(0:Int)&&true))))else(false))else(false))else(false))else(bif SRel.oon r==false&&(SRel.opk r==(0:Int)&&(SRel.odl r==(0:Int)&&true))then
 (bif SRel.diff r==(0:Int)then(bif SRel.num r==(0:Int)then(bif SRel.den r==(0:Int)then((SRel.harm r==(0:Int)))else(false))else(false))else(false))else
 (false)))else(bif SRel.kind r==(4:Int)then(false)else(false)))else(bif SRel.kind r==(4:Int)then(bif SRel.don r==false&&(SRel.dpk r==(0:Int)&&(SRel.ddl r
 ==(0:Int)&&true))then(bif SRel.ion r==false&&(SRel.ipk r==(0:Int)&&(SRel.idl r==(0:Int)&&true))then((SRel.fon r==false&&(SRel.fpk r==(0:Int)&&
 (SRel.fdl r==(0:Int)&&true))))else(false))else(false))else(bif SRel.diff r==(0:Int)then(bif SRel.num r==(0:Int)then(bif SRel.den r==(0:Int)then
 ((SRel.harm r==(0:Int)))else(false))else(false))else(false)))))
theorem ev78(r:SRel):Ai prog oW3 na 5 f133 (Ac f133) [aRel r] []=some (.leaf (vB (Ji r),[])):=by
 rw[AoZ];unfold Ji;simp only[Jx]
theorem AoY(r:SRel):Ai prog oW3 na 5 f134 (Ac f134) [aRel r] []=
 (bif !r.zon0 then(bif !(r.zon0==false&&(r.zfw0==false&&(r.zx0==0&&(r.zr0==0&&(r.zl0==0&&(r.zd0==0&&true))))))then leB false else(bif !r.zon1 then(bif
 !(r.zon1==false&&(r.zfw1==false&&(r.zx1==0&&(r.zr1==0&&(r.zl1==0&&(r.zd1==0&&true))))))then leB false else(bif !r.zon2 then(bif !(r.zon2==false&&
 (r.zfw2==false&&(r.zx2==0&&(r.zr2==0&&(r.zl2==0&&(r.zd2==0&&true))))))then leB false else(bif r.min==0 then(bif r.kre==0 then leB (r.kim==0)else leB
 false)else leB false))else(bif !Aa r.zx2 1 4000 then leB false else(bif !Aa r.zr2 0 4000 then leB false else(bif !Aa r.zl2 0 4000 then leB false else(bif !Aa r.zd2 0 500 then
 leB false else(bif Aa r.min 1 16383 then(bif Aa r.kre (-200) 200 then leB (Aa r.kim (-200) 200)else leB false)else leB false)))))))else(bif !Aa r.zx1 1 4000 then leB false
 else(bif !Aa r.zr1 0 4000 then leB false else(bif !Aa r.zl1 0 4000 then leB false else(bif !Aa r.zd1 0 500 then leB false else(bif !r.zon2 then(bif !(r.zon2==false&&
 (r.zfw2==false&&(r.zx2==0&&(r.zr2==0&&(r.zl2==0&&(r.zd2==0&&true))))))then leB false else(bif Aa r.min 1 16383 then(bif Aa r.kre (-200) 200 then leB (Aa
 r.kim (-200) 200)else leB false)else leB false))else(bif !Aa r.zx2 1 4000 then leB false else(bif !Aa r.zr2 0 4000 then leB false else(bif !Aa r.zl2 0 4000 then leB false
 else(bif !Aa r.zd2 0 500 then leB false else(bif Aa r.min 1 16383 then(bif Aa r.kre (-200) 200 then leB (Aa r.kim (-200) 200)else leB false)else leB false))))))))))))else
 (bif !Aa r.zx0 1 4000 then leB false else(bif !Aa r.zr0 0 4000 then leB false else(bif !Aa r.zl0 0 4000 then leB false else(bif !Aa r.zd0 0 500 then leB false else(bif !r.zon1
 then(bif !(r.zon1==false&&(r.zfw1==false&&(r.zx1==0&&(r.zr1==0&&(r.zl1==0&&(r.zd1==0&&true))))))then leB false else(bif !r.zon2 then(bif !(r.zon2==
 false&&(r.zfw2==false&&(r.zx2==0&&(r.zr2==0&&(r.zl2==0&&(r.zd2==0&&true))))))then leB false else(bif Aa r.min 1 16383 then(bif Aa r.kre (-200) 200 then leB
 (Aa r.kim (-200) 200)else leB false)else leB false))else(bif !Aa r.zx2 1 4000 then leB false else(bif !Aa r.zr2 0 4000 then leB false else(bif !Aa r.zl2 0 4000 then leB false
 else(bif !Aa r.zd2 0 500 then leB false else(bif Aa r.min 1 16383 then(bif Aa r.kre (-200) 200 then leB (Aa r.kim (-200) 200)else leB false)else leB false)))))))else(bif !Aa
 r.zx1 1 4000 then leB false else(bif !Aa r.zr1 0 4000 then leB false else(bif !Aa r.zl1 0 4000 then leB false else(bif !Aa r.zd1 0 500 then leB false else(bif !r.zon2 then(bif
 !(r.zon2==false&&(r.zfw2==false&&(r.zx2==0&&(r.zr2==0&&(r.zl2==0&&(r.zd2==0&&true))))))then leB false else(bif Aa r.min 1 16383 then(bif Aa r.kre (-200)
 200 then leB (Aa r.kim (-200) 200)else leB false)else leB false))else(bif !Aa r.zx2 1 4000 then leB false else(bif !Aa r.zr2 0 4000 then leB false else(bif !Aa r.zl2 0 4000
 then leB false else(bif !Aa r.zd2 0 500 then leB false else(bif Aa r.min 1 16383 then(bif Aa r.kre (-200) 200 then leB (Aa r.kim (-200) 200)else leB false)else leB
 false)))))))))))))))):=by kernel_rfl
def Cw(r:SRel):Bool:=
 (bif !SRel.zon0 r then(bif !(SRel.zon0 r==false&&(SRel.zfw0 r==false&&(SRel.zx0 r==(0:Int)&&(SRel.zr0 r==(0:Int)&&(SRel.zl0 r==(0:Int)&&(SRel.zd0 r==(0
 :Int)&&true))))))then(false)else(bif !SRel.zon1 r then(bif !(SRel.zon1 r==false&&(SRel.zfw1 r==false&&(SRel.zx1 r==(0:Int)&&(SRel.zr1 r==(0:Int)&&
 (SRel.zl1 r==(0:Int)&&(SRel.zd1 r==(0:Int)&&true))))))then(false)else(bif !SRel.zon2 r then(bif !(SRel.zon2 r==false&&(SRel.zfw2 r==false&&(SRel.zx2 r==(0
 :Int)&&(SRel.zr2 r==(0:Int)&&(SRel.zl2 r==(0:Int)&&(SRel.zd2 r==(0:Int)&&true))))))then(false)else(bif SRel.min r==(0:Int)then(bif SRel.kre r==(0:
 Int)then((SRel.kim r==(0:Int)))else(false))else(false)))else(bif !Aa (SRel.zx2 r) (1:Int) (4000:Int)then(false)else(bif !Aa (SRel.zr2 r) (0:Int) (4000
 :Int)then(false)else(bif !Aa (SRel.zl2 r) (0:Int) (4000:Int)then(false)else(bif !Aa (SRel.zd2 r) (0:Int) (500:Int)then(false)else(bif Aa (SRel.min
 r) (1:Int) (16383:Int)then(bif Aa (SRel.kre r) (-200:Int) (200:Int)then((Aa (SRel.kim r) (-200:Int) (200:Int)))else(false))else(false))))))))else(bif
 !Aa (SRel.zx1 r) (1:Int) (4000:Int)then(false)else(bif !Aa (SRel.zr1 r) (0:Int) (4000:Int)then(false)else(bif !Aa (SRel.zl1 r) (0:Int) (4000:Int)
 then(false)else(bif !Aa (SRel.zd1 r) (0:Int) (500:Int)then(false)else(bif !SRel.zon2 r then(bif !(SRel.zon2 r==false&&(SRel.zfw2 r==false&&(SRel.zx2 r==(0
 :Int)&&(SRel.zr2 r==(0:Int)&&(SRel.zl2 r==(0:Int)&&(SRel.zd2 r==(0:Int)&&true))))))then(false)else(bif Aa (SRel.min r) (1:Int) (16383:Int)then(bif
 Aa (SRel.kre r) (-200:Int) (200:Int)then((Aa (SRel.kim r) (-200:Int) (200:Int)))else(false))else(false)))else(bif !Aa (SRel.zx2 r) (1:Int) (4000:Int)
 then(false)else(bif !Aa (SRel.zr2 r) (0:Int) (4000:Int)then(false)else(bif !Aa (SRel.zl2 r) (0:Int) (4000:Int)then(false)else(bif !Aa (SRel.zd2 r) (0
 :Int) (500:Int)then(false)else(bif Aa (SRel.min r) (1:Int) (16383:Int)then(bif Aa (SRel.kre r) (-200:Int) (200:Int)then((Aa (SRel.kim r) (-200:Int)
 (200:Int)))else(false))else(false)))))))))))))else(bif !Aa (SRel.zx0 r) (1:Int) (4000:Int)then(false)else(bif !Aa (SRel.zr0 r) (0:Int) (4000:Int)then
 (false)else(bif !Aa (SRel.zl0 r) (0:Int) (4000:Int)then(false)else(bif !Aa (SRel.zd0 r) (0:Int) (500:Int)then(false)else(bif !SRel.zon1 r then(bif
 !(SRel.zon1 r==false&&(SRel.zfw1 r==false&&(SRel.zx1 r==(0:Int)&&(SRel.zr1 r==(0:Int)&&(SRel.zl1 r==(0:Int)&&(SRel.zd1 r==(0:Int)&&true))))))then
 (false)else(bif !SRel.zon2 r then(bif !(SRel.zon2 r==false&&(SRel.zfw2 r==false&&(SRel.zx2 r==(0:Int)&&(SRel.zr2 r==(0:Int)&&(SRel.zl2 r==(0:Int)&&
 (SRel.zd2 r==(0:Int)&&true))))))then(false)else(bif Aa (SRel.min r) (1:Int) (16383:Int)then(bif Aa (SRel.kre r) (-200:Int) (200:Int)then((Aa
 (SRel.kim r) (-200:Int) (200:Int)))else(false))else(false)))else(bif !Aa (SRel.zx2 r) (1:Int) (4000:Int)then(false)else(bif !Aa (SRel.zr2 r) (0:Int)
 (4000:Int)then(false)else(bif !Aa (SRel.zl2 r) (0:Int) (4000:Int)then(false)else(bif !Aa (SRel.zd2 r) (0:Int) (500:Int)then(false)else(bif Aa
 (SRel.min r) (1:Int) (16383:Int)then(bif Aa (SRel.kre r) (-200:Int) (200:Int)then((Aa (SRel.kim r) (-200:Int) (200:Int)))else(false))else(false))))))))
 else(bif !Aa (SRel.zx1 r) (1:Int) (4000:Int)then(false)else(bif !Aa (SRel.zr1 r) (0:Int) (4000:Int)then(false)else(bif !Aa (SRel.zl1 r) (0:Int) (4000
 :Int)then(false)else(bif !Aa (SRel.zd1 r) (0:Int) (500:Int)then(false)else(bif !SRel.zon2 r then(bif !(SRel.zon2 r==false&&(SRel.zfw2 r==false&&(SRel.zx2 r
 ==(0:Int)&&(SRel.zr2 r==(0:Int)&&(SRel.zl2 r==(0:Int)&&(SRel.zd2 r==(0:Int)&&true))))))then(false)else(bif Aa (SRel.min r) (1:Int) (16383:Int)
 then(bif Aa (SRel.kre r) (-200:Int) (200:Int)then((Aa (SRel.kim r) (-200:Int) (200:Int)))else(false))else(false)))else(bif !Aa (SRel.zx2 r) (1:Int)
 (4000:Int)then(false)else(bif !Aa (SRel.zr2 r) (0:Int) (4000:Int)then(false)else(bif !Aa (SRel.zl2 r) (0:Int) (4000:Int)then(false)else(bif !Aa
 (SRel.zd2 r) (0:Int) (500:Int)then(false)else(bif Aa (SRel.min r) (1:Int) (16383:Int)then(bif Aa (SRel.kre r) (-200:Int) (200:Int)then((Aa (SRel.kim
 r) (-200:Int) (200:Int)))else(false))else(false)))))))))))))))))
theorem ev79(r:SRel):Ai prog oW3 na 5 f134 (Ac f134) [aRel r] []=some (.leaf (vB (Cw r),[])):=by
 rw[AoY];unfold Cw;simp only[Jx]
theorem AoX(r:SRel):Ai prog oW3 na 5 f135 (Ac f135) [aRel r] []=
 (bif !Aa r.qn 0 3 then leB false else(bif r.qn==3 then(bif !Aa r.wait 1 50 then leB false else(bif r.qn==0 then leB (r.guard==0)else leB (Aa r.guard 0 50)))
 else(bif r.wait !=0 then leB false else(bif r.qn==0 then leB (r.guard==0)else leB (Aa r.guard 0 50))))):=by kernel_rfl
def Dr(r:SRel):Bool:=
 (bif !Aa (SRel.qn r) (0:Int) (3:Int)then(false)else(bif SRel.qn r==(3:Int)then(bif !Aa (SRel.wait r) (1:Int) (50:Int)then(false)else(bif
 SRel.qn r==(0:Int)then((SRel.guard r==(0:Int)))else((Aa (SRel.guard r) (0:Int) (50:Int)))))else(bif SRel.wait r !=(0:Int)then(false)else(bif
 SRel.qn r==(0:Int)then((SRel.guard r==(0:Int)))else((Aa (SRel.guard r) (0:Int) (50:Int)))))))
theorem ev80(r:SRel):Ai prog oW3 na 5 f135 (Ac f135) [aRel r] []=some (.leaf (vB (Dr r),[])):=by
 rw[AoX];unfold Dr;simp only[Jx]
theorem AoW(r:SRel):Ai prog oE3 na 5 f136 (Ac f136) [aRel r] []=
 (bif r.ion then(bif !Aa r.ipk 1 16383 then leB false else(bif !Aa r.idl 1 1000 then leB false else(bif elOk r.don r.dpk r.ddl 0 then(bif elOk r.uon r.upk r.udl 0 then(bif elOk
 r.oon r.opk r.odl 0 then leB (elOk r.fon r.fpk r.fdl 1)else leB false)else leB false)else leB false)))else(bif !(r.ion==false&&(r.ipk==0&&(r.idl==0&&true)))then
 leB false else(bif elOk r.don r.dpk r.ddl 0 then(bif elOk r.uon r.upk r.udl 0 then(bif elOk r.oon r.opk r.odl 0 then leB (elOk r.fon r.fpk r.fdl 1)else leB false)else leB
 false)else leB false))):=by kernel_rfl
def Dq(r:SRel):Bool:=
 (bif SRel.ion r then(bif !Aa (SRel.ipk r) (1:Int) (16383:Int)then(false)else(bif !Aa (SRel.idl r) (1:Int) (1000:Int)then(false)else(bif elOk (SRel.don r)
 (SRel.dpk r) (SRel.ddl r) (0:Int)then(bif elOk (SRel.uon r) (SRel.upk r) (SRel.udl r) (0:Int)then(bif elOk (SRel.oon r) (SRel.opk r) (SRel.odl r) (0:Int)then((elOk
 (SRel.fon r) (SRel.fpk r) (SRel.fdl r) (1:Int)))else(false))else(false))else(false))))else(bif !(SRel.ion r==false&&(SRel.ipk r==(0:Int)&&(SRel.idl r==(0:
 Int)&&true)))then(false)else(bif elOk (SRel.don r) (SRel.dpk r) (SRel.ddl r) (0:Int)then(bif elOk (SRel.uon r) (SRel.upk r) (SRel.udl r) (0:Int)then(bif elOk (SRel.oon
 r) (SRel.opk r) (SRel.odl r) (0:Int)then((elOk (SRel.fon r) (SRel.fpk r) (SRel.fdl r) (1:Int)))else(false))else(false))else(false))))
theorem ev81(r:SRel):Ai prog oE3 na 5 f136 (Ac f136) [aRel r] []=some (.leaf (vB (Dq r),[])):=by
 rw[AoW];unfold Dq;simp only[Jx]
theorem AoV(r:SRel):Ai prog oW3 na 5 f137 (Ac f137) [aRel r] []=
 (bif r.qp==0 then(bif r.dead !=0 then leB false else(bif r.qo !=0 then leB false else(bif r.diff==0 then(bif r.num==0 then(bif r.den==0 then leB (r.harm==
 0)else leB false)else leB false)else(bif Aa r.diff 1 16383 then(bif Aa r.den 1 100 then(bif Aa r.num 0 r.den then leB (Aa r.harm 0 100)else leB false)else leB false)else
 leB false))))else(bif !Aa r.qp 1 3 then leB false else(bif !Aa r.dead 1 100 then leB false else(bif !Aa r.qo 1 1000 then leB false else(bif r.diff==0 then(bif r.num
 ==0 then(bif r.den==0 then leB (r.harm==0)else leB false)else leB false)else(bif Aa r.diff 1 16383 then(bif Aa r.den 1 100 then(bif Aa r.num 0 r.den then leB (Aa r.harm
 0 100)else leB false)else leB false)else leB false)))))):=by kernel_rfl
def Dp(r:SRel):Bool:=
 (bif SRel.qp r==(0:Int)then(bif SRel.dead r !=(0:Int)then(false)else(bif SRel.qo r !=(0:Int)then(false)else(bif SRel.diff r==(0:Int)then(bif
 SRel.num r==(0:Int)then(bif SRel.den r==(0:Int)then((SRel.harm r==(0:Int)))else(false))else(false))else(bif Aa (SRel.diff r) (1:Int) (16383:Int)then
 (bif Aa (SRel.den r) (1:Int) (100:Int)then(bif Aa (SRel.num r) (0:Int) (SRel.den r)then((Aa (SRel.harm r) (0:Int) (100:Int)))else(false))else(false))
 else(false)))))else(bif !Aa (SRel.qp r) (1:Int) (3:Int)then(false)else(bif !Aa (SRel.dead r) (1:Int) (100:Int)then(false)else(bif !Aa (SRel.qo
 r) (1:Int) (1000:Int)then(false)else(bif SRel.diff r==(0:Int)then(bif SRel.num r==(0:Int)then(bif SRel.den r==(0:Int)then((SRel.harm r==(0:Int)))else
 (false))else(false))else(bif Aa (SRel.diff r) (1:Int) (16383:Int)then(bif Aa (SRel.den r) (1:Int) (100:Int)then(bif Aa (SRel.num r) (0:Int) (SRel.den
 r)then((Aa (SRel.harm r) (0:Int) (100:Int)))else(false))else(false))else(false)))))))
theorem ev82(r:SRel):Ai prog oW3 na 5 f137 (Ac f137) [aRel r] []=some (.leaf (vB (Dp r),[])):=by
 rw[AoV];unfold Dp;simp only[Jx]
theorem AoU(r:SRel):Ai prog oZo na 5 f138 (Ac f138) [aRel r] []=
 (bif r.qn==1 then(bif r.zon0 then(bif r.zfw0 then(bif r.zon1 then leB r.zfw1 else leB false)else leB false)else leB false)else(bif r.qn==2 then(bif r.zon1 then
 leB r.zfw1 else leB false)else(bif r.qn==3 then(bif r.zon1 then(bif r.zfw1 then(bif r.zon2 then leB !r.zfw2 else leB false)else leB false)else leB false)else leB
 true))):=by kernel_rfl
def En(r:SRel):Bool:=
 (bif SRel.qn r==(1:Int)then(bif SRel.zon0 r then(bif SRel.zfw0 r then(bif SRel.zon1 r then((SRel.zfw1 r))else(false))else(false))else(false))else(bif
 SRel.qn r==(2:Int)then(bif SRel.zon1 r then((SRel.zfw1 r))else(false))else(bif SRel.qn r==(3:Int)then(bif SRel.zon1 r then(bif SRel.zfw1 r then(bif
 SRel.zon2 r then(!SRel.zfw2 r)else(false))else(false))else(false))else(true))))
theorem ev83(r:SRel):Ai prog oZo na 5 f138 (Ac f138) [aRel r] []=some (.leaf (vB (En r),[])):=by
 rw[AoU];unfold En;simp only[Jx]
end Go.Y.se
namespace Go.Y.se
open Go.RowKit Go.Eb Go.Y.st
theorem sWi:OrcS prog oWi:= .cons (.inl .nil func189 (by kernel_rfl)) .nil
theorem cWi(a:Int×Int×Int):CX prog 189 [vI a.1,vI a.2.1,vI a.2.2] [] (vB (Aa a.1 a.2.1 a.2.2)) []:=by
 refine Am (Orc.nil_ok _) func189 (by kernel_rfl) rfl ((evWi a.1 a.2.1 a.2.2).trans ?_);unfold Afy Aa;cases decide (a.1>=a.2.1)<;>rfl
theorem sW3:OrcS prog oW3:= .cons (.p U2 cWi) .nil
theorem cEl(a:Bool×Int×Int×Int):CX prog 190 [.agg [.d (dB a.1), .d (dI a.2.1), .d (dI a.2.2.1)],vI a.2.2.2] [] (vB (elOk a.1 a.2.1 a.2.2.1 a.2.2.2)) []:=by
 refine Am sW3.ok func190 (by kernel_rfl) rfl ((evEl a.1 a.2.1 a.2.2.1 a.2.2.2).trans ?_);unfold AfA elOk;cases a.1<;>cases(a.2.1==0)<;>cases(a.2.2.1==0)<;>cases Aa a.2.1 1 16383<;>rfl
theorem sE3:OrcS prog oE3:= .cons (.p Agb cEl) sW3
theorem sZo:OrcS prog oZo:= .cons (.inl sW3 func191 (by kernel_rfl)) sW3
theorem c78(r:SRel):CX prog 133 [aRel r] [] (vB (Ji r)) []:=Am sW3.ok func133 (by kernel_rfl) rfl (ev78 r)
theorem c79(r:SRel):CX prog 134 [aRel r] [] (vB (Cw r)) []:=Am sW3.ok func134 (by kernel_rfl) rfl (ev79 r)
theorem c80(r:SRel):CX prog 135 [aRel r] [] (vB (Dr r)) []:=Am sW3.ok func135 (by kernel_rfl) rfl (ev80 r)
theorem c81(r:SRel):CX prog 136 [aRel r] [] (vB (Dq r)) []:=Am sE3.ok func136 (by kernel_rfl) rfl (ev81 r)
theorem c82(r:SRel):CX prog 137 [aRel r] [] (vB (Dp r)) []:=Am sW3.ok func137 (by kernel_rfl) rfl (ev82 r)
theorem c83(r:SRel):CX prog 138 [aRel r] [] (vB (En r)) []:=Am sZo.ok func138 (by kernel_rfl) rfl (ev83 r)
def enRu(l:List SRule):List AV:=[.agg [.d (dF 194), .d (dF 196), .d (dF 197)], .c (.d (Qt l))]
def enSe(l:List SSet):List AV:=[.agg [.d (dF 198), .d (dF 200), .d dNF], .c (.d (Sk l))]
def enPu(l:List SPub):List AV:=[.agg [.d (dF 201), .d (dF 202), .d (dF 203)], .c (.d (Yk l))]
def enSu(l:List SSub):List AV:=[.agg [.d (dF 204), .d (dF 205), .d dNF], .c (.d (Yc l))]
theorem AaT:InjT enRu:=fun a b h=>A8 Li _ _ (Nf (Ar (Ar h).2).1)
theorem AaS:InjT enSe:=fun a b h=>A8 Lg _ _ (Nf (Ar (Ar h).2).1)
theorem AaU:InjT enPu:=fun a b h=>A8 Px _ _ (Nf (Ar (Ar h).2).1)
theorem AaR:InjT enSu:=fun a b h=>A8 J5 _ _ (Nf (Ar (Ar h).2).1)
def Ew(l:List SRule):Int:=Cd H8 SRule.name (fun x=>D2 x.text) [] l
def Rk(l:List SSet):Int:=Cd Qr SSet.name V0 [] l
def M1(l:List SPub):Int:=Cd T5 SPub.set Dz [] l
def Y8(l:List SSub):Int:=Cd Qn SSub.loc V0 [] l
def cSe(l:List SSet):Bool:=Au l&&l.all Ln
def Fz(r:SRel):Int:=bif Ew r.qi !=0 then Ew r.qi else bif Rk r.qj !=0 then Rk r.qj else bif M1 r.qk !=0 then M1 r.qk else Y8 r.ql
theorem s85:OrcS prog (o85 (okG enRu Au) (okG enSe cSe) (okG enPu Au) (okG enSu Au) (fun x=>Ew (theT enRu x)) (fun x=>Rk (theT enSe x)) (fun x=>M1 (theT enPu x)) fun x=>Y8 (theT enSu x)):=by
 refine .cons (.t' (r:=fun a=>vI (Ew a)) fun a h=>c126 a h) (.cons (.t' (r:=fun a=>vI (Rk a)) fun a h=> ?_) (.cons (.t' (r:=fun a=>vI (M1 a)) fun a h=>c128 a h) (.cons (.t' (r:=fun a=>vI (Y8 a)) fun a h=>c129 a h) .nil)));unfold cSe at h;simp only[zd]at h;exact c127 a h.1 h.2
theorem c85(r:SRel)(hr:Ci r=true):CX prog 140 [aRel r] [] (vI (Fz r)) []:=by
 refine Am s85.ok func140 b85 rfl ((ev85 _ _ _ _ _ _ _ _ r 1).trans ?_);unfold Ci at hr;simp only[zd]at hr;have⟨h1,h2,h3,h4,h5⟩:=hr;have k1:=Ao AaT (c:=Au) r.qi h1;have k2:=Ao AaS (c:=cSe) r.qj (by unfold cSe;rw[h2,h5];rfl);have k3:=Ao AaU (c:=Au) r.qk h3;have k4:=Ao AaR (c:=Au) r.ql h4;have t1:=Aj AaT r.qi;have t2:=Aj AaS r.qj;have t3:=Aj AaU r.qk;have t4:=Aj AaR r.ql;unfold enRu at k1 t1;unfold enSe at k2 t2;unfold enPu at k3 t3;unfold enSu at k4 t4;unfold enRu enSe enPu enSu;rw[k1,t1,k2,t2,k3,t3,k4,t4];unfold Fz;simp only[za];cases(Ew r.qi !=0)<;>cases(Rk r.qj !=0)<;>cases(M1 r.qk !=0)<;>rfl
def H6(x:SSet):Bool:= !(decide (1<=x.qm.length)&&decide (x.qm.length<=24))
theorem s113:OrcS prog o113:= .cons (.inl sWi func192 (by kernel_rfl)) .nil
theorem c141(l:List SSet)(hl:Au l=true):CX prog 46 [.c (.d (Sk l)), .c (.d (dF 192))] [] (vI (idxP H6 0 l)) []:=by
 obtain⟨g,hg⟩: ∃g,l.length<g:=⟨l.length+1,by omega⟩;refine Am s113.ok func46 b141 rfl ((Arl l g).trans ?_);have:=Lx (p:=H6) (l:=l) (d0:=set0) (L:=fun m i=>AbG l g m i) (fun m k hk=>by
  have e1: ∀n:Nat,decide ((n:Int)>=1)=decide (1<=n):=fun n=>by rw[Bool.eq_iff_iff,zi,zi];omega
  have e2: ∀n:Nat,decide ((n:Int)<=24)=decide (n<=24):=fun n=>by rw[Bool.eq_iff_iff,zi,zi];omega
  rw[AdG,lt1 hk,ge0,tn,nx hk (Bi hl),e1,e2];unfold H6;simp only[tt,za];cases decide (1<=(l.getD k set0).qm.length)<;>cases decide ((l.getD k set0).qm.length<=24)<;>rfl) (fun m=>by rw[AdG,lt0 (zp _)];rfl) g 0 (by omega) (by omega)
 exact this
abbrev eCt:=en2 (aD Sk) (eFn 192)
theorem AfU:InjT eCt:=K4 (Xn (A8 (sz:=2) (d0:=set0) Lg)) (AfT _)
def Br(r:SRel):Bool:=decide (r.qi.length<=16)&&(decide (r.qj.length<=4)&&(decide (r.qk.length<=4)&&(decide (r.ql.length<=24)&& !r.qj.any H6)))
theorem c84(r:SRel)(hr:Ci r=true):CX prog 139 [aRel r] [] (vB (Br r)) []:=by
 have hs:OrcS prog (o84 (okG eCt cLen) fun x=>idxP H6 0 (theT eCt x).1):= .cons (.inl (.cons (.t' (r:=fun(a:List SSet×Unit)=>vI (idxP H6 0 a.1)) fun a h=>c141 a.1 h) .nil) func193 (by kernel_rfl)) .nil;refine Am hs.ok func139 b84 rfl ((ev84 _ _ r 1).trans ?_);unfold Ci at hr;simp only[zd]at hr;have k:=Ao AfU (c:=cLen) (r.qj,()) hr.2.1;have t:=Aj AfU (r.qj,());simp only[en2,aD,eFn]at k t;rw[k,t,Re];have e1: ∀n:Nat,decide ((n:Int)<=16)=decide (n<=16):=fun n=>by rw[Bool.eq_iff_iff,zi,zi];omega
 have e2: ∀n:Nat,decide ((n:Int)<=4)=decide (n<=4):=fun n=>by rw[Bool.eq_iff_iff,zi,zi];omega
 have e3: ∀n:Nat,decide ((n:Int)<=24)=decide (n<=24):=fun n=>by rw[Bool.eq_iff_iff,zi,zi];omega
 unfold Br;simp only[e1,e2,e3];cases decide (r.qi.length<=16)<;>cases decide (r.qj.length<=4)<;>cases decide (r.qk.length<=4)<;>cases decide (r.ql.length<=24)<;>rfl
def ann28:Ann:=A1 [(3,⟨[3,18,1,19,20],[]⟩),(8,⟨[3,31,1,32,33],[]⟩),(13,⟨[3,45,1,46,47],[]⟩),(18,⟨[3,59,60,61],[]⟩)]
def AgP(s:SSta)(g m:Nat)(l2:MV)(l3:MV)(i20:Int):=LK prog Orc.nil ann28 0 g f75 3 m ⟨frm [(1, .c (.ptr 0 0)),(3, .c (.ptr 1 0)),(18, .c (.d (Ad 1 busC e0 (SSta.qa s)))),(19,iA (↑(List.length (SSta.qa s)):Int)),(20,iA i20)] 0 f75.ntmps,[(0, .cells (List.map C.d (staC s)) 27),(1, .cells [.d (.v (.string (SSta.name s))), .d (Ad 1 busC e0 (SSta.qa s)), .d (Ad 5 Az Ah (SSta.qb s)), .d (Ad 6 Ay src0 (SSta.qc s)), .d (Ad 12 bayC bay0 (SSta.qd s)), .mp 2, .mp 3] 229),(2, .map 0 l2),(3, .map 2 l3)],4⟩
def Zv(s:SSta)(g m:Nat)(l2:MV)(l3:MV)(i33:Int):=LK prog Orc.nil ann28 0 g f75 8 m ⟨frm [(1, .c (.ptr 0 0)),(3, .c (.ptr 1 0)),(31, .c (.d (Ad 5 Az Ah (SSta.qb s)))),(32,iA (↑(List.length (SSta.qb s)):Int)),(33,iA i33)] 0 f75.ntmps,[(0, .cells (List.map C.d (staC s)) 27),(1, .cells [.d (.v (.string (SSta.name s))), .d (Ad 1 busC e0 (SSta.qa s)), .d (Ad 5 Az Ah (SSta.qb s)), .d (Ad 6 Ay src0 (SSta.qc s)), .d (Ad 12 bayC bay0 (SSta.qd s)), .mp 2, .mp 3] 229),(2, .map 0 l2),(3, .map 2 l3)],4⟩
def Tq(s:SSta)(g m:Nat)(l2:MV)(l3:MV)(i47:Int):=LK prog Orc.nil ann28 0 g f75 13 m ⟨frm [(1, .c (.ptr 0 0)),(3, .c (.ptr 1 0)),(45, .c (.d (Ad 6 Ay src0 (SSta.qc s)))),(46,iA (↑(List.length (SSta.qc s)):Int)),(47,iA i47)] 0 f75.ntmps,[(0, .cells (List.map C.d (staC s)) 27),(1, .cells [.d (.v (.string (SSta.name s))), .d (Ad 1 busC e0 (SSta.qa s)), .d (Ad 5 Az Ah (SSta.qb s)), .d (Ad 6 Ay src0 (SSta.qc s)), .d (Ad 12 bayC bay0 (SSta.qd s)), .mp 2, .mp 3] 229),(2, .map 0 l2),(3, .map 2 l3)],4⟩
def X5(s:SSta)(g m:Nat)(l1:MV)(l2:MV)(i61:Int):=LK prog Orc.nil ann28 0 g f75 18 m ⟨frm [(3, .c (.ptr 0 0)),(59, .c (.d (Ad 12 bayC bay0 (SSta.qd s)))),(60,iA (↑(List.length (SSta.qd s)):Int)),(61,iA i61)] 0 f75.ntmps,[(0, .cells [.d (.v (.string (SSta.name s))), .d (Ad 1 busC e0 (SSta.qa s)), .d (Ad 5 Az Ah (SSta.qb s)), .d (Ad 6 Ay src0 (SSta.qc s)), .d (Ad 12 bayC bay0 (SSta.qd s)), .mp 1, .mp 2] 229),(1, .map 0 l1),(2, .map 2 l2)],3⟩
theorem b28:f75.body=some (Ac f75):=by kernel_rfl
theorem ev28(s:SSta)(g:Nat):Ai prog Orc.nil ann28 g f75 (Ac f75) [aSta s] []=
 AgP s g g ([]) ([]) 0:=by kernel_rfl
theorem AjE(s:SSta)(g m:Nat)(l2:MV)(l3:MV)(i20:Int):AgP s g (m+1) l2 l3 i20=
 (bif decide (i20<(↑s.qa.length:Int))then(bif decide (0<=i20)&&decide (i20<(↑s.qa.length:Int))then AgP s g m ((Value.string (s.qa.getD i20.toNat e0),
 Value.bool true)::l2) l3 (wrap .i64 (i20+1))else none)else Zv s g g l2 l3 0):=by kernel_rfl
theorem AjD(s:SSta)(g m:Nat)(l2:MV)(l3:MV)(i33:Int):Zv s g (m+1) l2 l3 i33=
 (bif decide (i33<(↑s.qb.length:Int))then(bif decide (0<=i33)&&decide (i33<(↑s.qb.length:Int))then Zv s g m ((Value.string (SLine.name (s.qb.getD i33.toNat
 Ah)),Value.bool true)::l2) l3 (wrap .i64 (i33+1))else none)else Tq s g g l2 l3 0):=by kernel_rfl
theorem AdD(s:SSta)(g m:Nat)(l2:MV)(l3:MV)(i47:Int):Tq s g (m+1) l2 l3 i47=
 (bif decide (i47<(↑s.qc.length:Int))then(bif decide (0<=i47)&&decide (i47<(↑s.qc.length:Int))then Tq s g m ((Value.string (SSrc.name (s.qc.getD i47.toNat
 src0)),Value.bool true)::l2) l3 (wrap .i64 (i47+1))else none)else X5 s g g l2 l3 0):=by kernel_rfl
theorem AdC(s:SSta)(g m:Nat)(l1:MV)(l2:MV)(i61:Int):X5 s g (m+1) l1 l2 i61=
 (bif decide (i61<(↑s.qd.length:Int))then(bif decide (0<=i61)&&decide (i61<(↑s.qd.length:Int))then X5 s g m ((Value.string (SBay.name (s.qd.getD i61.toNat
 bay0)),Value.bool true)::l1) l2 (wrap .i64 (i61+1))else none)else some (T.leaf (.c (.ptr ((0:Nat)) (0)),[(0, .cells [.d (.v (.string s.name)), .d (Ad (1)
 busC e0 s.qa), .d (Ad (5) Az Ah s.qb), .d (Ad (6) Ay src0 s.qc), .d (Ad (12) bayC bay0 s.qd), .mp (1), .mp (2)] (229)),(1, .map ((0:Nat)) l1),(2, .map (2)
 l2)]))):=by kernel_rfl
def HC(s:SSta)(N B:MV):Hp:=[(0, .cells ((staC s).map .d++[.mp 1, .mp 2]) 229),(1, .map 0 N),(2, .map 2 B)]
def ArL:Ann:=A1 []
theorem b77:f132.body=some (Ac f132):=by kernel_rfl
theorem ev77(s:SSta)(N B:MV)(r:SRel)(g:Nat):Ai prog (Orc.cons 189 (inl prog Orc.nil na 1 f189) Orc.nil) ArL g f132 (Ac f132) [.c (.ptr 0 0),aRel r] (HC s N B)=
 (bif r.kind==1 then(bif decide (r.bay>=0)then(bif !decide (r.bay<=wrap .i64 ((↑s.qd.length:Int) -1))then some (T.leaf (iA 9,[(0,
 .cells [.d (.v (.string s.name)), .d (Ad (1) busC e0 s.qa), .d (Ad (5) Az Ah s.qb), .d (Ad (6) Ay src0 s.qc), .d (Ad (12) bayC bay0 s.qd), .mp (1), .mp (2)]
 (229)),(1, .map (0) N),(2, .map (2) B)]))else(bif decide (0<=r.bay)&&decide (r.bay<(↑s.qd.length:Int))then(bif SBay.kind (s.qd.getD (Int.toNat r.bay) bay0)
 !=1 then some (T.leaf (.c (.d (iD 9)),[(0, .cells [.d (.v (.string s.name)), .d (Ad (1) busC e0 s.qa), .d (Ad (5) Az Ah s.qb), .d (Ad (6)
 Ay src0 s.qc), .d (Ad (12) bayC bay0 s.qd), .mp (1), .mp (2)] (229)),(1, .map (0) N),(2, .map (2) B)]))else(bif B8 (Bb B (Value.int IntKind.i64 r.bay))then some
 (T.leaf (.c (.d (iD 12)),[(0, .cells [.d (.v (.string s.name)), .d (Ad (1) busC e0 s.qa), .d (Ad (5) Az Ah s.qb), .d (Ad (6) Ay src0
 s.qc), .d (Ad (12) bayC bay0 s.qd), .mp (1), .mp (2)] (229)),(1, .map (0) N),(2, .map (2) B)]))else some (T.leaf (iA 0,[(0, .cells [C.d
 (D.v (Value.string s.name)), .d (Ad (1) busC e0 s.qa), .d (Ad (5) Az Ah s.qb), .d (Ad (6) Ay src0 s.qc), .d (Ad (12) bayC bay0 s.qd), .mp (1), .mp (2)] (229)),(1,
 .map (0) N),(2, .map (2) B)]))))else none))else some (T.leaf (iA 9,[(0, .cells [.d (.v (.string s.name)), .d (Ad (1) busC e0 s.qa),C.d
 (Ad (5) Az Ah s.qb), .d (Ad (6) Ay src0 s.qc), .d (Ad (12) bayC bay0 s.qd), .mp (1), .mp (2)] (229)),(1, .map (0) N),(2, .map (2) B)])))else(bif r.kind==2
 then(bif decide (r.bay>=0)then(bif !decide (r.bay<=wrap .i64 ((↑s.qd.length:Int) -1))then some (T.leaf (iA 9,[(0, .cells [.d (.v
 (.string s.name)), .d (Ad (1) busC e0 s.qa), .d (Ad (5) Az Ah s.qb), .d (Ad ((6:Nat)) Ay src0 s.qc), .d (Ad (12) bayC bay0 s.qd), .mp (1), .mp (2)] (229)),(1,
 .map (0) N),((2:Nat), .map (2) B)]))else(bif decide (0<=r.bay)&&decide (r.bay<(↑s.qd.length:Int))then(bif SBay.kind (s.qd.getD (Int.toNat r.bay) bay0) !=2
 then some (T.leaf (iA 9,[(0, .cells [.d (.v (.string s.name)), .d (Ad (1) busC e0 s.qa), .d (Ad (5) Az Ah s.qb), .d (Ad (6) Ay src0 s.qc),
 .d (Ad (12) bayC bay0 s.qd), .mp (1), .mp (2)] (229)),(1, .map (0) N),(2, .map (2) B)]))else(bif B8 (Bb B (Value.int IntKind.i64 r.bay))then some (T.leaf (.c (.d
 (iD 12)),[(0, .cells [.d (.v (.string s.name)), .d (Ad (1) busC e0 s.qa), .d (Ad (5) Az Ah s.qb), .d (Ad (6) Ay src0 s.qc), .d (Ad (12) bayC bay0
 s.qd), .mp (1), .mp (2)] (229)),(1, .map (0) N),(2, .map (2) B)]))else some (T.leaf (.c (.d (iD 0)),[(0, .cells [.d (.v (.string
 s.name)), .d (Ad (1) busC e0 s.qa), .d (Ad (5) Az Ah s.qb), .d (Ad (6) Ay src0 s.qc), .d (Ad (12) bayC bay0 s.qd), .mp (1), .mp (2)] (229)),((1:Nat), .map (0)
 N),(2, .map (2) B)]))))else none))else some (T.leaf (iA 9,[(0, .cells [.d (.v (.string s.name)), .d (Ad (1) busC e0 s.qa), .d (Ad (5) Az Ah
 s.qb), .d (Ad (6) Ay src0 s.qc), .d (Ad (12) bayC bay0 s.qd), .mp (1), .mp (2)] (229)),(1, .map (0) N),(2, .map (2) B)])))else(bif r.kind==3 then(bif decide
 (r.bay>=0)then(bif !decide (r.bay<=wrap .i64 ((↑s.qd.length:Int) -1))then some (T.leaf (iA 9,[(0, .cells [.d (.v (.string s.name)),
 .d (Ad (1) busC e0 s.qa), .d (Ad (5) Az Ah s.qb), .d (Ad (6) Ay src0 s.qc), .d (Ad (12) bayC bay0 s.qd), .mp ((1:Nat)), .mp (2)] (229)),(1, .map (0) N),(2,
 .map (2) B)]))else(bif decide (0<=r.bay)&&decide (r.bay<(↑s.qd.length:Int))then(bif SBay.kind (s.qd.getD (Int.toNat r.bay) bay0) !=3 then some (T.leaf (.c (C.d
 (iD 9)),[(0, .cells [.d (.v (.string s.name)), .d (Ad (1) busC e0 s.qa), .d (Ad (5) Az Ah s.qb), .d (Ad (6) Ay src0 s.qc), .d (Ad (12)
 bayC bay0 s.qd), .mp (1), .mp (2)] (229)),(1, .map (0) N),(2, .map (2) B)]))else(bif B8 (Bb B (Value.int IntKind.i64 r.bay))then some (T.leaf (.c (.d (D.v
 (Value.int IntKind.i64 12))),[(0, .cells [.d (.v (.string s.name)), .d (Ad (1) busC e0 s.qa), .d (Ad (5) Az Ah s.qb), .d (Ad (6) Ay src0 s.qc), .d (Ad (12) bayC
 bay0 s.qd), .mp (1), .mp (2)] (229)),(1, .map (0) N),(2, .map (2) B)]))else some (T.leaf (iA 0,[(0, .cells [.d (.v (Value.string
 s.name)), .d (Ad (1) busC e0 s.qa), .d (Ad (5) Az Ah s.qb), .d (Ad (6) Ay src0 s.qc), .d (Ad (12) bayC bay0 s.qd), .mp (1), .mp (2)] (229)),(1, .map (0) N),(2,
 .map (2) B)]))))else none))else some (T.leaf (iA 9,[(0, .cells [.d (.v (.string s.name)), .d (Ad (1) busC e0 s.qa), .d (Ad (5) Az Ah
 s.qb), .d (Ad (6) Ay src0 s.qc), .d (Ad (12) bayC bay0 s.qd), .mp (1), .mp (2)] (229)),(1, .map (0) N),(2, .map (2) B)])))else(bif r.kind==4 then(bif r.bay
 !=(-1)then some (T.leaf (iA 9,[(0, .cells [.d (.v (.string s.name)), .d (Ad (1) busC e0 s.qa), .d (Ad (5) Az Ah s.qb), .d (Ad (6) Ay src0
 s.qc), .d (Ad (12) bayC bay0 s.qd), .mp (1), .mp ((2:Nat))] (229)),(1, .map (0) N),(2, .map (2) B)]))else(bif B8 (Bb B (Value.int IntKind.i64 r.bay))then some
 (T.leaf (iA 12,[(0, .cells [.d (.v (.string s.name)), .d (Ad (1) busC e0 s.qa), .d (Ad ((5:Nat)) Az Ah s.qb), .d (Ad (6) Ay src0 s.qc),
 .d (Ad (12) bayC bay0 s.qd), .mp (1), .mp (2)] ((229:Nat))),(1, .map (0) N),(2, .map (2) B)]))else some (T.leaf (iA 0,[(0, .cells [C.d
 (D.v (.string s.name)), .d (Ad (1) busC e0 s.qa), .d (Ad (5) Az Ah s.qb), .d (Ad (6) Ay src0 s.qc), .d (Ad (12) bayC bay0 s.qd), .mp (1), .mp (2)] (229)),(1,
 .map (0) N),(2, .map (2) B)]))))else some (T.leaf (iA 10,[(0, .cells [.d (.v (.string s.name)), .d (Ad (1) busC e0 s.qa), .d (Ad (5) Az Ah
 s.qb), .d (Ad (6) Ay src0 s.qc), .d (Ad (12) bayC bay0 s.qd), .mp ((1:Nat)), .mp (2)] (229)),(1, .map (0) N),(2, .map (2) B)])))))):=by kernel_rfl
structure K32 where
 okr:LB
 us:LB
 di:LB
 sc:LB
 el:LB
 ot:LB
 zo:LB
 ct:LB
 ls:LI
 okp:List AV ->Hp ->Bool
 pl:List AV ->Hp ->Int
def o32(Z:K32)(s:SSta)(N B:MV):Orc:=oN Ag (Orc.cons 132 (ansM Z.okp (fun x H=>vI (Z.pl x H)) fun _ _=>HC s N B) (Orc.cons 133 (ansG Z.okr fun x=>vB (Z.us x)) (Orc.cons 134 (ansG Z.okr fun x=>vB (Z.di x)) (Orc.cons 135 (ansG Z.okr fun x=>vB (Z.sc x)) (Orc.cons 136 (ansG Z.okr fun x=>vB (Z.el x))
 (Orc.cons 137 (ansG Z.okr fun x=>vB (Z.ot x)) (Orc.cons 138 (ansG Z.okr fun x=>vB (Z.zo x)) (Orc.cons 139 (ansG Z.okr fun x=>vB (Z.ct x)) (Orc.cons 140 (ansG Z.okr fun x=>vI (Z.ls x)) Orc.nil)))))))))
def ann32:Ann:=A1 []
theorem b32:f76.body=some (Ac f76):=by kernel_rfl
theorem ev32(Z:K32)(s:SSta)(N B:MV)(r:SRel)(g:Nat):Ai prog (o32 Z s N B) ann32 g f76 (Ac f76) [.c (.ptr 0 0),aRel r] (HC s N B)=
 (bif !Ag r.name then some (T.leaf (iA 7,[(0, .cells [.d (.v (.string s.name)), .d (Ad ((1:Nat)) busC e0 s.qa), .d (Ad (5) Az Ah s.qb),C.d
 (Ad (6) Ay src0 s.qc), .d (Ad (12) bayC bay0 s.qd), .mp (1), .mp (2)] (229)),(1, .map (0) N),(2, .map (2) B)]))else(bif B8 (Bb N (Value.string r.name))then some
 (T.leaf (iA 8,[(0, .cells [.d (.v (.string s.name)), .d (Ad (1) busC e0 s.qa), .d (Ad (5) Az Ah s.qb), .d (Ad (6) Ay src0 s.qc), .d (Ad
 (12) bayC bay0 s.qd), .mp ((1:Nat)), .mp (2)] (229)),(1, .map (0) N),(2, .map (2) B)]))else(bif K32.okp Z [.c (.ptr (0) (0)),gA (relC r)]
 [(0, .cells [.d (.v (.string s.name)), .d (Ad (1) busC e0 s.qa), .d (Ad (5) Az Ah s.qb), .d (Ad (6) Ay src0 s.qc), .d (Ad (12) bayC bay0 s.qd), .mp (1),C.mp
 (2)] (229)),(1, .map (0) N),(2, .map (2) B)]then(bif K32.pl Z [.c (.ptr (0) (0)),gA (relC r)] [(0, .cells [.d (.v (.string s.name)), .d (Ad
 (1) busC e0 s.qa), .d (Ad (5) Az Ah s.qb), .d (Ad (6) Ay src0 s.qc), .d (Ad (12) bayC bay0 s.qd), .mp (1), .mp (2)] (229)),(1, .map (0) N),(2, .map (2) B)]
 !=0 then some (T.leaf (iA (K32.pl Z [.c (.ptr (0) (0)),gA (relC r)] [(0, .cells [.d (.v (Value.string s.name)), .d (Ad (1) busC
 e0 s.qa), .d (Ad (5) Az Ah s.qb), .d (Ad (6) Ay src0 s.qc), .d (Ad (12) bayC bay0 s.qd), .mp (1), .mp (2)] (229)),(1, .map (0) N),(2, .map (2) B)]),[(0,
 .cells [.d (.v (.string s.name)), .d (Ad (1) busC e0 s.qa), .d (Ad (5) Az Ah s.qb), .d (Ad ((6:Nat)) Ay src0 s.qc), .d (Ad (12) bayC bay0 s.qd), .mp (1),C.mp
 (2)] (229)),(1, .map (0) N),((2:Nat), .map (2) B)]))else(bif K32.okr Z [gA (relC r)]then(bif !K32.us Z [gA (relC r)]then some
 (T.leaf (.c (.d (iD 12)),[(0, .cells [.d (.v (.string s.name)), .d (Ad (1) busC e0 s.qa), .d (Ad (5) Az Ah s.qb), .d (Ad (6) Ay src0
 s.qc), .d (Ad (12) bayC bay0 s.qd), .mp (1), .mp (2)] (229)),((1:Nat), .map (0) N),(2, .map (2) B)]))else(bif K32.okr Z [gA (relC r)]then
 (bif !K32.di Z [gA (relC r)]then some (T.leaf (iA 2,[(0, .cells [.d (.v (.string s.name)), .d (Ad (1) busC e0 s.qa), .d (Ad
 (5) Az Ah s.qb), .d (Ad (6) Ay src0 s.qc), .d (Ad (12) bayC bay0 s.qd), .mp (1), .mp ((2:Nat))] (229)),(1, .map (0) N),(2, .map (2) B)]))else(bif K32.okr Z
 [gA (relC r)]then(bif !K32.sc Z [gA (relC r)]then some (T.leaf (iA 2,[(0, .cells [.d (.v (.string s.name)),
 .d (Ad ((1:Nat)) busC e0 s.qa), .d (Ad (5) Az Ah s.qb), .d (Ad (6) Ay src0 s.qc), .d (Ad (12) bayC bay0 s.qd), .mp (1), .mp (2)] (229)),(1, .map (0) N),(2,
 .map (2) B)]))else(bif K32.okr Z [gA (relC r)]then(bif !K32.el Z [gA (relC r)]then some (T.leaf (iA 2,[(0,
 .cells [.d (.v (Value.string s.name)), .d (Ad (1) busC e0 s.qa), .d (Ad (5) Az Ah s.qb), .d (Ad (6) Ay src0 s.qc), .d (Ad (12) bayC bay0 s.qd), .mp (1),C.mp
 (2)] (229)),(1, .map (0) N),(2, .map (2) B)]))else(bif K32.okr Z [gA (relC r)]then(bif !K32.ot Z [gA (relC r)]then some (T.leaf
 (iA 2,[(0, .cells [.d (.v (.string s.name)), .d (Ad (1) busC e0 s.qa), .d (Ad (5) Az Ah s.qb), .d (Ad (6) Ay src0 s.qc), .d (Ad (12) bayC
 bay0 s.qd), .mp (1), .mp (2)] (229)),(1, .map (0) N),(2, .map (2) B)]))else(bif K32.okr Z [gA (relC r)]then(bif !K32.zo Z [.agg (List.map C.d
 (relC r))]then some (T.leaf (.c (.d (iD 11)),[(0, .cells [.d (.v (.string s.name)), .d (Ad (1) busC e0 s.qa), .d (Ad (5) Az Ah s.qb),C.d
 (Ad (6) Ay src0 s.qc), .d (Ad (12) bayC bay0 s.qd), .mp (1), .mp (2)] (229)),(1, .map ((0:Nat)) N),(2, .map (2) B)]))else(bif K32.okr Z [.agg (List.map C.d
 (relC r))]then(bif !K32.ct Z [gA (relC r)]then some (T.leaf (iA 3,[(0, .cells [.d (.v (.string s.name)), .d (Ad (1) busC e0
 s.qa), .d (Ad (5) Az Ah s.qb), .d (Ad (6) Ay src0 s.qc), .d (Ad (12) bayC bay0 s.qd), .mp (1), .mp (2)] (229)),(1, .map (0) N),(2, .map (2) B)]))else(bif
 K32.okr Z [gA (relC r)]then(bif K32.ls Z [gA (relC r)] !=0 then some (T.leaf (iA (K32.ls Z [gA (relC
 r)]),[(0, .cells [.d (.v (.string s.name)), .d (Ad (1) busC e0 s.qa), .d (Ad (5) Az Ah s.qb), .d (Ad (6) Ay src0 s.qc), .d (Ad (12) bayC bay0 s.qd),C.mp
 (1), .mp (2)] (229)),(1, .map (0) N),(2, .map (2) B)]))else some (T.leaf (.c (.d (iD 0)),[(0, .cells [.d (.v (.string s.name)), .d (Ad
 (1) busC e0 s.qa), .d (Ad (5) Az Ah s.qb), .d (Ad (6) Ay src0 s.qc), .d (Ad (12) bayC bay0 s.qd), .mp (1), .mp (2)] (229)),((1:Nat), .map (0) ((Value.string
 r.name,Value.bool true)::N)),(2, .map (2) ((Value.int IntKind.i64 r.bay,Value.bool true)::B))])))else none))else none))else none))else none))else none))else none))
 else none))else none))else none))):=by kernel_rfl
theorem c28(s:SSta)(hs:Bv s=true):CX prog 75 [aSta s] [] (.c (.ptr 0 0)) (HC s (Ap (Bd s)) []):=by
 obtain⟨a1,a2,a3,a4,_⟩:=Ei hs;obtain⟨g,g1,g2,g3,g4⟩: ∃g,s.qa.length<g/\s.qb.length<g/\s.qc.length<g/\s.qd.length<g:=⟨s.qa.length+s.qb.length+s.qc.length+s.qd.length+1,by omega⟩;refine Am (Orc.nil_ok _) func75 b28 rfl ((ev28 s g).trans ?_);have l4:=fun N=>Gk (nm:=SBay.name) (d0:=bay0) (l:=s.qd) (L:=fun m mp i=>X5 s g m mp [] i) (NX:=fun mp=>some (.leaf (.c (.ptr 0 0),HC s mp []))) (fun m k N hk=>by
  rw[AdC,lt1 hk,ge0,tn,nx hk a4,Cc];simp only[tt,za]) (fun m mp=>by rw[AdC,lt0 (zp _)];rfl) g 0 N (by omega) (by omega)
 have l3:=fun N=>Gk (nm:=SSrc.name) (d0:=src0) (l:=s.qc) (L:=fun m mp i=>Tq s g m mp [] i) (NX:=fun mp=>X5 s g g mp [] 0) (fun m k N hk=>by
  rw[AdD,lt1 hk,ge0,tn,nx hk a3,Cc];simp only[tt,za]) (fun m mp=>by rw[AdD,lt0 (zp _)];simp only[zb]) g 0 N (by omega) (by omega)
 have l2:=fun N=>Gk (nm:=SLine.name) (d0:=Ah) (l:=s.qb) (L:=fun m mp i=>Zv s g m mp [] i) (NX:=fun mp=>Tq s g g mp [] 0) (fun m k N hk=>by
  rw[AjD,lt1 hk,ge0,tn,nx hk a2,Cc];simp only[tt,za]) (fun m mp=>by rw[AjD,lt0 (zp _)];simp only[zb]) g 0 N (by omega) (by omega)
 have l1:=fun N=>Gk (nm:=id) (d0:=e0) (l:=s.qa) (L:=fun m mp i=>AgP s g m mp [] i) (NX:=fun mp=>Zv s g g mp [] 0) (fun m k N hk=>by
  rw[AjE,lt1 hk,ge0,tn,nx hk a1,Cc];simp only[tt,za,id]) (fun m mp=>by rw[AjE,lt0 (zp _)];simp only[zb]) g 0 N (by omega) (by omega)
 have e:=l1 [];simp only[zq,List.map_id,List.nil_append]at e l2 l3 l4;have e':AgP s g g [] [] 0=Zv s g g (Ap s.qa) [] 0:=e;have f2:Zv s g g (Ap s.qa) [] 0=Tq s g g (Ap (s.qa++s.qb.map SLine.name)) [] 0:=l2 s.qa;have f3:=l3 (s.qa++s.qb.map SLine.name);have f4:=l4 (s.qa++s.qb.map SLine.name++s.qc.map SSrc.name);refine e'.trans (f2.trans (Eq.trans f3 (Eq.trans f4 ?_)));unfold Bd;simp only[List.append_assoc]
def AbS(B:List Int)(n:Int):Int:=bif B.any fun m=>n==m then 12 else 0
def Q3(qd:List SBay)(B:List Int)(r:SRel)(k:Int):Int:=bif !Aa r.bay 0 ((qd.length:Int) -1)then 9 else bif(qd.getD r.bay.toNat bay0).kind !=k then 9 else AbS B r.bay
def Bh(qd:List SBay)(B:List Int)(r:SRel):Int:=
 bif r.kind==1 then Q3 qd B r 1 else bif r.kind==2 then Q3 qd B r 2 else bif r.kind==3 then Q3 qd B r 3 else bif r.kind==4 then(bif r.bay != -1 then 9 else AbS B r.bay)else 10
theorem AlU{O:Type}(X:Int ->Option O)(n len:Int)(kb sn:Bool):(bif decide (n>=0)then(bif !decide (n<=len -1)then X 9 else(bif decide (0<=n)&&decide (n<len)then(bif kb then X 9 else(bif sn then X 12 else X 0))else none))else X 9)=X (bif !Aa n 0 (len -1)then 9 else bif kb then 9 else bif sn then 12 else 0):=by
 unfold Aa;by_cases h1:n>=0
 ·by_cases h2:n<=len -1
  ·have h3:n<len:=by omega
   have h4:(0:Int)<=n:=h1;simp only[h2,h3,h4,ge_iff_le,decide_true,Bool.not_true,Bool.and_self,za,zb];cases kb<;>cases sn<;>rfl
  ·have h4:(0:Int)<=n:=h1;simp only[h2,h4,ge_iff_le,decide_true,decide_false,Bool.not_false,Bool.and_false,za]
 ·have h4: ¬(0:Int)<=n:=h1;simp only[h4,ge_iff_le,decide_false,Bool.not_false,Bool.false_and,za,zb]
theorem c77(s:SSta)(N:MV)(B:List Int)(r:SRel)(hb:s.qd.length<=9223372036854775807):CX prog 132 [.c (.ptr 0 0),aRel r] (HC s N (C8 B)) (vI (Bh s.qd B r)) (HC s N (C8 B)):=by
 refine Am sWi.ok func132 b77 rfl ((ev77 s N (C8 B) r 1).trans ?_);have w:wrap IntKind.i64 ((s.qd.length:Int) -1)=(s.qd.length:Int) -1:=wrap_id;rw[w,Zl];have key: ∀(kb sn:Bool),_:=fun kb sn=>AlU (fun n=>some (T.leaf (vI n,HC s N (C8 B)))) r.bay s.qd.length kb sn
 unfold Bh;cases(r.kind==1)with
 |true=>exact key _ _|false=>
  cases(r.kind==2)with
  |true=>exact key _ _|false=>
   cases(r.kind==3)with
   |true=>exact key _ _|false=>
    cases(r.kind==4)with
    |false=>rfl|true=>
     unfold AbS;cases(r.bay != -1)with
     |true=>rfl|false=>cases(B.any fun m=>r.bay==m)<;>rfl
def D4(r:SRel):Int:=bif !Ji r then 12 else bif !Cw r then 2 else bif !Dr r then 2 else bif !Dq r then 2 else bif !Dp r then 2 else bif !En r then 11 else bif !Br r then 3 else Fz r
def B3(qd:List SBay)(N:List BA)(B:List Int)(r:SRel):Int:=bif !Ag r.name then 7 else bif inB N r.name then 8 else bif Bh qd B r !=0 then Bh qd B r else D4 r
def eP(s:SSta)(a:List BA×List Int×SRel):List AV×Hp:=([.c (.ptr 0 0),aRel a.2.2],HC s (Ap a.1) (C8 a.2.1))
theorem Akn(s:SSta):InjY (eP s):=fun a b h1 h2=>by
 have⟨n,i,r⟩:=a;have⟨n',i',r'⟩:=b;have e1:r=r':=aRel_inj _ _ (Ar (Ar h1).2).1;have e2:=Wi (Agm (P7 h2 1 (a:= .map 0 (Ap n)) (b:= .map 0 (Ap n')) rfl rfl));have e3:=AeI (Agm (P7 h2 2 (a:= .map 2 (C8 i)) (b:= .map 2 (C8 i')) rfl rfl));rw[e1,e2,e3]
def eQ(s:SSta)(n:List BA)(b:List Int)(r:SRel):List AV×Hp:=([.c (.ptr 0 0),aRel r],HC s (Ap n) (C8 b))
theorem Akm(s:SSta)(n:List BA)(b:List Int):InjY (eQ s n b):=fun x y h1 _=>aRel_inj _ _ (Ar (Ar h1).2).1
abbrev eR:=en1 aRel
theorem eR_inj:InjT eR:=Cf aRel_inj
def Z32(s:SSta)(n:List BA)(b:List Int):K32 where
 okr:=okG eR Ci
 us x:=Ji (theT eR x)
 di x:=Cw (theT eR x)
 sc x:=Dr (theT eR x)
 el x:=Dq (theT eR x)
 ot x:=Dp (theT eR x)
 zo x:=En (theT eR x)
 ct x:=Br (theT eR x)
 ls x:=Fz (theT eR x)
 okp:=okZ (eQ s n b) fun _=>true
 pl x H:=Bh s.qd b (theY (eQ s n b) x H)
theorem s32(s:SSta)(n:List BA)(b:List Int)(hb:s.qd.length<=9223372036854775807):OrcS prog (o32 (Z32 s n b) s (Ap n) (C8 b)):=by
 refine sN (.cons (.m (enc:=eQ s n b) (c:=fun _=>true) (r:=fun r=>vI (Bh s.qd b r)) (H':=fun _=>HC s (Ap n) (C8 b)) fun r _=>c77 s (Ap n) b r hb) ?_);exact .cons (.t' (r:=fun a=>vB (Ji a)) fun a _=>c78 a) (.cons (.t' (r:=fun a=>vB (Cw a)) fun a _=>c79 a) (.cons (.t' (r:=fun a=>vB (Dr a)) fun a _=>c80 a) (.cons (.t' (r:=fun a=>vB (Dq a)) fun a _=>c81 a)
  (.cons (.t' (r:=fun a=>vB (Dp a)) fun a _=>c82 a) (.cons (.t' (r:=fun a=>vB (En a)) fun a _=>c83 a) (.cons (.t' (r:=fun a=>vB (Br a)) fun a h=>c84 a h) (.cons (.t' (r:=fun a=>vI (Fz a)) fun a h=>c85 a h) .nil)))))))
def addN(qd:List SBay)(N:List BA)(B:List Int)(r:SRel):List BA:=bif B3 qd N B r !=0 then N else N++[r.name]
def addB(qd:List SBay)(N:List BA)(B:List Int)(r:SRel):List Int:=bif B3 qd N B r !=0 then B else B++[r.bay]
theorem c32(s:SSta)(N:List BA)(B:List Int)(r:SRel)(hs:s.qd.length<=9223372036854775807)(hr:Ci r=true):
  CX prog 76 [.c (.ptr 0 0),aRel r] (HC s (Ap N) (C8 B)) (vI (B3 s.qd N B r)) (HC s (Ap (addN s.qd N B r)) (C8 (addB s.qd N B r))):=by
 refine Am (s32 s N B hs).ok func76 b32 rfl ((ev32 (Z32 s N B) s (Ap N) (C8 B) r 1).trans ?_);have k1:(Z32 s N B).okp [.c (.ptr 0 0),aRel r] (HC s (Ap N) (C8 B))=true:=Q4 (Akm s N B) (c:=fun _=>true) r rfl;have k2:(Z32 s N B).pl [.c (.ptr 0 0),aRel r] (HC s (Ap N) (C8 B))=Bh s.qd B r:=congrArg (Bh s.qd B) (Le (Akm s N B) r);have k3:(Z32 s N B).okr [aRel r]=true:=Ao eR_inj (c:=Ci) r hr;have t:=Aj eR_inj r;have k4:(Z32 s N B).us [aRel r]=Ji r:=congrArg Ji t;have k5:(Z32 s N B).di [aRel r]=Cw r:=congrArg Cw t;have k6:(Z32 s N B).sc [aRel r]=Dr r:=congrArg Dr t;have k7:(Z32 s N B).el [aRel r]=Dq r:=congrArg Dq t;have k8:(Z32 s N B).ot [aRel r]=Dp r:=congrArg Dp t;have k9:(Z32 s N B).zo [aRel r]=En r:=congrArg En t;have k10:(Z32 s N B).ct [aRel r]=Br r:=congrArg Br t;have k11:(Z32 s N B).ls [aRel r]=Fz r:=congrArg Fz t;unfold HC at k1 k2;simp only[staC,List.map_cons,List.map_nil,List.cons_append,List.nil_append]at k1 k2;rw[k1,k2,k3,k4,k5,k6,k7,k8,k9,k10,k11,Xe];unfold addN addB;unfold B3;cases Ag r.name with
 |false=>rfl|true=>
  cases inB N r.name with
  |true=>rfl|false=>
   cases hp:(Bh s.qd B r !=0)with
   |true=>simp only[Bool.not_true,zb,za,hp];rfl|false=>
    unfold D4;cases Ji r with
    |false=>rfl|true=>
     cases Cw r with
     |false=>rfl|true=>
      cases Dr r with
      |false=>rfl|true=>
       cases Dq r with
       |false=>rfl|true=>
        cases Dp r with
        |false=>rfl|true=>
         cases En r with
         |false=>rfl|true=>
          cases Br r with
          |false=>rfl|true=>
           cases hl:(Fz r !=0)with
           |true=>simp only[Bool.not_true,zb,za,hl];rfl|false=>
            have e0:Fz r=0:=by simpa using hl
            have z0:((0:Int) !=0)=false:=rfl;simp only[Bool.not_true,zb,za,e0,z0,Cc,AeJ];rfl
structure K13 where
 okS:LB
 chk:LI
 okn:List AV ->Hp ->Bool
 n0:MV
 oka:List AV ->Hp ->Bool
 ad:List AV ->Hp ->Int
 an:List AV ->Hp ->List (Value×Value)
 ab:List AV ->Hp ->List (Value×Value)
def o13c(Z:K13)(s:SSta):Orc:=Orc.cons 31 (ansG Z.okS fun x=>vI (Z.chk x)) (Orc.cons 75 (ansM Z.okn (fun _ _=> .c (.ptr 0 0)) fun _ _=>HC s Z.n0 []) (Orc.cons 76 (ansM Z.oka (fun x H=>vI (Z.ad x H)) fun x H=>HC s (Z.an x H) (Z.ab x H)) Orc.nil))
def AkS:Ann:=A1 [(5,⟨[6,15,16,17],[]⟩)]
def X7(Z:K13)(s:SSta)(l:List SRel)(g m:Nat)(l1:MV)(l2:MV)(i17:Int):=LK prog (o13c Z s) AkS 0 g f32 5 m ⟨frm [(6, .c (.ptr 0 0)),(15, .c (.d (Ad 53 relC rel0 l))),(16,iA (↑(List.length l):Int)),(17,iA i17)] 0 f32.ntmps,[(0, .cells [.d (.v (.string (SSta.name s))), .d (Ad 1 busC e0 (SSta.qa s)), .d (Ad 5 Az Ah (SSta.qb s)), .d (Ad 6 Ay src0 (SSta.qc s)), .d (Ad 12 bayC bay0 (SSta.qd s)), .mp 1, .mp 2] 229),(1, .map 0 l1),(2, .map 2 l2)],3⟩
theorem b13c:f32.body=some (Ac f32):=by kernel_rfl
theorem Arm(Z:K13)(s:SSta)(l:List SRel)(g:Nat):Ai prog (o13c Z s) AkS g f32 (Ac f32) [aSta s, .c (.d (Di l))] []=
 (bif K13.okS Z [gA (staC s)]then(bif K13.chk Z [gA (staC s)] !=0 then some (T.leaf (.tup [(false,[.d (iD 0)]),
 (false,[.d (iD 1)])],[]))else(bif K13.okn Z [gA (staC s)] []then X7 Z s l g g (K13.n0 Z) ([]) 0 else none))else none):=by kernel_rfl
theorem AlE(Z:K13)(s:SSta)(l:List SRel)(g m:Nat)(l1:MV)(l2:MV)(i17:Int):X7 Z s l g (m+1) l1 l2 i17=
 (bif decide (i17<(↑l.length:Int))then(bif decide (0<=i17)&&decide (i17<(↑l.length:Int))then(bif K13.oka Z [.c (.ptr (0) (0)),gA (relC (l.getD
 i17.toNat rel0))] [(0, .cells [.d (.v (.string s.name)), .d (Ad (1) busC e0 s.qa), .d (Ad (5) Az Ah s.qb), .d (Ad (6) Ay src0 s.qc), .d (Ad (12) bayC bay0 s.qd),
 .mp (1), .mp ((2:Nat))] (229)),(1, .map (0) l1),(2, .map (2) l2)]then(bif K13.ad Z [.c (.ptr (0) (0)),gA (relC (l.getD i17.toNat rel0))] [(0,
 .cells [.d (.v (.string s.name)), .d (Ad (1) busC e0 s.qa), .d (Ad (5) Az Ah s.qb), .d (Ad (6) Ay src0 s.qc), .d (Ad (12) bayC bay0 s.qd), .mp (1), .mp (2)]
 (229)),((1:Nat), .map (0) l1),(2, .map (2) l2)] !=0 then some (T.leaf (.tup [(false,[.d (iD i17)]),(false,[.d (iD (K13.ad Z
 [.c (.ptr (0) (0)),gA (relC (l.getD i17.toNat rel0))] [(0, .cells [.d (.v (Value.string s.name)), .d (Ad (1) busC e0 s.qa), .d (Ad (5) Az Ah
 s.qb), .d (Ad (6) Ay src0 s.qc), .d (Ad (12) bayC bay0 s.qd), .mp (1), .mp (2)] (229)),(1, .map (0) l1),(2, .map (2) l2)]))])],[]))else X7 Z s l g m (K13.an Z
 [.c (.ptr (0) (0)),gA (relC (l.getD i17.toNat rel0))] [(0, .cells [.d (.v (.string s.name)), .d (Ad (1) busC e0 s.qa), .d (Ad (5) Az Ah s.qb),
 .d (Ad (6) Ay src0 s.qc), .d (Ad (12) bayC bay0 s.qd), .mp (1), .mp (2)] (229)),(1, .map (0) l1),(2, .map (2) l2)]) (K13.ab Z [.c (.ptr (0) (0)),AV.agg
 (List.map C.d (relC (l.getD i17.toNat rel0)))] [(0, .cells [.d (.v (.string s.name)), .d (Ad (1) busC e0 s.qa), .d (Ad (5) Az Ah s.qb), .d (Ad (6) Ay src0 s.qc),C.d
 (Ad (12) bayC bay0 s.qd), .mp (1), .mp (2)] (229)),(1, .map (0) l1),(2, .map (2) l2)]) (wrap .i64 (i17+1)))else none)else none)else some (T.leaf (AV.tup
 [(false,[.d (iD 0)]),(false,[.d (iD 0)])],[]))):=by kernel_rfl
def vII(a b:Int):AV:= .tup [(false,[.d (dI a)]),(false,[.d (dI b)])]
def vP(p:Int×Int):AV:=vII p.1 p.2
def Bu(qd:List SBay)(N:List BA)(B:List Int)(i:Nat):List SRel ->Int×Int
 |[]=>(0,0)|r::t=>bif B3 qd N B r !=0 then((i:Int),B3 qd N B r)else Bu qd (N++[r.name]) (B++[r.bay]) (i+1) t
def Po(s:SSta)(l:List SRel):Int×Int:=bif A3 s !=0 then(0,1)else Bu s.qd (Bd s) [] 0 l
abbrev eSt:=en1 aSta
theorem Fo:InjT eSt:=Cf Ee
def eN1(s:SSta)(_:Unit):List AV×Hp:=([aSta s],[])
theorem AmR(s:SSta):InjY (eN1 s):=fun _ _ _ _=>rfl
def okA(a:List BA×List Int×SRel):Bool:=Ci a.2.2
def Z13(s:SSta):K13 where
 okS:=okG eSt Bv
 chk x:=A3 (theT eSt x)
 okn:=okZ (eN1 s) fun _=>true
 n0:=Ap (Bd s)
 oka:=okZ (eP s) okA
 ad x H:=B3 s.qd (theY (eP s) x H).1 (theY (eP s) x H).2.1 (theY (eP s) x H).2.2
 an x H:=Ap (addN s.qd (theY (eP s) x H).1 (theY (eP s) x H).2.1 (theY (eP s) x H).2.2)
 ab x H:=C8 (addB s.qd (theY (eP s) x H).1 (theY (eP s) x H).2.1 (theY (eP s) x H).2.2)
theorem s13c(s:SSta)(hs:Bv s=true):OrcS prog (o13c (Z13 s) s):=
 .cons (.t' (r:=fun a=>vI (A3 a)) fun a h=>c12 a (Ei h).2.2.2.2) (.cons (.m (enc:=eN1 s) (c:=fun _=>true) (r:=fun _=> .c (.ptr 0 0)) (H':=fun _=>HC s (Ap (Bd s)) []) fun _ _=>c28 s hs)
  (.cons (.m (enc:=eP s) (c:=okA) (r:=fun a=>vI (B3 s.qd a.1 a.2.1 a.2.2)) (H':=fun a=>HC s (Ap (addN s.qd a.1 a.2.1 a.2.2)) (C8 (addB s.qd a.1 a.2.1 a.2.2))) fun a h=>c32 s a.1 a.2.1 a.2.2 (Ei hs).2.2.2.1 h) .nil))
theorem Aoz(s:SSta)(l:List SRel)(g:Nat)(hl:Au l=true)(ha:l.all Ci=true): ∀(m k:Nat) (N:List BA) (B:List Int),k<=l.length ->l.length -k<m ->X7 (Z13 s) s l g m (Ap N) (C8 B) k=some (.leaf (vP (Bu s.qd N B k (l.drop k)),[]))
 |0,k,_,_,_,h=>by omega|m+1,k,N,B,hk,h=>by
  rw[AlE];by_cases hlt:k<l.length
  ·have hr:Ci (l.getD k rel0)=true:=E7 ha rfl k;rw[Av (d:=rel0) hlt];rw[lt1 hlt,ge0,tn,nx hlt (Bi hl)];generalize l.getD k rel0=r at hr⊢;have k1:(Z13 s).oka [.c (.ptr 0 0),aRel r] (HC s (Ap N) (C8 B))=true:=Q4 (Akn s) (c:=okA) (N,B,r) hr;have t:theY (eP s) [.c (.ptr 0 0),aRel r] (HC s (Ap N) (C8 B))=(N,B,r):=Le (Akn s) (N,B,r);have k2:(Z13 s).ad [.c (.ptr 0 0),aRel r] (HC s (Ap N) (C8 B))=B3 s.qd N B r:=by dsimp only[Z13];rw[t]
   have k3:(Z13 s).an [.c (.ptr 0 0),aRel r] (HC s (Ap N) (C8 B))=Ap (addN s.qd N B r):=by dsimp only[Z13];rw[t]
   have k4:(Z13 s).ab [.c (.ptr 0 0),aRel r] (HC s (Ap N) (C8 B))=C8 (addB s.qd N B r):=by dsimp only[Z13];rw[t]
   unfold HC at k1 k2 k3 k4;simp only[staC,List.map_cons,List.map_nil,List.cons_append,List.nil_append]at k1 k2 k3 k4;have ih:=Aoz s l g hl ha m (k+1) (N++[r.name]) (B++[r.bay]) (by omega) (by omega);simp only[tt,za];refine Eq.trans (congrArg (fun b=>cond b _ _) k1) ?_;simp only[za];rw[k2,k3,k4];unfold addN addB;simp only[Bu];cases hz:(B3 s.qd N B r !=0)with
   |true=>rfl|false=>exact ih
  ·rw[lt0 hlt,zl];rfl
theorem c13c(s:SSta)(l:List SRel)(hs:Bv s=true)(hl:Au l=true)(ha:l.all Ci=true):CX prog 32 [aSta s, .c (.d (Di l))] [] (vP (Po s l)) []:=by
 obtain⟨g,hg⟩: ∃g,l.length<g:=⟨l.length+1,by omega⟩;refine Am (s13c s hs).ok func32 b13c rfl ((Arm (Z13 s) s l g).trans ?_);have k1:(Z13 s).okS [aSta s]=true:=Ao Fo (c:=Bv) s hs;have k2:(Z13 s).chk [aSta s]=A3 s:=congrArg A3 (Aj Fo s);have k3:(Z13 s).okn [aSta s] []=true:=Q4 (AmR s) (c:=fun _=>true) () rfl;have e:X7 (Z13 s) s l g g (Ap (Bd s)) (C8 []) ((0:Nat):Int)=_:=Aoz s l g hl ha g 0 (Bd s) [] (by omega) (by omega);rw[k1,k2,k3];unfold Po;cases(A3 s !=0)with
 |true=>rfl|false=>exact e
end Go.Y.se
namespace Go.Y.se
open Go.RowKit Go.Eb
theorem AmH(s:BA):Ai prog (Orc.cons 52 (inl prog Orc.nil na 20 f52) Orc.nil) na 20 f188 (Ac f188) [vS s] []=
 (bif ByteArray.toList (⟨#[116,114,117,101]⟩)==s.toList then leB true else(bif ByteArray.toList (⟨#[102,97,108,115,101]⟩)==s.toList then leB true else(bif
 ByteArray.toList (⟨#[110,111,116]⟩)==s.toList then leB true else(bif ByteArray.toList (⟨#[97,110,100]⟩)==s.toList then leB true else(bif ByteArray.toList (⟨#[111,114]⟩)
 ==s.toList then leB true else(bif ByteArray.toList (⟨#[120,111,114]⟩)==s.toList then leB true else(bif ByteArray.toList (⟨#[109,105,110]⟩)==s.toList then leB true else
 (bif ByteArray.toList (⟨#[109,97,120]⟩)==s.toList then leB true else(bif ByteArray.toList (⟨#[97,98,115]⟩)==s.toList then leB true else(bif ByteArray.toList (⟨#[105,
 102]⟩)==s.toList then leB true else(bif ByteArray.toList (⟨#[114,105,115,101]⟩)==s.toList then leB true else(bif ByteArray.toList (⟨#[102,97,108,108]⟩)==s.toList then
 leB true else(bif ByteArray.toList (⟨#[100,101,108,97,121]⟩)==s.toList then leB true else(bif ByteArray.toList (⟨#[104,111,108,100]⟩)==s.toList then leB true else(bif
 ByteArray.toList (⟨#[108,97,116,99,104]⟩)==s.toList then leB true else(bif ByteArray.toList (⟨#[99,111,117,110,116]⟩)==s.toList then leB true else leB
 false)))))))))))))))):=by kernel_rfl
def Uu(s:BA):Bool:=
 (bif ByteArray.toList (ByteArray.mk #[(116:UInt8),(114:UInt8),(117:UInt8),(101:UInt8)])==ByteArray.toList s then(true)else(bif ByteArray.toList (ByteArray.mk #[(102
 :UInt8),(97:UInt8),(108:UInt8),(115:UInt8),(101:UInt8)])==ByteArray.toList s then(true)else(bif ByteArray.toList (ByteArray.mk #[(110:UInt8),(111:UInt8),(116
 :UInt8)])==ByteArray.toList s then(true)else(bif ByteArray.toList (ByteArray.mk #[(97:UInt8),(110:UInt8),(100:UInt8)])==ByteArray.toList s then(true)else(bif
 ByteArray.toList (ByteArray.mk #[(111:UInt8),(114:UInt8)])==ByteArray.toList s then(true)else(bif ByteArray.toList (ByteArray.mk #[(120:UInt8),(111:UInt8),(114:
 UInt8)])==ByteArray.toList s then(true)else(bif ByteArray.toList (ByteArray.mk #[(109:UInt8),(105:UInt8),(110:UInt8)])==ByteArray.toList s then(true)else(bif
 ByteArray.toList (ByteArray.mk #[(109:UInt8),(97:UInt8),(120:UInt8)])==ByteArray.toList s then(true)else(bif ByteArray.toList (ByteArray.mk #[(97:UInt8),(98:
 UInt8),(115:UInt8)])==ByteArray.toList s then(true)else(bif ByteArray.toList (ByteArray.mk #[(105:UInt8),(102:UInt8)])==ByteArray.toList s then(true)else(bif
 ByteArray.toList (ByteArray.mk #[(114:UInt8),(105:UInt8),(115:UInt8),(101:UInt8)])==ByteArray.toList s then(true)else(bif ByteArray.toList (ByteArray.mk #[(102:
 UInt8),(97:UInt8),(108:UInt8),(108:UInt8)])==ByteArray.toList s then(true)else(bif ByteArray.toList (ByteArray.mk #[(100:UInt8),(101:UInt8),(108:UInt8),(97:
 UInt8),(121:UInt8)])==ByteArray.toList s then(true)else(bif ByteArray.toList (ByteArray.mk #[(104:UInt8),(111:UInt8),(108:UInt8),(100:UInt8)])==ByteArray.toList
 s then(true)else(bif ByteArray.toList (ByteArray.mk #[(108:UInt8),(97:UInt8),(116:UInt8),(99:UInt8),(104:UInt8)])==ByteArray.toList s then(true)else(bif
 ByteArray.toList (ByteArray.mk #[(99:UInt8),(111:UInt8),(117:UInt8),(110:UInt8),(116:UInt8)])==ByteArray.toList s then(true)else(false)))))))))))))))))
theorem Arn(s:BA):Ai prog (Orc.cons 52 (inl prog Orc.nil na 20 f52) Orc.nil) na 20 f188 (Ac f188) [vS s] []=some (.leaf (vB (Uu s),[])):=by
 rw[AmH];unfold Uu;simp only[Jx]
def Apt:Ann:=A1 [(4,⟨[1,3],[]⟩)]
def AgO(r:SRel)(g m:Nat)(i3:Int):=LK prog Orc.nil Apt 0 g f122 4 m ⟨frm [(1, .c (.ptr 0 0)),(3,iA i3)] 0 f122.ntmps,[(0, .cells (List.map C.d (relC r)) 64)],1⟩
theorem b91:f122.body=some (Ac f122):=by kernel_rfl
theorem ev91(r:SRel)(g:Nat):Ai prog Orc.nil Apt g f122 (Ac f122) [aRel r] []=
 (bif decide ((↑r.qi.length:Int)>16)then leB true else(bif decide ((↑r.qj.length:Int)>4)then leB true else(bif decide ((↑r.qk.length:Int)>4)then leB true
 else(bif decide ((↑r.ql.length:Int)>24)then leB true else AgO r g g 0)))):=by kernel_rfl
theorem Ajx(r:SRel)(g m:Nat)(i3:Int):AgO r g (m+1) i3=
 (bif decide (i3<(↑r.qj.length:Int))then(bif decide (0<=i3)&&decide (i3<(↑r.qj.length:Int))then(bif decide ((↑(SSet.qm (r.qj.getD i3.toNat set0)).length:
 Int)<1)then leB true else(bif decide (0<=i3)&&decide (i3<(↑r.qj.length:Int))then(bif decide ((↑(SSet.qm (r.qj.getD i3.toNat set0)).length:Int)>24)then leB
 true else AgO r g m (wrap .i64 (i3+1)))else none))else none)else leB false):=by kernel_rfl
def Apu:Ann:=A1 [(16,⟨[5,1,8],[]⟩)]
def Ml(s:SSta)(b:List SRel)(r:SRel)(g m:Nat)(i8:Int):=LK prog Orc.nil Apu 0 g f118 16 m ⟨frm [(1, .c (.d (Ad 53 relC rel0 b))),(5, .c (.ptr 0 0)),(8,iA i8)] 0 f118.ntmps,[(0, .cells (List.map C.d (relC r)) 64)],1⟩
theorem b87:f118.body=some (Ac f118):=by kernel_rfl
theorem ev87(s:SSta)(b:List SRel)(r:SRel)(g:Nat):Ai prog Orc.nil Apu g f118 (Ac f118) [aSta s, .c (.d (Di b)),aRel r] []=
 (bif r.kind==1 then(bif decide (r.bay<0)then leI 9 else(bif decide (r.bay>=(↑s.qd.length:Int))then leI 9 else(bif decide (0<=r.bay)&&decide (r.bay<
 (↑s.qd.length:Int))then(bif SBay.kind (s.qd.getD (Int.toNat r.bay) bay0) !=1 then leI 9 else Ml s b r g g 0)else none)))else(bif r.kind==2 then(bif decide (r.bay<
 0)then leI 9 else(bif decide (r.bay>=(↑s.qd.length:Int))then leI 9 else(bif decide (0<=r.bay)&&decide (r.bay<(↑s.qd.length:Int))then(bif SBay.kind (s.qd.getD
 (Int.toNat r.bay) bay0) !=2 then leI 9 else Ml s b r g g 0)else none)))else(bif r.kind==3 then(bif decide (r.bay<0)then leI 9 else(bif decide (r.bay>=(↑s.qd.length:
 Int))then leI 9 else(bif decide (0<=r.bay)&&decide (r.bay<(↑s.qd.length:Int))then(bif SBay.kind (s.qd.getD (Int.toNat r.bay) bay0) !=3 then leI 9 else Ml s b r g g
 0)else none)))else(bif r.kind==4 then(bif r.bay !=(-1)then leI 9 else Ml s b r g g 0)else leI 10)))):=by kernel_rfl
theorem AdB(s:SSta)(b:List SRel)(r:SRel)(g m:Nat)(i8:Int):Ml s b r g (m+1) i8=
 (bif decide (i8<(↑b.length:Int))then(bif decide (0<=i8)&&decide (i8<(↑b.length:Int))then(bif SRel.bay (b.getD i8.toNat rel0)==r.bay then leI 12 else Ml s b r g m
 (wrap .i64 (i8+1)))else none)else leI 0):=by kernel_rfl
def oIx(oki:LB)(ix:LI)(r:Orc):Orc:=Orc.cons 52 (ansL oki fun x=>vI (ix x)) r
def o92(nk rv:BA ->Bool)(oki:LB)(ix:LI):Orc:=oIx oki ix (Orc.cons 57 (ansP decS fun s=>vB (nk s)) (Orc.cons 188 (ansP decS fun s=>vB (rv s)) Orc.nil))
def Ant:Ann:=A1 [(3,⟨[1,4,3],[(3,0,1,9)]⟩),(13,⟨[5,1,4,3,6],[]⟩)]
def Zt(nk rv:BA ->Bool)(oki:LB)(ix:LI)(r:SRel)(g m:Nat)(n1:Nat)(f1:RD)(i4:Int):=LK prog (o92 nk rv oki ix) Ant 0 g f123 3 m ⟨frm [(1, .c (.ptr 0 0)),(3, .c (.row 1 1 n1)),(4,iA i4)] 0 f123.ntmps,[(0, .cells (List.map C.d (relC r)) 64),(1, .row n1 f1 1 9)],2⟩
def X2(nk rv:BA ->Bool)(oki:LB)(ix:LI)(r:SRel)(g mo m:Nat)(n1:Nat)(f1:RD)(i4:Int)(i6:Int):=LK2 prog (o92 nk rv oki ix) Ant 0 g f123 3 mo 13 m ⟨frm [(1, .c (.ptr 0 0)),(3, .c (.row 1 1 n1)),(4,iA i4),(5, .c (.ptr 2 0)),(6,iA i6)] 0 f123.ntmps,[(0, .cells (List.map C.d (relC r)) 64),(1, .row n1 f1 1 9),(2, .cells (List.map C.d (E0 (List.getD (SRel.qi r) (Int.toNat i4) Be))) 136)],3⟩
theorem b92:f123.body=some (Ac f123):=by kernel_rfl
theorem ev92(nk rv:BA ->Bool)(oki:LB)(ix:LI)(r:SRel)(g:Nat):Ai prog (o92 nk rv oki ix) Ant g f123 (Ac f123) [aRel r] []=
 Zt nk rv oki ix r g g 0 (fun x=>[]) 0:=by kernel_rfl
theorem Ajw(nk rv:BA ->Bool)(oki:LB)(ix:LI)(r:SRel)(g m:Nat)(n1:Nat)(f1:RD)(i4:Int):Zt nk rv oki ix r g (m+1) n1 f1 i4=
 (bif decide (i4<(↑r.qi.length:Int))then(bif decide (0<=i4)&&decide (i4<(↑r.qi.length:Int))then(bif !nk (SRule.name (r.qi.getD i4.toNat Be))then leI 7 else
 (bif rv (SRule.name (r.qi.getD i4.toNat Be))then leI 7 else(bif oki [.c (.d (.sl (1) n1 f1)), .c (.d (.v (Value.string (SRule.name (r.qi.getD i4.toNat Be)))))]then
 (bif decide (ix [.c (.d (.sl (1) n1 f1)), .c (.d (.v (.string (SRule.name (r.qi.getD i4.toNat Be)))))]>=0)then leI 8 else(bif decide ((↑(ByteArray.size (SRule.text
 (r.qi.getD i4.toNat Be))):Int)>120)then leI 4 else X2 nk rv oki ix r g m g n1 f1 i4 0))else none)))else none)else leI 0):=by kernel_rfl
theorem AlA(nk rv:BA ->Bool)(oki:LB)(ix:LI)(r:SRel)(g mo m:Nat)(n1:Nat)(f1:RD)(i4:Int)(i6:Int):X2 nk rv oki ix r g mo (m+1) n1 f1 i4 i6=
 (bif decide (i6<(↑(ByteArray.size (SRule.text (r.qi.getD i4.toNat Be))):Int))then(bif decide (0<=i6)&&decide (i6<(↑(ByteArray.size (SRule.text (r.qi.getD i4.toNat
 Be))):Int))then(bif decide ((↑(UInt8.toNat ((Array.toList (ByteArray.data (SRule.text (r.qi.getD i4.toNat Be)))).getD i6.toNat 0)):Int)<32)then leI 5 else(bif decide
 (0<=i6)&&decide (i6<(↑(ByteArray.size (SRule.text (r.qi.getD i4.toNat Be))):Int))then(bif decide ((↑(UInt8.toNat ((Array.toList (ByteArray.data (SRule.text
 (r.qi.getD i4.toNat Be)))).getD i6.toNat 0)):Int)>126)then leI 5 else(bif decide (0<=i6)&&decide (i6<(↑(ByteArray.size (SRule.text (r.qi.getD i4.toNat Be))):
 Int))then(bif(↑(UInt8.toNat ((Array.toList (ByteArray.data (SRule.text (r.qi.getD i4.toNat Be)))).getD i6.toNat 0)):Int)==34 then leI 5 else X2 nk rv oki ix r g mo m n1
 f1 i4 (wrap .i64 (i6+1)))else none))else none))else none)else(bif decide ((n1+1)*16<=140737488355328)&&decide (n1+1<=9223372036854775807)then Zt nk rv oki
 ix r g mo (n1+1) (appF n1 f1 (Ae [dS (SRule.name (r.qi.getD i4.toNat Be))] (0+1))) (wrap .i64 (i4+1))else none)):=by kernel_rfl
def o93(nk:BA ->Bool)(oki:LB)(ix:LI):Orc:=oIx oki ix (Orc.cons 57 (ansP decS fun s=>vB (nk s)) (Orc.cons 186 (ansP dec3 fun a=>vB (Aa a.1 a.2.1 a.2.2)) Orc.nil))
def AgJ:Ann:=A1 [(3,⟨[1,4,3],[(3,0,1,9)]⟩),(9,⟨[5,1,4,3,6],[]⟩),(18,⟨[1,7,3],[(3,0,1,9)]⟩),(30,⟨[1,9,3],[(3,0,1,9)]⟩)]
def X1(nk:BA ->Bool)(oki:LB)(ix:LI)(r:SRel)(g m:Nat)(n1:Nat)(f1:RD)(i4:Int):=LK prog (o93 nk oki ix) AgJ 0 g f124 3 m ⟨frm [(1, .c (.ptr 0 0)),(3, .c (.row 1 1 n1)),(4,iA i4)] 0 f124.ntmps,[(0, .cells (List.map C.d (relC r)) 64),(1, .row n1 f1 1 9)],2⟩
def Vl(nk:BA ->Bool)(oki:LB)(ix:LI)(r:SRel)(g mo m:Nat)(n1:Nat)(f1:RD)(i4:Int)(i6:Int):=LK2 prog (o93 nk oki ix) AgJ 0 g f124 3 mo 9 m ⟨frm [(1, .c (.ptr 0 0)),(3, .c (.row 1 1 n1)),(4,iA i4),(5, .c (.ptr 2 0)),(6,iA i6)] 0 f124.ntmps,[(0, .cells (List.map C.d (relC r)) 64),(1, .row n1 f1 1 9),(2, .cells (List.map C.d (setC (List.getD (SRel.qj r) (Int.toNat i4) set0))) 125)],3⟩
def Mk(nk:BA ->Bool)(oki:LB)(ix:LI)(r:SRel)(g m:Nat)(n1:Nat)(f1:RD)(i7:Int):=LK prog (o93 nk oki ix) AgJ 0 g f124 18 m ⟨frm [(1, .c (.ptr 0 0)),(3, .c (.row 1 1 n1)),(7,iA i7)] 0 f124.ntmps,[(0, .cells (List.map C.d (relC r)) 64),(1, .row n1 f1 1 9)],2⟩
def Mj(nk:BA ->Bool)(oki:LB)(ix:LI)(r:SRel)(g m:Nat)(n1:Nat)(f1:RD)(i9:Int):=LK prog (o93 nk oki ix) AgJ 0 g f124 30 m ⟨frm [(1, .c (.ptr 0 0)),(3, .c (.row 1 1 n1)),(9,iA i9)] 0 f124.ntmps,[(0, .cells (List.map C.d (relC r)) 64),(1, .row n1 f1 1 9)],2⟩
theorem b93:f124.body=some (Ac f124):=by kernel_rfl
theorem ev93(nk:BA ->Bool)(oki:LB)(ix:LI)(r:SRel)(g:Nat):Ai prog (o93 nk oki ix) AgJ g f124 (Ac f124) [aRel r] []=
 X1 nk oki ix r g g 0 (fun x=>[]) 0:=by kernel_rfl
theorem Ajv(nk:BA ->Bool)(oki:LB)(ix:LI)(r:SRel)(g m:Nat)(n1:Nat)(f1:RD)(i4:Int):X1 nk oki ix r g (m+1) n1 f1 i4=
 (bif decide (i4<(↑r.qj.length:Int))then(bif decide (0<=i4)&&decide (i4<(↑r.qj.length:Int))then(bif !nk (SSet.name (r.qj.getD i4.toNat set0))then leI 7 else Vl
 nk oki ix r g m g n1 f1 i4 0)else none)else Mk nk oki ix r g g 0 (fun x=>[]) 0):=by kernel_rfl
theorem Aju(nk:BA ->Bool)(oki:LB)(ix:LI)(r:SRel)(g mo m:Nat)(n1:Nat)(f1:RD)(i4:Int)(i6:Int):Vl nk oki ix r g mo (m+1) n1 f1 i4 i6=
 (bif decide (i6<(↑(SSet.qm (r.qj.getD i4.toNat set0)).length:Int))then(bif decide (0<=i6)&&decide (i6<(↑(SSet.qm (r.qj.getD i4.toNat set0)).length:Int))then
 (bif !nk ((SSet.qm (r.qj.getD i4.toNat set0)).getD i6.toNat e0)then leI 7 else Vl nk oki ix r g mo m n1 f1 i4 (wrap .i64 (i6+1)))else none)else(bif oki [.c (C.d
 (D.sl ((1:Nat)) n1 f1)), .c (.d (.v (.string (SSet.name (r.qj.getD i4.toNat set0)))))]then(bif decide (ix [.c (.d (.sl (1) n1 f1)), .c (.d (.v (Value.string
 (SSet.name (r.qj.getD i4.toNat set0)))))]>=0)then leI 8 else(bif decide ((n1+1)*16<=140737488355328)&&decide (n1+1<=9223372036854775807)then X1 nk oki ix r g mo (n1
 +1) (appF n1 f1 (Ae [dS (SSet.name (r.qj.getD i4.toNat set0))] (0+1))) (wrap .i64 (i4+1))else none))else none)):=by kernel_rfl
theorem AdA(nk:BA ->Bool)(oki:LB)(ix:LI)(r:SRel)(g m:Nat)(n1:Nat)(f1:RD)(i7:Int):Mk nk oki ix r g (m+1) n1 f1 i7=
 (bif decide (i7<(↑r.qk.length:Int))then(bif decide (0<=i7)&&decide (i7<(↑r.qk.length:Int))then(bif !nk (SPub.set (r.qk.getD i7.toNat pub0))then leI 7 else
 (bif oki [.c (.d (.sl (1) n1 f1)), .c (.d (.v (Value.string (SPub.set (r.qk.getD i7.toNat pub0)))))]then(bif decide (ix [.c (.d (.sl (1) n1 f1)), .c (.d (.v
 (.string (SPub.set (r.qk.getD i7.toNat pub0)))))]>=0)then leI 8 else(bif !Aa (SPub.fst (r.qk.getD i7.toNat pub0)) 1 100 then leI 2 else(bif !Aa (SPub.max (r.qk.getD
 i7.toNat pub0)) (SPub.fst (r.qk.getD i7.toNat pub0)) 1000 then leI 2 else(bif decide ((n1+1)*16<=140737488355328)&&decide (n1+1<=9223372036854775807)then Mk nk oki ix
 r g m (n1+1) (appF n1 f1 (Ae [dS (SPub.set (r.qk.getD i7.toNat pub0))] (0+1))) (wrap .i64 (i7+1))else none))))else none))else none)else Mj nk oki ix r g g 0
 (fun x=>[]) 0):=by kernel_rfl
theorem Adz(nk:BA ->Bool)(oki:LB)(ix:LI)(r:SRel)(g m:Nat)(n1:Nat)(f1:RD)(i9:Int):Mj nk oki ix r g (m+1) n1 f1 i9=
 (bif decide (i9<(↑r.ql.length:Int))then(bif decide (0<=i9)&&decide (i9<(↑r.ql.length:Int))then(bif !nk (SSub.loc (r.ql.getD i9.toNat sub0))then leI 7 else
 (bif !nk (SSub.dev (r.ql.getD i9.toNat sub0))then leI 7 else(bif !nk (SSub.set (r.ql.getD i9.toNat sub0))then leI 7 else(bif !nk (SSub.sig (r.ql.getD i9.toNat sub0))then
 leI 7 else(bif oki [.c (.d (.sl (1) n1 f1)), .c (.d (.v (.string (SSub.loc (r.ql.getD i9.toNat sub0)))))]then(bif decide (ix [.c (.d (.sl (1) n1 f1)), .c (.d (.v
 (.string (SSub.loc (r.ql.getD i9.toNat sub0)))))]>=0)then leI 8 else(bif decide ((n1+1)*16<=140737488355328)&&decide (n1+1<=9223372036854775807)then Mj nk oki ix r
 g m (n1+1) (appF n1 f1 (Ae [dS (SSub.loc (r.ql.getD i9.toNat sub0))] (0+1))) (wrap .i64 (i9+1))else none))else none)))))else none)else leI 0):=by kernel_rfl
end Go.Y.se
namespace Go.Y.st
open Go.RowKit Go.Eb
theorem bOr(a b:Bool):(bif a then lB false else lB b)=lB (!a&&b):=by cases a<;>rfl
theorem sBe:OrcS prog oBe:= .cons (.inl .nil func113 (by kernel_rfl)) .nil
theorem sOh:OrcS prog oOh:= .cons (.inl sBe func60 (by kernel_rfl)) sBe
theorem c49(x:SBay):CX prog 115 [aBay x] [] (vB (Dh x)) []:=by
 refine Am sOh.ok func115 b49 rfl ((ev49 x 1).trans ?_);unfold ev49_1 ev49_2 ev49_3 ev49_4 ev49_5 ev49_6;unfold Dh El Aa;cases h3:(x.kind==3)with
 |true=>
  cases h1:(x.kind==1)with
  |true=>simp at h1 h3;omega|false=>
   simp only[za,zb,fNot,bAnd,bOr,neN,Bool.and_true];refine congrArg lB ?_;rw[Bool.eq_iff_iff];simp only[zd,zi,beq_iff_eq,Bool.not_eq_true',bne_iff_ne,ne_eq,Bool.not_not,Bool.or_eq_true,Bool.and_eq_false_iff,decide_eq_false_iff_not,beq_eq_false_iff_ne,Bool.not_eq_false',Bool.not_and,Bool.not_or];omega
 |false=>
  cases h1:(x.kind==1)with
  |true=>
   simp only[za,zb,fNot,bAnd,bOr,neN,Bool.and_true];refine congrArg lB ?_;rw[Bool.eq_iff_iff];simp only[zd,zi,beq_iff_eq,Bool.not_eq_true',bne_iff_ne,ne_eq,Bool.not_not,Bool.or_eq_true,Bool.and_eq_false_iff,decide_eq_false_iff_not,beq_eq_false_iff_ne,Bool.not_eq_false',Bool.not_and,Bool.not_or];omega
  |false=>
   simp only[za,zb,fNot,bAnd,bOr,neN,Bool.and_true];refine congrArg lB ?_;rw[Bool.eq_iff_iff];simp only[zd,zi,beq_iff_eq,Bool.not_eq_true',bne_iff_ne,ne_eq,Bool.not_not,Bool.or_eq_true,Bool.and_eq_false_iff,decide_eq_false_iff_not,beq_eq_false_iff_ne,Bool.not_eq_false',Bool.not_and,Bool.not_or];omega
theorem bge(b:Int)(n:Nat):(decide (b<0)||decide (b>=(n:Int)))= !Aa b 0 ((n:Int) -1):=by
 unfold Aa;rw[Bool.eq_iff_iff];simp only[Bool.or_eq_true,zi,Bool.not_eq_true',Bool.and_eq_false_iff,decide_eq_false_iff_not];omega
theorem lp50(s:SSta)(x:SBay)(hl:x.qe.length<=9223372036854775807)(g:Nat): ∀(m k:Nat),k<=x.qe.length ->x.qe.length -k<m ->Vo s x g m k=lI (Fl s.qa.length x.kind (AbV x.qe k) (x.qe.drop k)) []
 |0,k,_,h=>by omega|m+1,k,hk,h=>by
  rw[AnV];by_cases hlt:k<x.qe.length
  ·have ih:=lp50 s x hl g m (k+1) (by omega) (by omega);rw[Av (d:=A4) hlt];simp only[lt1 hlt,ge0,tn,Bool.and_self,za,nx hlt,ih,Fl,fOr,bge];cases k with
   |zero=>
    simp only[AbV,List.getD_cons_zero];generalize Aa (x.qe.getD 0 A4).bus 0 ((s.qa.length:Int) -1)=b1;generalize ((x.qe.getD 0 A4).pos !=1)=b3;generalize ((x.qe.getD 0 A4).pos !=0)=b4;generalize (x.kind==3)=b5;cases b1<;>cases b3<;>cases b4<;>cases b5<;>rfl
   |succ k=>
    have e1:wrap IntKind.i64 (((k+1:Nat):Int) -1)=(k:Int):=by rw[wrap_id];omega
    have e2:decide (((k+1:Nat):Int)>0)=true:=by rw[gt0];simp
    have e3:decide ((k:Int)<(x.qe.length:Int))=true:=lt1 (by omega);have e4:(some (x.qe.getD k A4).bus==some (x.qe.getD (k+1) A4).bus)=((x.qe.getD (k+1) A4).bus==(x.qe.getD k A4).bus):=by
     show((x.qe.getD k A4).bus==(x.qe.getD (k+1) A4).bus)=_;exact Bool.beq_comm
    simp only[AbV,e1,e2,e3,e4,ge0,tn,Bool.and_self,za];generalize Aa (x.qe.getD (k+1) A4).bus 0 ((s.qa.length:Int) -1)=b1;generalize ((x.qe.getD (k+1) A4).pos !=1)=b3;generalize ((x.qe.getD (k+1) A4).pos !=0)=b4;generalize (x.kind==3)=b5;generalize ((x.qe.getD (k+1) A4).bus==(x.qe.getD k A4).bus)=b6;cases b1<;>cases b3<;>cases b4<;>cases b5<;>cases b6<;>rfl
  ·rw[lt0 hlt,zl];rfl
theorem c50(s:SSta)(x:SBay)(hl:x.qe.length<=9223372036854775807):CX prog 116 [aSta s,aBay x] [] (vI (Bx s.qa.length x)) []:=by
 obtain⟨g,hg⟩: ∃g,x.qe.length<g:=⟨x.qe.length+1,by omega⟩;refine Am (Orc.nil_ok _) func116 b50 rfl ((ev50 s x g).trans ?_);have e0:Vo s x g g 0=lI (Fl s.qa.length x.kind none x.qe) []:=lp50 s x hl g g 0 (by omega) (by omega);rw[e0,AeU,AeV,AeT];unfold Bx;generalize decide (x.qe.length<1)=b1;generalize decide (2<x.qe.length)=b2;generalize (x.kind==3)=b3;generalize (x.qe.length !=2)=b4;cases b1<;>cases b2<;>cases b3<;>cases b4<;>rfl
end Go.Y.st
namespace Go.Y.se
open Go.RowKit Go.Eb
def oB3:Orc:=Orc.cons 186 (ansP dec3 fun a=>vB (Aa a.1 a.2.1 a.2.2)) Orc.nil
def oNu(okr zo:LB):Orc:=Orc.cons 185 (ansG okr fun x=>vB (zo x)) (Orc.cons 187 (ansP decE fun a=>vB (elOk a.1 a.2.1 a.2.2.1 a.2.2.2)) oB3)
theorem AoR(a b c:Int):Ai prog Orc.nil na 5 f186 (Ac f186) [vI a,vI b,vI c] []=
 (bif decide (a>=b)then leB (decide (a<=c))else leB false):=by kernel_rfl
def AfB(a b c:Int):Bool:=
 (bif decide (a>=b)then((decide (a<=c)))else(false))
theorem evBt(a b c:Int):Ai prog Orc.nil na 5 f186 (Ac f186) [vI a,vI b,vI c] []=some (.leaf (vB (AfB a b c),[])):=by
 rw[AoR];unfold AfB;simp only[Jx]
theorem AoO(o:Bool)(a b c:Int):Ai prog oB3 na 5 f187 (Ac f187) [.agg [.d (dB o), .d (dI a), .d (dI b)],vI c] []=
 (bif !o then leB (o==false&&(a==0&&(b==0&&true)))else(bif Aa a 1 16383 then leB (Aa b c 500)else leB false)):=by kernel_rfl
def Afz(o:Bool)(a b c:Int):Bool:=
 (bif !o then((o==false&&(a==(0:Int)&&(b==(0:Int)&&true))))else(bif Aa a (1:Int) (16383:Int)then((Aa b c (500:Int)))else(false)))
theorem evEm(o:Bool)(a b c:Int):Ai prog oB3 na 5 f187 (Ac f187) [.agg [.d (dB o), .d (dI a), .d (dI b)],vI c] []=some (.leaf (vB (Afz o a b c),[])):=by
 rw[AoO];unfold Afz;simp only[Jx]
theorem AoT(r:SRel):Ai prog oB3 na 5 f119 (Ac f119) [aRel r] []=
 (bif !r.kind==1 then(bif !(r.zon0==false&&(r.zfw0==false&&(r.zx0==0&&(r.zr0==0&&(r.zl0==0&&(r.zd0==0&&true)))))&&(r.zon1==false&&(r.zfw1==false
 &&(r.zx1==0&&(r.zr1==0&&(r.zl1==0&&(r.zd1==0&&true)))))&&(r.zon2==false&&(r.zfw2==false&&(r.zx2==0&&(r.zr2==0&&(r.zl2==0&&(r.zd2==0&&
 true)))))&&true)))then leB true else(bif r.min !=0 then leB true else(bif r.kre !=0 then leB true else(bif r.kim !=0 then leB true else(bif r.qn !=0 then leB true
 else(bif r.wait !=0 then leB true else(bif r.guard !=0 then leB true else(bif r.qp !=0 then leB true else(bif r.dead !=0 then leB true else(bif r.qo !=0 then leB
 true else(bif !r.kind==2 then(bif !(r.uon==false&&(r.upk==0&&(r.udl==0&&true)))then leB true else(bif !(r.oon==false&&(r.opk==0&&(r.odl==0&&true)))
 then leB true else(bif r.kind==4 then(bif !(r.don==false&&(r.dpk==0&&(r.ddl==0&&true)))then leB true else(bif !(r.ion==false&&(r.ipk==0&&(r.idl==0&&
 true)))then leB true else(bif !(r.fon==false&&(r.fpk==0&&(r.fdl==0&&true)))then leB true else(bif !r.kind==4 then(bif r.diff !=0 then leB true else(bif r.num
 !=0 then leB true else(bif r.den !=0 then leB true else leB (r.harm !=0))))else leB false))))else(bif !r.kind==4 then(bif r.diff !=0 then leB true else(bif r.num !=0
 then leB true else(bif r.den !=0 then leB true else leB (r.harm !=0))))else leB false))))else(bif r.kind==4 then(bif !(r.don==false&&(r.dpk==0&&(r.ddl==0&&
 true)))then leB true else(bif !(r.ion==false&&(r.ipk==0&&(r.idl==0&&true)))then leB true else(bif !(r.fon==false&&(r.fpk==0&&(r.fdl==0&&true)))then leB
 true else(bif !r.kind==4 then(bif r.diff !=0 then leB true else(bif r.num !=0 then leB true else(bif r.den !=0 then leB true else leB (r.harm !=0))))else leB false))))
 else(bif !r.kind==4 then(bif r.diff !=0 then leB true else(bif r.num !=0 then leB true else(bif r.den !=0 then leB true else leB (r.harm !=0))))else leB
 false)))))))))))))else(bif !r.kind==2 then(bif !(r.uon==false&&(r.upk==0&&(r.udl==0&&true)))then leB true else(bif !(r.oon==false&&(r.opk==0&&(r.odl==0
 &&true)))then leB true else(bif r.kind==4 then(bif !(r.don==false&&(r.dpk==0&&(r.ddl==0&&true)))then leB true else(bif !(r.ion==false&&(r.ipk==0&&(r.idl
 ==0&&true)))then leB true else(bif !(r.fon==false&&(r.fpk==0&&(r.fdl==0&&true)))then leB true else(bif !r.kind==4 then(bif r.diff !=0 then leB true else(bif
 r.num !=0 then leB true else(bif r.den !=0 then leB true else leB (r.harm !=0))))else leB false))))else(bif !r.kind==4 then(bif r.diff !=0 then leB true else(bif r.num
 !=0 then leB true else(bif r.den !=0 then leB true else leB (r.harm !=0))))else leB false))))else(bif r.kind==4 then(bif !(r.don==false&&(r.dpk==0&&(r.ddl==0&&
 true)))then leB true else(bif !(r.ion==false&&(r.ipk==0&&(r.idl==0&&true)))then leB true else(bif !(r.fon==false&&(r.fpk==0&&(r.fdl==0&&true)))then leB
 true else(bif !r.kind==4 then(bif r.diff !=0 then leB true else(bif r.num !=0 then leB true else(bif r.den !=0 then leB true else leB (r.harm !=0))))else leB false))))
 else(bif !r.kind==4 then(bif r.diff !=0 then leB true else(bif r.num !=0 then leB true else(bif r.den !=0 then leB true else leB (r.harm !=0))))else leB false)))):=by kernel_rfl
def AaQ(r:SRel):Bool:=
 (bif !SRel.kind r==(1:Int)then(bif !(SRel.zon0 r==false&&(SRel.zfw0 r==false&&(SRel.zx0 r==(0:Int)&&(SRel.zr0 r==(0:Int)&&(SRel.zl0 r==(0:Int)&&
 (SRel.zd0 r==(0:Int)&&true)))))&&(SRel.zon1 r==false&&(SRel.zfw1 r==false&&(SRel.zx1 r==(0:Int)&&(SRel.zr1 r==(0:Int)&&(SRel.zl1 r==(0:Int)&&
 (SRel.zd1 r==(0:Int)&&true)))))&&(SRel.zon2 r==false&&(SRel.zfw2 r==false&&(SRel.zx2 r==(0:Int)&&(SRel.zr2 r==(0:Int)&&(SRel.zl2 r==(0:Int)&&
 (SRel.zd2 r==(0:Int)&&true)))))&&true)))then(true)else(bif SRel.min r !=(0:Int)then(true)else(bif SRel.kre r !=(0:Int)then(true)else(bif SRel.kim r !=(0:
 Int)then(true)else(bif SRel.qn r !=(0:Int)then(true)else(bif SRel.wait r !=(0:Int)then(true)else(bif SRel.guard r !=(0:Int)then(true)else(bif SRel.qp
 r !=(0:Int)then(true)else(bif SRel.dead r !=(0:Int)then(true)else(bif SRel.qo r !=(0:Int)then(true)else(bif !SRel.kind r==(2:Int)then(bif !(SRel.uon
 r==false&&(SRel.upk r==(0:Int)&&(SRel.udl r==(0:Int)&&true)))then(true)else(bif !(SRel.oon r==false&&(SRel.opk r==(0:Int)&&(SRel.odl r==(0:Int)&&
 true)))then(true)else(bif SRel.kind r==(4:Int)then(bif !(SRel.don r==false&&(SRel.dpk r==(0:Int)&&(SRel.ddl r==(0:Int)&&true)))then(true)else(bif
 !(SRel.ion r==false&&(SRel.ipk r==(0:Int)&&(SRel.idl r==(0:Int)&&true)))then(true)else(bif !(SRel.fon r==false&&(SRel.fpk r==(0:Int)&&(SRel.fdl r==(0
 :Int)&&true)))then(true)else(bif !SRel.kind r==(4:Int)then(bif SRel.diff r !=(0:Int)then(true)else(bif SRel.num r !=(0:Int)then(true)else(bif SRel.den r
 !=(0:Int)then(true)else((SRel.harm r !=(0:Int))))))else(false)))))else(bif !SRel.kind r==(4:Int)then(bif SRel.diff r !=(0:Int)then(true)else(bif SRel.num
 r !=(0:Int)then(true)else(bif SRel.den r !=(0:Int)then(true)else((SRel.harm r !=(0:Int))))))else(false)))))else(bif SRel.kind r==(4:Int)then(bif
 !(SRel.don r==false&&(SRel.dpk r==(0:Int)&&(SRel.ddl r==(0:Int)&&true)))then(true)else(bif !(SRel.ion r==false&&(SRel.ipk r==(0:Int)&&(SRel.idl r==(0
 :Int)&&true)))then(true)else(bif !(SRel.fon r==false&&(SRel.fpk r==(0:Int)&&(SRel.fdl r==(0:Int)&&true)))then(true)else(bif !SRel.kind r==(4:Int)then
 (bif SRel.diff r !=(0:Int)then(true)else(bif SRel.num r !=(0:Int)then(true)else(bif SRel.den r !=(0:Int)then(true)else((SRel.harm r !=(0:Int))))))else
 (false)))))else(bif !SRel.kind r==(4:Int)then(bif SRel.diff r !=(0:Int)then(true)else(bif SRel.num r !=(0:Int)then(true)else(bif SRel.den r !=(0:Int)then
 (true)else((SRel.harm r !=(0:Int))))))else(false))))))))))))))else(bif !SRel.kind r==(2:Int)then(bif !(SRel.uon r==false&&(SRel.upk r==(0:Int)&&(SRel.udl r
 ==(0:Int)&&true)))then(true)else(bif !(SRel.oon r==false&&(SRel.opk r==(0:Int)&&(SRel.odl r==(0:Int)&&true)))then(true)else(bif SRel.kind r==(4:Int)
 then(bif !(SRel.don r==false&&(SRel.dpk r==(0:Int)&&(SRel.ddl r==(0:Int)&&true)))then(true)else(bif !(SRel.ion r==false&&(SRel.ipk r==(0:Int)&&
 (SRel.idl r==(0:Int)&&true)))then(true)else(bif !(SRel.fon r==false&&(SRel.fpk r==(0:Int)&&(SRel.fdl r==(0:Int)&&true)))then(true)else(bif !SRel.kind r
 ==(4:Int)then(bif SRel.diff r !=(0:Int)then(true)else(bif SRel.num r !=(0:Int)then(true)else(bif SRel.den r !=(0:Int)then(true)else((SRel.harm r !=(0:
 Int))))))else(false)))))else(bif !SRel.kind r==(4:Int)then(bif SRel.diff r !=(0:Int)then(true)else(bif SRel.num r !=(0:Int)then(true)else(bif SRel.den r !=
 (0:Int)then(true)else((SRel.harm r !=(0:Int))))))else(false)))))else(bif SRel.kind r==(4:Int)then(bif !(SRel.don r==false&&(SRel.dpk r==(0:Int)&&
 (SRel.ddl r==(0:Int)&&true)))then(true)else(bif !(SRel.ion r==false&&(SRel.ipk r==(0:Int)&&(SRel.idl r==(0:Int)&&true)))then(true)else(bif !(SRel.fon r
 ==false&&(SRel.fpk r==(0:Int)&&(SRel.fdl r==(0:Int)&&true)))then(true)else(bif !SRel.kind r==(4:Int)then(bif SRel.diff r !=(0:Int)then(true)else(bif
 SRel.num r !=(0:Int)then(true)else(bif SRel.den r !=(0:Int)then(true)else((SRel.harm r !=(0:Int))))))else(false)))))else(bif !SRel.kind r==(4:Int)then(bif
 SRel.diff r !=(0:Int)then(true)else(bif SRel.num r !=(0:Int)then(true)else(bif SRel.den r !=(0:Int)then(true)else((SRel.harm r !=(0:Int))))))else
 (false)))))
theorem ev88(r:SRel):Ai prog oB3 na 5 f119 (Ac f119) [aRel r] []=some (.leaf (vB (AaQ r),[])):=by
 rw[AoT];unfold AaQ;simp only[Jx]
theorem AmI(r:SRel):Ai prog oB3 na 5 f185 (Ac f185) [aRel r] []=
 (bif !r.zon0 then(bif !(r.zon0==false&&(r.zfw0==false&&(r.zx0==0&&(r.zr0==0&&(r.zl0==0&&(r.zd0==0&&true))))))then leB false else(bif !r.zon1 then(bif
 !(r.zon1==false&&(r.zfw1==false&&(r.zx1==0&&(r.zr1==0&&(r.zl1==0&&(r.zd1==0&&true))))))then leB false else(bif !r.zon2 then(bif !(r.zon2==false&&
 (r.zfw2==false&&(r.zx2==0&&(r.zr2==0&&(r.zl2==0&&(r.zd2==0&&true))))))then leB false else(bif r.min==0 then(bif r.kre==0 then leB (r.kim==0)else leB
 false)else leB false))else(bif !Aa r.zx2 1 4000 then leB false else(bif !Aa r.zr2 0 4000 then leB false else(bif !Aa r.zl2 0 4000 then leB false else(bif !Aa r.zd2 0 500 then
 leB false else(bif Aa r.min 1 16383 then(bif Aa r.kre (-200) 200 then leB (Aa r.kim (-200) 200)else leB false)else leB false)))))))else(bif !Aa r.zx1 1 4000 then leB false
 else(bif !Aa r.zr1 0 4000 then leB false else(bif !Aa r.zl1 0 4000 then leB false else(bif !Aa r.zd1 0 500 then leB false else(bif !r.zon2 then(bif !(r.zon2==false&&
 (r.zfw2==false&&(r.zx2==0&&(r.zr2==0&&(r.zl2==0&&(r.zd2==0&&true))))))then leB false else(bif Aa r.min 1 16383 then(bif Aa r.kre (-200) 200 then leB (Aa
 r.kim (-200) 200)else leB false)else leB false))else(bif !Aa r.zx2 1 4000 then leB false else(bif !Aa r.zr2 0 4000 then leB false else(bif !Aa r.zl2 0 4000 then leB false
 else(bif !Aa r.zd2 0 500 then leB false else(bif Aa r.min 1 16383 then(bif Aa r.kre (-200) 200 then leB (Aa r.kim (-200) 200)else leB false)else leB false))))))))))))else
 (bif !Aa r.zx0 1 4000 then leB false else(bif !Aa r.zr0 0 4000 then leB false else(bif !Aa r.zl0 0 4000 then leB false else(bif !Aa r.zd0 0 500 then leB false else(bif !r.zon1
 then(bif !(r.zon1==false&&(r.zfw1==false&&(r.zx1==0&&(r.zr1==0&&(r.zl1==0&&(r.zd1==0&&true))))))then leB false else(bif !r.zon2 then(bif !(r.zon2==
 false&&(r.zfw2==false&&(r.zx2==0&&(r.zr2==0&&(r.zl2==0&&(r.zd2==0&&true))))))then leB false else(bif Aa r.min 1 16383 then(bif Aa r.kre (-200) 200 then leB
 (Aa r.kim (-200) 200)else leB false)else leB false))else(bif !Aa r.zx2 1 4000 then leB false else(bif !Aa r.zr2 0 4000 then leB false else(bif !Aa r.zl2 0 4000 then leB false
 else(bif !Aa r.zd2 0 500 then leB false else(bif Aa r.min 1 16383 then(bif Aa r.kre (-200) 200 then leB (Aa r.kim (-200) 200)else leB false)else leB false)))))))else(bif !Aa
 r.zx1 1 4000 then leB false else(bif !Aa r.zr1 0 4000 then leB false else(bif !Aa r.zl1 0 4000 then leB false else(bif !Aa r.zd1 0 500 then leB false else(bif !r.zon2 then(bif
 !(r.zon2==false&&(r.zfw2==false&&(r.zx2==0&&(r.zr2==0&&(r.zl2==0&&(r.zd2==0&&true))))))then leB false else(bif Aa r.min 1 16383 then(bif Aa r.kre (-200)
 200 then leB (Aa r.kim (-200) 200)else leB false)else leB false))else(bif !Aa r.zx2 1 4000 then leB false else(bif !Aa r.zr2 0 4000 then leB false else(bif !Aa r.zl2 0 4000
 then leB false else(bif !Aa r.zd2 0 500 then leB false else(bif Aa r.min 1 16383 then(bif Aa r.kre (-200) 200 then leB (Aa r.kim (-200) 200)else leB false)else leB
 false)))))))))))))))):=by kernel_rfl
def Y5(r:SRel):Bool:=
 (bif !SRel.zon0 r then(bif !(SRel.zon0 r==false&&(SRel.zfw0 r==false&&(SRel.zx0 r==(0:Int)&&(SRel.zr0 r==(0:Int)&&(SRel.zl0 r==(0:Int)&&(SRel.zd0 r==(0
 :Int)&&true))))))then(false)else(bif !SRel.zon1 r then(bif !(SRel.zon1 r==false&&(SRel.zfw1 r==false&&(SRel.zx1 r==(0:Int)&&(SRel.zr1 r==(0:Int)&&
 (SRel.zl1 r==(0:Int)&&(SRel.zd1 r==(0:Int)&&true))))))then(false)else(bif !SRel.zon2 r then(bif !(SRel.zon2 r==false&&(SRel.zfw2 r==false&&(SRel.zx2 r==(0
 :Int)&&(SRel.zr2 r==(0:Int)&&(SRel.zl2 r==(0:Int)&&(SRel.zd2 r==(0:Int)&&true))))))then(false)else(bif SRel.min r==(0:Int)then(bif SRel.kre r==(0:
 Int)then((SRel.kim r==(0:Int)))else(false))else(false)))else(bif !Aa (SRel.zx2 r) (1:Int) (4000:Int)then(false)else(bif !Aa (SRel.zr2 r) (0:Int) (4000
 :Int)then(false)else(bif !Aa (SRel.zl2 r) (0:Int) (4000:Int)then(false)else(bif !Aa (SRel.zd2 r) (0:Int) (500:Int)then(false)else(bif Aa (SRel.min
 r) (1:Int) (16383:Int)then(bif Aa (SRel.kre r) (-200:Int) (200:Int)then((Aa (SRel.kim r) (-200:Int) (200:Int)))else(false))else(false))))))))else(bif
 !Aa (SRel.zx1 r) (1:Int) (4000:Int)then(false)else(bif !Aa (SRel.zr1 r) (0:Int) (4000:Int)then(false)else(bif !Aa (SRel.zl1 r) (0:Int) (4000:Int)
 then(false)else(bif !Aa (SRel.zd1 r) (0:Int) (500:Int)then(false)else(bif !SRel.zon2 r then(bif !(SRel.zon2 r==false&&(SRel.zfw2 r==false&&(SRel.zx2 r==(0
 :Int)&&(SRel.zr2 r==(0:Int)&&(SRel.zl2 r==(0:Int)&&(SRel.zd2 r==(0:Int)&&true))))))then(false)else(bif Aa (SRel.min r) (1:Int) (16383:Int)then(bif
 Aa (SRel.kre r) (-200:Int) (200:Int)then((Aa (SRel.kim r) (-200:Int) (200:Int)))else(false))else(false)))else(bif !Aa (SRel.zx2 r) (1:Int) (4000:Int)
 then(false)else(bif !Aa (SRel.zr2 r) (0:Int) (4000:Int)then(false)else(bif !Aa (SRel.zl2 r) (0:Int) (4000:Int)then(false)else(bif !Aa (SRel.zd2 r) (0
 :Int) (500:Int)then(false)else(bif Aa (SRel.min r) (1:Int) (16383:Int)then(bif Aa (SRel.kre r) (-200:Int) (200:Int)then((Aa (SRel.kim r) (-200:Int)
 (200:Int)))else(false))else(false)))))))))))))else(bif !Aa (SRel.zx0 r) (1:Int) (4000:Int)then(false)else(bif !Aa (SRel.zr0 r) (0:Int) (4000:Int)then
 (false)else(bif !Aa (SRel.zl0 r) (0:Int) (4000:Int)then(false)else(bif !Aa (SRel.zd0 r) (0:Int) (500:Int)then(false)else(bif !SRel.zon1 r then(bif
 !(SRel.zon1 r==false&&(SRel.zfw1 r==false&&(SRel.zx1 r==(0:Int)&&(SRel.zr1 r==(0:Int)&&(SRel.zl1 r==(0:Int)&&(SRel.zd1 r==(0:Int)&&true))))))then
 (false)else(bif !SRel.zon2 r then(bif !(SRel.zon2 r==false&&(SRel.zfw2 r==false&&(SRel.zx2 r==(0:Int)&&(SRel.zr2 r==(0:Int)&&(SRel.zl2 r==(0:Int)&&
 (SRel.zd2 r==(0:Int)&&true))))))then(false)else(bif Aa (SRel.min r) (1:Int) (16383:Int)then(bif Aa (SRel.kre r) (-200:Int) (200:Int)then((Aa
 (SRel.kim r) (-200:Int) (200:Int)))else(false))else(false)))else(bif !Aa (SRel.zx2 r) (1:Int) (4000:Int)then(false)else(bif !Aa (SRel.zr2 r) (0:Int)
 (4000:Int)then(false)else(bif !Aa (SRel.zl2 r) (0:Int) (4000:Int)then(false)else(bif !Aa (SRel.zd2 r) (0:Int) (500:Int)then(false)else(bif Aa
 (SRel.min r) (1:Int) (16383:Int)then(bif Aa (SRel.kre r) (-200:Int) (200:Int)then((Aa (SRel.kim r) (-200:Int) (200:Int)))else(false))else(false))))))))
 else(bif !Aa (SRel.zx1 r) (1:Int) (4000:Int)then(false)else(bif !Aa (SRel.zr1 r) (0:Int) (4000:Int)then(false)else(bif !Aa (SRel.zl1 r) (0:Int) (4000
 :Int)then(false)else(bif !Aa (SRel.zd1 r) (0:Int) (500:Int)then(false)else(bif !SRel.zon2 r then(bif !(SRel.zon2 r==false&&(SRel.zfw2 r==false&&(SRel.zx2 r
 ==(0:Int)&&(SRel.zr2 r==(0:Int)&&(SRel.zl2 r==(0:Int)&&(SRel.zd2 r==(0:Int)&&true))))))then(false)else(bif Aa (SRel.min r) (1:Int) (16383:Int)
 then(bif Aa (SRel.kre r) (-200:Int) (200:Int)then((Aa (SRel.kim r) (-200:Int) (200:Int)))else(false))else(false)))else(bif !Aa (SRel.zx2 r) (1:Int)
 (4000:Int)then(false)else(bif !Aa (SRel.zr2 r) (0:Int) (4000:Int)then(false)else(bif !Aa (SRel.zl2 r) (0:Int) (4000:Int)then(false)else(bif !Aa
 (SRel.zd2 r) (0:Int) (500:Int)then(false)else(bif Aa (SRel.min r) (1:Int) (16383:Int)then(bif Aa (SRel.kre r) (-200:Int) (200:Int)then((Aa (SRel.kim
 r) (-200:Int) (200:Int)))else(false))else(false)))))))))))))))))
theorem Aro(r:SRel):Ai prog oB3 na 5 f185 (Ac f185) [aRel r] []=some (.leaf (vB (Y5 r),[])):=by
 rw[AmI];unfold Y5;simp only[Jx]
theorem AoS(r:SRel):Ai prog oB3 na 5 f121 (Ac f121) [aRel r] []=
 (bif r.zon0 then(bif r.zon1 then(bif r.qn==1 then(bif !r.zfw0 then leB true else leB !r.zfw1)else(bif r.qn==2 then leB !r.zfw1 else(bif r.qn==3 then(bif
 !r.zfw1 then leB true else(bif !r.zon2 then leB true else leB r.zfw2))else leB false)))else(bif r.qn==1 then(bif !r.zfw0 then leB true else leB true)else(bif r.qn
 ==2 then leB true else(bif r.qn==3 then leB true else leB false))))else(bif r.zon1 then(bif r.qn==1 then leB true else(bif r.qn==2 then leB !r.zfw1 else
 (bif r.qn==3 then(bif !r.zfw1 then leB true else(bif !r.zon2 then leB true else leB r.zfw2))else leB false)))else(bif r.qn==1 then leB true else(bif r.qn==2
 then leB true else(bif r.qn==3 then leB true else leB false))))):=by kernel_rfl
def AaP(r:SRel):Bool:=
 (bif SRel.zon0 r then(bif SRel.zon1 r then(bif SRel.qn r==(1:Int)then(bif !SRel.zfw0 r then(true)else(!SRel.zfw1 r))else(bif SRel.qn r==(2:Int)then
 (!SRel.zfw1 r)else(bif SRel.qn r==(3:Int)then(bif !SRel.zfw1 r then(true)else(bif !SRel.zon2 r then(true)else((SRel.zfw2 r))))else(false))))else(bif
 SRel.qn r==(1:Int)then(bif !SRel.zfw0 r then(true)else(true))else(bif SRel.qn r==(2:Int)then(true)else(bif SRel.qn r==(3:Int)then(true)else
 (false)))))else(bif SRel.zon1 r then(bif SRel.qn r==(1:Int)then(true)else(bif SRel.qn r==(2:Int)then(!SRel.zfw1 r)else(bif SRel.qn r==(3:Int)then
 (bif !SRel.zfw1 r then(true)else(bif !SRel.zon2 r then(true)else((SRel.zfw2 r))))else(false))))else(bif SRel.qn r==(1:Int)then(true)else(bif SRel.qn r==
 (2:Int)then(true)else(bif SRel.qn r==(3:Int)then(true)else(false))))))
theorem ev90(r:SRel):Ai prog oB3 na 5 f121 (Ac f121) [aRel r] []=some (.leaf (vB (AaP r),[])):=by
 rw[AoS];unfold AaP;simp only[Jx]
def Xm:Ann:=A1 [(100003,⟨[1],[]⟩),(100005,⟨[1],[]⟩),(100007,⟨[1],[]⟩),(100009,⟨[1],[]⟩),(100011,⟨[1],[]⟩),(100013,⟨[1],[]⟩)]
def Ajm(okr zo:LB)(r:SRel)(g m:Nat)  :=GK prog (oNu okr zo) Xm 0 g f120 3 m ⟨frm [(1, .c (.ptr 0 0))] 0 f120.ntmps,[(0, .cells (List.map C.d (relC r)) 64)],1⟩
def AcG(okr zo:LB)(r:SRel)(g m:Nat)  :=GK prog (oNu okr zo) Xm 0 g f120 5 m ⟨frm [(1, .c (.ptr 0 0))] 0 f120.ntmps,[(0, .cells (List.map C.d (relC r)) 64)],1⟩
def AnF(okr zo:LB)(r:SRel)(g m:Nat)  :=GK prog (oNu okr zo) Xm 0 g f120 7 m ⟨frm [(1, .c (.ptr 0 0))] 0 f120.ntmps,[(0, .cells (List.map C.d (relC r)) 64)],1⟩
def AcF(okr zo:LB)(r:SRel)(g m:Nat)  :=GK prog (oNu okr zo) Xm 0 g f120 9 m ⟨frm [(1, .c (.ptr 0 0))] 0 f120.ntmps,[(0, .cells (List.map C.d (relC r)) 64)],1⟩
def Tp(okr zo:LB)(r:SRel)(g m:Nat)  :=GK prog (oNu okr zo) Xm 0 g f120 11 m ⟨frm [(1, .c (.ptr 0 0))] 0 f120.ntmps,[(0, .cells (List.map C.d (relC r)) 64)],1⟩
def AbE(okr zo:LB)(r:SRel)(g m:Nat)  :=GK prog (oNu okr zo) Xm 0 g f120 13 m ⟨frm [(1, .c (.ptr 0 0))] 0 f120.ntmps,[(0, .cells (List.map C.d (relC r)) 64)],1⟩
theorem b89:f120.body=some (Ac f120):=by kernel_rfl
theorem ev89(okr zo:LB)(r:SRel)(g:Nat):Ai prog (oNu okr zo) Xm g f120 (Ac f120) [aRel r] []=
 (bif okr [gA (relC r)]then(bif !zo [gA (relC r)]then leB false else(bif !Aa r.qn 0 3 then leB false else(bif !Aa r.guard 0 50 then
 leB false else(bif r.qn==0 then(bif r.guard !=0 then leB false else Ajm okr zo r g g)else Ajm okr zo r g g))))else none):=by kernel_rfl
theorem AnT(okr zo:LB)(r:SRel)(g m:Nat):Ajm okr zo r g (m+1)=
 (bif r.qn==3 then(bif !Aa r.wait 1 50 then leB false else(bif r.qn !=3 then(bif r.wait !=0 then leB false else AcG okr zo r g g)else AcG okr zo r g g))else(bif
 r.qn !=3 then(bif r.wait !=0 then leB false else AcG okr zo r g g)else AcG okr zo r g g)):=by kernel_rfl
theorem AnS(okr zo:LB)(r:SRel)(g m:Nat):AcG okr zo r g (m+1)=
 (bif !elOk r.don r.dpk r.ddl 0 then leB false else(bif !elOk r.uon r.upk r.udl 0 then leB false else(bif !elOk r.oon r.opk r.odl 0 then leB false else(bif !elOk r.fon r.fpk
 r.fdl 1 then leB false else AnF okr zo r g g)))):=by kernel_rfl
theorem AnR(okr zo:LB)(r:SRel)(g m:Nat):AnF okr zo r g (m+1)=
 (bif r.ion then(bif !Aa r.ipk 1 16383 then leB false else(bif !Aa r.idl 1 1000 then leB false else(bif !r.ion then(bif !(r.ion==false&&(r.ipk==0&&(r.idl==0&&true)))
 then leB false else AcF okr zo r g g)else AcF okr zo r g g)))else(bif !r.ion then(bif !(r.ion==false&&(r.ipk==0&&(r.idl==0&&true)))then leB false else AcF okr zo r
 g g)else AcF okr zo r g g)):=by kernel_rfl
theorem AnQ(okr zo:LB)(r:SRel)(g m:Nat):AcF okr zo r g (m+1)=
 (bif !Aa r.qp 0 3 then leB false else(bif r.qp==0 then(bif r.dead !=0 then leB false else(bif r.qo !=0 then leB false else(bif decide (r.qp>0)then(bif !Aa
 r.dead 1 100 then leB false else(bif !Aa r.qo 1 1000 then leB false else Tp okr zo r g g))else Tp okr zo r g g)))else(bif decide (r.qp>0)then(bif !Aa r.dead 1 100
 then leB false else(bif !Aa r.qo 1 1000 then leB false else Tp okr zo r g g))else Tp okr zo r g g))):=by kernel_rfl
theorem AlC(okr zo:LB)(r:SRel)(g m:Nat):Tp okr zo r g (m+1)=
 (bif !Aa r.diff 0 16383 then leB false else(bif r.diff==0 then(bif r.num !=0 then leB false else(bif r.den !=0 then leB false else(bif r.harm !=0 then leB false else AbE
 okr zo r g g)))else AbE okr zo r g g)):=by kernel_rfl
theorem AlB(okr zo:LB)(r:SRel)(g m:Nat):AbE okr zo r g (m+1)=
 (bif r.diff==0 then leB true else(bif Aa r.den 1 100 then(bif Aa r.num 0 r.den then leB (Aa r.harm 0 100)else leB false)else leB false)):=by kernel_rfl
end Go.Y.se
namespace Go.Y.se
open Go.RowKit Go.Eb Go.Y.st
theorem bIx:f52.body=some (Ac f52):=by kernel_rfl
theorem sIx{r:Orc}(h:OrcS prog r):OrcS prog (oIx (okG eIx cIx) (fun x=>idxF (theT eIx x).2 0 (theT eIx x).1) r):=
 .cons (.lt (r:=fun(a:List BA×BA)=>vI (idxF a.2 0 a.1)) func52 bIx (fun _=>rfl) fun a h=>c46 a.1 a.2 (Bi h)) h
theorem ArG(a b:Bool):(bif a then(bif a then true else false)else b)=bif a then true else b:=by cases a<;>rfl
theorem AnZ(s:BA):Uu s=C9 s:=by
 have h: ∀a:BA,(a.toList==s.toList)=(s.toList==a.toList):=fun a=>Bool.beq_comm ..
 unfold Uu C9;simp only[h,ArG]
theorem c133(s:BA):CX prog 188 [vS s] [] (vB (C9 s)) []:=by
 have hs:OrcS prog (Orc.cons 52 (inl prog Orc.nil na 20 f52) Orc.nil):= .cons (.inl .nil func52 bIx) .nil;have:=Am hs.ok func188 (by kernel_rfl) rfl (Arn s);rw[AnZ]at this;exact this
theorem c91(r:SRel)(hr:Ci r=true):CX prog 122 [aRel r] [] (vB (!Br r)) []:=by
 obtain⟨h1,h2,h3,h4,h5⟩:=Jd hr;obtain⟨g,hg⟩: ∃g,r.qj.length<g:=⟨r.qj.length+1,by omega⟩;refine Am (Orc.nil_ok _) func122 b91 rfl ((ev91 r g).trans ?_);have l1:=Gt (p:=H6) (l:=r.qj) (d0:=set0) (L:=fun m i=>AgO r g m i) (A:=lB true) (B:=lB false) (fun m k hk=>by
  rw[Ajx,lt1 hk,ge0,tn,nx hk h2];unfold H6;have e1:decide (((r.qj.getD k set0).qm.length:Int)<1)= !decide (1<=(r.qj.getD k set0).qm.length):=by
   rw[Bool.eq_iff_iff,zi,Bool.not_eq_true',decide_eq_false_iff_not];omega
  have e2:decide (((r.qj.getD k set0).qm.length:Int)>24)= !decide ((r.qj.getD k set0).qm.length<=24):=by
   rw[Bool.eq_iff_iff,zi,Bool.not_eq_true',decide_eq_false_iff_not];omega
  rw[e1,e2];cases decide (1<=(r.qj.getD k set0).qm.length)<;>cases decide ((r.qj.getD k set0).qm.length<=24)<;>rfl) (fun m=>by rw[Ajx,lt0 (zp _)];rfl) g 0 (by omega) (by omega)
 have e1:AgO r g g 0=_:=l1;have g1: ∀n k:Nat,decide ((n:Int)>(k:Int))= !decide (n<=k):=fun n k=>by
  rw[Bool.eq_iff_iff,zi,Bool.not_eq_true',decide_eq_false_iff_not];omega
 have g16:=g1 r.qi.length 16;have g4:=g1 r.qj.length 4;have g4':=g1 r.qk.length 4;have g24:=g1 r.ql.length 24;have f16:decide ((r.qi.length:Int)>16)= !decide (r.qi.length<=16):=g16;have f4:decide ((r.qj.length:Int)>4)= !decide (r.qj.length<=4):=g4;have f4':decide ((r.qk.length:Int)>4)= !decide (r.qk.length<=4):=g4';have f24:decide ((r.ql.length:Int)>24)= !decide (r.ql.length<=24):=g24;rw[e1,f16,f4,f4',f24];simp only[zq];unfold Br;cases decide (r.qi.length<=16)<;>cases decide (r.qj.length<=4)<;>cases decide (r.qk.length<=4)<;>cases decide (r.ql.length<=24)<;>cases r.qj.any H6<;>rfl
theorem lp87(s:SSta)(b:List SRel)(r:SRel)(g:Nat)(hb:b.length<=9223372036854775807)(hg:b.length<g):Ml s b r g g 0=lN (AbS (b.map SRel.bay) r.bay):=by
 have l1:=Gt (p:=fun x:SRel=>x.bay==r.bay) (l:=b) (d0:=rel0) (L:=fun m i=>Ml s b r g m i) (A:=lN 12) (B:=lN 0) (fun m k hk=>by
  rw[AdB,lt1 hk,ge0,tn,nx hk hb];rfl) (fun m=>by rw[AdB,lt0 (zp _)];rfl) g 0 (by omega) (by omega)
 have e1:Ml s b r g g 0=_:=l1;rw[e1];simp only[zq];unfold AbS;rw[List.any_map];have e2:(b.any fun x=>x.bay==r.bay)=b.any ((fun m=>r.bay==m)∘SRel.bay):=by
  congr 1;funext x;exact Bool.beq_comm ..
 rw[e2];cases b.any ((fun m=>r.bay==m)∘SRel.bay)<;>rfl
theorem c87(s:SSta)(b:List SRel)(r:SRel)(hs:s.qd.length<=9223372036854775807)(hb:Au b=true):CX prog 118 [aSta s, .c (.d (Di b)),aRel r] [] (vI (Bh s.qd (b.map SRel.bay) r)) []:=by
 obtain⟨g,hg⟩: ∃g,b.length<g:=⟨b.length+1,by omega⟩;refine Am (Orc.nil_ok _) func118 b87 rfl ((ev87 s b r g).trans ?_);rw[lp87 s b r g (Bi hb) hg];have w:Aa r.bay 0 ((s.qd.length:Int) -1)=(!decide (r.bay<0)&& !decide (r.bay>=(s.qd.length:Int))):=by
  unfold Aa;by_cases h1:r.bay<0
  ·rw[zk h1,zt];rfl
  ·by_cases h2:r.bay>=(s.qd.length:Int)
   ·rw[zt h1,zk h2,zt (show ¬r.bay<=(s.qd.length:Int) -1 by omega)];simp
   ·rw[zt h1,zt h2,zk (show r.bay<=(s.qd.length:Int) -1 by omega),zk (show r.bay>=0 by omega)];rfl
 have i:r.bay<(0:Int)\/r.bay>=(s.qd.length:Int)\/(decide ((0:Int)<=r.bay)&&decide (r.bay<(s.qd.length:Int)))=true:=by
  by_cases h1:r.bay<0
  ·exact .inl h1
  ·by_cases h2:r.bay>=(s.qd.length:Int)
   ·exact .inr (.inl h2)
   ·refine .inr (.inr ?_);rw[zk,zk];rfl
 unfold Bh Q3;rw[w];generalize AbS (b.map SRel.bay) r.bay=sb;generalize (s.qd.getD r.bay.toNat bay0).kind=kd;rcases i with h|h|h
 ·rw[zk h];cases(r.kind==1)<;>cases(r.kind==2)<;>cases(r.kind==3)<;>cases(r.kind==4)<;>cases(r.bay != -1)<;>rfl
 ·rw[zk h];cases decide (r.bay<0)<;>cases(r.kind==1)<;>cases(r.kind==2)<;>cases(r.kind==3)<;>cases(r.kind==4)<;>cases(r.bay != -1)<;>rfl
 ·rw[h];cases decide (r.bay<0)<;>cases decide (r.bay>=(s.qd.length:Int))<;>cases(r.kind==1)<;>cases(r.kind==2)<;>cases(r.kind==3)<;>cases(r.kind==4)<;>cases(r.bay != -1)<;>cases(kd !=1)<;>cases(kd !=2)<;>cases(kd !=3)<;>rfl
abbrev ix2:LI:=fun x=>idxF (theT eIx x).2 0 (theT eIx x).1
abbrev ok2:LB:=okG eIx cIx
theorem Aii{n:Nat}{f:RD}{l:List BA}(hr:RL busC e0 n f l)(hn:n<=9000)(s:BA):ok2 [.c (.d (.sl 1 n f)),vS s]=true/\decide (ix2 [.c (.d (.sl 1 n f)),vS s]>=0)=inB l s:=by
 obtain⟨h1,h2⟩:=AoF hr hn s;refine⟨h1, ?_⟩;unfold ix2;rw[h2,Up]
theorem s92:OrcS prog (o92 Ag C9 ok2 ix2):=sIx (.cons (.p D9 c16) (.cons (.p D9 c133) .nil))
theorem Aov(r:SRel)(g mo n:Nat)(f:RD)(k:Nat)(hs:(r.qi.getD k Be).text.size<=120)(hk:k<r.qi.length)(hl:r.qi.length<=9000)(hn:n<=9000): ∀(m j:Nat),j<=(r.qi.getD k Be).text.size ->(r.qi.getD k Be).text.size -j<m ->
  X2 Ag C9 ok2 ix2 r g mo m n f k j=bif((r.qi.getD k Be).text.data.toList.drop j).any Gb then lN 5 else Zt Ag C9 ok2 ix2 r g mo (n+1) (appF n f (Ae (busC (r.qi.getD k Be).name) 1)) ((k+1:Nat):Int)
 |0,j,_,h=>by omega|m+1,j,hj,h=>by
  rw[AlA,tn];have ih:=Aov r g mo n f k hs hk hl hn m (j+1);generalize hx:r.qi.getD k Be=x at ih hs hj h⊢;by_cases hlt:j<x.text.size
  ·have hlt':j<x.text.data.toList.length:=by simpa using hlt
   rw[Av (d:=0) hlt',lt1 hlt,ge0,tn,nx hlt,ih (by omega) (by omega)];simp only[tt,za,List.any_cons,Gb];generalize decide (((x.text.data.toList.getD j 0).toNat:Int)<32)=a1;generalize decide (((x.text.data.toList.getD j 0).toNat:Int)>126)=a2;generalize (((x.text.data.toList.getD j 0).toNat:Int)==34)=a3;cases a1<;>cases a2<;>cases a3<;>rfl
  ·rw[lt0 hlt,zl (by simp;omega),J0 hn,nx hk];rfl
theorem c92(r:SRel)(h1:r.qi.length<=9000):CX prog 123 [aRel r] [] (vI (Ew r.qi)) []:=by
 obtain⟨g,g1,g2⟩: ∃g,r.qi.length<g/\120<g:=⟨r.qi.length+121,by omega,by omega⟩;refine Am s92.ok func123 b92 rfl ((ev92 _ _ _ _ r g).trans ?_);have key:=Gg (valid:=H8) (key:=SRule.name) (rest:=fun x=>D2 x.text) (l:=r.qi) (d0:=Be) (L:=fun m n f i=>Zt Ag C9 ok2 ix2 r g m n f i) (NX:=lN 0) h1 (fun m k n f seen hk hr hn=>by
  obtain⟨q1,q2⟩:=Aii hr hn (r.qi.getD k Be).name;show Zt Ag C9 ok2 ix2 r g (m+1) n f k=_;rw[Ajw,lt1 hk,ge0,tn];have q1':ok2 [AV.c (C.d (D.sl 1 n f)),AV.c (C.d (D.v (Value.string (r.qi.getD k Be).name)))]=true:=q1;have q2':decide (ix2 [AV.c (C.d (D.sl 1 n f)),AV.c (C.d (D.v (Value.string (r.qi.getD k Be).name)))]>=0)=inB seen (r.qi.getD k Be).name:=q2;rw[q1',q2'];have hi:=fun hs=>Aov r g m n f k hs hk h1 hn g 0 (by omega) (by omega)
  unfold H8 D2;simp only[tt,za];have e120:decide (((r.qi.getD k Be).text.size:Int)>120)=decide (120<(r.qi.getD k Be).text.size):=by
   rw[Bool.eq_iff_iff,zi,zi];omega
  rw[e120];cases Ag (r.qi.getD k Be).name with
  |false=>rfl|true=>
   cases C9 (r.qi.getD k Be).name with
   |true=>rfl|false=>
    cases inB seen (r.qi.getD k Be).name with
    |true=>rfl|false=>
     by_cases hs:120<(r.qi.getD k Be).text.size
     ·rw[zk hs];rfl
     ·have hi':X2 Ag C9 ok2 ix2 r g m g n f k 0=_:=hi (by omega);rw[zt hs];simp only[Bool.not_true,Bool.not_false,Bool.and_self,za,zb];refine Eq.trans hi' ?_;simp only[zq];cases((r.qi.getD k Be).text.data.toList.any Gb)<;>rfl) (fun m n f=>by show Zt Ag C9 ok2 ix2 r g (m+1) n f (r.qi.length:Nat)=_;rw[Ajw,lt0 (zp _)];rfl) g 0 0 (fun _=>[]) [] (.nil _) rfl (by omega) (by omega)
 refine Eq.trans (b:=bif Ew r.qi !=0 then lN (Ew r.qi)else lN 0) key ?_;cases hz:(Ew r.qi !=0)with
 |true=>rfl|false=>
  have:Ew r.qi=0:=by simpa using hz
  rw[this];rfl
theorem cBt(a:Int×Int×Int):CX prog 186 [vI a.1,vI a.2.1,vI a.2.2] [] (vB (Aa a.1 a.2.1 a.2.2)) []:=by
 refine Am (Orc.nil_ok _) func186 (by kernel_rfl) rfl ((evBt a.1 a.2.1 a.2.2).trans ?_);unfold AfB Aa;cases decide (a.1>=a.2.1)<;>rfl
theorem s93:OrcS prog (o93 Ag ok2 ix2):=sIx (.cons (.p D9 c16) (.cons (.p U2 cBt) .nil))
theorem Aqa(r:SRel)(g mo n:Nat)(f:RD)(k:Nat)(seen:List BA)(hr:RL busC e0 n f seen)(hk:k<r.qj.length)(hl:r.qj.length<=9000)(hn:n<=9000)(hs:Ln (r.qj.getD k set0)=true)(hg:(r.qj.getD k set0).qm.length<g):
  Vl Ag ok2 ix2 r g mo g n f k 0=bif !(r.qj.getD k set0).qm.all Ag then lN 7 else bif inB seen (r.qj.getD k set0).name then lN 8 else X1 Ag ok2 ix2 r g mo (n+1) (appF n f (Ae (busC (r.qj.getD k set0).name) 1)) ((k+1:Nat):Int):=by
 have hS:=Bi hs;obtain⟨q1,q2⟩:=Aii hr hn (r.qj.getD k set0).name;have q1':ok2 [AV.c (C.d (D.sl 1 n f)),AV.c (C.d (D.v (Value.string (r.qj.getD k set0).name)))]=true:=q1;have q2':decide (ix2 [AV.c (C.d (D.sl 1 n f)),AV.c (C.d (D.v (Value.string (r.qj.getD k set0).name)))]>=0)=inB seen (r.qj.getD k set0).name:=q2;have l1:=Gt (p:=fun s=> !Ag s) (l:=(r.qj.getD k set0).qm) (d0:=e0) (L:=fun m i=>Vl Ag ok2 ix2 r g mo m n f k i) (A:=lN 7) (B:=bif inB seen (r.qj.getD k set0).name then lN 8 else X1 Ag ok2 ix2 r g mo (n+1) (appF n f (Ae (busC (r.qj.getD k set0).name) 1)) ((k+1:Nat):Int)) (fun m j hj=>by
  show Vl Ag ok2 ix2 r g mo (m+1) n f k j=_;rw[Aju,tn,lt1 hj,ge0,tn,nx hj hS];rfl) (fun m=>by
  show Vl Ag ok2 ix2 r g mo (m+1) n f k ((r.qj.getD k set0).qm.length:Nat)=_;rw[Aju,tn,lt0 (zp _),q1',q2',J0 hn,nx hk];rfl) g 0 (by omega) (by omega)
 have e1:Vl Ag ok2 ix2 r g mo g n f k 0=_:=l1;rw[e1];simp only[zq];rw[<-Akw,Bool.not_not]
theorem AoG(x:SPub):Dz x=bif !Aa x.fst 1 100 then 2 else bif !Aa x.max x.fst 1000 then 2 else 0:=by
 unfold Dz Aa;cases decide (x.fst>=1)<;>cases decide (x.fst<=100)<;>cases decide (x.max>=x.fst)<;>cases decide (x.max<=1000)<;>rfl
def G3(r:SRel):Int:=bif Rk r.qj !=0 then Rk r.qj else bif M1 r.qk !=0 then M1 r.qk else Y8 r.ql
theorem k93c(r:SRel)(g:Nat)(h3:r.ql.length<=9000)(g3:r.ql.length<g):Mj Ag ok2 ix2 r g g 0 (fun _=>[]) 0=bif Y8 r.ql !=0 then lN (Y8 r.ql)else lN 0:=by
 have kc:=Gg (valid:=Qn) (key:=SSub.loc) (rest:=V0) (l:=r.ql) (d0:=sub0) (L:=fun m n f i=>Mj Ag ok2 ix2 r g m n f i) (NX:=lN 0) h3 (fun m k n f seen hk hr hn=>by
  obtain⟨q1,q2⟩:=Aii hr hn (r.ql.getD k sub0).loc;have q1':ok2 [AV.c (C.d (D.sl 1 n f)),AV.c (C.d (D.v (Value.string (r.ql.getD k sub0).loc)))]=true:=q1;have q2':decide (ix2 [AV.c (C.d (D.sl 1 n f)),AV.c (C.d (D.v (Value.string (r.ql.getD k sub0).loc)))]>=0)=inB seen (r.ql.getD k sub0).loc:=q2;have st:=Adz Ag ok2 ix2 r g m n f k;rw[lt1 hk,ge0,tn,q1',q2',J0 hn,nx hk]at st;refine Eq.trans st ?_;unfold Qn;simp only[tt,za];generalize Mj Ag ok2 ix2 r g m=LL;cases Ag (r.ql.getD k sub0).loc<;>cases Ag (r.ql.getD k sub0).dev<;>cases Ag (r.ql.getD k sub0).set<;>cases Ag (r.ql.getD k sub0).sig<;>rfl) (fun m n f=>by
  have st:=Adz Ag ok2 ix2 r g m n f (r.ql.length:Nat);rw[lt0 (zp _)]at st;rw[zb]at st;exact st) g 0 0 (fun _=>[]) [] (.nil _) rfl (by omega) (by omega)
 exact kc
theorem k93b(r:SRel)(g:Nat)(h2:r.qk.length<=9000)(g2:r.qk.length<g):Mk Ag ok2 ix2 r g g 0 (fun _=>[]) 0=bif M1 r.qk !=0 then lN (M1 r.qk)else Mj Ag ok2 ix2 r g g 0 (fun _=>[]) 0:=by
 have kb:=Gg (valid:=T5) (key:=SPub.set) (rest:=Dz) (l:=r.qk) (d0:=pub0) (L:=fun m n f i=>Mk Ag ok2 ix2 r g m n f i) (NX:=Mj Ag ok2 ix2 r g g 0 (fun _=>[]) 0) h2 (fun m k n f seen hk hr hn=>by
  obtain⟨q1,q2⟩:=Aii hr hn (r.qk.getD k pub0).set;have q1':ok2 [AV.c (C.d (D.sl 1 n f)),AV.c (C.d (D.v (Value.string (r.qk.getD k pub0).set)))]=true:=q1;have q2':decide (ix2 [AV.c (C.d (D.sl 1 n f)),AV.c (C.d (D.v (Value.string (r.qk.getD k pub0).set)))]>=0)=inB seen (r.qk.getD k pub0).set:=q2;have st:=AdA Ag ok2 ix2 r g m n f k;rw[lt1 hk,ge0,tn,q1',q2',J0 hn,nx hk]at st;refine Eq.trans st ?_;rw[AoG];unfold T5;simp only[tt,za];generalize Mk Ag ok2 ix2 r g m=LL;generalize Mj Ag ok2 ix2 r g g 0 (fun x=>[]) 0=MM;cases Ag (r.qk.getD k pub0).set<;>cases Aa (r.qk.getD k pub0).fst 1 100<;>cases Aa (r.qk.getD k pub0).max (r.qk.getD k pub0).fst 1000<;>rfl) (fun m n f=>by
  have st:=AdA Ag ok2 ix2 r g m n f (r.qk.length:Nat);rw[lt0 (zp _)]at st;rw[zb]at st;exact st) g 0 0 (fun _=>[]) [] (.nil _) rfl (by omega) (by omega)
 exact kb
theorem k93a(r:SRel)(g:Nat)(h1:r.qj.length<=9000)(g1:r.qj.length<g)(g4: ∀k,(r.qj.getD k set0).qm.length<g)(hs:r.qj.all Ln=true):X1 Ag ok2 ix2 r g g 0 (fun _=>[]) 0=bif Rk r.qj !=0 then lN (Rk r.qj)else Mk Ag ok2 ix2 r g g 0 (fun _=>[]) 0:=by
 have ka:=Gg (valid:=Qr) (key:=SSet.name) (rest:=V0) (l:=r.qj) (d0:=set0) (L:=fun m n f i=>X1 Ag ok2 ix2 r g m n f i) (NX:=Mk Ag ok2 ix2 r g g 0 (fun _=>[]) 0) h1 (fun m k n f seen hk hr hn=>by
  have hi:Vl Ag ok2 ix2 r g m g n f k 0=_:=Aqa r g m n f k seen hr hk h1 hn (E7 hs rfl k) (g4 k);have st:=Ajv Ag ok2 ix2 r g m n f k;rw[lt1 hk,ge0,tn,hi]at st;refine Eq.trans st ?_;unfold Qr;simp only[tt,za];generalize X1 Ag ok2 ix2 r g m=LL;generalize Mk Ag ok2 ix2 r g g 0 (fun x=>[]) 0=MM;cases Ag (r.qj.getD k set0).name<;>cases(r.qj.getD k set0).qm.all Ag<;>rfl) (fun m n f=>by
  have st:=Ajv Ag ok2 ix2 r g m n f (r.qj.length:Nat);rw[lt0 (zp _)]at st;rw[zb]at st;exact st) g 0 0 (fun _=>[]) [] (.nil _) rfl (by omega) (by omega)
 exact ka
theorem c93(r:SRel)(h1:r.qj.length<=9000)(h2:r.qk.length<=9000)(h3:r.ql.length<=9000)(hs:r.qj.all Ln=true):CX prog 124 [aRel r] [] (vI (G3 r)) []:=by
 obtain⟨g,g1,g2,g3,g4⟩: ∃g,r.qj.length<g/\r.qk.length<g/\r.ql.length<g/\ ∀k,(r.qj.getD k set0).qm.length<g:=by
  have key: ∀l:List SSet,∃g,∀k,(l.getD k set0).qm.length<g:=by
   intro l;induction l with
   |nil=>exact⟨1,fun k=>by simp[set0]⟩
   |cons x t ih=>
    have⟨g,hg⟩:=ih;refine⟨g+x.qm.length+1,fun k=> ?_⟩;cases k with
    |zero=>simp only[List.getD_cons_zero];omega|succ k=>have:=hg k;simp only[List.getD_cons_succ];omega
  obtain⟨g,hg⟩:=key r.qj;exact⟨g+r.qj.length+r.qk.length+r.ql.length+1,by omega,by omega,by omega,fun k=>by have:=hg k;omega⟩
 refine Am s93.ok func124 b93 rfl ((ev93 _ _ _ r g).trans ?_);have ec:=k93c r g h3 g3;have eb:=k93b r g h2 g2;have ea:=k93a r g h1 g1 g4 hs;refine Eq.trans ea ?_;rw[eb,ec];unfold G3;have z: ∀n:Int,(bif n !=0 then lN n else lN 0)=lN n:=fun n=>by
  cases h:(n !=0)with
  |true=>rfl|false=>
             have:n=0:=by simpa using h
             rw[this];rfl
 rw[z];cases(Rk r.qj !=0)<;>cases(M1 r.qk !=0)<;>rfl
end Go.Y.se
end
