/-
  Go code evaluated: part 6. No condition.
-/
import Derived.Test.YtbpndheehcbldaaGreatDoorQ5
import Derived.Test.YtbpndheehcbldaaGreatDoorProg
import Derived.KernelRfl
open Go.IntKind (wrap u32 i32)
noncomputable section
open Go.Proofs Go.Proofs.Tryz
namespace Go.Proofs.YtbpndheehcbldaaGreatDoor
end Go.Proofs.YtbpndheehcbldaaGreatDoor
open Go.Proofs.YtbpndheehcbldaaGreatDoor
set_option maxRecDepth 100000
namespace Go.Y.se
open Go.RowKit Go.Eb
theorem tAnd(a b:Bool):(bif a then b else false)=(a&&b):=by cases a<;>rfl
theorem ApG(a b:Bool):(bif !a then true else b)= !(a&& !b):=by cases a<;>cases b<;>rfl
theorem neI(a b:Int):(a !=b)= !(a==b):=rfl
def AkY(r:SRel):Bool:=
 ((r.zon0==false&&(r.zfw0==false&&(r.zx0==0&&(r.zr0==0&&(r.zl0==0&&(r.zd0==0&&true))))))&&
   ((r.zon1==false&&(r.zfw1==false&&(r.zx1==0&&(r.zr1==0&&(r.zl1==0&&(r.zd1==0&&true))))))&&
     ((r.zon2==false&&(r.zfw2==false&&(r.zx2==0&&(r.zr2==0&&(r.zl2==0&&(r.zd2==0&&true))))))&&true)))&&
 (r.min==0&&(r.kre==0&&(r.kim==0&&(r.qn==0&&(r.wait==0&&(r.guard==0&&(r.qp==0&&(r.dead==0&&r.qo==0))))))))
def zSrc(r:SRel):Bool:=(r.uon==false&&(r.upk==0&&(r.udl==0&&true)))&&(r.oon==false&&(r.opk==0&&(r.odl==0&&true)))
def zBus(r:SRel):Bool:=(r.don==false&&(r.dpk==0&&(r.ddl==0&&true)))&&((r.ion==false&&(r.ipk==0&&(r.idl==0&&true)))&&(r.fon==false&&(r.fpk==0&&(r.fdl==0&&true))))
def zDif(r:SRel):Bool:=r.diff==0&&(r.num==0&&(r.den==0&&r.harm==0))
def Kg(r:SRel):Bool:=(r.kind==1||AkY r)&&((r.kind==2||zSrc r)&&(bif r.kind==4 then zBus r else zDif r))
theorem Alc(r:SRel):Ji r=Kg r:=by
 unfold Ji Kg AkY zSrc zBus zDif;simp only[neI];generalize (r.kind==1)=k1;generalize (r.kind==2)=k2;generalize (r.kind==4)=k4;cases k1<;>cases k2<;>cases k4<;>simp only[za,zb,Bool.not_true,Bool.not_false,tAnd,Bool.and_assoc,Bool.true_and,Bool.and_true,Bool.false_and,Bool.and_false,Bool.true_or,Bool.false_or,Bool.cond_self]
theorem Acr(r:SRel):AaQ r= !Kg r:=by
 unfold AaQ Kg AkY zSrc zBus zDif;simp only[neI];generalize (r.kind==1)=k1;generalize (r.kind==2)=k2;generalize (r.kind==4)=k4;cases k1<;>cases k2<;>cases k4<;>simp only[za,zb,Bool.not_true,Bool.not_false,ApG,Bool.not_not,Bool.and_assoc,Bool.true_and,Bool.and_true,Bool.false_and,Bool.and_false,Bool.true_or,Bool.false_or,Bool.cond_self]
theorem AgR(r:SRel):Y5 r=Cw r:=rfl
theorem Aca(r:SRel):AaP r= !En r:=by
 unfold AaP En;generalize (r.qn==1)=k1;generalize (r.qn==2)=k2;generalize (r.qn==3)=k3;generalize r.zon0=a;generalize r.zfw0=b;generalize r.zon1=c;generalize r.zfw1=d;generalize r.zon2=e;generalize r.zfw2=f;cases k1<;>cases k2<;>cases k3<;>cases a<;>cases b<;>cases c<;>cases d<;>cases e<;>cases f<;>rfl
def nSch(r:SRel):Bool:=Aa r.qn 0 3&&(Aa r.guard 0 50&& !(r.qn==0&&r.guard !=0))
def Yq(r:SRel):Bool:=bif r.qn==3 then Aa r.wait 1 50 else r.wait==0
def nEl(r:SRel):Bool:=elOk r.don r.dpk r.ddl 0&&(elOk r.uon r.upk r.udl 0&&(elOk r.oon r.opk r.odl 0&&elOk r.fon r.fpk r.fdl 1))
def nInv(r:SRel):Bool:=bif r.ion then Aa r.ipk 1 16383&&Aa r.idl 1 1000 else r.ipk==0&&r.idl==0
def nRec(r:SRel):Bool:=Aa r.qp 0 3&&(bif r.qp==0 then r.dead==0&&r.qo==0 else Aa r.dead 1 100&&Aa r.qo 1 1000)
def nDif(r:SRel):Bool:=bif r.diff==0 then r.num==0&&(r.den==0&&r.harm==0)else Aa r.diff 0 16383&&(Aa r.den 1 100&&(Aa r.num 0 r.den&&Aa r.harm 0 100))
theorem g13(okr zo:LB)(r:SRel):AbE okr zo r 1 1=lB (bif r.diff==0 then true else Aa r.den 1 100&&(Aa r.num 0 r.den&&Aa r.harm 0 100)):=by
 rw[AlB];cases(r.diff==0)<;>cases Aa r.den 1 100<;>cases Aa r.num 0 r.den<;>rfl
theorem g11(okr zo:LB)(r:SRel):Tp okr zo r 1 1=lB (nDif r):=by
 rw[AlC,g13];unfold nDif;by_cases h:r.diff=0
 ·rw[h];simp only[neI];have w:Aa 0 0 16383=true:=rfl;rw[w];cases(r.num==0)<;>cases(r.den==0)<;>cases(r.harm==0)<;>rfl
 ·have h':(r.diff==0)=false:=by simpa using h
  rw[h'];cases Aa r.diff 0 16383<;>rfl
theorem g9(okr zo:LB)(r:SRel):AcF okr zo r 1 1=lB (nRec r&&nDif r):=by
 rw[AnQ,g11];unfold nRec;by_cases h:r.qp=0
 ·rw[h];simp only[neI];have w:Aa 0 0 3=true:=rfl;have w2:decide ((0:Int)>0)=false:=rfl;rw[w,w2];cases(r.dead==0)<;>cases(r.qo==0)<;>rfl
 ·have h':(r.qp==0)=false:=by simpa using h
  rw[h'];by_cases h2:r.qp>0
  ·rw[zk h2];cases Aa r.qp 0 3<;>cases Aa r.dead 1 100<;>cases Aa r.qo 1 1000<;>rfl
  ·have w:Aa r.qp 0 3=false:=by unfold Aa;rw[zt];rfl
   rw[w];rfl
theorem g7(okr zo:LB)(r:SRel):AnF okr zo r 1 1=lB (nInv r&&(nRec r&&nDif r)):=by
 rw[AnR,g9];unfold nInv;generalize (nRec r&&nDif r)=q;cases r.ion<;>cases Aa r.ipk 1 16383<;>cases Aa r.idl 1 1000<;>cases(r.ipk==0)<;>cases(r.idl==0)<;>rfl
theorem g5(okr zo:LB)(r:SRel):AcG okr zo r 1 1=lB (nEl r&&(nInv r&&(nRec r&&nDif r))):=by
 rw[AnS,g7];unfold nEl;generalize (nInv r&&(nRec r&&nDif r))=q;cases elOk r.don r.dpk r.ddl 0<;>cases elOk r.uon r.upk r.udl 0<;>cases elOk r.oon r.opk r.odl 0<;>cases elOk r.fon r.fpk r.fdl 1<;>rfl
theorem g3(okr zo:LB)(r:SRel):Ajm okr zo r 1 1=lB (Yq r&&(nEl r&&(nInv r&&(nRec r&&nDif r)))):=by
 rw[AnT,g5];unfold Yq;generalize (nEl r&&(nInv r&&(nRec r&&nDif r)))=q;simp only[neI];cases(r.qn==3)<;>cases Aa r.wait 1 50<;>cases(r.wait==0)<;>rfl
def nums(r:SRel):Bool:=nSch r&&(Yq r&&(nEl r&&(nInv r&&(nRec r&&nDif r))))
theorem g1(okr zo:LB)(r:SRel)(h1:okr [aRel r]=true):Ai prog (oNu okr zo) Xm 1 f120 (Ac f120) [aRel r] []=lB (zo [aRel r]&&nums r):=by
 refine(ev89 okr zo r 1).trans ?_;rw[h1,g3];unfold nums nSch;generalize (Yq r&&(nEl r&&(nInv r&&(nRec r&&nDif r))))=q;simp only[neI];cases zo [aRel r]<;>cases Aa r.qn 0 3<;>cases Aa r.guard 0 50<;>cases(r.qn==0)<;>cases(r.guard==0)<;>rfl
theorem e80(r:SRel):Dr r=(nSch r&&Yq r):=by
 unfold Dr nSch Yq;simp only[neI];by_cases h:r.guard=0
 ·rw[h];have w:Aa 0 0 50=true:=rfl;rw[w];cases Aa r.qn 0 3<;>cases(r.qn==3)<;>cases Aa r.wait 1 50<;>cases(r.qn==0)<;>cases(r.wait==0)<;>rfl
 ·have h':(r.guard==0)=false:=by simpa using h
  rw[h'];cases Aa r.qn 0 3<;>cases(r.qn==3)<;>cases Aa r.wait 1 50<;>cases(r.qn==0)<;>cases(r.wait==0)<;>cases Aa r.guard 0 50<;>rfl
theorem e81(r:SRel):Dq r=(nInv r&&nEl r):=by
 unfold Dq nInv nEl;cases r.ion<;>cases Aa r.ipk 1 16383<;>cases Aa r.idl 1 1000<;>cases(r.ipk==0)<;>cases(r.idl==0)<;>cases elOk r.don r.dpk r.ddl 0<;>cases elOk r.uon r.upk r.udl 0<;>cases elOk r.oon r.opk r.odl 0<;>rfl
theorem Sp(n k:Int)(h:(n==0)=false):Aa n 1 k=Aa n 0 k:=by
 have h':n≠0:=by simpa using h
 unfold Aa;by_cases h1:n>=1
 ·rw[zk h1,zk (show n>=0 by omega)]
 ·rw[zt h1,zt (show ¬n>=0 by omega)]
theorem e82(r:SRel):Dp r=(nRec r&&nDif r):=by
 unfold Dp nRec nDif;simp only[neI];have hs:(r.qp==0)=true ->Aa r.qp 0 3=true:=fun h=>by
  have:r.qp=0:=by simpa using h
  rw[this];rfl
 have hs2:=Sp r.qp 3;have hd2:=Sp r.diff 16383;cases a:(r.qp==0)with
 |true=>
  rw[hs a];cases b:(r.diff==0)with
  |true=>cases(r.dead==0)<;>cases(r.qo==0)<;>cases(r.num==0)<;>cases(r.den==0)<;>rfl|false=>
   rw[hd2 b];cases(r.dead==0)<;>cases(r.qo==0)<;>cases Aa r.diff 0 16383<;>cases Aa r.den 1 100<;>cases Aa r.num 0 r.den<;>rfl
 |false=>
  rw[hs2 a];cases b:(r.diff==0)with
  |true=>cases Aa r.qp 0 3<;>cases Aa r.dead 1 100<;>cases Aa r.qo 1 1000<;>cases(r.num==0)<;>cases(r.den==0)<;>rfl|false=>
   rw[hd2 b];cases Aa r.qp 0 3<;>cases Aa r.dead 1 100<;>cases Aa r.qo 1 1000<;>cases Aa r.diff 0 16383<;>cases Aa r.den 1 100<;>cases Aa r.num 0 r.den<;>rfl
theorem Amf(r:SRel):nums r=(Dr r&&(Dq r&&Dp r)):=by
 rw[e80,e81,e82];unfold nums;cases nSch r<;>cases Yq r<;>cases nEl r<;>cases nInv r<;>rfl
structure KOn where
 okn:LB
 nm:List AV ->List BA
 oki:LB
 ix:LI
 okp:LB
 pl:LI
 okr:LB
 fo:LB
 nu:LB
 mi:LB
 ma:LB
 oku:LB
 ru:LI
 li:LI
def oOn(Z:KOn)(nk:BA ->Bool):Orc:=Orc.cons 57 (ansP decS fun s=>vB (nk s)) (Orc.cons 117 (ansG Z.okn fun x=> .c (.d (Ab (Z.nm x)))) (Orc.cons 52 (ansL Z.oki fun x=>vI (Z.ix x)) (Orc.cons 118 (ansG Z.okp fun x=>vI (Z.pl x))
 (Orc.cons 119 (ansG Z.okr fun x=>vB (Z.fo x)) (Orc.cons 120 (ansG Z.okr fun x=>vB (Z.nu x)) (Orc.cons 121 (ansG Z.okr fun x=>vB (Z.mi x)) (Orc.cons 122 (ansG Z.okr fun x=>vB (Z.ma x))
 (Orc.cons 123 (ansG Z.oku fun x=>vI (Z.ru x)) (Orc.cons 124 (ansG Z.oku fun x=>vI (Z.li x)) Orc.nil)))))))))
def AkH:Ann:=A1 [(6,⟨[5,1,3,7],[]⟩)]
def Tn(Z:KOn)(nk:BA ->Bool)(s:SSta)(b:List SRel)(r:SRel)(g m:Nat)(i7:Int):=LK prog (oOn Z nk) AkH 0 g f63 6 m ⟨frm [(1, .c (.d (Ad 53 relC rel0 b))),(3, .c (.ptr 0 0)),(5, .c (.ptr 1 0)),(7,iA i7)] 0 f63.ntmps,[(0, .cells (List.map C.d (staC s)) 27),(1, .cells (List.map C.d (relC r)) 64)],2⟩
theorem bon7:f63.body=some (Ac f63):=by kernel_rfl
theorem AqK(Z:KOn)(nk:BA ->Bool)(s:SSta)(b:List SRel)(r:SRel)(g:Nat):Ai prog (oOn Z nk) AkH g f63 (Ac f63) [aSta s, .c (.d (Di b)),aRel r] []=
 (bif !nk r.name then leI 7 else(bif KOn.okn Z [gA (staC s)]then(bif KOn.oki Z [.c (.d (Ad (1) busC e0 (KOn.nm Z [gA (staC s)]))),AV.c
 (.d (.v (.string r.name)))]then(bif decide (KOn.ix Z [.c (.d (Ad ((1:Nat)) busC e0 (KOn.nm Z [gA (staC s)]))), .c (.d (.v (.string r.name)))]>=0)then
 leI 8 else Tn Z nk s b r g g 0)else none)else none)):=by kernel_rfl
theorem Adk(Z:KOn)(nk:BA ->Bool)(s:SSta)(b:List SRel)(r:SRel)(g m:Nat)(i7:Int):Tn Z nk s b r g (m+1) i7=
 (bif decide (i7<(↑b.length:Int))then(bif decide (0<=i7)&&decide (i7<(↑b.length:Int))then(bif(SRel.name (b.getD i7.toNat rel0)).toList==r.name.toList then leI 8
 else Tn Z nk s b r g m (wrap .i64 (i7+1)))else none)else(bif KOn.okp Z [gA (staC s), .c (.d (Ad (53) relC rel0 b)),gA (relC
 r)]then(bif KOn.pl Z [gA (staC s), .c (.d (Ad (53) relC rel0 b)),gA (relC r)] !=0 then leI (KOn.pl Z [gA (staC s),
 .c (.d (Ad (53) relC rel0 b)),gA (relC r)])else(bif KOn.okr Z [gA (relC r)]then(bif KOn.fo Z [gA (relC r)]then leI
 12 else(bif KOn.okr Z [gA (relC r)]then(bif !KOn.nu Z [gA (relC r)]then leI 2 else(bif KOn.okr Z [gA (relC r)]then
 (bif KOn.mi Z [gA (relC r)]then leI 11 else(bif KOn.okr Z [gA (relC r)]then(bif KOn.ma Z [gA (relC r)]then leI 3 else
 (bif KOn.oku Z [gA (relC r)]then(bif KOn.ru Z [gA (relC r)] !=0 then leI (KOn.ru Z [gA (relC r)])else(bif KOn.oku Z
 [gA (relC r)]then leI (KOn.li Z [gA (relC r)])else none))else none))else none))else none))else none))else none))else none)):=by kernel_rfl
def oCk(oko:LB)(on:LI):Orc:=Orc.cons 63 (ansG oko fun x=>vI (on x)) Orc.nil
def AkP:Ann:=A1 [(2,⟨[6,1,2],[]⟩)]
def AbD(oko:LB)(on:LI)(s:SSta)(l:List SRel)(g m:Nat)(i6:Int):=LK prog (oCk oko on) AkP 0 g f29 2 m ⟨frm [(1, .c (.d (Ad 53 relC rel0 l))),(2, .c (.ptr 0 0)),(6,iA i6)] 0 f29.ntmps,[(0, .cells (List.map C.d (staC s)) 27)],1⟩
theorem bck7:f29.body=some (Ac f29):=by kernel_rfl
theorem AqZ(oko:LB)(on:LI)(s:SSta)(l:List SRel)(g:Nat):Ai prog (oCk oko on) AkP g f29 (Ac f29) [aSta s, .c (.d (Di l))] []=
 AbD oko on s l g g 0:=by kernel_rfl
theorem Aly(oko:LB)(on:LI)(s:SSta)(l:List SRel)(g m:Nat)(i6:Int):AbD oko on s l g (m+1) i6=
 (bif decide (i6<(↑l.length:Int))then(bif decide (0<=(↑(0:Nat):Int))&&decide ((↑(0:Nat):Int)<=i6)&&decide (i6<=(↑l.length:Int))then(bif decide (0<=i6)&&
 decide (i6<(↑l.length:Int))then(bif oko [gA (staC s), .c (.d (.sl (53) (i6.toNat -Int.toNat (↑(0:Nat):Int)) fun i=>relC (l.getD (Int.toNat (↑(0
 :Nat):Int)+i) rel0))),gA (relC (l.getD i6.toNat rel0))]then(bif on [gA (staC s), .c (.d (.sl (53) (i6.toNat -Int.toNat (↑(0:
 Nat):Int)) fun i=>relC (l.getD (Int.toNat (↑(0:Nat):Int)+i) rel0))),gA (relC (l.getD i6.toNat rel0))] !=0 then some (T.leaf (.tup [(false,[.d (.v
 (.int .i64 i6))]),(false,[.d (iD (on [gA (staC s), .c (.d (.sl (53) (i6.toNat -Int.toNat (↑(0:Nat):Int)) fun i=>relC (l.getD (Int.toNat
 (↑(0:Nat):Int)+i) rel0))),gA (relC (l.getD i6.toNat rel0))]))])],[]))else AbD oko on s l g m (wrap .i64 (i6+1)))else none)else none)else
 none)else some (T.leaf (.tup [(false,[.d (iD 0)]),(false,[.d (iD 0)])],[]))):=by kernel_rfl
end Go.Y.se
namespace Go.Y.st
open Go.RowKit Go.Eb
def o9n(okn:LB)(nm:List AV ->List BA):Orc:=Orc.cons 59 (ansG okn fun x=> .c (.d (Ab (nm x)))) Orc.nil
def ArI:Ann:=A1 []
theorem b9n:f117.body=some (Ac f117):=by kernel_rfl
theorem ev9n(okn:LB)(nm:List AV ->List BA)(s:SSta)(g:Nat):Ai prog (o9n okn nm) ArI g f117 (Ac f117) [aSta s] []=
 (bif okn [gA (staC s),iA (↑s.qa.length:Int),iA (↑s.qb.length:Int), .c (.d (.v (.int .i64
 (↑s.qc.length:Int)))),iA (↑s.qd.length:Int)]then some (T.leaf (.c (.d (Ad (1) busC e0 (nm [gA (staC s), .c (.d (.v (.int
 .i64 (↑s.qa.length:Int)))),iA (↑s.qb.length:Int),iA (↑s.qc.length:Int), .c (.d (.v (Value.int IntKind.i64
 (↑s.qd.length:Int))))]))),[]))else none):=by kernel_rfl
abbrev eN5:=en5 aSta vN vN vN vN
theorem AfS:InjT eN5:=AmP Ee Zx Zx Zx Zx
def c5(a:SSta×Nat×Nat×Nat×Nat):Bool:=(decide (a.2.1<=a.1.qa.length)&&(decide (a.2.2.1<=a.1.qb.length)&&(decide (a.2.2.2.1<=a.1.qc.length)&&decide (a.2.2.2.2<=a.1.qd.length))))&&(decide (a.2.1<=900)&&(decide (a.2.2.1<=900)&&(decide (a.2.2.2.1<=900)&&decide (a.2.2.2.2<=900))))
def nm5(a:SSta×Nat×Nat×Nat×Nat):List BA:=B0 a.1 a.2.1 a.2.2.1 a.2.2.2.1 a.2.2.2.2
theorem s9n:OrcS prog (o9n (okG eN5 c5) fun x=>nm5 (theT eN5 x)):=by
 refine .cons (.t' (r:=fun a=> .c (.d (Ab (nm5 a)))) fun a h=> ?_) .nil;unfold c5 at h;simp only[zd,zi]at h;exact c21 a.1 a.2.1 a.2.2.1 a.2.2.2.1 a.2.2.2.2 h.1.1 h.1.2.1 h.1.2.2.1 h.1.2.2.2 h.2.1 h.2.2.1 h.2.2.2.1 h.2.2.2.2
theorem cNm(s:SSta)(h1:s.qa.length<=900)(h2:s.qb.length<=900)(h3:s.qc.length<=900)(h4:s.qd.length<=900):CX prog 117 [aSta s] [] (.c (.d (Ab (Bd s)))) []:=by
 refine Am s9n.ok func117 b9n rfl ((ev9n _ _ s 1).trans ?_);have k:=Ao AfS (c:=c5) (s,s.qa.length,s.qb.length,s.qc.length,s.qd.length) (by unfold c5;simp only[h1,h2,h3,h4,Nat.le_refl,decide_true,tt]);have t:=Aj AfS (s,s.qa.length,s.qb.length,s.qc.length,s.qd.length);have e:nm5 (s,s.qa.length,s.qb.length,s.qc.length,s.qd.length)=Bd s:=by unfold nm5 B0 Bd;simp
 simp only[en5,vN]at k t;rw[k,t,e];rfl
end Go.Y.st
namespace Go.Y.se
open Go.RowKit Go.Eb Go.Y.st
theorem cEm(a:Bool×Int×Int×Int):CX prog 187 [.agg [.d (dB a.1), .d (dI a.2.1), .d (dI a.2.2.1)],vI a.2.2.2] [] (vB (elOk a.1 a.2.1 a.2.2.1 a.2.2.2)) []:=by
 have hs:OrcS prog oB3:= .cons (.p U2 cBt) .nil;refine Am hs.ok func187 (by kernel_rfl) rfl ((evEm a.1 a.2.1 a.2.2.1 a.2.2.2).trans ?_);unfold Afz elOk;cases a.1<;>cases(a.2.1==0)<;>cases(a.2.2.1==0)<;>cases Aa a.2.1 1 16383<;>rfl
theorem sB3:OrcS prog oB3:= .cons (.p U2 cBt) .nil
theorem c88(r:SRel):CX prog 119 [aRel r] [] (vB (!Kg r)) []:=by
 have:=Am sB3.ok func119 (by kernel_rfl) rfl (ev88 r);rw[Acr]at this;exact this
theorem c130(r:SRel):CX prog 185 [aRel r] [] (vB (Cw r)) []:=by
 have:=Am sB3.ok func185 (by kernel_rfl) rfl (Aro r);rw[AgR]at this;exact this
theorem c90(r:SRel):CX prog 121 [aRel r] [] (vB (!En r)) []:=by
 have:=Am sB3.ok func121 (by kernel_rfl) rfl (ev90 r);rw[Aca]at this;exact this
theorem c89(r:SRel):CX prog 120 [aRel r] [] (vB (Cw r&&(Dr r&&(Dq r&&Dp r)))) []:=by
 have hs:OrcS prog (oNu (okG eR fun _=>true) fun x=>Cw (theT eR x)):= .cons (.t' (r:=fun a=>vB (Cw a)) fun a _=>c130 a) (.cons (.p Agb cEm) sB3);have k:=Ao eR_inj (c:=fun _=>true) r rfl;have t:=Aj eR_inj r;have:=Am hs.ok func120 b89 rfl (g1 _ _ r k);have e:Cw (theT eR [aRel r])=Cw r:=congrArg Cw t;rw[e,Amf]at this;exact this
abbrev ePl:=en3 aSta (aD Di) aRel
theorem Aec(a b:List SRel)(h:DE (Di a) (Di b)):a=b:=A8 Lk a b h
theorem Ux:InjT ePl:=AmQ Ee (Xn Aec) aRel_inj
def cPl(a:SSta×List SRel×SRel):Bool:=Au a.1.qd&&Au a.2.1
def cOu(r:SRel):Bool:=Br r&&Ci r
def cSz(s:SSta):Bool:=decide (s.qa.length<=900)&&(decide (s.qb.length<=900)&&(decide (s.qc.length<=900)&&decide (s.qd.length<=900)))
def ZOn:KOn where
 okn:=okG eSt cSz
 nm x:=Bd (theT eSt x)
 oki:=ok2
 ix:=ix2
 okp:=okG ePl cPl
 pl x:=Bh (theT ePl x).1.qd ((theT ePl x).2.1.map SRel.bay) (theT ePl x).2.2
 okr:=okG eR Ci
 fo x:= !Kg (theT eR x)
 nu x:=Cw (theT eR x)&&(Dr (theT eR x)&&(Dq (theT eR x)&&Dp (theT eR x)))
 mi x:= !En (theT eR x)
 ma x:= !Br (theT eR x)
 oku:=okG eR cOu
 ru x:=Ew (theT eR x).qi
 li x:=G3 (theT eR x)
theorem Rm{r:SRel}(h:Br r=true):r.qi.length<=16/\r.qj.length<=4/\r.qk.length<=4/\r.ql.length<=24:=by
 unfold Br at h;simp only[zd,zi]at h;exact⟨h.1,h.2.1,h.2.2.1,h.2.2.2.1⟩
theorem sOn:OrcS prog (oOn ZOn Ag):=by
 refine .cons (.p D9 c16) (.cons (.t' (r:=fun a=> .c (.d (Ab (Bd a)))) fun a h=> ?_) (.cons (.lt (r:=fun(a:List BA×BA)=>vI (idxF a.2 0 a.1)) func52 bIx (fun _=>rfl) fun a h=>c46 a.1 a.2 (Bi h))
  (.cons (.t' (r:=fun(a:SSta×List SRel×SRel)=>vI (Bh a.1.qd (a.2.1.map SRel.bay) a.2.2)) fun a h=> ?_) (.cons (.t' (r:=fun a=>vB (!Kg a)) fun a _=>c88 a) (.cons (.t' (r:=fun a=>vB (Cw a&&(Dr a&&(Dq a&&Dp a)))) fun a _=>c89 a)
  (.cons (.t' (r:=fun a=>vB (!En a)) fun a _=>c90 a) (.cons (.t' (r:=fun a=>vB (!Br a)) fun a h=>c91 a h) (.cons (.t' (r:=fun(a:SRel)=>vI (Ew a.qi)) fun a h=> ?_) (.cons (.t' (r:=fun a=>vI (G3 a)) fun a h=> ?_) .nil)))))))))
 ·unfold cSz at h
  simp only[zd,zi]at h
  exact cNm a h.1 h.2.1 h.2.2.1 h.2.2.2
 ·unfold cPl at h
  simp only[zd]at h
  exact c87 a.1 a.2.1 a.2.2 (Bi h.1) h.2
 ·unfold cOu at h
  simp only[zd]at h
  have:=Rm h.1
  exact c92 a (by omega)
 ·unfold cOu at h
  simp only[zd]at h
  have:=Rm h.1
  exact c93 a (by omega) (by omega) (by omega) (Jd h.2).2.2.2.2
theorem Amx(a b:List BA)(s:BA):inB (a++b) s=(inB a s||inB b s):=by unfold inB;rw[List.any_append]
theorem cOn(s:SSta)(b:List SRel)(r:SRel)(hs:cSz s=true)(hb:Au b=true)(hr:Ci r=true):
  CX prog 63 [aSta s, .c (.d (Di b)),aRel r] [] (vI (B3 s.qd (Bd s++b.map SRel.name) (b.map SRel.bay) r)) []:=by
 obtain⟨g,hg⟩: ∃g,b.length<g:=⟨b.length+1,by omega⟩;have hs':=hs;unfold cSz at hs';simp only[zd,zi]at hs';refine Am sOn.ok func63 bon7 rfl ((AqK ZOn Ag s b r g).trans ?_);have k1:ZOn.okn [aSta s]=true:=Ao Fo (c:=cSz) s hs;have k2:ZOn.nm [aSta s]=Bd s:=congrArg Bd (Aj Fo s);have hN:(Bd s).length<=9000:=by unfold Bd;simp;omega
 have k3:ZOn.oki [.c (.d (Ab (Bd s))),vS r.name]=true:=Ao Et (c:=cIx) (Bd s,r.name) (by unfold cIx Au;rw[zk (by simp only;omega)]);have k4:ZOn.ix [.c (.d (Ab (Bd s))),vS r.name]=idxF r.name 0 (Bd s):=by
  show idxF (theT eIx _).2 0 (theT eIx _).1=_;have t:theT eIx [.c (.d (Ab (Bd s))),vS r.name]=(Bd s,r.name):=Aj Et (Bd s,r.name);rw[t]
 have k5:ZOn.okp [aSta s, .c (.d (Di b)),aRel r]=true:=Ao Ux (c:=cPl) (s,b,r) (by unfold cPl;rw[hb];unfold Au;rw[zk (by simp only;omega)];rfl);have t5:theT ePl [aSta s, .c (.d (Di b)),aRel r]=(s,b,r):=Aj Ux (s,b,r);have k6:ZOn.pl [aSta s, .c (.d (Di b)),aRel r]=Bh s.qd (b.map SRel.bay) r:=by dsimp only[ZOn];rw[t5]
 have k7:ZOn.okr [aRel r]=true:=Ao eR_inj (c:=Ci) r hr;have t:=Aj eR_inj r;have k8:ZOn.fo [aRel r]= !Kg r:=congrArg (fun a=> !Kg a) t;have k9:ZOn.nu [aRel r]=(Cw r&&(Dr r&&(Dq r&&Dp r))):=congrArg (fun a=>Cw a&&(Dr a&&(Dq a&&Dp a))) t;have k10:ZOn.mi [aRel r]= !En r:=congrArg (fun a=> !En a) t;have k11:ZOn.ma [aRel r]= !Br r:=congrArg (fun a=> !Br a) t;have k12:Br r=true ->ZOn.oku [aRel r]=true:=fun h=>Ao eR_inj (c:=cOu) r (by unfold cOu;rw[h,hr];rfl)
 have k13:ZOn.ru [aRel r]=Ew r.qi:=congrArg (fun a:SRel=>Ew a.qi) t;have k14:ZOn.li [aRel r]=G3 r:=congrArg G3 t;have fin:Tn ZOn Ag s b r g g 0=bif b.any (fun x=>x.name.toList==r.name.toList)then lN 8 else lN (bif Bh s.qd (b.map SRel.bay) r !=0 then Bh s.qd (b.map SRel.bay) r else D4 r):=by
  have l1:=Gt (p:=fun x:SRel=>x.name.toList==r.name.toList) (l:=b) (d0:=rel0) (L:=fun m i=>Tn ZOn Ag s b r g m i) (A:=lN 8) (B:=lN (bif Bh s.qd (b.map SRel.bay) r !=0 then Bh s.qd (b.map SRel.bay) r else D4 r)) (fun m k hk=>by
   rw[Adk,lt1 hk,ge0,tn,nx hk (Bi hb)];rfl) (fun m=>by
   rw[Adk,lt0 (zp _),k5,k6,k7,k8,k9,k10,k11,k13,k14];unfold D4;rw[Alc];cases hp:(Bh s.qd (b.map SRel.bay) r !=0)with
   |true=>rfl|false=>
    cases Kg r with
    |false=>rfl|true=>
     cases Cw r with
     |false=>rfl|true=>
      cases Dr r with
      |false=>rfl|true=>
       cases Dq r with
       |false=>rfl|true=>
        cases Dp r with
        |false=>rfl|true=>
         cases En r with
         |false=>rfl|true=>
          cases hc:Br r with
          |false=>rfl|true=>
           rw[k12 hc];unfold Fz G3;cases(Ew r.qi !=0)<;>rfl) g 0 (by omega) (by omega)
  have e1:Tn ZOn Ag s b r g g 0=_:=l1;rw[e1];simp only[zq]
 rw[k1,k2,k3,k4,fin,Up];unfold B3;rw[Amx];have hb2:inB (b.map SRel.name) r.name=b.any (fun x=>x.name.toList==r.name.toList):=by
  unfold inB;rw[List.any_map];congr 1;funext x;rw[Ajs];rfl
 rw[hb2];cases Ag r.name<;>cases inB (Bd s) r.name<;>cases b.any (fun x=>x.name.toList==r.name.toList)<;>rfl
theorem AlR(s:SSta): ∀(l:List SRel) (i:Nat),i<=l.length ->Bu s.qd (Bd s++(l.take i).map SRel.name) ((l.take i).map SRel.bay) i (l.drop i)=
  if h:i<l.length then(bif B3 s.qd (Bd s++(l.take i).map SRel.name) ((l.take i).map SRel.bay) (l.getD i rel0) !=0 then((i:Int),B3 s.qd (Bd s++(l.take i).map SRel.name) ((l.take i).map SRel.bay) (l.getD i rel0))
   else Bu s.qd (Bd s++(l.take (i+1)).map SRel.name) ((l.take (i+1)).map SRel.bay) (i+1) (l.drop (i+1)))else(0,0):=fun l i hi=>by
 by_cases h:i<l.length
 ·rw[dif_pos h,Av (d:=rel0) h];simp only[Bu];have e:l.take (i+1)=l.take i++[l.getD i rel0]:=by
   rw[List.take_succ_eq_append_getElem h];simp[List.getD,h]
  rw[e];simp only[List.map_append,List.map_cons,List.map_nil,List.append_assoc]
 ·rw[dif_neg h,zl];rfl
abbrev tk(l:List SRel)(i:Int):D:= .sl 53 (i.toNat -((0:Nat):Int).toNat) fun j=>relC (l.getD (((0:Nat):Int).toNat+j) rel0)
theorem Alf(l:List SRel)(k:Nat)(hk:k<=l.length):DE (tk l k) (Di (l.take k))/\DE (Di (l.take k)) (tk l k):=by
 have e:(k:Int).toNat -((0:Nat):Int).toNat=(l.take k).length:=by simp;omega
 have f: ∀i,i<(l.take k).length ->relC (l.getD (((0:Nat):Int).toNat+i) rel0)=relC ((l.take k).getD i rel0):=fun i hi=>by
  have hi':i<k:=by simp at hi;omega
  have e0:((0:Nat):Int).toNat+i=i:=by simp
  rw[e0];congr 1;simp only[zh,List.getElem?_take,hi',if_true]
 unfold tk;rw[e];exact⟨.sl_eq f, .sl_eq fun i hi=>(f i hi).symm⟩
def cOe(a:SSta×List SRel×SRel):Bool:=cSz a.1&&(Au a.2.1&&Ci a.2.2)
theorem cCk(s:SSta)(l:List SRel)(hs:cSz s=true)(hl:Au l=true)(ha:l.all Ci=true):CX prog 29 [aSta s, .c (.d (Di l))] [] (vP (Bu s.qd (Bd s) [] 0 l)) []:=by
 have hS:OrcS prog (oCk (okG ePl cOe) fun x=>B3 (theT ePl x).1.qd (Bd (theT ePl x).1++(theT ePl x).2.1.map SRel.name) ((theT ePl x).2.1.map SRel.bay) (theT ePl x).2.2):=
  .cons (.t' (r:=fun(a:SSta×List SRel×SRel)=>vI (B3 a.1.qd (Bd a.1++a.2.1.map SRel.name) (a.2.1.map SRel.bay) a.2.2)) fun a h=>by
   unfold cOe at h;simp only[zd]at h;exact cOn a.1 a.2.1 a.2.2 h.1 h.2.1 h.2.2) .nil
 obtain⟨g,hg⟩: ∃g,l.length<g:=⟨l.length+1,by omega⟩;refine Am hS.ok func29 bck7 rfl ((AqZ _ _ s l g).trans ?_);have hl':=Bi hl;have lp: ∀(m k:Nat),k<=l.length ->l.length -k<m ->AbD (okG ePl cOe) (fun x=>B3 (theT ePl x).1.qd (Bd (theT ePl x).1++(theT ePl x).2.1.map SRel.name) ((theT ePl x).2.1.map SRel.bay) (theT ePl x).2.2) s l g m k=
  some (.leaf (vP (Bu s.qd (Bd s++(l.take k).map SRel.name) ((l.take k).map SRel.bay) k (l.drop k)),[])):=by
  intro m
  induction m with
  |zero=>intro k _ h;omega|succ m ih=>
   intro k hk h
   rw[Aly,AlR s l k hk]
   by_cases hlt:k<l.length
   ·rw[dif_pos hlt,lt1 hlt,ge0 k,tn,nx hlt hl',ih (k+1) (by omega) (by omega)]
    have b1:decide (((0:Nat):Int)<=(k:Int))=true:=zk
    have b2:decide ((k:Int)<=(l.length:Int))=true:=zk
    have b3:decide ((0:Int)<=((0:Nat):Int))=true:=rfl
    rw[b1,b2,b3]
    obtain⟨d1,d2⟩:=Alf l k hk
    have hr:Ci (l.getD k rel0)=true:=E7 ha rfl k
    have a1:Asle [aSta s, .c (.d (tk l k)),aRel (l.getD k rel0)] (ePl (s,l.take k,l.getD k rel0)):= .cons (.refl _) (.cons d1 (.cons (.refl _) .nil))
    have a2:Asle (ePl (s,l.take k,l.getD k rel0)) [aSta s, .c (.d (tk l k)),aRel (l.getD k rel0)]:= .cons (.refl _) (.cons d2 (.cons (.refl _) .nil))
    have q1:okG ePl cOe [aSta s, .c (.d (tk l k)),aRel (l.getD k rel0)]=true:=Wg Ux a1 a2 (by
     unfold cOe Au;rw[hs,hr,zk (by simp;omega)];rfl)
    have q2:theT ePl [aSta s, .c (.d (tk l k)),aRel (l.getD k rel0)]=(s,l.take k,l.getD k rel0):=Mm Ux a1 a2
    unfold tk at q1 q2
    rw[tn]at q1 q2
    rw[q1,q2]
    simp only[tt,za]
    generalize B3 s.qd (Bd s++(l.take k).map SRel.name) ((l.take k).map SRel.bay) (l.getD k rel0)=e
    cases(e !=0)<;>rfl
   ·rw[dif_neg hlt,lt0 hlt]
    rfl
 have e:=lp g 0 (by omega) (by omega);simp only[List.take_zero,List.map_nil,List.append_nil,zq]at e;exact e
end Go.Y.se
namespace Go.Y.st
open Go.RowKit Go.Eb
def Wp(s:SSta):Bool:=decide (8<s.qa.length)||(decide (10<s.qb.length)||(decide (8<s.qc.length)||(decide (20<s.qd.length)||s.qd.any fun b=>decide (6<b.qe.length))))
theorem b7:f19.body=some (Ac f19):=by kernel_rfl
theorem gtD(n k:Nat):decide ((n:Int)>(k:Int))=decide (k<n):=by
 by_cases h:k<n
 ·rw[zk h,zk]
 ·rw[zt h,zt]
theorem lp7(s:SSta)(g:Nat)(hb:s.qd.length<=9223372036854775807): ∀(m k:Nat),k<=s.qd.length ->s.qd.length -k<m ->L7 s g m k=lB ((s.qd.drop k).any fun b=>decide (6<b.qe.length))
 |0,k,_,h=>by omega|m+1,k,hk,h=>by
  rw[st7];by_cases hlt:k<s.qd.length
  ·have ih:=lp7 s g hb m (k+1) (by omega) (by omega);rw[Av (d:=bay0) hlt];have e6:decide (((s.qd.getD k bay0).qe.length:Int)>(6:Int))=decide (6<(s.qd.getD k bay0).qe.length):=gtD _ 6;simp only[lt1 hlt,ge0,tn,tt,za,nx hlt hb,ih,List.any_cons,e6];cases decide (6<(s.qd.getD k bay0).qe.length)<;>rfl
  ·rw[lt0 hlt,zl];rfl
theorem c7(s:SSta)(hs:Bv s=true):CX prog 19 [aSta s] [] (vB (Wp s)) []:=by
 obtain⟨a1,a2,a3,a4,a5⟩:=Ei hs;obtain⟨g,hg⟩: ∃g,s.qd.length<g:=⟨s.qd.length+1,by omega⟩;refine Am (Orc.nil_ok _) func19 b7 rfl ((ev7 s g).trans ?_);have hl:L7 s g g 0=lB (s.qd.any fun b=>decide (6<b.qe.length)):=lp7 s g a4 g 0 (by omega) (by omega);have t8: ∀n:Nat,decide ((n:Int)>8)=decide (8<n):=fun n=>gtD n 8
 have t10: ∀n:Nat,decide ((n:Int)>10)=decide (10<n):=fun n=>gtD n 10
 have t20: ∀n:Nat,decide ((n:Int)>20)=decide (20<n):=fun n=>gtD n 20
 rw[hl];simp only[t8,t10,t20];unfold Wp;cases decide (8<s.qa.length)<;>cases decide (10<s.qb.length)<;>cases decide (8<s.qc.length)<;>cases decide (20<s.qd.length)<;>rfl
def rsta(x:RSta):SSta:=⟨x.1,theE Ab x.2.1,theE Aq x.2.2.1,theE Cl x.2.2.2.1,theE Cg x.2.2.2.2.1⟩
def okRS(x:RSta):Bool:=okE Ab x.2.1&&(okE Aq x.2.2.1&&(okE Cl x.2.2.2.1&&okE Cg x.2.2.2.2.1))
def staR(s:SSta):RSta:=(s.name,Ab s.qa,Aq s.qb,Cl s.qc,Cg s.qd,())
theorem Q6(s:SSta):okRS (staR s)=true:=by
 unfold okRS staR;rw[(Bj Ca s.qa).1,(Bj Ls s.qb).1,(Bj Pw s.qc).1,(Bj Kc s.qd).1];rfl
theorem H9(s:SSta):rsta (staR s)=s:=by
 unfold rsta staR;simp only[(Bj Ca s.qa).2,(Bj Ls s.qb).2,(Bj Pw s.qc).2,(Bj Kc s.qd).2]
theorem Ady(x:RSta)(h:okRS x=true):Ale (.agg (staD.enc x)) (aSta (rsta x)):=by
 unfold okRS at h;simp only[zd]at h;exact .cons (.refl _) (.cons (Du h.1) (.cons (Du h.2.1) (.cons (Du h.2.2.1) (.cons (Du h.2.2.2) .nil))))
def ok24(x:RSta)(b:RBay):Bool:=okRS x&&okRB b
def lk24(x:RSta)(b:RBay):Int:=Bx (rsta x).qa.length (rbay b)
theorem s24:OrcS prog (o24 (fun a=>Dh (rbay a)) okRB ok24 lk24):=by
 refine .cons (.inl .nil func114 (by kernel_rfl)) (.cons (.d fun a ha=> ?_) (.cons (.d fun a ha=> ?_) .nil))
 ·exact(c49 (rbay a.1.1)).ge (.cons (Xc _ ha) .nil) (.refl _)
 ·unfold ok24 at ha;simp only[zd]at ha;exact(c50 (rsta a.1.1) (rbay a.1.2.1) (T9 ha.2)).ge (.cons (Ady _ ha.1) (.cons (Xc _ ha.2) .nil)) (.refl _)
def Ju(nb nl ns:Nat)(before:List SBay)(b:SBay):Int:=match Sn nl ns b.kind with
 |none=>10|some c=>bif !Aa b.off 0 (c -1)then 9 else bif !Dh b then 2 else bif before.any (Fp b)then 12 else Bx nb b
theorem Zj(nb nl ns:Nat)(N:List BA)(before:List SBay)(b:SBay):Jv nb nl ns N before b=bif Bq N b.name !=0 then Bq N b.name else Ju nb nl ns before b:=by
 unfold Jv Ec Bq Ju;cases Ag b.name with
 |false=>rfl|true=>cases inB N b.name<;>rfl
section
variable (s:SSta)(i:Nat)(hi:i<s.qd.length)
abbrev bI(s:SSta)(i:Nat):SBay:=s.qd.getD i bay0
include hi
theorem lp24(hb:s.qd.length<=9223372036854775807)(hl:(bI s i).qe.length<=9223372036854775807)(g:Nat): ∀(m k:Nat),k<=i ->i -k<m ->
  Vp (fun a=>Dh (rbay a)) okRB ok24 lk24 s i g m k=bif((s.qd.take i).drop k).any (Fp (bI s i))then lI 12 []else lI (Bx s.qa.length (bI s i)) []
 |0,k,_,h=>by omega|m+1,k,hk,h=>by
  rw[AnW];have hok:ok24 (staR s) (bayR (bI s i))=true:=by
   unfold ok24;have e1:okRB (bayR (bI s i))=true:=Gi hl;rw[Q6,e1];rfl
  have hlk:lk24 (staR s) (bayR (bI s i))=Bx s.qa.length (bI s i):=by unfold lk24;rw[H9,Jb]
  have haft: ∀A B:RSta,∀C' D':RBay,A=staR s ->B=staR s ->C'=bayR (bI s i) ->D'=bayR (bI s i) ->(bif ok24 A C' then some (T.leaf (vI (lk24 B D'),([]:Hp)))else none)=lI (Bx s.qa.length (bI s i)) []:=by
   intro A B C' D' hA hB hC hD;subst hA hB hC hD;rw[hok,hlk];rfl
  by_cases hlt:k<i
  ·have ih:=lp24 hb hl g m (k+1) (by omega) (by omega);have ht:k<(s.qd.take i).length:=by simp;omega
   have hg:(s.qd.take i).getD k bay0=s.qd.getD k bay0:=by simp[List.getD,hlt]
   rw[Av (d:=bay0) ht,hg];simp only[lt1 hlt,lt1 (show k<s.qd.length by omega),ge0,tn,Bool.and_self,za,nx hlt,ih,List.any_cons];cases h3:((s.qd.getD i bay0).kind !=3)with
   |false=>
    have hn: ∀l:List SBay,l.any (Fp (bI s i))=false:=fun l=>by
     rw[List.any_eq_false];intro y _;unfold Fp;rw[h3];simp
    have hc:Fp (bI s i) (s.qd.getD k bay0)=false:=by unfold Fp;rw[h3];rfl
    rw[hn,hc];simp only[zb,Bool.or_self];exact haft _ _ _ _ rfl rfl rfl rfl
   |true=>
    have hc:Fp (bI s i) (s.qd.getD k bay0)=((s.qd.getD k bay0).kind==(bI s i).kind&&((s.qd.getD k bay0).off==(bI s i).off&&(s.qd.getD k bay0).fin==(bI s i).fin)):=by
     unfold Fp;rw[h3];simp only[Bool.true_and];rw[Bool.beq_comm (a:=(bI s i).kind),Bool.beq_comm (a:=(bI s i).off),Bool.beq_comm (a:=(bI s i).fin)]
    rw[hc];simp only[za];generalize ((s.qd.getD k bay0).kind==(s.qd.getD i bay0).kind)=b1;generalize ((s.qd.getD k bay0).off==(s.qd.getD i bay0).off)=b2;generalize ((s.qd.getD k bay0).fin==(s.qd.getD i bay0).fin)=b3;cases b1<;>cases b2<;>cases b3<;>rfl
  ·obtain rfl:k=i:=by omega
   rw[lt0 (zp _),zl (by simp;omega)];simp only[zb,List.any_nil];exact haft _ _ _ _ rfl rfl rfl rfl
omit hi in
theorem wge(b:Int)(n:Nat):(decide (b<0)||decide (b>=(n:Int)))= !Aa b 0 ((n:Int) -1):=bge b n
omit hi in
theorem w00(b:Int):(b !=0)= !Aa b 0 ((1:Int) -1):=by
 unfold Aa;rw[Bool.eq_iff_iff];simp only[bne_iff_ne,ne_eq,Bool.not_eq_true',Bool.and_eq_false_iff,decide_eq_false_iff_not];omega
theorem c24(hb:s.qd.length<=9223372036854775807)(hl:(bI s i).qe.length<=9223372036854775807):CX prog 62 [aSta s,vI i] [] (vI (Ju s.qa.length s.qb.length s.qc.length (s.qd.take i) (bI s i))) []:=by
 obtain⟨g,hg⟩: ∃g,i<g:=⟨i+1,by omega⟩;refine Am s24.ok func62 b24 rfl ((ev24 (fun a=>Dh (rbay a)) okRB ok24 lk24 s i g).trans ?_);have hL:Vp (fun a=>Dh (rbay a)) okRB ok24 lk24 s i g g 0=bif(s.qd.take i).any (Fp (bI s i))then lI 12 []else lI (Bx s.qa.length (bI s i)) []:=lp24 s i hi hb hl g g 0 (by omega) (by omega);have e1:okRB (bayR (s.qd.getD i bay0))=true:=Gi hl;have e2:Dh (rbay (bayR (s.qd.getD i bay0)))=Dh (s.qd.getD i bay0):=by rw[Jb]
 unfold bayR at e1 e2;rw[hL];simp only[lt1 hi,ge0,tn,Bool.and_self,za,e1,e2,fOr,wge,w00];unfold Ju Sn;cases((s.qd.getD i bay0).kind==1)with
 |true=>
  simp only[za];cases Aa (s.qd.getD i bay0).off 0 ((s.qb.length:Int) -1)<;>first|rfl|(cases Dh (s.qd.getD i bay0)<;>first|rfl|(cases(s.qd.take i).any (Fp (s.qd.getD i bay0))<;>rfl))
 |false=>
  cases((s.qd.getD i bay0).kind==2)with
  |true=>
   simp only[za,zb];cases Aa (s.qd.getD i bay0).off 0 ((s.qc.length:Int) -1)<;>first|rfl|(cases Dh (s.qd.getD i bay0)<;>first|rfl|(cases(s.qd.take i).any (Fp (s.qd.getD i bay0))<;>rfl))
  |false=>
   cases((s.qd.getD i bay0).kind==3)with
   |true=>
    simp only[za,zb];cases Aa (s.qd.getD i bay0).off 0 ((1:Int) -1)<;>first|rfl|(cases Dh (s.qd.getD i bay0)<;>first|rfl|(cases(s.qd.take i).any (Fp (s.qd.getD i bay0))<;>rfl))
   |false=>rfl
end
def Z8:K8 where
 nk:=Ag
 okn a:=okRS a.1&&(decide (0<=a.2.1)&&(decide (0<=a.2.2.1)&&(decide (0<=a.2.2.2.1)&&(decide (0<=a.2.2.2.2.1)&&(decide (a.2.1.toNat<=(rsta a.1).qa.length)&&(decide (a.2.2.1.toNat<=(rsta a.1).qb.length)&&(decide (a.2.2.2.1.toNat<=(rsta a.1).qc.length)&&(decide (a.2.2.2.2.1.toNat<=(rsta a.1).qd.length)&&
  (decide (a.2.1.toNat<=900)&&(decide (a.2.2.1.toNat<=900)&&(decide (a.2.2.2.1.toNat<=900)&&decide (a.2.2.2.2.1.toNat<=900))))))))))))
 nm a:=Ab (B0 (rsta a.1) a.2.1.toNat a.2.2.1.toNat a.2.2.2.1.toNat a.2.2.2.2.1.toNat)
 okd x s:=okDS x s
 nd x s:=Bq (theE Ab x) s
 okb a n:=okRS a&&(decide (0<=n)&&(decide (n.toNat<(rsta a).qd.length)&&(decide ((rsta a).qd.length<=900)&&Mt (rsta a).qd)))
 be a n:=Ju (rsta a).qa.length (rsta a).qb.length (rsta a).qc.length ((rsta a).qd.take n.toNat) ((rsta a).qd.getD n.toNat bay0)
theorem s8:OrcS prog (o8 Z8):=by
 refine .cons (.p D9 c16) (.cons (.d fun a ha=> ?_) (.cons (.d fun a ha=> ?_) (.cons (.inl sOh func61 (by kernel_rfl)) (.cons (.d fun a ha=> ?_) sOh))))
 ·have ha':(okRS a.1.1&&(decide (0<=a.1.2.1)&&(decide (0<=a.1.2.2.1)&&(decide (0<=a.1.2.2.2.1)&&(decide (0<=a.1.2.2.2.2.1)&&(decide (a.1.2.1.toNat<=(rsta a.1.1).qa.length)&&(decide (a.1.2.2.1.toNat<=(rsta a.1.1).qb.length)&&(decide (a.1.2.2.2.1.toNat<=(rsta a.1.1).qc.length)&&(decide (a.1.2.2.2.2.1.toNat<=(rsta a.1.1).qd.length)&&
   (decide (a.1.2.1.toNat<=900)&&(decide (a.1.2.2.1.toNat<=900)&&(decide (a.1.2.2.2.1.toNat<=900)&&decide (a.1.2.2.2.2.1.toNat<=900)))))))))))))=true:=ha
  simp only[zd,zi]at ha';have⟨h0,p1,p2,p3,p4,q1,q2,q3,q4,r1,r2,r3,r4⟩:=ha';have hc:=c21 (rsta a.1.1) a.1.2.1.toNat a.1.2.2.1.toNat a.1.2.2.2.1.toNat a.1.2.2.2.2.1.toNat q1 q2 q3 q4 r1 r2 r3 r4;rw[Int.toNat_of_nonneg p1,Int.toNat_of_nonneg p2,Int.toNat_of_nonneg p3,Int.toNat_of_nonneg p4]at hc;exact hc.ge (.cons (Ady _ h0) (.refl _)) (.refl _)
 ·have ha':okDS a.1.1 a.1.2.1=true:=ha;unfold okDS at ha';simp only[zd,zi]at ha';exact(c20 (theE Ab a.1.1) a.1.2.1 ha'.2).ge (.cons (Du ha'.1) (.refl _)) (.refl _)
 ·have ha':(okRS a.1.1&&(decide (0<=a.1.2.1)&&(decide (a.1.2.1.toNat<(rsta a.1.1).qd.length)&&(decide ((rsta a.1.1).qd.length<=900)&&Mt (rsta a.1.1).qd))))=true:=ha;simp only[zd,zi]at ha';have⟨h0,p1,p2,p3,p4⟩:=ha';have hc:=c24 (rsta a.1.1) a.1.2.1.toNat p2 (by omega) (Wl p4 _ p2);rw[Int.toNat_of_nonneg p1]at hc;exact hc.ge (.cons (Ady _ h0) (.refl _)) (.refl _)
theorem Me{J:Type}{nm:J ->BA}{F:List BA ->List J ->J ->Int}{N:List BA}{d0:J}{l:List J}{L:Nat ->Int ->Option (T (AV×Hp))}{NX:Option (T (AV×Hp))}
  (hst: ∀(m k:Nat),k<l.length ->L (m+1) k=bif F (N++(l.take k).map nm) (l.take k) (l.getD k d0) !=0 then lI (F (N++(l.take k).map nm) (l.take k) (l.getD k d0)) []else L m ((k+1:Nat):Int))
  (hend: ∀m,L (m+1) l.length=NX): ∀(m k:Nat),k<=l.length ->l.length -k<m ->L m k=bif(D3 nm F N (l.take k) (l.drop k)).1 !=0 then lI (D3 nm F N (l.take k) (l.drop k)).1 []else NX
 |0,k,_,h=>by omega|m+1,k,hk,h=>by
  by_cases e:k=l.length
  ·subst e;rw[hend,zl (Nat.le_refl _)];rfl
  ·have hlt:k<l.length:=by omega
   have ih:=Me hst hend m (k+1) (by omega) (by omega);have et:l.take (k+1)=l.take k++[l.getD k d0]:=by
    rw[List.take_succ_eq_append_getElem hlt];congr 2;simp[List.getD,hlt]
   rw[hst m k hlt,ih,et,Av (d:=d0) hlt];simp only[D3];cases hF:(F (N++(l.take k).map nm) (l.take k) (l.getD k d0) !=0)with
   |true=>simp only[za,hF]|false=>simp only[zb]
section
variable (s:SSta)(h1:s.qa.length<=900)(h2:s.qb.length<=900)(h3:s.qc.length<=900)(h4:s.qd.length<=900)(hlk:Mt s.qd=true)
include h1 h2 h3 h4
theorem okn8(a b c d:Nat)(q1:a<=s.qa.length)(q2:b<=s.qb.length)(q3:c<=s.qc.length)(q4:d<=s.qd.length):Z8.okn (staR s,(a:Int),(b:Int),(c:Int),(d:Int),())=true:=by
 show(okRS (staR s)&&(decide (0<=(a:Int))&&(decide (0<=(b:Int))&&(decide (0<=(c:Int))&&(decide (0<=(d:Int))&&(decide ((a:Int).toNat<=(rsta (staR s)).qa.length)&&(decide ((b:Int).toNat<=(rsta (staR s)).qb.length)&&(decide ((c:Int).toNat<=(rsta (staR s)).qc.length)&&(decide ((d:Int).toNat<=(rsta (staR s)).qd.length)&&
  (decide ((a:Int).toNat<=900)&&(decide ((b:Int).toNat<=900)&&(decide ((c:Int).toNat<=900)&&decide ((d:Int).toNat<=900)))))))))))))=true
 rw[Q6,H9,Bool.true_and];simp only[zd,zi,Int.toNat_natCast];omega
omit h1 h2 h3 h4 in
theorem nm8(a b c d:Nat):Z8.nm (staR s,(a:Int),(b:Int),(c:Int),(d:Int),())=Ab (B0 s a b c d):=by
 show Ab (B0 (rsta (staR s)) _ _ _ _)=_;rw[H9];rfl
theorem okd8(a b c d:Nat)(q1:a<=s.qa.length)(q2:b<=s.qb.length)(q3:c<=s.qc.length)(q4:d<=s.qd.length)(x:BA):Z8.okd (Ab (B0 s a b c d)) x=true:=by
 show okDS _ x=true;unfold okDS;rw[(Bj Ca _).1,(Bj Ca _).2];have:(B0 s a b c d).length<=9223372036854775807:=by unfold B0;simp;omega
 simp[this]
omit h1 h2 h3 h4 in
theorem nd8(l:List BA)(x:BA):Z8.nd (Ab l) x=Bq l x:=by
 show Bq (theE Ab (Ab l)) x=_;rw[(Bj Ca l).2]
include hlk
omit h1 h2 h3 in
theorem okb8(k:Nat)(hk:k<s.qd.length):Z8.okb (staR s) (k:Int)=true:=by
 show(okRS (staR s)&&(decide (0<=(k:Int))&&(decide ((k:Int).toNat<(rsta (staR s)).qd.length)&&(decide ((rsta (staR s)).qd.length<=900)&&Mt (rsta (staR s)).qd))))=true;rw[Q6,H9,hlk,Bool.true_and,Bool.and_true];simp only[zd,zi,Int.toNat_natCast];omega
omit h1 h2 h3 h4 hlk in
theorem be8(k:Nat):Z8.be (staR s) (k:Int)=Ju s.qa.length s.qb.length s.qc.length (s.qd.take k) (s.qd.getD k bay0):=by
 show Ju (rsta (staR s)).qa.length _ _ _ _=_;rw[H9];rfl
abbrev Nb(s:SSta):List BA:=s.qa
abbrev Nl(s:SSta):List BA:=s.qa++s.qb.map SLine.name
abbrev Ns(s:SSta):List BA:=s.qa++s.qb.map SLine.name++s.qc.map SSrc.name
theorem Aow(g:Nat)(hg:900<g):Vm Z8 s g g 0=lI (tBay s.qa.length s.qb.length s.qc.length (Ns s) s.qd).1 []:=by
 have:=Me (nm:=SBay.name) (F:=fun N before x=>Jv s.qa.length s.qb.length s.qc.length N before x) (N:=Ns s) (d0:=bay0) (l:=s.qd) (L:=fun m i=>Vm Z8 s g m i) (NX:=lI 0 [])
  (fun m k hk=>by
    have e1:=okn8 s h1 h2 h3 h4 s.qa.length s.qb.length s.qc.length k (by omega) (by omega) (by omega) (by omega);have e2:=nm8 s s.qa.length s.qb.length s.qc.length k;have e3:=okd8 s h1 h2 h3 h4 s.qa.length s.qb.length s.qc.length k (by omega) (by omega) (by omega) (by omega) (s.qd.getD k bay0).name;have e5:=okb8 s h4 hlk k hk;have e6:=be8 s k;have en:B0 s s.qa.length s.qb.length s.qc.length k=Ns s++(s.qd.take k).map SBay.name:=by unfold B0;simp
    simp only[staR,Ab,Aq,Cl,Cg,Ad]at e1 e2 e5 e6;simp only[Ab,Ad]at e3;rw[Ajy];simp only[lt1 hk,ge0,tn,Bool.and_self,za,nx hk,e1,e2,e3,e5,e6];have e4:=nd8 (B0 s s.qa.length s.qb.length s.qc.length k) (s.qd.getD k bay0).name;simp only[Ab,Ad]at e4;simp only[e4];simp only[en,Zj];generalize Bq (Ns s++(s.qd.take k).map SBay.name) (s.qd.getD k bay0).name=a;generalize Ju s.qa.length s.qb.length s.qc.length (s.qd.take k) (s.qd.getD k bay0)=b;unfold bne;cases ha:(a==0)<;>cases hb:(b==0)<;>simp only[ha,hb,za,zb,Bool.not_true,Bool.not_false])
  (fun m=>by rw[Ajy,lt0 (zp _)];rfl) g 0 (by omega) (by omega)
 have e:Vm Z8 s g g 0=_:=this;rw[e];show(bif(tBay s.qa.length s.qb.length s.qc.length (Ns s) s.qd).1 !=0 then lI (tBay s.qa.length s.qb.length s.qc.length (Ns s) s.qd).1 []else lI 0 [])=_;unfold bne;cases hz:((tBay s.qa.length s.qb.length s.qc.length (Ns s) s.qd).1==0)with
 |false=>rfl|true=>
  have:(tBay s.qa.length s.qb.length s.qc.length (Ns s) s.qd).1=0:=by simpa using hz
  rw[this];rfl
end
section
variable (s:SSta)(h1:s.qa.length<=900)(h2:s.qb.length<=900)(h3:s.qc.length<=900)(h4:s.qd.length<=900)(hlk:Mt s.qd=true)
include h1 h2 h3 h4
theorem Aox(g:Nat)(hg:900<g):X3 Z8 s g g 0=bif(tSrc (Nl s) s.qc).1 !=0 then lI (tSrc (Nl s) s.qc).1 []else Vm Z8 s g g 0:=by
 have hh:=Me (nm:=SSrc.name) (F:=fun N _ x=>Pd N x) (N:=Nl s) (d0:=src0) (l:=s.qc) (L:=fun m i=>X3 Z8 s g m i) (NX:=Vm Z8 s g g 0)
  (fun m k hk=>by
    have e1:=okn8 s h1 h2 h3 h4 s.qa.length s.qb.length k 0 (by omega) (by omega) (by omega) (by omega);have e2:=nm8 s s.qa.length s.qb.length k 0;have e3:=okd8 s h1 h2 h3 h4 s.qa.length s.qb.length k 0 (by omega) (by omega) (by omega) (by omega) (s.qc.getD k src0).name;have en:B0 s s.qa.length s.qb.length k 0=Nl s++(s.qc.take k).map SSrc.name:=by unfold B0;simp
    simp only[staR,Ab,Aq,Cl,Cg,Ad,Int.natCast_zero]at e1 e2;simp only[Ab,Ad]at e3;rw[Ajz];simp only[lt1 hk,ge0,tn,Bool.and_self,za,nx hk,e1,e2,e3];have e4:=nd8 (B0 s s.qa.length s.qb.length k 0) (s.qc.getD k src0).name;simp only[Ab,Ad]at e4;simp only[e4];simp only[en,Pd,El,Aa,fNot,fAnd];generalize Bq (Nl s++(s.qc.take k).map SSrc.name) (s.qc.getD k src0).name=a;generalize decide ((s.qc.getD k src0).emf>=1)=a1;generalize decide ((s.qc.getD k src0).emf<=1000000)=a2;generalize decide ((s.qc.getD k src0).r1>=0)=b1;generalize decide ((s.qc.getD k src0).r1<=1000)=b2;generalize decide ((s.qc.getD k src0).x1>=1)=b3;generalize decide ((s.qc.getD k src0).x1<=1000)=b4;generalize decide ((s.qc.getD k src0).r0>=0)=b5;generalize decide ((s.qc.getD k src0).r0<=1000)=b6;generalize decide ((s.qc.getD k src0).x0>=1)=b7;generalize decide ((s.qc.getD k src0).x0<=1000)=b8;unfold bne;cases ha:(a==0)with
    |false=>simp only[ha,za,zb,Bool.not_true,Bool.not_false]|true=>
     simp only[ha,za,zb,Bool.not_true,Bool.not_false];cases a1<;>cases a2<;>first|rfl|(cases b1<;>cases b2<;>cases b3<;>cases b4<;>first|rfl|(cases b5<;>cases b6<;>cases b7<;>cases b8<;>rfl)))
  (fun m=>by rw[Ajz,lt0 (zp _)];rfl) g 0 (by omega) (by omega)
 simp only[List.take_zero,zq]at hh;exact hh
theorem Aoy(g:Nat)(hg:900<g):X4 Z8 s g g 0=bif(Hk (Nb s) s.qb).1 !=0 then lI (Hk (Nb s) s.qb).1 []else X3 Z8 s g g 0:=by
 have hh:=Me (nm:=SLine.name) (F:=fun N _ x=>Jg N x) (N:=Nb s) (d0:=Ah) (l:=s.qb) (L:=fun m i=>X4 Z8 s g m i) (NX:=X3 Z8 s g g 0)
  (fun m k hk=>by
    have e1:=okn8 s h1 h2 h3 h4 s.qa.length k 0 0 (by omega) (by omega) (by omega) (by omega);have e2:=nm8 s s.qa.length k 0 0;have e3:=okd8 s h1 h2 h3 h4 s.qa.length k 0 0 (by omega) (by omega) (by omega) (by omega) (s.qb.getD k Ah).name;have en:B0 s s.qa.length k 0 0=Nb s++(s.qb.take k).map SLine.name:=by unfold B0;simp
    simp only[staR,Ab,Aq,Cl,Cg,Ad,Int.natCast_zero]at e1 e2;simp only[Ab,Ad]at e3;rw[AjA];simp only[lt1 hk,ge0,tn,Bool.and_self,za,nx hk,e1,e2,e3];have e4:=nd8 (B0 s s.qa.length k 0 0) (s.qb.getD k Ah).name;simp only[Ab,Ad]at e4;simp only[e4];simp only[en,Jg,El,Aa,fNot,fAnd];generalize Bq (Nb s++(s.qb.take k).map SLine.name) (s.qb.getD k Ah).name=a;generalize decide ((s.qb.getD k Ah).r1>=0)=b1;generalize decide ((s.qb.getD k Ah).r1<=1000)=b2;generalize decide ((s.qb.getD k Ah).x1>=1)=b3;generalize decide ((s.qb.getD k Ah).x1<=1000)=b4;generalize decide ((s.qb.getD k Ah).r0>=0)=b5;generalize decide ((s.qb.getD k Ah).r0<=1000)=b6;generalize decide ((s.qb.getD k Ah).x0>=1)=b7;generalize decide ((s.qb.getD k Ah).x0<=1000)=b8;unfold bne;cases ha:(a==0)with
    |false=>simp only[ha,za,zb,Bool.not_true,Bool.not_false]|true=>
     simp only[ha,za,zb,Bool.not_true,Bool.not_false];cases b1<;>cases b2<;>cases b3<;>cases b4<;>first|rfl|(cases b5<;>cases b6<;>cases b7<;>cases b8<;>rfl))
  (fun m=>by rw[AjA,lt0 (zp _)];rfl) g 0 (by omega) (by omega)
 simp only[List.take_zero,zq]at hh;exact hh
theorem st7'(g m k:Nat)(hk:k<s.qa.length):L8_7 Z8 s g (m+1) k=bif Bq (s.qa.take k) (s.qa.getD k e0) !=0 then lI (Bq (s.qa.take k) (s.qa.getD k e0)) []else L8_7 Z8 s g m ((k+1:Nat):Int):=by
 have e1:=okn8 s h1 h2 h3 h4 k 0 0 0 (by omega) (by omega) (by omega) (by omega);have e2:=nm8 s k 0 0 0;have e3:=okd8 s h1 h2 h3 h4 k 0 0 0 (by omega) (by omega) (by omega) (by omega) (s.qa.getD k e0);have en:B0 s k 0 0 0=s.qa.take k:=by unfold B0;simp
 simp only[staR,Ab,Aq,Cl,Cg,Ad,Int.natCast_zero]at e1 e2;simp only[Ab,Ad]at e3;rw[AnP];simp only[lt1 hk,ge0,tn,Bool.and_self,za,e1,e2];rw[nx hk,e3];have e4:=nd8 (B0 s k 0 0 0) (s.qa.getD k e0);simp only[Ab,Ad]at e4;simp only[e4,za];simp only[en]
theorem Aqb(g:Nat)(hg:900<g):L8_7 Z8 s g g 0=bif(tBus s.qa).1 !=0 then lI (tBus s.qa).1 []else X4 Z8 s g g 0:=by
 have hh:=Me (nm:=id) (F:=fun N _ x=>Bq N x) (N:=[]) (d0:=e0) (l:=s.qa) (L:=fun m i=>L8_7 Z8 s g m i) (NX:=X4 Z8 s g g 0)
  (fun m k hk=>by
    have:=st7' s h1 h2 h3 h4 g m k hk;simp only[List.nil_append,List.map_id];exact this)
  (fun m=>by rw[AnP,lt0 (zp _)];simp only[zb]) g 0 (by omega) (by omega)
 simp only[List.take_zero,zq]at hh;exact hh
end
theorem c8(s:SSta)(hlk:Mt s.qd=true):CX prog 28 [aSta s] [] (vI (A3 s)) []:=by
 obtain⟨g,hg⟩: ∃g,900<g:=⟨901,by omega⟩;refine Am s8.ok func28 b8 rfl ((ev8 Z8 s g).trans ?_);have t4: ∀n:Nat,decide ((n:Int)>4)=decide (4<n):=fun n=>S7 n 4
 have t6: ∀n:Nat,decide ((n:Int)>6)=decide (6<n):=fun n=>S7 n 6
 have t16: ∀n:Nat,decide ((n:Int)>16)=decide (16<n):=fun n=>S7 n 16
 have t1: ∀n:Nat,decide ((n:Int)<1)=(n==0):=fun n=>by
  rw[Bool.eq_iff_iff,zi,beq_iff_eq];omega
 simp only[t1,t4,t6,t16,fOr];unfold A3;show(bif !Ag s.name then _ else _)=_;cases Ag s.name with
 |false=>rfl|true=>
  simp only[Bool.not_true,zb];have hcb:(s.qa.length==0||(decide (4<s.qa.length)||(decide (6<s.qb.length)||(decide (4<s.qc.length)||decide (16<s.qd.length)))))=Jp s:=rfl;rw[hcb];cases hc:Jp s with
  |true=>rfl|false=>
   simp only[zb];unfold Jp at hc;simp only[Bool.or_eq_false_iff,decide_eq_false_iff_not]at hc;have⟨_,h4,h6,h4',h16⟩:=hc;rw[Aqb s (by omega) (by omega) (by omega) (by omega) g hg,Aoy s (by omega) (by omega) (by omega) (by omega) g hg,Aox s (by omega) (by omega) (by omega) (by omega) g hg,Aow s (by omega) (by omega) (by omega) (by omega) hlk g hg];cases((tBus s.qa).1 !=0)with
   |true=>rfl|false=>
    cases((Hk s.qa s.qb).1 !=0)with
    |true=>rfl|false=>
     cases((tSrc (s.qa++s.qb.map SLine.name) s.qc).1 !=0)<;>rfl
end Go.Y.st
namespace Go.Y.tb
open Go.RowKit Go.Eb Go.Y.st
open Go.Y.se (Bu B3 Bh Q3 D4 Br H6 Fz Ew Rk M1 Y8 Po c13c cCk cSz vP eSt Fo)
open Go.Y.sg (fitR FitR Cv fitC E6 eR1 D7 cSck cRck eCf D8)
def largeR(r:SRel):Bool:=decide (20<r.qi.length)||(decide (8<r.qj.length)||(decide (8<r.qk.length)||(decide (30<r.ql.length)||((r.qj.any fun x=>decide (30<x.qm.length))||r.qi.any fun x=>decide (200<x.text.size)))))
theorem Qg{J:Type}{p:J ->Bool}{l:List J}{d0:J}{L:Nat ->Int ->Option (T (AV×Hp))}{A B:Option (T (AV×Hp))}
  (hst: ∀(m k:Nat),k<l.length ->L (m+1) k=bif p (l.getD k d0)then A else L m ((k+1:Nat):Int)) (hend: ∀m,L (m+1) l.length=B):
  ∀(m k:Nat),k<=l.length ->l.length -k<m ->L m k=bif(l.drop k).any p then A else B
 |0,k,_,h=>by omega|m+1,k,hk,h=>by
  by_cases e:k=l.length
  ·subst e;rw[hend,zl (Nat.le_refl _)];rfl
  ·have hlt:k<l.length:=by omega
   rw[hst m k hlt,Qg hst hend m (k+1) (by omega) (by omega),Av (d:=d0) hlt];simp only[List.any_cons];cases p (l.getD k d0)<;>rfl
theorem lg7b(r:SRel)(g:Nat)(h1:r.qi.length<=9223372036854775807)(g2:r.qi.length<g):R7 r g g 0=bif(r.qi.any fun x=>decide (200<x.text.size))then lB true else lB false:=by
 have t200: ∀n:Nat,decide ((n:Int)>200)=decide (200<n):=fun n=>gtD n 200
 have l2:=Qg (p:=fun x:SRule=>decide (200<x.text.size)) (l:=r.qi) (d0:=Be) (L:=fun m i=>R7 r g m i) (A:=lB true) (B:=lB false) (fun m k hk=>by
  have st:=Adp r g m k;rw[lt1 hk,ge0,tn,nx hk h1,t200]at st;rw[tt,za]at st;exact st) (fun m=>by
  have st:=Adp r g m (r.qi.length:Nat);rw[lt0 (zp _)]at st;rw[zb]at st;exact st) g 0 (by omega) (by omega)
 exact l2
theorem lg7a(r:SRel)(g:Nat)(h2:r.qj.length<=9223372036854775807)(g1:r.qj.length<g):Xw r g g 0=bif(r.qj.any fun x=>decide (30<x.qm.length))then lB true else R7 r g g 0:=by
 have t30: ∀n:Nat,decide ((n:Int)>30)=decide (30<n):=fun n=>gtD n 30
 have l1:=Qg (p:=fun x:SSet=>decide (30<x.qm.length)) (l:=r.qj) (d0:=set0) (L:=fun m i=>Xw r g m i) (A:=lB true) (B:=R7 r g g 0) (fun m k hk=>by
  have st:=Adq r g m k;rw[lt1 hk,ge0,tn,nx hk h2,t30]at st;rw[tt,za]at st;exact st) (fun m=>by
  have st:=Adq r g m (r.qj.length:Nat);rw[lt0 (zp _)]at st;rw[zb]at st;exact st) g 0 (by omega) (by omega)
 exact l1
theorem ArD(a b c d e f:Bool):(bif a then lB true else bif b then lB true else bif c then lB true else bif d then lB true else bif e then lB true else bif f then lB true else lB false)=lB (a||(b||(c||(d||(e||f))))):=by
 cases a<;>cases b<;>cases c<;>cases d<;>cases e<;>cases f<;>rfl
theorem clg7(r:SRel)(hr:Ci r=true):CX prog 44 [aRel r] [] (vB (largeR r)) []:=by
 obtain⟨h1,h2,h3,h4,h5⟩:=Jd hr;obtain⟨g,g1,g2⟩: ∃g,r.qj.length<g/\r.qi.length<g:=⟨r.qj.length+r.qi.length+1,by omega⟩;refine Am (Orc.nil_ok _) func44 blg7 rfl ((AqQ r g).trans ?_);have t30: ∀n:Nat,decide ((n:Int)>30)=decide (30<n):=fun n=>gtD n 30
 have t20: ∀n:Nat,decide ((n:Int)>20)=decide (20<n):=fun n=>gtD n 20
 have t8: ∀n:Nat,decide ((n:Int)>8)=decide (8<n):=fun n=>gtD n 8
 rw[lg7a r g h2 g1,lg7b r g h1 g2,t20,t8,t8,t30];exact ArD _ _ _ _ _ _
def Rb(l:List SRel):Bool:=decide (20<l.length)||l.any largeR
def Ej(c:SCfg):Bool:=Wp c.sta||Rb c.qh
def okCf(c:SCfg):Bool:=Bv c.sta&&(Au c.qh&&c.qh.all Ci)
theorem G4{c:SCfg}(h:okCf c=true):Bv c.sta=true/\Au c.qh=true/\c.qh.all Ci=true:=by
 unfold okCf at h;simp only[zd]at h;exact⟨h.1,h.2.1,h.2.2⟩
theorem clg8(c:SCfg)(h:okCf c=true):CX prog 20 [aCfg c] [] (vB (Rb c.qh)) []:=by
 obtain⟨_,hl,ha⟩:=G4 h;have hs:OrcS prog (oLg8 (okG eR1 Ci) fun x=>largeR (theT eR1 x)):= .cons (.t' (enc:=eR1) (c:=Ci) (r:=fun r=>vB (largeR r)) fun r hr=>clg7 r hr) .nil;have e:=Qg (p:=largeR) (l:=c.qh) (d0:=rel0) (L:=fun m i=>AbA (okG eR1 Ci) (fun x=>largeR (theT eR1 x)) c (c.qh.length+1) m i) (A:=lB true) (B:=lB false) (fun m k hk=>by
  have k1:okG eR1 Ci [AV.agg (List.map C.d (relC (c.qh.getD k rel0)))]=true:=Ao D7 (c:=Ci) (c.qh.getD k rel0) (E7 ha rfl k);have k2:theT eR1 [AV.agg (List.map C.d (relC (c.qh.getD k rel0)))]=c.qh.getD k rel0:=Aj D7 (c.qh.getD k rel0);rw[Ado,lt1 hk,ge0,tn,k1,k2,nx hk (Bi hl),tt,za,za,za]) (fun m=>by
  rw[Ado,lt0 (zp _)];rfl) (c.qh.length+1) 0 (by omega) (by omega)
 refine Am hs.ok func20 blg8 rfl ((AqP _ _ c (c.qh.length+1)).trans ?_);have t20:decide ((c.qh.length:Int)>20)=decide (20<c.qh.length):=gtD c.qh.length 20;rw[t20];unfold Rb;cases decide (20<c.qh.length)with
 |true=>rfl|false=>
  rw[zb];refine Eq.trans e ?_;rw[zq];cases c.qh.any largeR<;>rfl
theorem clg9(c:SCfg)(h:okCf c=true):CX prog 8 [aCfg c] [] (vB (Ej c)) []:=by
 have hs:OrcS prog (oLg9 (okG eSt Bv) (fun x=>Wp (theT eSt x)) (okG eCf okCf) fun x=>Rb (theT eCf x).qh):=
  .cons (.t' (enc:=eSt) (c:=Bv) (r:=fun s=>vB (Wp s)) fun s hs=>c7 s hs) (.cons (.t' (enc:=eCf) (c:=okCf) (r:=fun c=>vB (Rb c.qh)) fun c hc=>clg8 c hc) .nil)
 refine Am hs.ok func8 (by kernel_rfl) rfl ((Arb _ _ _ _ c).trans ?_);have k1:okG eSt Bv [AV.agg (List.map C.d (staC c.sta))]=true:=Ao Fo (c:=Bv) c.sta (G4 h).1;have k2:theT eSt [AV.agg (List.map C.d (staC c.sta))]=c.sta:=Aj Fo c.sta;have k3:okG eCf okCf [AV.agg (List.map C.d (cfgC c))]=true:=Ao D8 (c:=okCf) c h;have k4:theT eCf [AV.agg (List.map C.d (cfgC c))]=c:=Aj D8 c;rw[k1,k2,k3,k4];unfold Ej;cases Wp c.sta<;>rfl
theorem bz{a:Bool}{k x:Int}(h:(bif !a then k else x)=0)(hk:k≠0):a=true/\x=0:=by
 cases a
 ·exact absurd h hk
 ·exact⟨rfl,h⟩
theorem bz'{k x:Int}(h:(bif k !=0 then k else x)=0):k=0/\x=0:=by
 cases e:(k !=0)with
 |true=>rw[e]at h;have h:k=0:=h;rw[h]at e;cases e|false=>rw[e]at h;exact⟨by simpa using e,h⟩
theorem chk_all(qd:List SBay): ∀(l:List SRel) (N:List BA) (B:List Int) (i:Nat),(Bu qd N B i l).2=0 -> ∀k,k<l.length -> ∃N B,B3 qd N B (l.getD k rel0)=0
 |[],_,_,_,_,k,hk=>by simp at hk|r::t,N,B,i,h,k,hk=>by
  simp only[Bu]at h;cases e:(B3 qd N B r !=0)with
  |true=>
   rw[e]at h;simp only[za]at h;rw[h]at e;cases e
  |false=>
   rw[e]at h;simp only[zb]at h;cases k with
   |zero=>exact⟨N,B,by simpa using e⟩|succ k=>exact chk_all qd t _ _ _ h k (by simpa using hk)
theorem Ams{qd:List SBay}{B:List Int}{r:SRel}(h:Bh qd B r=0):1<=r.kind/\r.kind<=4:=by
 unfold Bh at h;cases e1:(r.kind==1)with
 |true=>have:=eq_of_beq e1;omega|false=>
  cases e2:(r.kind==2)with
  |true=>have:=eq_of_beq e2;omega|false=>
   cases e3:(r.kind==3)with
   |true=>have:=eq_of_beq e3;omega|false=>
    cases e4:(r.kind==4)with
    |true=>have:=eq_of_beq e4;omega|false=>rw[e1,e2,e3,e4]at h;exact absurd h (show ¬(10:Int)=0 by decide)
theorem AlQ{qd:List SBay}{N:List BA}{B:List Int}{r:SRel}(h:B3 qd N B r=0):fitR r=true/\Uq r/\r.qk.length<=8:=by
 unfold B3 at h;obtain⟨_,h⟩:=bz h (by decide);cases e:inB N r.name with
 |true=>rw[e]at h;exact absurd h (show ¬(8:Int)=0 by decide)|false=>
  rw[e,zb]at h;obtain⟨hp,h⟩:=bz' h;obtain⟨k1,k4⟩:=Ams hp;unfold D4 at h;obtain⟨_,h⟩:=bz h (by decide);obtain⟨_,h⟩:=bz h (by decide);obtain⟨_,h⟩:=bz h (by decide);obtain⟨_,h⟩:=bz h (by decide);obtain⟨_,h⟩:=bz h (by decide);obtain⟨_,h⟩:=bz h (by decide);obtain⟨hc,h⟩:=bz h (by decide);unfold Fz at h;obtain⟨_,h⟩:=bz' h;obtain⟨hs,h⟩:=bz' h;obtain⟨hpu,_⟩:=bz' h;unfold Br at hc;simp only[zd,zi,Bool.not_eq_true']at hc;have⟨c1,c2,c3,c4,c5⟩:=hc;refine⟨?_,⟨(G8 hs).1,(G8 hpu).1⟩,by omega⟩;unfold fitR;have hsg:(r.qj.all fun x=>decide (x.qm.length<=1000))=true:=by
   rw[List.all_eq_true];intro x hx;rw[List.any_eq_false]at c5;have:=c5 x hx;unfold H6 at this;simp only[Bool.not_eq_true',Bool.not_eq_false,zd,zi]at this;exact zk
  rw[zk k1,zk k4,zk (show r.qi.length<=1000 by omega),zk (show r.qj.length<=1000 by omega),zk (show r.qk.length<=1000 by omega),zk (show r.ql.length<=1000 by omega),hsg];rfl
def Eu(c:SCfg):Int:=bif A3 c.sta !=0 then A3 c.sta else bif(Bu c.sta.qd (Bd c.sta) [] 0 c.qh).2 !=0 then(Bu c.sta.qd (Bd c.sta) [] 0 c.qh).2 else(Fy c.qh 0 c.qh).2
theorem Afx{c:SCfg}(h:okCf c=true)(hL:Ej c=false)(h0:(Bu c.sta.qd (Bd c.sta) [] 0 c.qh).2=0):fitC c.qh=true/\(∀r∈c.qh,Uq r)/\c.qh.length<=20/\ ∀r∈c.qh,r.qk.length<=8:=by
 unfold Ej Rb at hL;simp only[Bool.or_eq_false_iff,decide_eq_false_iff_not]at hL;have hl:c.qh.length<=20:=by have:=hL.2.1;omega
 have key: ∀r∈c.qh,fitR r=true/\Uq r/\r.qk.length<=8:=fun r hr=>by
  obtain⟨k,hk,rfl⟩:=List.getElem_of_mem hr;obtain⟨N,B,e⟩:=chk_all _ _ _ _ _ h0 k hk;have e1:c.qh.getD k rel0=c.qh[k]:=by simp[List.getD,hk]
  rw[e1]at e;exact AlQ e
 refine⟨?_,fun r hr=>(key r hr).2.1,hl,fun r hr=>(key r hr).2.2⟩;unfold fitC;rw[zk (show c.qh.length<=1000 by omega),(G4 h).2.2,List.all_eq_true.2 fun r hr=>(key r hr).1];rfl
def eSR(a:SSta×List SRel):List AV:=[aSta a.1, .c (.d (Di a.2))]
theorem Uv:InjT eSR:=fun a b h=>Prod.ext (Ee _ _ (Ar h).1) (A8 (sz:=53) (d0:=rel0) Lk _ _ (Nf (Ar (Ar h).2).1))
def cSR(a:SSta×List SRel):Bool:=Bv a.1&&(Au a.2&&a.2.all Ci)
def ZTc:KTc where
 okS:=okG eSt Bv
 chk x:=A3 (theT eSt x)
 okT:=okG eSR cSR
 se x:=Po (theT eSR x).1 (theT eSR x).2
 okg:=okG eCf fun c=>fitC c.qh
 sg x:=Fy (theT eCf x).qh 0 (theT eCf x).qh
theorem zTc{c:SCfg}(h:okCf c=true):ZTc.okS [AV.agg (List.map C.d (staC c.sta))]=true/\ZTc.chk [AV.agg (List.map C.d (staC c.sta))]=A3 c.sta/\ZTc.okT [AV.agg (List.map C.d (staC c.sta)),AV.c (C.d (Ad 53 relC rel0 c.qh))]=true/\
  ZTc.se [AV.agg (List.map C.d (staC c.sta)),AV.c (C.d (Ad 53 relC rel0 c.qh))]=Po c.sta c.qh/\(fitC c.qh=true ->ZTc.okg [AV.agg (List.map C.d (cfgC c))]=true)/\ZTc.sg [AV.agg (List.map C.d (cfgC c))]=Fy c.qh 0 c.qh:=by
 obtain⟨h1,h2,h3⟩:=G4 h;have t1:theT eSt [AV.agg (List.map C.d (staC c.sta))]=c.sta:=Aj Fo c.sta;have t2:theT eSR [AV.agg (List.map C.d (staC c.sta)),AV.c (C.d (Ad 53 relC rel0 c.qh))]=(c.sta,c.qh):=Aj Uv (c.sta,c.qh);have t3:theT eCf [AV.agg (List.map C.d (cfgC c))]=c:=Aj D8 c;refine⟨Ao Fo (c:=Bv) c.sta h1, ?_,Ao Uv (c:=cSR) (c.sta,c.qh) (by unfold cSR;simp only[zd];exact⟨h1,h2,h3⟩), ?_,fun hf=>Ao D8 (c:=fun c=>fitC c.qh) c hf, ?_⟩
 ·dsimp only[ZTc];rw[t1]
 ·dsimp only[ZTc];rw[t2]
 ·dsimp only[ZTc];rw[t3]
theorem sTc:OrcS prog (oTc ZTc):=
 .cons (.t' (enc:=eSt) (c:=Bv) (r:=fun s=>vI (A3 s)) fun s hs=>c12 s (Ei hs).2.2.2.2) (.cons (.t' (enc:=eSR) (c:=cSR) (r:=fun a=>vQ (Po a.1 a.2)) fun a ha=>by
  unfold cSR at ha;simp only[zd]at ha;exact c13c a.1 a.2 ha.1 ha.2.1 ha.2.2) (.cons (.t' (enc:=eCf) (c:=fun c=>fitC c.qh) (r:=fun c=>vQ (Fy c.qh 0 c.qh)) fun c hc=>cSck c hc) .nil))
theorem AcS(Z:KTc)(c:SCfg){R:Option (T (AV×Hp))}(h1:Z.okS [AV.agg (List.map C.d (staC c.sta))]=true)(h2:Z.chk [AV.agg (List.map C.d (staC c.sta))]=A3 c.sta)(h3:Z.okT [AV.agg (List.map C.d (staC c.sta)),AV.c (C.d (Ad 53 relC rel0 c.qh))]=true)
  (h4:A3 c.sta=0 ->Z.se [AV.agg (List.map C.d (staC c.sta)),AV.c (C.d (Ad 53 relC rel0 c.qh))]=Bu c.sta.qd (Bd c.sta) [] 0 c.qh) (h5:(Bu c.sta.qd (Bd c.sta) [] 0 c.qh).2=0 ->Z.okg [AV.agg (List.map C.d (cfgC c))]=true) (h6:Z.sg [AV.agg (List.map C.d (cfgC c))]=Fy c.qh 0 c.qh)
  (hR:R=(bif Z.okS [AV.agg (List.map C.d (staC c.sta))]then(bif Z.chk [AV.agg (List.map C.d (staC c.sta))] !=0 then some (T.leaf (AV.c (C.d (D.v (Value.int IntKind.i64 (Z.chk [AV.agg (List.map C.d (staC c.sta))])))),[]))else(bif Z.okT [AV.agg (List.map C.d (staC c.sta)),AV.c (C.d (Ad 53 relC rel0 c.qh))]then
    (bif(Z.se [AV.agg (List.map C.d (staC c.sta)),AV.c (C.d (Ad 53 relC rel0 c.qh))]).2 !=0 then some (T.leaf (AV.c (C.d (D.v (Value.int IntKind.i64 (Z.se [AV.agg (List.map C.d (staC c.sta)),AV.c (C.d (Ad 53 relC rel0 c.qh))]).2))),[]))else
      (bif Z.okg [AV.agg (List.map C.d (cfgC c))]then some (T.leaf (AV.c (C.d (D.v (Value.int IntKind.i64 (Z.sg [AV.agg (List.map C.d (cfgC c))]).2))),[]))else none))else none))else none)):R=some (.leaf (vI (Eu c),[])):=by
 rw[hR,h1,h2,h3,h6];unfold Eu;cases hz:(A3 c.sta !=0)with
 |true=>rfl|false=>
  rw[h4 (by simpa using hz)];cases hy:((Bu c.sta.qd (Bd c.sta) [] 0 c.qh).2 !=0)with
  |true=>rfl|false=>
   rw[h5 (by simpa using hy)];rfl
theorem cTab(c:SCfg)(h:okCf c=true)(hL:Ej c=false):CX prog 13 [aCfg c] [] (vI (Eu c)) []:=by
 obtain⟨z1,z2,z3,z4,z5,z6⟩:=zTc h;refine Am sTc.ok func13 (by kernel_rfl) rfl (AcS ZTc c z1 z2 z3 (fun h0=> ?_) (fun h0=>z5 (Afx h hL h0).1) z6 (evTc ZTc c));rw[z4];unfold Po;rw[h0];rfl
def cSR'(a:SSta×List SRel):Bool:=cSz a.1&&(Au a.2&&a.2.all Ci)
def ZRt:KTc where
 okS:=okG eSt Bv
 chk x:=A3 (theT eSt x)
 okT:=okG eSR cSR'
 se x:=Bu (theT eSR x).1.qd (Bd (theT eSR x).1) [] 0 (theT eSR x).2
 okg:=okG eCf fun c=>fitC c.qh
 sg x:=Fy (theT eCf x).qh 0 (theT eCf x).qh
theorem sRt:OrcS prog (oRt ZRt):=
 .cons (.t' (enc:=eSt) (c:=Bv) (r:=fun s=>vI (A3 s)) fun s hs=>c8 s (Ei hs).2.2.2.2) (.cons (.t' (enc:=eSR) (c:=cSR') (r:=fun a=>vQ (Bu a.1.qd (Bd a.1) [] 0 a.2)) fun a ha=>by
  unfold cSR' at ha;simp only[zd]at ha;exact cCk a.1 a.2 ha.1 ha.2.1 ha.2.2) (.cons (.t' (enc:=eCf) (c:=fun c=>fitC c.qh) (r:=fun c=>vQ (Fy c.qh 0 c.qh)) fun c hc=>cRck c hc) .nil))
theorem cRtb(c:SCfg)(h:okCf c=true)(hL:Ej c=false):CX prog 12 [aCfg c] [] (vI (Eu c)) []:=by
 obtain⟨h1,h2,h3⟩:=G4 h;have t1:theT eSt [AV.agg (List.map C.d (staC c.sta))]=c.sta:=Aj Fo c.sta;have t2:theT eSR [AV.agg (List.map C.d (staC c.sta)),AV.c (C.d (Ad 53 relC rel0 c.qh))]=(c.sta,c.qh):=Aj Uv (c.sta,c.qh);have t3:theT eCf [AV.agg (List.map C.d (cfgC c))]=c:=Aj D8 c;have hz:cSz c.sta=true:=by
  unfold Ej Wp at hL;simp only[Bool.or_eq_false_iff,decide_eq_false_iff_not]at hL;unfold cSz;simp only[zd,zi];omega
 refine Am sRt.ok func12 (by kernel_rfl) rfl (AcS ZRt c (Ao Fo (c:=Bv) c.sta h1) ?_ (Ao Uv (c:=cSR') (c.sta,c.qh) (by unfold cSR';simp only[zd];exact⟨hz,h2,h3⟩)) (fun _=> ?_) (fun h0=>Ao D8 (c:=fun c=>fitC c.qh) c (Afx h hL h0).1) ?_ (evRt ZRt c))
 ·dsimp only[ZRt];rw[t1]
 ·dsimp only[ZRt];rw[t2]
 ·dsimp only[ZRt];rw[t3]
end Go.Y.tb
namespace Go.Eb
open Go.RowKit
def frzV(H:Hp):List AV ->Option (List AV×List Nat)
 |[]=>some ([],[])|x::r=>match x with
  | .c c=>match frz H 400 c with
   |some (d,ks)=>match frzV H r with
    |some (l,ks')=>some (.c (.d d)::l,ks++ks')|none=>none
   |none=>none
  | .agg cs=>match frzL H 400 cs with
   |some (ds,ks)=>match frzV H r with
    |some (l,ks')=>some (.agg (ds.map .d)::l,ks++ks')|none=>none
   |none=>none
  |_=>none
def AiF:C ->Bool
 | .d _=>true|_=>false
def AiH:AV ->Bool
 | .c x=>AiF x| .agg cs=>cs.all AiF|_=>false
section
variable {O O':Bt}{w:World}{I:Im}{H:Hp}
theorem AaY{x:C}{v:Value}(h:AiF x=true)(hx:RepC O w I x v):RepC O' w I x v:=by
 match x,h with
 | .d y,_=>exact hx
theorem AiG{x:AV}{v:Value}(h:AiH x=true)(hx:RepA O w I x v):RepA O' w I x v:=by
 cases x with
 |c x=>exact AaY h hx|agg cs=>
  obtain⟨vs,rfl,hv⟩:=hx;refine⟨vs,rfl,hv.1,fun i c v h1 h2=>AaY ?_ (hv.2 i c v h1 h2)⟩;have h:cs.all AiF=true:=h;rw[List.all_eq_true]at h;exact h c (List.mem_of_getElem? h1)
 |tup ps=>cases h|u=>cases h
theorem Y3(hr:RelH O H I w): ∀(args ds:List AV) (ks:List Nat) (vs:List Value),frzV H args=some (ds,ks) ->args.length=vs.length ->(∀(i:Nat) x v,args[i]? =some x ->vs[i]? =some v ->RepA O w I x v) ->
  (∀k∈ks,O k≠ .free)/\ds.length=args.length/\
  ∀I':Im,(∀b o,I b o ->I' b o) ->(∀k∈ks,∀b,(O k).blk=some b -> ∀o,I' b o) -> ∀(i:Nat) y v,ds[i]? =some y ->vs[i]? =some v -> ∀O',RepA O' w I' y v
 |[],ds,ks,vs,h,_,_=>by
  simp only[frzV,zj,Prod.mk.injEq]at h;obtain⟨rfl,rfl⟩:=h;exact⟨fun k hk=>by simp at hk,rfl,fun I' _ _ i y v h=>by simp at h⟩
 | .c c::r,ds,ks,[],h,hl,_=>by simp at hl| .c c::r,ds,ks,v0::vs,h,hl,ha=>by
  simp only[frzV]at h;split at h
  ·rename_i d ks1 hf;split at h
   ·rename_i l ks2 hl2;simp only[zj,Prod.mk.injEq]at h;obtain⟨rfl,rfl⟩:=h;obtain⟨a1,a2,a3⟩:=Y3 hr r l ks2 vs hl2 (by simpa using hl) (fun i x v h1 h2=>ha (i+1) x v (by simpa using h1) (by simpa using h2));have hv0:RepC O w I c v0:=ha 0 _ v0 rfl rfl;obtain⟨f1,f2⟩:=AaJ hr 400 c d ks1 v0 hf hv0;refine⟨fun k hk=> ?_,by simp[a2],fun I' h1 h2 i y v e2 ev O'=> ?_⟩
    ·rcases List.mem_append.1 hk with hk|hk
     ·exact f1 k hk
     ·exact a1 k hk
    ·cases i with
     |zero=>
      simp at e2 ev;subst e2 ev;exact f2 I' h1 (fun k hk=>h2 k (List.mem_append.2 (.inl hk)))
     |succ i=>exact a3 I' h1 (fun k hk=>h2 k (List.mem_append.2 (.inr hk))) i y v (by simpa using e2) (by simpa using ev) O'
   ·simp at h
  ·simp at h
 | .agg cs::r,ds,ks,[],h,hl,_=>by simp at hl| .agg cs::r,ds,ks,v0::vs,h,hl,ha=>by
  simp only[frzV]at h;split at h
  ·rename_i d ks1 hf;split at h
   ·rename_i l ks2 hl2;simp only[zj,Prod.mk.injEq]at h;obtain⟨rfl,rfl⟩:=h;obtain⟨a1,a2,a3⟩:=Y3 hr r l ks2 vs hl2 (by simpa using hl) (fun i x v h1 h2=>ha (i+1) x v (by simpa using h1) (by simpa using h2));obtain⟨us,rfl,hu⟩:=ha 0 _ v0 rfl rfl;obtain⟨f1,f2⟩:=F5 hr 400 cs d ks1 _ hf hu;refine⟨fun k hk=> ?_,by simp[a2],fun I' h1 h2 i y v e2 ev O'=> ?_⟩
    ·rcases List.mem_append.1 hk with hk|hk
     ·exact f1 k hk
     ·exact a1 k hk
    ·cases i with
     |zero=>
      simp at e2 ev;subst e2 ev;exact⟨us,rfl,T2 (f2 I' h1 (fun k hk=>h2 k (List.mem_append.2 (.inl hk))))⟩
     |succ i=>exact a3 I' h1 (fun k hk=>h2 k (List.mem_append.2 (.inr hk))) i y v (by simpa using e2) (by simpa using ev) O'
   ·simp at h
  ·simp at h
 | .tup _::_,ds,ks,vs,h,_,_=>by simp[frzV]at h| .u::_,ds,ks,vs,h,_,_=>by simp[frzV]at h
end
theorem CR.eats{P:Program}{f:FuncId}{args ds:List AV}{H:Hp}{x:AV}{ks:List Nat}(h:CR P f ds [] x [])(hp:AiH x=true)(hf:frzV H args=some (ds,ks)):CR P f args H x (A9 (Fm ks) H):=by
 intro O I w vs hr ha;obtain⟨hks,hl,hreps⟩:=Y3 hr args ds ks vs.toList hf (by simpa using ha.1) (fun i x v h1 h2=>ha.2 i x v h1 (by simpa using h2));have hr0:RelH (fun _=> .free) [] (Ce O I ks) w:=by
  refine⟨⟨(fun i j b hi=>by cases hi),(fun i b hi=>by cases hi),(fun i b o hi=>by cases hi),(hr.toPlace.kill ks).old,(hr.toPlace.kill ks).gl⟩,fun i _=>rfl,fun i B hB=>by have hB':(none:Option Blk)=some B:=hB;cases hB'⟩
 have ha0:RepF (fun _=> .free) w (Ce O I ks) ds vs:=by
  refine⟨by rw[hl];exact ha.1,fun i y v h1 h2=> ?_⟩;exact hreps _ (fun _ _ hi=> .inl hi) (fun k hk b hb o=> .inr ⟨k,hk,hb⟩) i y v h1 (by simpa using h2) _
 refine(h _ _ w vs hr0 ha0).mono fun e w' ⟨v,O',I',he,hr',hx,hE,hm⟩=> ?_
 have hblk: ∀b,b<w.heap.size ->w'.heap[b]? =w.heap[b]?:=fun b hb=>hE.block b hb (fun k hk=>by cases hk)
 have hfree: ∀k,O' k= .free:=fun k=>hr'.dom k rfl
 have hnew: ∀b o,I' b o ->Ce O I ks b o\/w.heap.size<=b:=fun b o hi=>by
  rcases hE.newI b o hi with h1|h1|⟨k,hk⟩
  ·exact .inl h1
  ·exact .inr h1
  ·cases hk
 have hpl:Place (Bp O ks) I' w':=by
  refine⟨(hr.toPlace.kill ks).inj,fun i b hb=>Nat.lt_of_lt_of_le ((hr.toPlace.kill ks).lt i b hb) hE.size,fun i b o hb hi=> ?_,hr'.old,hr'.gl⟩;rcases hnew b o hi with h1|h1
  ·exact(hr.toPlace.kill ks).off i b o hb h1
  ·have:=(hr.toPlace.kill ks).lt i b hb;omega
 have hmono:Mono O (Bp O ks):= .kill O hks;have hk:Keep O I w (Bp O ks) I' w':=⟨hmono,fun b o hi=>hE.keepI b o (.inl hi),fun b o hi=>hE.cell b o (.inl hi),hE.shapes⟩;refine⟨v,Bp O ks,I',he,hr.step hpl hk (fun x hx=> ?_) (fun x B hx=> ?_),AiG hp hx,⟨hE.os,hE.tape,hE.output,hE.size,fun b hb _=>hblk b hb,fun b o hi=>hE.keepI b o (.inl hi),fun b o hi=>hE.cell b o (.inl hi),fun b o hi=> ?_,fun i b hb=> .inl ⟨i,(Co hb).2⟩,hE.shapes⟩,hmono⟩
 ·rw[Fk]at hx;split at hx
  ·simp at hx
  ·rename_i hn;exact⟨by simp[Bp,hn],fun b hb=>hblk b (hr.lt x b hb)⟩
 ·rw[Fk]at hx;split at hx
  ·rename_i hn;simp at hx;subst hx;show Bp O ks x= .dead;simp[Bp,hn]
  ·simp at hx
 ·rcases hnew b o hi with h1|h1
  ·rcases h1 with h1|⟨k,_,hkb⟩
   ·exact .inl h1
   ·exact .inr (.inr ⟨k,hkb⟩)
  ·exact .inr (.inl h1)
theorem CX.eats{P:Program}{f:FuncId}{fn:Func}{c:Code}{args ds:List AV}{H:Hp}{x:AV}{ks:List Nat}(hf:P.funcs[f]? =some fn)(hb:fn.body=some c)(h:CX P f ds [] x [])(hp:AiH x=true)(hz:frzV H args=some (ds,ks)):CX P f args H x (A9 (Fm ks) H):=
 .of_cr hf hb ((h.cr hf hb).eats hp hz)
def ansE(ok:LB)(r:List AV ->AV):(R:Type) ->List AV ->Hp ->(AV ->Hp ->Option (T R)) ->Option (T R):=fun _ args H k=>
 match frzV H args with
 |some (ds,ks)=>bif ok ds then k (r ds) (A9 (Fm ks) H)else none|none=>none
theorem AnsS.e{P:Program}{f:FuncId}{fn:Func}{ok:LB}{r:List AV ->AV}(hf:P.funcs[f]? =some fn)(hb:fn.body=some (Ac fn))(hc: ∀x,ok x=true ->CX P f x [] (r x) []/\AiH (r x)=true):AnsS P f (ansE ok r):=by
 refine⟨fun R args H k t h=> ?_,fun args H=> ?_⟩
 ·unfold ansE at h;cases hd:frzV H args with
  |none=>rw[hd]at h;cases h|some p=>
   have⟨ds,ks⟩:=p;rw[hd]at h;simp only[]at h;cases hb':ok ds with
   |false=>rw[hb']at h;cases h|true=>
    rw[hb']at h;obtain⟨h1,h2⟩:=hc ds hb';exact⟨_,_,h,h1.eats hf hb h2 hd⟩
 ·unfold ansE;cases frzV H args with
  |none=>exact .no fun R k=>rfl
  |some p=>exact .bif _ (.one _ _ fun R k=>rfl) (.no fun R k=>rfl)
end Go.Eb
namespace Go.Y.en
open Go.RowKit Go.Eb
def oPit(okd:LB)(dcd:List AV ->BA):Orc:=Orc.cons 89 (ansG okd fun x=>vS (dcd x)) Orc.nil
def oPx:Orc:=Orc.cons 92 (inl prog Orc.nil na 12 f92) Orc.nil
def oPst(okd:LB)(dcd:List AV ->BA):Orc:=Orc.cons 91 (inl prog oPx na 12 f91) (Orc.cons 92 (inl prog Orc.nil na 12 f92) (Orc.cons 154 (inl prog Orc.nil na 12 f154) (Orc.cons 153 (inl prog (oPit okd dcd) na 12 f153) (oPit okd dcd))))
def oPnu(okd:LB)(dcd:List AV ->BA):Orc:=Orc.cons 152 (inl prog (oPst okd dcd) na 12 f152) (oPst okd dcd)
def Gu:Ann:=A1 [(4,⟨[3,11,1,4,12],[(3,0,4,176)]⟩),(100013,⟨[3,1,4],[(3,0,4,176)]⟩),(100014,⟨[3,1,4],[(3,0,4,176)]⟩),(100016,⟨[3,1,4],[(3,0,4,176)]⟩),(100017,⟨[3,1,4],[(3,0,4,176)]⟩),(100018,⟨[3,1,4],[(3,0,4,176)]⟩),(100019,⟨[3,1,4],[(3,0,4,176)]⟩),(100020,⟨[3,1,4],[(3,0,4,176)]⟩),(100021,⟨[3,1,4],[(3,0,4,176)]⟩),(100022,⟨[3,1,4],[(3,0,4,176)]⟩),(100023,⟨[3],[(3,0,4,176)]⟩)]
def Ch(okd:LB)(dcd:List AV ->BA)(r:SRel)(g m:Nat)(n2:Nat)(f2:RD)(i12:Int):=LK prog (oPnu okd dcd) Gu 0 g f94 4 m ⟨frm [(1, .c (.ptr 0 0)),(3, .c (.ptr 1 0)),(4, .c (.fn 152 [] [Rf.ptr 1 0])),(11, .agg [.d (.v (.bool (SRel.zon0 r))), .d (.v (.bool (SRel.zfw0 r))), .d (iD (SRel.zx0 r)), .d (iD (SRel.zr0 r)), .d (iD (SRel.zl0 r)), .d (iD (SRel.zd0 r)), .d (.v (.bool (SRel.zon1 r))), .d (.v (.bool (SRel.zfw1 r))), .d (iD (SRel.zx1 r)), .d (iD (SRel.zr1 r)), .d (iD (SRel.zl1 r)), .d (iD (SRel.zd1 r)), .d (.v (.bool (SRel.zon2 r))), .d (.v (.bool (SRel.zfw2 r))), .d (iD (SRel.zx2 r)), .d (iD (SRel.zr2 r)), .d (iD (SRel.zl2 r)), .d (iD (SRel.zd2 r))]),(12,iA i12)] 0 f94.ntmps,[(0, .cells (List.map C.d (relC r)) 64),(1, .cells [.row 2 4 n2] 102),(2, .row n2 f2 4 176)],3⟩
def Zp(okd:LB)(dcd:List AV ->BA)(r:SRel)(g m:Nat)(n2:Nat)(f2:RD):=GK prog (oPnu okd dcd) Gu 0 g f94 13 m ⟨frm [(1, .c (.ptr 0 0)),(3, .c (.ptr 1 0)),(4, .c (.fn 152 [] [Rf.ptr 1 0]))] 0 f94.ntmps,[(0, .cells (List.map C.d (relC r)) 64),(1, .cells [.row 2 4 n2] 102),(2, .row n2 f2 4 176)],3⟩
def Nv(okd:LB)(dcd:List AV ->BA)(r:SRel)(g m:Nat)(n2:Nat)(f2:RD):=GK prog (oPnu okd dcd) Gu 0 g f94 14 m ⟨frm [(1, .c (.ptr 0 0)),(3, .c (.ptr 1 0)),(4, .c (.fn 152 [] [Rf.ptr 1 0]))] 0 f94.ntmps,[(0, .cells (List.map C.d (relC r)) 64),(1, .cells [.row 2 4 n2] 102),(2, .row n2 f2 4 176)],3⟩
def Gc(okd:LB)(dcd:List AV ->BA)(r:SRel)(g m:Nat)(n2:Nat)(f2:RD):=GK prog (oPnu okd dcd) Gu 0 g f94 16 m ⟨frm [(1, .c (.ptr 0 0)),(3, .c (.ptr 1 0)),(4, .c (.fn 152 [] [Rf.ptr 1 0]))] 0 f94.ntmps,[(0, .cells (List.map C.d (relC r)) 64),(1, .cells [.row 2 4 n2] 102),(2, .row n2 f2 4 176)],3⟩
def Nu(okd:LB)(dcd:List AV ->BA)(r:SRel)(g m:Nat)(n2:Nat)(f2:RD):=GK prog (oPnu okd dcd) Gu 0 g f94 17 m ⟨frm [(1, .c (.ptr 0 0)),(3, .c (.ptr 1 0)),(4, .c (.fn 152 [] [Rf.ptr 1 0]))] 0 f94.ntmps,[(0, .cells (List.map C.d (relC r)) 64),(1, .cells [.row 2 4 n2] 102),(2, .row n2 f2 4 176)],3⟩
def Nt(okd:LB)(dcd:List AV ->BA)(r:SRel)(g m:Nat)(n2:Nat)(f2:RD):=GK prog (oPnu okd dcd) Gu 0 g f94 18 m ⟨frm [(1, .c (.ptr 0 0)),(3, .c (.ptr 1 0)),(4, .c (.fn 152 [] [Rf.ptr 1 0]))] 0 f94.ntmps,[(0, .cells (List.map C.d (relC r)) 64),(1, .cells [.row 2 4 n2] 102),(2, .row n2 f2 4 176)],3⟩
def Nr(okd:LB)(dcd:List AV ->BA)(r:SRel)(g m:Nat)(n2:Nat)(f2:RD):=GK prog (oPnu okd dcd) Gu 0 g f94 19 m ⟨frm [(1, .c (.ptr 0 0)),(3, .c (.ptr 1 0)),(4, .c (.fn 152 [] [Rf.ptr 1 0]))] 0 f94.ntmps,[(0, .cells (List.map C.d (relC r)) 64),(1, .cells [.row 2 4 n2] 102),(2, .row n2 f2 4 176)],3⟩
def Nq(okd:LB)(dcd:List AV ->BA)(r:SRel)(g m:Nat)(n2:Nat)(f2:RD):=GK prog (oPnu okd dcd) Gu 0 g f94 20 m ⟨frm [(1, .c (.ptr 0 0)),(3, .c (.ptr 1 0)),(4, .c (.fn 152 [] [Rf.ptr 1 0]))] 0 f94.ntmps,[(0, .cells (List.map C.d (relC r)) 64),(1, .cells [.row 2 4 n2] 102),(2, .row n2 f2 4 176)],3⟩
def Np(okd:LB)(dcd:List AV ->BA)(r:SRel)(g m:Nat)(n2:Nat)(f2:RD):=GK prog (oPnu okd dcd) Gu 0 g f94 21 m ⟨frm [(1, .c (.ptr 0 0)),(3, .c (.ptr 1 0)),(4, .c (.fn 152 [] [Rf.ptr 1 0]))] 0 f94.ntmps,[(0, .cells (List.map C.d (relC r)) 64),(1, .cells [.row 2 4 n2] 102),(2, .row n2 f2 4 176)],3⟩
def Nn(okd:LB)(dcd:List AV ->BA)(r:SRel)(g m:Nat)(n2:Nat)(f2:RD):=GK prog (oPnu okd dcd) Gu 0 g f94 22 m ⟨frm [(1, .c (.ptr 0 0)),(3, .c (.ptr 1 0)),(4, .c (.fn 152 [] [Rf.ptr 1 0]))] 0 f94.ntmps,[(0, .cells (List.map C.d (relC r)) 64),(1, .cells [.row 2 4 n2] 102),(2, .row n2 f2 4 176)],3⟩
def R4(okd:LB)(dcd:List AV ->BA)(r:SRel)(g m:Nat)(n1:Nat)(f1:RD):=GK prog (oPnu okd dcd) Gu 0 g f94 23 m ⟨frm [(3, .c (.ptr 0 0))] 0 f94.ntmps,[(0, .cells [.row 1 4 n1] 102),(1, .row n1 f1 4 176)],2⟩
theorem bnum:f94.body=some (Ac f94):=by kernel_rfl
theorem AqL(okd:LB)(dcd:List AV ->BA)(r:SRel)(g:Nat):Ai prog (oPnu okd dcd) Gu g f94 (Ac f94) [aRel r] []=
 Ch okd dcd r g g 0 (fun x=>[]) 0:=by kernel_rfl
theorem Ahn(okd:LB)(dcd:List AV ->BA)(r:SRel)(g m:Nat)(n2:Nat)(f2:RD):Zp okd dcd r g (m+1) n2 f2=
 (bif r.min !=0 then(bif okd [iA r.min]then(bif okd [iA r.kre]then(bif okd [iA r.kim]then(bif decide
 ((n2+1)*64<=140737488355328)&&decide (n2+1<=9223372036854775807)then(bif decide (0<=(↑n2:Int))&&decide ((↑n2:Int)<(↑(n2+1):Int))then Nv okd dcd r g g (n2
 +1) (fun j=>bif Nat.beq j (Int.toNat (↑n2:Int))then splice (appF n2 f2 (Ae [iD 0,D.v (.slice none 0 0),D.v (.bool false),D.v (Value.slice none 0 0)] (3+1))
 j) 0 [iD 0,D.sl (1+1) (0+1+1+1+1) (Ae [D.v (.string (⟨#[108,111,111,112]⟩)),D.v (.bool false),D.v (.string (dcd [iA r.min])),
 D.v (.bool false),D.v (.string (dcd [iA r.kre])),D.v (Value.bool false),D.v (.string (dcd [iA r.kim])),D.v (.bool false)] (1+
 1)),D.v (.bool false),D.v (Value.slice none 0 0)]else appF n2 f2 (Ae [iD 0,D.v (.slice none 0 0),D.v (.bool false),D.v (Value.slice none 0 0)] (3+1)) j)else
 none)else none)else none)else none)else none)else Nv okd dcd r g g n2 f2):=by kernel_rfl
theorem Ahm(okd:LB)(dcd:List AV ->BA)(r:SRel)(g m:Nat)(n2:Nat)(f2:RD):Nv okd dcd r g (m+1) n2 f2=
 (bif r.qn !=0 then(bif r.qn==1 then(bif okd [iA r.wait]then(bif okd [.c (.d (iD r.guard))]then(bif decide ((n2
 +1)*64<=140737488355328)&&decide (n2+1<=9223372036854775807)then(bif decide (0<=(↑n2:Int))&&decide ((↑n2:Int)<(↑(n2+1):Int))then Gc okd dcd r g g (n2+1)
 (fun j=>bif Nat.beq j (Int.toNat (↑n2:Int))then splice (appF n2 f2 (Ae [iD 0,D.v (.slice none 0 0),D.v (.bool false),D.v (.slice none 0 0)] (3+1)) j) 0 [D.v
 (.int .i64 0),D.sl (1+1) (0+1+1+1+1) (Ae [D.v (Value.string (⟨#[115,99,104,101,109,101]⟩)),D.v (.bool false),D.v (.string (⟨#[117,110,100,101,114,114,101,
 97,99,104]⟩)),D.v (.bool false),D.v (Value.string (dcd [iA r.wait])),D.v (.bool false),D.v (.string (dcd [iA r.guard])),D.v
 (Value.bool false)] (1+1)),D.v (.bool false),D.v (.slice none 0 0)]else appF n2 f2 (Ae [iD 0,D.v (Value.slice none 0 0),D.v (.bool false),D.v (.slice none 0
 0)] (3+1)) j)else none)else none)else none)else none)else(bif r.qn==2 then(bif okd [iA r.wait]then(bif okd [.c (.d (.v (.int .i64
 r.guard)))]then(bif decide ((n2+1)*64<=140737488355328)&&decide (n2+1<=9223372036854775807)then(bif decide (0<=(↑n2:Int))&&decide ((↑n2:Int)<(↑(n2+1):
 Int))then Gc okd dcd r g g (n2+1) (fun j=>bif Nat.beq j (Int.toNat (↑n2:Int))then splice (appF n2 f2 (Ae [iD 0,D.v (.slice none 0 0),D.v (.bool
 false),D.v (.slice none 0 0)] (3+1)) j) (0:Nat) [iD 0,D.sl (1+1) (0+1+1+1+1) (Ae [D.v (.string (⟨#[(115:UInt8),99,104,101,109,101]⟩)),D.v
 (.bool false),D.v (.string (⟨#[111,118,(101:UInt8),114,114,101,97,99,104]⟩)),D.v (.bool false),D.v (.string (dcd [.c (.d (iD r.wait))])),
 D.v (.bool false),D.v (.string (dcd [iA r.guard])),D.v (.bool false)] (1+(1:Nat))),D.v (.bool false),D.v (.slice none 0 0)]else appF n2 f2 (Ae [D.v
 (.int .i64 0),D.v (Value.slice none 0 (0:Nat)),D.v (.bool false),D.v (.slice none 0 0)] (3+1)) j)else none)else none)else none)else none)else(bif okd [.c (.d (D.v
 (Value.int IntKind.i64 r.wait)))]then(bif okd [iA r.guard]then(bif decide ((n2+1)*64<=(140737488355328:Nat))&&decide (n2+1<=
 9223372036854775807)then(bif decide (0<=(↑n2:Int))&&decide ((↑n2:Int)<(↑(n2+1):Int))then Gc okd dcd r g g (n2+1) (fun j=>bif Nat.beq j (Int.toNat (↑n2:Int))
 then splice (appF n2 f2 (Ae [iD 0,D.v (Value.slice none 0 (0:Nat)),D.v (.bool false),D.v (.slice none 0 0)] (3+1)) j) 0 [iD 0,D.sl (1+1) (0+1
 +1+1+1) (Ae [D.v (.string (⟨#[115,99,104,101,109,(101:UInt8)]⟩)),D.v (.bool false),D.v (.string (⟨#[98,108,111,99,107,105,110,(103:UInt8)]⟩)),D.v (.bool
 false),D.v (.string (dcd [iA r.wait])),D.v (.bool false),D.v (.string (dcd [.c (.d (iD r.guard))])),D.v (.bool false)] (1+
 1)),D.v (.bool false),D.v (.slice none 0 0)]else appF n2 f2 (Ae [iD 0,D.v (.slice none 0 0),D.v (.bool false),D.v (.slice none 0 0)] (3+(1:Nat))) j)else
 none)else none)else none)else none)))else Gc okd dcd r g g n2 f2):=by kernel_rfl
theorem Ahl(okd:LB)(dcd:List AV ->BA)(r:SRel)(g m:Nat)(n2:Nat)(f2:RD):Gc okd dcd r g (m+1) n2 f2=
 (bif r.don then(bif okd [iA r.dpk]then(bif okd [iA r.ddl]then(bif decide ((n2+1)*64<=140737488355328)&&decide (n2+1<=
 9223372036854775807)then(bif decide (0<=(↑n2:Int))&&decide ((↑n2:Int)<(↑(n2+1):Int))then Nu okd dcd r g g (n2+1) (fun j=>bif Nat.beq j (Int.toNat (↑n2:Int))
 then splice (appF n2 f2 (Ae [iD 0,D.v (.slice none 0 0),D.v (.bool false),D.v (.slice none 0 0)] (3+1)) j) 0 [iD 0,D.sl (1+1) (0+1+
 1+1) (Ae [D.v (.string (⟨#[100,101,(102:UInt8),105,110,105,116,101]⟩)),D.v (.bool false),D.v (.string (dcd [iA r.dpk])),D.v (.bool false),D.v
 (.string (dcd [iA r.ddl])),D.v (.bool false)] (1+1)),D.v (Value.bool false),D.v (.slice none 0 0)]else appF n2 f2 (Ae [iD 0,D.v (.slice
 none 0 0),D.v (Value.bool false),D.v (.slice none 0 0)] (3+1)) j)else none)else none)else none)else none)else Nu okd dcd r g g n2 f2):=by kernel_rfl
theorem Ahk(okd:LB)(dcd:List AV ->BA)(r:SRel)(g m:Nat)(n2:Nat)(f2:RD):Nu okd dcd r g (m+1) n2 f2=
 (bif r.ion then(bif okd [iA r.ipk]then(bif okd [iA r.idl]then(bif decide ((n2+1)*64<=140737488355328)&&decide (n2+1<=
 9223372036854775807)then(bif decide (0<=(↑n2:Int))&&decide ((↑n2:Int)<(↑(n2+1):Int))then Nt okd dcd r g g (n2+1) (fun j=>bif Nat.beq j (Int.toNat (↑n2:Int))
 then splice (appF n2 f2 (Ae [iD 0,D.v (.slice none 0 0),D.v (.bool false),D.v (.slice none 0 0)] (3+1)) j) 0 [iD 0,D.sl (1+1) (0+1+
 1+1) (Ae [D.v (.string (⟨#[105,110,(118:UInt8),101,114,115,101]⟩)),D.v (.bool false),D.v (.string (dcd [iA r.ipk])),D.v (Value.bool false),D.v
 (.string (dcd [iA r.idl])),D.v (.bool false)] (1+1)),D.v (.bool false),D.v (Value.slice none 0 0)]else appF n2 f2 (Ae [iD 0,D.v (.slice
 none 0 0),D.v (.bool false),D.v (Value.slice none 0 0)] (3+1)) j)else none)else none)else none)else none)else Nt okd dcd r g g n2 f2):=by kernel_rfl
theorem Ahj(okd:LB)(dcd:List AV ->BA)(r:SRel)(g m:Nat)(n2:Nat)(f2:RD):Nt okd dcd r g (m+1) n2 f2=
 (bif r.fon then(bif okd [iA r.fpk]then(bif okd [iA r.fdl]then(bif decide ((n2+1)*64<=140737488355328)&&decide (n2+1<=
 9223372036854775807)then(bif decide (0<=(↑n2:Int))&&decide ((↑n2:Int)<(↑(n2+1):Int))then Nr okd dcd r g g (n2+1) (fun j=>bif Nat.beq j (Int.toNat (↑n2:Int))
 then splice (appF n2 f2 (Ae [iD 0,D.v (.slice none 0 0),D.v (.bool false),D.v (.slice none 0 0)] (3+1)) j) 0 [iD 0,D.sl (1+1) (0+1+
 1+1) (Ae [D.v (.string (⟨#[102,97,(105:UInt8),108]⟩)),D.v (.bool false),D.v (.string (dcd [iA r.fpk])),D.v (.bool false),D.v (.string (dcd [AV.c
 (.d (iD r.fdl))])),D.v (.bool false)] (1+1)),D.v (.bool false),D.v (.slice none 0 0)]else appF n2 f2 (Ae [iD 0,D.v (.slice none 0 0),D.v (.bool
 false),D.v (.slice none 0 0)] (3+1)) j)else none)else none)else none)else none)else Nr okd dcd r g g n2 f2):=by kernel_rfl
theorem Ahi(okd:LB)(dcd:List AV ->BA)(r:SRel)(g m:Nat)(n2:Nat)(f2:RD):Nr okd dcd r g (m+1) n2 f2=
 (bif r.qp !=0 then(bif okd [iA r.qp]then(bif okd [iA r.dead]then(bif okd [iA r.qo]then
 (bif decide ((n2+1)*64<=140737488355328)&&decide (n2+1<=9223372036854775807)then(bif decide (0<=(↑n2:Int))&&decide ((↑n2:Int)<(↑(n2+1):Int))then Nq okd
 dcd r g g (n2+1) (fun j=>bif Nat.beq j (Int.toNat (↑n2:Int))then splice (appF n2 f2 (Ae [iD 0,D.v (.slice none 0 0),D.v (.bool false),D.v (Value.slice none 0
 0)] (3+1)) j) 0 [iD 0,D.sl (1+1) (0+1+1+1+1) (Ae [D.v (.string (⟨#[114,101,99,108,111,115,101]⟩)),D.v (Value.bool false),D.v (.string (dcd [AV.c
 (.d (iD r.qp))])),D.v (.bool false),D.v (.string (dcd [.c (.d (iD r.dead))])),D.v (.bool false),D.v (.string (dcd [.c (.d (.v (.int
 .i64 r.qo)))])),D.v (.bool false)] (1+1)),D.v (.bool false),D.v (.slice none 0 0)]else appF n2 f2 (Ae [iD 0,D.v (Value.slice none 0 (0:Nat)),D.v (.bool
 false),D.v (.slice none 0 0)] (3+1)) j)else none)else none)else none)else none)else none)else Nq okd dcd r g g n2 f2):=by kernel_rfl
theorem Ahh(okd:LB)(dcd:List AV ->BA)(r:SRel)(g m:Nat)(n2:Nat)(f2:RD):Nq okd dcd r g (m+1) n2 f2=
 (bif r.uon then(bif okd [iA r.upk]then(bif okd [iA r.udl]then(bif decide ((n2+1)*64<=140737488355328)&&decide (n2+1<=
 9223372036854775807)then(bif decide (0<=(↑n2:Int))&&decide ((↑n2:Int)<(↑(n2+1):Int))then Np okd dcd r g g (n2+1) (fun j=>bif Nat.beq j (Int.toNat (↑n2:Int))
 then splice (appF n2 f2 (Ae [iD 0,D.v (.slice none 0 0),D.v (.bool false),D.v (.slice none 0 0)] (3+1)) j) 0 [iD 0,D.sl (1+1) (0+1+
 1+1) (Ae [D.v (.string (⟨#[117,110,(100:UInt8),101,114]⟩)),D.v (.bool false),D.v (.string (dcd [iA r.upk])),D.v (.bool false),D.v (Value.string
 (dcd [iA r.udl])),D.v (.bool false)] (1+1)),D.v (.bool false),D.v (Value.slice none (0:Nat) 0)]else appF n2 f2 (Ae [iD 0,D.v (.slice
 none 0 0),D.v (.bool false),D.v (Value.slice none 0 0)] (3+1)) j)else none)else none)else none)else none)else Np okd dcd r g g n2 f2):=by kernel_rfl
theorem Ahg(okd:LB)(dcd:List AV ->BA)(r:SRel)(g m:Nat)(n2:Nat)(f2:RD):Np okd dcd r g (m+1) n2 f2=
 (bif r.oon then(bif okd [iA r.opk]then(bif okd [iA r.odl]then(bif decide ((n2+1)*64<=140737488355328)&&decide (n2+1<=
 9223372036854775807)then(bif decide (0<=(↑n2:Int))&&decide ((↑n2:Int)<(↑(n2+1):Int))then Nn okd dcd r g g (n2+1) (fun j=>bif Nat.beq j (Int.toNat (↑n2:Int))
 then splice (appF n2 f2 (Ae [iD 0,D.v (.slice none 0 0),D.v (.bool false),D.v (.slice none 0 0)] (3+1)) j) 0 [iD 0,D.sl (1+1) (0+1+
 1+1) (Ae [D.v (.string (⟨#[111,118,(101:UInt8),114]⟩)),D.v (.bool false),D.v (.string (dcd [iA r.opk])),D.v (.bool false),D.v (.string (dcd [AV.c
 (.d (iD r.odl))])),D.v (.bool false)] (1+1)),D.v (.bool false),D.v (.slice none 0 0)]else appF n2 f2 (Ae [iD 0,D.v (.slice none 0 0),D.v (.bool
 false),D.v (.slice none 0 0)] (3+1)) j)else none)else none)else none)else none)else Nn okd dcd r g g n2 f2):=by kernel_rfl
theorem Ahf(okd:LB)(dcd:List AV ->BA)(r:SRel)(g m:Nat)(n2:Nat)(f2:RD):Nn okd dcd r g (m+1) n2 f2=
 (bif r.diff !=0 then(bif okd [iA r.diff]then(bif okd [iA r.num]then(bif okd [iA r.den]then(bif okd
 [iA r.harm]then(bif decide ((n2+1)*64<=140737488355328)&&decide (n2+1<=9223372036854775807)then(bif decide (0<=(↑n2:Int))&&decide ((↑n2:
 Int)<(↑(n2+1):Int))then R4 okd dcd r g g (n2+1) (fun j=>bif Nat.beq j (Int.toNat (↑n2:Int))then splice (appF n2 f2 (Ae [iD 0,D.v (Value.slice none 0 0),
 D.v (.bool false),D.v (.slice none 0 0)] (3+1)) j) 0 [iD 0,D.sl ((1:Nat)+1) (0+1+1+1+1+1) (Ae [D.v (.string (⟨#[100,105,102,(102:UInt8),101,
 114,101,110,116,105,97,108]⟩)),D.v (.bool false),D.v (.string (dcd [iA r.diff])),D.v (.bool false),D.v (.string (dcd [.c (.d (.v (.int .i64
 r.num)))])),D.v (Value.bool false),D.v (.string (dcd [iA r.den])),D.v (.bool false),D.v (.string (dcd [.c (.d (.v (Value.int IntKind.i64
 r.harm)))])),D.v (.bool false)] (1+1)),D.v (.bool false),D.v (.slice none 0 0)]else appF n2 f2 (Ae [iD 0,D.v (.slice none 0 0),D.v (.bool false),
 D.v (.slice none 0 0)] (3+1)) j)else none)else none)else none)else none)else none)else none)else R4 okd dcd r g g n2 f2):=by kernel_rfl
theorem Ahe(okd:LB)(dcd:List AV ->BA)(r:SRel)(g m:Nat)(n1:Nat)(f1:RD):R4 okd dcd r g (m+1) n1 f1=
 some (T.leaf (.c (.row (0) (4) n1),[(0, .row n1 f1 (4) (176))])):=by kernel_rfl
structure KQ where
 okc:LB
 ci:LI
 ce:LI
 okn:List AV ->Hp ->Bool
 nn:List AV ->Nat
 fn:List AV ->RD
 okl:List AV ->Hp ->Bool
 nl:List AV ->Nat
 fl:List AV ->RD
def oPe(Z:KQ):Orc:=Orc.cons 32 (ansG Z.okc fun x=> .tup [(false,[.d (dI (Z.ci x))]),(false,[.d (dI (Z.ce x))])]) (Orc.cons 94 (ansM Z.okn (fun x _=> .c (.row 0 4 (Z.nn x))) fun x _=>[(0,Blk.row (Z.nn x) (Z.fn x) 4 176)])
 (Orc.cons 95 (ansM Z.okl (fun x _=> .c (.row 0 4 (Z.nl x))) fun x _=>[(0,Blk.row (Z.nl x) (Z.fl x) 4 176)]) (Orc.cons 91 (inl prog oPx na 12 f91) (Orc.cons 92 (inl prog Orc.nil na 12 f92) (Orc.cons 93 (inl prog Orc.nil na 12 f93) Orc.nil)))))
def annpen:Ann:=A1 [(6,⟨[2,19,20,21,7],[(7,0,4,176)]⟩),(100012,⟨[2,19,20,21,10,7,9],[(10,1,1000,0),(7,0,4,176)]⟩)]
def Hj(Z:KQ)(s:SSta)(l:List SRel)(g m:Nat)(n1:Nat)(f1:RD)(i21:Int):=LK prog (oPe Z) annpen 0 g f36 6 m ⟨frm [(2, .c (.ptr 0 0)),(7, .c (.row 1 4 n1)),(19, .c (.d (Ad 53 relC rel0 l))),(20,iA (↑(List.length l):Int)),(21,iA i21)] 0 f36.ntmps,[(0, .cells (List.map C.d (staC s)) 27),(1, .row n1 f1 4 176)],2⟩
def Ni(Z:KQ)(s:SSta)(l:List SRel)(g mo m:Nat)(n1:Nat)(f1:RD)(i21:Int)(x3:Int)(x3_2:D)(x3_3:Bool):=GK2 prog (oPe Z) annpen 0 g f36 6 mo 12 m ⟨frm [(2, .c (.ptr 0 0)),(7, .c (.row 1 4 n1)),(9, .c (.ptr 2 0)),(10, .c (.ptr 3 0)),(19, .c (.d (Ad 53 relC rel0 l))),(20,iA (↑(List.length l):Int)),(21,iA i21)] 0 f36.ntmps,[(0, .cells (List.map C.d (staC s)) 27),(1, .row n1 f1 4 176),(2, .cells (List.map C.d (relC (List.getD l (Int.toNat i21) rel0))) 64),(3, .cells [.d (iD x3), .d (x3_2), .d (.v (.bool x3_3)), .d (.v (.slice none 0 0))] 176)],4⟩
theorem bpen:f36.body=some (Ac f36):=by kernel_rfl
theorem evpen(Z:KQ)(s:SSta)(l:List SRel)(g:Nat):Ai prog (oPe Z) annpen g f36 (Ac f36) [aSta s, .c (.d (Di l))] []=
 (bif KQ.okc Z [gA (staC s), .c (.d (Ad (53) relC rel0 l))]then(bif KQ.ce Z [gA (staC s), .c (.d (Ad (53) relC rel0 l))] !=0 then some
 (T.leaf (.c (.d (.v (.slice none 0 0))),[]))else Hj Z s l g g 0 (fun x=>[]) 0)else none):=by kernel_rfl
theorem Ade(Z:KQ)(s:SSta)(l:List SRel)(g m:Nat)(n1:Nat)(f1:RD)(i21:Int):Hj Z s l g (m+1) n1 f1 i21=
 (bif decide (i21<(↑l.length:Int))then(bif decide (0<=i21)&&decide (i21<(↑l.length:Int))then(bif SRel.kind (l.getD i21.toNat rel0)==4 then Ni Z s l g m g n1 f1 i21
 0 (D.sl (2) (3) (Ae [D.v (.string (⟨#[114,101,108,(97:UInt8),121]⟩)),D.v (.bool false),dS (SRel.name (l.getD i21.toNat rel0)),D.v (.bool false),D.v (.string (⟨#[98,(117
 :UInt8),115]⟩)),D.v (.bool false)] (1+1))) false else(bif SRel.kind (l.getD i21.toNat rel0)==1 then(bif decide (0<=SRel.bay (l.getD i21.toNat rel0))&&decide (SRel.bay
 (l.getD i21.toNat rel0)<(↑s.qd.length:Int))then Ni Z s l g m g n1 f1 i21 0 (D.sl (2) (4) (Ae [D.v (.string (⟨#[114,101,108,97,121]⟩)),D.v (.bool false),dS (SRel.name
 (l.getD i21.toNat rel0)),D.v (.bool false),D.v (.string (⟨#[108,105,110,101]⟩)),D.v (Value.bool false),dS (SBay.name (s.qd.getD (Int.toNat (SRel.bay (l.getD i21.toNat
 rel0))) bay0)),D.v (.bool false)] (1+1))) false else none)else(bif SRel.kind (l.getD i21.toNat rel0)==2 then(bif decide (0<=SRel.bay (l.getD i21.toNat rel0))&&decide
 (SRel.bay (l.getD i21.toNat rel0)<(↑s.qd.length:Int))then Ni Z s l g m g n1 f1 i21 0 (D.sl (2) (4) (Ae [D.v (Value.string (⟨#[114,101,108,97,121]⟩)),D.v (.bool false),
 dS (SRel.name (l.getD i21.toNat rel0)),D.v (Value.bool false),D.v (.string (⟨#[115,111,117,114,99,101]⟩)),D.v (.bool false),dS (SBay.name (s.qd.getD (Int.toNat (SRel.bay
 (l.getD i21.toNat rel0))) bay0)),D.v (.bool false)] (1+1))) false else none)else(bif decide (0<=SRel.bay (l.getD i21.toNat rel0))&&decide (SRel.bay (l.getD i21.toNat rel0)
 <(↑s.qd.length:Int))then Ni Z s l g m g n1 f1 i21 0 (D.sl (2) (4) (Ae [D.v (.string (⟨#[114,101,108,97,121]⟩)),D.v (Value.bool false),dS (SRel.name (l.getD i21.toNat
 rel0)),D.v (.bool false),D.v (.string (⟨#[99,111,117,(112:UInt8),108,101,114]⟩)),D.v (.bool false),dS (SBay.name (s.qd.getD (Int.toNat (SRel.bay (l.getD i21.toNat
 rel0))) bay0)),D.v (.bool false)] (1+1))) false else none))))else none)else some (T.leaf (.c (.row (0) (4) n1),[(0, .row n1 f1 ((4:Nat)) (176))]))):=by kernel_rfl
theorem AgX(Z:KQ)(s:SSta)(l:List SRel)(g mo m:Nat)(n1:Nat)(f1:RD)(i21:Int)(x3:Int)(x3_2:D)(x3_3:Bool):Ni Z s l g mo (m+1) n1 f1 i21 x3 x3_2 x3_3=
 (bif KQ.okn Z [gA (relC (l.getD i21.toNat rel0))] []then(bif KQ.okl Z [gA (relC (l.getD i21.toNat rel0))] []then(bif decide ((KQ.nn Z
 [gA (relC (l.getD i21.toNat rel0))]+KQ.nl Z [gA (relC (l.getD i21.toNat rel0))])*64<=140737488355328)&&decide (KQ.nn Z [AV.agg
 (List.map C.d (relC (l.getD i21.toNat rel0)))]+KQ.nl Z [gA (relC (l.getD i21.toNat rel0))]<=9223372036854775807)then(bif decide ((n1+1)*64<=
 140737488355328)&&decide (n1+1<=9223372036854775807)then Hj Z s l g mo (n1+1) (appF n1 f1 (Ae [iD x3,x3_2,D.v (.bool true),D.sl (3+1) (KQ.nn Z [AV.agg
 (List.map C.d (relC (l.getD i21.toNat rel0)))]+KQ.nl Z [gA (relC (l.getD i21.toNat rel0))]) (appF (KQ.nn Z [gA (relC (l.getD i21.toNat
 rel0))]) (KQ.fn Z [gA (relC (l.getD i21.toNat rel0))]) (KQ.fl Z [gA (relC (l.getD i21.toNat rel0))]))] (3+1))) (wrap .i64 (i21+
 1))else none)else none)else none)else none):=by kernel_rfl
def oDc(okd:LB)(dcd:List AV ->BA):Orc:=Orc.cons 156 (ansG okd fun x=>vS (dcd x)) Orc.nil
def anndec:Ann:=A1 []
theorem bdec:f156.body=some (Ac f156):=by kernel_rfl
theorem evdec(okd:LB)(dcd:List AV ->BA)(n:Int)(g:Nat):Ai prog (oDc okd dcd) anndec g f156 (Ac f156) [vI n] []=
 (bif decide (n<0)then(bif okd [iA (wrap .i64 (0 -n))]then(bif decide (ByteArray.size (⟨#[(45:UInt8)]⟩)+ByteArray.size (dcd [.c (.d (.v
 (.int .i64 (wrap .i64 (0 -n)))))])<=9223372036854775807)then some (T.leaf (.c (.d (.v (.string (ByteArray.mk #[45]++dcd [iA (wrap .i64
 (0 -n))])))),[]))else none)else none)else(bif decide (n>=10)then(bif okd [iA (wrap .i64 (Int.tdiv n 10))]then(bif okd [.c (.d (D.v
 (Value.int IntKind.i64 (Int.tmod n 10))))]then(bif decide (ByteArray.size (dcd [iA (wrap .i64 (Int.tdiv n 10))])+ByteArray.size (dcd [.c (.d
 (iD (Int.tmod n 10)))])<=9223372036854775807)then some (T.leaf (.c (.d (.v (.string (dcd [iA (wrap .i64 (Int.tdiv n 10))]++dcd
 [iA (Int.tmod n 10)])))),[]))else none)else none)else none)else(bif Ey 1 (some (.cells [.d (.v (Value.int IntKind.u8 (wrap IntKind.u8
 (wrap .i64 (48+n)))))] ((5:Nat))))then some (T.leaf (.c (.d (.v (.string (K5 1 (some (.cells [.d (.v (Value.int IntKind.u8 (wrap IntKind.u8
 (wrap .i64 (48+n)))))] (5))))))),[]))else none))):=by kernel_rfl
def Abn:Ann:=A1 [(3,⟨[5,0,1,4,6],[(5,1,2,182)]⟩),(7,⟨[5,1,4,7],[(5,1,2,182)]⟩)]
def Rz(okd:LB)(dcd:List AV ->BA)(ws:List BA)(g m:Nat)(n2:Nat)(f2:RD)(i6:Int)(x0:Int)(x0_2:Bool)(x1:Int)(x1_2:Bool):=LK prog (oDc okd dcd) Abn 0 g f98 3 m ⟨frm [(0, .c (.d (Ad 1 busC e0 ws))),(1, .c (.d (.v (.slice none 0 0)))),(4, .c (.ptr 0 0)),(5, .c (.ptr 1 0)),(6,iA i6)] 0 f98.ntmps,[(0, .cells [.d (iD x0), .d (.v (.slice none 0 0)), .d (.v (.bool x0_2)), .d (.v (.slice none 0 0))] 176),(1, .cells [.d (iD x1), .row 2 2 n2, .d (.v (.bool x1_2)), .d (.v (.slice none 0 0))] 176),(2, .row n2 f2 2 182)],3⟩
def AgN(okd:LB)(dcd:List AV ->BA)(ws:List BA)(g m:Nat)(n2:Nat)(f2:RD)(i7:Int)(x0:Int)(x0_2:Bool)(x1:Int)(x1_2:Bool):=LK prog (oDc okd dcd) Abn 0 g f98 7 m ⟨frm [(1, .c (.d (.v (.slice none 0 0)))),(4, .c (.ptr 0 0)),(5, .c (.ptr 1 0)),(7,iA i7)] 0 f98.ntmps,[(0, .cells [.d (iD x0), .d (.v (.slice none 0 0)), .d (.v (.bool x0_2)), .d (.v (.slice none 0 0))] 176),(1, .cells [.d (iD x1), .row 2 2 n2, .d (.v (.bool x1_2)), .d (.v (.slice none 0 0))] 176),(2, .row n2 f2 2 182)],3⟩
theorem bsay:f98.body=some (Ac f98):=by kernel_rfl
theorem Aqw(okd:LB)(dcd:List AV ->BA)(ws:List BA)(g:Nat):Ai prog (oDc okd dcd) Abn g f98 (Ac f98) [.c (.d (Ab ws)), .c (.d (.v (.slice none 0 0)))] []=
 Rz okd dcd ws g g 0 (fun x=>[]) 0 0 false 0 false:=by kernel_rfl
theorem AcV(okd:LB)(dcd:List AV ->BA)(ws:List BA)(g m:Nat)(n2:Nat)(f2:RD)(i6:Int)(x0:Int)(x0_2:Bool)(x1:Int)(x1_2:Bool):Rz okd dcd ws g (m+1) n2 f2 i6 x0 x0_2 x1 x1_2=
 (bif decide (i6<(↑ws.length:Int))then(bif decide (0<=i6)&&decide (i6<(↑ws.length:Int))then(bif decide ((n2+1)*24<=140737488355328)&&decide (n2+1<=
 9223372036854775807)then Rz okd dcd ws g m (n2+1) (appF n2 f2 (Ae [dS (ws.getD i6.toNat e0),D.v (.bool false)] (1+1))) (wrap .i64 (i6+1)) x0 x0_2 x1 x1_2 else none)
 else none)else AgN okd dcd ws g g n2 f2 0 x0 x0_2 x1 x1_2):=by kernel_rfl
theorem Alo(okd:LB)(dcd:List AV ->BA)(ws:List BA)(g m:Nat)(n2:Nat)(f2:RD)(i7:Int)(x0:Int)(x0_2:Bool)(x1:Int)(x1_2:Bool):AgN okd dcd ws g (m+1) n2 f2 i7 x0 x0_2 x1 x1_2=
 (bif decide (i7<0)then none else some (T.leaf (.agg [.d (iD x1), .row (0) (2) n2, .d (.v (.bool x1_2)), .d (.v (Value.slice none 0 0))],[(0, .row n2 f2
 (2) (182))]))):=by kernel_rfl
structure KR where
 okc:LB
 ci:LI
 ce:LI
 oki:LB
 iw:List AV ->D
 ik:List AV ->D
def oRe(Z:KR):Orc:=Orc.cons 29 (ansG Z.okc fun x=> .tup [(false,[.d (dI (Z.ci x))]),(false,[.d (dI (Z.ce x))])]) (Orc.cons 100 (ansG Z.oki fun x=> .agg [.d (dI 0), .d (Z.iw x), .d (dB true), .d (Z.ik x)]) Orc.nil)
def AkF:Ann:=A1 [(6,⟨[1,2,8,7],[(7,0,4,176)]⟩)]
def R0(Z:KR)(s:SSta)(l:List SRel)(g m:Nat)(n1:Nat)(f1:RD)(i8:Int):=LK prog (oRe Z) AkF 0 g f39 6 m ⟨frm [(1, .c (.d (Ad 53 relC rel0 l))),(2, .c (.ptr 0 0)),(7, .c (.row 1 4 n1)),(8,iA i8)] 0 f39.ntmps,[(0, .cells (List.map C.d (staC s)) 27),(1, .row n1 f1 4 176)],2⟩
theorem bren:f39.body=some (Ac f39):=by kernel_rfl
theorem AqF(Z:KR)(s:SSta)(l:List SRel)(g:Nat):Ai prog (oRe Z) AkF g f39 (Ac f39) [aSta s, .c (.d (Di l))] []=
 (bif KR.okc Z [gA (staC s), .c (.d (Ad (53) relC rel0 l))]then(bif KR.ce Z [gA (staC s), .c (.d (Ad (53) relC rel0 l))] !=0 then some
 (T.leaf (.c (.d (.v (.slice none 0 0))),[]))else R0 Z s l g g 0 (fun x=>[]) 0)else none):=by kernel_rfl
theorem Adb(Z:KR)(s:SSta)(l:List SRel)(g m:Nat)(n1:Nat)(f1:RD)(i8:Int):R0 Z s l g (m+1) n1 f1 i8=
 (bif decide (i8<(↑l.length:Int))then(bif decide (0<=i8)&&decide (i8<(↑l.length:Int))then(bif KR.oki Z [gA (staC s),gA (relC
 (l.getD i8.toNat rel0))]then(bif decide ((n1+1)*64<=140737488355328)&&decide (n1+1<=(9223372036854775807:Nat))then R0 Z s l g m (n1+1) (appF n1 f1 (Ae [dI 0,
 KR.iw Z [gA (staC s),gA (relC (l.getD i8.toNat rel0))],dB true,KR.ik Z [gA (staC s),gA (relC (l.getD
 i8.toNat rel0))]] (3+1))) (wrap .i64 (i8+1))else none)else none)else none)else some (T.leaf (.c (.row (0) (4) n1),[(0, .row n1 f1 (4) (176))]))):=by kernel_rfl
def okD(n:Int)(x:List AV):Bool:=okG (en1 vI) (fun k=>decide (0<=k)&&decide (k<n)) x
def dcD(x:List AV):BA:=dec (theT (en1 vI) x)
theorem okD_of{n k:Int}(h0:0<=k)(h1:k<n):okD n [vI k]=true:=Ao (Cf Hs) k (by simp[h0,h1])
theorem dcD_of(k:Int):dcD [vI k]=dec k:=by
 unfold dcD;rw[show [vI k]=en1 vI k from rfl,Aj (Cf Hs)]
theorem digit_ok: ∀n:Nat,n<10 ->Ey 1 (some (Blk.cells [C.d (D.v (Value.int IntKind.u8 (wrap IntKind.u8 (wrap IntKind.i64 ((48:Int)+n)))))] 5))=true/\
  K5 1 (some (Blk.cells [C.d (D.v (Value.int IntKind.u8 (wrap IntKind.u8 (wrap IntKind.i64 ((48:Int)+n)))))] 5))=decB n:=by
 intro n h;rw[Bg h];match n,h with
 |0,_|1,_|2,_|3,_|4,_|5,_|6,_|7,_|8,_|9,_=>exact⟨by rfl,by rfl⟩
theorem tdiv10(n:Nat):Int.tdiv (n:Int) 10=((n/10:Nat):Int):=by rw[Int.tdiv_eq_ediv_of_nonneg (by omega)];omega
theorem tmod10(n:Nat):Int.tmod (n:Int) 10=((n%10:Nat):Int):=by rw[Int.tmod_eq_emod_of_nonneg (by omega)];omega
theorem dec_nat(n:Nat):dec (n:Int)=decB n:=rfl
theorem cdecN(n:Nat)(hb:n<=4611686018427387904):CX prog 156 [vI n] [] (vS (dec n)) []:=by
 induction n using Nat.strongRecOn with
 |ind n ih=>
  have so:OrcS prog (oDc (okD n) dcD):=by
   refine .cons (.t' (enc:=en1 vI) (c:=fun k=>decide (0<=k)&&decide (k<(n:Int))) (r:=fun k=>vS (dec k)) fun k hk=> ?_) .nil;simp only[zd,zi]at hk;obtain⟨m,rfl⟩:=Int.eq_ofNat_of_zero_le hk.1;exact ih m (by omega) (by omega)
  refine Am so.ok func156 bdec rfl ((evdec (okD n) dcD n 1).trans ?_);rw[zt (by omega: ¬((n:Int)<0)),zb];by_cases h:n<10
  ·rw[zt (by omega: ¬((n:Int)>=10)),zb,(digit_ok n h).1,za,(digit_ok n h).2,dec_nat]
  ·rw[zk (by omega:((n:Int)>=10)),za,tdiv10,tmod10,wrap_id];have e1:okD n [AV.c (C.d (D.v (Value.int IntKind.i64 ((n/10:Nat):Int))))]=true:=okD_of (by omega) (by omega);have e2:okD n [AV.c (C.d (D.v (Value.int IntKind.i64 ((n%10:Nat):Int))))]=true:=okD_of (by omega) (by omega);have d1:dcD [AV.c (C.d (D.v (Value.int IntKind.i64 ((n/10:Nat):Int))))]=dec ((n/10:Nat):Int):=dcD_of _;have d2:dcD [AV.c (C.d (D.v (Value.int IntKind.i64 ((n%10:Nat):Int))))]=dec ((n%10:Nat):Int):=dcD_of _;have s1:=Gq (n/10);have s2:=Gq (n%10);rw[e1,e2,d1,d2,za,za,dec_nat,dec_nat,zk,za,dec_nat,Ea h]
theorem cdec(n:Int)(h0:0<=n)(h1:n<=4611686018427387904):CX prog 156 [vI n] [] (vS (dec n)) []:=by
 obtain⟨m,rfl⟩:=Int.eq_ofNat_of_zero_le h0;exact cdecN m (by omega)
abbrev M12:Int:=1000000000000
theorem sDc:OrcS prog (oDc (okD M12) dcD):= .cons (.t' (enc:=en1 vI) (c:=fun k=>decide (0<=k)&&decide (k<M12)) (r:=fun k=>vS (dec k)) fun k hk=>by
 simp only[zd,zi]at hk;exact cdec k hk.1 (by unfold M12 at hk;omega)) .nil
theorem AmW{n:Int}(h:0<=n):decI n=dec n:=by
 unfold decI dec;rw[zt];rfl
theorem ArF(n:Int)(h0: -1000000<=n)(h1:n<=1000000):CX prog 156 [vI n] [] (vS (decI n)) []:=by
 by_cases h:0<=n
 ·rw[AmW h];exact cdec n h (by omega)
 ·refine Am sDc.ok func156 bdec rfl ((evdec (okD M12) dcD n 1).trans ?_);have e1:okD M12 [AV.c (C.d (D.v (Value.int IntKind.i64 (0 -n))))]=true:=okD_of (by omega) (by unfold M12;omega);have d1:dcD [AV.c (C.d (D.v (Value.int IntKind.i64 (0 -n))))]=dec (0 -n):=dcD_of _;have s1:=Gq (0 -n).toNat;have e2:dec (0 -n)=decB n.natAbs:=by
   unfold dec;congr 1;omega
  rw[zk (by omega:n<0),za,wrap_id,e1,za,d1,e2];rw[zk (by have:=Gq n.natAbs;show 1+(decB n.natAbs).size<=_;omega),za];unfold decI;rw[zk (by omega:n<0)];rfl
def nI(n:Int):Bool:=decide (-1000000<=n)&&decide (n<=1000000)
theorem zn0(okd:LB)(dcd:List AV ->BA)(r:SRel)(g m:Nat)(n:Nat)(f:RD):Ch okd dcd r g (m+1) n f 0=
 (bif !r.zon0 then Ch okd dcd r g m n f (wrap .i64 (0+1))else(bif r.zfw0 then(bif okd [.c (.d (iD (wrap .i64 (0+1))))]then(bif
 okd [iA r.zx0]then(bif okd [.c (.d (iD r.zr0))]then(bif okd [iA r.zl0]then(bif okd [.c (.d (.v
 (.int .i64 r.zd0)))]then(bif decide ((n+1)*64<=140737488355328)&&decide (n+1<=9223372036854775807)then(bif decide (0<=(↑n:Int))&&decide ((↑n:Int)<(↑(n+1):
 Int))then Ch okd dcd r g m (n+1) (fun j=>bif Nat.beq j (Int.toNat (↑n:Int))then splice (appF n f (Ae [iD 0,D.v (Value.slice none 0 0),D.v (.bool false),D.v
 (.slice none 0 0)] (3+1)) j) 0 [iD 0,D.sl (1+1) (0+1+1+1+1+1+1+1) (Ae [D.v (.string (⟨#[(122:UInt8),111,110,101]⟩)),D.v (.bool false),D.v
 (.string (dcd [iA (wrap .i64 (0+1))])),D.v (.bool false),D.v (.string (⟨#[102,111,114,119,97,114,(100:UInt8)]⟩)),D.v (.bool false),D.v
 (.string (dcd [iA r.zx0])),D.v (.bool false),D.v (.string (dcd [.c (.d (iD r.zr0))])),D.v (.bool false),D.v (.string (dcd
 [iA r.zl0])),D.v (.bool false),D.v (Value.string (dcd [iA r.zd0])),D.v (.bool false)] (1+1)),D.v (.bool false),D.v
 (Value.slice none (0:Nat) 0)]else appF n f (Ae [iD 0,D.v (.slice none 0 0),D.v (.bool false),D.v (Value.slice none 0 (0:Nat))] (3+1)) j) (wrap .i64
 (0+1))else none)else none)else none)else none)else none)else none)else none)else(bif okd [iA (wrap .i64 (0+1))]then(bif okd [.c (.d
 (iD r.zx0))]then(bif okd [iA r.zr0]then(bif okd [iA r.zl0]then(bif okd [.c (.d (.v (Value.int IntKind.i64
 r.zd0)))]then(bif decide ((n+1)*64<=140737488355328)&&decide (n+1<=9223372036854775807)then(bif decide (0<=(↑n:Int))&&decide ((↑n:Int)<(↑(n+1):Int))then
 Ch okd dcd r g m (n+1) (fun j=>bif Nat.beq j (Int.toNat (↑n:Int))then splice (appF n f (Ae [iD 0,D.v (.slice none 0 0),D.v (.bool false),D.v
 (.slice none 0 0)] (3+1)) j) (0:Nat) [iD 0,D.sl (1+1) (0+1+1+1+1+1+1+1) (Ae [D.v (Value.string (⟨#[122,111,110,101]⟩)),D.v (.bool false),D.v
 (.string (dcd [.c (.d (iD (wrap .i64 (0+1))))])),D.v (.bool false),D.v (.string (⟨#[114,101,118,101,(114:UInt8),115,101]⟩)),D.v
 (.bool false),D.v (.string (dcd [iA r.zx0])),D.v (.bool false),D.v (Value.string (dcd [iA r.zr0])),D.v (.bool false),D.v
 (.string (dcd [iA r.zl0])),D.v (.bool false),D.v (.string (dcd [iA r.zd0])),D.v (.bool false)] (1+1)),D.v (Value.bool false),
 D.v (.slice none 0 0)]else appF n f (Ae [iD 0,D.v (.slice none 0 0),D.v (.bool false),D.v (.slice none 0 0)] (3+1)) j) (wrap .i64 (0+1))else none)
 else none)else none)else none)else none)else none)else none))):=by kernel_rfl
theorem zn1(okd:LB)(dcd:List AV ->BA)(r:SRel)(g m:Nat)(n:Nat)(f:RD):Ch okd dcd r g (m+1) n f 1=
 (bif !r.zon1 then Ch okd dcd r g m n f (wrap .i64 (1+1))else(bif r.zfw1 then(bif okd [.c (.d (iD (wrap .i64 (1+1))))]then(bif
 okd [iA r.zx1]then(bif okd [.c (.d (iD r.zr1))]then(bif okd [iA r.zl1]then(bif okd [.c (.d (.v
 (.int .i64 r.zd1)))]then(bif decide ((n+1)*64<=140737488355328)&&decide (n+1<=9223372036854775807)then(bif decide (0<=(↑n:Int))&&decide ((↑n:Int)<(↑(n+1):
 Int))then Ch okd dcd r g m (n+1) (fun j=>bif Nat.beq j (Int.toNat (↑n:Int))then splice (appF n f (Ae [iD 0,D.v (Value.slice none 0 0),D.v (.bool false),D.v
 (.slice none 0 0)] (3+1)) j) 0 [iD 0,D.sl (1+1) (0+1+1+1+1+1+1+1) (Ae [D.v (.string (⟨#[(122:UInt8),111,110,101]⟩)),D.v (.bool false),D.v
 (.string (dcd [iA (wrap .i64 (1+1))])),D.v (.bool false),D.v (.string (⟨#[102,111,114,119,97,114,(100:UInt8)]⟩)),D.v (.bool false),D.v
 (.string (dcd [iA r.zx1])),D.v (.bool false),D.v (.string (dcd [.c (.d (iD r.zr1))])),D.v (.bool false),D.v (.string (dcd
 [iA r.zl1])),D.v (.bool false),D.v (Value.string (dcd [iA r.zd1])),D.v (.bool false)] (1+1)),D.v (.bool false),D.v
 (Value.slice none (0:Nat) 0)]else appF n f (Ae [iD 0,D.v (.slice none 0 0),D.v (.bool false),D.v (Value.slice none 0 (0:Nat))] (3+1)) j) (wrap .i64
 (1+1))else none)else none)else none)else none)else none)else none)else none)else(bif okd [iA (wrap .i64 (1+1))]then(bif okd [.c (.d
 (iD r.zx1))]then(bif okd [iA r.zr1]then(bif okd [iA r.zl1]then(bif okd [.c (.d (.v (Value.int IntKind.i64
 r.zd1)))]then(bif decide ((n+1)*64<=140737488355328)&&decide (n+1<=9223372036854775807)then(bif decide (0<=(↑n:Int))&&decide ((↑n:Int)<(↑(n+1):Int))then
 Ch okd dcd r g m (n+1) (fun j=>bif Nat.beq j (Int.toNat (↑n:Int))then splice (appF n f (Ae [iD 0,D.v (.slice none 0 0),D.v (.bool false),D.v
 (.slice none 0 0)] (3+1)) j) (0:Nat) [iD 0,D.sl (1+1) (0+1+1+1+1+1+1+1) (Ae [D.v (Value.string (⟨#[122,111,110,101]⟩)),D.v (.bool false),D.v
 (.string (dcd [.c (.d (iD (wrap .i64 (1+1))))])),D.v (.bool false),D.v (.string (⟨#[114,101,118,101,(114:UInt8),115,101]⟩)),D.v
 (.bool false),D.v (.string (dcd [iA r.zx1])),D.v (.bool false),D.v (Value.string (dcd [iA r.zr1])),D.v (.bool false),D.v
 (.string (dcd [iA r.zl1])),D.v (.bool false),D.v (.string (dcd [iA r.zd1])),D.v (.bool false)] (1+1)),D.v (Value.bool false),
 D.v (.slice none 0 0)]else appF n f (Ae [iD 0,D.v (.slice none 0 0),D.v (.bool false),D.v (.slice none 0 0)] (3+1)) j) (wrap .i64 (1+1))else none)
 else none)else none)else none)else none)else none)else none))):=by kernel_rfl
theorem zn2(okd:LB)(dcd:List AV ->BA)(r:SRel)(g m:Nat)(n:Nat)(f:RD):Ch okd dcd r g (m+1) n f 2=
 (bif !r.zon2 then Ch okd dcd r g m n f (wrap .i64 (2+1))else(bif r.zfw2 then(bif okd [.c (.d (iD (wrap .i64 (2+1))))]then(bif
 okd [iA r.zx2]then(bif okd [.c (.d (iD r.zr2))]then(bif okd [iA r.zl2]then(bif okd [.c (.d (.v
 (.int .i64 r.zd2)))]then(bif decide ((n+1)*64<=140737488355328)&&decide (n+1<=9223372036854775807)then(bif decide (0<=(↑n:Int))&&decide ((↑n:Int)<(↑(n+1):
 Int))then Ch okd dcd r g m (n+1) (fun j=>bif Nat.beq j (Int.toNat (↑n:Int))then splice (appF n f (Ae [iD 0,D.v (Value.slice none 0 0),D.v (.bool false),D.v
 (.slice none 0 0)] (3+1)) j) 0 [iD 0,D.sl (1+1) (0+1+1+1+1+1+1+1) (Ae [D.v (.string (⟨#[(122:UInt8),111,110,101]⟩)),D.v (.bool false),D.v
 (.string (dcd [iA (wrap .i64 (2+1))])),D.v (.bool false),D.v (.string (⟨#[102,111,114,119,97,114,(100:UInt8)]⟩)),D.v (.bool false),D.v
 (.string (dcd [iA r.zx2])),D.v (.bool false),D.v (.string (dcd [.c (.d (iD r.zr2))])),D.v (.bool false),D.v (.string (dcd
 [iA r.zl2])),D.v (.bool false),D.v (Value.string (dcd [iA r.zd2])),D.v (.bool false)] (1+1)),D.v (.bool false),D.v
 (Value.slice none (0:Nat) 0)]else appF n f (Ae [iD 0,D.v (.slice none 0 0),D.v (.bool false),D.v (Value.slice none 0 (0:Nat))] (3+1)) j) (wrap .i64
 (2+1))else none)else none)else none)else none)else none)else none)else none)else(bif okd [iA (wrap .i64 (2+1))]then(bif okd [.c (.d
 (iD r.zx2))]then(bif okd [iA r.zr2]then(bif okd [iA r.zl2]then(bif okd [.c (.d (.v (Value.int IntKind.i64
 r.zd2)))]then(bif decide ((n+1)*64<=140737488355328)&&decide (n+1<=9223372036854775807)then(bif decide (0<=(↑n:Int))&&decide ((↑n:Int)<(↑(n+1):Int))then
 Ch okd dcd r g m (n+1) (fun j=>bif Nat.beq j (Int.toNat (↑n:Int))then splice (appF n f (Ae [iD 0,D.v (.slice none 0 0),D.v (.bool false),D.v
 (.slice none 0 0)] (3+1)) j) (0:Nat) [iD 0,D.sl (1+1) (0+1+1+1+1+1+1+1) (Ae [D.v (Value.string (⟨#[122,111,110,101]⟩)),D.v (.bool false),D.v
 (.string (dcd [.c (.d (iD (wrap .i64 (2+1))))])),D.v (.bool false),D.v (.string (⟨#[114,101,118,101,(114:UInt8),115,101]⟩)),D.v
 (.bool false),D.v (.string (dcd [iA r.zx2])),D.v (.bool false),D.v (Value.string (dcd [iA r.zr2])),D.v (.bool false),D.v
 (.string (dcd [iA r.zl2])),D.v (.bool false),D.v (.string (dcd [iA r.zd2])),D.v (.bool false)] (1+1)),D.v (Value.bool false),
 D.v (.slice none 0 0)]else appF n f (Ae [iD 0,D.v (.slice none 0 0),D.v (.bool false),D.v (.slice none 0 0)] (3+1)) j) (wrap .i64 (2+1))else none)
 else none)else none)else none)else none)else none)else none))):=by kernel_rfl
theorem zn3(okd:LB)(dcd:List AV ->BA)(r:SRel)(g m:Nat)(n:Nat)(f:RD):Ch okd dcd r g (m+1) n f 3=
 Zp okd dcd r g g n f:=by kernel_rfl
structure NFit (r:SRel):Prop where
 zx0:nI r.zx0=true
 zr0:nI r.zr0=true
 zl0:nI r.zl0=true
 zd0:nI r.zd0=true
 zx1:nI r.zx1=true
 zr1:nI r.zr1=true
 zl1:nI r.zl1=true
 zd1:nI r.zd1=true
 zx2:nI r.zx2=true
 zr2:nI r.zr2=true
 zl2:nI r.zl2=true
 zd2:nI r.zd2=true
 min:nI r.min=true
 kre:nI r.kre=true
 kim:nI r.kim=true
 wait:nI r.wait=true
 guard:nI r.guard=true
 dpk:nI r.dpk=true
 ddl:nI r.ddl=true
 ipk:nI r.ipk=true
 idl:nI r.idl=true
 fpk:nI r.fpk=true
 fdl:nI r.fdl=true
 qp:nI r.qp=true
 dead:nI r.dead=true
 qo:nI r.qo=true
 upk:nI r.upk=true
 udl:nI r.udl=true
 opk:nI r.opk=true
 odl:nI r.odl=true
 diff:nI r.diff=true
 num:nI r.num=true
 den:nI r.den=true
 harm:nI r.harm=true
 sch:r.qn=0\/r.qn=1\/r.qn=2\/r.qn=3
def okN':LB
 |[.c (.d (.v (.int .i64 k)))]=>nI k|_=>false
def dcN':List AV ->BA
 |[.c (.d (.v (.int .i64 k)))]=>decI k|_=>e0
theorem okn{k:Int}(h:nI k=true):okN' [AV.c (C.d (D.v (Value.int IntKind.i64 k)))]=true:=h
theorem Aie{k:Int}(h:nI k=true): -1000000<=k/\k<=1000000:=by
 unfold nI at h;simp only[zd,zi]at h;exact h
theorem sDn:OrcS prog (oDc okN' dcN'):= .cons (.g fun x h=>by
 unfold okN' at h;split at h
 ·rename_i k;exact ArF k (Aie h).1 (Aie h).2
 ·cases h) .nil
theorem sPit:OrcS prog (oPit okN' dcN'):= .cons (.g fun x h=>by
 unfold okN' at h;split at h
 ·rename_i k;exact ito.cItoa k (Aie h).1 (Aie h).2
 ·cases h) .nil
theorem sPx:OrcS prog oPx:= .cons (.inl .nil func92 (by kernel_rfl)) .nil
theorem sPst:OrcS prog (oPst okN' dcN'):= .cons (.inl sPx func91 (by kernel_rfl)) (.cons (.inl .nil func92 (by kernel_rfl)) (.cons (.inl .nil func154 (by kernel_rfl)) (.cons (.inl sPit func153 (by kernel_rfl)) sPit)))
theorem sPnu:OrcS prog (oPnu okN' dcN'):= .cons (.inl sPst func152 (by kernel_rfl)) sPst
theorem Ez(i:Int)(fw:Bool)(x r l d:Int):Dj i false fw x r l d=[]:=rfl
theorem appOk5{n:Nat}(h:n<=5000:=by omega):(decide ((n+1)*64<=140737488355328)&&decide (n+1<=9223372036854775807))=true:=by
 rw[zk,zk];rfl
abbrev putF(n:Nat)(f:RD)(z ds:List D):RD:=fun j=>bif Nat.beq j (Int.toNat (n:Int))then splice (appF n f (Ae z ((3:Nat)+(1:Nat))) j) 0 ds else appF n f (Ae z ((3:Nat)+(1:Nat))) j
theorem putF_eq'(n:Nat)(f:RD)(z ds:List D)(hz:z.length=4)(hd:ds.length=4):putF n f z ds=appF n f (Ae ds 4):=by
 funext j;unfold putF appF;rw[bltD,beqD,tn];by_cases e:j<n
 ·rw[zk e,zt];rfl
 ·rw[zt e];by_cases e2:j=n
  ·subst e2;rw[zk rfl,Nat.sub_self];show splice (Ae z 4 0) 0 ds=Ae ds 4 0;have h1:Ae z 4 0=z:=by rw[<-hz];exact Jq z
   have h2:Ae ds 4 0=ds:=by rw[<-hd];exact Jq ds
   rw[h1,h2];unfold splice;rw[zl];simp
  ·rw[zt e2];show Ae z 4 (j -n)=Ae ds 4 (j -n);unfold Ae;rw[zl,zl]
theorem putF_eq(n:Nat)(f:RD)(z ds:List D)(hz:z.length=4)(hd:ds.length=4):(fun j=>bif Nat.beq j (Int.toNat (n:Int))then splice (appF n f (Ae z ((3:Nat)+(1:Nat))) j) (0:Nat) ds else appF n f (Ae z ((3:Nat)+(1:Nat))) j)=appF n f (Ae ds 4):=putF_eq' n f z ds hz hd
theorem ixn(n:Nat):(decide ((0:Int)<=(n:Int))&&decide ((n:Int)<((n+(1:Nat):Nat):Int)))=true:=by
 rw[zk,zk];rfl
section
variable {r:SRel}(h:NFit r)(g:Nat)
include h
theorem ApN(m n:Nat)(f:RD)(bef:List It)(hn:n<=4000)(hr:RLe Af i0 n f bef):
  ∃n' f',n'<=n+1/\RLe Af i0 n' f' (bef++Dj 1 r.zon0 r.zfw0 r.zx0 r.zr0 r.zl0 r.zd0)/\Ch okN' dcN' r (g+1) (m+1) n f 0=Ch okN' dcN' r (g+1) m n' f' 1:=by
 rw[zn0,show wrap IntKind.i64 ((0:Int)+(1:Int))=1 by decide];cases e0:r.zon0 with
 |false=>
  rw[Bool.not_false,za];exact⟨n,f,by omega,by rw[Ez,List.append_nil];exact hr,rfl⟩
 |true=>
  cases e1:r.zfw0 with
  |true=>
   rw[Bool.not_true,zb,za,okn (show nI 1=true by decide),za,okn h.zx0,za,okn h.zr0,za,okn h.zl0,za,okn h.zd0,za,appOk5,za,ixn,za,putF_eq _ _ _ _ rfl rfl];generalize Ch okN' dcN' r (g+1) m=LL;exact⟨_,_,Nat.le_refl _,hr.app rfl (At [Fc,decI 1,Dw,decI r.zx0,decI r.zr0,decI r.zl0,decI r.zd0]),rfl⟩
  |false=>
   rw[Bool.not_true,zb,zb,okn (show nI 1=true by decide),za,okn h.zx0,za,okn h.zr0,za,okn h.zl0,za,okn h.zd0,za,appOk5,za,ixn,za,putF_eq _ _ _ _ rfl rfl];generalize Ch okN' dcN' r (g+1) m=LL;exact⟨_,_,Nat.le_refl _,hr.app rfl (At [Fc,decI 1,Dv,decI r.zx0,decI r.zr0,decI r.zl0,decI r.zd0]),rfl⟩
theorem ApM(m n:Nat)(f:RD)(bef:List It)(hn:n<=4000)(hr:RLe Af i0 n f bef):
  ∃n' f',n'<=n+1/\RLe Af i0 n' f' (bef++Dj 2 r.zon1 r.zfw1 r.zx1 r.zr1 r.zl1 r.zd1)/\Ch okN' dcN' r (g+1) (m+1) n f 1=Ch okN' dcN' r (g+1) m n' f' 2:=by
 rw[zn1,show wrap IntKind.i64 ((1:Int)+(1:Int))=2 by decide];cases e0:r.zon1 with
 |false=>
  rw[Bool.not_false,za];exact⟨n,f,by omega,by rw[Ez,List.append_nil];exact hr,rfl⟩
 |true=>
  cases e1:r.zfw1 with
  |true=>
   rw[Bool.not_true,zb,za,okn (show nI 2=true by decide),za,okn h.zx1,za,okn h.zr1,za,okn h.zl1,za,okn h.zd1,za,appOk5,za,ixn,za,putF_eq _ _ _ _ rfl rfl];generalize Ch okN' dcN' r (g+1) m=LL;exact⟨_,_,Nat.le_refl _,hr.app rfl (At [Fc,decI 2,Dw,decI r.zx1,decI r.zr1,decI r.zl1,decI r.zd1]),rfl⟩
  |false=>
   rw[Bool.not_true,zb,zb,okn (show nI 2=true by decide),za,okn h.zx1,za,okn h.zr1,za,okn h.zl1,za,okn h.zd1,za,appOk5,za,ixn,za,putF_eq _ _ _ _ rfl rfl];generalize Ch okN' dcN' r (g+1) m=LL;exact⟨_,_,Nat.le_refl _,hr.app rfl (At [Fc,decI 2,Dv,decI r.zx1,decI r.zr1,decI r.zl1,decI r.zd1]),rfl⟩
theorem ApL(m n:Nat)(f:RD)(bef:List It)(hn:n<=4000)(hr:RLe Af i0 n f bef):
  ∃n' f',n'<=n+1/\RLe Af i0 n' f' (bef++Dj 3 r.zon2 r.zfw2 r.zx2 r.zr2 r.zl2 r.zd2)/\Ch okN' dcN' r (g+1) (m+1) n f 2=Ch okN' dcN' r (g+1) m n' f' 3:=by
 rw[zn2,show wrap IntKind.i64 ((2:Int)+(1:Int))=3 by decide];cases e0:r.zon2 with
 |false=>
  rw[Bool.not_false,za];exact⟨n,f,by omega,by rw[Ez,List.append_nil];exact hr,rfl⟩
 |true=>
  cases e1:r.zfw2 with
  |true=>
   rw[Bool.not_true,zb,za,okn (show nI 3=true by decide),za,okn h.zx2,za,okn h.zr2,za,okn h.zl2,za,okn h.zd2,za,appOk5,za,ixn,za,putF_eq _ _ _ _ rfl rfl];generalize Ch okN' dcN' r (g+1) m=LL;exact⟨_,_,Nat.le_refl _,hr.app rfl (At [Fc,decI 3,Dw,decI r.zx2,decI r.zr2,decI r.zl2,decI r.zd2]),rfl⟩
  |false=>
   rw[Bool.not_true,zb,zb,okn (show nI 3=true by decide),za,okn h.zx2,za,okn h.zr2,za,okn h.zl2,za,okn h.zd2,za,appOk5,za,ixn,za,putF_eq _ _ _ _ rfl rfl];generalize Ch okN' dcN' r (g+1) m=LL;exact⟨_,_,Nat.le_refl _,hr.app rfl (At [Fc,decI 3,Dv,decI r.zx2,decI r.zr2,decI r.zl2,decI r.zd2]),rfl⟩
theorem ApX(n:Nat)(f:RD)(bef:List It)(hn:n<=4000)(hr:RLe Af i0 n f bef):
  ∃n' f',n'<=n+1/\RLe Af i0 n' f' (bef++Bw (r.min !=0) (say [Pb,decI r.min,decI r.kre,decI r.kim]))/\Zp okN' dcN' r (g+1) (g+1) n f=Nv okN' dcN' r (g+1) (g+1) n' f':=by
 rw[Ahn];cases(r.min !=0)with
 |false=>
  rw[zb];exact⟨n,f,by omega,by rw[show ∀x,Bw false x=[]from fun _=>rfl,List.append_nil];exact hr,rfl⟩
 |true=>
  rw[za,okn h.min,za,okn h.kre,za,okn h.kim,za,appOk5,za,ixn,za,putF_eq _ _ _ _ rfl rfl];generalize Nv okN' dcN' r (g+1) (g+1)=LL;exact⟨_,_,Nat.le_refl _,hr.app rfl (At [Pb,decI r.min,decI r.kre,decI r.kim]),rfl⟩
theorem ApW(n:Nat)(f:RD)(bef:List It)(hn:n<=4000)(hr:RLe Af i0 n f bef):
  ∃n' f',n'<=n+1/\RLe Af i0 n' f' (bef++Bw (r.qn !=0) (say [De,Kt r.qn,decI r.wait,decI r.guard]))/\Nv okN' dcN' r (g+1) (g+1) n f=Gc okN' dcN' r (g+1) (g+1) n' f':=by
 rw[Ahm];rcases h.sch with e|e|e|e
 ·rw[e,show((0:Int) !=0)=false by decide,zb];exact⟨n,f,by omega,by rw[show ∀x,Bw false x=[]from fun _=>rfl,List.append_nil];exact hr,rfl⟩
 ·rw[e,show((1:Int) !=0)=true by decide,za,show((1:Int)==1)=true by decide,za];rw[okn h.wait,za,okn h.guard,za,appOk5,za,ixn,za,putF_eq _ _ _ _ rfl rfl];generalize Gc okN' dcN' r (g+1) (g+1)=LL;exact⟨_,_,Nat.le_refl _,hr.app rfl (At [De,Fw,decI r.wait,decI r.guard]),rfl⟩
 ·rw[e,show((2:Int) !=0)=true by decide,za,show((2:Int)==1)=false by decide,zb,show((2:Int)==2)=true by decide,za];rw[okn h.wait,za,okn h.guard,za,appOk5,za,ixn,za,putF_eq _ _ _ _ rfl rfl];generalize Gc okN' dcN' r (g+1) (g+1)=LL;exact⟨_,_,Nat.le_refl _,hr.app rfl (At [De,Gz,decI r.wait,decI r.guard]),rfl⟩
 ·rw[e,show((3:Int) !=0)=true by decide,za,show((3:Int)==1)=false by decide,zb,show((3:Int)==2)=false by decide,zb];rw[okn h.wait,za,okn h.guard,za,appOk5,za,ixn,za,putF_eq _ _ _ _ rfl rfl];generalize Gc okN' dcN' r (g+1) (g+1)=LL;exact⟨_,_,Nat.le_refl _,hr.app rfl (At [De,J4,decI r.wait,decI r.guard]),rfl⟩
theorem ApV(n:Nat)(f:RD)(bef:List It)(hn:n<=4000)(hr:RLe Af i0 n f bef):
  ∃n' f',n'<=n+1/\RLe Af i0 n' f' (bef++Bw (r.don) (say [Dm,decI r.dpk,decI r.ddl]))/\Gc okN' dcN' r (g+1) (g+1) n f=Nu okN' dcN' r (g+1) (g+1) n' f':=by
 rw[Ahl];cases(r.don)with
 |false=>
  rw[zb];exact⟨n,f,by omega,by rw[show ∀x,Bw false x=[]from fun _=>rfl,List.append_nil];exact hr,rfl⟩
 |true=>
  rw[za,okn h.dpk,za,okn h.ddl,za,appOk5,za,ixn,za,putF_eq _ _ _ _ rfl rfl];generalize Nu okN' dcN' r (g+1) (g+1)=LL;exact⟨_,_,Nat.le_refl _,hr.app rfl (At [Dm,decI r.dpk,decI r.ddl]),rfl⟩
theorem ApU(n:Nat)(f:RD)(bef:List It)(hn:n<=4000)(hr:RLe Af i0 n f bef):
  ∃n' f',n'<=n+1/\RLe Af i0 n' f' (bef++Bw (r.ion) (say [Eg,decI r.ipk,decI r.idl]))/\Nu okN' dcN' r (g+1) (g+1) n f=Nt okN' dcN' r (g+1) (g+1) n' f':=by
 rw[Ahk];cases(r.ion)with
 |false=>
  rw[zb];exact⟨n,f,by omega,by rw[show ∀x,Bw false x=[]from fun _=>rfl,List.append_nil];exact hr,rfl⟩
 |true=>
  rw[za,okn h.ipk,za,okn h.idl,za,appOk5,za,ixn,za,putF_eq _ _ _ _ rfl rfl];generalize Nt okN' dcN' r (g+1) (g+1)=LL;exact⟨_,_,Nat.le_refl _,hr.app rfl (At [Eg,decI r.ipk,decI r.idl]),rfl⟩
theorem ApT(n:Nat)(f:RD)(bef:List It)(hn:n<=4000)(hr:RLe Af i0 n f bef):
  ∃n' f',n'<=n+1/\RLe Af i0 n' f' (bef++Bw (r.fon) (say [Pc,decI r.fpk,decI r.fdl]))/\Nt okN' dcN' r (g+1) (g+1) n f=Nr okN' dcN' r (g+1) (g+1) n' f':=by
 rw[Ahj];cases(r.fon)with
 |false=>
  rw[zb];exact⟨n,f,by omega,by rw[show ∀x,Bw false x=[]from fun _=>rfl,List.append_nil];exact hr,rfl⟩
 |true=>
  rw[za,okn h.fpk,za,okn h.fdl,za,appOk5,za,ixn,za,putF_eq _ _ _ _ rfl rfl];generalize Nr okN' dcN' r (g+1) (g+1)=LL;exact⟨_,_,Nat.le_refl _,hr.app rfl (At [Pc,decI r.fpk,decI r.fdl]),rfl⟩
theorem ApS(n:Nat)(f:RD)(bef:List It)(hn:n<=4000)(hr:RLe Af i0 n f bef):
  ∃n' f',n'<=n+1/\RLe Af i0 n' f' (bef++Bw (r.qp !=0) (say [Ef,decI r.qp,decI r.dead,decI r.qo]))/\Nr okN' dcN' r (g+1) (g+1) n f=Nq okN' dcN' r (g+1) (g+1) n' f':=by
 rw[Ahi];cases(r.qp !=0)with
 |false=>
  rw[zb];exact⟨n,f,by omega,by rw[show ∀x,Bw false x=[]from fun _=>rfl,List.append_nil];exact hr,rfl⟩
 |true=>
  rw[za,okn h.qp,za,okn h.dead,za,okn h.qo,za,appOk5,za,ixn,za,putF_eq _ _ _ _ rfl rfl];generalize Nq okN' dcN' r (g+1) (g+1)=LL;exact⟨_,_,Nat.le_refl _,hr.app rfl (At [Ef,decI r.qp,decI r.dead,decI r.qo]),rfl⟩
theorem ApR(n:Nat)(f:RD)(bef:List It)(hn:n<=4000)(hr:RLe Af i0 n f bef):
  ∃n' f',n'<=n+1/\RLe Af i0 n' f' (bef++Bw (r.uon) (say [Hw,decI r.upk,decI r.udl]))/\Nq okN' dcN' r (g+1) (g+1) n f=Np okN' dcN' r (g+1) (g+1) n' f':=by
 rw[Ahh];cases(r.uon)with
 |false=>
  rw[zb];exact⟨n,f,by omega,by rw[show ∀x,Bw false x=[]from fun _=>rfl,List.append_nil];exact hr,rfl⟩
 |true=>
  rw[za,okn h.upk,za,okn h.udl,za,appOk5,za,ixn,za,putF_eq _ _ _ _ rfl rfl];generalize Np okN' dcN' r (g+1) (g+1)=LL;exact⟨_,_,Nat.le_refl _,hr.app rfl (At [Hw,decI r.upk,decI r.udl]),rfl⟩
theorem ApQ(n:Nat)(f:RD)(bef:List It)(hn:n<=4000)(hr:RLe Af i0 n f bef):
  ∃n' f',n'<=n+1/\RLe Af i0 n' f' (bef++Bw (r.oon) (say [Pa,decI r.opk,decI r.odl]))/\Np okN' dcN' r (g+1) (g+1) n f=Nn okN' dcN' r (g+1) (g+1) n' f':=by
 rw[Ahg];cases(r.oon)with
 |false=>
  rw[zb];exact⟨n,f,by omega,by rw[show ∀x,Bw false x=[]from fun _=>rfl,List.append_nil];exact hr,rfl⟩
 |true=>
  rw[za,okn h.opk,za,okn h.odl,za,appOk5,za,ixn,za,putF_eq _ _ _ _ rfl rfl];generalize Nn okN' dcN' r (g+1) (g+1)=LL;exact⟨_,_,Nat.le_refl _,hr.app rfl (At [Pa,decI r.opk,decI r.odl]),rfl⟩
theorem ApP(n:Nat)(f:RD)(bef:List It)(hn:n<=4000)(hr:RLe Af i0 n f bef):
  ∃n' f',n'<=n+1/\RLe Af i0 n' f' (bef++Bw (r.diff !=0) (say [By,decI r.diff,decI r.num,decI r.den,decI r.harm]))/\Nn okN' dcN' r (g+1) (g+1) n f=R4 okN' dcN' r (g+1) (g+1) n' f':=by
 rw[Ahf];cases(r.diff !=0)with
 |false=>
  rw[zb];exact⟨n,f,by omega,by rw[show ∀x,Bw false x=[]from fun _=>rfl,List.append_nil];exact hr,rfl⟩
 |true=>
  rw[za,okn h.diff,za,okn h.num,za,okn h.den,za,okn h.harm,za,appOk5,za,ixn,za,putF_eq _ _ _ _ rfl rfl];generalize R4 okN' dcN' r (g+1) (g+1)=LL;exact⟨_,_,Nat.le_refl _,hr.app rfl (At [By,decI r.diff,decI r.num,decI r.den,decI r.harm]),rfl⟩
end
theorem cnum{r:SRel}(h:NFit r):CX prog 94 [aRel r] [] (.c (.row 0 4 (C1 r).length)) [(0,Blk.row (C1 r).length (fun i=>Af ((C1 r).getD i i0)) 4 176)]:=by
 obtain⟨g,hg⟩: ∃g:Nat,g=10:=⟨10,rfl⟩;have hz:=RLe.nil (c:=Af) (d0:=i0) fun _=>[]
 obtain⟨nz0,fz0,bz0,rz0,ez0⟩:=ApN h g g 0 (fun _=>[]) [] (by omega) hz;obtain⟨nz1,fz1,bz1,rz1,ez1⟩:=ApM h g (g -1) nz0 fz0 _ (by omega) rz0;obtain⟨nz2,fz2,bz2,rz2,ez2⟩:=ApL h g (g -2) nz1 fz1 _ (by omega) rz1;obtain⟨n13,f13,b13,r13,e13⟩:=ApX h g nz2 fz2 _ (by omega) rz2;obtain⟨n14,f14,b14,r14,e14⟩:=ApW h g n13 f13 _ (by omega) r13;obtain⟨n16,f16,b16,r16,e16⟩:=ApV h g n14 f14 _ (by omega) r14;obtain⟨n17,f17,b17,r17,e17⟩:=ApU h g n16 f16 _ (by omega) r16;obtain⟨n18,f18,b18,r18,e18⟩:=ApT h g n17 f17 _ (by omega) r17;obtain⟨n19,f19,b19,r19,e19⟩:=ApS h g n18 f18 _ (by omega) r18;obtain⟨n20,f20,b20,r20,e20⟩:=ApR h g n19 f19 _ (by omega) r19;obtain⟨n21,f21,b21,r21,e21⟩:=ApQ h g n20 f20 _ (by omega) r20;obtain⟨n22,f22,b22,r22,e22⟩:=ApP h g n21 f21 _ (by omega) r21;have es:r22=r22:=rfl;have hl:=r22.len;have key:Ai prog (oPnu okN' dcN') Gu (g+1) f94 (Ac f94) [aRel r] []=some (T.leaf (AV.c (C.row 0 4 n22),[(0,Blk.row n22 f22 4 176)])):=by
  subst hg;rw[AqL];refine ez0.trans (ez1.trans (ez2.trans ((zn3 _ _ _ _ _ _ _).trans (e13.trans (e14.trans (e16.trans (e17.trans (e18.trans (e19.trans (e20.trans (e21.trans (e22.trans ?_))))))))))));rw[Ahe]
 have hc:=Am sPnu.ok func94 bnum rfl key;have e:n22=(C1 r).length:=hl;subst e;exact hc.le (.refl _) (.cons ⟨rfl,rfl,rfl,fun i hi=>r22.le i hi⟩ .nil)
def oSay(okd:LB)(dcd:List AV ->BA):Orc:=Orc.cons 98 (inl prog (oDc okd dcd) na 12 f98) Orc.nil
def F1:Ann:=A1 [(3,⟨[1,4,3],[(3,0,4,176)]⟩),(100014,⟨[1,3],[(3,0,4,176)]⟩),(100016,⟨[1,3],[(3,0,4,176)]⟩),(100017,⟨[1,3],[(3,0,4,176)]⟩),(100018,⟨[1,3],[(3,0,4,176)]⟩),(100020,⟨[1,3],[(3,0,4,176)]⟩),(100022,⟨[1,3],[(3,0,4,176)]⟩),(100024,⟨[1,3],[(3,0,4,176)]⟩),(100026,⟨[1,3],[(3,0,4,176)]⟩),(100028,⟨[1,3],[(3,0,4,176)]⟩),(100030,⟨[1,3],[(3,0,4,176)]⟩),(100032,⟨[3],[(3,0,4,176)]⟩)]
def B5(okd:LB)(dcd:List AV ->BA)(r:SRel)(g m:Nat)(n1:Nat)(f1:RD)(i4:Int):=LK prog (oSay okd dcd) F1 0 g f157 3 m ⟨frm [(1, .c (.ptr 0 0)),(3, .c (.row 1 4 n1)),(4,iA i4)] 0 f157.ntmps,[(0, .cells (List.map C.d (relC r)) 64),(1, .row n1 f1 4 176)],2⟩
def Zq(okd:LB)(dcd:List AV ->BA)(r:SRel)(g m:Nat)(n1:Nat)(f1:RD):=GK prog (oSay okd dcd) F1 0 g f157 14 m ⟨frm [(1, .c (.ptr 0 0)),(3, .c (.row 1 4 n1))] 0 f157.ntmps,[(0, .cells (List.map C.d (relC r)) 64),(1, .row n1 f1 4 176)],2⟩
def N5(okd:LB)(dcd:List AV ->BA)(r:SRel)(g m:Nat)(n1:Nat)(f1:RD):=GK prog (oSay okd dcd) F1 0 g f157 16 m ⟨frm [(1, .c (.ptr 0 0)),(3, .c (.row 1 4 n1))] 0 f157.ntmps,[(0, .cells (List.map C.d (relC r)) 64),(1, .row n1 f1 4 176)],2⟩
def Vf(okd:LB)(dcd:List AV ->BA)(r:SRel)(g m:Nat)(n1:Nat)(f1:RD):=GK prog (oSay okd dcd) F1 0 g f157 17 m ⟨frm [(1, .c (.ptr 0 0)),(3, .c (.row 1 4 n1))] 0 f157.ntmps,[(0, .cells (List.map C.d (relC r)) 64),(1, .row n1 f1 4 176)],2⟩
def Gd(okd:LB)(dcd:List AV ->BA)(r:SRel)(g m:Nat)(n1:Nat)(f1:RD):=GK prog (oSay okd dcd) F1 0 g f157 18 m ⟨frm [(1, .c (.ptr 0 0)),(3, .c (.row 1 4 n1))] 0 f157.ntmps,[(0, .cells (List.map C.d (relC r)) 64),(1, .row n1 f1 4 176)],2⟩
def N4(okd:LB)(dcd:List AV ->BA)(r:SRel)(g m:Nat)(n1:Nat)(f1:RD):=GK prog (oSay okd dcd) F1 0 g f157 20 m ⟨frm [(1, .c (.ptr 0 0)),(3, .c (.row 1 4 n1))] 0 f157.ntmps,[(0, .cells (List.map C.d (relC r)) 64),(1, .row n1 f1 4 176)],2⟩
def N0(okd:LB)(dcd:List AV ->BA)(r:SRel)(g m:Nat)(n1:Nat)(f1:RD):=GK prog (oSay okd dcd) F1 0 g f157 22 m ⟨frm [(1, .c (.ptr 0 0)),(3, .c (.row 1 4 n1))] 0 f157.ntmps,[(0, .cells (List.map C.d (relC r)) 64),(1, .row n1 f1 4 176)],2⟩
def Nz(okd:LB)(dcd:List AV ->BA)(r:SRel)(g m:Nat)(n1:Nat)(f1:RD):=GK prog (oSay okd dcd) F1 0 g f157 24 m ⟨frm [(1, .c (.ptr 0 0)),(3, .c (.row 1 4 n1))] 0 f157.ntmps,[(0, .cells (List.map C.d (relC r)) 64),(1, .row n1 f1 4 176)],2⟩
def Ny(okd:LB)(dcd:List AV ->BA)(r:SRel)(g m:Nat)(n1:Nat)(f1:RD):=GK prog (oSay okd dcd) F1 0 g f157 26 m ⟨frm [(1, .c (.ptr 0 0)),(3, .c (.row 1 4 n1))] 0 f157.ntmps,[(0, .cells (List.map C.d (relC r)) 64),(1, .row n1 f1 4 176)],2⟩
def Nx(okd:LB)(dcd:List AV ->BA)(r:SRel)(g m:Nat)(n1:Nat)(f1:RD):=GK prog (oSay okd dcd) F1 0 g f157 28 m ⟨frm [(1, .c (.ptr 0 0)),(3, .c (.row 1 4 n1))] 0 f157.ntmps,[(0, .cells (List.map C.d (relC r)) 64),(1, .row n1 f1 4 176)],2⟩
def Nw(okd:LB)(dcd:List AV ->BA)(r:SRel)(g m:Nat)(n1:Nat)(f1:RD):=GK prog (oSay okd dcd) F1 0 g f157 30 m ⟨frm [(1, .c (.ptr 0 0)),(3, .c (.row 1 4 n1))] 0 f157.ntmps,[(0, .cells (List.map C.d (relC r)) 64),(1, .row n1 f1 4 176)],2⟩
def Sb(okd:LB)(dcd:List AV ->BA)(r:SRel)(g m:Nat)(n0:Nat)(f0:RD):=GK prog (oSay okd dcd) F1 0 g f157 32 m ⟨frm [(3, .c (.row 0 4 n0))] 0 f157.ntmps,[(0, .row n0 f0 4 176)],1⟩
theorem bfun:f157.body=some (Ac f157):=by kernel_rfl
theorem AqT(okd:LB)(dcd:List AV ->BA)(r:SRel)(g:Nat):Ai prog (oSay okd dcd) F1 g f157 (Ac f157) [aRel r] []=
 B5 okd dcd r g g 0 (fun x=>[]) 0:=by kernel_rfl
theorem Ahx(okd:LB)(dcd:List AV ->BA)(r:SRel)(g m:Nat)(n1:Nat)(f1:RD):Zq okd dcd r g (m+1) n1 f1=
 (bif r.min !=0 then(bif okd [iA r.min]then(bif okd [iA r.kre]then(bif okd [iA r.kim]then(bif decide
 ((n1+1)*64<=140737488355328)&&decide (n1+1<=9223372036854775807)then N5 okd dcd r g g (n1+1) (appF n1 f1 (Ae [iD 0,D.sl (1+1) (0+(1:Nat)+1+1+
 1) (Ae [D.v (.string (⟨#[108,111,111,112]⟩)),D.v (.bool false),D.v (Value.string (dcd [iA r.min])),D.v (.bool false),D.v (.string (dcd [.c (.d (.v
 (.int .i64 r.kre)))])),D.v (.bool false),D.v (.string (dcd [iA r.kim])),D.v (.bool false)] (1+1)),D.v (Value.bool false),D.v (.slice none 0 0)] (3+
 1)))else none)else none)else none)else none)else N5 okd dcd r g g n1 f1):=by kernel_rfl
theorem Ahw(okd:LB)(dcd:List AV ->BA)(r:SRel)(g m:Nat)(n1:Nat)(f1:RD):N5 okd dcd r g (m+1) n1 f1=
 (bif r.qn !=0 then Vf okd dcd r g g n1 f1 else Gd okd dcd r g g n1 f1):=by kernel_rfl
theorem Ahv(okd:LB)(dcd:List AV ->BA)(r:SRel)(g m:Nat)(n1:Nat)(f1:RD):Gd okd dcd r g (m+1) n1 f1=
 (bif r.don then(bif okd [iA r.dpk]then(bif okd [iA r.ddl]then(bif decide ((n1+1)*64<=140737488355328)&&decide (n1+1<=
 9223372036854775807)then N4 okd dcd r g g (n1+1) (appF n1 f1 (Ae [iD 0,D.sl (1+1) (0+1+1+1) (Ae [D.v (.string (⟨#[100,(101:UInt8),102,105,
 110,105,116,101]⟩)),D.v (.bool false),D.v (.string (dcd [.c (.d (iD r.dpk))])),D.v (.bool false),D.v (.string (dcd [.c (.d (.v (.int .i64
 r.ddl)))])),D.v (.bool false)] (1+(1:Nat))),D.v (.bool false),D.v (.slice none 0 0)] (3+1)))else none)else none)else none)else N4 okd dcd r g g n1 f1):=by kernel_rfl
theorem Ahu(okd:LB)(dcd:List AV ->BA)(r:SRel)(g m:Nat)(n1:Nat)(f1:RD):N4 okd dcd r g (m+1) n1 f1=
 (bif r.ion then(bif okd [iA r.ipk]then(bif okd [iA r.idl]then(bif decide ((n1+1)*64<=140737488355328)&&decide (n1+1<=
 9223372036854775807)then N0 okd dcd r g g (n1+1) (appF n1 f1 (Ae [iD 0,D.sl (1+1) (0+1+1+1) (Ae [D.v (.string (⟨#[105,(110:UInt8),118,101,
 114,115,101]⟩)),D.v (.bool false),D.v (.string (dcd [iA r.ipk])),D.v (.bool false),D.v (.string (dcd [iA r.idl])),D.v (.bool
 false)] (1+1)),D.v (Value.bool false),D.v (.slice none 0 0)] (3+1)))else none)else none)else none)else N0 okd dcd r g g n1 f1):=by kernel_rfl
theorem Aht(okd:LB)(dcd:List AV ->BA)(r:SRel)(g m:Nat)(n1:Nat)(f1:RD):N0 okd dcd r g (m+1) n1 f1=
 (bif r.fon then(bif okd [iA r.fpk]then(bif okd [iA r.fdl]then(bif decide ((n1+1)*64<=140737488355328)&&decide (n1+1<=
 9223372036854775807)then Nz okd dcd r g g (n1+1) (appF n1 f1 (Ae [iD 0,D.sl (1+1) (0+1+1+1) (Ae [D.v (.string (⟨#[102,(97:UInt8),105,
 108]⟩)),D.v (.bool false),D.v (.string (dcd [iA r.fpk])),D.v (.bool false),D.v (Value.string (dcd [iA r.fdl])),D.v (.bool
 false)] (1+1)),D.v (.bool false),D.v (Value.slice none (0:Nat) 0)] (3+1)))else none)else none)else none)else Nz okd dcd r g g n1 f1):=by kernel_rfl
theorem Ahs(okd:LB)(dcd:List AV ->BA)(r:SRel)(g m:Nat)(n1:Nat)(f1:RD):Nz okd dcd r g (m+1) n1 f1=
 (bif r.qp !=0 then(bif okd [iA r.qp]then(bif okd [iA r.dead]then(bif okd [iA r.qo]then
 (bif decide ((n1+1)*64<=140737488355328)&&decide (n1+1<=9223372036854775807)then Ny okd dcd r g g (n1+1) (appF n1 f1 (Ae [iD 0,D.sl (1+1) (0+(1:
 Nat)+1+1+1) (Ae [D.v (.string (⟨#[114,101,99,108,111,115,(101:UInt8)]⟩)),D.v (.bool false),D.v (.string (dcd [iA r.qp])),D.v (.bool
 false),D.v (.string (dcd [.c (.d (iD r.dead))])),D.v (.bool false),D.v (.string (dcd [iA r.qo])),D.v (.bool false)] ((1
 :Nat)+1)),D.v (.bool false),D.v (.slice none 0 0)] (3+1)))else none)else none)else none)else none)else Ny okd dcd r g g n1 f1):=by kernel_rfl
theorem Ahr(okd:LB)(dcd:List AV ->BA)(r:SRel)(g m:Nat)(n1:Nat)(f1:RD):Ny okd dcd r g (m+1) n1 f1=
 (bif r.uon then(bif okd [iA r.upk]then(bif okd [iA r.udl]then(bif decide ((n1+1)*64<=140737488355328)&&decide (n1+1<=
 9223372036854775807)then Nx okd dcd r g g (n1+1) (appF n1 f1 (Ae [iD 0,D.sl (1+1) (0+1+1+1) (Ae [D.v (.string (⟨#[117,(110:UInt8),100,101,
 114]⟩)),D.v (.bool false),D.v (.string (dcd [iA r.upk])),D.v (Value.bool false),D.v (.string (dcd [iA r.udl])),D.v (.bool
 false)] (1+1)),D.v (.bool false),D.v (Value.slice none 0 0)] (3+1)))else none)else none)else none)else Nx okd dcd r g g n1 f1):=by kernel_rfl
theorem Ahq(okd:LB)(dcd:List AV ->BA)(r:SRel)(g m:Nat)(n1:Nat)(f1:RD):Nx okd dcd r g (m+1) n1 f1=
 (bif r.oon then(bif okd [iA r.opk]then(bif okd [iA r.odl]then(bif decide ((n1+1)*64<=140737488355328)&&decide (n1+1<=
 9223372036854775807)then Nw okd dcd r g g (n1+1) (appF n1 f1 (Ae [iD 0,D.sl (1+1) (0+1+1+1) (Ae [D.v (.string (⟨#[111,(118:UInt8),101,
 114]⟩)),D.v (.bool false),D.v (.string (dcd [iA r.opk])),D.v (.bool false),D.v (Value.string (dcd [iA r.odl])),D.v (.bool
 false)] (1+1)),D.v (.bool false),D.v (Value.slice none (0:Nat) 0)] (3+1)))else none)else none)else none)else Nw okd dcd r g g n1 f1):=by kernel_rfl
theorem Ahp(okd:LB)(dcd:List AV ->BA)(r:SRel)(g m:Nat)(n1:Nat)(f1:RD):Nw okd dcd r g (m+1) n1 f1=
 (bif r.diff !=0 then(bif okd [iA r.diff]then(bif okd [iA r.num]then(bif okd [iA r.den]then(bif okd
 [iA r.harm]then(bif decide ((n1+1)*64<=140737488355328)&&decide (n1+1<=9223372036854775807)then Sb okd dcd r g g (n1+1) (appF n1 f1 (Ae [D.v
 (.int .i64 0),D.sl (1+1) (0+1+1+1+1+1) (Ae [D.v (.string (⟨#[100,105,102,102,101,114,101,110,116,105,97,108]⟩)),D.v (.bool false),D.v (Value.string (dcd
 [iA r.diff])),D.v (.bool false),D.v (.string (dcd [iA r.num])),D.v (.bool false),D.v (.string (dcd [.c (.d (.v (.int .i64
 r.den)))])),D.v (.bool false),D.v (.string (dcd [.c (.d (iD r.harm))])),D.v (.bool false)] (1+1)),D.v (.bool false),D.v (.slice none 0 0)] (3+
 (1:Nat))))else none)else none)else none)else none)else none)else Sb okd dcd r g g n1 f1):=by kernel_rfl
theorem Aho(okd:LB)(dcd:List AV ->BA)(r:SRel)(g m:Nat)(n0:Nat)(f0:RD):Sb okd dcd r g (m+1) n0 f0=
 some (T.leaf (.c (.row (0) (4) n0),[(0, .row n0 f0 (4) (176))])):=by kernel_rfl
theorem fz0(okd:LB)(dcd:List AV ->BA)(r:SRel)(g m:Nat)(n:Nat)(f:RD):B5 okd dcd r g (m+1) n f 0=
 (bif r.zfw0 then(bif r.zon0 then(bif okd [iA (wrap .i64 (0+1))]then(bif okd [.c (.d (iD r.zx0))]then(bif okd
 [iA r.zr0]then(bif okd [iA r.zl0]then(bif okd [iA r.zd0]then(bif decide ((n+1)*64<=
 140737488355328)&&decide (n+1<=9223372036854775807)then B5 okd dcd r g m (n+1) (appF n f (Ae [iD 0,D.sl (1+1) (0+1+1+1+(0+1+1+1+1)) (Ae [D.v
 (.string (⟨#[122,111,110,(101:UInt8)]⟩)),D.v (.bool false),D.v (.string (dcd [iA (wrap .i64 (0+1))])),D.v (.bool false),D.v (.string
 (⟨#[102,111,114,119,97,114,100]⟩)),D.v (.bool false),D.v (Value.string (dcd [iA r.zx0])),D.v (.bool false),D.v (.string (dcd [.c (.d (.v (.int
 .i64 r.zr0)))])),D.v (.bool false),D.v (.string (dcd [iA r.zl0])),D.v (.bool false),D.v (.string (dcd [.c (.d (.v (Value.int IntKind.i64
 r.zd0)))])),D.v (.bool false)] (1+1)),D.v (.bool false),D.v (.slice none 0 0)] (3+(1:Nat)))) (wrap .i64 (0+1))else none)else none)else none)else none)else
 none)else none)else B5 okd dcd r g m n f (wrap .i64 (0+1)))else(bif r.zon0 then(bif okd [iA (wrap .i64 (0+1))]then(bif okd [AV.c
 (.d (iD r.zx0))]then(bif okd [iA r.zr0]then(bif okd [iA r.zl0]then(bif okd [iA r.zd0]
 then(bif decide ((n+1)*64<=140737488355328)&&decide (n+1<=9223372036854775807)then B5 okd dcd r g m (n+1) (appF n f (Ae [iD 0,D.sl (1+1) (0+1+1+
 1+(0+1+1+1+1)) (Ae [D.v (.string (⟨#[122,111,110,(101:UInt8)]⟩)),D.v (.bool false),D.v (.string (dcd [iA (wrap .i64 (0+1))])),
 D.v (.bool false),D.v (.string (⟨#[114,101,118,101,114,115,101]⟩)),D.v (.bool false),D.v (Value.string (dcd [iA r.zx0])),D.v (.bool false),D.v
 (.string (dcd [iA r.zr0])),D.v (.bool false),D.v (.string (dcd [iA r.zl0])),D.v (.bool false),D.v (.string (dcd [.c (.d (D.v
 (Value.int IntKind.i64 r.zd0)))])),D.v (.bool false)] (1+1)),D.v (.bool false),D.v (.slice none 0 0)] (3+(1:Nat)))) (wrap .i64 (0+1))else none)else none)else
 none)else none)else none)else none)else B5 okd dcd r g m n f (wrap .i64 (0+1)))):=by kernel_rfl
theorem fz1(okd:LB)(dcd:List AV ->BA)(r:SRel)(g m:Nat)(n:Nat)(f:RD):B5 okd dcd r g (m+1) n f 1=
 (bif r.zfw1 then(bif r.zon1 then(bif okd [iA (wrap .i64 (1+1))]then(bif okd [.c (.d (iD r.zx1))]then(bif okd
 [iA r.zr1]then(bif okd [iA r.zl1]then(bif okd [iA r.zd1]then(bif decide ((n+1)*64<=
 140737488355328)&&decide (n+1<=9223372036854775807)then B5 okd dcd r g m (n+1) (appF n f (Ae [iD 0,D.sl (1+1) (0+1+1+1+(0+1+1+1+1)) (Ae [D.v
 (.string (⟨#[122,111,110,(101:UInt8)]⟩)),D.v (.bool false),D.v (.string (dcd [iA (wrap .i64 (1+1))])),D.v (.bool false),D.v (.string
 (⟨#[102,111,114,119,97,114,100]⟩)),D.v (.bool false),D.v (Value.string (dcd [iA r.zx1])),D.v (.bool false),D.v (.string (dcd [.c (.d (.v (.int
 .i64 r.zr1)))])),D.v (.bool false),D.v (.string (dcd [iA r.zl1])),D.v (.bool false),D.v (.string (dcd [.c (.d (.v (Value.int IntKind.i64
 r.zd1)))])),D.v (.bool false)] (1+1)),D.v (.bool false),D.v (.slice none 0 0)] (3+(1:Nat)))) (wrap .i64 (1+1))else none)else none)else none)else none)else
 none)else none)else B5 okd dcd r g m n f (wrap .i64 (1+1)))else(bif r.zon1 then(bif okd [iA (wrap .i64 (1+1))]then(bif okd [AV.c
 (.d (iD r.zx1))]then(bif okd [iA r.zr1]then(bif okd [iA r.zl1]then(bif okd [iA r.zd1]
 then(bif decide ((n+1)*64<=140737488355328)&&decide (n+1<=9223372036854775807)then B5 okd dcd r g m (n+1) (appF n f (Ae [iD 0,D.sl (1+1) (0+1+1+
 1+(0+1+1+1+1)) (Ae [D.v (.string (⟨#[122,111,110,(101:UInt8)]⟩)),D.v (.bool false),D.v (.string (dcd [iA (wrap .i64 (1+1))])),
 D.v (.bool false),D.v (.string (⟨#[114,101,118,101,114,115,101]⟩)),D.v (.bool false),D.v (Value.string (dcd [iA r.zx1])),D.v (.bool false),D.v
 (.string (dcd [iA r.zr1])),D.v (.bool false),D.v (.string (dcd [iA r.zl1])),D.v (.bool false),D.v (.string (dcd [.c (.d (D.v
 (Value.int IntKind.i64 r.zd1)))])),D.v (.bool false)] (1+1)),D.v (.bool false),D.v (.slice none 0 0)] (3+(1:Nat)))) (wrap .i64 (1+1))else none)else none)else
 none)else none)else none)else none)else B5 okd dcd r g m n f (wrap .i64 (1+1)))):=by kernel_rfl
theorem fz2(okd:LB)(dcd:List AV ->BA)(r:SRel)(g m:Nat)(n:Nat)(f:RD):B5 okd dcd r g (m+1) n f 2=
 (bif r.zfw2 then(bif r.zon2 then(bif okd [iA (wrap .i64 (2+1))]then(bif okd [.c (.d (iD r.zx2))]then(bif okd
 [iA r.zr2]then(bif okd [iA r.zl2]then(bif okd [iA r.zd2]then(bif decide ((n+1)*64<=
 140737488355328)&&decide (n+1<=9223372036854775807)then B5 okd dcd r g m (n+1) (appF n f (Ae [iD 0,D.sl (1+1) (0+1+1+1+(0+1+1+1+1)) (Ae [D.v
 (.string (⟨#[122,111,110,(101:UInt8)]⟩)),D.v (.bool false),D.v (.string (dcd [iA (wrap .i64 (2+1))])),D.v (.bool false),D.v (.string
 (⟨#[102,111,114,119,97,114,100]⟩)),D.v (.bool false),D.v (Value.string (dcd [iA r.zx2])),D.v (.bool false),D.v (.string (dcd [.c (.d (.v (.int
 .i64 r.zr2)))])),D.v (.bool false),D.v (.string (dcd [iA r.zl2])),D.v (.bool false),D.v (.string (dcd [.c (.d (.v (Value.int IntKind.i64
 r.zd2)))])),D.v (.bool false)] (1+1)),D.v (.bool false),D.v (.slice none 0 0)] (3+(1:Nat)))) (wrap .i64 (2+1))else none)else none)else none)else none)else
 none)else none)else B5 okd dcd r g m n f (wrap .i64 (2+1)))else(bif r.zon2 then(bif okd [iA (wrap .i64 (2+1))]then(bif okd [AV.c
 (.d (iD r.zx2))]then(bif okd [iA r.zr2]then(bif okd [iA r.zl2]then(bif okd [iA r.zd2]
 then(bif decide ((n+1)*64<=140737488355328)&&decide (n+1<=9223372036854775807)then B5 okd dcd r g m (n+1) (appF n f (Ae [iD 0,D.sl (1+1) (0+1+1+
 1+(0+1+1+1+1)) (Ae [D.v (.string (⟨#[122,111,110,(101:UInt8)]⟩)),D.v (.bool false),D.v (.string (dcd [iA (wrap .i64 (2+1))])),
 D.v (.bool false),D.v (.string (⟨#[114,101,118,101,114,115,101]⟩)),D.v (.bool false),D.v (Value.string (dcd [iA r.zx2])),D.v (.bool false),D.v
 (.string (dcd [iA r.zr2])),D.v (.bool false),D.v (.string (dcd [iA r.zl2])),D.v (.bool false),D.v (.string (dcd [.c (.d (D.v
 (Value.int IntKind.i64 r.zd2)))])),D.v (.bool false)] (1+1)),D.v (.bool false),D.v (.slice none 0 0)] (3+(1:Nat)))) (wrap .i64 (2+1))else none)else none)else
 none)else none)else none)else none)else B5 okd dcd r g m n f (wrap .i64 (2+1)))):=by kernel_rfl
theorem fz3(okd:LB)(dcd:List AV ->BA)(r:SRel)(g m:Nat)(n:Nat)(f:RD):B5 okd dcd r g (m+1) n f 3=
 Zq okd dcd r g g n f:=by kernel_rfl
def relK(k:Int)(r:SRel):SRel:={r with qn:=k}
theorem Yj{r:SRel}{k:Int}(e:r.qn=k):r=relK k r:=by
 cases r;cases e;rfl
theorem sch1(okd:LB)(dcd:List AV ->BA)(r:SRel)(g m n:Nat)(f:RD):Vf okd dcd (relK 1 r) g (m+1) n f=
 (bif okd [iA r.wait]then(bif okd [iA r.guard]then(bif decide ((n+1)*(64:Nat)<=140737488355328)&&decide (n+1<=
 9223372036854775807)then Gd okd dcd (relK 1 r) g g (n+1) (appF n f (Ae [iD 0,D.sl (1+1) (0+1+1+1+1) (Ae [D.v (.string (⟨#[115,99,104,101,
 109,101]⟩)),D.v (.bool false),D.v (.string (⟨#[117,110,100,101,114,114,101,97,99,104]⟩)),D.v (.bool false),D.v (.string (dcd [.c (.d (.v (Value.int IntKind.i64
 r.wait)))])),D.v (.bool false),D.v (.string (dcd [iA r.guard])),D.v (.bool false)] ((1:Nat)+1)),D.v (.bool false),D.v (.slice none 0 0)] (3+1)))
 else none)else none)else none):=by kernel_rfl
theorem sch2(okd:LB)(dcd:List AV ->BA)(r:SRel)(g m n:Nat)(f:RD):Vf okd dcd (relK 2 r) g (m+1) n f=
 (bif okd [iA r.wait]then(bif okd [iA r.guard]then(bif decide ((n+1)*(64:Nat)<=140737488355328)&&decide (n+1<=
 9223372036854775807)then Gd okd dcd (relK 2 r) g g (n+1) (appF n f (Ae [iD 0,D.sl (1+1) (0+1+1+1+1) (Ae [D.v (.string (⟨#[115,99,104,101,
 109,101]⟩)),D.v (.bool false),D.v (.string (⟨#[111,118,101,114,114,101,97,99,104]⟩)),D.v (.bool false),D.v (.string (dcd [.c (.d (.v (Value.int IntKind.i64
 r.wait)))])),D.v (.bool false),D.v (.string (dcd [iA r.guard])),D.v (.bool false)] ((1:Nat)+1)),D.v (.bool false),D.v (.slice none 0 0)] (3+1)))
 else none)else none)else none):=by kernel_rfl
theorem sch3(okd:LB)(dcd:List AV ->BA)(r:SRel)(g m n:Nat)(f:RD):Vf okd dcd (relK 3 r) g (m+1) n f=
 (bif okd [iA r.wait]then(bif okd [iA r.guard]then(bif decide ((n+1)*(64:Nat)<=140737488355328)&&decide (n+1<=
 9223372036854775807)then Gd okd dcd (relK 3 r) g g (n+1) (appF n f (Ae [iD 0,D.sl (1+1) (0+1+1+1+1) (Ae [D.v (.string (⟨#[115,99,104,101,
 109,101]⟩)),D.v (.bool false),D.v (.string (⟨#[98,108,111,99,107,105,110,103]⟩)),D.v (.bool false),D.v (.string (dcd [.c (.d (.v (Value.int IntKind.i64
 r.wait)))])),D.v (.bool false),D.v (.string (dcd [iA r.guard])),D.v (.bool false)] (1+(1:Nat))),D.v (.bool false),D.v (.slice none 0 0)] (3+1)))
 else none)else none)else none):=by kernel_rfl
theorem sSay:OrcS prog (oSay okN' dcN'):= .cons (.inl sDn func98 (by kernel_rfl)) .nil
section
variable {r:SRel}(h:NFit r)(g:Nat)
include h
theorem Aqi(m n:Nat)(f:RD)(bef:List It)(hn:n<=4000)(hr:RLe Af i0 n f bef):
  ∃n' f',n'<=n+1/\RLe Af i0 n' f' (bef++Dj 1 r.zon0 r.zfw0 r.zx0 r.zr0 r.zl0 r.zd0)/\B5 okN' dcN' r (g+1) (m+1) n f 0=B5 okN' dcN' r (g+1) m n' f' 1:=by
 rw[fz0,show wrap IntKind.i64 ((0:Int)+(1:Int))=1 by decide];cases e1:r.zfw0 with
 |true=>
  rw[za];cases e0:r.zon0 with
  |false=>
   rw[zb];exact⟨n,f,by omega,by rw[Ez,List.append_nil];exact hr,rfl⟩
  |true=>
   rw[za,okn (show nI 1=true by decide),za,okn h.zx0,za,okn h.zr0,za,okn h.zl0,za,okn h.zd0,za,appOk5,za];generalize B5 okN' dcN' r (g+1) m=LL;exact⟨_,_,Nat.le_refl _,hr.app rfl (At [Fc,decI 1,Dw,decI r.zx0,decI r.zr0,decI r.zl0,decI r.zd0]),rfl⟩
 |false=>
  rw[zb];cases e0:r.zon0 with
  |false=>
   rw[zb];exact⟨n,f,by omega,by rw[Ez,List.append_nil];exact hr,rfl⟩
  |true=>
   rw[za,okn (show nI 1=true by decide),za,okn h.zx0,za,okn h.zr0,za,okn h.zl0,za,okn h.zd0,za,appOk5,za];generalize B5 okN' dcN' r (g+1) m=LL;exact⟨_,_,Nat.le_refl _,hr.app rfl (At [Fc,decI 1,Dv,decI r.zx0,decI r.zr0,decI r.zl0,decI r.zd0]),rfl⟩
theorem Aqh(m n:Nat)(f:RD)(bef:List It)(hn:n<=4000)(hr:RLe Af i0 n f bef):
  ∃n' f',n'<=n+1/\RLe Af i0 n' f' (bef++Dj 2 r.zon1 r.zfw1 r.zx1 r.zr1 r.zl1 r.zd1)/\B5 okN' dcN' r (g+1) (m+1) n f 1=B5 okN' dcN' r (g+1) m n' f' 2:=by
 rw[fz1,show wrap IntKind.i64 ((1:Int)+(1:Int))=2 by decide];cases e1:r.zfw1 with
 |true=>
  rw[za];cases e0:r.zon1 with
  |false=>
   rw[zb];exact⟨n,f,by omega,by rw[Ez,List.append_nil];exact hr,rfl⟩
  |true=>
   rw[za,okn (show nI 2=true by decide),za,okn h.zx1,za,okn h.zr1,za,okn h.zl1,za,okn h.zd1,za,appOk5,za];generalize B5 okN' dcN' r (g+1) m=LL;exact⟨_,_,Nat.le_refl _,hr.app rfl (At [Fc,decI 2,Dw,decI r.zx1,decI r.zr1,decI r.zl1,decI r.zd1]),rfl⟩
 |false=>
  rw[zb];cases e0:r.zon1 with
  |false=>
   rw[zb];exact⟨n,f,by omega,by rw[Ez,List.append_nil];exact hr,rfl⟩
  |true=>
   rw[za,okn (show nI 2=true by decide),za,okn h.zx1,za,okn h.zr1,za,okn h.zl1,za,okn h.zd1,za,appOk5,za];generalize B5 okN' dcN' r (g+1) m=LL;exact⟨_,_,Nat.le_refl _,hr.app rfl (At [Fc,decI 2,Dv,decI r.zx1,decI r.zr1,decI r.zl1,decI r.zd1]),rfl⟩
theorem Aqg(m n:Nat)(f:RD)(bef:List It)(hn:n<=4000)(hr:RLe Af i0 n f bef):
  ∃n' f',n'<=n+1/\RLe Af i0 n' f' (bef++Dj 3 r.zon2 r.zfw2 r.zx2 r.zr2 r.zl2 r.zd2)/\B5 okN' dcN' r (g+1) (m+1) n f 2=B5 okN' dcN' r (g+1) m n' f' 3:=by
 rw[fz2,show wrap IntKind.i64 ((2:Int)+(1:Int))=3 by decide];cases e1:r.zfw2 with
 |true=>
  rw[za];cases e0:r.zon2 with
  |false=>
   rw[zb];exact⟨n,f,by omega,by rw[Ez,List.append_nil];exact hr,rfl⟩
  |true=>
   rw[za,okn (show nI 3=true by decide),za,okn h.zx2,za,okn h.zr2,za,okn h.zl2,za,okn h.zd2,za,appOk5,za];generalize B5 okN' dcN' r (g+1) m=LL;exact⟨_,_,Nat.le_refl _,hr.app rfl (At [Fc,decI 3,Dw,decI r.zx2,decI r.zr2,decI r.zl2,decI r.zd2]),rfl⟩
 |false=>
  rw[zb];cases e0:r.zon2 with
  |false=>
   rw[zb];exact⟨n,f,by omega,by rw[Ez,List.append_nil];exact hr,rfl⟩
  |true=>
   rw[za,okn (show nI 3=true by decide),za,okn h.zx2,za,okn h.zr2,za,okn h.zl2,za,okn h.zd2,za,appOk5,za];generalize B5 okN' dcN' r (g+1) m=LL;exact⟨_,_,Nat.le_refl _,hr.app rfl (At [Fc,decI 3,Dv,decI r.zx2,decI r.zr2,decI r.zl2,decI r.zd2]),rfl⟩
theorem Aqr(n:Nat)(f:RD)(bef:List It)(hn:n<=4000)(hr:RLe Af i0 n f bef):
  ∃n' f',n'<=n+1/\RLe Af i0 n' f' (bef++Bw (r.min !=0) (say [Pb,decI r.min,decI r.kre,decI r.kim]))/\Zq okN' dcN' r (g+1) (g+1) n f=N5 okN' dcN' r (g+1) (g+1) n' f':=by
 rw[Ahx];cases(r.min !=0)with
 |false=>
  rw[zb];exact⟨n,f,by omega,by rw[show ∀x,Bw false x=[]from fun _=>rfl,List.append_nil];exact hr,rfl⟩
 |true=>
  rw[za,okn h.min,za,okn h.kre,za,okn h.kim,za,appOk5,za];generalize N5 okN' dcN' r (g+1) (g+1)=LL;exact⟨_,_,Nat.le_refl _,hr.app rfl (At [Pb,decI r.min,decI r.kre,decI r.kim]),rfl⟩
theorem Aqq(n:Nat)(f:RD)(bef:List It)(hn:n<=4000)(hr:RLe Af i0 n f bef):
  ∃n' f',n'<=n+1/\RLe Af i0 n' f' (bef++Bw (r.qn !=0) (say [De,Kt r.qn,decI r.wait,decI r.guard]))/\N5 okN' dcN' r (g+1) (g+1) n f=Gd okN' dcN' r (g+1) (g+1) n' f':=by
 rw[Ahw];rcases h.sch with e|e|e|e
 ·rw[e,show((0:Int) !=0)=false by decide,zb];exact⟨n,f,by omega,by rw[show ∀x,Bw false x=[]from fun _=>rfl,List.append_nil];exact hr,rfl⟩
 ·have st:=sch1 okN' dcN' r (g+1) g n f;rw[<-Yj e]at st;rw[e,show((1:Int) !=0)=true by decide,za,st,okn h.wait,za,okn h.guard,za,appOk5,za];generalize Gd okN' dcN' r (g+1) (g+1)=LL;exact⟨_,_,Nat.le_refl _,hr.app rfl (At [De,Fw,decI r.wait,decI r.guard]),rfl⟩
 ·have st:=sch2 okN' dcN' r (g+1) g n f;rw[<-Yj e]at st;rw[e,show((2:Int) !=0)=true by decide,za,st,okn h.wait,za,okn h.guard,za,appOk5,za];generalize Gd okN' dcN' r (g+1) (g+1)=LL;exact⟨_,_,Nat.le_refl _,hr.app rfl (At [De,Gz,decI r.wait,decI r.guard]),rfl⟩
 ·have st:=sch3 okN' dcN' r (g+1) g n f;rw[<-Yj e]at st;rw[e,show((3:Int) !=0)=true by decide,za,st,okn h.wait,za,okn h.guard,za,appOk5,za];generalize Gd okN' dcN' r (g+1) (g+1)=LL;exact⟨_,_,Nat.le_refl _,hr.app rfl (At [De,J4,decI r.wait,decI r.guard]),rfl⟩
theorem Aqp(n:Nat)(f:RD)(bef:List It)(hn:n<=4000)(hr:RLe Af i0 n f bef):
  ∃n' f',n'<=n+1/\RLe Af i0 n' f' (bef++Bw (r.don) (say [Dm,decI r.dpk,decI r.ddl]))/\Gd okN' dcN' r (g+1) (g+1) n f=N4 okN' dcN' r (g+1) (g+1) n' f':=by
 rw[Ahv];cases(r.don)with
 |false=>
  rw[zb];exact⟨n,f,by omega,by rw[show ∀x,Bw false x=[]from fun _=>rfl,List.append_nil];exact hr,rfl⟩
 |true=>
  rw[za,okn h.dpk,za,okn h.ddl,za,appOk5,za];generalize N4 okN' dcN' r (g+1) (g+1)=LL;exact⟨_,_,Nat.le_refl _,hr.app rfl (At [Dm,decI r.dpk,decI r.ddl]),rfl⟩
theorem Aqo(n:Nat)(f:RD)(bef:List It)(hn:n<=4000)(hr:RLe Af i0 n f bef):
  ∃n' f',n'<=n+1/\RLe Af i0 n' f' (bef++Bw (r.ion) (say [Eg,decI r.ipk,decI r.idl]))/\N4 okN' dcN' r (g+1) (g+1) n f=N0 okN' dcN' r (g+1) (g+1) n' f':=by
 rw[Ahu];cases(r.ion)with
 |false=>
  rw[zb];exact⟨n,f,by omega,by rw[show ∀x,Bw false x=[]from fun _=>rfl,List.append_nil];exact hr,rfl⟩
 |true=>
  rw[za,okn h.ipk,za,okn h.idl,za,appOk5,za];generalize N0 okN' dcN' r (g+1) (g+1)=LL;exact⟨_,_,Nat.le_refl _,hr.app rfl (At [Eg,decI r.ipk,decI r.idl]),rfl⟩
theorem Aqn(n:Nat)(f:RD)(bef:List It)(hn:n<=4000)(hr:RLe Af i0 n f bef):
  ∃n' f',n'<=n+1/\RLe Af i0 n' f' (bef++Bw (r.fon) (say [Pc,decI r.fpk,decI r.fdl]))/\N0 okN' dcN' r (g+1) (g+1) n f=Nz okN' dcN' r (g+1) (g+1) n' f':=by
 rw[Aht];cases(r.fon)with
 |false=>
  rw[zb];exact⟨n,f,by omega,by rw[show ∀x,Bw false x=[]from fun _=>rfl,List.append_nil];exact hr,rfl⟩
 |true=>
  rw[za,okn h.fpk,za,okn h.fdl,za,appOk5,za];generalize Nz okN' dcN' r (g+1) (g+1)=LL;exact⟨_,_,Nat.le_refl _,hr.app rfl (At [Pc,decI r.fpk,decI r.fdl]),rfl⟩
theorem Aqm(n:Nat)(f:RD)(bef:List It)(hn:n<=4000)(hr:RLe Af i0 n f bef):
  ∃n' f',n'<=n+1/\RLe Af i0 n' f' (bef++Bw (r.qp !=0) (say [Ef,decI r.qp,decI r.dead,decI r.qo]))/\Nz okN' dcN' r (g+1) (g+1) n f=Ny okN' dcN' r (g+1) (g+1) n' f':=by
 rw[Ahs];cases(r.qp !=0)with
 |false=>
  rw[zb];exact⟨n,f,by omega,by rw[show ∀x,Bw false x=[]from fun _=>rfl,List.append_nil];exact hr,rfl⟩
 |true=>
  rw[za,okn h.qp,za,okn h.dead,za,okn h.qo,za,appOk5,za];generalize Ny okN' dcN' r (g+1) (g+1)=LL;exact⟨_,_,Nat.le_refl _,hr.app rfl (At [Ef,decI r.qp,decI r.dead,decI r.qo]),rfl⟩
theorem Aql(n:Nat)(f:RD)(bef:List It)(hn:n<=4000)(hr:RLe Af i0 n f bef):
  ∃n' f',n'<=n+1/\RLe Af i0 n' f' (bef++Bw (r.uon) (say [Hw,decI r.upk,decI r.udl]))/\Ny okN' dcN' r (g+1) (g+1) n f=Nx okN' dcN' r (g+1) (g+1) n' f':=by
 rw[Ahr];cases(r.uon)with
 |false=>
  rw[zb];exact⟨n,f,by omega,by rw[show ∀x,Bw false x=[]from fun _=>rfl,List.append_nil];exact hr,rfl⟩
 |true=>
  rw[za,okn h.upk,za,okn h.udl,za,appOk5,za];generalize Nx okN' dcN' r (g+1) (g+1)=LL;exact⟨_,_,Nat.le_refl _,hr.app rfl (At [Hw,decI r.upk,decI r.udl]),rfl⟩
theorem Aqk(n:Nat)(f:RD)(bef:List It)(hn:n<=4000)(hr:RLe Af i0 n f bef):
  ∃n' f',n'<=n+1/\RLe Af i0 n' f' (bef++Bw (r.oon) (say [Pa,decI r.opk,decI r.odl]))/\Nx okN' dcN' r (g+1) (g+1) n f=Nw okN' dcN' r (g+1) (g+1) n' f':=by
 rw[Ahq];cases(r.oon)with
 |false=>
  rw[zb];exact⟨n,f,by omega,by rw[show ∀x,Bw false x=[]from fun _=>rfl,List.append_nil];exact hr,rfl⟩
 |true=>
  rw[za,okn h.opk,za,okn h.odl,za,appOk5,za];generalize Nw okN' dcN' r (g+1) (g+1)=LL;exact⟨_,_,Nat.le_refl _,hr.app rfl (At [Pa,decI r.opk,decI r.odl]),rfl⟩
theorem Aqj(n:Nat)(f:RD)(bef:List It)(hn:n<=4000)(hr:RLe Af i0 n f bef):
  ∃n' f',n'<=n+1/\RLe Af i0 n' f' (bef++Bw (r.diff !=0) (say [By,decI r.diff,decI r.num,decI r.den,decI r.harm]))/\Nw okN' dcN' r (g+1) (g+1) n f=Sb okN' dcN' r (g+1) (g+1) n' f':=by
 rw[Ahp];cases(r.diff !=0)with
 |false=>
  rw[zb];exact⟨n,f,by omega,by rw[show ∀x,Bw false x=[]from fun _=>rfl,List.append_nil];exact hr,rfl⟩
 |true=>
  rw[za,okn h.diff,za,okn h.num,za,okn h.den,za,okn h.harm,za,appOk5,za];generalize Sb okN' dcN' r (g+1) (g+1)=LL;exact⟨_,_,Nat.le_refl _,hr.app rfl (At [By,decI r.diff,decI r.num,decI r.den,decI r.harm]),rfl⟩
end
theorem cfun{r:SRel}(h:NFit r):CX prog 157 [aRel r] [] (.c (.row 0 4 (C1 r).length)) [(0,Blk.row (C1 r).length (fun i=>Af ((C1 r).getD i i0)) 4 176)]:=by
 obtain⟨g,hg⟩: ∃g:Nat,g=10:=⟨10,rfl⟩;have hz:=RLe.nil (c:=Af) (d0:=i0) fun _=>[]
 obtain⟨nz0,fz0',bz0,rz0,ez0⟩:=Aqi h g g 0 (fun _=>[]) [] (by omega) hz;obtain⟨nz1,fz1',bz1,rz1,ez1⟩:=Aqh h g (g -1) nz0 fz0' _ (by omega) rz0;obtain⟨nz2,fz2',bz2,rz2,ez2⟩:=Aqg h g (g -2) nz1 fz1' _ (by omega) rz1;obtain⟨n14,f14,b14,r14,e14⟩:=Aqr h g nz2 fz2' _ (by omega) rz2;obtain⟨n16,f16,b16,r16,e16⟩:=Aqq h g n14 f14 _ (by omega) r14;obtain⟨n18,f18,b18,r18,e18⟩:=Aqp h g n16 f16 _ (by omega) r16;obtain⟨n20,f20,b20,r20,e20⟩:=Aqo h g n18 f18 _ (by omega) r18;obtain⟨n22,f22,b22,r22,e22⟩:=Aqn h g n20 f20 _ (by omega) r20;obtain⟨n24,f24,b24,r24,e24⟩:=Aqm h g n22 f22 _ (by omega) r22;obtain⟨n26,f26,b26,r26,e26⟩:=Aql h g n24 f24 _ (by omega) r24;obtain⟨n28,f28,b28,r28,e28⟩:=Aqk h g n26 f26 _ (by omega) r26;obtain⟨n30,f30,b30,r30,e30⟩:=Aqj h g n28 f28 _ (by omega) r28;have hl:=r30.len;have key:Ai prog (oSay okN' dcN') F1 (g+1) f157 (Ac f157) [aRel r] []=some (T.leaf (AV.c (C.row 0 4 n30),[(0,Blk.row n30 f30 4 176)])):=by
  subst hg;rw[AqT];refine ez0.trans (ez1.trans (ez2.trans ((fz3 _ _ _ _ _ _ _).trans (e14.trans (e16.trans (e18.trans (e20.trans (e22.trans (e24.trans (e26.trans (e28.trans (e30.trans ?_))))))))))));rw[Aho]
 have hc:=Am sSay.ok func157 bfun rfl key;have e:n30=(C1 r).length:=hl;subst e;exact hc.le (.refl _) (.cons ⟨rfl,rfl,rfl,fun i hi=>r30.le i hi⟩ .nil)
def Aqe(H:Hp):Bool:=match Go.Eb.look H 0 with
 |some (.row _ _ _ _)=>true|_=>false
def oSy(okd:LB)(dcd:List AV ->BA)(oke:LB)(we:List AV ->D):Orc:=Orc.cons 98 (Agy Aqe (ansE oke fun x=> .agg [.d (dI 0), .d (we x), .d (dB false), .d (.v (.slice none 0 0))]) (inl prog (oDc okd dcd) na 12 f98)) Orc.nil
def oIt(okd:LB)(dcd:List AV ->BA)(oke:LB)(we:List AV ->D)(okf:List AV ->Hp ->Bool)(nf:List AV ->Nat)(ff:List AV ->RD):Orc:=Orc.cons 157 (ansM okf (fun x _=> .c (.row 0 4 (nf x))) fun x _=>[(0,Blk.row (nf x) (ff x) 4 176)]) (oSy okd dcd oke we)
def J1:Ann:=A1 [(100004,⟨[5,3,4],[(5,1,1000,0),(5,3,4,176)]⟩),(7,⟨[5,3,4,6],[(5,1,1000,0),(5,3,4,176)]⟩),(13,⟨[5,3,4,8],[(5,1,1000,0),(5,3,4,176)]⟩),(17,⟨[5,3,4,9],[(5,1,1000,0),(5,3,4,176)]⟩),(21,⟨[5,3,4,10],[(5,1,1000,0),(5,3,4,176)]⟩)]
def Kp(okd:LB)(dcd:List AV ->BA)(oke:LB)(we:List AV ->D)(okf:List AV ->Hp ->Bool)(nf:List AV ->Nat)(ff:List AV ->RD)(s:SSta)(r:SRel)(g m:Nat)(n3:Nat)(f3:RD)(x1:Int)(x1_2:Bool)(x2:Int)(x2_2:D)(x2_3:Bool):=GK prog (oIt okd dcd oke we okf nf ff) J1 0 g f100 4 m ⟨frm [(3, .c (.ptr 0 0)),(4, .c (.ptr 1 0)),(5, .c (.ptr 2 0))] 0 f100.ntmps,[(0, .cells (List.map C.d (relC r)) 64),(1, .cells [.d (iD x1), .d (.v (.slice none 0 0)), .d (.v (.bool x1_2)), .d (.v (.slice none 0 0))] 176),(2, .cells [.d (iD x2), .d (x2_2), .d (.v (.bool x2_3)), .row 3 4 n3] 176),(3, .row n3 f3 4 176)],4⟩
def Xx(okd:LB)(dcd:List AV ->BA)(oke:LB)(we:List AV ->D)(okf:List AV ->Hp ->Bool)(nf:List AV ->Nat)(ff:List AV ->RD)(s:SSta)(r:SRel)(g m:Nat)(n3:Nat)(f3:RD)(i6:Int)(x1:Int)(x1_2:Bool)(x2:Int)(x2_2:D)(x2_3:Bool):=LK prog (oIt okd dcd oke we okf nf ff) J1 0 g f100 7 m ⟨frm [(3, .c (.ptr 0 0)),(4, .c (.ptr 1 0)),(5, .c (.ptr 2 0)),(6,iA i6)] 0 f100.ntmps,[(0, .cells (List.map C.d (relC r)) 64),(1, .cells [.d (iD x1), .d (.v (.slice none 0 0)), .d (.v (.bool x1_2)), .d (.v (.slice none 0 0))] 176),(2, .cells [.d (iD x2), .d x2_2, .d (.v (.bool x2_3)), .row 3 4 n3] 176),(3, .row n3 f3 4 176)],4⟩
def Sa(okd:LB)(dcd:List AV ->BA)(oke:LB)(we:List AV ->D)(okf:List AV ->Hp ->Bool)(nf:List AV ->Nat)(ff:List AV ->RD)(s:SSta)(r:SRel)(g m:Nat)(n3:Nat)(f3:RD)(i8:Int)(x1:Int)(x1_2:Bool)(x2:Int)(x2_2:D)(x2_3:Bool):=LK prog (oIt okd dcd oke we okf nf ff) J1 0 g f100 13 m ⟨frm [(3, .c (.ptr 0 0)),(4, .c (.ptr 1 0)),(5, .c (.ptr 2 0)),(8,iA i8)] 0 f100.ntmps,[(0, .cells (List.map C.d (relC r)) 64),(1, .cells [.d (iD x1), .d (.v (.slice none 0 0)), .d (.v (.bool x1_2)), .d (.v (.slice none 0 0))] 176),(2, .cells [.d (iD x2), .d x2_2, .d (.v (.bool x2_3)), .row 3 4 n3] 176),(3, .row n3 f3 4 176)],4⟩
def R9(okd:LB)(dcd:List AV ->BA)(oke:LB)(we:List AV ->D)(okf:List AV ->Hp ->Bool)(nf:List AV ->Nat)(ff:List AV ->RD)(s:SSta)(r:SRel)(g m:Nat)(n3:Nat)(f3:RD)(i9:Int)(x1:Int)(x1_2:Bool)(x2:Int)(x2_2:D)(x2_3:Bool):=LK prog (oIt okd dcd oke we okf nf ff) J1 0 g f100 17 m ⟨frm [(3, .c (.ptr 0 0)),(4, .c (.ptr 1 0)),(5, .c (.ptr 2 0)),(9,iA i9)] 0 f100.ntmps,[(0, .cells (List.map C.d (relC r)) 64),(1, .cells [.d (iD x1), .d (.v (.slice none 0 0)), .d (.v (.bool x1_2)), .d (.v (.slice none 0 0))] 176),(2, .cells [.d (iD x2), .d x2_2, .d (.v (.bool x2_3)), .row 3 4 n3] 176),(3, .row n3 f3 4 176)],4⟩
def R8(okd:LB)(dcd:List AV ->BA)(oke:LB)(we:List AV ->D)(okf:List AV ->Hp ->Bool)(nf:List AV ->Nat)(ff:List AV ->RD)(s:SSta)(r:SRel)(g m:Nat)(n3:Nat)(f3:RD)(i10:Int)(x1:Int)(x1_2:Bool)(x2:Int)(x2_2:D)(x2_3:Bool):=LK prog (oIt okd dcd oke we okf nf ff) J1 0 g f100 21 m ⟨frm [(3, .c (.ptr 0 0)),(4, .c (.ptr 1 0)),(5, .c (.ptr 2 0)),(10,iA i10)] 0 f100.ntmps,[(0, .cells (List.map C.d (relC r)) 64),(1, .cells [.d (iD x1), .d (.v (.slice none 0 0)), .d (.v (.bool x1_2)), .d (.v (.slice none 0 0))] 176),(2, .cells [.d (iD x2), .d x2_2, .d (.v (.bool x2_3)), .row 3 4 n3] 176),(3, .row n3 f3 4 176)],4⟩
theorem bitm:f100.body=some (Ac f100):=by kernel_rfl
theorem Alt(okd:LB)(dcd:List AV ->BA)(oke:LB)(we:List AV ->D)(okf:List AV ->Hp ->Bool)(nf:List AV ->Nat)(ff:List AV ->RD)(s:SSta)(r:SRel)(g m:Nat)(n3:Nat)(f3:RD)(x1:Int)(x1_2:Bool)(x2:Int)(x2_2:D)(x2_3:Bool):Kp okd dcd oke we okf nf ff s r g (m+1) n3 f3 x1 x1_2 x2 x2_2 x2_3=
 (bif okf [gA (relC r)] []then Xx okd dcd oke we okf nf ff s r g g (nf [gA (relC r)]) (ff [gA (relC r)]) 0 x1 x1_2 x2 x2_2
 true else none):=by kernel_rfl
theorem Adr(okd:LB)(dcd:List AV ->BA)(oke:LB)(we:List AV ->D)(okf:List AV ->Hp ->Bool)(nf:List AV ->Nat)(ff:List AV ->RD)(s:SSta)(r:SRel)(g m:Nat)(n3:Nat)(f3:RD)(i6:Int)(x1:Int)(x1_2:Bool)(x2:Int)(x2_2:D)(x2_3:Bool):Xx okd dcd oke we okf nf ff s r g (m+1) n3 f3 i6 x1 x1_2 x2 x2_2 x2_3=
 (bif decide (i6<(↑r.qi.length:Int))then(bif decide (0<=i6)&&decide (i6<(↑r.qi.length:Int))then(bif decide (0<=i6)&&decide (i6<(↑r.qi.length:Int))
 then(bif decide ((n3+1)*64<=140737488355328)&&decide (n3+1<=(9223372036854775807:Nat))then Xx okd dcd oke we okf nf ff s r g m (n3+1) (appF n3 f3 (Ae [D.v (.int
 .i64 0),D.sl (1+1) (0+1+1+1) (Ae [D.v (.string (⟨#[114,117,108,101]⟩)),D.v (.bool false),dS (SRule.name (r.qi.getD i6.toNat Be)),D.v (.bool false),dS (SRule.text
 (r.qi.getD i6.toNat Be)),D.v (.bool true)] (1+1)),D.v (Value.bool false),D.v (.slice none 0 0)] (3+1))) (wrap .i64 (i6+1)) x1 x1_2 x2 x2_2 x2_3 else none)else
 none)else none)else Sa okd dcd oke we okf nf ff s r g g n3 f3 0 x1 x1_2 x2 x2_2 x2_3):=by kernel_rfl
theorem Aad(okd:LB)(dcd:List AV ->BA)(oke:LB)(we:List AV ->D)(okf:List AV ->Hp ->Bool)(nf:List AV ->Nat)(ff:List AV ->RD)(s:SSta)(r:SRel)(g m:Nat)(n3:Nat)(f3:RD)(i8:Int)(x1:Int)(x1_2:Bool)(x2:Int)(x2_2:D)(x2_3:Bool):Sa okd dcd oke we okf nf ff s r g (m+1) n3 f3 i8 x1 x1_2 x2 x2_2 x2_3=
 (bif decide (i8<(↑r.qj.length:Int))then(bif decide (0<=i8)&&decide (i8<(↑r.qj.length:Int))then(bif decide (0<=i8)&&decide (i8<(↑r.qj.length:Int))then
 (bif decide ((2+(SSet.qm (r.qj.getD i8.toNat set0)).length)*16<=140737488355328)&&decide (2+(SSet.qm (r.qj.getD i8.toNat set0)).length<=9223372036854775807)then
 (bif oke [.c (.d (.sl (1) (2+(SSet.qm (r.qj.getD i8.toNat set0)).length) (appF 2 (Ae [D.v (.string (⟨#[115,(101:UInt8),116]⟩)),dS (SSet.name (r.qj.getD i8.toNat
 set0))] (0+1)) fun i=>busC ((SSet.qm (r.qj.getD i8.toNat set0)).getD i e0)))), .c (.d (.v (.slice none 0 0)))]then(bif decide ((n3+1)*64<=140737488355328)&&
 decide (n3+1<=9223372036854775807)then Sa okd dcd oke we okf nf ff s r g m (n3+1) (appF n3 f3 (Ae [dI 0,we [.c (.d (.sl (1) (2+(SSet.qm (r.qj.getD i8.toNat
 set0)).length) (appF 2 (Ae [D.v (.string (⟨#[115,101,116]⟩)),dS (SSet.name (r.qj.getD i8.toNat set0))] (0+1)) fun i=>busC ((SSet.qm (r.qj.getD i8.toNat set0)).getD i
 e0)))), .c (.d (.v (.slice none 0 0)))],dB false,D.v (.slice none 0 0)] (3+1))) (wrap .i64 (i8+1)) x1 x1_2 x2 x2_2 x2_3 else none)else none)else none)else none)
 else none)else R9 okd dcd oke we okf nf ff s r g g n3 f3 0 x1 x1_2 x2 x2_2 x2_3):=by kernel_rfl
theorem Aac(okd:LB)(dcd:List AV ->BA)(oke:LB)(we:List AV ->D)(okf:List AV ->Hp ->Bool)(nf:List AV ->Nat)(ff:List AV ->RD)(s:SSta)(r:SRel)(g m:Nat)(n3:Nat)(f3:RD)(i9:Int)(x1:Int)(x1_2:Bool)(x2:Int)(x2_2:D)(x2_3:Bool):R9 okd dcd oke we okf nf ff s r g (m+1) n3 f3 i9 x1 x1_2 x2 x2_2 x2_3=
 (bif decide (i9<(↑r.qk.length:Int))then(bif decide (0<=i9)&&decide (i9<(↑r.qk.length:Int))then(bif decide (0<=i9)&&decide (i9<(↑r.qk.length:Int))then
 (bif decide (0<=i9)&&decide (i9<(↑r.qk.length:Int))then(bif okd [.c (.d (iD (SPub.fst (r.qk.getD i9.toNat pub0))))]then(bif okd [.c (.d
 (iD (SPub.max (r.qk.getD i9.toNat pub0))))]then(bif decide ((n3+1)*64<=140737488355328)&&decide (n3+1<=9223372036854775807)then R9 okd dcd oke we okf nf
 ff s r g m (n3+1) (appF n3 f3 (Ae [iD 0,D.sl (1+1) (0+1+1+1+1) (Ae [D.v (.string (⟨#[112,117,98,108,105,115,104]⟩)),D.v (.bool false),dS (SPub.set
 (r.qk.getD i9.toNat pub0)),D.v (.bool false),D.v (.string (dcd [iA (SPub.fst (r.qk.getD i9.toNat pub0))])),D.v (.bool false),D.v (.string (dcd [AV.c
 (.d (iD (SPub.max (r.qk.getD i9.toNat pub0))))])),D.v (Value.bool false)] (1+1)),D.v (.bool false),D.v (.slice none 0 0)] (3+1))) (wrap .i64 (i9+1))
 x1 x1_2 x2 x2_2 x2_3 else none)else none)else none)else none)else none)else none)else R8 okd dcd oke we okf nf ff s r g g n3 f3 0 x1 x1_2 x2 x2_2 x2_3):=by kernel_rfl
theorem Aab(okd:LB)(dcd:List AV ->BA)(oke:LB)(we:List AV ->D)(okf:List AV ->Hp ->Bool)(nf:List AV ->Nat)(ff:List AV ->RD)(s:SSta)(r:SRel)(g m:Nat)(n3:Nat)(f3:RD)(i10:Int)(x1:Int)(x1_2:Bool)(x2:Int)(x2_2:D)(x2_3:Bool):R8 okd dcd oke we okf nf ff s r g (m+1) n3 f3 i10 x1 x1_2 x2 x2_2 x2_3=
 (bif decide (i10<(↑r.ql.length:Int))then(bif decide (0<=i10)&&decide (i10<(↑r.ql.length:Int))then(bif decide ((n3+1)*64<=140737488355328)&&decide (n3+1
 <=9223372036854775807)then R8 okd dcd oke we okf nf ff s r g m (n3+1) (appF n3 f3 (Ae [iD 0,D.sl (1+1) (0+1+1+1+1+1) (Ae [D.v (.string (⟨#[115,117,
 98,115,99,114,105,98,101]⟩)),D.v (.bool false),dS (SSub.loc (r.ql.getD i10.toNat sub0)),D.v (.bool false),dS (SSub.dev (r.ql.getD i10.toNat sub0)),D.v (.bool false),
 dS (SSub.set (r.ql.getD i10.toNat sub0)),D.v (.bool false),dS (SSub.sig (r.ql.getD i10.toNat sub0)),D.v (.bool false)] (1+(1:Nat))),D.v (.bool false),D.v (.slice none
 0 0)] (3+1))) (wrap .i64 (i10+1)) x1 x1_2 x2 x2_2 x2_3 else none)else none)else some (T.leaf (.agg [.d (iD x2), .d x2_2, .d (.v (.bool x2_3)),C.row
 (0) (4) n3],[(0, .row n3 f3 ((4:Nat)) (176))]))):=by kernel_rfl
def relT(k:Int)(r:SRel):SRel:={r with kind:=k}
theorem T3{r:SRel}{k:Int}(e:r.kind=k):r=relT k r:=by
 cases r;cases e;rfl
theorem itm4(okd:LB)(dcd:List AV ->BA)(oke:LB)(we:List AV ->D)(okf:List AV ->Hp ->Bool)(nf:List AV ->Nat)(ff:List AV ->RD)(s:SSta)(r:SRel)(g:Nat):Ai prog (oIt okd dcd oke we okf nf ff) J1 g f100 (Ac f100) [aSta s,aRel (relT 4 r)] []=
 Kp okd dcd oke we okf nf ff s (relT 4 r) g g 0 (fun x=>[]) 0 false 0 (D.sl (2) (3) (Ae [D.v (.string (⟨#[114,101,108,97,121]⟩)),D.v (.bool false),dS r.name,D.v (.bool
 false),D.v (.string (⟨#[98,117,115]⟩)),D.v (.bool false)] (1+(1:Nat)))) false:=by kernel_rfl
theorem itm1(okd:LB)(dcd:List AV ->BA)(oke:LB)(we:List AV ->D)(okf:List AV ->Hp ->Bool)(nf:List AV ->Nat)(ff:List AV ->RD)(s:SSta)(r:SRel)(g:Nat):Ai prog (oIt okd dcd oke we okf nf ff) J1 g f100 (Ac f100) [aSta s,aRel (relT 1 r)] []=
 (bif decide (0<=r.bay)&&decide (r.bay<(↑s.qd.length:Int))then Kp okd dcd oke we okf nf ff s (relT 1 r) g g 0 (fun x=>[]) 0 false 0 (D.sl (2) (4) (Ae [D.v (.string
 (⟨#[114,101,108,97,121]⟩)),D.v (.bool false),dS r.name,D.v (Value.bool false),D.v (.string (⟨#[108,105,110,101]⟩)),D.v (.bool false),dS (SBay.name (s.qd.getD
 (Int.toNat r.bay) bay0)),D.v (Value.bool false)] (1+1))) false else none):=by kernel_rfl
theorem itm2(okd:LB)(dcd:List AV ->BA)(oke:LB)(we:List AV ->D)(okf:List AV ->Hp ->Bool)(nf:List AV ->Nat)(ff:List AV ->RD)(s:SSta)(r:SRel)(g:Nat):Ai prog (oIt okd dcd oke we okf nf ff) J1 g f100 (Ac f100) [aSta s,aRel (relT 2 r)] []=
 (bif decide (0<=r.bay)&&decide (r.bay<(↑s.qd.length:Int))then Kp okd dcd oke we okf nf ff s (relT 2 r) g g 0 (fun x=>[]) 0 false 0 (D.sl (2) (4) (Ae [D.v (.string
 (⟨#[114,101,108,97,121]⟩)),D.v (.bool false),dS r.name,D.v (Value.bool false),D.v (.string (⟨#[115,111,117,114,99,101]⟩)),D.v (.bool false),dS (SBay.name
 (s.qd.getD (Int.toNat r.bay) bay0)),D.v (Value.bool false)] (1+1))) false else none):=by kernel_rfl
theorem itm3(okd:LB)(dcd:List AV ->BA)(oke:LB)(we:List AV ->D)(okf:List AV ->Hp ->Bool)(nf:List AV ->Nat)(ff:List AV ->RD)(s:SSta)(r:SRel)(g:Nat):Ai prog (oIt okd dcd oke we okf nf ff) J1 g f100 (Ac f100) [aSta s,aRel (relT 3 r)] []=
 (bif decide (0<=r.bay)&&decide (r.bay<(↑s.qd.length:Int))then Kp okd dcd oke we okf nf ff s (relT 3 r) g g 0 (fun x=>[]) 0 false 0 (D.sl (2) (4) (Ae [D.v (.string
 (⟨#[114,101,108,97,121]⟩)),D.v (.bool false),dS r.name,D.v (Value.bool false),D.v (.string (⟨#[99,111,117,112,108,101,114]⟩)),D.v (.bool false),dS (SBay.name
 (s.qd.getD (Int.toNat r.bay) bay0)),D.v (Value.bool false)] (1+1))) false else none):=by kernel_rfl
abbrev AX:=((Int×Nat×Bool×Unit×Unit)×D×Unit)×((BA×Bool×BA×Bool×Unit)×Unit)
def dX:Dec (List AV×Hp) AX:= .pair (.cons (.agg (.cons .i64 (.cons (.row 0 2) (.cons .bool (.cons .nilS .nil))))) (.cons (.c .data) .nil)) (.cons (.blk 0 (.cells 182 (.cons .str (.cons .bool (.cons .str (.cons .bool .nil)))))) .nil)
def oPls(okd:LB)(dcd:List AV ->BA)(okx:AX ->Bool)(nx:AX ->Nat)(fx:AX ->RD):Orc:=Orc.cons 91 (inl prog oPx na 12 f91) (Orc.cons 92 (Ajb dX okx (fun a=> .agg [.d (dI a.1.1.1), .row 1 2 (nx a), .d (dB a.1.1.2.2.1), .d (.v (.slice none 0 0))]) (fun a=>[(0, .dead),(1, .row (nx a) (fx a) 2 182)]) (inl prog Orc.nil na 12 f92)) (Orc.cons 153 (inl prog (oPit okd dcd) na 12 f153) (oPit okd dcd)))
def Xk:Ann:=A1 [(3,⟨[14,1,15,16,3],[(3,0,4,176)]⟩),(10,⟨[38,1,39,40,3],[(3,0,4,176)]⟩),(15,⟨[56,1,57,58,3],[(3,0,4,176)]⟩),(20,⟨[78,79,80,3],[(3,0,4,176)]⟩)]
def Xv(okd:LB)(dcd:List AV ->BA)(okx:AX ->Bool)(nx:AX ->Nat)(fx:AX ->RD)(r:SRel)(g m:Nat)(n1:Nat)(f1:RD)(i16:Int):=LK prog (oPls okd dcd okx nx fx) Xk 0 g f95 3 m ⟨frm [(1, .c (.ptr 0 0)),(3, .c (.row 1 4 n1)),(14, .c (.d (Ad 2 E0 Be (SRel.qi r)))),(15,iA (↑(List.length (SRel.qi r)):Int)),(16,iA i16)] 0 f95.ntmps,[(0, .cells (List.map C.d (relC r)) 64),(1, .row n1 f1 4 176)],2⟩
def Ve(okd:LB)(dcd:List AV ->BA)(okx:AX ->Bool)(nx:AX ->Nat)(fx:AX ->RD)(r:SRel)(g m:Nat)(n1:Nat)(f1:RD)(i40:Int):=LK prog (oPls okd dcd okx nx fx) Xk 0 g f95 10 m ⟨frm [(1, .c (.ptr 0 0)),(3, .c (.row 1 4 n1)),(38, .c (.d (Ad 2 setC set0 (SRel.qj r)))),(39,iA (↑(List.length (SRel.qj r)):Int)),(40,iA i40)] 0 f95.ntmps,[(0, .cells (List.map C.d (relC r)) 64),(1, .row n1 f1 4 176)],2⟩
def R6(okd:LB)(dcd:List AV ->BA)(okx:AX ->Bool)(nx:AX ->Nat)(fx:AX ->RD)(r:SRel)(g m:Nat)(n1:Nat)(f1:RD)(i58:Int):=LK prog (oPls okd dcd okx nx fx) Xk 0 g f95 15 m ⟨frm [(1, .c (.ptr 0 0)),(3, .c (.row 1 4 n1)),(56, .c (.d (Ad 3 pubC pub0 (SRel.qk r)))),(57,iA (↑(List.length (SRel.qk r)):Int)),(58,iA i58)] 0 f95.ntmps,[(0, .cells (List.map C.d (relC r)) 64),(1, .row n1 f1 4 176)],2⟩
def R5(okd:LB)(dcd:List AV ->BA)(okx:AX ->Bool)(nx:AX ->Nat)(fx:AX ->RD)(r:SRel)(g m:Nat)(n0:Nat)(f0:RD)(i80:Int):=LK prog (oPls okd dcd okx nx fx) Xk 0 g f95 20 m ⟨frm [(3, .c (.row 0 4 n0)),(78, .c (.d (Ad 4 subC sub0 (SRel.ql r)))),(79,iA (↑(List.length (SRel.ql r)):Int)),(80,iA i80)] 0 f95.ntmps,[(0, .row n0 f0 4 176)],1⟩
theorem blst:f95.body=some (Ac f95):=by kernel_rfl
theorem AqO(okd:LB)(dcd:List AV ->BA)(okx:AX ->Bool)(nx:AX ->Nat)(fx:AX ->RD)(r:SRel)(g:Nat):Ai prog (oPls okd dcd okx nx fx) Xk g f95 (Ac f95) [aRel r] []=
 Xv okd dcd okx nx fx r g g 0 (fun x=>[]) 0:=by kernel_rfl
theorem Adn(okd:LB)(dcd:List AV ->BA)(okx:AX ->Bool)(nx:AX ->Nat)(fx:AX ->RD)(r:SRel)(g m:Nat)(n1:Nat)(f1:RD)(i16:Int):Xv okd dcd okx nx fx r g (m+1) n1 f1 i16=
 (bif decide (i16<(↑r.qi.length:Int))then(bif decide (0<=i16)&&decide (i16<(↑r.qi.length:Int))then(bif decide ((n1+(1:Nat))*64<=140737488355328)&&
 decide (n1+1<=9223372036854775807)then Xv okd dcd okx nx fx r g m (n1+1) (appF n1 f1 (Ae [iD 0,D.sl (1+1) (0+1+1+1) (Ae [D.v (.string
 (⟨#[114,(117:UInt8),108,101]⟩)),D.v (.bool false),dS (SRule.name (r.qi.getD i16.toNat Be)),D.v (.bool false),dS (SRule.text (r.qi.getD i16.toNat Be)),D.v (.bool
 true)] (1+1)),D.v (.bool false),D.v (.slice none 0 0)] (3+(1:Nat)))) (wrap .i64 (i16+1))else none)else none)else Ve okd dcd okx nx fx r g g n1 f1 0):=by kernel_rfl
theorem Aaa(okd:LB)(dcd:List AV ->BA)(okx:AX ->Bool)(nx:AX ->Nat)(fx:AX ->RD)(r:SRel)(g m:Nat)(n1:Nat)(f1:RD)(i40:Int):Ve okd dcd okx nx fx r g (m+1) n1 f1 i40=
 (bif decide (i40<(↑r.qj.length:Int))then(bif decide (0<=i40)&&decide (i40<(↑r.qj.length:Int))then(bif okx (((0,(0:Nat)+1+1,false,(),()),Ab (SSet.qm
 (r.qj.getD i40.toNat set0)),()),(⟨#[115,101,116]⟩,false,SSet.name (r.qj.getD i40.toNat set0),false,()),())then(bif decide ((n1+1)*64<=140737488355328)&&decide
 (n1+1<=9223372036854775807)then Ve okd dcd okx nx fx r g m (n1+1) (appF n1 f1 (Ae [dI 0,D.sl 2 (nx (((0,0+1+(1:Nat),false,(),()),Ab (SSet.qm (r.qj.getD
 i40.toNat set0)),()),(⟨#[115,101,116]⟩,false,SSet.name (r.qj.getD i40.toNat set0),false,()),())) (fx (((0,0+1+1,false,(),()),Ab (SSet.qm (r.qj.getD
 i40.toNat set0)),()),(⟨#[115,101,116]⟩,false,SSet.name (r.qj.getD i40.toNat set0),false,()),())),dB false,D.v (.slice none 0 0)] (3+1))) (wrap .i64 (i40+
 1))else none)else none)else none)else R6 okd dcd okx nx fx r g g n1 f1 0):=by kernel_rfl
theorem Z9(okd:LB)(dcd:List AV ->BA)(okx:AX ->Bool)(nx:AX ->Nat)(fx:AX ->RD)(r:SRel)(g m:Nat)(n1:Nat)(f1:RD)(i58:Int):R6 okd dcd okx nx fx r g (m+1) n1 f1 i58=
 (bif decide (i58<(↑r.qk.length:Int))then(bif decide (0<=i58)&&decide (i58<(↑r.qk.length:Int))then(bif okd [.c (.d (iD (SPub.fst
 (r.qk.getD i58.toNat pub0))))]then(bif okd [iA (SPub.max (r.qk.getD i58.toNat pub0))]then(bif decide ((n1+1)*64<=140737488355328)&&decide
 (n1+1<=9223372036854775807)then R6 okd dcd okx nx fx r g m (n1+1) (appF n1 f1 (Ae [iD 0,D.sl (1+1) (0+1+1+1+1) (Ae [D.v (.string (⟨#[112,117,98,
 108,105,115,104]⟩)),D.v (.bool false),dS (SPub.set (r.qk.getD i58.toNat pub0)),D.v (.bool false),D.v (.string (dcd [iA (SPub.fst (r.qk.getD
 i58.toNat pub0))])),D.v (.bool false),D.v (.string (dcd [iA (SPub.max (r.qk.getD i58.toNat pub0))])),D.v (.bool false)] (1+1)),D.v (.bool false),
 D.v (.slice none 0 0)] (3+1))) (wrap .i64 (i58+1))else none)else none)else none)else none)else R5 okd dcd okx nx fx r g g n1 f1 0):=by kernel_rfl
theorem Z7(okd:LB)(dcd:List AV ->BA)(okx:AX ->Bool)(nx:AX ->Nat)(fx:AX ->RD)(r:SRel)(g m:Nat)(n0:Nat)(f0:RD)(i80:Int):R5 okd dcd okx nx fx r g (m+1) n0 f0 i80=
 (bif decide (i80<(↑r.ql.length:Int))then(bif decide (0<=i80)&&decide (i80<(↑r.ql.length:Int))then(bif decide ((n0+1)*64<=140737488355328)&&decide (n0+1
 <=9223372036854775807)then R5 okd dcd okx nx fx r g m (n0+1) (appF n0 f0 (Ae [iD 0,D.sl (1+1) (0+1+1+1+1+1) (Ae [D.v (.string (⟨#[115,117,
 98,115,99,114,105,98,101]⟩)),D.v (.bool false),dS (SSub.loc (r.ql.getD i80.toNat sub0)),D.v (.bool false),dS (SSub.dev (r.ql.getD i80.toNat sub0)),D.v (.bool false),
 dS (SSub.set (r.ql.getD i80.toNat sub0)),D.v (.bool false),dS (SSub.sig (r.ql.getD i80.toNat sub0)),D.v (.bool false)] (1+(1:Nat))),D.v (.bool false),D.v (.slice none
 0 0)] (3+1))) (wrap .i64 (i80+1))else none)else none)else some (T.leaf (.c (.row (0) (4) n0),[(0, .row n0 f0 (4) (176))]))):=by kernel_rfl
def AkN:Ann:=A1 [(2,⟨[2,7,4,8,9],[(2,1,2,182)]⟩)]
def Sc(a b:BA)(ws:List BA)(g m:Nat)(n2:Nat)(f2:RD)(i9:Int)(x1:Int)(x1_2:Bool)(x3:Int)(x3_2:Bool):=LK prog Orc.nil AkN 1 g f92 2 m ⟨frm [(2, .c (.ptr 1 0)),(4, .c (.ptr 3 0)),(7, .c (.d (Ad 1 busC e0 ws))),(8,iA (↑(List.length ws):Int)),(9,iA i9)] 0 f92.ntmps,[(0, .dead),(1, .cells [.d (iD x1), .row 2 2 n2, .d (.v (.bool x1_2)), .d (.v (.slice none 0 0))] 176),(2, .row n2 f2 2 182),(3, .cells [.d (iD x3), .d (.v (.slice none 0 0)), .d (.v (.bool x3_2)), .d (.v (.slice none 0 0))] 176)],4⟩
theorem bext:f92.body=some (Ac f92):=by kernel_rfl
theorem AqU(a b:BA)(ws:List BA)(g:Nat):Ai prog Orc.nil AkN g f92 (Ac f92) [.agg [.d (dI 0), .row 0 2 2, .d (dB false), .d (.v (.slice none 0 0))], .c (.d (Ab ws))] [(0, .cells [.d (dS a), .d (dB false), .d (dS b), .d (dB false)] 182)]=
 Sc a b ws g g 2 (Ae [dS a,dB false,dS b,dB false] 2) 0 0 false 0 false:=by kernel_rfl
theorem Ads(a b:BA)(ws:List BA)(g m:Nat)(n2:Nat)(f2:RD)(i9:Int)(x1:Int)(x1_2:Bool)(x3:Int)(x3_2:Bool):Sc a b ws g (m+1) n2 f2 i9 x1 x1_2 x3 x3_2=
 (bif decide (i9<(↑ws.length:Int))then(bif decide (0<=i9)&&decide (i9<(↑ws.length:Int))then(bif decide ((n2+1)*24<=140737488355328)&&decide (n2+1<=
 9223372036854775807)then Sc a b ws g m (n2+1) (appF n2 f2 (Ae [dS (ws.getD i9.toNat e0),D.v (.bool false)] (1+1))) (wrap .i64 (i9+1)) x1 x1_2 x3 x3_2 else none)
 else none)else some (T.leaf (.agg [.d (iD x1), .row (1) (2) n2, .d (.v (.bool x1_2)), .d (.v (.slice none 0 0))],[(0, .dead),(1, .row n2 f2
 (2) (182))]))):=by kernel_rfl
theorem appW{n:Nat}(h:n<=5000):(decide ((n+(1:Nat))*(24:Nat)<=(140737488355328:Nat))&&decide (n+(1:Nat)<=(9223372036854775807:Nat)))=true:=by
 rw[zk,zk];rfl
theorem csay(ws:List BA)(h:ws.length<=4000):CX prog 98 [.c (.d (Ab ws)), .c (.d (.v (.slice none 0 0)))] [] (.agg [.d (dI 0), .d (Aw (Cb ws)), .d (dB false), .d (.v (.slice none 0 0))]) []:=by
 obtain⟨g,hg⟩: ∃g,6000<g:=⟨6001,by omega⟩;obtain⟨m,rfl⟩: ∃m,g=m+1:=⟨g -1,by omega⟩;obtain⟨f',h1,h2⟩:=app_loop (L:=fun k n f i=>Rz okN' dcN' ws (m+1) k n f i 0 false 0 false) (K:=fun n f=>AgN okN' dcN' ws (m+1) (m+1) n f 0 0 false 0 false)
  (l:=ws) (d:=e0) (c:=Fv) (d0:=w0) (ch:=fun t=>[dS t,dB false]) (e:=fun t=>(⟨t,false⟩:Wd)) (sz:=2)
  (fun k i n f hk hn=>by
    show Rz okN' dcN' ws (m+1) (k+1) n f i 0 false 0 false=Rz okN' dcN' ws (m+1) k (n+1) _ _ 0 false 0 false;rw[AcV,lt1 hk,za,ge0,tt,za,tn,appW hn,za,nx hk])
  (fun k n f=>by
    show Rz okN' dcN' ws (m+1) (k+1) n f (ws.length:Int) 0 false 0 false=_;rw[AcV,lt0 (zp _),zb])
  (fun _=>rfl) (fun _ _=> .refl _) (m+1) 0 0 (fun _=>[]) [] (by omega) (by omega) (by omega) (.nil _)
 simp only[Nat.sub_zero,zq,List.nil_append]at h1 h2;have h3:Ai prog (oDc okN' dcN') Abn (m+1) f98 (Ac f98) [.c (.d (Ab ws)), .c (.d (.v (.slice none 0 0)))] []=some (T.leaf (AV.agg [.d (dI 0), .row 0 2 (0+ws.length), .d (dB false), .d (.v (.slice none 0 0))],[(0,Blk.row (0+ws.length) f' 2 182)])):=by
  rw[Aqw];refine Eq.trans h2 ?_;rw[Alo];rfl
 have hc:=(Mc sDn.ok func98 bsay rfl h3).data (y:= .agg [.d (dI 0), .d (.sl 2 (0+ws.length) f'), .d (dB false), .d (.v (.slice none 0 0))]) rfl;refine(CX.of_cr func98 bsay hc).le ?_ (.refl _);exact Gv (a:=[dI 0, .sl 2 (0+ws.length) f',dB false, .v (.slice none 0 0)]) (b:=[dI 0,Aw (Cb ws),dB false, .v (.slice none 0 0)]) (.cons (.refl _) (.cons (h1.de (sz:=2)) (.cons (.refl _) (.cons (.refl _) .nil))))
theorem cext(a b:BA)(ws:List BA)(h:ws.length<=4000):CX prog 92 [.agg [.d (dI 0), .row 0 2 2, .d (dB false), .d (.v (.slice none 0 0))], .c (.d (Ab ws))] [(0, .cells [.d (dS a), .d (dB false), .d (dS b), .d (dB false)] 182)]
  (.agg [.d (dI 0), .row 1 2 (2+ws.length), .d (dB false), .d (.v (.slice none 0 0))]) [(0, .dead),(1, .row (2+ws.length) (fun i=>Fv ((Cb (a::b::ws)).getD i w0)) 2 182)]:=by
 obtain⟨g,hg⟩: ∃g,6000<g:=⟨6001,by omega⟩;obtain⟨m,rfl⟩: ∃m,g=m+1:=⟨g -1,by omega⟩;have h0:RLe Fv w0 2 (Ae [dS a,dB false,dS b,dB false] (2:Nat)) [⟨a,false⟩,⟨b,false⟩]:=⟨rfl,fun i hi=>by
  match i,hi with
  |0,_=>exact .refl _|1,_=>exact .refl _⟩
 obtain⟨f',h1,h2⟩:=app_loop (L:=fun k n f i=>Sc a b ws (m+1) k n f i 0 false 0 false) (K:=fun n f=>some (T.leaf (AV.agg [.d (dI 0), .row 1 2 n, .d (dB false), .d (.v (.slice none 0 0))],[(0,Blk.dead),(1,Blk.row n f 2 182)])))
  (l:=ws) (d:=e0) (c:=Fv) (d0:=w0) (ch:=fun t=>[dS t,dB false]) (e:=fun t=>(⟨t,false⟩:Wd)) (sz:=2)
  (fun k i n f hk hn=>by
    show Sc a b ws (m+1) (k+1) n f i 0 false 0 false=Sc a b ws (m+1) k (n+1) _ _ 0 false 0 false;rw[Ads,lt1 hk,za,ge0,tt,za,tn,appW hn,za,nx hk])
  (fun k n f=>by
    show Sc a b ws (m+1) (k+1) n f (ws.length:Int) 0 false 0 false=_;rw[Ads,lt0 (zp _),zb])
  (fun _=>rfl) (fun _ _=> .refl _) (m+1) 0 2 _ _ (by omega) (by omega) (by omega) h0
 simp only[Nat.sub_zero,zq]at h1 h2;have h3:=Am (Orc.nil_ok _) func92 bext rfl ((AqU a b ws (m+1)).trans h2);exact h3.le (.refl _) (.cons (.refl _) (.cons ⟨rfl,rfl,rfl,fun i hi=>h1.le i hi⟩ .nil))
theorem Zh{d:D}{a b:List BA}(h1:DE d (Ab a))(h2:DE d (Ab b)):a=b:=by
 have key: ∀{n:Nat} {f:RD} {l:List BA},DE (.sl 1 n f) (Ab l) ->n=l.length/\ ∀i,i<n ->DEs (f i) (busC (l.getD i e0)):=fun h=>by
  cases h with
  |sl _ _ _ _ k1 k2=>exact⟨rfl,fun i hi=>⟨k1 i hi,fun j x y e1 e2=>k2 i j x y hi e1 e2⟩⟩
 cases d with
 |v v=>
  have e1:a.length=0:=by cases a with|nil=>rfl|cons x r=>cases h1
  have e2:b.length=0:=by cases b with|nil=>rfl|cons x r=>cases h2
  rw[List.eq_nil_of_length_eq_zero e1,List.eq_nil_of_length_eq_zero e2]
 |sl sz n f=>
  have hz:sz=1:=by cases h1;rfl
  subst hz;obtain⟨a1,a2⟩:=key h1;obtain⟨b1,b2⟩:=key h2;refine List.ext_getElem (by omega) fun i i1 i2=> ?_
  have p:=a2 i (by omega);have q:=b2 i (by omega);have e: ∀{x y:BA} {l:List D},DEs l (busC x) ->DEs l (busC y) ->x=y:=fun{x y l} p q=>by
   match l,p.1 with
   |[c],_=>
    have c1:=p.2 0 c (dS x) rfl rfl;have c2:=q.2 0 c (dS y) rfl rfl;cases c1 with
    |v _=>exact Ex c2
  have:=e p q;simpa[zh,i1,i2]using this
structure LFit (r:SRel):Prop where
 nr:r.qi.length<=900
 ns:r.qj.length<=900
 np:r.qk.length<=900
 nq:r.ql.length<=900
 sg: ∀k,k<r.qj.length ->(r.qj.getD k set0).qm.length<=3000
 fs: ∀k,k<r.qk.length ->nI (r.qk.getD k pub0).fst=true
 mx: ∀k,k<r.qk.length ->nI (r.qk.getD k pub0).max=true
def wsX(a:AX):List BA:=theE Ab a.1.2.1
def okX'(a:AX):Bool:=(a.1.1.1==0&&(a.1.1.2.1==2&&(!a.1.1.2.2.1&&(!a.2.1.2.1&& !a.2.1.2.2.2.1))))&&(okE Ab a.1.2.1&&decide ((wsX a).length<=4000))
def nX'(a:AX):Nat:=2+(wsX a).length
def fX'(a:AX):RD:=fun i=>Fv ((Cb (a.2.1.1::a.2.1.2.2.1::wsX a)).getD i w0)
theorem ArE(a:AX)(h:okX' a=true):CX prog 92 (dX.enc a).1 (dX.enc a).2 (.agg [.d (dI a.1.1.1), .row 1 2 (nX' a), .d (dB a.1.1.2.2.1), .d (.v (.slice none 0 0))]) [(0, .dead),(1, .row (nX' a) (fX' a) 2 182)]:=by
 have⟨⟨⟨ln,n,bl,_,_⟩,x,_⟩,⟨t1,q1,t2,q2,_⟩,_⟩:=a;unfold okX' at h;simp only[zd,beq_iff_eq,Bool.not_eq_true',zi]at h;have⟨⟨e1,e2,e3,e4,e5⟩,e6,e7⟩:=h;subst e1 e2 e3 e4 e5;exact(cext t1 t2 (theE Ab x) e7).ge (.cons (.refl _) (.cons (Pt (Du e6)) .nil)) (.refl _)
theorem sLs:OrcS prog (oPls okN' dcN' okX' nX' fX'):= .cons (.inl sPx func91 (by kernel_rfl)) (.cons (.or ArE (.inl .nil func92 (by kernel_rfl))) (.cons (.inl sPit func153 (by kernel_rfl)) sPit))
abbrev aXs(x:SSet):AX:=((((0:Int),(0:Nat)+(1:Nat)+(1:Nat),false,(),()),Ab (SSet.qm x),()),(ByteArray.mk #[(115:UInt8),(101:UInt8),(116:UInt8)],false,SSet.name x,false,()),())
theorem X9(x:SSet):wsX (aXs x)=x.qm:=(Bj Ca x.qm).2
theorem Amc{x:SSet}(h:x.qm.length<=4000):okX' (aXs x)=true:=by
 unfold okX';rw[X9,zk h,(Bj Ca x.qm).1];rfl
theorem Aok(x:SSet):nX' (aXs x)=2+x.qm.length:=by unfold nX';rw[X9]
theorem AoL(x:SSet):fX' (aXs x)=fun i=>Fv ((Cb (Si::x.name::x.qm)).getD i w0):=by unfold fX';rw[X9];rfl
theorem Aan(x:SRule):DEs [dI 0,D.sl 2 3 (Ae [dS Sr,dB false,dS x.name,dB false,dS x.text,dB true] 2),dB false,D.v (Value.slice none 0 0)] (Af (My x)):=by
 refine .cons (.refl _) (.cons ?_ (.cons (.refl _) (.cons (.nil _ _) .nil)));refine .sls fun i hi=> ?_
 match i,hi with
 |0,_=>exact .refl _|1,_=>exact .refl _|2,_=>exact .refl _
section
variable {r:SRel}(h:LFit r)(g:Nat)(hg:1000<g)
include h hg
abbrev AeW(n:Nat)(f:RD):Option (T (AV×Hp)):=some (T.leaf (AV.c (C.row 0 4 n),[(0,Blk.row n f 4 176)]))
abbrev L3(r:SRel)(g m n:Nat)(f:RD)(i:Int):=Xv okN' dcN' okX' nX' fX' r g m n f i
abbrev L10(r:SRel)(g m n:Nat)(f:RD)(i:Int):=Ve okN' dcN' okX' nX' fX' r g m n f i
abbrev L15(r:SRel)(g m n:Nat)(f:RD)(i:Int):=R6 okN' dcN' okX' nX' fX' r g m n f i
abbrev L20(r:SRel)(g m n:Nat)(f:RD)(i:Int):=R5 okN' dcN' okX' nX' fX' r g m n f i
theorem q20(n:Nat)(f:RD)(bef:List It)(hn:n<=4000)(hr:RLe Af i0 n f bef): ∃n' f',RLe Af i0 n' f' (bef++r.ql.map Jj)/\L20 r g g n f 0=AeW n' f':=by
 have hq:=h.nq;obtain⟨f',h1,h2⟩:=app_loop (L:=fun m n f i=>L20 r g m n f i) (K:=AeW) (l:=r.ql) (d:=sub0) (c:=Af) (d0:=i0) (ch:=fun x=>sayC [Gx,x.loc,x.dev,x.set,x.sig]) (e:=Jj) (sz:=4)
  (fun m k n f hk hn=>by
    show L20 r g (m+1) n f k=L20 r g m (n+1) _ _;unfold L20;rw[Z7,lt1 hk,za,ge0,tt,za,tn,appOk5 hn,za,nx hk];generalize R5 okN' dcN' okX' nX' fX' r g m=LL;rfl)
  (fun m n f=>by
    show L20 r g (m+1) n f (r.ql.length:Int)=_;unfold L20;rw[Z7,lt0 (zp _),zb])
  (fun _=>rfl) (fun _ _=>At _) g 0 n f bef (by omega) (by omega) (by omega) hr
 simp only[Nat.sub_zero,zq]at h1 h2;exact⟨_,f',h1,h2⟩
theorem q15(n:Nat)(f:RD)(bef:List It)(hn:n<=3000)(hr:RLe Af i0 n f bef): ∃n' f',RLe Af i0 n' f' (bef++r.qk.map L6++r.ql.map Jj)/\L15 r g g n f 0=AeW n' f':=by
 have hq:=h.np;obtain⟨f',h1,h2⟩:=app_loop (L:=fun m n f i=>L15 r g m n f i) (K:=fun n f=>L20 r g g n f 0) (l:=r.qk) (d:=pub0) (c:=Af) (d0:=i0) (ch:=fun x=>sayC [Lf,x.set,decI x.fst,decI x.max]) (e:=L6) (sz:=4)
  (fun m k n f hk hn=>by
    show L15 r g (m+1) n f k=L15 r g m (n+1) _ _;unfold L15;rw[Z9,lt1 hk,za,ge0,tt,za,tn,okn (h.fs k hk),za,okn (h.mx k hk),za,appOk5 hn,za,nx hk];generalize R6 okN' dcN' okX' nX' fX' r g m=LL;rfl)
  (fun m n f=>by
    show L15 r g (m+1) n f (r.qk.length:Int)=_;unfold L15;rw[Z9,lt0 (zp _),zb])
  (fun _=>rfl) (fun _ _=>At _) g 0 n f bef (by omega) (by omega) (by omega) hr
 simp only[Nat.sub_zero,zq]at h1 h2;obtain⟨n2,f2,k1,k2⟩:=q20 h g hg _ f' _ (by omega) h1;exact⟨n2,f2,k1,h2.trans k2⟩
theorem q10(n:Nat)(f:RD)(bef:List It)(hn:n<=2000)(hr:RLe Af i0 n f bef): ∃n' f',RLe Af i0 n' f' (bef++r.qj.map Pi++r.qk.map L6++r.ql.map Jj)/\L10 r g g n f 0=AeW n' f':=by
 have hq:=h.ns;obtain⟨f',h1,h2⟩:=app_loop (L:=fun m n f i=>L10 r g m n f i) (K:=fun n f=>L15 r g g n f 0) (l:=r.qj) (d:=set0) (c:=Af) (d0:=i0) (ch:=fun x=>[dI 0,D.sl 2 (nX' (aXs x)) (fX' (aXs x)),dB false,D.v (Value.slice none 0 0)]) (e:=Pi) (sz:=4)
  (fun m k n f hk hn=>by
    show L10 r g (m+1) n f k=L10 r g m (n+1) _ _;unfold L10;rw[Aaa,lt1 hk,za,ge0,tt,za,tn,Amc (Nat.le_trans (h.sg k hk) (by omega)),za,appOk5 hn,za,nx hk])
  (fun m n f=>by
    show L10 r g (m+1) n f (r.qj.length:Int)=_;unfold L10;rw[Aaa,lt0 (zp _),zb])
  (fun _=>rfl) (fun k hk=>by
    rw[Aok,AoL];refine .cons (.refl _) (.cons ?_ (.cons (.refl _) (.cons (.nil _ _) .nil)));generalize r.qj.getD k set0=x;have e:(Pi x).words=Cb (Si::x.name::x.qm):=rfl;rw[e];have e2:(Cb (Si::x.name::x.qm)).length=2+x.qm.length:=by unfold Cb;simp;omega
    unfold Aw;rw[e2];exact .refl _) g 0 n f bef (by omega) (by omega) (by omega) hr
 simp only[Nat.sub_zero,zq]at h1 h2;obtain⟨n2,f2,k1,k2⟩:=q15 h g hg _ f' _ (by omega) h1;exact⟨n2,f2,k1,h2.trans k2⟩
theorem q3(n:Nat)(f:RD)(bef:List It)(hn:n<=1000)(hr:RLe Af i0 n f bef): ∃n' f',RLe Af i0 n' f' (bef++r.qi.map My++r.qj.map Pi++r.qk.map L6++r.ql.map Jj)/\L3 r g g n f 0=AeW n' f':=by
 have hq:=h.nr;obtain⟨f',h1,h2⟩:=app_loop (L:=fun m n f i=>L3 r g m n f i) (K:=fun n f=>L10 r g g n f 0) (l:=r.qi) (d:=Be) (c:=Af) (d0:=i0) (ch:=fun x=>[dI 0,D.sl 2 3 (Ae [dS Sr,dB false,dS x.name,dB false,dS x.text,dB true] 2),dB false,D.v (Value.slice none 0 0)]) (e:=My) (sz:=4)
  (fun m k n f hk hn=>by
    show L3 r g (m+1) n f k=L3 r g m (n+1) _ _;unfold L3;rw[Adn,lt1 hk,za,ge0,tt,za,tn,appOk5 hn,za,nx hk];generalize Xv okN' dcN' okX' nX' fX' r g m=LL;rfl)
  (fun m n f=>by
    show L3 r g (m+1) n f (r.qi.length:Int)=_;unfold L3;rw[Adn,lt0 (zp _),zb])
  (fun _=>rfl) (fun _ _=>Aan _) g 0 n f bef (by omega) (by omega) (by omega) hr
 simp only[Nat.sub_zero,zq]at h1 h2;obtain⟨n2,f2,k1,k2⟩:=q10 h g hg _ f' _ (by omega) h1;exact⟨n2,f2,k1,h2.trans k2⟩
end
theorem clst{r:SRel}(h:LFit r):CX prog 95 [aRel r] [] (.c (.row 0 4 (Eo r).length)) [(0,Blk.row (Eo r).length (fun i=>Af ((Eo r).getD i i0)) 4 176)]:=by
 obtain⟨n',f',h1,h2⟩:=q3 h 1001 (by omega) 0 (fun _=>[]) [] (by omega) (.nil _);have hc:=Am sLs.ok func95 blst rfl ((AqO _ _ _ _ _ r 1001).trans h2);have e:n'=(Eo r).length:=h1.len;subst e;exact hc.le (.refl _) (.cons ⟨rfl,rfl,rfl,fun i hi=>h1.le i hi⟩ .nil)
theorem aRel_inj:InjA aRel:=Kn Lk
abbrev eR:=en1 aRel
theorem eR_inj:InjT eR:=Cf aRel_inj
def nB(r:SRel):Bool:= @decide (NFit r) (Classical.propDecidable _)
theorem Aka{r:SRel}:nB r=true↔NFit r:=by unfold nB;simp
def okNf(x:List AV)(H:Hp):Bool:=okG eR nB x&&H.length==0
def nNf(x:List AV):Nat:=(C1 (theT eR x)).length
def fNf(x:List AV):RD:=fun i=>Af ((C1 (theT eR x)).getD i i0)
theorem AeA{r:SRel}(h:NFit r):okNf [AV.agg (List.map C.d (relC r))] []=true:=by
 have e:okG eR nB [AV.agg (List.map C.d (relC r))]=true:=Ao eR_inj r (Aka.2 h);unfold okNf;rw[e];rfl
theorem theR(r:SRel):theT eR [AV.agg (List.map C.d (relC r))]=r:=Aj eR_inj r
theorem Aez{x:List AV}{H:Hp}(h:okNf x H=true):NFit (theT eR x)/\Asle x (eR (theT eR x))/\H=[]:=by
 unfold okNf okG at h;simp only[zd,beq_iff_eq]at h;exact⟨Aka.1 h.1.2,Gw h.1.1,List.eq_nil_of_length_eq_zero h.2⟩
def encS(ws:List BA):List AV:=[.c (.d (Ab ws)), .c (.d (.v (.slice none 0 0)))]
def okW'(x:List AV):Bool:=okG encS (fun ws=>decide (ws.length<=4000)) x
def weW(x:List AV):D:=Aw (Cb (theT encS x))
theorem AjV{d:D}{ws:List BA}(h:DE d (Ab ws))(hl:ws.length<=4000):okW' [.c (.d d), .c (.d (.v (.slice none 0 0)))]=true/\theT encS [.c (.d d), .c (.d (.v (.slice none 0 0)))]=ws:=by
 have hx:okX encS [.c (.d d), .c (.d (.v (.slice none 0 0)))]=true:=Q5.2 ⟨ws, .cons (Pt h) (.cons (.refl _) .nil)⟩;have ht:=Gw hx;have e:theT encS [.c (.d d), .c (.d (.v (.slice none 0 0)))]=ws:=Zh (Nf (Ar ht).1) h;refine⟨?_,e⟩;unfold okW' okG;rw[hx,e];show(true&&decide (ws.length<=4000))=true;rw[zk hl];rfl
theorem sSy:OrcS prog (oSy okN' dcN' okW' weW):= .cons (.ite (.e func98 bsay fun x h=>by
 unfold okW' okG at h;simp only[zd,zi]at h;exact⟨(csay _ h.2).ge (Gw h.1) (.refl _),rfl⟩) (.inl sDn func98 bsay)) .nil
theorem sIt:OrcS prog (oIt okN' dcN' okW' weW okNf nNf fNf):= .cons (.mg fun x H h=>by
 obtain⟨h1,h2,rfl⟩:=Aez h;exact(cfun h1).ge h2 (.refl _)) sSy
section
variable {s:SSta}{r:SRel}(h:LFit r)(g:Nat)(hg:1000<g)(w:D)
abbrev Acg(w:D)(n:Nat)(f:RD):Option (T (AV×Hp)):=some (T.leaf (AV.agg [.d (dI 0), .d w, .d (dB true), .row 0 4 n],[(0,Blk.row n f 4 176)]))
abbrev M7(s:SSta)(r:SRel)(w:D)(g m n:Nat)(f:RD)(i:Int):=Xx okN' dcN' okW' weW okNf nNf fNf s r g m n f i 0 false 0 w true
abbrev M13(s:SSta)(r:SRel)(w:D)(g m n:Nat)(f:RD)(i:Int):=Sa okN' dcN' okW' weW okNf nNf fNf s r g m n f i 0 false 0 w true
abbrev M17(s:SSta)(r:SRel)(w:D)(g m n:Nat)(f:RD)(i:Int):=R9 okN' dcN' okW' weW okNf nNf fNf s r g m n f i 0 false 0 w true
abbrev M21(s:SSta)(r:SRel)(w:D)(g m n:Nat)(f:RD)(i:Int):=R8 okN' dcN' okW' weW okNf nNf fNf s r g m n f i 0 false 0 w true
include h hg
theorem i21(n:Nat)(f:RD)(bef:List It)(hn:n<=4000)(hr:RLe Af i0 n f bef): ∃n' f',RLe Af i0 n' f' (bef++r.ql.map Jj)/\M21 s r w g g n f 0=Acg w n' f':=by
 have hq:=h.nq;obtain⟨f',h1,h2⟩:=app_loop (L:=fun m n f i=>M21 s r w g m n f i) (K:=Acg w) (l:=r.ql) (d:=sub0) (c:=Af) (d0:=i0) (ch:=fun x=>sayC [Gx,x.loc,x.dev,x.set,x.sig]) (e:=Jj) (sz:=4)
  (fun m k n f hk hn=>by
    show M21 s r w g (m+1) n f k=M21 s r w g m (n+1) _ _;unfold M21;rw[Aab,lt1 hk,za,ge0,tt,za,tn,appOk5 hn,za,nx hk];generalize R8 okN' dcN' okW' weW okNf nNf fNf s r g m=LL;rfl)
  (fun m n f=>by
    show M21 s r w g (m+1) n f (r.ql.length:Int)=_;unfold M21;rw[Aab,lt0 (zp _),zb])
  (fun _=>rfl) (fun _ _=>At _) g 0 n f bef (by omega) (by omega) (by omega) hr
 simp only[Nat.sub_zero,zq]at h1 h2;exact⟨_,f',h1,h2⟩
theorem i17(n:Nat)(f:RD)(bef:List It)(hn:n<=3000)(hr:RLe Af i0 n f bef): ∃n' f',RLe Af i0 n' f' (bef++r.qk.map L6++r.ql.map Jj)/\M17 s r w g g n f 0=Acg w n' f':=by
 have hq:=h.np;obtain⟨f',h1,h2⟩:=app_loop (L:=fun m n f i=>M17 s r w g m n f i) (K:=fun n f=>M21 s r w g g n f 0) (l:=r.qk) (d:=pub0) (c:=Af) (d0:=i0) (ch:=fun x=>sayC [Lf,x.set,decI x.fst,decI x.max]) (e:=L6) (sz:=4)
  (fun m k n f hk hn=>by
    show M17 s r w g (m+1) n f k=M17 s r w g m (n+1) _ _;unfold M17;rw[Aac,lt1 hk,za,ge0,tt,za,za,za,tn,okn (h.fs k hk),za,okn (h.mx k hk),za,appOk5 hn,za,nx hk];generalize R9 okN' dcN' okW' weW okNf nNf fNf s r g m=LL;rfl)
  (fun m n f=>by
    show M17 s r w g (m+1) n f (r.qk.length:Int)=_;unfold M17;rw[Aac,lt0 (zp _),zb])
  (fun _=>rfl) (fun _ _=>At _) g 0 n f bef (by omega) (by omega) (by omega) hr
 simp only[Nat.sub_zero,zq]at h1 h2;obtain⟨n2,f2,k1,k2⟩:=i21 h g hg w _ f' _ (by omega) h1;exact⟨n2,f2,k1,h2.trans k2⟩
end
theorem Aam(x:SSet):(Si::x.name::x.qm).length=x.qm.length+2:=rfl
abbrev setF(x:SSet):D:=D.sl 1 (2+x.qm.length) (appF 2 (Ae [dS Si,dS x.name] ((0:Nat)+(1:Nat))) fun i=>busC (x.qm.getD i e0))
theorem AdS(x:SSet):DE (setF x) (Ab (Si::x.name::x.qm)):=by
 have e:(Si::x.name::x.qm).length=2+x.qm.length:=by simp;omega
 unfold setF;show DE _ (.sl 1 (Si::x.name::x.qm).length _);rw[e];refine .sls fun i hi=> ?_
 unfold appF;rw[bltD];by_cases h:i<2
 ·rw[zk h];match i,h with
  |0,_=>exact .refl _|1,_=>exact .refl _
 ·rw[zt h];obtain⟨j,rfl⟩: ∃j,i=j+2:=⟨i -2,by omega⟩;rw[show j+2 -2=j by omega];exact .refl _
section
variable {s:SSta}{r:SRel}(h:LFit r)(g:Nat)(hg:1000<g)(w:D)
include h hg
theorem i13(n:Nat)(f:RD)(bef:List It)(hn:n<=2000)(hr:RLe Af i0 n f bef): ∃n' f',RLe Af i0 n' f' (bef++r.qj.map Pi++r.qk.map L6++r.ql.map Jj)/\M13 s r w g g n f 0=Acg w n' f':=by
 have hq:=h.ns;obtain⟨f',h1,h2⟩:=app_loop (L:=fun m n f i=>M13 s r w g m n f i) (K:=fun n f=>M17 s r w g g n f 0) (l:=r.qj) (d:=set0) (c:=Af) (d0:=i0) (ch:=fun x=>[dI 0,weW [.c (.d (setF x)), .c (.d (.v (.slice none 0 0)))],dB false,D.v (Value.slice none 0 0)]) (e:=Pi) (sz:=4)
  (fun m k n f hk hn=>by
    show M13 s r w g (m+1) n f k=M13 s r w g m (n+1) _ _;unfold M13;have hs:=h.sg k hk;have ho:okW' [AV.c (C.d (setF (r.qj.getD k set0))),AV.c (C.d (D.v (Value.slice none (0:Nat) (0:Nat))))]=true:=(AjV (AdS (r.qj.getD k set0)) (by rw[Aam];omega)).1;have ha:(decide (((2:Nat)+(r.qj.getD k set0).qm.length)*(16:Nat)<=(140737488355328:Nat))&&decide ((2:Nat)+(r.qj.getD k set0).qm.length<=(9223372036854775807:Nat)))=true:=by
     rw[zk,zk];rfl
    rw[Aad,lt1 hk,za,ge0,tt,za,za,tn,ha,za];refine Eq.trans (congrArg (fun b=>cond b _ _) ho) ?_;rw[za,appOk5 hn,za,nx hk];generalize Sa okN' dcN' okW' weW okNf nNf fNf s r g m=LL;rfl)
  (fun m n f=>by
    show M13 s r w g (m+1) n f (r.qj.length:Int)=_;unfold M13;rw[Aad,lt0 (zp _),zb])
  (fun _=>rfl) (fun k hk=>by
    have hs:=h.sg k hk;have e:=(AjV (AdS (r.qj.getD k set0)) (by rw[Aam];omega)).2;unfold weW;rw[e];exact .cons (.refl _) (.cons (.refl _) (.cons (.refl _) (.cons (.nil _ _) .nil)))) g 0 n f bef (by omega) (by omega) (by omega) hr
 simp only[Nat.sub_zero,zq]at h1 h2;obtain⟨n2,f2,k1,k2⟩:=i17 h g hg w _ f' _ (by omega) h1;exact⟨n2,f2,k1,h2.trans k2⟩
theorem i7(n:Nat)(f:RD)(bef:List It)(hn:n<=1000)(hr:RLe Af i0 n f bef): ∃n' f',RLe Af i0 n' f' (bef++r.qi.map My++r.qj.map Pi++r.qk.map L6++r.ql.map Jj)/\M7 s r w g g n f 0=Acg w n' f':=by
 have hq:=h.nr;obtain⟨f',h1,h2⟩:=app_loop (L:=fun m n f i=>M7 s r w g m n f i) (K:=fun n f=>M13 s r w g g n f 0) (l:=r.qi) (d:=Be) (c:=Af) (d0:=i0) (ch:=fun x=>[dI 0,D.sl 2 3 (Ae [dS Sr,dB false,dS x.name,dB false,dS x.text,dB true] 2),dB false,D.v (Value.slice none 0 0)]) (e:=My) (sz:=4)
  (fun m k n f hk hn=>by
    show M7 s r w g (m+1) n f k=M7 s r w g m (n+1) _ _;unfold M7;rw[Adr,lt1 hk,za,ge0,tt,za,za,tn,appOk5 hn,za,nx hk];generalize Xx okN' dcN' okW' weW okNf nNf fNf s r g m=LL;rfl)
  (fun m n f=>by
    show M7 s r w g (m+1) n f (r.qi.length:Int)=_;unfold M7;rw[Adr,lt0 (zp _),zb])
  (fun _=>rfl) (fun _ _=>Aan _) g 0 n f bef (by omega) (by omega) (by omega) hr
 simp only[Nat.sub_zero,zq]at h1 h2;obtain⟨n2,f2,k1,k2⟩:=i13 h g hg w _ f' _ (by omega) h1;exact⟨n2,f2,k1,h2.trans k2⟩
end
theorem Ta(r:SRel):(C1 r).length<=12:=by
 have z: ∀i on fw x r l d,(Dj i on fw x r l d).length<=1:=fun i on fw x r l d=>by cases on<;>simp[Dj]
 have e: ∀b x,(Bw b x).length<=1:=fun b x=>by cases b<;>simp[Bw]
 unfold C1;simp only[List.length_append];have:=z 1 r.zon0 r.zfw0 r.zx0 r.zr0 r.zl0 r.zd0;have:=z 2 r.zon1 r.zfw1 r.zx1 r.zr1 r.zl1 r.zd1;have:=z 3 r.zon2 r.zfw2 r.zx2 r.zr2 r.zl2 r.zd2;have:=e (r.min !=0) (say [Pb,decI r.min,decI r.kre,decI r.kim]);have:=e (r.qn !=0) (say [De,Kt r.qn,decI r.wait,decI r.guard]);have:=e r.don (say [Dm,decI r.dpk,decI r.ddl]);have:=e r.ion (say [Eg,decI r.ipk,decI r.idl]);have:=e r.fon (say [Pc,decI r.fpk,decI r.fdl]);have:=e (r.qp !=0) (say [Ef,decI r.qp,decI r.dead,decI r.qo]);have:=e r.uon (say [Hw,decI r.upk,decI r.udl]);have:=e r.oon (say [Pa,decI r.opk,decI r.odl]);have:=e (r.diff !=0) (say [By,decI r.diff,decI r.num,decI r.den,decI r.harm]);omega
def PFit(s:SSta)(r:SRel):Prop:=r.kind=4\/((r.kind=1\/r.kind=2\/r.kind=3)/\0<=r.bay/\r.bay<(s.qd.length:Int))
theorem citm{s:SSta}{r:SRel}(hn:NFit r)(hl:LFit r)(hp:PFit s r):CX prog 100 [aSta s,aRel r] [] (.agg [.d (dI 0), .d (Aw (Cb (relW s r))), .d (dB true), .d (A6 (Ds s r))]) []:=by
 have fin: ∀(l:List BA),relW s r=l ->Ai prog (oIt okN' dcN' okW' weW okNf nNf fNf) J1 1001 f100 (Ac f100) [aSta s,aRel r] []=Kp okN' dcN' okW' weW okNf nNf fNf s r 1001 1001 0 (fun _=>[]) 0 false 0 (Dt l) false ->
  CX prog 100 [aSta s,aRel r] [] (.agg [.d (dI 0), .d (Aw (Cb (relW s r))), .d (dB true), .d (A6 (Ds s r))]) []:=fun l hw he=>by
  have h0:RLe Af i0 (C1 r).length (fun i=>Af ((C1 r).getD i i0)) (C1 r):=⟨rfl,fun i hi=> .refl _⟩
  obtain⟨n',f',h1,h2⟩:=i7 (s:=s) hl 1001 (by omega) (Dt l) _ _ _ (by have:=Ta r;omega) h0
  have key:Ai prog (oIt okN' dcN' okW' weW okNf nNf fNf) J1 1001 f100 (Ac f100) [aSta s,aRel r] []=Acg (Dt l) n' f':=by
   rw[he,Alt,AeA hn,za];unfold nNf fNf;rw[theR];exact h2
  have hc:=(Mc sIt.ok func100 bitm rfl key).data (y:= .agg [.d (dI 0), .d (Dt l), .d (dB true), .d (.sl 4 n' f')]) rfl
  refine(CX.of_cr func100 bitm hc).le ?_ (.refl _)
  refine Gv (a:=[dI 0,Dt l,dB true, .sl 4 n' f']) (b:=[dI 0,Aw (Cb (relW s r)),dB true,A6 (Ds s r)]) (.cons (.refl _) (.cons (hw▸Hq l) (.cons (.refl _) (.cons ?_ .nil))))
  have h3:RLe Af i0 n' f' (Ds s r).kids:=by
   show RLe Af i0 n' f' (C1 r++Eo r);unfold Eo;simpa only[List.append_assoc]using h1
  exact(h3.de (sz:=4)).trans (Ek (Ds s r))
 rcases hp with e|⟨e|e|e,b0,b1⟩
 ·refine fin [Ff,r.name,Vs] (by unfold relW;rw[e];rfl) ?_;have st:=itm4 okN' dcN' okW' weW okNf nNf fNf s r 1001;rw[<-T3 e]at st;rw[st];generalize Kp okN' dcN' okW' weW okNf nNf fNf s r 1001 1001=LL;rfl
 ·refine fin [Ff,r.name,Hy,(s.qd.getD r.bay.toNat bay0).name] (by unfold relW Sl;rw[e];rfl) ?_;have st:=itm1 okN' dcN' okW' weW okNf nNf fNf s r 1001;rw[<-T3 e]at st;rw[st,zk b0,zk b1,tt,za];generalize Kp okN' dcN' okW' weW okNf nNf fNf s r 1001 1001=LL;rfl
 ·refine fin [Ff,r.name,Fe,(s.qd.getD r.bay.toNat bay0).name] (by unfold relW Sl;rw[e];rfl) ?_;have st:=itm2 okN' dcN' okW' weW okNf nNf fNf s r 1001;rw[<-T3 e]at st;rw[st,zk b0,zk b1,tt,za];generalize Kp okN' dcN' okW' weW okNf nNf fNf s r 1001 1001=LL;rfl
 ·refine fin [Ff,r.name,Fx,(s.qd.getD r.bay.toNat bay0).name] (by unfold relW Sl;rw[e];rfl) ?_;have st:=itm3 okN' dcN' okW' weW okNf nNf fNf s r 1001;rw[<-T3 e]at st;rw[st,zk b0,zk b1,tt,za];generalize Kp okN' dcN' okW' weW okNf nNf fNf s r 1001 1001=LL;rfl
theorem AlO{O:Type}{c:O ->List D}{d0:O}{n m:Nat}{f g:RD}{l k:List O}(h:RLe c d0 n f l)(h2:RLe c d0 m g k):RLe c d0 (n+m) (appF n f g) (l++k):=by
 refine⟨by rw[h.len,h2.len];simp,fun i hi=> ?_⟩;unfold appF;rw[bltD];by_cases e:i<n
 ·rw[zk e,K0 (by rw[<-h.len];exact e)];exact h.le i e
 ·rw[zt e,K1 (by rw[<-h.len];omega),<-h.len];exact h2.le (i -n) (by omega)
structure RFit (s:SSta) (l:List SRel):Prop where
 nf: ∀k,k<l.length ->NFit (l.getD k rel0)
 lf: ∀k,k<l.length ->LFit (l.getD k rel0)
 pf: ∀k,k<l.length ->PFit s (l.getD k rel0)
 le:l.length<=900
def lB'(r:SRel):Bool:= @decide (LFit r) (Classical.propDecidable _)
theorem Akf{r:SRel}:lB' r=true↔LFit r:=by unfold lB';simp
def okLf(x:List AV)(H:Hp):Bool:=okG eR lB' x&&H.length==0
def nLf(x:List AV):Nat:=(Eo (theT eR x)).length
def fLf(x:List AV):RD:=fun i=>Af ((Eo (theT eR x)).getD i i0)
theorem Ame{r:SRel}(h:LFit r):okLf [AV.agg (List.map C.d (relC r))] []=true:=by
 have e:okG eR lB' [AV.agg (List.map C.d (relC r))]=true:=Ao eR_inj r (Akf.2 h);unfold okLf;rw[e];rfl
theorem Amd{x:List AV}{H:Hp}(h:okLf x H=true):LFit (theT eR x)/\Asle x (eR (theT eR x))/\H=[]:=by
 unfold okLf okG at h;simp only[zd,beq_iff_eq]at h;exact⟨Akf.1 h.1.2,Gw h.1.1,List.eq_nil_of_length_eq_zero h.2⟩
abbrev aSR(s:SSta)(l:List SRel):List AV:=[aSta s, .c (.d (Di l))]
def okEq(y x:List AV):Bool:= @decide (x=y) (Classical.propDecidable _)
theorem Pz{y x:List AV}:okEq y x=true↔x=y:=by unfold okEq;simp
abbrev tIE(e:Int×Int):AV:= .tup [(false,[.d (dI e.1)]),(false,[.d (dI e.2)])]
def ZQ(s:SSta)(l:List SRel)(e:Int×Int):KQ where
 okc:=okEq (aSR s l)
 ci _:=e.1
 ce _:=e.2
 okn:=okNf
 nn:=nNf
 fn:=fNf
 okl:=okLf
 nl:=nLf
 fl:=fLf
theorem sPe{s:SSta}{l:List SRel}{e:Int×Int}(hck:CX prog 32 (aSR s l) [] (tIE e) []):OrcS prog (oPe (ZQ s l e)):=
 .cons (.g fun x h=>by obtain rfl:=Pz.1 h;exact hck) (.cons (.mg fun x H h=>by
  obtain⟨h1,h2,rfl⟩:=Aez h;exact(cnum h1).ge h2 (.refl _)) (.cons (.mg fun x H h=>by
  obtain⟨h1,h2,rfl⟩:=Amd h;exact(clst h1).ge h2 (.refl _)) (.cons (.inl sPx func91 (by kernel_rfl)) (.cons (.inl .nil func92 (by kernel_rfl)) (.cons (.inl .nil func93 (by kernel_rfl)) .nil)))))
def kidF(x:SRel):D:=D.sl (3+1) (nNf [aRel x]+nLf [aRel x]) (appF (nNf [aRel x]) (fNf [aRel x]) (fLf [aRel x]))
theorem Amt(s:SSta)(x:SRel):DE (kidF x) (A6 (Ds s x)):=by
 have a:RLe Af i0 (nNf [aRel x]) (fNf [aRel x]) (C1 x):=by
  have e:theT eR [aRel x]=x:=theR x;unfold nNf fNf;rw[e];exact⟨rfl,fun i hi=> .refl _⟩
 have b:RLe Af i0 (nLf [aRel x]) (fLf [aRel x]) (Eo x):=by
  have e:theT eR [aRel x]=x:=theR x;unfold nLf fLf;rw[e];exact⟨rfl,fun i hi=> .refl _⟩
 exact((AlO a b).de (sz:=4)).trans (Ek (Ds s x))
theorem Acu{r:SRel}(h:LFit r):(Eo r).length<=3600:=by
 have:=h.nr;have:=h.ns;have:=h.np;have:=h.nq;unfold Eo;simp;omega
def Y7(s:SSta)(l:List SRel)(e:Int):List It:=bif e==0 then F6 s l else []
theorem Apf{s:SSta}{l:List SRel}{e:Int×Int}(hck:CX prog 32 (aSR s l) [] (tIE e) [])(hf:e.2=0 ->RFit s l):CX prog 36 (aSR s l) [] (.c (.d (Bf (Y7 s l e.2)))) []:=by
 have ev:=evpen (ZQ s l e) s l 1001;have k1:KQ.okc (ZQ s l e) [AV.agg (List.map C.d (staC s)),AV.c (C.d (Ad ((53:Nat)) relC rel0 l))]=true:=Pz.2 rfl;rw[k1,za]at ev;cases h0:(e.2==0)with
 |false=>
  have h1:(KQ.ce (ZQ s l e) [AV.agg (List.map C.d (staC s)),AV.c (C.d (Ad ((53:Nat)) relC rel0 l))] !=(0:Int))=true:=by
   show(e.2 !=0)=true;unfold bne;rw[h0];rfl
  rw[h1,za]at ev;unfold Y7;rw[h0];exact(Am (sPe hck).ok func36 bpen rfl ev).le (Pt (.nil _ _)) (.refl _)
 |true=>
  have he:e.2=0:=eq_of_beq h0;have hR:=hf he;have h1:(KQ.ce (ZQ s l e) [AV.agg (List.map C.d (staC s)),AV.c (C.d (Ad ((53:Nat)) relC rel0 l))] !=(0:Int))=false:=by
   show(e.2 !=0)=false;rw[he];rfl
  rw[h1,zb]at ev;have hle:=hR.le;obtain⟨f',r1,r2⟩:=app_loop (L:=fun m n f i=>Hj (ZQ s l e) s l 1001 m n f i) (K:=fun n f=>some (T.leaf (AV.c (C.row 0 4 n),[(0,Blk.row n f 4 176)]))) (l:=l) (d:=rel0) (c:=Af) (d0:=i0) (ch:=fun x=>[dI 0,Dt (relW s x),dB true,kidF x]) (e:=Ds s) (sz:=4)
   (fun m k n f hk hn=>by
     show Hj (ZQ s l e) s l 1001 (m+1) n f k=Hj (ZQ s l e) s l 1001 m (n+1) _ _;have step: ∀w,Ni (ZQ s l e) s l 1001 m 1001 n f k 0 w false=Hj (ZQ s l e) s l 1001 m (n+1) (appF n f (Ae [dI 0,w,dB true,kidF (l.getD k rel0)] 4)) ((k+1:Nat):Int):=fun w=>by
      have hn1:=AeA (hR.nf k hk);have hl1:=Ame (hR.lf k hk);have q1:KQ.okn (ZQ s l e) [AV.agg (List.map C.d (relC (List.getD l k rel0)))] []=true:=hn1;have q2:KQ.okl (ZQ s l e) [AV.agg (List.map C.d (relC (List.getD l k rel0)))] []=true:=hl1;have z1:nNf [AV.agg (List.map C.d (relC (List.getD l k rel0)))]<=12:=by
       unfold nNf;rw[theR];exact Ta _
      have z2:nLf [AV.agg (List.map C.d (relC (List.getD l k rel0)))]<=3600:=by
       unfold nLf;rw[theR];exact Acu (hR.lf k hk)
      have q3:(decide ((KQ.nn (ZQ s l e) [AV.agg (List.map C.d (relC (List.getD l k rel0)))]+KQ.nl (ZQ s l e) [AV.agg (List.map C.d (relC (List.getD l k rel0)))])*(64:Nat)<=(140737488355328:Nat))&&decide (KQ.nn (ZQ s l e) [AV.agg (List.map C.d (relC (List.getD l k rel0)))]+KQ.nl (ZQ s l e) [AV.agg (List.map C.d (relC (List.getD l k rel0)))]<=(9223372036854775807:Nat)))=true:=by
       show(decide ((nNf _+nLf _)*64<=_)&&decide (nNf _+nLf _<=_))=true;rw[zk,zk];rfl
      rw[AgX,tn,q1,za,q2,za,q3,za,appOk5 hn,za,nx hk];rfl
     rw[Ade,lt1 hk,za,ge0,tt,za,tn];rcases hR.pf k hk with p|⟨p|p|p,b0,b1⟩
     ·rw[p,show((4:Int)==4)=true by decide,za];refine(step _).trans ?_;generalize Hj (ZQ s l e) s l 1001 m=LL;have ew:relW s (l.getD k rel0)=[Ff,(l.getD k rel0).name,Vs]:=by unfold relW;rw[p];rfl
      rw[ew];rfl
     ·rw[p,show((1:Int)==4)=false by decide,zb,show((1:Int)==1)=true by decide,za,zk b0,zk b1,tt,za];refine(step _).trans ?_;generalize Hj (ZQ s l e) s l 1001 m=LL;have ew:relW s (l.getD k rel0)=[Ff,(l.getD k rel0).name,Hy,(s.qd.getD (l.getD k rel0).bay.toNat bay0).name]:=by unfold relW Sl;rw[p];rfl
      rw[ew];rfl
     ·rw[p,show((2:Int)==4)=false by decide,zb,show((2:Int)==1)=false by decide,zb,show((2:Int)==2)=true by decide,za,zk b0,zk b1,tt,za];refine(step _).trans ?_;generalize Hj (ZQ s l e) s l 1001 m=LL;have ew:relW s (l.getD k rel0)=[Ff,(l.getD k rel0).name,Fe,(s.qd.getD (l.getD k rel0).bay.toNat bay0).name]:=by unfold relW Sl;rw[p];rfl
      rw[ew];rfl
     ·rw[p,show((3:Int)==4)=false by decide,zb,show((3:Int)==1)=false by decide,zb,show((3:Int)==2)=false by decide,zb,zk b0,zk b1,tt,za];refine(step _).trans ?_;generalize Hj (ZQ s l e) s l 1001 m=LL;have ew:relW s (l.getD k rel0)=[Ff,(l.getD k rel0).name,Fx,(s.qd.getD (l.getD k rel0).bay.toNat bay0).name]:=by unfold relW Sl;rw[p];rfl
      rw[ew];rfl)
   (fun m n f=>by
     show Hj (ZQ s l e) s l 1001 (m+1) n f (l.length:Int)=_;rw[Ade,lt0 (zp _),zb])
   (fun _=>rfl) (fun k hk=>U9 (x:=Ds s (l.getD k rel0)) rfl rfl (Hq _) (Amt s _)) 1001 0 0 (fun _=>[]) [] (by omega) (by omega) (by omega) (.nil _)
  simp only[Nat.sub_zero,zq,List.nil_append]at r1 r2;have hc:=(Mc (sPe hck).ok func36 bpen rfl (ev.trans r2)).data (y:= .c (.d (.sl 4 (0+l.length) f'))) rfl;refine(CX.of_cr func36 bpen hc).le ?_ (.refl _);unfold Y7;rw[h0];exact Pt (r1.de (sz:=4))
end Go.Y.en
namespace Go.Y.se
open Go.RowKit Go.Eb
def largeR(r:SRel):Bool:=decide (20<r.qi.length)||(decide (8<r.qj.length)||(decide (8<r.qk.length)||(decide (30<r.ql.length)||((r.qj.any fun x=>decide (30<x.qm.length))||r.qi.any fun x=>decide (200<x.text.size)))))
end Go.Y.se
namespace Go.Y.en
open Go.RowKit Go.Eb Go.Y.st Go.Y.se
theorem bt{a x:Bool}(h:(bif a then x else false)=true):a=true/\x=true:=by cases a<;>cases x<;>simp_all
theorem bf{a x:Bool}(h:(bif !a then false else x)=true):a=true/\x=true:=by cases a<;>cases x<;>simp_all
theorem bne0{n:Int}{x:Bool}(h:(bif n !=0 then false else x)=true):n=0/\x=true:=by
 cases e:(n !=0)with
 |true=>rw[e]at h;cases h|false=>rw[e]at h;exact⟨by simpa using e,h⟩
theorem bz{a:Bool}{k x:Int}(h:(bif !a then k else x)=0)(hk:k≠0):a=true/\x=0:=by
 cases a with
 |true=>exact⟨rfl,h⟩|false=>exact absurd h hk
theorem bz'{k x:Int}(h:(bif k !=0 then k else x)=0):k=0/\x=0:=by
 cases e:(k !=0)with
 |true=>rw[e,za]at h;exact⟨h,by rw[h]at e;cases e⟩|false=>rw[e]at h;exact⟨by simpa using e,h⟩
theorem nI_w{n a b:Int}(h:Aa n a b=true)(h1: -1000000<=a:=by omega)(h2:b<=1000000:=by omega):nI n=true:=by
 unfold Aa at h;simp only[zd,zi]at h;unfold nI;rw[zk,zk];rfl
theorem nI_z{n:Int}(h:n=0):nI n=true:=by rw[h];decide
theorem nI_b{n:Int}(h:(n==0)=true):nI n=true:=nI_z (eq_of_beq h)
theorem el_n{on:Bool}{pk dl k:Int}(h:elOk on pk dl k=true)(hk: -1000000<=k):nI pk=true/\nI dl=true:=by
 unfold elOk at h;cases on with
 |true=>
  simp only[za,zd]at h;exact⟨nI_w h.1,nI_w h.2 hk (by omega)⟩
 |false=>
  simp only[zb,zd]at h;exact⟨nI_b h.1,nI_b h.2⟩
theorem zo{a b:Bool}{c d e f:Int}(h:(a==false&&(b==false&&(c==(0:Int)&&(d==(0:Int)&&(e==(0:Int)&&(f==(0:Int)&&true))))))=true):nI c=true/\nI d=true/\nI e=true/\nI f=true:=by
 simp only[zd]at h;exact⟨nI_b h.2.2.1,nI_b h.2.2.2.1,nI_b h.2.2.2.2.1,nI_b h.2.2.2.2.2.1⟩
structure Z4 (c d e f:Int):Prop where
 x:nI c=true
 r:nI d=true
 l:nI e=true
 d:nI f=true
theorem Apb{r:SRel}(h:Cw r=true):(Z4 r.zx0 r.zr0 r.zl0 r.zd0/\Z4 r.zx1 r.zr1 r.zl1 r.zd1/\Z4 r.zx2 r.zr2 r.zl2 r.zd2)/\nI r.min=true/\nI r.kre=true/\nI r.kim=true:=by
 unfold Cw at h;cases o0:r.zon0 with
 |false=>
  rw[o0,Bool.not_false,za]at h;obtain⟨z0,h⟩:=bf h;obtain⟨p0,q0,s0,t0⟩:=zo z0;have y0:Z4 r.zx0 r.zr0 r.zl0 r.zd0:=⟨p0,q0,s0,t0⟩;cases o1:r.zon1 with
  |false=>
   rw[o1,Bool.not_false,za]at h;obtain⟨z1,h⟩:=bf h;obtain⟨p1,q1,s1,t1⟩:=zo z1;have y1:Z4 r.zx1 r.zr1 r.zl1 r.zd1:=⟨p1,q1,s1,t1⟩;cases o2:r.zon2 with
   |false=>
    rw[o2,Bool.not_false,za]at h;obtain⟨z2,h⟩:=bf h;obtain⟨p2,q2,s2,t2⟩:=zo z2;have y2:Z4 r.zx2 r.zr2 r.zl2 r.zd2:=⟨p2,q2,s2,t2⟩;obtain⟨m1,h⟩:=bt h;obtain⟨m2,m3⟩:=bt h;exact⟨⟨y0,y1,y2⟩,nI_b m1,nI_b m2,nI_b m3⟩
   |true=>
    rw[o2,Bool.not_true,zb]at h;obtain⟨p2,h⟩:=bf h;obtain⟨q2,h⟩:=bf h;obtain⟨s2,h⟩:=bf h;obtain⟨t2,h⟩:=bf h;have y2:Z4 r.zx2 r.zr2 r.zl2 r.zd2:=⟨nI_w p2,nI_w q2,nI_w s2,nI_w t2⟩;obtain⟨m1,h⟩:=bt h;obtain⟨m2,m3⟩:=bt h;exact⟨⟨y0,y1,y2⟩,nI_w m1,nI_w m2,nI_w m3⟩
  |true=>
   rw[o1,Bool.not_true,zb]at h;obtain⟨p1,h⟩:=bf h;obtain⟨q1,h⟩:=bf h;obtain⟨s1,h⟩:=bf h;obtain⟨t1,h⟩:=bf h;have y1:Z4 r.zx1 r.zr1 r.zl1 r.zd1:=⟨nI_w p1,nI_w q1,nI_w s1,nI_w t1⟩;cases o2:r.zon2 with
   |false=>
    rw[o2,Bool.not_false,za]at h;obtain⟨z2,h⟩:=bf h;obtain⟨p2,q2,s2,t2⟩:=zo z2;have y2:Z4 r.zx2 r.zr2 r.zl2 r.zd2:=⟨p2,q2,s2,t2⟩;obtain⟨m1,h⟩:=bt h;obtain⟨m2,m3⟩:=bt h;exact⟨⟨y0,y1,y2⟩,nI_w m1,nI_w m2,nI_w m3⟩
   |true=>
    rw[o2,Bool.not_true,zb]at h;obtain⟨p2,h⟩:=bf h;obtain⟨q2,h⟩:=bf h;obtain⟨s2,h⟩:=bf h;obtain⟨t2,h⟩:=bf h;have y2:Z4 r.zx2 r.zr2 r.zl2 r.zd2:=⟨nI_w p2,nI_w q2,nI_w s2,nI_w t2⟩;obtain⟨m1,h⟩:=bt h;obtain⟨m2,m3⟩:=bt h;exact⟨⟨y0,y1,y2⟩,nI_w m1,nI_w m2,nI_w m3⟩
 |true=>
  rw[o0,Bool.not_true,zb]at h;obtain⟨p0,h⟩:=bf h;obtain⟨q0,h⟩:=bf h;obtain⟨s0,h⟩:=bf h;obtain⟨t0,h⟩:=bf h;have y0:Z4 r.zx0 r.zr0 r.zl0 r.zd0:=⟨nI_w p0,nI_w q0,nI_w s0,nI_w t0⟩;cases o1:r.zon1 with
  |false=>
   rw[o1,Bool.not_false,za]at h;obtain⟨z1,h⟩:=bf h;obtain⟨p1,q1,s1,t1⟩:=zo z1;have y1:Z4 r.zx1 r.zr1 r.zl1 r.zd1:=⟨p1,q1,s1,t1⟩;cases o2:r.zon2 with
   |false=>
    rw[o2,Bool.not_false,za]at h;obtain⟨z2,h⟩:=bf h;obtain⟨p2,q2,s2,t2⟩:=zo z2;have y2:Z4 r.zx2 r.zr2 r.zl2 r.zd2:=⟨p2,q2,s2,t2⟩;obtain⟨m1,h⟩:=bt h;obtain⟨m2,m3⟩:=bt h;exact⟨⟨y0,y1,y2⟩,nI_w m1,nI_w m2,nI_w m3⟩
   |true=>
    rw[o2,Bool.not_true,zb]at h;obtain⟨p2,h⟩:=bf h;obtain⟨q2,h⟩:=bf h;obtain⟨s2,h⟩:=bf h;obtain⟨t2,h⟩:=bf h;have y2:Z4 r.zx2 r.zr2 r.zl2 r.zd2:=⟨nI_w p2,nI_w q2,nI_w s2,nI_w t2⟩;obtain⟨m1,h⟩:=bt h;obtain⟨m2,m3⟩:=bt h;exact⟨⟨y0,y1,y2⟩,nI_w m1,nI_w m2,nI_w m3⟩
  |true=>
   rw[o1,Bool.not_true,zb]at h;obtain⟨p1,h⟩:=bf h;obtain⟨q1,h⟩:=bf h;obtain⟨s1,h⟩:=bf h;obtain⟨t1,h⟩:=bf h;have y1:Z4 r.zx1 r.zr1 r.zl1 r.zd1:=⟨nI_w p1,nI_w q1,nI_w s1,nI_w t1⟩;cases o2:r.zon2 with
   |false=>
    rw[o2,Bool.not_false,za]at h;obtain⟨z2,h⟩:=bf h;obtain⟨p2,q2,s2,t2⟩:=zo z2;have y2:Z4 r.zx2 r.zr2 r.zl2 r.zd2:=⟨p2,q2,s2,t2⟩;obtain⟨m1,h⟩:=bt h;obtain⟨m2,m3⟩:=bt h;exact⟨⟨y0,y1,y2⟩,nI_w m1,nI_w m2,nI_w m3⟩
   |true=>
    rw[o2,Bool.not_true,zb]at h;obtain⟨p2,h⟩:=bf h;obtain⟨q2,h⟩:=bf h;obtain⟨s2,h⟩:=bf h;obtain⟨t2,h⟩:=bf h;have y2:Z4 r.zx2 r.zr2 r.zl2 r.zd2:=⟨nI_w p2,nI_w q2,nI_w s2,nI_w t2⟩;obtain⟨m1,h⟩:=bt h;obtain⟨m2,m3⟩:=bt h;exact⟨⟨y0,y1,y2⟩,nI_w m1,nI_w m2,nI_w m3⟩
theorem ApI{r:SRel}(h:Dr r=true):(r.qn=0\/r.qn=1\/r.qn=2\/r.qn=3)/\nI r.wait=true/\nI r.guard=true:=by
 unfold Dr at h;obtain⟨s,h⟩:=bf h;have hs:r.qn=0\/r.qn=1\/r.qn=2\/r.qn=3:=by
  unfold Aa at s;simp only[zd,zi]at s;omega
 have gd: ∀{b:Bool},(bif b then(r.guard==(0:Int))else Aa r.guard 0 50)=true ->nI r.guard=true:=fun{b} hg=>by
  cases b with
  |true=>exact nI_b hg|false=>exact nI_w hg
 cases e:(r.qn==3)with
 |true=>
  rw[e,za]at h;obtain⟨w,h⟩:=bf h;exact⟨hs,nI_w w,gd h⟩
 |false=>
  rw[e,zb]at h;obtain⟨w,h⟩:=bne0 h;exact⟨hs,nI_z w,gd h⟩
theorem ArB{r:SRel}(h:Dq r=true):(nI r.ipk=true/\nI r.idl=true)/\(nI r.dpk=true/\nI r.ddl=true)/\(nI r.upk=true/\nI r.udl=true)/\(nI r.opk=true/\nI r.odl=true)/\(nI r.fpk=true/\nI r.fdl=true):=by
 unfold Dq at h;have rest: ∀{a b c d:Bool},(bif a then(bif b then(bif c then d else false)else false)else false)=true ->a=true/\b=true/\c=true/\d=true:=fun{a b c d} h=>by
  obtain⟨x1,h⟩:=bt h;obtain⟨x2,h⟩:=bt h;obtain⟨x3,h⟩:=bt h;exact⟨x1,x2,x3,h⟩
 cases e:r.ion with
 |true=>
  rw[e,za]at h;obtain⟨p,h⟩:=bf h;obtain⟨q,h⟩:=bf h;obtain⟨a,b,c,d⟩:=rest h;exact⟨⟨nI_w p,nI_w q⟩,el_n a (by omega),el_n b (by omega),el_n c (by omega),el_n d (by omega)⟩
 |false=>
  rw[e,zb]at h;obtain⟨p,h⟩:=bf h;simp only[zd]at p;obtain⟨a,b,c,d⟩:=rest h;exact⟨⟨nI_b p.2.1,nI_b p.2.2.1⟩,el_n a (by omega),el_n b (by omega),el_n c (by omega),el_n d (by omega)⟩
theorem ApJ{r:SRel}(h:Dp r=true):(nI r.qp=true/\nI r.dead=true/\nI r.qo=true)/\nI r.diff=true/\nI r.num=true/\nI r.den=true/\nI r.harm=true:=by
 unfold Dp at h;have rest:(bif r.diff==(0:Int)then(bif r.num==(0:Int)then(bif r.den==(0:Int)then(r.harm==(0:Int))else false)else false)else(bif Aa r.diff (1:Int) (16383:Int)then(bif Aa r.den (1:Int) (100:Int)then(bif Aa r.num (0:Int) r.den then Aa r.harm (0:Int) (100:Int)else false)else false)else false))=true ->nI r.diff=true/\nI r.num=true/\nI r.den=true/\nI r.harm=true:=fun h=>by
  cases e:(r.diff==(0:Int))with
  |true=>
   rw[e,za]at h;obtain⟨x1,h⟩:=bt h;obtain⟨x2,h⟩:=bt h;exact⟨nI_b e,nI_b x1,nI_b x2,nI_b h⟩
  |false=>
   rw[e,zb]at h;obtain⟨x1,h⟩:=bt h;obtain⟨x2,h⟩:=bt h;obtain⟨x3,h⟩:=bt h;have hd:r.den<=100:=by
    unfold Aa at x2;simp only[zd,zi]at x2;exact x2.2
   exact⟨nI_w x1,nI_w x3,nI_w x2,nI_w h⟩
 cases e:(r.qp==(0:Int))with
 |true=>
  rw[e,za]at h;obtain⟨x1,h⟩:=bne0 h;obtain⟨x2,h⟩:=bne0 h;exact⟨⟨nI_b e,nI_z x1,nI_z x2⟩,rest h⟩
 |false=>
  rw[e,zb]at h;obtain⟨x1,h⟩:=bf h;obtain⟨x2,h⟩:=bf h;obtain⟨x3,h⟩:=bf h;exact⟨⟨nI_w x1,nI_w x2,nI_w x3⟩,rest h⟩
theorem nfit{r:SRel}(h:D4 r=0):NFit r:=by
 unfold D4 at h;obtain⟨_,h⟩:=bz h (by decide);obtain⟨h1,h⟩:=bz h (by decide);obtain⟨h2,h⟩:=bz h (by decide);obtain⟨h3,h⟩:=bz h (by decide);obtain⟨h4,h⟩:=bz h (by decide);obtain⟨⟨z0,z1,z2⟩,m1,m2,m3⟩:=Apb h1;obtain⟨s0,s1,s2⟩:=ApI h2;obtain⟨⟨i1,i2⟩,⟨d1,d2⟩,⟨u1,u2⟩,⟨o1,o2⟩,f1,f2⟩:=ArB h3;obtain⟨⟨t1,t2,t3⟩,q1,q2,q3,q4⟩:=ApJ h4;exact⟨z0.x,z0.r,z0.l,z0.d,z1.x,z1.r,z1.l,z1.d,z2.x,z2.r,z2.l,z2.d,m1,m2,m3,s1,s2,d1,d2,i1,i2,f1,f2,t1,t2,t3,u1,u2,o1,o2,q1,q2,q3,q4,s0⟩
end Go.Y.en
end
