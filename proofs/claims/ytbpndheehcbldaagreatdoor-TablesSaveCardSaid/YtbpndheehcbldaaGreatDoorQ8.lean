/-
  Go code evaluated: part 8. No condition.
-/
import Derived.Test.YtbpndheehcbldaaGreatDoorQ7
import Derived.Test.YtbpndheehcbldaaGreatDoorProg
import Derived.KernelRfl
import Derived.Test.YtbpndheehcbldaaGreatDoorTie
import Derived.ProofKit
import Derived.LaidMore
import Derived.OpenShut
import Derived.Stop.Joined
import Derived.Test.YtbpndheehcbldaaGreatDoorRows
import Derived.JoinedOf
import Derived.RowKit
open Go.IntKind (wrap u32 i32)
noncomputable section
open Go.Proofs Go.Proofs.Tryz
namespace Go.Proofs.YtbpndheehcbldaaGreatDoor
end Go.Proofs.YtbpndheehcbldaaGreatDoor
open Go.Proofs.YtbpndheehcbldaaGreatDoor
set_option maxRecDepth 100000
namespace Go.Y.wd
open Go.RowKit Go.Eb
def o14:Orc:=Orc.cons 254 (ansP dec8 fun r=>vB (Ct r)) Orc.nil
def AnC:=A1 [(2,⟨[0,3],[]⟩)]
def L14(s:BA)(g m:Nat)(i:Int):=G5 prog o14 AnC 0 g (sub [true,false,true,false,false] (Ac f249)) m ⟨frm [(0,vS s),(3,vI i)] 0 f249.ntmps,[],0⟩ (kAt prog o14 AnC 0 g [true,false,true,false] (Ac f249) (kEnd prog f249 0))
theorem ev14(s:BA)(g:Nat):Ai prog o14 AnC g f249 (Ac f249) [vS s] []=
 L14 s g g 0:=by kernel_rfl
theorem st14(s:BA)(g m:Nat)(i:Int):L14 s g (m+1) i=
 (bif decide (i<(↑(ByteArray.size s):Int))then(bif decide (0<=i)&&decide (i<(↑(ByteArray.size s):Int))then(bif !Ct (↑(UInt8.toNat ((Array.toList (ByteArray.data
 s)).getD i.toNat 0)):Int)then leB false else L14 s g m (wrap .i64 (i+1)))else none)else leB !s.toList==ByteArray.toList (⟨#[]⟩)):=by kernel_rfl
end Go.Y.wd
namespace Go.Y.ck
open Go.RowKit Go.Eb
open Go.Y.wd (C0 Mb Ct Da)
def o56:Orc:=Orc.cons 249 (ansC decS (fun s=>decide (s.size<=sB)) fun s=>vB (Da s)) Orc.nil
def Anu:=A1 [(8,⟨[1,3],[]⟩)]
def L56(w:Wd)(g m:Nat)(i:Int):=G5 prog o56 Anu 0 g (sub [true,true,true,false,true,false,false] (Ac f234)) m ⟨frm [(1, .c (.ptr 0 0)),(3,vI i)] 0 f234.ntmps,[(0, .cells ((Fv w).map .d) 182)],1⟩ (kAt prog o56 Anu 0 g [true,true,true,false,true,false] (Ac f234) (kEnd prog f234 0))
theorem ev56(w:Wd)(g:Nat):Ai prog o56 Anu g f234 (Ac f234) [aWd w] []=
 (bif decide ((↑(ByteArray.size (Wd.text w)):Int)>120)then leI 4 else(bif !Wd.q w then(bif decide (ByteArray.size (Wd.text w)<=sB)then(bif !Da (Wd.text w)then leI 6 else
 leI 0)else none)else L56 w g g 0)):=by kernel_rfl
theorem st56(w:Wd)(g m:Nat)(i:Int):L56 w g (m+1) i=
 (bif decide (i<(↑(ByteArray.size (Wd.text w)):Int))then(bif decide (0<=i)&&decide (i<(↑(ByteArray.size (Wd.text w)):Int))then(bif decide ((↑(UInt8.toNat
 ((Array.toList (ByteArray.data (Wd.text w))).getD i.toNat 0)):Int)<32)then leI 5 else(bif decide (0<=i)&&decide (i<(↑(ByteArray.size (Wd.text w)):Int))then(bif
 decide ((↑(UInt8.toNat ((Array.toList (ByteArray.data (Wd.text w))).getD i.toNat 0)):Int)>126)then leI 5 else(bif decide (0<=i)&&decide (i<(↑(ByteArray.size (Wd.text w))
 :Int))then(bif(↑(UInt8.toNat ((Array.toList (ByteArray.data (Wd.text w))).getD i.toNat 0)):Int)==34 then leI 5 else L56 w g m (wrap .i64 (i+1)))else none))else
 none))else none)else leI 0):=by kernel_rfl
def o51(op:Wd ->Bool)(cw:Wd ->Int):Orc:=Orc.cons 233 (ansP Za fun w=>vB (op w)) (Orc.cons 234 (ansC Za (fun w=>decide (w.text.size<=sB)) fun w=>vI (cw w)) Orc.nil)
def Anv:=A1 [(6,⟨[1,3],[]⟩)]
def L51(op:Wd ->Bool)(cw:Wd ->Int)(x:It)(g m:Nat)(i:Int):=G5 prog (o51 op cw) Anv 0 g (sub [true,true,true,false,true,false,false] (Ac f219)) m ⟨frm [(1, .c (.ptr 0 0)),(3,vI i)] 0 f219.ntmps,[(0, .cells ((Af x).map .d) 176)],1⟩ (kAt prog (o51 op cw) Anv 0 g [true,true,true,false,true,false] (Ac f219) (kEnd prog f219 0))
theorem ev51(op:Wd ->Bool)(cw:Wd ->Int)(x:It)(g:Nat):Ai prog (o51 op cw) Anv g f219 (Ac f219) [aT x] []=
 (bif(↑(It.words x).length:Int)==0 then leI 6 else(bif decide ((0:Int)<=0)&&decide (0<(↑(It.words x).length:Int))then(bif !op (Wd.mk (Wd.text ((It.words x).getD
 (Int.toNat 0) w0)) (Wd.q ((It.words x).getD (Int.toNat 0) w0)))then leI 6 else(bif decide ((↑(It.words x).length:Int)>40)then leI 3 else L51 op cw x g g 0))else none)):=by kernel_rfl
theorem st51(op:Wd ->Bool)(cw:Wd ->Int)(x:It)(g m:Nat)(i:Int):L51 op cw x g (m+1) i=
 (bif decide (i<(↑(It.words x).length:Int))then(bif decide (0<=i)&&decide (i<(↑(It.words x).length:Int))then(bif decide (ByteArray.size (Wd.text ((It.words x).getD
 i.toNat w0))<=sB)then(bif cw (Wd.mk (Wd.text ((It.words x).getD i.toNat w0)) (Wd.q ((It.words x).getD i.toNat w0))) !=0 then leI (cw (Wd.mk (Wd.text ((It.words x).getD i.toNat
 w0)) (Wd.q ((It.words x).getD i.toNat w0))))else L51 op cw x g m (wrap .i64 (i+1)))else none)else none)else(bif !It.block x then(bif decide ((↑(It.kids x).length:
 Int)>0)then leI 12 else leI 0)else leI 0)):=by kernel_rfl
def o38(ci:Int ->D ->Bool ->D ->Int)(c:D ->Bool)(e n':D ->Int ->Int ->Int):Orc:=Orc.cons 219 (ansT fun n w b ks=>vI (ci n w b ks)) (Orc.cons 155 (fun _ args H k=>match H,args with|[],[.c (.d x), .c (.d (.v (.int .i64 d))), .c (.d (.v (.int .i64 n)))]=>bif c x then k (.tup [pI (n' x d n),pI (e x d n)]) []else none|_,_=>none) Orc.nil)
def Anw:=A1 [(2,⟨[0,1,2,8],[]⟩)]
def L38(ci:Int ->D ->Bool ->D ->Int)(c:D ->Bool)(e n':D ->Int ->Int ->Int)(l:List It)(d:Int)(g m:Nat)(n i:Int):=G5 prog (o38 ci c e n') Anw 0 g (sub [true,false,true,false,false] (Ac f155)) m ⟨frm [(0,aI l),(1,vI d),(2,vI n),(8,vI i)] 0 f155.ntmps,[],0⟩ (kAt prog (o38 ci c e n') Anw 0 g [true,false,true,false] (Ac f155) (kEnd prog f155 0))
theorem ev38(ci:Int ->D ->Bool ->D ->Int)(c:D ->Bool)(e n':D ->Int ->Int ->Int)(l:List It)(d:Int)(g:Nat)(n:Int):Ai prog (o38 ci c e n') Anw g f155 (Ac f155) [aI l,vI d,vI n] []=
 L38 ci c e n' l d g g n 0:=by kernel_rfl
theorem st38(ci:Int ->D ->Bool ->D ->Int)(c:D ->Bool)(e n':D ->Int ->Int ->Int)(l:List It)(d:Int)(g m:Nat)(n i:Int):L38 ci c e n' l d g (m+1) n i=
 (bif decide (i<(↑l.length:Int))then(bif decide (n>=600)then some (T.leaf (.tup [(false,[.d (iD n)]),(false,[.d (iD 3)])],[]))
 else(bif decide (d>4)then some (T.leaf (.tup [(false,[.d (iD n)]),(false,[.d (iD 17)])],[]))else(bif decide (0<=i)&&decide (i
 <(↑l.length:Int))then(bif okW (Aw (It.words (l.getD i.toNat i0)))&&okI (A6 (l.getD i.toNat i0))&&okWs (theW (Aw (It.words (l.getD i.toNat i0))))&&okL (theI (A6 (l.getD
 i.toNat i0)))then(bif ci (It.line (l.getD i.toNat i0)) (Aw (It.words (l.getD i.toNat i0))) (It.block (l.getD i.toNat i0)) (A6 (l.getD i.toNat i0)) !=0 then some (T.leaf (AV.tup
 [(false,[.d (iD (wrap .i64 (n+1)))]),(false,[.d (iD (ci (It.line (l.getD i.toNat i0)) (Aw (It.words (l.getD i.toNat i0))) (It.block (l.getD
 i.toNat i0)) (A6 (l.getD i.toNat i0))))])],[]))else(bif decide (0<=i)&&decide (i<(↑l.length:Int))then(bif c (A6 (l.getD i.toNat i0))then(bif e (A6 (l.getD i.toNat
 i0)) (wrap IntKind.i64 (d+1)) (wrap .i64 (n+1)) !=0 then some (T.leaf (.tup [(false,[.d (iD (n' (A6 (l.getD i.toNat i0)) (wrap .i64 (d+
 1)) (wrap .i64 (n+1))))]),(false,[.d (iD (e (A6 (l.getD i.toNat i0)) (wrap .i64 (d+1)) (wrap .i64 (n+1))))])],[]))else L38 ci c e n'
 l d g m (n' (A6 (l.getD i.toNat i0)) (wrap .i64 (d+1)) (wrap .i64 (n+1))) (wrap .i64 (i+1)))else none)else none))else none)else none)))else some
 (T.leaf (.tup [(false,[.d (iD n)]),(false,[.d (iD 0)])],[]))):=by kernel_rfl
def o18(c:D ->Bool)(e n':D ->Int ->Int ->Int):Orc:=Orc.cons 155 (fun _ args H k=>match H,args with|[],[.c (.d x), .c (.d (.v (.int .i64 d))), .c (.d (.v (.int .i64 n)))]=>bif c x then k (.tup [pI (n' x d n),pI (e x d n)]) []else none|_,_=>none) Orc.nil
theorem ev18(c:D ->Bool)(e n':D ->Int ->Int ->Int)(l:List It):Ai prog (o18 c e n') na 1 f96 (Ac f96) [aI l] []=
 (bif c (Bf l)then leI (e (Bf l) 0 0)else none):=by kernel_rfl
end Go.Y.ck
namespace Go.Y.wd
open Go.RowKit Go.Eb
theorem b14:f249.body=some (Ac f249):=by kernel_rfl
theorem ok14:B4 prog o14:=Orc.cons_ok (Orc.nil_ok _) (Fq U1 c30)
theorem lp14(s:BA)(g:Nat)(hs:s.size<=9223372036854775807): ∀(m k:Nat),k<=s.size ->s.size -k<m ->
  L14 s g m k=some (.leaf (vB ((bs s|>.drop k).all (fun c=>Ct c.toNat)&& !(s.toList==(ByteArray.mk #[]).toList)),[]))
 |0,k,_,h=>by omega|m+1,k,hk,h=>by
  rw[st14];by_cases hlt:k<s.size
  ·have hl:k<(bs s).length:=by rw[Pp];exact hlt
   have e1:decide ((k:Int)<(s.size:Int))=true:=by simp;omega
   have e2:decide ((0:Int)<=(k:Int))=true:=by simp
   have e3:Int.toNat (k:Int)=k:=by simp
   rw[Qh _ _ hl];simp only[e1,e2,e3,Bool.and_self,za];have ew:wrap IntKind.i64 ((k:Int)+1)=((k+1:Nat):Int):=by rw[wrap_id];omega
   rw[ew,lp14 s g hs m (k+1) (by omega) (by omega)];cases Ct ((bs s).getD k 0).toNat<;>rfl
  ·have e1:decide ((k:Int)<(s.size:Int))=false:=by simp;omega
   have hd:(bs s).drop k=[]:=zl (by rw[Pp];omega);simp only[e1,zb];rw[hd];rfl
theorem c14(s:BA)(hs:s.size<=9223372036854775807):CX prog 249 [vS s] [] (vB (Da s)) []:=by
 refine Am ok14 func249 b14 rfl ((ev14 s (s.size+1)).trans ?_);have:=lp14 s (s.size+1) hs (s.size+1) 0 (by omega) (by omega);exact this
end Go.Y.wd
namespace Go.Y.ck
open Go.RowKit Go.Eb
open Go.Y.wd
theorem b56:f234.body=some (Ac f234):=by kernel_rfl
theorem b51:f219.body=some (Ac f219):=by kernel_rfl
theorem b38:f155.body=some (Ac f155):=by kernel_rfl
theorem b18:f96.body=some (Ac f96):=by kernel_rfl
theorem ok56:B4 prog o56:=Orc.cons_ok (Orc.nil_ok _) (Va D9 fun s h=>c14 s (by unfold sB at h;simpa using h))
theorem lp56(w:Wd)(g:Nat)(hs:w.text.size<=9223372036854775807): ∀(m k:Nat),k<=w.text.size ->w.text.size -k<m ->L56 w g m k=some (.leaf (vI (bif((bs w.text).drop k).all qch then 0 else 5),[]))
 |0,k,_,h=>by omega|m+1,k,hk,h=>by
  rw[st56];by_cases hlt:k<w.text.size
  ·have hl:k<(bs w.text).length:=by rw[Pp];exact hlt
   rw[Qh _ _ hl];simp only[lt1 hlt,ge0,tn,Bool.and_self,za];rw[nx hlt hs,lp56 w g hs m (k+1) (by omega) (by omega)];unfold qch;cases decide ((((bs w.text).getD k 0).toNat:Int)<32)<;>cases decide ((((bs w.text).getD k 0).toNat:Int)>126)<;>cases((((bs w.text).getD k 0).toNat:Int)==34)<;>rfl
  ·rw[lt0 hlt,zl (by rw[Pp];omega)];rfl
theorem c56(w:Wd)(hs:w.text.size<=9223372036854775807):CX prog 234 [aWd w] [] (vI (cwd w)) []:=by
 refine Am ok56 func234 b56 rfl ((ev56 w (w.text.size+1)).trans ?_);have hl:=lp56 w (w.text.size+1) hs (w.text.size+1) 0 (by omega) (by omega);have hl':L56 w (w.text.size+1) (w.text.size+1) 0=_:=hl;have hsz:decide (w.text.size<=sB)=true:=zk hs;rw[hl',hsz];unfold cwd quot;simp only[zq,za];cases decide ((w.text.size:Int)>120)<;>cases w.q<;>cases(bs w.text).all qch<;>cases Da w.text<;>rfl
theorem ok51:B4 prog (o51 opn cwd):=Orc.cons_ok (Orc.cons_ok (Orc.nil_ok _) (Va decWd_ok fun w h=>c56 w (by unfold sB at h;simpa using h))) (Fq decWd_ok c55)
theorem lp51(x:It)(g:Nat)(hw:okWs x.words=true): ∀(m k:Nat),k<=x.words.length ->x.words.length -k<m ->L51 opn cwd x g m k=some (.leaf (vI (Zc x (cws (x.words.drop k))),[]))
 |0,k,_,h=>by omega|m+1,k,hk,h=>by
  rw[st51];by_cases hlt:k<x.words.length
  ·have hsz:decide ((x.words.getD k w0).text.size<=sB)=true:=zk (wsz hw hlt);simp only[lt1 hlt,ge0,tn,Bool.and_self,za,hsz];rw[nx hlt (Lm hw),lp51 x g hw m (k+1) (by omega) (by omega),Cq x.words w0 hlt];show(bif cwd (x.words.getD k w0) !=0 then some (T.leaf (vI (cwd (x.words.getD k w0)),([]:Hp)))else _)=_;simp only[cws,Zc];cases hc:(cwd (x.words.getD k w0) !=0)with
   |true=>simp only[za,hc]|false=>rfl
  ·rw[lt0 hlt,zl];unfold Zc cws;cases x.block<;>cases decide ((x.kids.length:Int)>0)<;>rfl
theorem c51(x:It)(hw:okWs x.words=true):CX prog 219 [aT x] [] (vI (Dd x)) []:=by
 refine Am ok51 func219 b51 rfl ((ev51 opn cwd x (x.words.length+1)).trans ?_);have hl:=lp51 x (x.words.length+1) hw (x.words.length+1) 0 (by omega) (by omega);have hl':L51 opn cwd x (x.words.length+1) (x.words.length+1) 0=_:=hl;rw[hl'];unfold Dd Zc;cases h0:((x.words.length:Int)==0)with
 |true=>rfl|false=>
  have hne:x.words.length≠0:=fun e=>by rw[e]at h0;simp at h0
  have hp:(decide ((0:Int)<=0)&&decide ((0:Int)<(x.words.length:Int)))=true:=by rw[zk (show(0:Int)<(x.words.length:Int)by omega)];rfl
  rw[hp];simp only[zb,za,zq];show(bif !opn (x.words.getD 0 w0)then _ else _)=_;cases opn (x.words.getD 0 w0)<;>cases decide ((x.words.length:Int)>40)<;>cases(cws x.words !=0)<;>rfl
def chR:List It ->Int ->Int ->Int×Int
 |[],_,n=>(0,n)| .mk a w b k::r,d,n=>
  bif decide (n>=600)then(3,n)else bif decide (d>4)then(17,n)else
   bif Dd (.mk a w b k) !=0 then(Dd (.mk a w b k),wrap IntKind.i64 (n+1))else
    bif(chR k (wrap IntKind.i64 (d+1)) (wrap IntKind.i64 (n+1))).1 !=0 then chR k (wrap IntKind.i64 (d+1)) (wrap IntKind.i64 (n+1))else
     chR r d (chR k (wrap IntKind.i64 (d+1)) (wrap IntKind.i64 (n+1))).2
theorem Aba(x:It)(r:List It)(d n:Int):chR (x::r) d n=bif decide (n>=600)then(3,n)else bif decide (d>4)then(17,n)else
 bif Dd x !=0 then(Dd x,wrap IntKind.i64 (n+1))else
  bif(chR x.kids (wrap IntKind.i64 (d+1)) (wrap IntKind.i64 (n+1))).1 !=0 then chR x.kids (wrap IntKind.i64 (d+1)) (wrap IntKind.i64 (n+1))else
   chR r d (chR x.kids (wrap IntKind.i64 (d+1)) (wrap IntKind.i64 (n+1))).2:=by cases x;simp only[chR,It.kids]
def eR(x:D)(d n:Int):Int:=(chR (theI x) d n).1
def nR(x:D)(d n:Int):Int:=(chR (theI x) d n).2
theorem lp38(N:Nat)(l:List It)(d:Int)(g:Nat)(hN:dep l<=N)(hL:okL l=true): ∀(m k:Nat) (n:Int),k<=l.length ->l.length -k<m ->
  L38 ciP (cc N) eR nR l d g m n k=some (.leaf (.tup [pI (chR (l.drop k) d n).2,pI (chR (l.drop k) d n).1],[]))
 |0,k,n,_,h=>by omega|m+1,k,n,hk,h=>by
  rw[st38];by_cases hlt:k<l.length
  ·have hd:=Jm l k hlt;obtain⟨ho,hw⟩:=Kx hL hlt;have hdd:decide (dep (l.getD k i0).kids<N)=true:=zk;simp only[lt1 hlt,ge0,tn,Bool.and_self,za,cc,eR,nR,ciP,Wf,Sq,Py,Fb,ho,hw,hdd];rw[nx hlt (Kw hL),lp38 N l d g hN hL m (k+1) _ (by omega) (by omega),Cq l i0 hlt,Aba];rw[<-It.eta (l.getD k i0)];cases decide (n>=600)with
   |true=>rfl|false=>
    cases decide (d>4)with
    |true=>rfl|false=>
     cases hc:(Dd (l.getD k i0) !=0)with
     |true=>rfl|false=>
      cases he:((chR (l.getD k i0).kids (wrap IntKind.i64 (d+1)) (wrap IntKind.i64 (n+1))).1 !=0)with
      |true=>simp only[zb,za]|false=>rfl
  ·rw[lt0 hlt,zl];simp only[zb,chR]
theorem Abl{N:Nat}(hc: ∀(l:List It) (d n:Int),dep l<N ->okL l=true ->CX prog 155 [aI l,vI d,vI n] [] (.tup [pI (chR l d n).2,pI (chR l d n).1]) []):
  ∀(R:Type) args H (k:AV ->Hp ->Option (T R)) t,(match H,args with|[],[.c (.d x), .c (.d (.v (.int .i64 d))), .c (.d (.v (.int .i64 n)))]=>bif cc N x then k (.tup [pI (nR x d n),pI (eR x d n)]) []else none|_,_=>none)=some t -> ∃x H',k x H'=some t/\CX prog 155 args H x H':=fun R args H k t h=>by
 split at h
 ·rename_i x d n;cases hx:cc N x with
  |false=>rw[hx]at h;cases h|true=>
   rw[hx]at h;unfold cc at hx;simp only[zd,zi]at hx;exact⟨_,_,h,(hc (theI x) d n hx.2 hx.1.2).ge (.cons (Pt (Hv hx.1.1)) (.refl _)) (.refl _)⟩
 ·simp at h
theorem c38: ∀(N:Nat) (l:List It) (d n:Int),dep l<N ->okL l=true ->CX prog 155 [aI l,vI d,vI n] [] (.tup [pI (chR l d n).2,pI (chR l d n).1]) []
 |0,l,d,n,h,_=>by omega|N+1,l,d,n,h,hL=>by
  have ho:B4 prog (o38 ciP (cc N) eR nR):=Orc.cons_ok (Orc.cons_ok (Orc.nil_ok _) (Abl (c38 N))) (Agx c51);refine Am ho func155 b38 rfl ((ev38 ciP (cc N) eR nR l d (l.length+1) n).trans ?_);exact lp38 N l d (l.length+1) (by omega) hL (l.length+1) 0 n (by omega) (by omega)
theorem Anb(N:Nat): ∀(l:List It) (d n:Int),dep l<N ->0<=n ->n<=600 ->(chP l d n).1=(chR l d n).1/\((chP l d n).1=0 ->(chP l d n).2=(chR l d n).2/\0<=(chP l d n).2/\(chP l d n).2<=600):=by
 induction N with
 |zero=>intro l d n h;omega|succ N ih=>
  intro l;induction l with
  |nil=>intro d n _ h0 h1;simp only[chP,chR];exact⟨trivial,fun _=>⟨trivial,h0,h1⟩⟩
  |cons x r ihr=>
   intro d n hd h0 h1;have hdk:dep x.kids<N:=by cases x;simp only[dep,It.kids]at hd⊢;omega
   have hdr:dep r<N+1:=by cases x;simp only[dep]at hd;omega
   rw[Mf,Aba];have hw:wrap IntKind.i64 (n+1)=n+1:=wd.wrap_id (by omega) (by omega);rw[hw];have ht:decide (n+1>600)=decide (n>=600):=by rw[Bool.eq_iff_iff];simp;omega
   rw[ht];cases h6:decide (n>=600)with
   |true=>exact⟨rfl,fun he=>by simp at he⟩
   |false=>
    have hlt:n<600:=by simpa using h6
    cases decide (d>4)with
    |true=>exact⟨rfl,fun he=>by simp at he⟩
    |false=>
     cases hc:(Dd x !=0)with
     |true=>exact⟨rfl,fun he=>by simp only[zb,za]at he;rw[he]at hc;simp at hc⟩
     |false=>
      obtain⟨k1,k2⟩:=ih x.kids (wrap IntKind.i64 (d+1)) (n+1) hdk (by omega) (by omega);simp only[zb];rw[<-k1];cases he:((chP x.kids (wrap IntKind.i64 (d+1)) (n+1)).1 !=0)with
      |true=>exact⟨k1,fun h=>by simp only[za]at h;rw[h]at he;simp at he⟩
      |false=>
       have h0':(chP x.kids (wrap IntKind.i64 (d+1)) (n+1)).1=0:=by simpa using he
       obtain⟨e1,e2,e3⟩:=k2 h0';simp only[zb];rw[<-e1];exact ihr d _ hdr e2 e3
theorem c18(l:List It)(hL:okL l=true):CX prog 96 [aI l] [] (vI (chk l)) []:=by
 have ho:B4 prog (o18 (cc (dep l+1)) eR nR):=Orc.cons_ok (Orc.nil_ok _) (Abl (c38 (dep l+1)));refine Am ho func96 b18 rfl ((ev18 (cc (dep l+1)) eR nR l).trans ?_);simp only[cc,eR,Gj,C3,hL,Bool.true_and];rw[zk (Nat.lt_succ_self _)];unfold chk;rw[(Anb (dep l+1) l 0 0 (Nat.lt_succ_self _) (by omega) (by omega)).1];rfl
end Go.Y.ck
namespace Go.Y.fo
open Go.RowKit Go.Eb
open Go.Y.wd hiding wrap_id
open Go.Y.bu (src)
open Go.Y.ck (Cq)
def rep:Nat ->BA
 |0=> .empty|n+1=>rep n++sp2
theorem Aap: ∀n,(rep n).size=2*n
 |0=>rfl|n+1=>by have e:sp2.size=2:=rfl;rw[rep,Al,Aap n,e];omega
def cR(N:Nat)(x:D)(d:Int):Bool:=okI x&&okL (theI x)&&decide (dep (theI x)<N)&&decide (0<=d)&&decide (d+dep (theI x)<=1000)&&decide ((fmt (rep d.toNat) (theI x)).size<=9223372036854775807)
def fR(x:D)(d:Int):BA:=fmt (rep d.toNat) (theI x)
abbrev q1:BA:=ByteArray.mk #[34]
theorem AhH{w:Wd}(h:w.q=true):src w=q1++(w.text++q1):=by unfold bu.src;rw[h];simp only[za,D0]
theorem AhI{w:Wd}(h:w.q=false):src w=w.text:=by unfold bu.src;rw[h];rfl
theorem in39(N:Nat)(l:List It)(d:Nat)(g m i:Nat)(hi:i<l.length)(hl:l.length<=9223372036854775807)(hw:okWs (l.getD i i0).words=true)(hk:okL (l.getD i i0).kids=true)(hd:dep (l.getD i i0).kids<N)(hdd:d+dep (l.getD i i0).kids+1<=1000):
  ∀(m1 j:Nat) (b:BA),j<=(l.getD i i0).words.length ->(l.getD i i0).words.length -j<m1 ->b.size+(wtx (decide ((j:Int)>0)) ((l.getD i i0).words.drop j)).size+(tl (rep d) (l.getD i i0)).size<=9223372036854775807 ->
   I39 (cR N) fR l d (rep d) g m m1 b i j=L39 (cR N) fR l d (rep d) g m (b++(wtx (decide ((j:Int)>0)) ((l.getD i i0).words.drop j)++tl (rep d) (l.getD i i0))) ((i+1:Nat):Int)
 |0,j,b,_,h,_=>by omega|m1+1,j,b,hj,h,hb=>by
  rw[si39];simp only[tn,lt1 hi,ge0,Bool.and_self,za];generalize hx:l.getD i i0=x at hw hk hd hdd hj h hb⊢;have e0:ByteArray.empty.size=0:=rfl;have e1:sp1.size=1:=rfl;have e2:q1.size=1:=rfl;by_cases hlt:j<x.words.length
  ·rw[Cq x.words w0 hlt]at hb⊢;simp only[lt1 hlt,Bool.and_self,za];generalize hwd:x.words.getD j w0=w at hb⊢;simp only[wtx,Al]at hb;rw[nx hlt (Lm hw)];have ih:=fun b'=>in39 N l d g m i hi hl (by rw[hx];exact hw) (by rw[hx];exact hk) (by rw[hx];exact hd) (by rw[hx];exact hdd) m1 (j+1) b' (by rw[hx];omega) (by rw[hx];omega)
   rw[hx,gt0]at ih;cases j with
   |zero=>
    simp only[gt00,zb,Nat.zero_add,e0]at hb ih⊢;cases hq:w.q with
    |true=>
     rw[AhH hq]at hb;simp only[Al,e2]at hb;simp only[za];rw[zk (show b.size+q1.size<=9223372036854775807 by rw[e2];omega),zk (show(b++q1).size+w.text.size<=9223372036854775807 by simp only[Al,e2];omega),zk (show(b++q1++w.text).size+q1.size<=9223372036854775807 by simp only[Al,e2];omega),za,za,za];rw[ih _ (by simp only[Al,e2];omega)];simp only[wtx,zb,Mz,D0,AhH hq]
    |false=>
     rw[AhI hq]at hb;simp only[zb];rw[zk (show b.size+w.text.size<=9223372036854775807 by omega),za];rw[ih _ (by simp only[Al];omega)];simp only[wtx,zb,Mz,D0,AhI hq]
   |succ j=>
    simp only[gt0,za]at hb⊢;rw[e1]at hb;rw[zk (show b.size+sp1.size<=9223372036854775807 by rw[e1];omega),za];cases hq:w.q with
    |true=>
     rw[AhH hq]at hb;simp only[Al,e2]at hb;simp only[za];rw[zk (show(b++sp1).size+q1.size<=9223372036854775807 by simp only[Al,e1,e2];omega),zk (show(b++sp1++q1).size+w.text.size<=9223372036854775807 by simp only[Al,e1,e2];omega),zk (show(b++sp1++q1++w.text).size+q1.size<=9223372036854775807 by simp only[Al,e1,e2];omega),za,za,za];rw[ih _ (by simp only[Al,e1,e2];omega)];simp only[wtx,za,D0,AhH hq]
    |false=>
     rw[AhI hq]at hb;simp only[zb];rw[zk (show(b++sp1).size+w.text.size<=9223372036854775807 by simp only[Al,e1];omega),za];rw[ih _ (by simp only[Al,e1];omega)];simp only[wtx,za,D0,AhI hq]
  ·rw[zl]at hb⊢;simp only[wtx,e0]at hb;simp only[lt0 hlt,zb,wtx,Mz];rw[nx hi hl];unfold tl at hb⊢;cases hbl:x.block with
   |false=>
    rw[hbl]at hb;simp only[zb]at hb;rw[zk (show b.size+sc.size<=9223372036854775807 by omega)];rfl
   |true=>
    rw[hbl]at hb;simp only[za,Al]at hb;have e3:ob.size=3:=rfl;have e4:cb.size=2:=rfl;have hwd:wrap IntKind.i64 ((d:Int)+1)=((d+1:Nat):Int):=by rw[wrap_id];omega
    have hf:fR (A6 x) ((d+1:Nat):Int)=fmt (rep d++sp2) x.kids:=by unfold fR;rw[Fb,tn];rfl
    have hc:cR N (A6 x) ((d+1:Nat):Int)=true:=by
     unfold cR;rw[Py,Fb,hk,zk hd,zk (show(0:Int)<=((d+1:Nat):Int)by omega),zk (show((d+1:Nat):Int)+dep x.kids<=1000 by omega),tn,zk (show(fmt (rep (d+1)) x.kids).size<=9223372036854775807 by show(fmt (rep d++sp2) x.kids).size<=9223372036854775807;omega)];rfl
    rw[hwd,hc,hf];simp only[Bool.not_true,zb,za]
    rw[zk (show b.size + ob.size <= 9223372036854775807 by omega),zk (show(b++ob).size+(fmt (rep d++sp2) x.kids).size<=9223372036854775807 by simp only[Al];omega),
     zk (show(b++ob++fmt (rep d++sp2) x.kids).size+(rep d).size<=9223372036854775807 by simp only[Al];omega),
     zk (show(b++ob++fmt (rep d++sp2) x.kids++rep d).size+cb.size<=9223372036854775807 by simp only[Al];omega)]
    simp only[za,D0]
theorem lp39(N:Nat)(l:List It)(d g:Nat)(hN:dep l<=N)(hL:okL l=true)(hg:wmax l<g)(hd:d+dep l<=1000): ∀(m k:Nat) (b:BA),k<=l.length ->l.length -k<m ->b.size+(fmt (rep d) (l.drop k)).size<=9223372036854775807 ->
  L39 (cR N) fR l d (rep d) g m b k=some (.leaf (vS (b++fmt (rep d) (l.drop k)),[]))
 |0,k,b,_,h,_=>by omega|m+1,k,b,hk,h,hb=>by
  rw[st39];by_cases hlt:k<l.length
  ·rw[Cq l i0 hlt,E5]at hb⊢;simp only[Al]at hb;simp only[lt1 hlt,za];rw[zk (show b.size+(rep d).size<=9223372036854775807 by omega),za];obtain⟨h1,h2⟩:=Kx hL hlt;have hdg:=Jm l k hlt;have hin:=in39 N l d g m k hlt (Kw hL) h2 h1 (by omega) (by omega) g 0 (b++rep d) (by omega) (by have:=J3 l k hlt;omega);simp only[gt00,zq]at hin;have hin:=hin (by simp only[Al];omega);have hin':I39 (cR N) fR l d (rep d) g m g (b++rep d) (k:Int) 0=_:=hin;rw[hin',lp39 N l d g hN hL hg hd m (k+1) _ (by omega) (by omega) (by simp only[Al];omega)];simp only[D0]
  ·rw[lt0 hlt,zl,K3,Anp];rfl
theorem bl39(N:Nat)(l:List It)(d g:Nat)(hd:d<=1000): ∀(m k:Nat),k<=d ->d -k<m ->B39 (cR N) fR l d g m (rep k) k=L39 (cR N) fR l d (rep d) g g .empty 0
 |0,k,_,h=>by omega|m+1,k,hk,h=>by
  rw[sb39];by_cases hlt:k<d
  ·have e:sp2.size=2:=rfl;simp only[lt1 hlt,za];rw[zk (show(rep k).size+sp2.size<=9223372036854775807 by rw[Aap,e];omega),za,nx hlt];exact bl39 N l d g hd m (k+1) (by omega) (by omega)
  ·have:k=d:=by omega
   subst this;rw[lt0 hlt];rfl
theorem b39:f97.body=some (Ac f97):=by kernel_rfl
theorem b19:f37.body=some (Ac f37):=by kernel_rfl
theorem Abk{N:Nat}(hc: ∀(l:List It) (d:Nat),dep l<N ->okL l=true ->d+dep l<=1000 ->(fmt (rep d) l).size<=9223372036854775807 ->CX prog 97 [aI l,vI d] [] (vS (fmt (rep d) l)) []):B4 prog (o39 (cR N) fR):=
 Orc.cons_ok (Orc.nil_ok _) fun R args H k t h=>by
  split at h
  ·rename_i x d;cases hcc:cR N x d with
   |false=>rw[hcc]at h;cases h|true=>
    rw[hcc]at h;unfold cR at hcc;simp only[zd,zi]at hcc;have⟨⟨⟨⟨⟨p1,p2⟩,p3⟩,p4⟩,p5⟩,p6⟩:=hcc;obtain⟨dn,rfl⟩: ∃dn:Nat,d=dn:=⟨d.toNat,by omega⟩;rw[tn]at p6;have key:=(hc (theI x) dn p3 p2 (by omega) p6).ge (.cons (Pt (Hv p1)) (.refl _)) (.refl _);have e:fR x (dn:Int)=fmt (rep dn) (theI x):=by unfold fR;rw[tn]
    rw[<-e]at key;exact⟨_,_,h,key⟩
  ·simp at h
theorem c39: ∀(N:Nat) (l:List It) (d:Nat),dep l<N ->okL l=true ->d+dep l<=1000 ->(fmt (rep d) l).size<=9223372036854775807 ->CX prog 97 [aI l,vI d] [] (vS (fmt (rep d) l)) []
 |0,l,d,h,_,_,_=>by omega|N+1,l,d,h,hL,hd,hs=>by
  refine Am (Abk (c39 N)) func97 b39 rfl ((ev39 (cR N) fR l d (wmax l+l.length+d+1)).trans ?_);have h1:=bl39 N l d (wmax l+l.length+d+1) (by omega) (wmax l+l.length+d+1) 0 (by omega) (by omega);have h1':B39 (cR N) fR l d (wmax l+l.length+d+1) (wmax l+l.length+d+1) (ByteArray.mk #[]) 0=_:=h1;rw[h1'];have e0:ByteArray.empty.size=0:=rfl;have h2:=lp39 N l d (wmax l+l.length+d+1) (by omega) hL (by omega) hd (wmax l+l.length+d+1) 0 .empty (by omega) (by omega) (by rw[zq];omega);rw[zq,Mz]at h2;exact h2
theorem c19(l:List It)(hL:okL l=true):CX prog 37 [aI l] [] (vS (fmtK l)) []:=by
 have ho:B4 prog (o19 ckF okF (cR (dep l+1)) fR):=Orc.cons_ok (Abk (c39 (dep l+1))) (AgD (Akr ck.c18));refine Am ho func37 b19 rfl ((ev19 ckF okF (cR (dep l+1)) fR l).trans ?_);have e1:okF (Bf l)=true:=by unfold okF;rw[Gj,C3,hL];rfl
 rw[e1];unfold fmtK ckF;simp only[C3,za];cases hc:(ck.chk l !=0)with
 |true=>rfl|false=>
  have hs:=Qb l (by simpa using hc);have hdp:=Ana l (by simpa using hc);have e2:cR (dep l+1) (Bf l) 0=true:=by
   unfold cR;rw[Gj,C3,hL,zk (Nat.lt_succ_self _),zk (show(0:Int)<=0 by omega),zk (show(0:Int)+dep l<=1000 by omega),zk (show(fmt (rep (Int.toNat 0)) l).size<=9223372036854775807 by show(fmt .empty l).size<=9223372036854775807;omega)];rfl
  have e3:fR (Bf l) 0=fmt .empty l:=by unfold fR;rw[C3];rfl
  rw[e2,e3];rfl
end Go.Y.fo
namespace Go.Y.tb
open Go.RowKit Go.Eb Go.Y.st Go.Y.se
open Go.Y.fo (fmtK c15 c19 Qb fmt)
open Go.Y.en (RFit Y7 Apf Ape aSR rfit Aoa Aoj)
open Go.Y.de (sfit Good2 Us Wt AaI)
def pDs(p:Prop):Bool:= @decide p (Classical.propDecidable _)
theorem Es{p:Prop}:pDs p=true↔p:=by unfold pDs;simp
theorem c8'(s:SSta)(h:Bv s=true):CX prog 28 [aSta s] [] (vI (A3 s)) []:=c8 s (Ei h).2.2.2.2
theorem c12'(s:SSta)(h:Bv s=true):CX prog 31 [aSta s] [] (vI (A3 s)) []:=c12 s (Ei h).2.2.2.2
def Qo(c:SCfg):List It:=Cp c.sta++F6 c.sta c.qh
def Pq(c:SCfg):BA:=bif Eu c !=0 then .empty else fmtK (Qo c)
structure Facts (c:SCfg):Prop where
 sta:A3 c.sta=0
 rel:(Bu c.sta.qd (Bd c.sta) [] 0 c.qh).2=0
 len:c.qh.length<=20
 lrg:c.qh.any largeR=false
theorem facts{c:SCfg}(hL:Ej c=false)(h0:Eu c=0):Facts c:=by
 unfold Eu at h0;obtain⟨h1,h0⟩:=bz' h0;obtain⟨h2,_⟩:=bz' h0;unfold Ej Rb at hL;simp only[Bool.or_eq_false_iff,decide_eq_false_iff_not]at hL;exact⟨h1,h2,by omega,hL.2.2⟩
theorem Afw{c:SCfg}(F:Facts c):RFit c.sta c.qh:=rfit F.rel F.len F.lrg
theorem AoI(b:Bool)(x:It):(Bw b x).length<=1:=by cases b<;>simp[Bw]
theorem AcH(i:Int)(on fw:Bool)(x r l d:Int):(Dj i on fw x r l d).length<=1:=by cases on<;>simp[Dj]
theorem Amg(r:SRel):(C1 r).length<=12:=by
 unfold C1;simp only[List.length_append];have a1:=AcH 1 r.zon0 r.zfw0 r.zx0 r.zr0 r.zl0 r.zd0;have a2:=AcH 2 r.zon1 r.zfw1 r.zx1 r.zr1 r.zl1 r.zd1;have a3:=AcH 3 r.zon2 r.zfw2 r.zx2 r.zr2 r.zl2 r.zd2;have b:=AoI;have b1:=b (r.min !=0) (say [Pb,decI r.min,decI r.kre,decI r.kim]);have b2:=b (r.qn !=0) (say [De,Kt r.qn,decI r.wait,decI r.guard]);have b3:=b r.don (say [Dm,decI r.dpk,decI r.ddl]);have b4:=b r.ion (say [Eg,decI r.ipk,decI r.idl]);have b5:=b r.fon (say [Pc,decI r.fpk,decI r.fdl]);have b6:=b (r.qp !=0) (say [Ef,decI r.qp,decI r.dead,decI r.qo]);have b7:=b r.uon (say [Hw,decI r.upk,decI r.udl]);have b8:=b r.oon (say [Pa,decI r.opk,decI r.odl]);have b9:=b (r.diff !=0) (say [By,decI r.diff,decI r.num,decI r.den,decI r.harm]);omega
theorem Aml{r:SRel}(h:largeR r=false):(Eo r).length<=66:=by
 unfold largeR at h;simp only[Bool.or_eq_false_iff,decide_eq_false_iff_not]at h;unfold Eo;simp only[List.length_append,List.length_map];omega
theorem Agp{s:SSta}(h:A3 s=0): ∀b∈s.qd,Ag b.name=true:=fun b hb=>by
 obtain⟨k,hk,rfl⟩:=de.mem_at (d:=bay0) hb;obtain⟨_,_,_,_,_,h4⟩:=de.chk_split h;have he:=de.take_at (x0:=bay0) s.qd [] k h4 hk;unfold Jv at he;exact de.bay_nm he
theorem AbO{c:SCfg}(F:Facts c): ∀x∈Qo c,de.Good x/\x.kids.length<=600/\ ∀y∈x.kids,de.Good y/\y.kids=[]:=by
 intro x hx;rcases List.mem_append.1 hx with hx|hx
 ·have e:Cp c.sta=(.sta::de.mainT c.sta).map (de.Tg.enc c.sta):=by
   rw[List.map_cons,de.main_enc];rfl
  rw[e]at hx;obtain⟨t,ht,rfl⟩:=List.mem_map.1 hx;have g:Good2 (t.enc c.sta):=by
   rcases List.mem_cons.1 ht with rfl|ht
   ·exact AaI F.sta
   ·exact Wt F.sta t ht
  exact⟨g.1,by have:=g.2.2.1;omega,g.2.2.2⟩
 ·obtain⟨r,hr,rfl⟩:=List.mem_map.1 hx;obtain⟨k,hk,e⟩:=List.getElem_of_mem hr;have eg:c.qh.getD k rel0=r:=by rw[zh,zn hk,e];rfl
  obtain⟨N,B,ea⟩:=en.chk_all _ _ _ _ _ F.rel k hk;have hl:largeR r=false:=by
   have:=List.any_eq_false.1 F.lrg r hr;simpa using this
  rw[eg]at ea;have R:=Afw F;have nf:=R.nf k hk;have pf:=R.pf k hk;rw[eg]at nf pf;obtain⟨g1,g2⟩:=Aoa (Agp F.sta) nf (Aoj ea hl) pf;refine⟨g1, ?_,g2⟩;show(C1 r++Eo r).length<=600;have:=Amg r;have:=Aml hl;rw[List.length_append];omega
theorem Vu{c:SCfg}(F:Facts c):(Qo c).length<=60:=by
 have e:Cp c.sta=(.sta::de.mainT c.sta).map (de.Tg.enc c.sta):=by
  rw[List.map_cons,de.main_enc];rfl
 have h1:=de.main_len F.sta;have h2:=F.len;unfold Qo F6;rw[e];simp;omega
theorem Vt{c:SCfg}(F:Facts c):okL (Qo c)=true:=by
 unfold okL;have:=Vu F;rw[zk,Us _ (AbO F)];rfl
theorem AjM(a b:List It){f:RD}(hf:f=fun i=>Af (b.getD i i0)):DE (.sl 4 (a.length+b.length) (appF a.length (fun i=>Af (a.getD i i0)) f)) (Bf (a++b)):=by
 subst hf;exact(RL.cat (RL.data a) (RL.data b)).de (sz:=4)
theorem Y4{l:List It}:(fmtK l).size<=3000000:=by
 unfold fmtK;cases h:(ck.chk l !=0)with
 |true=>simp|false=>exact Qb l (by simpa using h)
theorem Vw(c:SCfg):(Pq c).size<=3000000:=by
 unfold Pq;cases(Eu c !=0)with
 |true=>simp|false=>exact Y4
def ZSv(c:SCfg)(P1 P2 P3 P4:List AV ->Prop):KSv where
 okc x:=pDs (P1 x)
 ck:=Eu c
 oks x:=pDs (P2 x)
 es:=Cp c.sta
 okr x:=pDs (P3 x)
 er:=F6 c.sta c.qh
 okf x:=pDs (P4 x)
 fm _:=fmtK (Qo c)
abbrev rowB(c:SCfg):D:= .sl 4 ((Cp c.sta).length+(F6 c.sta c.qh).length) (appF (Cp c.sta).length (fun i=>Af ((Cp c.sta).getD i i0)) fun i=>Af ((F6 c.sta c.qh).getD i i0))
def svE(Z:KSv)(c:SCfg):Option (T (AV×Hp)):=
 (bif KSv.okc Z [AV.agg (List.map C.d (cfgC c))]then(bif KSv.ck Z !=(0:Int)then some (T.leaf (AV.c (C.d (D.v (Value.string (ByteArray.mk #[])))),[]))else(bif KSv.oks Z
 [AV.agg (List.map C.d (staC (SCfg.sta c)))]then(bif KSv.okr Z [AV.agg (List.map C.d (staC (SCfg.sta c))),AV.c (C.d (Ad ((53:Nat)) relC rel0 (SCfg.qh c)))]then(bif decide
 ((List.length (KSv.es Z)+List.length (KSv.er Z))*(64:Nat)<=(140737488355328:Nat))&&decide (List.length (KSv.es Z)+List.length (KSv.er Z)<=(9223372036854775807:Nat))
 then(bif KSv.okf Z [AV.c (C.d (D.sl ((4:Nat)) (List.length (KSv.es Z)+List.length (KSv.er Z)) (appF (List.length (KSv.es Z)) (fun i=>Af (List.getD (KSv.es Z) i i0)) fun i
 =>Af (List.getD (KSv.er Z) i i0))))]then some (T.leaf (AV.c (C.d (D.v (Value.string (KSv.fm Z [AV.c (C.d (D.sl ((4:Nat)) (List.length (KSv.es Z)+List.length (KSv.er Z))
 (appF (List.length (KSv.es Z)) (fun i=>Af (List.getD (KSv.es Z) i i0)) fun i=>Af (List.getD (KSv.er Z) i i0))))])))),[]))else none)else none)else none)else none))
 else none)
theorem Ajr{c:SCfg}{P1 P2 P3 P4:List AV ->Prop}(hF:Eu c=0 ->Facts c)(h1:P1 [aCfg c])(h2:Facts c ->P2 [aSta c.sta])(h3:Facts c ->P3 (aSR c.sta c.qh))(h4:Facts c ->P4 [.c (.d (rowB c))]):
  svE (ZSv c P1 P2 P3 P4) c=some (.leaf (vS (Pq c),[])):=by
 have k1:(ZSv c P1 P2 P3 P4).okc [AV.agg (List.map C.d (cfgC c))]=true:=Es.2 h1;unfold svE;rw[k1,za];unfold Pq;cases h0:(Eu c !=0)with
 |true=>
  have e:((ZSv c P1 P2 P3 P4).ck !=0)=true:=h0;rw[e];rfl
 |false=>
  have e:((ZSv c P1 P2 P3 P4).ck !=0)=false:=h0;have F:=hF (by simpa using h0);have k2:(ZSv c P1 P2 P3 P4).oks [AV.agg (List.map C.d (staC (SCfg.sta c)))]=true:=Es.2 (h2 F);have k3:(ZSv c P1 P2 P3 P4).okr [AV.agg (List.map C.d (staC (SCfg.sta c))),AV.c (C.d (Ad 53 relC rel0 (SCfg.qh c)))]=true:=Es.2 (h3 F);have hl:=Vu F;unfold Qo at hl;rw[List.length_append]at hl;have k4:(decide (((ZSv c P1 P2 P3 P4).es.length+(ZSv c P1 P2 P3 P4).er.length)*64<=140737488355328)&&decide ((ZSv c P1 P2 P3 P4).es.length+(ZSv c P1 P2 P3 P4).er.length<=9223372036854775807))=true:=by
   show(decide (((Cp c.sta).length+(F6 c.sta c.qh).length)*64<=140737488355328)&&decide ((Cp c.sta).length+(F6 c.sta c.qh).length<=9223372036854775807))=true;rw[zk,zk];rfl
  have k5:(ZSv c P1 P2 P3 P4).okf [AV.c (C.d (D.sl 4 ((ZSv c P1 P2 P3 P4).es.length+(ZSv c P1 P2 P3 P4).er.length) (appF (ZSv c P1 P2 P3 P4).es.length (fun i=>Af ((ZSv c P1 P2 P3 P4).es.getD i i0)) fun i=>Af ((ZSv c P1 P2 P3 P4).er.getD i i0))))]=true:=Es.2 (h4 F);rw[e,k2,k3,k4,k5];rfl
theorem sSv{c:SCfg}:OrcS prog (oSv (ZSv c (fun x=>CX prog 13 x [] (vI (Eu c)) []) (fun x=>CX prog 35 x [] (.c (.row 0 4 (Cp c.sta).length)) [(0, .row (Cp c.sta).length (fun i=>Af ((Cp c.sta).getD i i0)) 4 176)])
  (fun x=>CX prog 36 x [] (.c (.d (Bf (F6 c.sta c.qh)))) []) fun x=>CX prog 34 x [] (vS (fmtK (Qo c))) [])):=
 .cons (.g fun x hx=>Es.1 hx) (.cons (.n fun x hx=>Es.1 hx) (.cons (.g fun x hx=>Es.1 hx) (.cons (.l func34 fo.b15 fun x hx=>⟨Es.1 hx,rfl⟩) .nil)))
theorem sRv{c:SCfg}:OrcS prog (oRv (ZSv c (fun x=>CX prog 12 x [] (vI (Eu c)) []) (fun x=>CX prog 38 x [] (.c (.row 0 4 (Cp c.sta).length)) [(0, .row (Cp c.sta).length (fun i=>Af ((Cp c.sta).getD i i0)) 4 176)])
  (fun x=>CX prog 39 x [] (.c (.d (Bf (F6 c.sta c.qh)))) []) fun x=>CX prog 37 x [] (vS (fmtK (Qo c))) [])):=
 .cons (.g fun x hx=>Es.1 hx) (.cons (.n fun x hx=>Es.1 hx) (.cons (.g fun x hx=>Es.1 hx) (.cons (.l func37 fo.b19 fun x hx=>⟨Es.1 hx,rfl⟩) .nil)))
section
variable {c:SCfg}(h:okCf c=true)(hL:Ej c=false)
include h hL
theorem cSav:CX prog 14 [aCfg c] [] (vS (Pq c)) []:=by
 obtain⟨h1,h2,h3⟩:=G4 h;refine Am (sSv (c:=c)).ok func14 (by kernel_rfl) rfl (Eq.trans (Aqx _ c:_=svE _ c) (Ajr (facts hL) (cTab c h hL) (fun F=> ?_) (fun F=> ?_) fun F=> ?_))
 ·exact pe.cpenR ito.cItoaN c12' c.sta h1 F.sta (sfit F.sta)
 ·have hc:=c13c c.sta c.qh h1 h2 h3;unfold Po at hc;rw[F.sta]at hc;have:=Apf (e:=Bu c.sta.qd (Bd c.sta) [] 0 c.qh) hc fun _=>Afw F
  rw[F.rel]at this;exact this
 ·exact(c15 (Qo c) (Vt F)).ge (.cons (show DE _ _ from AjM _ _ rfl) .nil) (.refl _)
theorem cRsv:CX prog 15 [aCfg c] [] (vS (Pq c)) []:=by
 obtain⟨h1,h2,h3⟩:=G4 h;have hz:cSz c.sta=true:=by
  have hL:=hL;unfold Ej Wp at hL;simp only[Bool.or_eq_false_iff,decide_eq_false_iff_not]at hL;unfold cSz;simp only[zd,zi];omega
 refine Am (sRv (c:=c)).ok func15 (by kernel_rfl) rfl (Eq.trans (Aqy _ c:_=svE _ c) (Ajr (facts hL) (cRtb c h hL) (fun F=> ?_) (fun F=> ?_) fun F=> ?_))
 ·exact de.cencR c8' c.sta h1 F.sta (sfit F.sta)
 ·have:=Ape (e:=Bu c.sta.qd (Bd c.sta) [] 0 c.qh) (cCk c.sta c.qh hz h2 h3) fun _=>Afw F
  rw[F.rel]at this;exact this
 ·exact(c19 (Qo c) (Vt F)).ge (.cons (show DE _ _ from AjM _ _ rfl) .nil) (.refl _)
end
end Go.Y.tb
namespace Go.Y.tb
open Go.RowKit Go.Eb Go.Y.st
def oDg(ok:LB)(s:BA):Orc:=Orc.cons 14 (ansG ok fun _=>vS s) Orc.nil
def AgI:Ann:=A1 [(4,⟨[3,10,11,4],[]⟩),(8,⟨[3,10,11,20,4],[]⟩)]
def Se(ok:LB)(s:BA)(c:SCfg)(g m:Nat)(i4:Int)(i11:Int):=LK prog (oDg ok s) AgI 0 g f16 4 m ⟨frm [(3, .c (.d (.v (.string s)))),(4, .c (.d (.v (Value.int u32 i4)))),(10,iA (↑(ByteArray.size s):Int)),(11,iA i11)] 0 f16.ntmps,[],0⟩
def Kq(ok:LB)(s:BA)(c:SCfg)(g mo m:Nat)(i4:Int)(i11:Int)(i20:Int):=LK2 prog (oDg ok s) AgI 0 g f16 4 mo 8 m ⟨frm [(3, .c (.d (.v (.string s)))),(4, .c (.d (.v (Value.int u32 i4)))),(10,iA (↑(ByteArray.size s):Int)),(11,iA i11),(20,iA i20)] 0 f16.ntmps,[],0⟩
theorem bdig:f16.body=some (Ac f16):=by kernel_rfl
theorem AqY(ok:LB)(s:BA)(c:SCfg)(g:Nat):Ai prog (oDg ok s) AgI g f16 (Ac f16) [aCfg c] []=
 (bif ok [gA (cfgC c)]then Se ok s c g g 4294967295 0 else none):=by kernel_rfl
theorem Adx(ok:LB)(s:BA)(c:SCfg)(g m:Nat)(i4:Int)(i11:Int):Se ok s c g (m+1) i4 i11=
 (bif decide (i11<(↑(ByteArray.size s):Int))then(bif decide (0<=i11)&&decide (i11<(↑(ByteArray.size s):Int))then Kq ok s c g m g (wrap u32
 (↑(BitVec.toNat (BitVec.ofInt (IntKind.bits u32) i4^^^BitVec.ofInt (IntKind.bits u32) (wrap u32 (↑(UInt8.toNat ((Array.toList (ByteArray.data
 s)).getD i11.toNat 0)):Int)))):Int)) i11 0 else none)else some (T.leaf (.c (.d (.v (Value.int u32 (wrap u32 (↑(BitVec.toNat (BitVec.ofInt
 (IntKind.bits u32) (if IntKind.signed u32=true then(-1)else IntKind.max u32)^^^BitVec.ofInt (IntKind.bits u32) i4)):Int))))),[]))):=by kernel_rfl
theorem Alx(ok:LB)(s:BA)(c:SCfg)(g mo m:Nat)(i4:Int)(i11:Int)(i20:Int):Kq ok s c g mo (m+1) i4 i11 i20=
 (bif decide (i20<8)then(bif wrap u32 (↑(BitVec.toNat (BitVec.ofInt (IntKind.bits u32) i4&&&BitVec.ofInt (IntKind.bits u32) 1)):Int) !=0
 then Kq ok s c g mo m (wrap u32 (↑(BitVec.toNat (BitVec.ofInt (IntKind.bits u32) (Int.fdiv i4 (2^min (Int.toNat 1) (IntKind.bits u32)))^^^
 BitVec.ofInt (IntKind.bits u32) 3988292384)):Int)) i11 (wrap .i64 (i20+1))else Kq ok s c g mo m (Int.fdiv i4 (2^min (Int.toNat 1) (IntKind.bits
 u32))) i11 (wrap .i64 (i20+1)))else Se ok s c g mo i4 (wrap IntKind.i64 (i11+1))):=by kernel_rfl
def AgE:Ann:=A1 [(3,⟨[0,4,3],[]⟩),(7,⟨[0,4,5,3],[]⟩)]
def Ry(s:BA)(g m:Nat)(i3:Int)(i4:Int):=LK prog Orc.nil AgE 0 g f40 3 m ⟨frm [(0, .c (.d (.sl 1 (ByteArray.size s) (strF s)))),(3, .c (.d (.v (Value.int u32 i3)))),(4,iA i4)] 0 f40.ntmps,[],0⟩
def Ko(s:BA)(g mo m:Nat)(i3:Int)(i4:Int)(i5:Int):=LK2 prog Orc.nil AgE 0 g f40 3 mo 7 m ⟨frm [(0, .c (.d (.sl 1 (ByteArray.size s) (strF s)))),(3, .c (.d (.v (Value.int u32 i3)))),(4,iA i4),(5,iA i5)] 0 f40.ntmps,[],0⟩
theorem bsum:f40.body=some (Ac f40):=by kernel_rfl
theorem Aqt(s:BA)(g:Nat):Ai prog Orc.nil AgE g f40 (Ac f40) [.c (.d (.sl 1 s.size (strF s)))] []=
 Ry s g g 4294967295 0:=by kernel_rfl
theorem AcU(s:BA)(g m:Nat)(i3:Int)(i4:Int):Ry s g (m+1) i3 i4=
 (bif decide (i4<(↑(ByteArray.size s):Int))then(bif decide (0<=i4)&&decide (i4<(↑(ByteArray.size s):Int))then Ko s g m g (wrap u32 (↑(BitVec.toNat
 (BitVec.ofInt (IntKind.bits u32) i3^^^BitVec.ofInt (IntKind.bits u32) (wrap u32 (↑(UInt8.toNat ((Array.toList (ByteArray.data s)).getD i4.toNat
 0)):Int)))):Int)) i4 0 else none)else some (T.leaf (.c (.d (.v (Value.int u32 (wrap u32 (↑(BitVec.toNat (BitVec.ofInt (IntKind.bits u32)
 (if IntKind.signed u32=true then(-1)else IntKind.max u32)^^^BitVec.ofInt (IntKind.bits u32) i3)):Int))))),[]))):=by kernel_rfl
theorem Alj(s:BA)(g mo m:Nat)(i3:Int)(i4:Int)(i5:Int):Ko s g mo (m+1) i3 i4 i5=
 (bif decide (i5<8)then(bif wrap u32 (↑(BitVec.toNat (BitVec.ofInt (IntKind.bits u32) i3&&&BitVec.ofInt (IntKind.bits u32) 1)):Int)==1 then
 Ko s g mo m (wrap u32 (↑(BitVec.toNat (BitVec.ofInt (IntKind.bits u32) (Int.fdiv i3 (2^min (Int.toNat 1) (IntKind.bits u32)))^^^BitVec.ofInt
 (IntKind.bits u32) 3988292384)):Int)) i4 (wrap .i64 (i5+1))else Ko s g mo m (Int.fdiv i3 (2^min (Int.toNat 1) (IntKind.bits u32))) i4 (wrap
 .i64 (i5+1)))else Ry s g mo i3 (wrap .i64 (i4+1))):=by kernel_rfl
def oRdg(ok ok2:LB)(s:BA)(n:Int):Orc:=Orc.cons 15 (ansG ok fun _=>vS s) (Orc.cons 40 (ansG ok2 fun _=> .c (.d (.v (.int .u32 n)))) Orc.nil)
theorem AqG(ok ok2:LB)(s:BA)(n:Int)(c:SCfg):Ai prog (oRdg ok ok2 s n) na 1 f17 (Ac f17) [aCfg c] []=
 (bif ok [gA (cfgC c)]then(bif ok2 [.c (.d (.sl (1) (ByteArray.size s) (strF s)))]then some (T.leaf (.c (.d (.v (Value.int u32 n))),[]))else
 none)else none):=by kernel_rfl
def xorB(x:Int)(b:UInt8):Int:=wrap u32 (↑(BitVec.toNat (BitVec.ofInt (IntKind.bits u32) x^^^BitVec.ofInt (IntKind.bits u32) (wrap u32 (↑(UInt8.toNat b):Int)))):Int)
def lowI(x:Int):Int:=wrap u32 (↑(BitVec.toNat (BitVec.ofInt (IntKind.bits u32) x&&&BitVec.ofInt (IntKind.bits u32) (1:Int))):Int)
def hiI(x:Int):Int:=Int.fdiv x ((2:Int)^min (Int.toNat (1:Int)) (IntKind.bits u32))
def hiX(x:Int):Int:=wrap u32 (↑(BitVec.toNat (BitVec.ofInt (IntKind.bits u32) (hiI x)^^^BitVec.ofInt (IntKind.bits u32) (3988292384:Int))):Int)
def finI(x:Int):Int:=wrap u32 (↑(BitVec.toNat (BitVec.ofInt (IntKind.bits u32) (if IntKind.signed u32=true then(-1:Int)else IntKind.max u32)^^^BitVec.ofInt (IntKind.bits u32) x)):Int)
def bitS(x:Int):Int:=bif lowI x !=0 then hiX x else hiI x
theorem AoC(x:Int):lowI x=0\/lowI x=1:=by
 unfold lowI;rw[BitVec.toNat_and,show(BitVec.ofInt (IntKind.bits u32) (1:Int)).toNat=1 from rfl,Nat.and_one_is_mod];rcases Nat.mod_two_eq_zero_or_one (BitVec.ofInt (IntKind.bits u32) x).toNat with h|h<;>rw[h]
 ·exact .inl rfl
 ·exact .inr rfl
theorem AoB(x:Int):(lowI x==1)=(lowI x !=0):=by
 rcases AoC x with h|h<;>rw[h]<;>rfl
def Anl:Nat ->Int ->Int
 |0,x=>x|n+1,x=>Anl n (bitS x)
def crc:List UInt8 ->Int ->Int
 |[],x=>x|b::t,x=>crc t (Anl 8 (xorB x b))
def dgS(s:BA):Int:=finI (crc s.data.toList 4294967295)
theorem U4{ρ:Type}{L4:Nat ->Int ->Int ->ρ}{L8:Nat ->Nat ->Int ->Int ->Int ->ρ}{K:Int ->ρ}{l:List UInt8}{g:Nat}(hg:8<g)(hl:l.length<=9223372036854775807)
  (h4: ∀m x (k:Nat),k<l.length ->L4 (m+1) x k=L8 m g (xorB x (l.getD k 0)) k 0) (he: ∀m x,L4 (m+1) x l.length=K x)
  (h8: ∀mo m x i j,L8 mo (m+1) x i j=bif decide (j<8)then L8 mo m (bitS x) i (wrap IntKind.i64 (j+1))else L4 mo x (wrap IntKind.i64 (i+1))):
  ∀(m k:Nat) (x:Int),k<=l.length ->l.length -k<m ->L4 m x k=K (crc (l.drop k) x)
 |0,k,x,_,h=>by omega|m+1,k,x,hk,h=>by
  have b8: ∀(n j:Nat) (y:Int),j<=8 ->8 -j<n ->L8 m n y k (j:Nat)=L4 m (Anl (8 -j) y) (wrap IntKind.i64 ((k:Int)+1)):=by
   intro n;induction n with
   |zero=>intro j y _ h;omega|succ n ih=>
    intro j y hj hn;rw[h8];by_cases hlt:j<8
    ·rw[show decide ((j:Int)<8)=true from zk,za,nx hlt,ih (j+1) _ (by omega) (by omega),show 8 -j=(8 -(j+1))+1 by omega];rfl
    ·obtain rfl:j=8:=by omega
     rfl
  by_cases hlt:k<l.length
  ·have e:=b8 g 0 (xorB x (l.getD k 0)) (by omega) (by omega);have e:L8 m g (xorB x (l.getD k 0)) k 0=_:=e;rw[h4 m x k hlt,e,nx hlt hl,U4 hg hl h4 he h8 m (k+1) _ (by omega) (by omega),Av (d:=(0:UInt8)) hlt];rfl
  ·obtain rfl:k=l.length:=by omega
   rw[he,zl];rfl
def pDx(p:Prop):Bool:= @decide p (Classical.propDecidable _)
theorem Mr{p:Prop}:pDx p=true↔p:=by unfold pDx;simp
theorem cDig{c:SCfg}{s:BA}(hs:s.size<=9223372036854775807)(h:CX prog 14 [aCfg c] [] (vS s) []):CX prog 16 [aCfg c] [] (v32 (dgS s)) []:=by
 obtain⟨ok,eok⟩: ∃ok:LB,ok=fun x=>pDx (CX prog 14 x [] (vS s) []):=⟨_,rfl⟩
 have ho:OrcS prog (oDg ok s):= .cons (.g fun x hx=>by rw[eok]at hx;exact Mr.1 hx) .nil;have k1:ok [AV.agg (List.map C.d (cfgC c))]=true:=by rw[eok];exact Mr.2 h
 obtain⟨g,hg⟩: ∃g,s.size+8<g:=⟨s.size+9,by omega⟩;have ev:=AqY ok s c g;rw[k1,za]at ev;refine Am ho.ok func16 bdig rfl (ev.trans ?_);have key:=U4 (L4:=fun m x i=>Se ok s c g m x i) (L8:=fun mo m x i j=>Kq ok s c g mo m x i j) (K:=fun x=>some (.leaf (v32 (finI x),[]))) (l:=s.data.toList) (g:=g) (by omega) hs
  (fun m x k hk=>by
    have hk':k<s.size:=hk;have e:Se ok s c g (m+1) x k=(bif decide ((k:Int)<(s.size:Int))then(bif decide ((0:Int)<=(k:Int))&&decide ((k:Int)<(s.size:Int))then Kq ok s c g m g (xorB x (s.data.toList.getD (Int.toNat (k:Int)) 0)) k 0 else none)else some (.leaf (v32 (finI x),[]))):=Adx ok s c g m x k;rw[e,lt1 hk',ge0,tt,tn,za,za])
  (fun m x=>by
    have e:Se ok s c g (m+1) x (s.size:Nat)=(bif decide (((s.size:Nat):Int)<(s.size:Int))then(bif decide ((0:Int)<=((s.size:Nat):Int))&&decide (((s.size:Nat):Int)<(s.size:Int))then Kq ok s c g m g (xorB x (s.data.toList.getD (Int.toNat ((s.size:Nat):Int)) 0)) (s.size:Nat) 0 else none)else some (.leaf (v32 (finI x),[]))):=Adx ok s c g m x (s.size:Nat);rw[lt0 (zp _),zb]at e;exact e)
  (fun mo m x i j=>by
    have e:Kq ok s c g mo (m+1) x i j=(bif decide (j<8)then(bif lowI x !=0 then Kq ok s c g mo m (hiX x) i (wrap IntKind.i64 (j+1))else Kq ok s c g mo m (hiI x) i (wrap IntKind.i64 (j+1)))else Se ok s c g mo x (wrap IntKind.i64 (i+1))):=Alx ok s c g mo m x i j;rw[e];unfold bitS;cases(lowI x !=0)with
    |true=>rw[za,za]|false=>rw[zb,zb]) g 0 4294967295 (Nat.zero_le _) (by have:s.data.toList.length=s.size:=rfl;omega)
 exact key
theorem cSum(s:BA)(hs:s.size<=9223372036854775807):CX prog 40 [.c (.d (.sl 1 s.size (strF s)))] [] (v32 (dgS s)) []:=by
 obtain⟨g,hg⟩: ∃g,s.size+8<g:=⟨s.size+9,by omega⟩;refine Am (Orc.nil_ok _) func40 bsum rfl ((Aqt s g).trans ?_);have key:=U4 (L4:=fun m x i=>Ry s g m x i) (L8:=fun mo m x i j=>Ko s g mo m x i j) (K:=fun x=>some (.leaf (v32 (finI x),[]))) (l:=s.data.toList) (g:=g) (by omega) hs
  (fun m x k hk=>by
    have hk':k<s.size:=hk;have e:Ry s g (m+1) x k=(bif decide ((k:Int)<(s.size:Int))then(bif decide ((0:Int)<=(k:Int))&&decide ((k:Int)<(s.size:Int))then Ko s g m g (xorB x (s.data.toList.getD (Int.toNat (k:Int)) 0)) k 0 else none)else some (.leaf (v32 (finI x),[]))):=AcU s g m x k;rw[e,lt1 hk',ge0,tt,tn,za,za])
  (fun m x=>by
    have e:Ry s g (m+1) x (s.size:Nat)=(bif decide (((s.size:Nat):Int)<(s.size:Int))then(bif decide ((0:Int)<=((s.size:Nat):Int))&&decide (((s.size:Nat):Int)<(s.size:Int))then Ko s g m g (xorB x (s.data.toList.getD (Int.toNat ((s.size:Nat):Int)) 0)) (s.size:Nat) 0 else none)else some (.leaf (v32 (finI x),[]))):=AcU s g m x (s.size:Nat);rw[lt0 (zp _),zb]at e;exact e)
  (fun mo m x i j=>by
    have e:Ko s g mo (m+1) x i j=(bif decide (j<8)then(bif lowI x==1 then Ko s g mo m (hiX x) i (wrap IntKind.i64 (j+1))else Ko s g mo m (hiI x) i (wrap IntKind.i64 (j+1)))else Ry s g mo x (wrap IntKind.i64 (i+1))):=Alj s g mo m x i j;rw[e,AoB];unfold bitS;cases(lowI x !=0)with
    |true=>rw[za,za]|false=>rw[zb,zb]) g 0 4294967295 (Nat.zero_le _) (by have:s.data.toList.length=s.size:=rfl;omega)
 exact key
theorem cRdg{c:SCfg}{s:BA}(hs:s.size<=9223372036854775807)(h:CX prog 15 [aCfg c] [] (vS s) []):CX prog 17 [aCfg c] [] (v32 (dgS s)) []:=by
 obtain⟨ok,eok⟩: ∃ok:LB,ok=fun x=>pDx (CX prog 15 x [] (vS s) []):=⟨_,rfl⟩
 obtain⟨ok2,eok2⟩: ∃ok:LB,ok=fun x=>pDx (CX prog 40 x [] (v32 (dgS s)) []):=⟨_,rfl⟩
 have ho:OrcS prog (oRdg ok ok2 s (dgS s)):= .cons (.g fun x hx=>by rw[eok]at hx;exact Mr.1 hx) (.cons (.g fun x hx=>by rw[eok2]at hx;exact Mr.1 hx) .nil);have k1:ok [AV.agg (List.map C.d (cfgC c))]=true:=by rw[eok];exact Mr.2 h
 have k2:ok2 [AV.c (C.d (D.sl 1 s.size (strF s)))]=true:=by rw[eok2];exact Mr.2 (cSum s hs)
 refine Am ho.ok func17 (by kernel_rfl) rfl ((AqG ok ok2 s (dgS s) c).trans ?_);rw[k1,k2];rfl
end Go.Y.tb
namespace Go.Eb
open Go.RowKit
def Jn(P:Program)(ann:FuncId ->Ann)(sel fz:FuncId ->Bool)(pre:Orc)(fuel:Nat):Nat ->Orc
 |0=>pre|n+1=>fun _ f args H k=>bif sel f then pre _ f args H k else(match P.funcs[f]? with
  |some fn=>(match fn.body with
   |some c=>bif seqN 0 H then(match Fu P (Jn P ann sel fz pre fuel n) (ann f) fuel fn c args H (fun x H'=>some (.leaf (x,H')))with
    |some t=>(match join 40 t with
     |some (x,H')=>bif fz f&&H.isEmpty then(match frzA H' x with
      |some y=>k y []|none=>none)else k x H'
     |none=>none)
    |none=>none)else none
   |none=>pre _ f args H k)
  |none=>none)
theorem Ck(P:Program)(ann:FuncId ->Ann)(sel fz:FuncId ->Bool){pre:Orc}(ht:B4 P pre)(fuel:Nat): ∀n,B4 P (Jn P ann sel fz pre fuel n)
 |0=>ht|n+1=>fun R f args H k t h=>by
  simp only[Jn]at h;cases hsel:sel f with
  |true=>rw[hsel]at h;exact ht R f args H k t h|false=>
   rw[hsel]at h;simp only[zb]at h;split at h
   ·rename_i fn hf;split at h
    ·rename_i c hb;cases hs:seqN 0 H with
     |false=>rw[hs]at h;cases h|true=>
      rw[hs]at h;simp only[za]at h;split at h
      ·rename_i t' ht';rw[Abc]at ht';split at h
       ·rename_i x H' hj;have hcr:=AiP (Ck P ann sel fz ht fuel n) hf hb hs ht' (Yx hj);cases hz:(fz f&&H.isEmpty)with
        |false=>rw[hz]at h;exact⟨x,H',h, .of_cr hf hb hcr⟩|true=>
         rw[hz]at h;simp only[za]at h;simp only[zd,List.isEmpty_iff]at hz;obtain⟨_,rfl⟩:=hz;split at h
         ·rename_i y hy;exact⟨y,[],h, .of_cr hf hb (hcr.data hy)⟩
         ·cases h
       ·simp at h
      ·simp at h
    ·exact ht R f args H k t h
   ·simp at h
def frzQ(t:Option (T (AV×Hp))):Option AV:=match t with
 |some (.leaf p)=>frzA p.2 p.1|_=>none
theorem Apd{P:Program}{orc:Orc}(ho:B4 P orc){ann:Ann}{n:Nat}{f:FuncId}{fn:Func}{c:Code}{args:List AV}{y:AV}(hf:P.funcs[f]? =some fn)(hb:fn.body=some c)
  (h:frzQ (Fu P orc ann n fn c args [] (fun x H'=>some (.leaf (x,H'))))=some y):CX P f args [] y []:=by
 cases ht:Fu P orc ann n fn c args [] (fun x H'=>some (T.leaf (x,H')))with
 |none=>rw[ht]at h;cases h|some t=>
  rw[ht]at h;cases t with
  |node a b=>cases h|leaf p=>
   have⟨x,H'⟩:=p;have h:frzA H' x=some y:=h;exact .of_cr hf hb (((Apc ho hf hb rfl ht).cr hf hb).data h)
mutual
def eqDt:Nat ->D ->D ->Bool
 |0,_,_=>false|_+1, .v a, .v b=>beqV a b|_+1, .v a, .sl _ n _=>Afc a&&Nat.beq n 0|k+1, .sl sz n f, .sl sz' m g=>Nat.beq sz sz'&&Nat.beq n m&&Kd (fun i=>eqDs k (f i) (g i)) n
 |_+1, .sl _ _ _, .v _=>false
def eqDs:Nat ->List D ->List D ->Bool
 |0,_,_=>false|_+1,[],[]=>true|k+1,x::a,y::b=>eqDt k x y&&eqDs k a b|_+1,_,_=>false
end
mutual
theorem AfE: ∀(k:Nat) (x y:D),eqDt k x y=true ->DE x y
 |0,x,y,h=>by simp[eqDt]at h|k+1, .v a, .v b,h=>by simp only[eqDt]at h;rw[Rs h];exact .v b|k+1, .v a, .sl sz n f,h=>by
  simp only[eqDt,zd]at h;have e:=zg h.2;subst e;rw[Uo h.1];exact .nil _ _
 |k+1, .sl sz n f, .sl sz' m g,h=>by
  simp only[eqDt,zd]at h;have e1:=zg h.1.1;have e2:=zg h.1.2;subst e1 e2;exact .sls fun i hi=>AfF k _ _ (Hd h.2 i hi)
 |k+1, .sl _ _ _, .v _,h=>by simp[eqDt]at h
theorem AfF: ∀(k:Nat) (a b:List D),eqDs k a b=true ->DEs a b
 |0,a,b,h=>by simp[eqDs]at h|_+1,[],[],_=>⟨rfl,fun j d e h=>by simp at h⟩
 |k+1,x::a,y::b,h=>by
  simp only[eqDs,zd]at h;have h1:=AfE k x y h.1;have h2:=AfF k a b h.2;refine⟨by simp[h2.1],fun j d e hd he=> ?_⟩;cases j with
  |zero=>simp at hd he;subst hd he;exact h1|succ j=>exact h2.2 j d e (by simpa using hd) (by simpa using he)
 |k+1,[],_::_,h=>by simp[eqDs]at h|k+1,_::_,[],h=>by simp[eqDs]at h
end
def eqC:C ->C ->Bool
 | .d x, .d y=>eqDt 400 x y|_,_=>false
theorem AfH{x y:C}(h:eqC x y=true):Cle x y:=by
 unfold eqC at h;split at h
 ·exact AfE 400 _ _ h
 ·cases h
def eqA:AV ->AV ->Bool
 | .c x, .c y=>eqC x y| .agg a, .agg b=>beqL eqC a b| .tup a, .tup b=>beqL (fun p q=>(p.1==q.1)&&beqL eqC p.2 q.2) a b
 |_,_=>false
theorem AfI{x y:AV}(h:eqA x y=true):Ale x y:=by
 unfold eqA at h;split at h
 ·exact AfH h
 ·exact Ga (fun _ _ h=>AfH h) h
 ·exact Ga (q:=fun p q=>p.1=q.1/\Csle p.2 q.2) (fun p q h=>by
   simp only[zd,beq_iff_eq]at h;exact⟨h.1,Ga (fun _ _ h=>AfH h) h.2⟩) h
 ·simp at h
def litQ(o:Option AV)(y:AV):Bool:=match o with
 |some x=>eqA x y|none=>false
theorem F0{P:Program}{orc:Orc}(ho:B4 P orc){ann:Ann}{n:Nat}{f:FuncId}{fn:Func}{c:Code}{args:List AV}{y:AV}(hf:P.funcs[f]? =some fn)(hb:fn.body=some c)
  (h:litQ (frzQ (Fu P orc ann n fn c args [] (fun x H'=>some (.leaf (x,H'))))) y=true):CX P f args [] y []:=by
 cases ht:frzQ (Fu P orc ann n fn c args [] (fun x H'=>some (T.leaf (x,H'))))with
 |none=>rw[ht]at h;cases h|some x=>rw[ht]at h;exact(Apd ho hf hb ht).le (AfI h) (.refl _)
def isL(lit x:List AV):Bool:=beqL eqA x lit
theorem AnsS.lit{P:Program}{f:FuncId}{lit:List AV}{y:AV}(h:CX P f lit [] y []):AnsS P f (ansG (isL lit) fun _=>y):= .g fun x hx=>h.ge (Ga (fun _ _ h=>AfI h) hx) (.refl _)
def decF:Nat ->Nat ->BA
 |0,_=>e0|f+1,n=>bif Nat.blt n 10 then⟨#[UInt8.ofNat (48+n)]⟩else decF f (n/10)++⟨#[UInt8.ofNat (48+n%10)]⟩
theorem Aga: ∀(f n:Nat),n<10^f ->0<f ->decF f n=decB n
 |0,_,_,h=>by omega|f+1,n,h,_=>by
  unfold decF;by_cases hn:n<10
  ·rw[show Nat.blt n 10=true from by rw[Nat.blt_eq];exact hn,za,Bg hn]
  ·have hb:Nat.blt n 10=false:=by
    cases e:Nat.blt n 10 with
    |false=>rfl|true=>rw[Nat.blt_eq]at e;exact absurd e hn
   rw[hb,zb,Ea hn,Bg (Nat.mod_lt n (by omega))];cases f with
   |zero=>omega|succ f=>rw[Aga (f+1) (n/10) (by rw[Nat.pow_succ]at h;omega) (by omega)]
def itOk:LB
 |[.c (.d (.v (.int .i64 n)))]=>decide (0<=n)&&decide (n<=1000000)|_=>false
def itA:List AV ->AV
 |[.c (.d (.v (.int .i64 n)))]=>vS (decF 8 n.toNat)|_=> .u
theorem Aqd{P:Program}{f:FuncId}(hI: ∀n:Int,-1000000<=n ->n<=1000000 ->CX P f [vI n] [] (vS (decI n)) []):AnsS P f (ansG itOk itA):= .g fun x h=>by
 unfold itOk at h;split at h
 ·rename_i n;simp only[zd,zi]at h;have:=hI n (by omega) h.2;have e:decI n=decF 8 n.toNat:=by
   unfold decI;rw[zt,zb,Aga 8 n.toNat (by omega) (by omega)]
  rw[e]at this;exact this
 ·cases h
def tx1:List D ->BA
 |[.v (.string s)]=>s|_=>e0
def txD:D ->List BA
 | .sl _ n f=>(List.range n).map fun i=>tx1 (f i)
 |_=>[]
theorem AnsS.litL{P:Program}{f:FuncId}{fn:Func}{lit:List AV}{v:Value}(hf:P.funcs[f]? =some fn)(hb:fn.body=some (Ac fn))(h:CX P f lit [] (.c (.d (.v v))) []):AnsS P f (ansL (isL lit) fun _=> .c (.d (.v v))):= .l hf hb fun x hx=>⟨h.ge (Ga (fun _ _ h=>AfI h) hx) (.refl _),rfl⟩
theorem Agz:X8 AgA:=fun args H=>by
 match args with
 |[]=>exact .no fun R k=>rfl
 |[x]=>exact .one x H fun R k=>rfl
 |_::_::_=>exact .no fun R k=>rfl
end Go.Eb
namespace Go.Y.kn
open Go.RowKit Go.Eb
def clOk:LB
 |[.c (.d (.sl sz n f))]=>Nat.beq sz 1&&(Nat.ble 1 n&&(Nat.ble n 1000000&&(List.range n).all fun i=>match f i with
  |[.v (.string _)]=>true|_=>false))
 |_=>false
def clA:List AV ->List BA
 |[.c (.d x)]=>txD x|_=>[]
def Aci:BA:=⟨#[115,116,97,116,105,111,110,32,83,59,32,98,117,115,32,65,59,32,115,111,117,114,99,101,32,71,32,49,48,48,48,32,49,32,49,48,32,50,32,50,48,59,32,98,97,121,32,81,32,115,111,117,114,99,101,32,71,32,123,32,99,116,32,49,59,32,118,116,32,49,59,32,116,114,97,118,101,108,32,50,59,32,115,101,108,101,99,116,32,65,32,99,108,111,115,101,100,59,32,125,32,114,101,108,97,121,32,82,32,115,111,117,114,99,101,32,81,32,123,32,100,101,102,105,110,105,116,101,32,49,48,32,50,59,32,115,101,116,32,68,32,116,114,105,112,32,116,105,109,101,59,32,112,117,98,108,105,115,104,32,68,32,49,32,52,59,32,125]⟩
def kIt(ln:Int)(ws:List BA)(b:Bool)(kids:List (List D)):List D:=[dI ln, .sl 2 ws.length (fun i=>[dS (ws.getD i e0),dB false]),dB b, .sl 4 kids.length (fun i=>kids.getD i [])]
def Lt:List (List D):=[kIt 1 [⟨#[115,116,97,116,105,111,110]⟩,⟨#[83]⟩] false [],kIt 1 [⟨#[98,117,115]⟩,⟨#[65]⟩] false [],kIt 1 [⟨#[115,111,117,114,99,101]⟩,⟨#[71]⟩,⟨#[49,48,48,48]⟩,⟨#[49]⟩,⟨#[49,48]⟩,⟨#[50]⟩,⟨#[50,48]⟩] false [],kIt 1 [⟨#[98,97,121]⟩,⟨#[81]⟩,⟨#[115,111,117,114,99,101]⟩,⟨#[71]⟩] true [kIt 1 [⟨#[99,116]⟩,⟨#[49]⟩] false [],kIt 1 [⟨#[118,116]⟩,⟨#[49]⟩] false [],kIt 1 [⟨#[116,114,97,118,101,108]⟩,⟨#[50]⟩] false [],kIt 1 [⟨#[115,101,108,101,99,116]⟩,⟨#[65]⟩,⟨#[99,108,111,115,101,100]⟩] false []],kIt 1 [⟨#[114,101,108,97,121]⟩,⟨#[82]⟩,⟨#[115,111,117,114,99,101]⟩,⟨#[81]⟩] true [kIt 1 [⟨#[100,101,102,105,110,105,116,101]⟩,⟨#[49,48]⟩,⟨#[50]⟩] false [],kIt 1 [⟨#[115,101,116]⟩,⟨#[68]⟩,⟨#[116,114,105,112]⟩,⟨#[116,105,109,101]⟩] false [],kIt 1 [⟨#[112,117,98,108,105,115,104]⟩,⟨#[68]⟩,⟨#[49]⟩,⟨#[52]⟩] false []]]
def kSta:SSta:=⟨⟨#[83]⟩,[⟨#[65]⟩],[],[⟨⟨#[71]⟩,1000,1,10,2,20⟩],[⟨⟨#[81]⟩,2,0,0,0,0,[⟨0,1⟩],true,1,1,0,2⟩]⟩
def kRel:SRel:={rel0 with name:=⟨#[82]⟩,kind:=2,bay:=0,don:=true,dpk:=10,ddl:=2,qj:=[⟨⟨#[68]⟩,[⟨#[116,114,105,112]⟩,⟨#[116,105,109,101]⟩]⟩],qk:=[⟨⟨#[68]⟩,1,4⟩]}
def kCfg:SCfg:=⟨kSta,[kRel]⟩
abbrev vLn(x:List D)(b:Bool)(l e:Int):AV:= .tup [(b,x.map .d),(false,[.d (dI l)]),(false,[.d (dI e)])]
abbrev vE2(a e:Int):AV:= .tup [(false,[.d (dI a)]),(false,[.d (dI e)])]
def kPb:Pbl:=⟨0,0,1,4,[0,3]⟩
def kDv:Dev:=⟨outS kRel,[0],[]⟩
def kIn(ln:Int)(ws:List BA)(b:Bool)(kids:List (List D)):List D:=[dI ln, .sl 2 ws.length (fun i=>[dS (ws.getD i e0),dB false]),dB b,bif kids.isEmpty then .v (.slice none 0 0)else .sl 4 kids.length (fun i=>kids.getD i [])]
def kItD(l:List (List D)):D:= .sl 4 l.length (fun i=>l.getD i [])
abbrev Hh(l:List (List D)):AV:= .c (.d (kItD l))
def preI(r:Orc):Orc:=Orc.cons 217 AgA<|Orc.cons 89 (ansG itOk itA) (Orc.cons 142 (ansN clOk (fun x=> .c (.row 0 1 (clA x).length)) fun x=>[(0, .row (clA x).length (fun i=>busC ((clA x).getD i e0)) 1 9)]) r)
def selI(f:FuncId):Bool:=Nat.beq f 89||Nat.beq f 142
def kEnS:List (List D):=[kIn 0 [⟨#[115,116,97,116,105,111,110]⟩,⟨#[83]⟩] false [],kIn 0 [⟨#[98,117,115]⟩,⟨#[65]⟩] false [],kIn 0 [⟨#[115,111,117,114,99,101]⟩,⟨#[71]⟩,⟨#[49,48,48,48]⟩,⟨#[49]⟩,⟨#[49,48]⟩,⟨#[50]⟩,⟨#[50,48]⟩] false [],kIn 0 [⟨#[98,97,121]⟩,⟨#[81]⟩,⟨#[115,111,117,114,99,101]⟩,⟨#[71]⟩] true [kIn 0 [⟨#[99,116]⟩,⟨#[49]⟩] false [],kIn 0 [⟨#[118,116]⟩,⟨#[49]⟩] false [],kIn 0 [⟨#[116,114,97,118,101,108]⟩,⟨#[50]⟩] false [],kIn 0 [⟨#[115,101,108,101,99,116]⟩,⟨#[65]⟩,⟨#[99,108,111,115,101,100]⟩] false []]]
def kEnR:List (List D):=[kIt 0 [⟨#[114,101,108,97,121]⟩,⟨#[82]⟩,⟨#[115,111,117,114,99,101]⟩,⟨#[81]⟩] true [kIt 0 [⟨#[100,101,102,105,110,105,116,101]⟩,⟨#[49,48]⟩,⟨#[50]⟩] false [],kIt 0 [⟨#[115,101,116]⟩,⟨#[68]⟩,⟨#[116,114,105,112]⟩,⟨#[116,105,109,101]⟩] false [],kIt 0 [⟨#[112,117,98,108,105,115,104]⟩,⟨#[68]⟩,⟨#[49]⟩,⟨#[52]⟩] false []]]
def Ack:BA:=⟨#[115,116,97,116,105,111,110,32,83,59,10,98,117,115,32,65,59,10,115,111,117,114,99,101,32,71,32,49,48,48,48,32,49,32,49,48,32,50,32,50,48,59,10,98,97,121,32,81,32,115,111,117,114,99,101,32,71,32,123,10,32,32,99,116,32,49,59,10,32,32,118,116,32,49,59,10,32,32,116,114,97,118,101,108,32,50,59,10,32,32,115,101,108,101,99,116,32,65,32,99,108,111,115,101,100,59,10,125,10,114,101,108,97,121,32,82,32,115,111,117,114,99,101,32,81,32,123,10,32,32,100,101,102,105,110,105,116,101,32,49,48,32,50,59,10,32,32,115,101,116,32,68,32,116,114,105,112,32,116,105,109,101,59,10,32,32,112,117,98,108,105,115,104,32,68,32,49,32,52,59,10,125,10]⟩
def anPs(r:Orc):Orc:=Orc.cons 41 (ansG (isL [vS Aci]) fun _=>vLn [kItD Lt] false 0 0) r
def anSd(r:Orc):Orc:=Orc.cons 42 (ansG (isL [Hh Lt]) fun _=>vLn (staC kSta) true 0 0) r
def anRd(r:Orc):Orc:=Orc.cons 43 (ansG (isL [aSta kSta,Hh Lt]) fun _=>vLn [Di [kRel]] false 0 0) r
def anOu(r:Orc):Orc:=Orc.cons 45 (ansG (isL [aRel kRel]) fun _=> .c (.d (Ab (outS kRel)))) r
def anGg(r:Orc):Orc:=Orc.cons 33 (ansG (isL [aCfg kCfg]) fun _=>vE2 0 0) r
def anLd(r:Orc):Orc:=Orc.cons 18 (ansG (isL [vS Aci]) fun _=>vLn (cfgC kCfg) true 0 0) r
def anSc(r:Orc):Orc:=Orc.cons 31 (ansG (isL [aSta kSta]) fun _=>vI 0) r
def anTc(r:Orc):Orc:=Orc.cons 32 (ansG (isL [aSta kSta, .c (.d (Di [kRel]))]) fun _=>vE2 0 0) r
def anCk(r:Orc):Orc:=Orc.cons 13 (ansG (isL [aCfg kCfg]) fun _=>vI 0) r
def anCp(r:Orc):Orc:=Orc.cons 9 (ansG (isL [aCfg kCfg]) fun _=> .tup [(true,[.d (AlW [kPb]), .d (AmV [kDv])]),(false,[.d (dI 0)])]) r
def anRe(r:Orc):Orc:=Orc.cons 36 (ansG (isL [aSta kSta, .c (.d (Di [kRel]))]) fun _=>Hh kEnR) r
def anFm(r:Orc):Orc:=Orc.cons 34 (ansL (isL [Hh (kEnS++kEnR)]) fun _=>vS Ack) r
def anSv(r:Orc):Orc:=Orc.cons 14 (ansG (isL [aCfg kCfg]) fun _=>vS Ack) r
theorem evPs:litQ (frzQ (Fu prog (Jn prog (fun _=>na) (fun f=>selI f) (fun f=>Nat.beq f 182) (preI Orc.nil) 200 40) na 200 f41 (Ac f41) ([vS Aci]) [] (fun x H'=>some (.leaf (x,H'))))) (vLn [kItD Lt] false 0 0)=true:=by kernel_rfl
theorem evSd:litQ (frzQ (Fu prog (Jn prog (fun _=>na) (fun f=>selI f) (fun f=>Nat.beq f 182) (preI Orc.nil) 200 40) na 200 f42 (Ac f42) ([Hh Lt]) [] (fun x H'=>some (.leaf (x,H'))))) (vLn (staC kSta) true 0 0)=true:=by kernel_rfl
theorem evRd:litQ (frzQ (Fu prog (Jn prog (fun _=>na) (fun f=>selI f) (fun f=>Nat.beq f 182) (preI Orc.nil) 200 40) na 200 f43 (Ac f43) ([aSta kSta,Hh Lt]) [] (fun x H'=>some (.leaf (x,H'))))) (vLn [Di [kRel]] false 0 0)=true:=by kernel_rfl
theorem evOu:litQ (frzQ (Fu prog (Jn prog (fun _=>na) (fun f=>selI f) (fun f=>Nat.beq f 182) (preI Orc.nil) 200 40) na 200 f45 (Ac f45) ([aRel kRel]) [] (fun x H'=>some (.leaf (x,H'))))) (.c (.d (Ab (outS kRel))))=true:=by kernel_rfl
theorem evGg:litQ (frzQ (Fu prog (Jn prog (fun _=>na) (fun f=>selI f||Nat.beq f 45) (fun f=>Nat.beq f 182) (anOu (preI Orc.nil)) 200 40) na 200 f33 (Ac f33) ([aCfg kCfg]) [] (fun x H'=>some (.leaf (x,H'))))) (vE2 0 0)=true:=by kernel_rfl
theorem evLd:litQ (frzQ (Fu prog (Jn prog (fun _=>na) (fun f=>selI f||Nat.beq f 41||Nat.beq f 42||Nat.beq f 43||Nat.beq f 33) (fun f=>Nat.beq f 182) (anGg (anRd (anSd (anPs (preI Orc.nil))))) 200 40) na 200 f18 (Ac f18) ([vS Aci]) [] (fun x H'=>some (.leaf (x,H'))))) (vLn (cfgC kCfg) true 0 0)=true:=by kernel_rfl
theorem evSc:litQ (frzQ (Fu prog (Jn prog (fun _=>na) (fun f=>selI f) (fun f=>Nat.beq f 182) (preI Orc.nil) 200 40) na 200 f31 (Ac f31) ([aSta kSta]) [] (fun x H'=>some (.leaf (x,H'))))) (vI 0)=true:=by kernel_rfl
theorem evTc:litQ (frzQ (Fu prog (Jn prog (fun _=>na) (fun f=>selI f||Nat.beq f 31) (fun f=>Nat.beq f 182) (anSc (preI Orc.nil)) 200 40) na 200 f32 (Ac f32) ([aSta kSta, .c (.d (Di [kRel]))]) [] (fun x H'=>some (.leaf (x,H'))))) (vE2 0 0)=true:=by kernel_rfl
theorem evCk:litQ (frzQ (Fu prog (Jn prog (fun _=>na) (fun f=>selI f||Nat.beq f 31||Nat.beq f 32||Nat.beq f 33) (fun f=>Nat.beq f 182) (anGg (anTc (anSc (preI Orc.nil)))) 200 40) na 200 f13 (Ac f13) ([aCfg kCfg]) [] (fun x H'=>some (.leaf (x,H'))))) (vI 0)=true:=by kernel_rfl
theorem evCp:litQ (frzQ (Fu prog (Jn prog (fun _=>na) (fun f=>selI f||Nat.beq f 13||Nat.beq f 45) (fun f=>Nat.beq f 182) (anOu (anCk (preI Orc.nil))) 200 40) na 200 f9 (Ac f9) ([aCfg kCfg]) [] (fun x H'=>some (.leaf (x,H'))))) (.tup [(true,[.d (AlW [kPb]), .d (AmV [kDv])]),(false,[.d (dI 0)])])=true:=by kernel_rfl
theorem evRe:litQ (frzQ (Fu prog (Jn prog (fun _=>na) (fun f=>selI f||Nat.beq f 31||Nat.beq f 32) (fun f=>Nat.beq f 182) (anTc (anSc (preI Orc.nil))) 200 40) na 200 f36 (Ac f36) ([aSta kSta, .c (.d (Di [kRel]))]) [] (fun x H'=>some (.leaf (x,H'))))) (Hh kEnR)=true:=by kernel_rfl
theorem evFm:litQ (frzQ (Fu prog (Jn prog (fun _=>na) (fun f=>selI f) (fun f=>Nat.beq f 182) (preI Orc.nil) 200 40) na 200 f34 (Ac f34) ([Hh (kEnS++kEnR)]) [] (fun x H'=>some (.leaf (x,H'))))) (vS Ack)=true:=by kernel_rfl
theorem evSv:litQ (frzQ (Fu prog (Jn prog (fun _=>na) (fun f=>selI f||Nat.beq f 13||Nat.beq f 31||Nat.beq f 36||Nat.beq f 34) (fun f=>Nat.beq f 182) (anFm (anRe (anSc (anCk (preI Orc.nil))))) 200 40) na 200 f14 (Ac f14) ([aCfg kCfg]) [] (fun x H'=>some (.leaf (x,H'))))) (vS Ack)=true:=by kernel_rfl
theorem evKn:litQ (frzQ (Fu prog (Jn prog (fun _=>na) (fun f=>selI f||Nat.beq f 18||Nat.beq f 9||Nat.beq f 14) (fun f=>Nat.beq f 182) (anSv (anCp (anLd (preI Orc.nil)))) 200 40) na 200 f7 (Ac f7) ([]) [] (fun x H'=>some (.leaf (x,H'))))) (vB true)=true:=by kernel_rfl
theorem Apg(x:List AV)(h:clOk x=true):CX prog 142 x [] (.c (.row 0 1 (clA x).length)) [(0, .row (clA x).length (fun i=>busC ((clA x).getD i e0)) 1 9)]:=by
 unfold clOk at h;split at h
 ·rename_i sz n f;simp only[zd,List.all_eq_true,List.mem_range,Nat.ble_eq]at h;have⟨h0,h1,h2,h3⟩:=h;have h0:=zg h0;subst h0;have hl:(clA [.c (.d (.sl 1 n f))]).length=n:=by simp[clA,txD]
  have hd:DE (.sl 1 n f) (Ab (clA [.c (.d (.sl 1 n f))])):=by
   have: ∀i,i<n ->DEs (f i) (busC ((clA [.c (.d (.sl 1 n f))]).getD i e0)):=fun i hi=>by
    have:=h3 i hi;have e:(clA [.c (.d (.sl 1 n f))]).getD i e0=tx1 (f i):=by
     simp[clA,txD,List.getD,hi]
    rw[e];split at this
    ·rename_i s hs;rw[hs];exact .refl _
    ·cases this
   have g:=DE.sls (sz:=1) this;have e2:Ab (clA [.c (.d (.sl 1 n f))])= .sl 1 n fun i=>busC ((clA [.c (.d (.sl 1 n f))]).getD i e0):=by
    unfold Ab Ad;rw[hl]
   rw[e2];exact g
  have:=cln.cClone (clA [.c (.d (.sl 1 n f))]) (fun e=>by rw[e]at hl;simp at hl;omega) (by rw[hl];exact h2);exact this.ge (.cons (show DE _ _ from hd) .nil) (.refl _)
 ·cases h
theorem Dy{r:Orc}(h:OrcS prog r):OrcS prog (preI r):= .cons ⟨Abj (fn:=f217) func217 (by kernel_rfl) (by kernel_rfl) (by kernel_rfl) (by kernel_rfl),Agz⟩<| .cons (Aqd ito.cItoa) (.cons (.n Apg) h)
theorem cxPs:CX prog 41 ([vS Aci]) [] (vLn [kItD Lt] false 0 0) []:=F0 (Ck prog _ _ _ (OrcS.ok (Dy .nil)) 200 40) func41 (by kernel_rfl) evPs
theorem cxSd:CX prog 42 ([Hh Lt]) [] (vLn (staC kSta) true 0 0) []:=F0 (Ck prog _ _ _ (OrcS.ok (Dy .nil)) 200 40) func42 (by kernel_rfl) evSd
theorem cxRd:CX prog 43 ([aSta kSta,Hh Lt]) [] (vLn [Di [kRel]] false 0 0) []:=F0 (Ck prog _ _ _ (OrcS.ok (Dy .nil)) 200 40) func43 (by kernel_rfl) evRd
theorem cxOu:CX prog 45 ([aRel kRel]) [] (.c (.d (Ab (outS kRel)))) []:=F0 (Ck prog _ _ _ (OrcS.ok (Dy .nil)) 200 40) func45 (by kernel_rfl) evOu
theorem cxGg:CX prog 33 ([aCfg kCfg]) [] (vE2 0 0) []:=F0 (Ck prog _ _ _ (OrcS.ok (.cons (.lit cxOu) (Dy .nil))) 200 40) func33 (by kernel_rfl) evGg
theorem cxLd:CX prog 18 ([vS Aci]) [] (vLn (cfgC kCfg) true 0 0) []:=F0 (Ck prog _ _ _ (OrcS.ok (.cons (.lit cxGg) (.cons (.lit cxRd) (.cons (.lit cxSd) (.cons (.lit cxPs) (Dy .nil)))))) 200 40) func18 (by kernel_rfl) evLd
theorem cxSc:CX prog 31 ([aSta kSta]) [] (vI 0) []:=F0 (Ck prog _ _ _ (OrcS.ok (Dy .nil)) 200 40) func31 (by kernel_rfl) evSc
theorem cxTc:CX prog 32 ([aSta kSta, .c (.d (Di [kRel]))]) [] (vE2 0 0) []:=F0 (Ck prog _ _ _ (OrcS.ok (.cons (.lit cxSc) (Dy .nil))) 200 40) func32 (by kernel_rfl) evTc
theorem cxCk:CX prog 13 ([aCfg kCfg]) [] (vI 0) []:=F0 (Ck prog _ _ _ (OrcS.ok (.cons (.lit cxGg) (.cons (.lit cxTc) (.cons (.lit cxSc) (Dy .nil))))) 200 40) func13 (by kernel_rfl) evCk
theorem cxCp:CX prog 9 ([aCfg kCfg]) [] (.tup [(true,[.d (AlW [kPb]), .d (AmV [kDv])]),(false,[.d (dI 0)])]) []:=F0 (Ck prog _ _ _ (OrcS.ok (.cons (.lit cxOu) (.cons (.lit cxCk) (Dy .nil)))) 200 40) func9 (by kernel_rfl) evCp
theorem cxRe:CX prog 36 ([aSta kSta, .c (.d (Di [kRel]))]) [] (Hh kEnR) []:=F0 (Ck prog _ _ _ (OrcS.ok (.cons (.lit cxTc) (.cons (.lit cxSc) (Dy .nil)))) 200 40) func36 (by kernel_rfl) evRe
theorem cxFm:CX prog 34 ([Hh (kEnS++kEnR)]) [] (vS Ack) []:=F0 (Ck prog _ _ _ (OrcS.ok (Dy .nil)) 200 40) func34 (by kernel_rfl) evFm
theorem cxSv:CX prog 14 ([aCfg kCfg]) [] (vS Ack) []:=F0 (Ck prog _ _ _ (OrcS.ok (.cons (.litL func34 (by kernel_rfl) cxFm) (.cons (.lit cxRe) (.cons (.lit cxSc) (.cons (.lit cxCk) (Dy .nil)))))) 200 40) func14 (by kernel_rfl) evSv
theorem cxKn:CX prog 7 ([]) [] (vB true) []:=F0 (Ck prog _ _ _ (OrcS.ok (.cons (.lit cxSv) (.cons (.lit cxCp) (.cons (.lit cxLd) (Dy .nil))))) 200 40) func7 (by kernel_rfl) evKn
theorem c9k(_:Unit):CX prog 7 [] [] (vB true) []:=cxKn
end Go.Y.kn
namespace Go.Y.st
open Go.RowKit Go.Eb
theorem AdP{ds:List D}(h:Shp prog 9 ds): ∃s,DEs ds (busC s)/\(fun _=>true) s=true:=by
 obtain⟨s,rfl,_⟩:=h.str_inv underlying9;exact⟨s, .refl _,rfl⟩
theorem Qq{ds:List D}(h:Shp prog 115 ds): ∃r x,ds=[dI r,dI x]:=by
 obtain⟨ps,rfl,hl,hp⟩:=h.struct_inv underlying115;match ps,hl with
 |[p0,p1],_=>
  obtain⟨r,rfl,_⟩:=(hp 0 _ p0 rfl rfl).int_inv underlying3;obtain⟨x,rfl,_⟩:=(hp 1 _ p1 rfl rfl).int_inv underlying3;exact⟨r,x,rfl⟩
theorem AhO{ds:List D}(h:Shp prog 144 ds): ∃x,DEs ds (Az x)/\(fun _=>true) x=true:=by
 obtain⟨ps,rfl,hl,hp⟩:=h.struct_inv underlying144;match ps,hl with
 |[p0,p1,p2],_=>
  obtain⟨s,rfl,_⟩:=(hp 0 _ p0 rfl rfl).str_inv underlying9;obtain⟨r1,x1,rfl⟩:=Qq (hp 1 _ p1 rfl rfl);obtain⟨r0,x0,rfl⟩:=Qq (hp 2 _ p2 rfl rfl);exact⟨⟨s,r1,x1,r0,x0⟩, .refl _,rfl⟩
theorem AlJ{ds:List D}(h:Shp prog 147 ds): ∃x,DEs ds (Ay x)/\(fun _=>true) x=true:=by
 obtain⟨ps,rfl,hl,hp⟩:=h.struct_inv underlying147;match ps,hl with
 |[p0,p1,p2,p3],_=>
  obtain⟨s,rfl,_⟩:=(hp 0 _ p0 rfl rfl).str_inv underlying9;obtain⟨e,rfl,_⟩:=(hp 1 _ p1 rfl rfl).int_inv underlying3;obtain⟨r1,x1,rfl⟩:=Qq (hp 2 _ p2 rfl rfl);obtain⟨r0,x0,rfl⟩:=Qq (hp 3 _ p3 rfl rfl);exact⟨⟨s,e,r1,x1,r0,x0⟩, .refl _,rfl⟩
theorem AhN{ds:List D}(h:Shp prog 240 ds): ∃x,DEs ds (Gm x)/\(fun _=>true) x=true:=by
 obtain⟨ps,rfl,hl,hp⟩:=h.struct_inv underlying240;match ps,hl with
 |[p0,p1],_=>
  obtain⟨r,rfl,_⟩:=(hp 0 _ p0 rfl rfl).int_inv underlying3;obtain⟨x,rfl,_⟩:=(hp 1 _ p1 rfl rfl).int_inv (k:= .i64) (by kernel_rfl);exact⟨⟨r,x⟩, .refl _,rfl⟩
theorem AlN{ds:List D}(h:Shp prog 118 ds): ∃x,DEs ds (bayC x)/\(fun x=>Au x.qe) x=true:=by
 obtain⟨ps,rfl,hl,hp⟩:=h.struct_inv underlying118;match ps,hl with
 |[p0,p1,p2,p3,p4,p5,p6,p7,p8,p9,p10],_=>
  obtain⟨s,rfl,_⟩:=(hp 0 _ p0 rfl rfl).str_inv underlying9;obtain⟨k,rfl,_⟩:=(hp 1 _ p1 rfl rfl).int_inv (k:= .i64) (by kernel_rfl);obtain⟨o,rfl,_⟩:=(hp 2 _ p2 rfl rfl).int_inv underlying3;obtain⟨e,rfl,_⟩:=(hp 3 _ p3 rfl rfl).int_inv underlying3;obtain⟨r,x,rfl⟩:=Qq (hp 4 _ p4 rfl rfl);obtain⟨d,l,rfl,hd,hn,_⟩:=Dx (d0:=A4) underlying116 (show prog.cellsOf 240=2 by kernel_rfl) (fun ds=>AhN) (hp 5 _ p5 rfl rfl);obtain⟨c,rfl⟩:=(hp 6 _ p6 rfl rfl).bool_inv underlying4;obtain⟨n1,rfl,_⟩:=(hp 7 _ p7 rfl rfl).int_inv underlying3;obtain⟨n2,rfl,_⟩:=(hp 8 _ p8 rfl rfl).int_inv underlying3;obtain⟨n3,rfl,_⟩:=(hp 9 _ p9 rfl rfl).int_inv underlying3;obtain⟨n4,rfl,_⟩:=(hp 10 _ p10 rfl rfl).int_inv underlying3;exact⟨⟨s,k,o,e,r,x,l,c,n1,n2,n3,n4⟩, .cons (.refl _) (.cons (.refl _) (.cons (.refl _) (.cons (.refl _) (.cons (.refl _) (.cons (.refl _) (.cons hd (.refl _))))))),hn⟩
theorem AlI{ds:List D}(h:Shp prog 27 ds): ∃x,DEs ds (staC x)/\Bv x=true:=by
 obtain⟨ps,rfl,hl,hp⟩:=h.struct_inv underlying27;match ps,hl with
 |[p0,p1,p2,p3,p4],_=>
  obtain⟨s,rfl,_⟩:=(hp 0 _ p0 rfl rfl).str_inv underlying9;obtain⟨d1,l1,rfl,h1,n1,_⟩:=Dx (d0:=e0) underlying22 (show prog.cellsOf 9=1 by kernel_rfl) (fun ds=>AdP) (hp 1 _ p1 rfl rfl);obtain⟨d2,l2,rfl,h2,n2,_⟩:=Dx (d0:=Ah) underlying23 (show prog.cellsOf 144=5 by kernel_rfl) (fun ds=>AhO) (hp 2 _ p2 rfl rfl);obtain⟨d3,l3,rfl,h3,n3,_⟩:=Dx (d0:=src0) underlying24 (show prog.cellsOf 147=6 by kernel_rfl) (fun ds=>AlJ) (hp 3 _ p3 rfl rfl);obtain⟨d4,l4,rfl,h4,n4,a4⟩:=Dx (d0:=bay0) underlying25 (show prog.cellsOf 118=12 by kernel_rfl) (fun ds=>AlN) (hp 4 _ p4 rfl rfl);refine⟨⟨s,l1,l2,l3,l4⟩, .cons (.refl _) (.cons h1 (.cons h2 (.cons h3 (.cons h4 .nil)))), ?_⟩;unfold Bv;simp only[n1,n2,n3,n4,a4,Bool.and_self]
end Go.Y.st
namespace Go.Y.se
open Go.RowKit Go.Eb Go.Y.st
theorem AhM{ds:List D}(h:Shp prog 136 ds): ∃x,DEs ds (E0 x)/\(fun _=>true) x=true:=by
 obtain⟨ps,rfl,hl,hp⟩:=h.struct_inv underlying136;match ps,hl with
 |[p0,p1],_=>
  obtain⟨a,rfl,_⟩:=(hp 0 _ p0 rfl rfl).str_inv underlying9;obtain⟨b,rfl,_⟩:=(hp 1 _ p1 rfl rfl).str_inv underlying9;exact⟨⟨a,b⟩, .refl _,rfl⟩
theorem AlK{ds:List D}(h:Shp prog 125 ds): ∃x,DEs ds (setC x)/\Ln x=true:=by
 obtain⟨ps,rfl,hl,hp⟩:=h.struct_inv underlying125;match ps,hl with
 |[p0,p1],_=>
  obtain⟨a,rfl,_⟩:=(hp 0 _ p0 rfl rfl).str_inv underlying9;obtain⟨d1,l1,rfl,h1,n1,_⟩:=Dx (d0:=e0) underlying22 (show prog.cellsOf 9=1 by kernel_rfl) (fun ds=>AdP) (hp 1 _ p1 rfl rfl);exact⟨⟨a,l1⟩, .cons (.refl _) (.cons h1 .nil),n1⟩
theorem AlM{ds:List D}(h:Shp prog 122 ds): ∃x,DEs ds (pubC x)/\(fun _=>true) x=true:=by
 obtain⟨ps,rfl,hl,hp⟩:=h.struct_inv underlying122;match ps,hl with
 |[p0,p1,p2],_=>
  obtain⟨a,rfl,_⟩:=(hp 0 _ p0 rfl rfl).str_inv underlying9;obtain⟨b,rfl,_⟩:=(hp 1 _ p1 rfl rfl).int_inv underlying3;obtain⟨c,rfl,_⟩:=(hp 2 _ p2 rfl rfl).int_inv underlying3;exact⟨⟨a,b,c⟩, .refl _,rfl⟩
theorem AlH{ds:List D}(h:Shp prog 68 ds): ∃x,DEs ds (subC x)/\(fun _=>true) x=true:=by
 obtain⟨ps,rfl,hl,hp⟩:=h.struct_inv underlying68;match ps,hl with
 |[p0,p1,p2,p3],_=>
  obtain⟨a,rfl,_⟩:=(hp 0 _ p0 rfl rfl).str_inv underlying9;obtain⟨b,rfl,_⟩:=(hp 1 _ p1 rfl rfl).str_inv underlying9;obtain⟨c,rfl,_⟩:=(hp 2 _ p2 rfl rfl).str_inv underlying9;obtain⟨d,rfl,_⟩:=(hp 3 _ p3 rfl rfl).str_inv underlying9;exact⟨⟨a,b,c,d⟩, .refl _,rfl⟩
theorem Aal{ds:List D}(h:Shp prog 56 ds): ∃a b c,ds=[dB a,dI b,dI c]:=by
 obtain⟨ps,rfl,hl,hp⟩:=h.struct_inv underlying56;match ps,hl with
 |[p0,p1,p2],_=>
  obtain⟨a,rfl⟩:=(hp 0 _ p0 rfl rfl).bool_inv underlying4;obtain⟨b,rfl,_⟩:=(hp 1 _ p1 rfl rfl).int_inv underlying3;obtain⟨c,rfl,_⟩:=(hp 2 _ p2 rfl rfl).int_inv underlying3;exact⟨a,b,c,rfl⟩
theorem AnY{ds:List D}(h:Shp prog 58 ds): ∃a b c,ds=[dB a,dI b,dI c]:=by
 obtain⟨ps,rfl,hl,hp⟩:=h.struct_inv underlying58;match ps,hl with
 |[p0,p1,p2],_=>
  obtain⟨a,rfl⟩:=(hp 0 _ p0 rfl rfl).bool_inv underlying4;obtain⟨b,rfl,_⟩:=(hp 1 _ p1 rfl rfl).int_inv underlying3;obtain⟨c,rfl,_⟩:=(hp 2 _ p2 rfl rfl).int_inv underlying3;exact⟨a,b,c,rfl⟩
theorem AdO{ds:List D}(h:Shp prog 53 ds): ∃a b c d e f,ds=[dB a,dB b,dI c,dI d,dI e,dI f]:=by
 obtain⟨ps,rfl,hl,hp⟩:=h.struct_inv underlying53;match ps,hl with
 |[p0,p1,p2,p3,p4,p5],_=>
  obtain⟨a,rfl⟩:=(hp 0 _ p0 rfl rfl).bool_inv underlying4;obtain⟨b,rfl⟩:=(hp 1 _ p1 rfl rfl).bool_inv underlying4;obtain⟨c,rfl,_⟩:=(hp 2 _ p2 rfl rfl).int_inv underlying3;obtain⟨d,rfl,_⟩:=(hp 3 _ p3 rfl rfl).int_inv underlying3;obtain⟨e,rfl,_⟩:=(hp 4 _ p4 rfl rfl).int_inv underlying3;obtain⟨f,rfl,_⟩:=(hp 5 _ p5 rfl rfl).int_inv underlying3;exact⟨a,b,c,d,e,f,rfl⟩
theorem AnX{ds:List D}(h:Shp prog 54 ds): ∃a b c d e f a1 b1 c1 d1 e1 f1 a2 b2 c2 d2 e2 f2,ds=[dB a,dB b,dI c,dI d,dI e,dI f,dB a1,dB b1,dI c1,dI d1,dI e1,dI f1,dB a2,dB b2,dI c2,dI d2,dI e2,dI f2]:=by
 obtain⟨ps,rfl,hl,hp⟩:=h.array_inv underlying54;match ps,hl with
 |[p0,p1,p2],_=>
  obtain⟨a,b,c,d,e,f,rfl⟩:=AdO (hp p0 (by simp));obtain⟨a1,b1,c1,d1,e1,f1,rfl⟩:=AdO (hp p1 (by simp));obtain⟨a2,b2,c2,d2,e2,f2,rfl⟩:=AdO (hp p2 (by simp));exact⟨a,b,c,d,e,f,a1,b1,c1,d1,e1,f1,a2,b2,c2,d2,e2,f2,rfl⟩
theorem AlL{ds:List D}(h:Shp prog 64 ds): ∃x,DEs ds (relC x)/\Ci x=true:=by
 obtain⟨ps,rfl,hl,hp⟩:=h.struct_inv underlying64;match ps,hl with
 |[p0,p1,p2,p3,p4,p5,p6,p7,p8,p9,p10,p11,p12,p13,p14,p15,p16,p17,p18,p19,p20,p21,p22,p23,p24,p25],_=>
  obtain⟨x0,rfl,_⟩:=(hp 0 _ p0 rfl rfl).str_inv underlying9;obtain⟨x1,rfl,_⟩:=(hp 1 _ p1 rfl rfl).int_inv underlying3;obtain⟨x2,rfl,_⟩:=(hp 2 _ p2 rfl rfl).int_inv underlying3;obtain⟨z0a,z0b,z0c,z0d,z0e,z0f,z1a,z1b,z1c,z1d,z1e,z1f,z2a,z2b,z2c,z2d,z2e,z2f,rfl⟩:=AnX (hp 3 _ p3 rfl rfl);obtain⟨x4,rfl,_⟩:=(hp 4 _ p4 rfl rfl).int_inv underlying3;obtain⟨x5,rfl,_⟩:=(hp 5 _ p5 rfl rfl).int_inv underlying3;obtain⟨x6,rfl,_⟩:=(hp 6 _ p6 rfl rfl).int_inv underlying3;obtain⟨x7,rfl,_⟩:=(hp 7 _ p7 rfl rfl).int_inv underlying3;obtain⟨x8,rfl,_⟩:=(hp 8 _ p8 rfl rfl).int_inv underlying3;obtain⟨x9,rfl,_⟩:=(hp 9 _ p9 rfl rfl).int_inv underlying3;obtain⟨x10a,x10b,x10c,rfl⟩:=Aal (hp 10 _ p10 rfl rfl);obtain⟨x11a,x11b,x11c,rfl⟩:=AnY (hp 11 _ p11 rfl rfl);obtain⟨x12a,x12b,x12c,rfl⟩:=Aal (hp 12 _ p12 rfl rfl);obtain⟨x13,rfl,_⟩:=(hp 13 _ p13 rfl rfl).int_inv underlying3;obtain⟨x14,rfl,_⟩:=(hp 14 _ p14 rfl rfl).int_inv underlying3;obtain⟨x15,rfl,_⟩:=(hp 15 _ p15 rfl rfl).int_inv underlying3;obtain⟨x16a,x16b,x16c,rfl⟩:=Aal (hp 16 _ p16 rfl rfl);obtain⟨x17a,x17b,x17c,rfl⟩:=Aal (hp 17 _ p17 rfl rfl);obtain⟨x18,rfl,_⟩:=(hp 18 _ p18 rfl rfl).int_inv underlying3;obtain⟨x19,rfl,_⟩:=(hp 19 _ p19 rfl rfl).int_inv underlying3;obtain⟨x20,rfl,_⟩:=(hp 20 _ p20 rfl rfl).int_inv underlying3;obtain⟨x21,rfl,_⟩:=(hp 21 _ p21 rfl rfl).int_inv underlying3;obtain⟨d22,l22,rfl,h22,n22,a22⟩:=Dx (d0:=Be) underlying59 (show prog.cellsOf 136=2 by kernel_rfl) (fun ds=>AhM) (hp 22 _ p22 rfl rfl);obtain⟨d23,l23,rfl,h23,n23,a23⟩:=Dx (d0:=set0) underlying60 (show prog.cellsOf 125=2 by kernel_rfl) (fun ds=>AlK) (hp 23 _ p23 rfl rfl);obtain⟨d24,l24,rfl,h24,n24,a24⟩:=Dx (d0:=pub0) underlying61 (show prog.cellsOf 122=3 by kernel_rfl) (fun ds=>AlM) (hp 24 _ p24 rfl rfl);obtain⟨d25,l25,rfl,h25,n25,a25⟩:=Dx (d0:=sub0) underlying62 (show prog.cellsOf 68=4 by kernel_rfl) (fun ds=>AlH) (hp 25 _ p25 rfl rfl);refine⟨⟨x0,x1,x2,z0a,z0b,z0c,z0d,z0e,z0f,z1a,z1b,z1c,z1d,z1e,z1f,z2a,z2b,z2c,z2d,z2e,z2f,x4,x5,x6,x7,x8,x9,x10a,x10b,x10c,x11a,x11b,x11c,x12a,x12b,x12c,x13,x14,x15,x16a,x16b,x16c,x17a,x17b,x17c,x18,x19,x20,x21,l22,l23,l24,l25⟩, ?_, ?_⟩
  ·exact DEs.app (a:=[_,_,_,_,_,_,_,_,_,_,_,_,_,_,_,_,_,_,_,_,_,_,_,_,_,_,_,_,_,_,_,_,_,_,_,_,_,_,_,_,_,_,_,_,_,_,_,_,_]) (.refl _) (.cons h22 (.cons h23 (.cons h24 (.cons h25 .nil))))
  ·unfold Ci;simp only[n22,n23,n24,n25,a23,Bool.and_self]
theorem shp_rels{ds:List D}(h:Shp prog 28 ds): ∃(d:D) (l:List SRel),ds=[d]/\DE d (Di l)/\Au l=true/\l.all Ci=true:=
 Dx (d0:=rel0) underlying28 (show prog.cellsOf 64=53 by kernel_rfl) (fun ds=>AlL) h
end Go.Y.se
namespace Go.Y.tb
open Go.RowKit Go.Eb Go.Y.st
open Go.Y.sg (eCf D8)
def okcS(c:SCfg):Bool:=okCf c&& !Ej c
theorem Df{c:SCfg}(h:okcS c=true):okCf c=true/\Ej c=false:=by
 unfold okcS at h;simpa using h
def ZLs:KLs where
 okl:=okG eCf okCf
 lg x:=Ej (theT eCf x)
 okc:=okG eCf okcS
 chk x:=Eu (theT eCf x)
 sv x:=Pq (theT eCf x)
 dg x:=dgS (Pq (theT eCf x))
theorem sLs:OrcS prog (oLs ZLs):=
 .cons (.p AmX kn.c9k) (.cons (.t' (enc:=eCf) (c:=okCf) (r:=fun c=>vB (Ej c)) fun c h=>clg9 c h)
  (.cons (.t' (enc:=eCf) (c:=okcS) (r:=fun c=>vI (Eu c)) fun c h=>cTab c (Df h).1 (Df h).2)
  (.cons (.t' (enc:=eCf) (c:=okcS) (r:=fun c=>vI (Eu c)) fun c h=>cRtb c (Df h).1 (Df h).2)
  (.cons (.t' (enc:=eCf) (c:=okcS) (r:=fun c=>vS (Pq c)) fun c h=>cSav (Df h).1 (Df h).2)
  (.cons (.t' (enc:=eCf) (c:=okcS) (r:=fun c=>vS (Pq c)) fun c h=>cRsv (Df h).1 (Df h).2)
  (.cons (.t' (enc := eCf) (c := okcS) (r := fun c => v32 (dgS (Pq c))) fun c h => cDig (by have:=Vw c;omega) (cSav (Df h).1 (Df h).2))
  (.cons (.t' (enc:=eCf) (c:=okcS) (r:=fun c=>v32 (dgS (Pq c))) fun c h=>cRdg (by have:=Vw c;omega) (cRsv (Df h).1 (Df h).2)) .nil)))))))
theorem Api(c:SCfg)(h:okCf c=true):CR prog 6 [aCfg c] [] (vB true) []:=by
 refine Mc sLs.ok func6 (by kernel_rfl) rfl ((evTS ZLs c).trans ?_);have k1:ZLs.okl [AV.agg (List.map C.d (cfgC c))]=true:=Ao D8 (c:=okCf) c h;have k3:ZLs.lg [AV.agg (List.map C.d (cfgC c))]=Ej c:=by
  dsimp only[ZLs];rw[show theT eCf [AV.agg (List.map C.d (cfgC c))]=c from Aj D8 c]
 rw[k1,k3,za];cases hL:Ej c with
 |true=>rfl|false=>
  have k2:ZLs.okc [AV.agg (List.map C.d (cfgC c))]=true:=Ao D8 (c:=okcS) c (by unfold okcS;rw[h,hL];rfl);rw[k2,beq_self_eq_true,beq_self_eq_true,beq_self_eq_true];rfl
theorem AhP{ds:List D}(h:Shp prog 30 ds): ∃c,DEs ds (cfgC c)/\okCf c=true:=by
 obtain⟨ps,rfl,hl,hp⟩:=h.struct_inv underlying30;match ps,hl with
 |[p0,p1],_=>
  obtain⟨s,h0,hs⟩:=AlI (hp 0 _ p0 rfl rfl);obtain⟨d,l,rfl,h1,n1,a1⟩:=Go.Y.se.shp_rels (hp 1 _ p1 rfl rfl);refine⟨⟨s,l⟩,h0.app (.cons h1 .nil), ?_⟩;unfold okCf;rw[hs,n1,a1];rfl
end Go.Y.tb
namespace Go.Proofs.YtbpndheehcbldaaGreatDoor.ito
open Go Go.Eb
open Go.ChangeShapes Go.WideShapes Go.ChangeAt Go.WideMaps Go.WideElems Go.RowKit
theorem own:ownKnob prog.godebug=none:=by kernel_rfl
abbrev Ach:List (String×DataW Unit):=Rows.tablesSendsRow.laid
abbrev tT:TypeId:=315
theorem tTab:(prog.globals[0]?).map (·.type)=some tT:=by kernel_rfl
theorem uTab:prog.underlying tT=some (.array 20 300):=by kernel_rfl
theorem uInt:prog.underlying 300=some (.int .u64):=by kernel_rfl
theorem cTab:prog.cellsOf tT=20:=by kernel_rfl
theorem cInt:prog.cellsOf 300=1:=by kernel_rfl
section
variable {W:World}{base:Nat}{sp:Nat ->Bool}{held:Bool}{fuel:Nat}
theorem AcT{cs:List Value}{p:List MemPlace}(h:DataW.trod (fun _=>()) prog W base sp held fuel tT cs=some (Rows.laid_internal_strconv_uint64pow10,p)):cs=Lib.pow10Tab.map (.int .u64):=by
 obtain⟨xs,m,rfl,hx,hlen,hn,hel⟩:=DataW.trod_array uTab h;rw[cTab]at hlen;rw[cInt]at hel;have hx1:(Lib.pow10Tab.map fun k=>DataW.lit (H:=Unit) (.int .u64 k))=xs.map (·.1):=by
  simp only[Prod.mk.injEq]at hx;have:=hx.1;simp only[Rows.laid_internal_strconv_uint64pow10,DataW.agg.injEq]at this;exact this
 have h20:Lib.pow10Tab.length=20:=by simp[Lib.pow10Tab]
 refine List.ext_getElem (by simp[hlen,h20]) fun i h1 h2=> ?_
 have hi:i<20:=by omega
 have he:=hel i hi;have hxi:i<xs.length:=by omega
 rw[zn hxi]at he;obtain⟨k,e1,e2,_⟩:=DataW.trod_int uInt he;have hi':i<Lib.pow10Tab.length:=by omega
 have e3:xs[i].1= .lit (.int .u64 Lib.pow10Tab[i]):=by
  have:=congrArg (fun l=>l[i]?) hx1;simpa[hxi,hi']using this.symm
 rw[e2]at e3;simp only[DataW.lit.injEq,Lit.int.injEq,true_and]at e3;have e4:(cs.drop (i*1)).take 1=[cs[i]]:=by
  rw[Nat.mul_one,List.drop_eq_getElem_cons h1];rfl
 rw[e4]at e1;simp only[List.cons.injEq,and_true]at e1;rw[List.getElem_map];simp[e1,e3]
end
theorem AiT{W:World}(h:laidMetH prog Ach W): ∃t fz,W.heap[0]? =some (.cells tab t fz):=by
 rw[MakeChecks.laidMetH_plain _ _ _ (by kernel_rfl)]at h;have⟨ps,⟨_,_,_,_,_,_,_,_,_,_,⟨_,_,_,_,_,_,_,_,_,_,⟨g,t,cs,f,p,q,hg,ht,hv,hd,_,_⟩,_⟩,_⟩,_,_⟩:=h;have e0:some g=some 0:=hg.symm.trans (by kernel_rfl);obtain rfl:=Option.some.inj e0;obtain rfl:=Option.some.inj (tTab.symm.trans ht);have e:=AcT hd;unfold World.var? at hv;rw[hg]at hv;simp only[Option.bind_some]at hv;split at hv
 ·rename_i cs' t' fz hw;simp only[zj]at hv;subst hv;refine⟨t',fz, ?_⟩;rw[hw];have e1:cs'=tab:=by
   apply Array.ext';rw[e];rfl
  rw[e1]
 ·cases hv
theorem Amz{W:World}(h:laidMetH prog Ach W):Glob (allI W) W:=by
 obtain⟨t,fz,hw⟩:=AiT h;intro x hx;unfold Wu at hx;obtain⟨i,hi,rfl⟩:=List.mem_map.1 hx;refine⟨(Array.getElem?_eq_some_iff.1 hw).1, ?_⟩;show World.cell? W ⟨0,i,none⟩=_;unfold World.cell?;rw[hw];show tab[i]? =_;rw[bltD];by_cases h20:i<20
 ·rw[AcR i h20,zk h20];rfl
 ·rw[zt h20,Array.getElem?_eq_none (by rw[Z1];omega)];rfl
theorem AiB(os:Os)(args:Array Value):laidMetH prog Ach ((World.doorLaid prog 400 os).forCall (fun _ _=>0) ⟨#[],args,[]⟩).memory:=
 laidMetH_of_parts3 (fuel:=8) (laidMet_of_run' 8 (by kernel_rfl) (by kernel_rfl)) (by kernel_rfl) (by kernel_rfl)
end Go.Proofs.YtbpndheehcbldaaGreatDoor.ito
namespace Go.Proofs.YtbpndheehcbldaaGreatDoor.facts
open Go Go.RowKit
theorem f_in:(Rows.tablesSaveRow.inPlace==prog.inPlace 6)=true:=by kernel_rfl
theorem f_wf:Rows.tablesSaveRow.wf (OpenSpec.ofChange Rows.tablesSaveSpec)=true:=by kernel_rfl
theorem f_pi:(Rows.tablesSaveRow.pinned==Rows.tablesSaveRow.pinnedBy)=true:=by kernel_rfl
theorem f_mk:(prog.make==some Rows.tablesSaveRow.make)=true:=by kernel_rfl
theorem f_na:(Rows.tablesSaveRow.named==prog.varsNamed 6)=true:=by kernel_rfl
theorem f_un:(Rows.tablesSaveRow.unfollowed==prog.unfollowed 6)=true:=by kernel_rfl
theorem f_re:(Rows.tablesSaveRow.recurses==prog.recurses 6)=true:=by kernel_rfl
theorem f_sh:prog.stopsHeard=true:=by kernel_rfl
theorem f_rd:f6.params.all (prog.readableRec ·)=true:=by kernel_rfl
theorem f_nt:namedTie prog Rows.tablesSaveRow.named Rows.tablesSaveSpec.vars=true:=by kernel_rfl
theorem f_la:laidOutB prog=true:=by kernel_rfl
theorem f_ma:mapsRowed prog=true:=by kernel_rfl
theorem f_pk:(Rows.tablesSaveRow.plainKeys==prog.plainKeys)=true:=by kernel_rfl
theorem f_me:prog.mayEnter=true:=by kernel_rfl
theorem f_li:(Rows.tablesSaveRow.lifted==prog.liftsFinal)=true:=by kernel_rfl
theorem joined:joinedFacts prog 6 f6 Rows.tablesSaveSpec Rows.tablesSaveRow=true:=by
 simp only[joinedFacts,Bool.and_eq_true]
 repeat' apply And.intro
 all_goals first
  |with_reducible exact f_in|with_reducible exact f_un|with_reducible exact f_re|with_reducible exact f_na|with_reducible exact f_la|with_reducible exact f_ma|with_reducible exact f_pk|with_reducible exact f_me|with_reducible exact f_sh|with_reducible exact f_li|with_reducible exact f_mk|with_reducible exact f_wf|with_reducible exact f_pi|with_reducible exact f_rd|with_reducible exact f_nt|as_aux_lemma=>kernel_rfl
end Go.Proofs.YtbpndheehcbldaaGreatDoor.facts
end
