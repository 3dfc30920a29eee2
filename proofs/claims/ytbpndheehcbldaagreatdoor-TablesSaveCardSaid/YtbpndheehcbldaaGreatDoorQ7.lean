/-
  Go code evaluated: part 7. No condition.
-/
import Derived.Test.YtbpndheehcbldaaGreatDoorQ6
import Derived.Test.YtbpndheehcbldaaGreatDoorProg
import Derived.KernelRfl
import Derived.Laws.RangeAny
open Go.IntKind (wrap u32 i32)
noncomputable section
open Go.Proofs Go.Proofs.Tryz
set_option maxRecDepth 100000
namespace Go.Y.en
open Go.RowKit Go.Eb
abbrev eSRl:=en2 aSta aRel
theorem AaV:InjT eSRl:=K4 Ee aRel_inj
def fB(a:SSta×SRel):Bool:= @decide (NFit a.2/\LFit a.2/\PFit a.1 a.2) (Classical.propDecidable _)
theorem Akk{a:SSta×SRel}:fB a=true↔NFit a.2/\LFit a.2/\PFit a.1 a.2:=by unfold fB;simp
def ZR(s:SSta)(l:List SRel)(e:Int×Int):KR where
 okc:=okEq (aSR s l)
 ci _:=e.1
 ce _:=e.2
 oki:=okG eSRl fB
 iw x:=Aw (Cb (relW (theT eSRl x).1 (theT eSRl x).2))
 ik x:=A6 (Ds (theT eSRl x).1 (theT eSRl x).2)
theorem sRe{s:SSta}{l:List SRel}{e:Int×Int}(hck:CX prog 29 (aSR s l) [] (tIE e) []):OrcS prog (oRe (ZR s l e)):=
 .cons (.g fun x h=>by obtain rfl:=Pz.1 h;exact hck) (.cons (.t' (enc:=eSRl) (c:=fB) (r:=fun a=> .agg [.d (dI 0), .d (Aw (Cb (relW a.1 a.2))), .d (dB true), .d (A6 (Ds a.1 a.2))]) fun a h=>by
  obtain⟨h1,h2,h3⟩:=Akk.1 h;exact citm h1 h2 h3) .nil)
theorem Ape{s:SSta}{l:List SRel}{e:Int×Int}(hck:CX prog 29 (aSR s l) [] (tIE e) [])(hf:e.2=0 ->RFit s l):CX prog 39 (aSR s l) [] (.c (.d (Bf (Y7 s l e.2)))) []:=by
 have ev:=AqF (ZR s l e) s l 1001;have k1:KR.okc (ZR s l e) [AV.agg (List.map C.d (staC s)),AV.c (C.d (Ad ((53:Nat)) relC rel0 l))]=true:=Pz.2 rfl;rw[k1,za]at ev;cases h0:(e.2==0)with
 |false=>
  have h1:(KR.ce (ZR s l e) [AV.agg (List.map C.d (staC s)),AV.c (C.d (Ad ((53:Nat)) relC rel0 l))] !=(0:Int))=true:=by
   show(e.2 !=0)=true;unfold bne;rw[h0];rfl
  rw[h1,za]at ev;unfold Y7;rw[h0];exact(Am (sRe hck).ok func39 bren rfl ev).le (Pt (.nil _ _)) (.refl _)
 |true=>
  have he:e.2=0:=eq_of_beq h0;have hR:=hf he;have h1:(KR.ce (ZR s l e) [AV.agg (List.map C.d (staC s)),AV.c (C.d (Ad ((53:Nat)) relC rel0 l))] !=(0:Int))=false:=by
   show(e.2 !=0)=false;rw[he];rfl
  rw[h1,zb]at ev;have hle:=hR.le;obtain⟨f',r1,r2⟩:=app_loop (L:=fun m n f i=>R0 (ZR s l e) s l 1001 m n f i) (K:=fun n f=>some (T.leaf (AV.c (C.row 0 4 n),[(0,Blk.row n f 4 176)]))) (l:=l) (d:=rel0) (c:=Af) (d0:=i0) (ch:=fun x=>[dI 0,Aw (Cb (relW s x)),dB true,A6 (Ds s x)]) (e:=Ds s) (sz:=4)
   (fun m k n f hk hn=>by
     show R0 (ZR s l e) s l 1001 (m+1) n f k=R0 (ZR s l e) s l 1001 m (n+1) _ _;have q1:KR.oki (ZR s l e) [AV.agg (List.map C.d (staC s)),AV.agg (List.map C.d (relC (List.getD l k rel0)))]=true:=Ao AaV (c:=fB) (s,l.getD k rel0) (Akk.2 ⟨hR.nf k hk,hR.lf k hk,hR.pf k hk⟩);have t1:theT eSRl [AV.agg (List.map C.d (staC s)),AV.agg (List.map C.d (relC (List.getD l k rel0)))]=(s,l.getD k rel0):=Aj AaV (s,l.getD k rel0);have q2:KR.iw (ZR s l e) [AV.agg (List.map C.d (staC s)),AV.agg (List.map C.d (relC (List.getD l k rel0)))]=Aw (Cb (relW s (l.getD k rel0))):=by dsimp only[ZR];rw[t1]
     have q3:KR.ik (ZR s l e) [AV.agg (List.map C.d (staC s)),AV.agg (List.map C.d (relC (List.getD l k rel0)))]=A6 (Ds s (l.getD k rel0)):=by dsimp only[ZR];rw[t1]
     rw[Adb,lt1 hk,za,ge0,tt,za,tn,q1,za,appOk5 hn,za,q2,q3,nx hk])
   (fun m n f=>by
     show R0 (ZR s l e) s l 1001 (m+1) n f (l.length:Int)=_;rw[Adb,lt0 (zp _),zb])
   (fun _=>rfl) (fun k hk=>U9 (x:=Ds s (l.getD k rel0)) rfl rfl (.refl _) (.refl _)) 1001 0 0 (fun _=>[]) [] (by omega) (by omega) (by omega) (.nil _)
  simp only[Nat.sub_zero,zq,List.nil_append]at r1 r2;have hc:=(Mc (sRe hck).ok func39 bren rfl (ev.trans r2)).data (y:= .c (.d (.sl 4 (0+l.length) f'))) rfl;refine(CX.of_cr func39 bren hc).le ?_ (.refl _);unfold Y7;rw[h0];exact Pt (r1.de (sz:=4))
end Go.Y.en
namespace Go.Y.en
open Go.RowKit Go.Eb Go.Y.st Go.Y.se
theorem chk_all(qd:List SBay): ∀(l:List SRel) (N:List BA) (B:List Int) (i:Nat),(Bu qd N B i l).2=0 -> ∀k,k<l.length -> ∃N B,B3 qd N B (l.getD k rel0)=0
 |[],_,_,_,_,k,hk=>by simp at hk|r::t,N,B,i,h,k,hk=>by
  simp only[Bu]at h;cases e:(B3 qd N B r !=0)with
  |true=>
   rw[e]at h;simp only[za]at h;rw[h]at e;cases e
  |false=>
   rw[e]at h;simp only[zb]at h;cases k with
   |zero=>exact⟨N,B,by simpa using e⟩|succ k=>exact chk_all qd t _ _ _ h k (by simpa using hk)
theorem Mi{qd:List SBay}{N:List BA}{B:List Int}{r:SRel}(h:B3 qd N B r=0):Bh qd B r=0/\D4 r=0:=by
 unfold B3 at h;obtain⟨_,h⟩:=bz h (by decide);cases e:inB N r.name with
 |true=>rw[e]at h;exact absurd h (show ¬(8:Int)=0 by decide)|false=>
  rw[e,zb]at h;exact bz' h
theorem AlT{qd:List SBay}{B:List Int}{r:SRel}{k:Int}(h:Q3 qd B r k=0):0<=r.bay/\r.bay<(qd.length:Int):=by
 unfold Q3 at h;obtain⟨h1,_⟩:=bz h (by decide);unfold Aa at h1;simp only[zd,zi]at h1;omega
theorem pfit{s:SSta}{B:List Int}{r:SRel}(h:Bh s.qd B r=0):PFit s r:=by
 unfold Bh at h;cases e1:(r.kind==1)with
 |true=>rw[e1]at h;exact .inr ⟨.inl (eq_of_beq e1),AlT h⟩|false=>
  cases e2:(r.kind==2)with
  |true=>rw[e1,e2]at h;exact .inr ⟨.inr (.inl (eq_of_beq e2)),AlT h⟩|false=>
   cases e3:(r.kind==3)with
   |true=>rw[e1,e2,e3]at h;exact .inr ⟨.inr (.inr (eq_of_beq e3)),AlT h⟩|false=>
    cases e4:(r.kind==4)with
    |true=>exact .inl (eq_of_beq e4)|false=>rw[e1,e2,e3,e4]at h;exact absurd h (show ¬(10:Int)=0 by decide)
theorem Wm{J:Type}{valid:J ->Bool}{key:J ->BA}{rest:J ->Int}{d:J}: ∀(l:List J) (seen:List BA),Cd valid key rest seen l=0 -> ∀k,k<l.length ->rest (l.getD k d)=0
 |[],_,_,k,hk=>by simp at hk|x::r,seen,h,k,hk=>by
  simp only[Cd]at h;obtain⟨_,h⟩:=bz h (by decide);cases e:inB seen (key x)with
  |true=>rw[e]at h;exact absurd h (show ¬(8:Int)=0 by decide)|false=>
   rw[e,zb]at h;obtain⟨h1,h2⟩:=bz' h;cases k with
   |zero=>exact h1|succ k=>exact Wm r _ h2 k (by simpa using hk)
theorem AlS{x:SPub}(h:Dz x=0):nI x.fst=true/\nI x.max=true:=by
 unfold Dz at h;cases e1:decide (x.fst>=(1:Int))with
 |false=>rw[e1]at h;exact absurd h (show ¬(2:Int)=0 by decide)|true=>
  rw[e1,za]at h;obtain⟨e2,h⟩:=bz h (by decide);cases e3:decide (x.max>=x.fst)with
  |false=>rw[e3]at h;exact absurd h (show ¬(2:Int)=0 by decide)|true=>
   rw[e3,za]at h;obtain⟨e4,_⟩:=bz h (by decide);have a1:=of_decide_eq_true e1;have a2:=of_decide_eq_true e2;have a3:=of_decide_eq_true e3;have a4:=of_decide_eq_true e4;unfold nI;exact⟨by rw[zk,zk];rfl,by rw[zk,zk];rfl⟩
theorem lfit{r:SRel}(h:D4 r=0)(hl:largeR r=false):LFit r:=by
 have hp:M1 r.qk=0:=by
  unfold D4 at h;obtain⟨_,h⟩:=bz h (by decide);obtain⟨_,h⟩:=bz h (by decide);obtain⟨_,h⟩:=bz h (by decide);obtain⟨_,h⟩:=bz h (by decide);obtain⟨_,h⟩:=bz h (by decide);obtain⟨_,h⟩:=bz h (by decide);obtain⟨_,h⟩:=bz h (by decide);unfold Fz at h;obtain⟨_,h⟩:=bz' h;obtain⟨_,h⟩:=bz' h;exact(bz' h).1
 unfold M1 at hp;have hq:=Wm (d:=pub0) r.qk [] hp;unfold largeR at hl;simp only[Bool.or_eq_false_iff,decide_eq_false_iff_not]at hl;have⟨l1,l2,l3,l4,l5,_⟩:=hl;refine⟨by omega,by omega,by omega,by omega,fun k hk=> ?_,fun k hk=>(AlS (hq k hk)).1,fun k hk=>(AlS (hq k hk)).2⟩;have hm:r.qj.getD k set0∈r.qj:=by
  rw[zh,zn hk];exact List.getElem_mem hk
 have:=List.any_eq_false.1 l5 _ hm;have h2:=of_decide_eq_false (by simpa using this:decide (30<(r.qj.getD k set0).qm.length)=false);omega
theorem rfit{s:SSta}{l:List SRel}(h:(Bu s.qd (Bd s) [] 0 l).2=0)(hl:l.length<=20)(hL:l.any largeR=false):RFit s l:=by
 have key: ∀k,k<l.length -> ∃N B,B3 s.qd N B (l.getD k rel0)=0:=chk_all s.qd l _ _ _ h;refine⟨fun k hk=> ?_,fun k hk=> ?_,fun k hk=> ?_,by omega⟩
 ·obtain⟨N,B,e⟩:=key k hk;exact nfit (Mi e).2
 ·obtain⟨N,B,e⟩:=key k hk;refine lfit (Mi e).2 ?_;have hm:l.getD k rel0∈l:=by
   rw[zh,zn hk];exact List.getElem_mem hk
  exact by simpa using List.any_eq_false.1 hL _ hm
 ·obtain⟨N,B,e⟩:=key k hk;exact pfit (Mi e).1
end Go.Y.en
namespace Go.Y.wd
open Go.RowKit Go.Eb
theorem ev46(r:Int):Ai prog Orc.nil na 1 f221 (Ac f221) [v32 r] []=
 (bif decide (r>=65)then(bif decide (r<=90)then leB true else(bif decide (r>=97)then leB (decide (r<=122))else leB false))else(bif decide (r>=97)then leB (decide (r<=
 122))else leB false)):=by kernel_rfl
theorem ev47(r:Int):Ai prog Orc.nil na 1 f248 (Ac f248) [v8 r] []=
 (bif decide (r>=97)then(bif decide (r<=122)then leB true else(bif decide (r>=65)then leB (decide (r<=90))else leB false))else(bif decide (r>=65)then leB (decide (r<=
 90))else leB false)):=by kernel_rfl
theorem ev28(r:Int):Ai prog Orc.nil na 1 f256 (Ac f256) [v8 r] []=
 (bif decide (r>=48)then leB (decide (r<=57))else leB false):=by kernel_rfl
def C0(r:Int):Bool:=(decide (65<=r)&&decide (r<=90))||(decide (97<=r)&&decide (r<=122))
def Mb(r:Int):Bool:=decide (48<=r)&&decide (r<=57)
def o29:Orc:=Orc.cons 221 (ansP Agc fun r=>vB (C0 r)) Orc.nil
def o30:Orc:=Orc.cons 248 (ansP dec8 fun r=>vB (C0 r)) (Orc.cons 256 (ansP dec8 fun r=>vB (Mb r)) Orc.nil)
theorem ev29(r:Int):Ai prog o29 na 1 f160 (Ac f160) [v32 r] []=
 (bif C0 r then(bif C0 r then leB true else(bif r==95 then(bif r==95 then leB true else leB false)else(bif r==45 then(bif r==45 then leB true else leB false)else(bif
 r==43 then(bif r==43 then leB true else leB false)else(bif r==46 then(bif r==46 then leB true else leB false)else(bif r==47 then(bif r==47 then leB true else leB
 false)else(bif r==58 then leB true else leB false)))))))else(bif decide (r>=48)then(bif decide (r<=57)then leB true else(bif r==95 then(bif r==95 then leB true
 else leB false)else(bif r==45 then(bif r==45 then leB true else leB false)else(bif r==43 then(bif r==43 then leB true else leB false)else(bif r==46 then(bif r==
 46 then leB true else leB false)else(bif r==47 then(bif r==47 then leB true else leB false)else(bif r==58 then leB true else leB false)))))))else(bif r==95 then(bif
 r==95 then leB true else leB false)else(bif r==45 then(bif r==45 then leB true else leB false)else(bif r==43 then(bif r==43 then leB true else leB false)else(bif
 r==46 then(bif r==46 then leB true else leB false)else(bif r==47 then(bif r==47 then leB true else leB false)else(bif r==58 then leB true else leB false)))))))):=by kernel_rfl
theorem ev30(r:Int):Ai prog o30 na 1 f254 (Ac f254) [v8 r] []=
 (bif C0 r then leB true else(bif Mb r then leB true else(bif r==95 then leB true else(bif r==45 then leB true else(bif r==43 then leB true else(bif r==46 then leB true
 else(bif r==47 then leB true else leB (r==58)))))))):=by kernel_rfl
def Ct(r:Int):Bool:=C0 r||Mb r||r==95||r==45||r==43||r==46||r==47||r==58
def o13:Orc:=Orc.cons 160 (ansP Agc fun r=>vB (Ct r)) Orc.nil
def AnD:=A1 [(2,⟨[0,6],[]⟩)]
def L13(s:BA)(g m pos:Nat):=G5 prog o13 AnD 0 g (sub [true,false,true,false,false] (Ac f216)) m ⟨frm [(0,vS s),(6, .c (.ptr 0 0))] 0 f216.ntmps,[(0, .iter s pos)],1⟩ (kAt prog o13 AnD 0 g [true,false,true,false] (Ac f216) (kEnd prog f216 0))
theorem ev13(s:BA)(g:Nat):Ai prog o13 AnD g f216 (Ac f216) [vS s] []=
 L13 s g g 0:=by kernel_rfl
theorem st13(s:BA)(g m pos:Nat):L13 s g (m+1) pos=
 (bif Nat.blt pos (ByteArray.size s)then(bif !Ct (↑(Prod.fst (Utf8.decode s pos)):Int)then leB false else L13 s g m (pos+Prod.snd (Utf8.decode s pos)))else leB !s.toList==
 ByteArray.toList (⟨#[]⟩)):=by kernel_rfl
theorem b46:f221.body=some (Ac f221):=by kernel_rfl
theorem b47:f248.body=some (Ac f248):=by kernel_rfl
theorem b28:f256.body=some (Ac f256):=by kernel_rfl
theorem b29:f160.body=some (Ac f160):=by kernel_rfl
theorem b30:f254.body=some (Ac f254):=by kernel_rfl
theorem b13:f216.body=some (Ac f216):=by kernel_rfl
theorem c46(r:Int):CX prog 221 [v32 r] [] (vB (C0 r)) []:=by
 refine Am (Orc.nil_ok _) func221 b46 rfl ((ev46 r).trans ?_);unfold C0;by_cases h1:65<=r<;>by_cases h2:r<=90<;>by_cases h3:97<=r<;>by_cases h4:r<=122<;>simp[h1,h2,h3,h4]
theorem c47(r:Int):CX prog 248 [v8 r] [] (vB (C0 r)) []:=by
 refine Am (Orc.nil_ok _) func248 b47 rfl ((ev47 r).trans ?_);unfold C0;by_cases h1:65<=r<;>by_cases h2:r<=90<;>by_cases h3:97<=r<;>by_cases h4:r<=122<;>simp[h1,h2,h3,h4]
theorem c28(r:Int):CX prog 256 [v8 r] [] (vB (Mb r)) []:=by
 refine Am (Orc.nil_ok _) func256 b28 rfl ((ev28 r).trans ?_);unfold Mb;by_cases h1:48<=r<;>by_cases h2:r<=57<;>simp[h1,h2]
theorem ok29:B4 prog o29:=Orc.cons_ok (Orc.nil_ok _) (Fq U3 c46)
theorem ok30:B4 prog o30:=Orc.cons_ok (Orc.cons_ok (Orc.nil_ok _) (Fq U1 c28)) (Fq U1 c47)
theorem c29(r:Int):CX prog 160 [v32 r] [] (vB (Ct r)) []:=by
 refine Am ok29 func160 b29 rfl ((ev29 r).trans ?_);unfold Ct Mb;simp only[ge_iff_le];generalize C0 r=l;generalize decide (48<=r)=d1;generalize decide (r<=57)=d2;generalize (r==95)=e1;generalize (r==45)=e2;generalize (r==43)=e3;generalize (r==46)=e4;generalize (r==47)=e5;generalize (r==58)=e6;cases l<;>cases d1<;>cases d2<;>cases e1<;>cases e2<;>cases e3<;>cases e4<;>cases e5<;>cases e6<;>rfl
theorem c30(r:Int):CX prog 254 [v8 r] [] (vB (Ct r)) []:=by
 refine Am ok30 func254 b30 rfl ((ev30 r).trans ?_);unfold Ct;generalize C0 r=l;generalize Mb r=d;generalize (r==95)=e1;generalize (r==45)=e2;generalize (r==43)=e3;generalize (r==46)=e4;generalize (r==47)=e5;generalize (r==58)=e6;cases l<;>cases d<;>cases e1<;>cases e2<;>cases e3<;>cases e4<;>cases e5<;>rfl
theorem ok13:B4 prog o13:=Orc.cons_ok (Orc.nil_ok _) (Fq U3 c29)
abbrev bs(s:BA):List UInt8:=s.data.toList
theorem Pp(s:BA):(bs s).length=s.size:=by simp[bs]
def Da(s:BA):Bool:=(bs s).all (fun c=>Ct c.toNat)&& !(s.toList==(ByteArray.mk #[]).toList)
theorem Qh(l:List UInt8)(p:UInt8 ->Bool){k:Nat}(h:k<l.length):(l.drop k).all p=(p (l.getD k 0)&&(l.drop (k+1)).all p):=by
 rw[List.drop_eq_getElem_cons h,List.all_cons];simp[List.getD,h]
theorem wrap_id{n:Int}(h0: -9223372036854775808<=n:=by omega)(h1:n<=9223372036854775807:=by omega):wrap IntKind.i64 n=n:=by
 exact IntWalk.i64_in n (by omega)
theorem lp13(s:BA)(g:Nat): ∀(m k:Nat),k<=s.size ->s.size -k<m ->
  L13 s g m k=some (.leaf (vB ((bs s|>.drop k).all (fun c=>Ct c.toNat)&& !(s.toList==(ByteArray.mk #[]).toList)),[]))
 |0,k,_,h=>by omega|m+1,k,hk,h=>by
  rw[st13];by_cases hlt:k<s.size
  ·have hl:k<(bs s).length:=by rw[Pp];exact hlt
   have e1:Nat.blt k s.size=true:=by rw[bltD];simpa using hlt
   have eb:(bs s).getD k 0=s[k]:=by
    have hl':k<s.data.size:=hlt;simp only[bs,List.getD,Array.getElem?_toList,Array.getElem?_eq_getElem hl',Option.getD_some];rfl
   rw[Qh _ _ hl,eb];simp only[e1,za];by_cases ha:s[k].toNat<128
   ·rw[decode_ascii s k hlt ha];simp only;rw[lp13 s g m (k+1) (by omega) (by omega)];cases Ct (s[k].toNat:Int)<;>rfl
   ·obtain⟨h1,h2⟩:=decode_high s k hlt (by omega);have no: ∀r:Int,128<=r ->Ct r=false:=fun r hr=>by
     unfold Ct C0 Mb;have a1: ¬r<=90:=by omega
     have a2: ¬r<=122:=by omega
     have a3: ¬r<=57:=by omega
     have a4: ¬r=95:=by omega
     have a5: ¬r=45:=by omega
     have a6: ¬r=43:=by omega
     have a7: ¬r=46:=by omega
     have a8: ¬r=47:=by omega
     have a9: ¬r=58:=by omega
     simp[a1,a2,a3,a4,a5,a6,a7,a8,a9]
    rw[no _ (by omega),no _ (by omega)];rfl
  ·have e1:Nat.blt k s.size=false:=by rw[bltD];simpa using hlt
   have hd:(bs s).drop k=[]:=zl (by rw[Pp];omega);simp only[e1,zb];rw[hd];rfl
theorem c13(s:BA):CX prog 216 [vS s] [] (vB (Da s)) []:=by
 refine Am ok13 func216 b13 rfl ((ev13 s (s.size+1)).trans ?_);exact lp13 s (s.size+1) (s.size+1) 0 (by omega) (by omega)
def val:List UInt8 ->Int ->Int
 |[],n=>n|c::r,n=>val r (10*n+(c.toNat -48))
def digs(l:List UInt8):Bool:=l.all fun c=>Mb c.toNat
theorem AcI{n:Int}(h0:0<=n)(h1:n<=1000):wrap i32 n=n:=by
 simp[wrap,show i32.bits=32 from rfl];omega
end Go.Y.wd
namespace Go.Y.de
open Go.RowKit Go.Eb Go.Y.st
def oDc(okd:LB)(dcd:List AV ->BA):Orc:=Orc.cons 156 (ansG okd fun x=>vS (dcd x)) Orc.nil
def anndec:Ann:=A1 []
theorem bdec:f156.body=some (Ac f156):=by kernel_rfl
theorem evdec(okd:LB)(dcd:List AV ->BA)(n:Int)(g:Nat):Ai prog (oDc okd dcd) anndec g f156 (Ac f156) [vI n] []=
 (bif decide (n<0)then(bif okd [iA (wrap .i64 (0 -n))]then(bif decide (ByteArray.size (⟨#[(45:UInt8)]⟩)+ByteArray.size (dcd [.c (.d (.v
 (.int .i64 (wrap .i64 (0 -n)))))])<=9223372036854775807)then some (T.leaf (.c (.d (.v (.string (ByteArray.mk #[45]++dcd [iA (wrap .i64
 (0 -n))])))),[]))else none)else none)else(bif decide (n>=10)then(bif okd [iA (wrap .i64 (Int.tdiv n 10))]then(bif okd [.c (.d (D.v
 (Value.int IntKind.i64 (Int.tmod n 10))))]then(bif decide (ByteArray.size (dcd [iA (wrap .i64 (Int.tdiv n 10))])+ByteArray.size (dcd [.c (.d
 (iD (Int.tmod n 10)))])<=9223372036854775807)then some (T.leaf (.c (.d (.v (.string (dcd [iA (wrap .i64 (Int.tdiv n 10))]++dcd
 [iA (Int.tmod n 10)])))),[]))else none)else none)else none)else(bif Ey 1 (some (.cells [.d (.v (Value.int IntKind.u8 (wrap IntKind.u8
 (wrap .i64 (48+n)))))] ((5:Nat))))then some (T.leaf (.c (.d (.v (.string (K5 1 (some (.cells [.d (.v (Value.int IntKind.u8 (wrap IntKind.u8
 (wrap .i64 (48+n)))))] (5))))))),[]))else none))):=by kernel_rfl
def oSay(okd:LB)(dcd:List AV ->BA):Orc:=Orc.cons 98 (inl prog (oDc okd dcd) na 12 f98) Orc.nil
def oEn(okd:LB)(dcd:List AV ->BA)(okc:LB)(ck:LI)(okb:LB)(bw bk:List AV ->D):Orc:=Orc.cons 28 (ansG okc fun x=>vI (ck x)) (Orc.cons 99 (ansG okb fun x=> .agg [.d (dI 0), .d (bw x), .d (dB true), .d (bk x)]) (oSay okd dcd))
def Xl:Ann:=A1 [(5,⟨[1,4,3],[(3,0,4,176)]⟩),(9,⟨[1,5,3],[(3,0,4,176)]⟩),(14,⟨[1,7,3],[(3,0,4,176)]⟩),(19,⟨[1,9,3],[(3,0,4,176)]⟩)]
def Xz(okd:LB)(dcd:List AV ->BA)(okc:LB)(ck:LI)(okb:LB)(bw bk:List AV ->D)(s:SSta)(g m:Nat)(n1:Nat)(f1:RD)(i4:Int):=LK prog (oEn okd dcd okc ck okb bw bk) Xl 0 g f38 5 m ⟨frm [(1, .c (.ptr 0 0)),(3, .c (.row 1 4 n1)),(4,iA i4)] 0 f38.ntmps,[(0, .cells (List.map C.d (staC s)) 27),(1, .row n1 f1 4 176)],2⟩
def Xy(okd:LB)(dcd:List AV ->BA)(okc:LB)(ck:LI)(okb:LB)(bw bk:List AV ->D)(s:SSta)(g m:Nat)(n1:Nat)(f1:RD)(i5:Int):=LK prog (oEn okd dcd okc ck okb bw bk) Xl 0 g f38 9 m ⟨frm [(1, .c (.ptr 0 0)),(3, .c (.row 1 4 n1)),(5,iA i5)] 0 f38.ntmps,[(0, .cells (List.map C.d (staC s)) 27),(1, .row n1 f1 4 176)],2⟩
def Sd(okd:LB)(dcd:List AV ->BA)(okc:LB)(ck:LI)(okb:LB)(bw bk:List AV ->D)(s:SSta)(g m:Nat)(n1:Nat)(f1:RD)(i7:Int):=LK prog (oEn okd dcd okc ck okb bw bk) Xl 0 g f38 14 m ⟨frm [(1, .c (.ptr 0 0)),(3, .c (.row 1 4 n1)),(7,iA i7)] 0 f38.ntmps,[(0, .cells (List.map C.d (staC s)) 27),(1, .row n1 f1 4 176)],2⟩
def Vg(okd:LB)(dcd:List AV ->BA)(okc:LB)(ck:LI)(okb:LB)(bw bk:List AV ->D)(s:SSta)(g m:Nat)(n1:Nat)(f1:RD)(i9:Int):=LK prog (oEn okd dcd okc ck okb bw bk) Xl 0 g f38 19 m ⟨frm [(1, .c (.ptr 0 0)),(3, .c (.row 1 4 n1)),(9,iA i9)] 0 f38.ntmps,[(0, .cells (List.map C.d (staC s)) 27),(1, .row n1 f1 4 176)],2⟩
theorem benc:f38.body=some (Ac f38):=by kernel_rfl
theorem AqV(okd:LB)(dcd:List AV ->BA)(okc:LB)(ck:LI)(okb:LB)(bw bk:List AV ->D)(s:SSta)(g:Nat):Ai prog (oEn okd dcd okc ck okb bw bk) Xl g f38 (Ac f38) [aSta s] []=
 (bif okc [gA (staC s)]then(bif ck [gA (staC s)] !=0 then some (T.leaf (.c (.d (.v (.slice none 0 0))),[]))else Xz okd dcd okc ck okb bw
 bk s g g 1 (Ae [iD 0,D.sl (1+1) (0+1+1) (Ae [D.v (Value.string (⟨#[115,116,97,116,105,111,110]⟩)),D.v (.bool false),dS s.name,D.v (.bool false)] (1+
 1)),D.v (.bool false),D.v (.slice none 0 0)] 4) 0)else none):=by kernel_rfl
theorem Adw(okd:LB)(dcd:List AV ->BA)(okc:LB)(ck:LI)(okb:LB)(bw bk:List AV ->D)(s:SSta)(g m:Nat)(n1:Nat)(f1:RD)(i4:Int):Xz okd dcd okc ck okb bw bk s g (m+1) n1 f1 i4=
 (bif decide (i4<(↑s.qa.length:Int))then(bif decide (0<=i4)&&decide (i4<(↑s.qa.length:Int))then(bif decide ((n1+1)*64<=140737488355328)&&decide (n1+1<=
 9223372036854775807)then Xz okd dcd okc ck okb bw bk s g m (n1+1) (appF n1 f1 (Ae [iD 0,D.sl (1+1) (0+1+1) (Ae [D.v (.string (⟨#[98,117,(115:
 UInt8)]⟩)),D.v (.bool false),dS (s.qa.getD i4.toNat e0),D.v (.bool false)] (1+1)),D.v (.bool false),D.v (Value.slice none 0 0)] (3+1))) (wrap .i64 (i4+1))
 else none)else none)else Xy okd dcd okc ck okb bw bk s g g n1 f1 0):=by kernel_rfl
theorem Adv(okd:LB)(dcd:List AV ->BA)(okc:LB)(ck:LI)(okb:LB)(bw bk:List AV ->D)(s:SSta)(g m:Nat)(n1:Nat)(f1:RD)(i5:Int):Xy okd dcd okc ck okb bw bk s g (m+1) n1 f1 i5=
 (bif decide (i5<(↑s.qb.length:Int))then(bif decide (0<=i5)&&decide (i5<(↑s.qb.length:Int))then(bif okd [.c (.d (iD (SLine.r1
 (s.qb.getD i5.toNat Ah))))]then(bif okd [iA (SLine.x1 (s.qb.getD i5.toNat Ah))]then(bif okd [iA (SLine.r0 (s.qb.getD
 i5.toNat Ah))]then(bif okd [.c (.d (iD (SLine.x0 (s.qb.getD i5.toNat Ah))))]then(bif decide ((n1+1)*64<=140737488355328)&&decide (n1+
 (1:Nat)<=9223372036854775807)then Xy okd dcd okc ck okb bw bk s g m (n1+1) (appF n1 f1 (Ae [iD 0,D.sl (1+(1:Nat)) (0+1+1+1+1+1+1) (Ae [D.v
 (.string (⟨#[108,105,110,(101:UInt8)]⟩)),D.v (.bool false),dS (SLine.name (s.qb.getD i5.toNat Ah)),D.v (.bool false),D.v (.string (dcd [.c (.d (.v (Value.int
 IntKind.i64 (SLine.r1 (s.qb.getD i5.toNat Ah)))))])),D.v (.bool false),D.v (.string (dcd [iA (SLine.x1 (s.qb.getD i5.toNat Ah))])),D.v (.bool
 false),D.v (.string (dcd [iA (SLine.r0 (s.qb.getD i5.toNat Ah))])),D.v (.bool false),D.v (.string (dcd [iA (SLine.x0
 (s.qb.getD i5.toNat Ah))])),D.v (.bool false)] (1+1)),D.v (.bool false),D.v (.slice none 0 0)] (3+1))) (wrap .i64 (i5+1))else none)else none)else none)
 else none)else none)else none)else Sd okd dcd okc ck okb bw bk s g g n1 f1 0):=by kernel_rfl
theorem Aag(okd:LB)(dcd:List AV ->BA)(okc:LB)(ck:LI)(okb:LB)(bw bk:List AV ->D)(s:SSta)(g m:Nat)(n1:Nat)(f1:RD)(i7:Int):Sd okd dcd okc ck okb bw bk s g (m+1) n1 f1 i7=
 (bif decide (i7<(↑s.qc.length:Int))then(bif decide (0<=i7)&&decide (i7<(↑s.qc.length:Int))then(bif okd [.c (.d (iD (SSrc.emf
 (s.qc.getD i7.toNat src0))))]then(bif okd [iA (SSrc.r1 (s.qc.getD i7.toNat src0))]then(bif okd [iA (SSrc.x1 (s.qc.getD
 i7.toNat src0))]then(bif okd [.c (.d (iD (SSrc.r0 (s.qc.getD i7.toNat src0))))]then(bif okd [iA (SSrc.x0 (s.qc.getD
 i7.toNat src0))]then(bif decide ((n1+1)*64<=140737488355328)&&decide (n1+1<=9223372036854775807)then Sd okd dcd okc ck okb bw bk s g m (n1+(1:Nat)) (appF n1 f1
 (Ae [iD 0,D.sl (1+1) (0+1+1+1+1+1+1+(1:Nat)) (Ae [D.v (.string (⟨#[115,111,117,114,99,101]⟩)),D.v (.bool false),dS (SSrc.name (s.qc.getD
 i7.toNat src0)),D.v (.bool false),D.v (.string (dcd [iA (SSrc.emf (s.qc.getD i7.toNat src0))])),D.v (.bool false),D.v (.string (dcd [.c (.d (.v
 (.int .i64 (SSrc.r1 (s.qc.getD i7.toNat src0)))))])),D.v (Value.bool false),D.v (.string (dcd [iA (SSrc.x1 (s.qc.getD i7.toNat src0))])),D.v (.bool
 false),D.v (Value.string (dcd [iA (SSrc.r0 (s.qc.getD i7.toNat src0))])),D.v (.bool false),D.v (.string (dcd [iA (SSrc.x0
 (s.qc.getD i7.toNat src0))])),D.v (.bool false)] (1+1)),D.v (.bool false),D.v (Value.slice none 0 0)] (3+1))) (wrap .i64 (i7+1))else none)else none)else
 none)else none)else none)else none)else none)else Vg okd dcd okc ck okb bw bk s g g n1 f1 0):=by kernel_rfl
theorem Aaf(okd:LB)(dcd:List AV ->BA)(okc:LB)(ck:LI)(okb:LB)(bw bk:List AV ->D)(s:SSta)(g m:Nat)(n1:Nat)(f1:RD)(i9:Int):Vg okd dcd okc ck okb bw bk s g (m+1) n1 f1 i9=
 (bif decide (i9<(↑s.qd.length:Int))then(bif decide (0<=i9)&&decide (i9<(↑s.qd.length:Int))then(bif okb [gA (staC s), .agg (List.map C.d
 (bayC (s.qd.getD i9.toNat bay0)))]then(bif decide ((n1+1)*64<=140737488355328)&&decide (n1+(1:Nat)<=9223372036854775807)then Vg okd dcd okc ck okb bw bk s g m (n1
 +1) (appF n1 f1 (Ae [dI 0,bw [gA (staC s),gA (bayC (s.qd.getD i9.toNat bay0))],dB true,bk [gA (staC s),AV.agg
 (List.map C.d (bayC (s.qd.getD i9.toNat bay0)))]] (3+1))) (wrap .i64 (i9+1))else none)else none)else none)else some (T.leaf (.c (.row (0) (4) n1),[((0:Nat),
 .row n1 f1 (4) (176))]))):=by kernel_rfl
def Rw:Ann:=A1 [(100008,⟨[5,3,2,4],[(5,1,1000,0),(5,3,4,176)]⟩),(100010,⟨[5,3,2,4],[(5,1,1000,0),(5,3,4,176)]⟩),(100012,⟨[5,3,2,4],[(5,1,1000,0),(5,3,4,176)]⟩),(100014,⟨[5,3,2,4],[(5,1,1000,0),(5,3,4,176)]⟩),(16,⟨[5,3,2,4,6],[(5,1,1000,0),(5,3,4,176)]⟩)]
def To(okd:LB)(dcd:List AV ->BA)(s:SSta)(b:SBay)(g m:Nat)(n4:Nat)(f4:RD)(x2:Int)(x2_2:Bool)(x3:Int)(x3_2:D)(x3_3:Bool):=GK prog (oSay okd dcd) Rw 0 g f99 8 m ⟨frm [(2, .c (.ptr 0 0)),(3, .c (.ptr 1 0)),(4, .c (.ptr 2 0)),(5, .c (.ptr 3 0))] 0 f99.ntmps,[(0, .cells (List.map C.d (staC s)) 27),(1, .cells (List.map C.d (bayC b)) 118),(2, .cells [.d (iD x2), .d (.v (.slice none 0 0)), .d (.v (.bool x2_2)), .d (.v (.slice none 0 0))] 176),(3, .cells [.d (iD x3), .d (x3_2), .d (.v (.bool x3_3)), .row 4 4 n4] 176),(4, .row n4 f4 4 176)],5⟩
def Zs(okd:LB)(dcd:List AV ->BA)(s:SSta)(b:SBay)(g m:Nat)(n4:Nat)(f4:RD)(x2:Int)(x2_2:Bool)(x3:Int)(x3_2:D)(x3_3:Bool):=GK prog (oSay okd dcd) Rw 0 g f99 10 m ⟨frm [(2, .c (.ptr 0 0)),(3, .c (.ptr 1 0)),(4, .c (.ptr 2 0)),(5, .c (.ptr 3 0))] 0 f99.ntmps,[(0, .cells (List.map C.d (staC s)) 27),(1, .cells (List.map C.d (bayC b)) 118),(2, .cells [.d (iD x2), .d (.v (.slice none 0 0)), .d (.v (.bool x2_2)), .d (.v (.slice none 0 0))] 176),(3, .cells [.d (iD x3), .d x3_2, .d (.v (.bool x3_3)), .row 4 4 n4] 176),(4, .row n4 f4 4 176)],5⟩
def Vk(okd:LB)(dcd:List AV ->BA)(s:SSta)(b:SBay)(g m:Nat)(n4:Nat)(f4:RD)(x2:Int)(x2_2:Bool)(x3:Int)(x3_2:D)(x3_3:Bool):=GK prog (oSay okd dcd) Rw 0 g f99 12 m ⟨frm [(2, .c (.ptr 0 0)),(3, .c (.ptr 1 0)),(4, .c (.ptr 2 0)),(5, .c (.ptr 3 0))] 0 f99.ntmps,[(0, .cells (List.map C.d (staC s)) 27),(1, .cells (List.map C.d (bayC b)) 118),(2, .cells [.d (iD x2), .d (.v (.slice none 0 0)), .d (.v (.bool x2_2)), .d (.v (.slice none 0 0))] 176),(3, .cells [.d (iD x3), .d x3_2, .d (.v (.bool x3_3)), .row 4 4 n4] 176),(4, .row n4 f4 4 176)],5⟩
def Vj(okd:LB)(dcd:List AV ->BA)(s:SSta)(b:SBay)(g m:Nat)(n4:Nat)(f4:RD)(x2:Int)(x2_2:Bool)(x3:Int)(x3_2:D)(x3_3:Bool):=GK prog (oSay okd dcd) Rw 0 g f99 14 m ⟨frm [(2, .c (.ptr 0 0)),(3, .c (.ptr 1 0)),(4, .c (.ptr 2 0)),(5, .c (.ptr 3 0))] 0 f99.ntmps,[(0, .cells (List.map C.d (staC s)) 27),(1, .cells (List.map C.d (bayC b)) 118),(2, .cells [.d (iD x2), .d (.v (.slice none 0 0)), .d (.v (.bool x2_2)), .d (.v (.slice none 0 0))] 176),(3, .cells [.d (iD x3), .d x3_2, .d (.v (.bool x3_3)), .row 4 4 n4] 176),(4, .row n4 f4 4 176)],5⟩
def Ft(okd:LB)(dcd:List AV ->BA)(s:SSta)(b:SBay)(g m:Nat)(n4:Nat)(f4:RD)(i6:Int)(x2:Int)(x2_2:Bool)(x3:Int)(x3_2:D)(x3_3:Bool):=LK prog (oSay okd dcd) Rw 0 g f99 16 m ⟨frm [(2, .c (.ptr 0 0)),(3, .c (.ptr 1 0)),(4, .c (.ptr 2 0)),(5, .c (.ptr 3 0)),(6,iA i6)] 0 f99.ntmps,[(0, .cells (List.map C.d (staC s)) 27),(1, .cells (List.map C.d (bayC b)) 118),(2, .cells [.d (iD x2), .d (.v (.slice none 0 0)), .d (.v (.bool x2_2)), .d (.v (.slice none 0 0))] 176),(3, .cells [.d (iD x3), .d x3_2, .d (.v (.bool x3_3)), .row 4 4 n4] 176),(4, .row n4 f4 4 176)],5⟩
theorem bbyi:f99.body=some (Ac f99):=by kernel_rfl
theorem Ara(okd:LB)(dcd:List AV ->BA)(s:SSta)(b:SBay)(g:Nat):Ai prog (oSay okd dcd) Rw g f99 (Ac f99) [aSta s,aBay b] []=
 (bif b.kind==1 then(bif decide (0<=b.off)&&decide (b.off<(↑s.qb.length:Int))then(bif okd [.c (.d (iD b.fin))]then To okd dcd s b g g 0
 (fun x=>[]) 0 false 0 (D.sl (2) (5) (Ae [D.v (.string (⟨#[98,97,121]⟩)),D.v (.bool false),dS b.name,D.v (.bool false),D.v (.string (⟨#[108,105,110,101]⟩)),D.v (.bool
 false),dS (SLine.name (s.qb.getD (Int.toNat b.off) Ah)),D.v (.bool false),D.v (.string (dcd [iA b.fin])),D.v (.bool false)] (1+1))) false else
 none)else none)else(bif b.kind==2 then(bif decide (0<=b.off)&&decide (b.off<(↑s.qc.length:Int))then To okd dcd s b g g 0 (fun x=>[]) 0 false 0 (D.sl (2) (4) (Ae
 [D.v (.string (⟨#[98,97,121]⟩)),D.v (.bool false),dS b.name,D.v (.bool false),D.v (Value.string (⟨#[115,111,117,114,99,101]⟩)),D.v (.bool false),dS (SSrc.name
 (s.qc.getD (Int.toNat b.off) src0)),D.v (.bool false)] (1+1))) false else none)else(bif okd [iA b.zr]then(bif okd [iA b.zx]
 then To okd dcd s b g g 0 (fun x=>[]) 0 false 0 (D.sl (2) (5) (Ae [D.v (.string (⟨#[98,97,121]⟩)),D.v (.bool false),dS b.name,D.v (.bool false),D.v (.string (⟨#[99,111,
 117,112,108,101,114]⟩)),D.v (.bool false),D.v (.string (dcd [.c (.d (iD b.zr))])),D.v (.bool false),D.v (.string (dcd [.c (.d (.v (.int .i64
 b.zx)))])),D.v (.bool false)] (1+1))) false else none)else none))):=by kernel_rfl
theorem Alz(okd:LB)(dcd:List AV ->BA)(s:SSta)(b:SBay)(g m:Nat)(n4:Nat)(f4:RD)(x2:Int)(x2_2:Bool)(x3:Int)(x3_2:D)(x3_3:Bool):To okd dcd s b g (m+1) n4 f4 x2 x2_2 x3 x3_2 x3_3=
 (bif okd [iA b.ct]then(bif decide ((n4+1)*64<=140737488355328)&&decide (n4+1<=9223372036854775807)then Zs okd dcd s b g g (n4+1) (appF n4 f4
 (Ae [iD 0,D.sl (1+1) (0+(1:Nat)+1) (Ae [D.v (.string (⟨#[99,116]⟩)),D.v (.bool false),D.v (.string (dcd [.c (.d (iD b.ct))])),
 D.v (.bool false)] (1+1)),D.v (.bool false),D.v (.slice none 0 0)] (3+1))) x2 x2_2 x3 x3_2 true else none)else none):=by kernel_rfl
theorem AhF(okd:LB)(dcd:List AV ->BA)(s:SSta)(b:SBay)(g m:Nat)(n4:Nat)(f4:RD)(x2:Int)(x2_2:Bool)(x3:Int)(x3_2:D)(x3_3:Bool):Zs okd dcd s b g (m+1) n4 f4 x2 x2_2 x3 x3_2 x3_3=
 (bif b.kind !=3 then(bif okd [iA b.vt]then(bif decide ((n4+1)*64<=140737488355328)&&decide (n4+1<=9223372036854775807)then Vk okd dcd s b g g
 (n4+1) (appF n4 f4 (Ae [iD 0,D.sl (1+(1:Nat)) (0+1+1) (Ae [D.v (.string (⟨#[118,116]⟩)),D.v (.bool false),D.v (.string (dcd [.c (.d (.v (Value.int
 IntKind.i64 b.vt)))])),D.v (.bool false)] (1+1)),D.v (.bool false),D.v (.slice none 0 0)] (3+(1:Nat)))) x2 x2_2 x3 x3_2 x3_3 else none)else none)else Vk okd dcd s b g g
 n4 f4 x2 x2_2 x3 x3_2 x3_3):=by kernel_rfl
theorem AhE(okd:LB)(dcd:List AV ->BA)(s:SSta)(b:SBay)(g m:Nat)(n4:Nat)(f4:RD)(x2:Int)(x2_2:Bool)(x3:Int)(x3_2:D)(x3_3:Bool):Vk okd dcd s b g (m+1) n4 f4 x2 x2_2 x3 x3_2 x3_3=
 (bif b.sat !=0 then(bif okd [iA b.sat]then(bif decide ((n4+1)*64<=140737488355328)&&decide (n4+1<=9223372036854775807)then Vj okd dcd s b g g
 (n4+1) (appF n4 f4 (Ae [iD 0,D.sl (1+(1:Nat)) (0+1+1) (Ae [D.v (.string (⟨#[115,97,116]⟩)),D.v (.bool false),D.v (.string (dcd [.c (.d (.v (.int .i64
 b.sat)))])),D.v (.bool false)] (1+1)),D.v (.bool false),D.v (.slice none 0 0)] ((3:Nat)+1))) x2 x2_2 x3 x3_2 x3_3 else none)else none)else Vj okd dcd s b g g n4 f4 x2
 x2_2 x3 x3_2 x3_3):=by kernel_rfl
theorem AhD(okd:LB)(dcd:List AV ->BA)(s:SSta)(b:SBay)(g m:Nat)(n4:Nat)(f4:RD)(x2:Int)(x2_2:Bool)(x3:Int)(x3_2:D)(x3_3:Bool):Vj okd dcd s b g (m+1) n4 f4 x2 x2_2 x3 x3_2 x3_3=
 (bif okd [iA b.qg]then(bif decide ((n4+1)*64<=140737488355328)&&decide (n4+1<=9223372036854775807)then Ft okd dcd s b g g (n4+1) (appF n4
 f4 (Ae [iD 0,D.sl (1+1) (0+(1:Nat)+1) (Ae [D.v (.string (⟨#[116,114,97,118,101,108]⟩)),D.v (.bool false),D.v (Value.string (dcd [.c (.d (.v (.int
 .i64 b.qg)))])),D.v (.bool false)] (1+1)),D.v (.bool false),D.v (Value.slice none (0:Nat) 0)] (3+1))) 0 x2 x2_2 x3 x3_2 x3_3 else none)else none):=by kernel_rfl
theorem Aai(okd:LB)(dcd:List AV ->BA)(s:SSta)(b:SBay)(g m:Nat)(n4:Nat)(f4:RD)(i6:Int)(x2:Int)(x2_2:Bool)(x3:Int)(x3_2:D)(x3_3:Bool):Ft okd dcd s b g (m+1) n4 f4 i6 x2 x2_2 x3 x3_2 x3_3=
 (bif decide (i6<(↑b.qe.length:Int))then(bif decide (0<=i6)&&decide (i6<(↑b.qe.length:Int))then(bif SLink.pos (b.qe.getD i6.toNat A4)==1 then(bif decide
 (0<=i6)&&decide (i6<(↑b.qe.length:Int))then(bif decide (0<=SLink.bus (b.qe.getD i6.toNat A4))&&decide (SLink.bus (b.qe.getD i6.toNat A4)<(↑s.qa.length:
 Int))then(bif decide ((n4+1)*64<=140737488355328)&&decide (n4+1<=9223372036854775807)then Ft okd dcd s b g m (n4+1) (appF n4 f4 (Ae [iD 0,
 D.sl (1+1) (0+1+1+1) (Ae [D.v (.string (⟨#[115,(101:UInt8),108,101,99,116]⟩)),D.v (.bool false),dS (s.qa.getD (Int.toNat (SLink.bus (b.qe.getD i6.toNat A4)))
 e0),D.v (.bool false),D.v (.string (⟨#[99,108,111,115,101,100]⟩)),D.v (Value.bool false)] (1+1)),D.v (.bool false),D.v (.slice none 0 0)] (3+1))) (wrap .i64
 (i6+1)) x2 x2_2 x3 x3_2 x3_3 else none)else none)else none)else(bif decide (0<=i6)&&decide (i6<(↑b.qe.length:Int))then(bif decide (0<=SLink.bus (b.qe.getD
 i6.toNat A4))&&decide (SLink.bus (b.qe.getD i6.toNat A4)<(↑s.qa.length:Int))then(bif decide ((n4+1)*64<=140737488355328)&&decide (n4+1<=9223372036854775807)
 then Ft okd dcd s b g m (n4+1) (appF n4 f4 (Ae [iD 0,D.sl (1+1) (0+1+1+1) (Ae [D.v (.string (⟨#[115,101,108,101,99,116]⟩)),D.v (.bool false),dS
 (s.qa.getD (Int.toNat (SLink.bus (b.qe.getD i6.toNat A4))) e0),D.v (.bool false),D.v (.string (⟨#[111,112,101,110]⟩)),D.v (.bool false)] ((1:Nat)+1)),D.v (.bool
 false),D.v (.slice none 0 0)] (3+1))) (wrap .i64 (i6+1)) x2 x2_2 x3 x3_2 x3_3 else none)else none)else none))else none)else(bif !b.qf then(bif decide ((n4+
 1)*64<=140737488355328)&&decide (n4+1<=9223372036854775807)then some (T.leaf (.agg [.d (iD x3), .d x3_2, .d (.v (.bool x3_3)), .row (0) (4) (n4+1)],
 [(0, .row (n4+1) (appF n4 f4 (Ae [iD 0,D.sl (1+1) (0+1+1) (Ae [D.v (Value.string (⟨#[98,114,101,97,107,101,114]⟩)),D.v (.bool false),D.v
 (Value.string (⟨#[111,112,101,110]⟩)),D.v (.bool false)] (1+1)),D.v (.bool false),D.v (Value.slice none (0:Nat) 0)] (3+1))) (4) (176))]))else none)else some (T.leaf
 (.agg [.d (iD x3), .d x3_2, .d (.v (Value.bool x3_3)), .row (0) (4) n4],[(0, .row n4 f4 (4) (176))])))):=by kernel_rfl
def okD(n:Int)(x:List AV):Bool:=okG (en1 vI) (fun k=>decide (0<=k)&&decide (k<n)) x
def dcD(x:List AV):BA:=dec (theT (en1 vI) x)
theorem okD_of{n k:Int}(h0:0<=k)(h1:k<n):okD n [vI k]=true:=Ao (Cf Hs) k (by simp[h0,h1])
theorem dcD_of(k:Int):dcD [vI k]=dec k:=by
 unfold dcD;rw[show [vI k]=en1 vI k from rfl,Aj (Cf Hs)]
theorem digit_ok: ∀n:Nat,n<10 ->Ey 1 (some (Blk.cells [C.d (D.v (Value.int IntKind.u8 (wrap IntKind.u8 (wrap IntKind.i64 ((48:Int)+n)))))] 5))=true/\
  K5 1 (some (Blk.cells [C.d (D.v (Value.int IntKind.u8 (wrap IntKind.u8 (wrap IntKind.i64 ((48:Int)+n)))))] 5))=decB n:=by
 intro n h;rw[Bg h];match n,h with
 |0,_|1,_|2,_|3,_|4,_|5,_|6,_|7,_|8,_|9,_=>exact⟨by rfl,by rfl⟩
theorem tdiv10(n:Nat):Int.tdiv (n:Int) 10=((n/10:Nat):Int):=by rw[Int.tdiv_eq_ediv_of_nonneg (by omega)];omega
theorem tmod10(n:Nat):Int.tmod (n:Int) 10=((n%10:Nat):Int):=by rw[Int.tmod_eq_emod_of_nonneg (by omega)];omega
theorem dec_nat(n:Nat):dec (n:Int)=decB n:=rfl
theorem cdecN(n:Nat)(hb:n<=4611686018427387904):CX prog 156 [vI n] [] (vS (dec n)) []:=by
 induction n using Nat.strongRecOn with
 |ind n ih=>
  have so:OrcS prog (oDc (okD n) dcD):=by
   refine .cons (.t' (enc:=en1 vI) (c:=fun k=>decide (0<=k)&&decide (k<(n:Int))) (r:=fun k=>vS (dec k)) fun k hk=> ?_) .nil;simp only[zd,zi]at hk;obtain⟨m,rfl⟩:=Int.eq_ofNat_of_zero_le hk.1;exact ih m (by omega) (by omega)
  refine Am so.ok func156 bdec rfl ((evdec (okD n) dcD n 1).trans ?_);rw[zt (by omega: ¬((n:Int)<0)),zb];by_cases h:n<10
  ·rw[zt (by omega: ¬((n:Int)>=10)),zb,(digit_ok n h).1,za,(digit_ok n h).2,dec_nat]
  ·rw[zk (by omega:((n:Int)>=10)),za,tdiv10,tmod10,wrap_id];have e1:okD n [AV.c (C.d (D.v (Value.int IntKind.i64 ((n/10:Nat):Int))))]=true:=okD_of (by omega) (by omega);have e2:okD n [AV.c (C.d (D.v (Value.int IntKind.i64 ((n%10:Nat):Int))))]=true:=okD_of (by omega) (by omega);have d1:dcD [AV.c (C.d (D.v (Value.int IntKind.i64 ((n/10:Nat):Int))))]=dec ((n/10:Nat):Int):=dcD_of _;have d2:dcD [AV.c (C.d (D.v (Value.int IntKind.i64 ((n%10:Nat):Int))))]=dec ((n%10:Nat):Int):=dcD_of _;have s1:=Gq (n/10);have s2:=Gq (n%10);rw[e1,e2,d1,d2,za,za,dec_nat,dec_nat,zk,za,dec_nat,Ea h]
theorem cdec(n:Int)(h0:0<=n)(h1:n<=4611686018427387904):CX prog 156 [vI n] [] (vS (dec n)) []:=by
 obtain⟨m,rfl⟩:=Int.eq_ofNat_of_zero_le h0;exact cdecN m (by omega)
abbrev M12:Int:=1000000000000
theorem sDc:OrcS prog (oDc (okD M12) dcD):= .cons (.t' (enc:=en1 vI) (c:=fun k=>decide (0<=k)&&decide (k<M12)) (r:=fun k=>vS (dec k)) fun k hk=>by
 simp only[zd,zi]at hk;exact cdec k hk.1 (by unfold M12 at hk;omega)) .nil
theorem sSay:OrcS prog (oSay (okD M12) dcD):= .cons (.inl sDc func98 (by kernel_rfl)) .nil
def Hl(n:Int):Prop:=0<=n/\n<M12
theorem okN{n:Int}(h:Hl n):okD M12 [AV.c (C.d (D.v (Value.int IntKind.i64 n)))]=true:=okD_of h.1 h.2
theorem dcN(n:Int):dcD [AV.c (C.d (D.v (Value.int IntKind.i64 n)))]=dec n:=dcD_of n
structure BFit (s:SSta) (b:SBay):Prop where
 off1:b.kind=1 ->0<=b.off/\b.off<s.qb.length
 off2:b.kind=2 ->0<=b.off/\b.off<s.qc.length
 fin:Hl b.fin
 zr:Hl b.zr
 zx:Hl b.zx
 ct:Hl b.ct
 vt:Hl b.vt
 sat:Hl b.sat
 qg:Hl b.qg
 bus: ∀k,k<b.qe.length ->0<=(b.qe.getD k A4).bus/\(b.qe.getD k A4).bus<s.qa.length
 len:b.qe.length<=100
theorem appOk5{n:Nat}(h:n<=5000:=by omega):(decide ((n+1)*64<=140737488355328)&&decide (n+1<=9223372036854775807))=true:=by
 rw[zk,zk];rfl
def leafB(w:D)(n:Nat)(f:RD):Option (T (AV×Hp)):=some (T.leaf (AV.agg [.d (dI 0), .d w, .d (dB true), .row 0 4 n],[(0,Blk.row n f 4 176)]))
section
variable {s:SSta}{b:SBay}(h:BFit s b)(g:Nat)(hg:200<g)(x2:Int)(x2':Bool)(w:D)
include h
theorem t16(m n:Nat)(f:RD)(bef:List It)(hn:n<=100)(hm:b.qe.length<m)(hr:RLe Af i0 n f bef):
  ∃n' f',RLe Af i0 n' f' (bef++b.qe.map (Jk s.qa)++(bif !b.qf then [say [Cs,Hx]]else []))/\Ft (okD M12) dcD s b g m n f 0 x2 x2' 0 w true=leafB w n' f':=by
 have hl:=h.len;obtain⟨f',h1,h2⟩:=app_loop (L:=fun m n f i=>Ft (okD M12) dcD s b g m n f i x2 x2' 0 w true)
  (K:=fun n f=>bif !b.qf then(bif decide ((n+(1:Nat))*(64:Nat)<=(140737488355328:Nat))&&decide (n+(1:Nat)<=(9223372036854775807:Nat))then leafB w (n+1) (appF n f (Ae (sayC [Cs,Hx]) 4))else none)else leafB w n f)
  (l:=b.qe) (d:=A4) (c:=Af) (d0:=i0) (ch:=fun l=>sayC [Tu,s.qa.getD l.bus.toNat e0,bif l.pos==1 then Tv else Hx]) (e:=Jk s.qa) (sz:=4)
  (fun m k n f hk hn=>by
    show Ft (okD M12) dcD s b g (m+1) n f k x2 x2' 0 w true=Ft (okD M12) dcD s b g m (n+1) _ _ x2 x2' 0 w true;rw[Aai];obtain⟨b1,b2⟩:=h.bus k hk;simp -implicitDefEqProofs only[lt1 hk,ge0,tn,tt,za,nx hk,appOk5 hn,zk b1,zk b2];generalize Ft (okD M12) dcD s b g m=LL;cases((b.qe.getD k A4).pos==1)<;>rfl)
  (fun m n f=>by
    show Ft (okD M12) dcD s b g (m+1) n f (b.qe.length:Int) x2 x2' 0 w true=_;rw[Aai,lt0 (zp _)];rfl)
  (fun _=>rfl) (fun k _=>At _) m 0 n f bef (by omega) (by omega) (by omega) hr
 simp only[Nat.sub_zero,zq]at h1 h2;have h2:Ft (okD M12) dcD s b g m n f 0 x2 x2' 0 w true=_:=h2;rw[h2];cases b.qf with
 |true=>exact⟨_,f',by simpa using h1,rfl⟩|false=>
  refine⟨_,_,h1.app rfl (At [Cs,Hx]), ?_⟩;simp only[Bool.not_false,za];rw[appOk5];rfl
include hg
theorem t14(n:Nat)(f:RD)(bef:List It)(hn:n<=90)(hr:RLe Af i0 n f bef):
  ∃n' f',RLe Af i0 n' f' (bef++[say [F2,dec b.qg]]++b.qe.map (Jk s.qa)++(bif !b.qf then [say [Cs,Hx]]else []))/\Vj (okD M12) dcD s b g g n f x2 x2' 0 w true=leafB w n' f':=by
 have hl:=h.len;obtain⟨m,rfl⟩: ∃m,g=m+1:=⟨g -1,by omega⟩;obtain⟨n',f',h1,h2⟩:=t16 h (m+1) x2 x2' w (m+1) (n+1) _ (bef++[say [F2,dec b.qg]]) (by omega) (by omega) (hr.app rfl (At _));refine⟨n',f',h1, ?_⟩;rw[AhD,okN h.qg,dcN,za,appOk5,za];exact h2
theorem t12(n:Nat)(f:RD)(bef:List It)(hn:n<=80)(hr:RLe Af i0 n f bef):
  ∃n' f',RLe Af i0 n' f' (bef++(bif b.sat !=0 then [say [tSat,dec b.sat]]else [])++[say [F2,dec b.qg]]++b.qe.map (Jk s.qa)++(bif !b.qf then [say [Cs,Hx]]else []))/\Vk (okD M12) dcD s b g g n f x2 x2' 0 w true=leafB w n' f':=by
 obtain⟨m,rfl⟩: ∃m,g=m+1:=⟨g -1,by omega⟩;rw[AhE,okN h.sat,dcN];cases(b.sat !=0)with
 |false=>
  obtain⟨n',f',h1,h2⟩:=t14 h (m+1) hg x2 x2' w n f bef (by omega) hr;refine⟨n',f',by simpa using h1, ?_⟩;rw[zb];exact h2
 |true=>
  obtain⟨n',f',h1,h2⟩:=t14 h (m+1) hg x2 x2' w (n+1) _ (bef++[say [tSat,dec b.sat]]) (by omega) (hr.app rfl (At _));refine⟨n',f',h1, ?_⟩;rw[za,za,appOk5,za];exact h2
theorem t10(n:Nat)(f:RD)(bef:List It)(hn:n<=70)(hr:RLe Af i0 n f bef):
  ∃n' f',RLe Af i0 n' f' (bef++(bif b.kind !=3 then [say [tVt,dec b.vt]]else [])++(bif b.sat !=0 then [say [tSat,dec b.sat]]else [])++[say [F2,dec b.qg]]++b.qe.map (Jk s.qa)++(bif !b.qf then [say [Cs,Hx]]else []))/\Zs (okD M12) dcD s b g g n f x2 x2' 0 w true=leafB w n' f':=by
 obtain⟨m,rfl⟩: ∃m,g=m+1:=⟨g -1,by omega⟩;rw[AhF,okN h.vt,dcN];cases(b.kind !=3)with
 |false=>
  obtain⟨n',f',h1,h2⟩:=t12 h (m+1) hg x2 x2' w n f bef (by omega) hr;refine⟨n',f',by simpa using h1, ?_⟩;rw[zb];exact h2
 |true=>
  obtain⟨n',f',h1,h2⟩:=t12 h (m+1) hg x2 x2' w (n+1) _ (bef++[say [tVt,dec b.vt]]) (by omega) (hr.app rfl (At _));refine⟨n',f',h1, ?_⟩;rw[za,za,appOk5,za];exact h2
theorem t8: ∃n' f',RLe Af i0 n' f' (bayK s b)/\To (okD M12) dcD s b g g 0 (fun _=>[]) x2 x2' 0 w false=leafB w n' f':=by
 obtain⟨m,rfl⟩: ∃m,g=m+1:=⟨g -1,by omega⟩;obtain⟨n',f',h1,h2⟩:=t10 h (m+1) hg x2 x2' w (0+1) _ ([]++[say [tCt,dec b.ct]]) (by omega) ((RLe.nil (c:=Af) (d0:=i0) fun _=>[]).app rfl (At _));refine⟨n',f',h1, ?_⟩;rw[Alz,okN h.ct,dcN,za,appOk5,za];exact h2
end
theorem bayW_fix(s:SSta)(b:SBay)(l:List BA)(hl:bayW s b=Cb l):DE (Dt l) (Aw (bayW s b)):=hl▸Hq l
theorem cbyi(s:SSta)(b:SBay)(h:BFit s b):CX prog 99 [aSta s,aBay b] [] (.agg [.d (dI 0), .d (Aw (bayW s b)), .d (dB true), .d (A6 (Bc s b))]) []:=by
 obtain⟨g,hg⟩: ∃g,200<g:=⟨201,by omega⟩;have fin: ∀(l:List BA),bayW s b=Cb l ->Ai prog (oSay (okD M12) dcD) Rw g f99 (Ac f99) [aSta s,aBay b] []=To (okD M12) dcD s b g g 0 (fun _=>[]) 0 false 0 (Dt l) false ->
  CX prog 99 [aSta s,aBay b] [] (.agg [.d (dI 0), .d (Aw (bayW s b)), .d (dB true), .d (A6 (Bc s b))]) []:=fun l hl he=>by
  obtain⟨n',f',h1,h2⟩:=t8 h g hg 0 false (Dt l)
  have hc:=(Mc sSay.ok func99 bbyi rfl (he.trans h2)).data (y:= .agg [.d (dI 0), .d (Dt l), .d (dB true), .d (.sl 4 n' f')]) rfl
  refine(CX.of_cr func99 bbyi hc).le ?_ (.refl _)
  refine Gv (a:=[dI 0,Dt l,dB true, .sl 4 n' f']) (b:=[dI 0,Aw (bayW s b),dB true,A6 (Bc s b)]) (.cons (.refl _) (.cons (bayW_fix s b l hl) (.cons (.refl _) (.cons ?_ .nil))))
  exact(h1.de (sz:=4)).trans (Ek (Bc s b))
 have ev:=Ara (okD M12) dcD s b g;cases h1:(b.kind==1)with
 |true=>
  obtain⟨o1,o2⟩:=h.off1 (by simpa using h1);refine fin [Sj,b.name,Hy,(s.qb.getD b.off.toNat Ah).name,dec b.fin] (by unfold bayW;rw[h1];rfl) (ev.trans ?_);rw[h1,za,zk o1,zk o2,tt,za,okN h.fin,za,dcN];rfl
 |false=>
  cases h2:(b.kind==2)with
  |true=>
   obtain⟨o1,o2⟩:=h.off2 (by simpa using h2);refine fin [Sj,b.name,Fe,(s.qc.getD b.off.toNat src0).name] (by unfold bayW;rw[h1,h2];rfl) (ev.trans ?_);rw[h1,zb,h2,za,zk o1,zk o2,tt,za];rfl
  |false=>
   refine fin [Sj,b.name,Fx,dec b.zr,dec b.zx] (by unfold bayW;rw[h1,h2];rfl) (ev.trans ?_);rw[h1,zb,h2,zb,okN h.zr,za,okN h.zx,za,dcN,dcN];rfl
structure LFit (l:SLine):Prop where
 r1:Hl l.r1
 x1:Hl l.x1
 r0:Hl l.r0
 x0:Hl l.x0
structure GFit (l:SSrc):Prop where
 emf:Hl l.emf
 r1:Hl l.r1
 x1:Hl l.x1
 r0:Hl l.r0
 x0:Hl l.x0
structure SFit (s:SSta):Prop where
 qb: ∀k,k<s.qb.length ->LFit (s.qb.getD k Ah)
 qc: ∀k,k<s.qc.length ->GFit (s.qc.getD k src0)
 qd: ∀k,k<s.qd.length ->BFit s (s.qd.getD k bay0)
 nb:s.qa.length<=900
 nl:s.qb.length<=900
 ns:s.qc.length<=900
 nq:s.qd.length<=900
def bFit(a:SSta×SBay):Bool:= @decide (BFit a.1 a.2) (Classical.propDecidable _)
theorem Qf{a:SSta×SBay}:bFit a=true↔BFit a.1 a.2:=by unfold bFit;simp
theorem Ajl:InjA aBay:=Kn Kc
abbrev eSB:=en2 aSta aBay
theorem Uw:InjT eSB:=K4 Ee Ajl
abbrev OEn:Orc:=oEn (okD M12) dcD (okG (en1 aSta) Bv) (fun x=>A3 (theT (en1 aSta) x)) (okG eSB bFit) (fun x=>Aw (bayW (theT eSB x).1 (theT eSB x).2)) (fun x=>A6 (Bc (theT eSB x).1 (theT eSB x).2))
theorem sEn(hck: ∀s,Bv s=true ->CX prog 28 [aSta s] [] (vI (A3 s)) []):OrcS prog OEn:=
 .cons (.t' (r:=fun a=>vI (A3 a)) fun a h=>hck a h) (.cons (.t' (enc:=eSB) (c:=bFit) (r:=fun a=> .agg [.d (dI 0), .d (Aw (bayW a.1 a.2)), .d (dB true), .d (A6 (Bc a.1 a.2))]) fun a h=>cbyi a.1 a.2 (Qf.1 h)) sSay)
section
variable {s:SSta}(hs:SFit s)(g:Nat)(hg:6000<g)
include hs hg
abbrev L5(s:SSta)(g m n:Nat)(f:RD)(i:Int):=Xz (okD M12) dcD (okG (en1 aSta) Bv) (fun x=>A3 (theT (en1 aSta) x)) (okG eSB bFit) (fun x=>Aw (bayW (theT eSB x).1 (theT eSB x).2)) (fun x=>A6 (Bc (theT eSB x).1 (theT eSB x).2)) s g m n f i
abbrev L9(s:SSta)(g m n:Nat)(f:RD)(i:Int):=Xy (okD M12) dcD (okG (en1 aSta) Bv) (fun x=>A3 (theT (en1 aSta) x)) (okG eSB bFit) (fun x=>Aw (bayW (theT eSB x).1 (theT eSB x).2)) (fun x=>A6 (Bc (theT eSB x).1 (theT eSB x).2)) s g m n f i
abbrev L14(s:SSta)(g m n:Nat)(f:RD)(i:Int):=Sd (okD M12) dcD (okG (en1 aSta) Bv) (fun x=>A3 (theT (en1 aSta) x)) (okG eSB bFit) (fun x=>Aw (bayW (theT eSB x).1 (theT eSB x).2)) (fun x=>A6 (Bc (theT eSB x).1 (theT eSB x).2)) s g m n f i
abbrev L19(s:SSta)(g m n:Nat)(f:RD)(i:Int):=Vg (okD M12) dcD (okG (en1 aSta) Bv) (fun x=>A3 (theT (en1 aSta) x)) (okG eSB bFit) (fun x=>Aw (bayW (theT eSB x).1 (theT eSB x).2)) (fun x=>A6 (Bc (theT eSB x).1 (theT eSB x).2)) s g m n f i
def leafE(n:Nat)(f:RD):Option (T (AV×Hp)):=some (T.leaf (AV.c (C.row 0 4 n),[(0,Blk.row n f 4 176)]))
theorem l19(n:Nat)(f:RD)(bef:List It)(hn:n<=4000)(hr:RLe Af i0 n f bef): ∃n' f',RLe Af i0 n' f' (bef++s.qd.map (Bc s))/\L19 s g g n f 0=leafE n' f':=by
 have hq:=hs.nq;obtain⟨f',h1,h2⟩:=app_loop (L:=fun m n f i=>L19 s g m n f i) (K:=leafE) (l:=s.qd) (d:=bay0) (c:=Af) (d0:=i0) (ch:=fun b=>[dI 0,Aw (bayW s b),dB true,A6 (Bc s b)]) (e:=Bc s) (sz:=4)
  (fun m k n f hk hn=>by
    show L19 s g (m+1) n f k=L19 s g m (n+1) _ _;unfold L19;rw[Aaf];have e1:okG eSB bFit [AV.agg (List.map C.d (staC s)),AV.agg (List.map C.d (bayC (List.getD s.qd (Int.toNat (k:Int)) bay0)))]=true:=by
     rw[tn];exact Ao Uw (s,s.qd.getD k bay0) (Qf.2 (hs.qd k hk))
    have e2:theT eSB [AV.agg (List.map C.d (staC s)),AV.agg (List.map C.d (bayC (List.getD s.qd (Int.toNat (k:Int)) bay0)))]=(s,s.qd.getD k bay0):=by
     rw[tn];exact Aj Uw (s,s.qd.getD k bay0)
    rw[e1,e2];simp -implicitDefEqProofs only[lt1 hk,ge0,tt,za,nx hk,appOk5 hn])
  (fun m n f=>by
    show L19 s g (m+1) n f (s.qd.length:Int)=_;unfold L19;rw[Aaf,lt0 (zp _),zb];rfl)
  (fun _=>rfl) (fun k hk=>U9 (x:=Bc s (s.qd.getD k bay0)) rfl rfl (.refl _) (.refl _)) g 0 n f bef (by omega) (by omega) (by omega) hr
 simp only[Nat.sub_zero,zq]at h1 h2;exact⟨_,f',h1,h2⟩
theorem l14(n:Nat)(f:RD)(bef:List It)(hn:n<=3000)(hr:RLe Af i0 n f bef): ∃n' f',RLe Af i0 n' f' (bef++s.qc.map Hf++s.qd.map (Bc s))/\L14 s g g n f 0=leafE n' f':=by
 have hq:=hs.ns;obtain⟨f',h1,h2⟩:=app_loop (L:=fun m n f i=>L14 s g m n f i) (K:=fun n f=>L19 s g g n f 0) (l:=s.qc) (d:=src0) (c:=Af) (d0:=i0) (ch:=fun l=>sayC [Fe,l.name,dec l.emf,dec l.r1,dec l.x1,dec l.r0,dec l.x0]) (e:=Hf) (sz:=4)
  (fun m k n f hk hn=>by
    show L14 s g (m+1) n f k=L14 s g m (n+1) _ _;unfold L14;have hf:=hs.qc k hk;rw[Aag];simp -implicitDefEqProofs only[lt1 hk,ge0,tn,tt,za,nx hk,appOk5 hn,okN hf.emf,okN hf.r1,okN hf.x1,okN hf.r0,okN hf.x0,dcN];generalize Sd (okD M12) dcD (okG (en1 aSta) Bv) (fun x=>A3 (theT (en1 aSta) x)) (okG eSB bFit) (fun x=>Aw (bayW (theT eSB x).1 (theT eSB x).2)) (fun x=>A6 (Bc (theT eSB x).1 (theT eSB x).2)) s g m=LL;rfl)
  (fun m n f=>by
    show L14 s g (m+1) n f (s.qc.length:Int)=_;unfold L14;rw[Aag,lt0 (zp _),zb])
  (fun _=>rfl) (fun k _=>At _) g 0 n f bef (by omega) (by omega) (by omega) hr
 simp only[Nat.sub_zero,zq]at h1 h2;obtain⟨n2,f2,k1,k2⟩:=l19 hs g hg _ f' _ (by omega) h1;exact⟨n2,f2,k1,h2.trans k2⟩
theorem l9(n:Nat)(f:RD)(bef:List It)(hn:n<=2000)(hr:RLe Af i0 n f bef): ∃n' f',RLe Af i0 n' f' (bef++s.qb.map F7++s.qc.map Hf++s.qd.map (Bc s))/\L9 s g g n f 0=leafE n' f':=by
 have hq:=hs.nl;obtain⟨f',h1,h2⟩:=app_loop (L:=fun m n f i=>L9 s g m n f i) (K:=fun n f=>L14 s g g n f 0) (l:=s.qb) (d:=Ah) (c:=Af) (d0:=i0) (ch:=fun l=>sayC [Hy,l.name,dec l.r1,dec l.x1,dec l.r0,dec l.x0]) (e:=F7) (sz:=4)
  (fun m k n f hk hn=>by
    show L9 s g (m+1) n f k=L9 s g m (n+1) _ _;unfold L9;have hf:=hs.qb k hk;rw[Adv];simp -implicitDefEqProofs only[lt1 hk,ge0,tn,tt,za,nx hk,appOk5 hn,okN hf.r1,okN hf.x1,okN hf.r0,okN hf.x0,dcN];generalize Xy (okD M12) dcD (okG (en1 aSta) Bv) (fun x=>A3 (theT (en1 aSta) x)) (okG eSB bFit) (fun x=>Aw (bayW (theT eSB x).1 (theT eSB x).2)) (fun x=>A6 (Bc (theT eSB x).1 (theT eSB x).2)) s g m=LL;rfl)
  (fun m n f=>by
    show L9 s g (m+1) n f (s.qb.length:Int)=_;unfold L9;rw[Adv,lt0 (zp _),zb])
  (fun _=>rfl) (fun k _=>At _) g 0 n f bef (by omega) (by omega) (by omega) hr
 simp only[Nat.sub_zero,zq]at h1 h2;obtain⟨n2,f2,k1,k2⟩:=l14 hs g hg _ f' _ (by omega) h1;exact⟨n2,f2,k1,h2.trans k2⟩
theorem l5(n:Nat)(f:RD)(bef:List It)(hn:n<=1000)(hr:RLe Af i0 n f bef): ∃n' f',RLe Af i0 n' f' (bef++s.qa.map Pj++s.qb.map F7++s.qc.map Hf++s.qd.map (Bc s))/\L5 s g g n f 0=leafE n' f':=by
 have hq:=hs.nb;obtain⟨f',h1,h2⟩:=app_loop (L:=fun m n f i=>L5 s g m n f i) (K:=fun n f=>L9 s g g n f 0) (l:=s.qa) (d:=e0) (c:=Af) (d0:=i0) (ch:=fun x=>sayC [Vs,x]) (e:=Pj) (sz:=4)
  (fun m k n f hk hn=>by
    show L5 s g (m+1) n f k=L5 s g m (n+1) _ _;unfold L5;rw[Adw];simp -implicitDefEqProofs only[lt1 hk,ge0,tn,tt,za,nx hk,appOk5 hn];generalize Xz (okD M12) dcD (okG (en1 aSta) Bv) (fun x=>A3 (theT (en1 aSta) x)) (okG eSB bFit) (fun x=>Aw (bayW (theT eSB x).1 (theT eSB x).2)) (fun x=>A6 (Bc (theT eSB x).1 (theT eSB x).2)) s g m=LL;rfl)
  (fun m n f=>by
    show L5 s g (m+1) n f (s.qa.length:Int)=_;unfold L5;rw[Adw,lt0 (zp _),zb])
  (fun _=>rfl) (fun k _=>At _) g 0 n f bef (by omega) (by omega) (by omega) hr
 simp only[Nat.sub_zero,zq]at h1 h2;obtain⟨n2,f2,k1,k2⟩:=l9 hs g hg _ f' _ (by omega) h1;exact⟨n2,f2,k1,h2.trans k2⟩
end
theorem cencR(hck: ∀s,Bv s=true ->CX prog 28 [aSta s] [] (vI (A3 s)) [])(s:SSta)(ho:Bv s=true)(h0:A3 s=0)(hs:SFit s):CX prog 38 [aSta s] [] (.c (.row 0 4 (Cp s).length)) [(0, .row (Cp s).length (fun i=>Af ((Cp s).getD i i0)) 4 176)]:=by
 obtain⟨g,hg⟩: ∃g,6000<g:=⟨6001,by omega⟩;have ev:=AqV (okD M12) dcD (okG (en1 aSta) Bv) (fun x=>A3 (theT (en1 aSta) x)) (okG eSB bFit) (fun x=>Aw (bayW (theT eSB x).1 (theT eSB x).2)) (fun x=>A6 (Bc (theT eSB x).1 (theT eSB x).2)) s g;have e1:okG (en1 aSta) Bv [AV.agg (List.map C.d (staC s))]=true:=Ao (Cf Ee) s ho;have e2:theT (en1 aSta) [AV.agg (List.map C.d (staC s))]=s:=Aj (Cf Ee) s;rw[e1,e2,h0]at ev;simp only[za,bne_self_eq_false,zb]at ev;obtain⟨n',f',h1,h2⟩:=l5 hs g hg 1 _ [say [Gy,s.name]] (by omega) (.one (sz:=4) rfl (At [Gy,s.name]));have hl:n'=(Cp s).length:=h1.len;subst hl;exact(Am (sEn hck).ok func38 benc rfl (ev.trans h2)).le (.refl _) (.cons (show Ble _ _ from⟨rfl,rfl,rfl,h1.le⟩) (.refl _))
instance:Inhabited It:=⟨i0⟩
theorem sne{a b:BA}(h:a≠b):same a b=false:=by
 cases e:same a b with
 |false=>rfl|true=>exact absurd (Tz.1 e) h
def nOk(n:Int):Prop:=0<=n/\n<=9999999
end Go.Y.de
namespace Go.Y.de
open Go.RowKit Go.Eb Go.Y.st Go.Y.wd
theorem Apl(a b:BA):bs (a++b)=bs a++bs b:=by simp[bs]
theorem Alb(a b:List UInt8)(n:Int):val (a++b) n=val b (val a n):=by
 induction a generalizing n with
 |nil=>rfl|cons c r ih=>exact ih _
theorem u8{n:Nat}(h:n<10):(UInt8.ofNat (48+n)).toNat=48+n:=by
 rw[UInt8.toNat_ofNat'];omega
theorem bs1{n:Nat}(h:n<10):bs (decB n)=[UInt8.ofNat (48+n)]:=by rw[Bg h]
theorem M6(n:Nat):digs (bs (decB n))=true/\val (bs (decB n)) 0=n/\(∃c r,bs (decB n)=c::r/\48<=c.toNat/\(0<n ->c.toNat≠48)):=by
 induction n using Nat.strongRecOn with
 |ind n ih=>
  by_cases h:n<10
  ·rw[bs1 h];refine⟨?_, ?_,_,[],rfl,by rw[u8 h];omega,fun h0=>by rw[u8 h];omega⟩
   ·show(Mb ((UInt8.ofNat (48+n)).toNat:Int)&&true)=true;rw[u8 h];unfold Mb;simp;omega
   ·show(10*0+(((UInt8.ofNat (48+n)).toNat:Int) -48))=_;rw[u8 h];omega
  ·obtain⟨h1,h2,c,r,h3,h4,h5⟩:=ih (n/10) (by omega);obtain⟨k1,k2,_⟩:=ih (n%10) (by omega);have hm:n%10<10:=by omega
   rw[Ea h,Apl];refine⟨?_, ?_,c,r++bs (decB (n%10)),by rw[h3];rfl,h4,fun _=>h5 (by omega)⟩
   ·unfold digs at h1 k1⊢;rw[List.all_append,h1,k1];rfl
   ·rw[Alb,h2,bs1 hm];show(10*((n/10:Nat):Int)+(((UInt8.ofNat (48+n%10)).toNat:Int) -48))=_;rw[u8 hm];omega
theorem Zb(k:Nat): ∀n:Nat,n<10^(k+1) ->(decB n).size<=k+1:=by
 induction k with
 |zero=>intro n h;rw[Bg (by simpa using h)];exact Nat.le_refl 1|succ k ih=>
  intro n h;by_cases h10:n<10
  ·rw[Bg h10];show 1<=_;omega
  ·rw[Ea h10,ByteArray.size_append,Bg (show n%10<10 by omega)];have:n/10<10^(k+1):=by
    rw[Nat.div_lt_iff_lt_mul (by omega),<-Nat.pow_succ];exact h
   have:=ih (n/10) this;show(decB (n/10)).size+1<=_;omega
end Go.Y.de
namespace Go.Y.de
open Go.RowKit Go.Eb Go.Y.st
theorem Rt{nb nl ns:Nat}{dup:Bool}{bef:List SBay}{b:SBay}(h:Ec nb nl ns dup bef b=0):(b.kind=1\/b.kind=2\/b.kind=3)/\Dh b=true/\0<=b.off/\(b.kind=3 ->b.off=0)/\Bx nb b=0:=by
 unfold Ec at h;cases hn:Ag b.name with
 |false=>rw[hn]at h;exact absurd h (show ¬(7:Int)=0 by decide)|true=>
  rw[hn]at h;cases dup with
  |true=>exact absurd h (show ¬(8:Int)=0 by decide)|false=>
   simp only[Bool.not_true,zb]at h;cases hc:Sn nl ns b.kind with
   |none=>rw[hc]at h;exact absurd h (show ¬(10:Int)=0 by decide)|some c=>
    rw[hc]at h;simp only[]at h;have hk:b.kind=1\/b.kind=2\/(b.kind=3/\c=1):=by
     unfold Sn at hc;cases e1:(b.kind==1)with
     |true=>exact .inl (eq_of_beq e1)|false=>
      cases e2:(b.kind==2)with
      |true=>exact .inr (.inl (eq_of_beq e2))|false=>
       cases e3:(b.kind==3)with
       |true=>rw[e1,e2,e3]at hc;simp only[za,zb,zj]at hc;exact .inr (.inr ⟨eq_of_beq e3,hc.symm⟩)|false=>rw[e1,e2,e3]at hc;cases hc
    cases hw:Aa b.off 0 (c -1)with
    |false=>rw[hw]at h;exact absurd h (show ¬(9:Int)=0 by decide)|true=>
     rw[hw]at h;cases hr:Dh b with
     |false=>rw[hr]at h;exact absurd h (show ¬(2:Int)=0 by decide)|true=>
      rw[hr]at h;cases ha:bef.any (Fp b)with
      |true=>rw[ha]at h;exact absurd h (show ¬(12:Int)=0 by decide)|false=>
       rw[ha]at h;simp only[Bool.not_true,zb]at h;unfold Aa at hw;simp only[zd,zi]at hw;refine⟨?_,rfl,hw.1,fun k=> ?_,h⟩
       ·rcases hk with k|k|k
        ·exact .inl k
        ·exact .inr (.inl k)
        ·exact .inr (.inr k.1)
       ·rcases hk with k'|k'|⟨_,k'⟩<;>omega
theorem Wo{nb:Nat}{b:SBay}(h:Bx nb b=0):(b.qe.length=1\/b.qe.length=2)/\Fl nb b.kind none b.qe=0:=by
 unfold Bx at h;cases e1:decide (b.qe.length<1)with
 |true=>rw[e1]at h;exact absurd h (show ¬(3:Int)=0 by decide)|false=>
  cases e2:decide (2<b.qe.length)with
  |true=>rw[e1,e2]at h;exact absurd h (show ¬(3:Int)=0 by decide)|false=>
   cases e3:(b.kind==3&&b.qe.length !=2)with
   |true=>rw[e1,e2,e3]at h;exact absurd h (show ¬(3:Int)=0 by decide)|false=>
    rw[e1,e2,e3]at h;have q1:=of_decide_eq_false e1;have q2:=of_decide_eq_false e2;exact⟨by omega,h⟩
theorem Vx{b:SBay}(h:Dh b=true):nOk b.ct/\nOk b.vt/\nOk b.sat/\nOk b.qg/\nOk b.fin/\nOk b.zr/\nOk b.zx/\(b.kind=3 ->b.vt=0)/\(b.kind≠1 ->b.fin=0)/\(b.kind≠3 ->b.zr=0/\b.zx=0):=by
 unfold Dh at h;unfold nOk;by_cases k3:b.kind=3
 ·have k1: ¬b.kind=1:=by omega
  simp[k3,Aa,El]at h;refine⟨by omega,by omega,by omega,by omega,by omega,by omega,by omega,fun _=>by omega,fun _=>by omega,fun q=>absurd k3 q⟩
 ·by_cases k1:b.kind=1
  ·simp[k1,Aa,El]at h;refine⟨by omega,by omega,by omega,by omega,by omega,by omega,by omega,fun _=>by omega,fun _=>by omega,fun q=>by omega⟩
  ·have kb:(b.kind==1)=false:=by simpa using k1
   simp[kb,k3,Aa,El]at h;refine⟨by omega,by omega,by omega,by omega,by omega,by omega,by omega,fun _=>by omega,fun _=>by omega,fun q=>by omega⟩
end Go.Y.de
namespace Go.Y.ck
open Go.RowKit Go.Eb
open Go.Y.wd (C0 Mb Ct Da)
abbrev aWd(w:Wd):AV:= .agg ((Fv w).map .d)
def Za:List AV ->Option Wd
 |[.agg [.d (.v (.string s)), .d (.v (.bool q))]]=>some ⟨s,q⟩|_=>none
def sB:Nat:=9223372036854775807
def o49:Orc:=Orc.cons 221 (ansP Agc fun r=>vB (C0 r)) Orc.nil
theorem Arc(w:Wd):Ai prog o49 na 1 f214 (Ac f214) [aWd w] []=
 (bif !Wd.q w then(bif !(Wd.text w).toList==ByteArray.toList (⟨#[]⟩)then(bif decide ((0:Int)<=0)&&decide (0<(↑(ByteArray.size (Wd.text w)):Int))then leB (C0
 (wrap i32 (↑(UInt8.toNat ((Array.toList (ByteArray.data (Wd.text w))).getD (Int.toNat 0) 0)):Int)))else none)else leB false)else leB false):=by kernel_rfl
def o55:Orc:=Orc.cons 248 (ansP dec8 fun r=>vB (C0 r)) Orc.nil
theorem ev55(w:Wd):Ai prog o55 na 1 f233 (Ac f233) [aWd w] []=
 (bif !Wd.q w then(bif !(Wd.text w).toList==ByteArray.toList (⟨#[]⟩)then(bif decide ((0:Int)<=0)&&decide (0<(↑(ByteArray.size (Wd.text w)):Int))then leB (C0
 (↑(UInt8.toNat ((Array.toList (ByteArray.data (Wd.text w))).getD (Int.toNat 0) 0)):Int))else none)else leB false)else leB false):=by kernel_rfl
def ann50:=A1 [(2,⟨[0,5,6],[]⟩)]
def L50(s:BA)(g m:Nat)(i:Int):=G5 prog Orc.nil ann50 0 g (sub [true,false,true,false,false] (Ac f215)) m ⟨frm [(0,vS s),(5,vI s.size),(6,vI i)] 0 f215.ntmps,[],0⟩ (kAt prog Orc.nil ann50 0 g [true,false,true,false] (Ac f215) (kEnd prog f215 0))
theorem ev50(s:BA)(g:Nat):Ai prog Orc.nil ann50 g f215 (Ac f215) [vS s] []=
 L50 s g g 0:=by kernel_rfl
theorem st50(s:BA)(g m:Nat)(i:Int):L50 s g (m+1) i=
 (bif decide (i<(↑(ByteArray.size s):Int))then(bif decide (0<=i)&&decide (i<(↑(ByteArray.size s):Int))then(bif decide ((↑(UInt8.toNat ((Array.toList (ByteArray.data
 s)).getD i.toNat 0)):Int)<32)then leB false else(bif decide (0<=i)&&decide (i<(↑(ByteArray.size s):Int))then(bif decide ((↑(UInt8.toNat ((Array.toList
 (ByteArray.data s)).getD i.toNat 0)):Int)>126)then leB false else(bif decide (0<=i)&&decide (i<(↑(ByteArray.size s):Int))then(bif(↑(UInt8.toNat ((Array.toList
 (ByteArray.data s)).getD i.toNat 0)):Int)==34 then leB false else L50 s g m (wrap .i64 (i+1)))else none))else none))else none)else leB true):=by kernel_rfl
def o37(op:Wd ->Bool)(qu:BA ->Bool):Orc:=Orc.cons 214 (ansP Za fun w=>vB (op w)) (Orc.cons 215 (ansC decS (fun s=>decide (s.size<=sB)) fun s=>vB (qu s)) (Orc.cons 216 (ansP decS fun s=>vB (Da s)) Orc.nil))
def Anx:=A1 [(6,⟨[1,22,23,24],[]⟩)]
def L37(op:Wd ->Bool)(qu:BA ->Bool)(x:It)(g m:Nat)(i:Int):=G5 prog (o37 op qu) Anx 0 g (sub [true,true,true,false,true,false,false] (Ac f148)) m ⟨frm [(1, .c (.ptr 0 0)),(22,aW x.words),(23,vI x.words.length),(24,vI i)] 0 f148.ntmps,[(0, .cells ((Af x).map .d) 176)],1⟩ (kAt prog (o37 op qu) Anx 0 g [true,true,true,false,true,false] (Ac f148) (kEnd prog f148 0))
theorem ev37(op:Wd ->Bool)(qu:BA ->Bool)(x:It)(g:Nat):Ai prog (o37 op qu) Anx g f148 (Ac f148) [aT x] []=
 (bif(↑(It.words x).length:Int)==0 then leI 6 else(bif decide ((0:Int)<=0)&&decide (0<(↑(It.words x).length:Int))then(bif !op (Wd.mk (Wd.text ((It.words x).getD
 (Int.toNat 0) w0)) (Wd.q ((It.words x).getD (Int.toNat 0) w0)))then leI 6 else(bif decide ((↑(It.words x).length:Int)>40)then leI 3 else L37 op qu x g g 0))else none)):=by kernel_rfl
theorem st37(op:Wd ->Bool)(qu:BA ->Bool)(x:It)(g m:Nat)(i:Int):L37 op qu x g (m+1) i=
 (bif decide (i<(↑(It.words x).length:Int))then(bif decide (0<=i)&&decide (i<(↑(It.words x).length:Int))then(bif decide ((↑(ByteArray.size (Wd.text ((It.words x).getD
 i.toNat w0))):Int)>120)then leI 4 else(bif Wd.q ((It.words x).getD i.toNat w0)then(bif decide (ByteArray.size (Wd.text ((It.words x).getD i.toNat w0))<=sB)then(bif !qu
 (Wd.text ((It.words x).getD i.toNat w0))then leI 5 else(bif !Wd.q ((It.words x).getD i.toNat w0)then(bif !Da (Wd.text ((It.words x).getD i.toNat w0))then leI 6 else L37 op qu
 x g m (wrap .i64 (i+1)))else L37 op qu x g m (wrap .i64 (i+1))))else none)else(bif !Wd.q ((It.words x).getD i.toNat w0)then(bif !Da (Wd.text ((It.words
 x).getD i.toNat w0))then leI 6 else L37 op qu x g m (wrap .i64 (i+1)))else L37 op qu x g m (wrap .i64 (i+1)))))else none)else(bif !It.block x then(bif
 decide ((↑(It.kids x).length:Int)>0)then leI 12 else leI 0)else leI 0)):=by kernel_rfl
def ansT(g:Int ->D ->Bool ->D ->AV):(R:Type) ->List AV ->Hp ->(AV ->Hp ->Option (T R)) ->Option (T R):=fun _ args H k=>match H,args with
 |[],[.agg [.d (.v (.int .i64 n)), .d w, .d (.v (.bool b)), .d ks]]=>bif okW w&&okI ks&&okWs (theW w)&&okL (theI ks)then k (g n w b ks) []else none|_,_=>none
abbrev H36(n:Int):Hp:=[(0, .cells [.d (.v (.int .i64 n))] 3),(1, .cells [.fn 147 [] [.ptr 0 0, .ptr 1 0]] 234)]
def Ajc(c:D ->Bool)(e:D ->Int ->Int ->Int)(n':D ->Int ->Int ->Int):(R:Type) ->List AV ->Hp ->(AV ->Hp ->Option (T R)) ->Option (T R):=fun _ args H k=>match H,args with
 |[(0, .cells [.d (.v (.int .i64 n))] 3),(1, .cells [.fn 147 [] [.ptr 0 0, .ptr 1 0]] 234)],[.c (.d x), .c (.d (.v (.int .i64 d))), .c (.ptr 0 0), .c (.ptr 1 0)]=>bif c x then k (vI (e x d n)) (H36 (n' x d n))else none|_,_=>none
def o36(ci:Int ->D ->Bool ->D ->Int)(c:D ->Bool)(e n':D ->Int ->Int ->Int):Orc:=Orc.cons 148 (ansT fun n w b ks=>vI (ci n w b ks)) (Orc.cons 147 (Ajc c e n') Orc.nil)
def Anz:=A1 [(2,⟨[1,2,3,11,12,13],[]⟩)]
def L36(ci:Int ->D ->Bool ->D ->Int)(c:D ->Bool)(e n':D ->Int ->Int ->Int)(l:List It)(d:Int)(g m:Nat)(n i:Int):=G5 prog (o36 ci c e n') Anz 2 g (sub [true,false,true,false,false] (Ac f147)) m ⟨frm [(1,vI d),(2, .c (.ptr 0 0)),(3, .c (.ptr 1 0)),(11,aI l),(12,vI l.length),(13,vI i)] 0 f147.ntmps,H36 n,2⟩ (kAt prog (o36 ci c e n') Anz 2 g [true,false,true,false] (Ac f147) (kEnd prog f147 2))
theorem ev36(ci:Int ->D ->Bool ->D ->Int)(c:D ->Bool)(e n':D ->Int ->Int ->Int)(l:List It)(d:Int)(g:Nat)(n:Int):Ai prog (o36 ci c e n') Anz g f147 (Ac f147) [aI l,vI d, .c (.ptr 0 0), .c (.ptr 1 0)] (H36 n)=
 L36 ci c e n' l d g g n 0:=by kernel_rfl
theorem st36(ci:Int ->D ->Bool ->D ->Int)(c:D ->Bool)(e n':D ->Int ->Int ->Int)(l:List It)(d:Int)(g m:Nat)(n i:Int):L36 ci c e n' l d g (m+1) n i=
 (bif decide (i<(↑l.length:Int))then(bif decide (0<=i)&&decide (i<(↑l.length:Int))then(bif decide (wrap .i64 (n+(1:Int))>600)then some (T.leaf (AV.c
 (.d (iD 3)),[(0, .cells [.d (iD (wrap .i64 (n+1)))] (3)),(1, .cells [.fn (147) [] [Rf.ptr (0) (0),Rf.ptr (1) (0)]] (234))]))else(bif
 decide (d>4)then some (T.leaf (iA 17,[(0, .cells [.d (iD (wrap .i64 (n+1)))] (3)),(1, .cells [.fn (147) [] [Rf.ptr (0)
 (0),Rf.ptr (1) (0)]] (234))]))else(bif okW (Aw (It.words (l.getD i.toNat i0)))&&okI (A6 (l.getD i.toNat i0))&&okWs (theW (Aw (It.words (l.getD i.toNat i0))))&&okL (theI
 (A6 (l.getD i.toNat i0)))then(bif ci (It.line (l.getD i.toNat i0)) (Aw (It.words (l.getD i.toNat i0))) (It.block (l.getD i.toNat i0)) (A6 (l.getD i.toNat i0)) !=0 then some
 (T.leaf (iA (ci (It.line (l.getD i.toNat i0)) (Aw (It.words (l.getD i.toNat i0))) (It.block (l.getD i.toNat i0)) (A6 (l.getD i.toNat i0))),[(0, .cells
 [.d (iD (wrap IntKind.i64 (n+1)))] (3)),(1, .cells [.fn (147) [] [Rf.ptr (0) (0),Rf.ptr (1) (0)]] (234))]))else(bif c (A6 (l.getD i.toNat i0))then
 (bif e (A6 (l.getD i.toNat i0)) (wrap .i64 (d+1)) (wrap .i64 (n+1)) !=0 then some (T.leaf (iA (e (A6 (l.getD i.toNat i0)) (wrap
 .i64 (d+1)) (wrap IntKind.i64 (n+1))),[(0, .cells [.d (iD (n' (A6 (l.getD i.toNat i0)) (wrap .i64 (d+1)) (wrap .i64 (n+1))))]
 (3)),(1, .cells [.fn (147) [] [Rf.ptr (0) (0),Rf.ptr (1) (0)]] ((234:Nat)))]))else L36 ci c e n' l d g m (n' (A6 (l.getD i.toNat i0)) (wrap .i64 (d+1))
 (wrap .i64 (n+1))) (wrap IntKind.i64 (i+1)))else none))else none)))else none)else some (T.leaf (iA 0,[(0, .cells [.d (D.v
 (Value.int IntKind.i64 n))] (3)),(1, .cells [.fn (147) [] [Rf.ptr (0) (0),Rf.ptr (1) (0)]] (234))]))):=by kernel_rfl
def o16(c:D ->Bool)(e n':D ->Int ->Int ->Int):Orc:=Orc.cons 147 (Ajc c e n') Orc.nil
theorem ev16(c:D ->Bool)(e n':D ->Int ->Int ->Int)(l:List It):Ai prog (o16 c e n') na 1 f81 (Ac f81) [aI l] []=
 (bif c (Bf l)then leI (e (Bf l) 0 0)else none):=by kernel_rfl
end Go.Y.ck
namespace Go.Y.ck
open Go.RowKit Go.Eb
open Go.Y.wd
theorem ArQ{n:Int}{w ks:D}{b:Bool}(hw:okW w=true)(hk:okI ks=true):Ale (.agg [.d (.v (.int .i64 n)), .d w, .d (.v (.bool b)), .d ks]) (aT (.mk n (theW w) b (theI ks))):=
 Csle.cons (DE.refl _) (Csle.cons (AcM hw) (Csle.cons (DE.refl _) (Csle.cons ((Hv hk).trans (Ek (.mk n (theW w) b (theI ks)))) Csle.nil)))
theorem Cq{J:Type}(l:List J)(d:J){k:Nat}(h:k<l.length):l.drop k=l.getD k d::l.drop (k+1):=Av h
theorem b49:f214.body=some (Ac f214):=by kernel_rfl
theorem b55:f233.body=some (Ac f233):=by kernel_rfl
theorem b50:f215.body=some (Ac f215):=by kernel_rfl
theorem b37:f148.body=some (Ac f148):=by kernel_rfl
theorem b36:f147.body=some (Ac f147):=by kernel_rfl
theorem b16:f81.body=some (Ac f81):=by kernel_rfl
theorem decWd_ok(args:List AV)(w:Wd)(h:Za args=some w):args=[aWd w]:=by
 unfold Za at h;split at h
 ·cases h;rfl
 ·simp at h
def opn(w:Wd):Bool:= !w.q&&(!(w.text.toList==(ByteArray.mk #[]).toList)&&C0 ((bs w.text).getD 0 0).toNat)
theorem V4{d:BA}(hz:(d.toList==(ByteArray.mk #[]).toList)=false):0<d.size:=by
 rcases Nat.eq_zero_or_pos d.size with h0|h0
 ·exfalso;have:d=ByteArray.mk #[]:=by
   cases d with
   |mk a=>congr 1;exact Array.eq_empty_of_size_eq_zero h0
  rw[this]at hz;simp at hz
 ·exact h0
theorem Anh(c:UInt8):(c.toNat:Int)<=255:=by have:=c.toNat_lt;omega
theorem c49(w:Wd):CX prog 214 [aWd w] [] (vB (opn w)) []:=by
 have ho:B4 prog o49:=Orc.cons_ok (Orc.nil_ok _) (Fq U3 c46);refine Am ho func214 b49 rfl ((Arc w).trans ?_);unfold opn;cases hq:w.q with
 |true=>rfl|false=>
  cases hz:(w.text.toList==(ByteArray.mk #[]).toList)with
  |true=>rfl|false=>
   have hp:=V4 hz;have g1:(decide ((0:Int)<=0)&&decide ((0:Int)<(w.text.size:Int)))=true:=by simp;omega
   have hw:wrap i32 ((((bs w.text).getD (Int.toNat 0) 0).toNat:Nat):Int)=(((bs w.text).getD (Int.toNat 0) 0).toNat:Int):=AcI (by omega) (by have:=Anh ((bs w.text).getD (Int.toNat 0) 0);omega);rw[g1];simp only[Bool.not_false,za,Bool.true_and];rw[hw];rfl
theorem c55(w:Wd):CX prog 233 [aWd w] [] (vB (opn w)) []:=by
 have ho:B4 prog o55:=Orc.cons_ok (Orc.nil_ok _) (Fq U1 c47);refine Am ho func233 b55 rfl ((ev55 w).trans ?_);unfold opn;cases hq:w.q with
 |true=>rfl|false=>
  cases hz:(w.text.toList==(ByteArray.mk #[]).toList)with
  |true=>rfl|false=>
   have hp:=V4 hz;have g1:(decide ((0:Int)<=0)&&decide ((0:Int)<(w.text.size:Int)))=true:=by simp;omega
   rw[g1];rfl
def qch(c:UInt8):Bool:= !(decide ((c.toNat:Int)<32))&&(!(decide ((c.toNat:Int)>126))&& !((c.toNat:Int)==34))
def quot(s:BA):Bool:=(bs s).all qch
theorem lp50(s:BA)(g:Nat)(hs:s.size<=9223372036854775807): ∀(m k:Nat),k<=s.size ->s.size -k<m ->L50 s g m k=some (.leaf (vB (((bs s).drop k).all qch),[]))
 |0,k,_,h=>by omega|m+1,k,hk,h=>by
  rw[st50];by_cases hlt:k<s.size
  ·have hl:k<(bs s).length:=by rw[Pp];exact hlt
   rw[Qh _ _ hl];simp only[lt1 hlt,ge0,tn,Bool.and_self,za];rw[nx hlt hs,lp50 s g hs m (k+1) (by omega) (by omega)];unfold qch;cases decide ((((bs s).getD k 0).toNat:Int)<32)<;>cases decide ((((bs s).getD k 0).toNat:Int)>126)<;>cases((((bs s).getD k 0).toNat:Int)==34)<;>rfl
  ·rw[lt0 hlt,zl (by rw[Pp];omega)];rfl
theorem c50(s:BA)(hs:s.size<=9223372036854775807):CX prog 215 [vS s] [] (vB (quot s)) []:=by
 refine Am (Orc.nil_ok _) func215 b50 rfl ((ev50 s (s.size+1)).trans ?_);exact lp50 s (s.size+1) hs (s.size+1) 0 (by omega) (by omega)
def cwd(w:Wd):Int:=bif decide ((w.text.size:Int)>120)then 4 else bif w.q then(bif quot w.text then 0 else 5)else(bif Da w.text then 0 else 6)
def cws:List Wd ->Int
 |[]=>0|w::r=>bif cwd w !=0 then cwd w else cws r
def Dd(x:It):Int:=
 bif(x.words.length:Int)==0 then 6 else bif !opn (x.words.getD 0 w0)then 6 else bif decide ((x.words.length:Int)>40)then 3 else
  bif cws x.words !=0 then cws x.words else bif !x.block then(bif decide ((x.kids.length:Int)>0)then 12 else 0)else 0
def Zc(x:It)(e:Int):Int:=bif e !=0 then e else bif !x.block then(bif decide ((x.kids.length:Int)>0)then 12 else 0)else 0
theorem ok37:B4 prog (o37 opn quot):=Orc.cons_ok (Orc.cons_ok (Orc.cons_ok (Orc.nil_ok _) (Fq D9 c13)) (Va D9 fun s h=>c50 s (by unfold sB at h;simpa using h))) (Fq decWd_ok c49)
theorem wsz{l:List Wd}(h:okWs l=true){k:Nat}(hk:k<l.length):(l.getD k w0).text.size<=9223372036854775807:=by
 unfold okWs at h;simp only[zd,List.all_eq_true,zi]at h;refine h.2 _ ?_;simp[List.getD,hk]
theorem lp37(x:It)(g:Nat)(hw:okWs x.words=true): ∀(m k:Nat),k<=x.words.length ->x.words.length -k<m ->L37 opn quot x g m k=some (.leaf (vI (Zc x (cws (x.words.drop k))),[]))
 |0,k,_,h=>by omega|m+1,k,hk,h=>by
  rw[st37];by_cases hlt:k<x.words.length
  ·have hsz:decide ((x.words.getD k w0).text.size<=sB)=true:=zk (wsz hw hlt);simp only[lt1 hlt,ge0,tn,Bool.and_self,za,hsz];rw[nx hlt (Lm hw),lp37 x g hw m (k+1) (by omega) (by omega),Cq x.words w0 hlt];simp only[cws,cwd];cases decide (((x.words.getD k w0).text.size:Int)>120)<;>cases(x.words.getD k w0).q<;>cases quot (x.words.getD k w0).text<;>cases Da (x.words.getD k w0).text<;>rfl
  ·rw[lt0 hlt,zl];unfold Zc cws;cases x.block<;>cases decide ((x.kids.length:Int)>0)<;>rfl
theorem c37(x:It)(hw:okWs x.words=true):CX prog 148 [aT x] [] (vI (Dd x)) []:=by
 refine Am ok37 func148 b37 rfl ((ev37 opn quot x (x.words.length+1)).trans ?_);have hl:=lp37 x (x.words.length+1) hw (x.words.length+1) 0 (by omega) (by omega);have hl':L37 opn quot x (x.words.length+1) (x.words.length+1) 0=_:=hl;rw[hl'];unfold Dd Zc;cases h0:((x.words.length:Int)==0)with
 |true=>rfl|false=>
  have hne:x.words.length≠0:=fun e=>by rw[e]at h0;simp at h0
  have hp:(decide ((0:Int)<=0)&&decide ((0:Int)<(x.words.length:Int)))=true:=by rw[zk (show(0:Int)<(x.words.length:Int)by omega)];rfl
  rw[hp];simp only[zb,za,zq];show(bif !opn (x.words.getD 0 w0)then _ else _)=_;cases opn (x.words.getD 0 w0)<;>cases decide ((x.words.length:Int)>40)<;>cases(cws x.words !=0)<;>rfl
theorem Agx{f:FuncId}{ci:It ->Int}(hc: ∀x,okWs x.words=true ->CX prog f [aT x] [] (vI (ci x)) []): ∀(R:Type) args H (k:AV ->Hp ->Option (T R)) t,ansT (fun n w b ks=>vI (ci (.mk n (theW w) b (theI ks)))) R args H k=some t -> ∃x H',k x H'=some t/\CX prog f args H x H':=fun R args H k t h=>by
 unfold ansT at h;split at h
 ·rename_i n w b ks;cases hx:(okW w&&okI ks&&okWs (theW w)&&okL (theI ks))with
  |false=>rw[hx]at h;cases h|true=>
   rw[hx]at h;simp only[zd]at hx;have⟨⟨⟨h1,h2⟩,h3⟩,h4⟩:=hx;exact⟨_,_,h,(hc (.mk n (theW w) b (theI ks)) h3).ge (.cons (ArQ h1 h2) .nil) .nil⟩
 ·simp at h
def chP:List It ->Int ->Int ->Int×Int
 |[],_,n=>(0,n)| .mk a w b k::r,d,n=>
  bif decide (wrap IntKind.i64 (n+1)>600)then(3,wrap IntKind.i64 (n+1))else bif decide (d>4)then(17,wrap IntKind.i64 (n+1))else
   bif Dd (.mk a w b k) !=0 then(Dd (.mk a w b k),wrap IntKind.i64 (n+1))else
    bif(chP k (wrap IntKind.i64 (d+1)) (wrap IntKind.i64 (n+1))).1 !=0 then chP k (wrap IntKind.i64 (d+1)) (wrap IntKind.i64 (n+1))else
     chP r d (chP k (wrap IntKind.i64 (d+1)) (wrap IntKind.i64 (n+1))).2
theorem Mf(x:It)(r:List It)(d n:Int):chP (x::r) d n=bif decide (wrap IntKind.i64 (n+1)>600)then(3,wrap IntKind.i64 (n+1))else bif decide (d>4)then(17,wrap IntKind.i64 (n+1))else
 bif Dd x !=0 then(Dd x,wrap IntKind.i64 (n+1))else
  bif(chP x.kids (wrap IntKind.i64 (d+1)) (wrap IntKind.i64 (n+1))).1 !=0 then chP x.kids (wrap IntKind.i64 (d+1)) (wrap IntKind.i64 (n+1))else
   chP r d (chP x.kids (wrap IntKind.i64 (d+1)) (wrap IntKind.i64 (n+1))).2:=by cases x;simp only[chP,It.kids]
def cc(N:Nat)(x:D):Bool:=okI x&&okL (theI x)&&decide (dep (theI x)<N)
def ciP(n:Int)(w:D)(b:Bool)(ks:D):Int:=Dd (.mk n (theW w) b (theI ks))
def eP(x:D)(d n:Int):Int:=(chP (theI x) d n).1
def nP(x:D)(d n:Int):Int:=(chP (theI x) d n).2
theorem lp36(N:Nat)(l:List It)(d:Int)(g:Nat)(hN:dep l<=N)(hL:okL l=true): ∀(m k:Nat) (n:Int),k<=l.length ->l.length -k<m ->
  L36 ciP (cc N) eP nP l d g m n k=some (.leaf (vI (chP (l.drop k) d n).1,H36 (chP (l.drop k) d n).2))
 |0,k,n,_,h=>by omega|m+1,k,n,hk,h=>by
  rw[st36];by_cases hlt:k<l.length
  ·have hd:=Jm l k hlt;obtain⟨ho,hw⟩:=Kx hL hlt;have hdd:decide (dep (l.getD k i0).kids<N)=true:=zk;simp only[lt1 hlt,ge0,tn,Bool.and_self,za,cc,eP,nP,ciP,Wf,Sq,Py,Fb,ho,hw,hdd];rw[nx hlt (Kw hL),lp36 N l d g hN hL m (k+1) _ (by omega) (by omega),Cq l i0 hlt,Mf];rw[<-It.eta (l.getD k i0)];cases decide (wrap IntKind.i64 (n+1)>600)with
   |true=>rfl|false=>
    cases decide (d>4)with
    |true=>rfl|false=>
     cases hc:(Dd (l.getD k i0) !=0)with
     |true=>rfl|false=>
      cases he:((chP (l.getD k i0).kids (wrap IntKind.i64 (d+1)) (wrap IntKind.i64 (n+1))).1 !=0)with
      |true=>simp only[zb,za]|false=>rfl
  ·rw[lt0 hlt,zl];simp only[zb,chP]
theorem Abm{N:Nat}(hc: ∀(l:List It) (d n:Int),dep l<N ->okL l=true ->CX prog 147 [aI l,vI d, .c (.ptr 0 0), .c (.ptr 1 0)] (H36 n) (vI (chP l d n).1) (H36 (chP l d n).2)):
  ∀(R:Type) args H (k:AV ->Hp ->Option (T R)) t,Ajc (cc N) eP nP R args H k=some t -> ∃x H',k x H'=some t/\CX prog 147 args H x H':=fun R args H k t h=>by
 unfold Ajc at h;split at h
 ·rename_i n x d;cases hx:cc N x with
  |false=>rw[hx]at h;cases h|true=>
   rw[hx]at h;unfold cc at hx;simp only[zd,zi]at hx;exact⟨_,_,h,(hc (theI x) d n hx.2 hx.1.2).ge (.cons (Pt (Hv hx.1.1)) (.refl _)) (.refl _)⟩
 ·simp at h
theorem c36: ∀(N:Nat) (l:List It) (d n:Int),dep l<N ->okL l=true ->CX prog 147 [aI l,vI d, .c (.ptr 0 0), .c (.ptr 1 0)] (H36 n) (vI (chP l d n).1) (H36 (chP l d n).2)
 |0,l,d,n,h,_=>by omega|N+1,l,d,n,h,hL=>by
  have ho:B4 prog (o36 ciP (cc N) eP nP):=Orc.cons_ok (Orc.cons_ok (Orc.nil_ok _) (Abm (c36 N))) (Agx c37);refine Am ho func147 b36 rfl ((ev36 ciP (cc N) eP nP l d (l.length+1) n).trans ?_);exact lp36 N l d (l.length+1) (by omega) hL (l.length+1) 0 n (by omega) (by omega)
def chk(l:List It):Int:=(chP l 0 0).1
theorem c16(l:List It)(hL:okL l=true):CX prog 81 [aI l] [] (vI (chk l)) []:=by
 have ho:B4 prog (o16 (cc (dep l+1)) eP nP):=Orc.cons_ok (Orc.nil_ok _) (Abm (c36 (dep l+1)));refine Am ho func81 b16 rfl ((ev16 (cc (dep l+1)) eP nP l).trans ?_);simp only[cc,eP,Gj,C3,hL,Bool.true_and];rw[zk (Nat.lt_succ_self _)];rfl
end Go.Y.ck
namespace Go.Y.de
open Go.RowKit Go.Eb Go.Y.st
theorem Lw{r x:Int}(h:El r x=true):0<=r/\r<=1000/\1<=x/\x<=1000:=by
 unfold El Aa at h;simp at h;omega
inductive Tg where
 |sta|bus (n:BA)|line (L:SLine)|src (L:SSrc)|bay (b:SBay)|oth (y:It)
def Tg.enc(s:SSta):Tg ->It
 | .sta=>say [Gy,s.name]| .bus n=>Pj n| .line L=>F7 L| .src L=>Hf L| .bay b=>Bc s b| .oth y=>y
section
variable (s:SSta)
theorem take_at{J:Type}{nm:J ->BA}{F:List BA ->List J ->J ->Int}{N:List BA}{x0:J}: ∀(l bef:List J) (k:Nat),(D3 nm F N bef l).1=0 ->k<l.length ->F (N++(bef++l.take k).map nm) (bef++l.take k) (l.getD k x0)=0
 |[],_,k,_,hk=>by simp at hk|x::r,bef,k,h,hk=>by
  simp only[D3]at h;cases e:(F (N++bef.map nm) bef x !=0)with
  |true=>
   rw[e]at h;simp only[za]at h;rw[h]at e;cases e
  |false=>
   rw[e]at h;simp only[zb]at h;cases k with
   |zero=>
    simp only[List.take_zero,List.append_nil,List.getD_cons_zero];simpa using e
   |succ k=>
    have:=take_at (x0:=x0) r (bef++[x]) k h (by simpa using hk);simpa using this
end
theorem Q9{N:List BA}{n:BA}(h:Bq N n=0):Ag n=true/\inB N n=false:=by
 unfold Bq at h;cases h1:Ag n with
 |false=>rw[h1]at h;exact absurd h (show ¬(7:Int)=0 by decide)|true=>
  cases h2:inB N n with
  |true=>rw[h1,h2]at h;exact absurd h (show ¬(8:Int)=0 by decide)|false=>exact⟨rfl,rfl⟩
theorem Mu{N:List BA}{x:SLine}(h:Jg N x=0):Ag x.name=true/\inB N x.name=false/\El x.r1 x.x1=true/\El x.r0 x.x0=true:=by
 unfold Jg at h;cases h0:(Bq N x.name !=0)with
 |true=>
  rw[h0]at h;simp only[za]at h;rw[h]at h0;cases h0
 |false=>
  obtain⟨n1,n2⟩:=Q9 (show Bq N x.name=0 by simpa using h0);rw[h0]at h;cases h1:El x.r1 x.x1 with
  |false=>rw[h1]at h;exact absurd h (show ¬(2:Int)=0 by decide)|true=>
   cases h2:El x.r0 x.x0 with
   |false=>rw[h1,h2]at h;exact absurd h (show ¬(2:Int)=0 by decide)|true=>exact⟨n1,n2,rfl,rfl⟩
theorem Qp{N:List BA}{x:SSrc}(h:Pd N x=0):Ag x.name=true/\inB N x.name=false/\El x.r1 x.x1=true/\El x.r0 x.x0=true/\Aa x.emf 1 1000000=true:=by
 unfold Pd at h;cases h0:(Bq N x.name !=0)with
 |true=>
  rw[h0]at h;simp only[za]at h;rw[h]at h0;cases h0
 |false=>
  obtain⟨n1,n2⟩:=Q9 (show Bq N x.name=0 by simpa using h0);rw[h0]at h;cases h3:Aa x.emf 1 1000000 with
  |false=>rw[h3]at h;exact absurd h (show ¬(2:Int)=0 by decide)|true=>
   cases h1:El x.r1 x.x1 with
   |false=>rw[h3,h1]at h;exact absurd h (show ¬(2:Int)=0 by decide)|true=>
    cases h2:El x.r0 x.x0 with
    |false=>rw[h3,h1,h2]at h;exact absurd h (show ¬(2:Int)=0 by decide)|true=>exact⟨n1,n2,rfl,rfl,rfl⟩
theorem Ago{nb nl ns:Nat}{dup:Bool}{bef:List SBay}{b:SBay}(h:Ec nb nl ns dup bef b=0):(b.kind=1 ->b.off.toNat<nl)/\(b.kind=2 ->b.off.toNat<ns):=by
 have ho:=(Rt h).2.2.1;unfold Ec at h;cases hn:Ag b.name with
 |false=>rw[hn]at h;exact absurd h (show ¬(7:Int)=0 by decide)|true=>
  rw[hn]at h;cases dup with
  |true=>exact absurd h (show ¬(8:Int)=0 by decide)|false=>
   simp only[Bool.not_true,zb]at h;refine⟨fun k=> ?_,fun k=> ?_⟩
   ·rw[show Sn nl ns b.kind=some (nl:Int)by unfold Sn;rw[k];rfl]at h;simp only[]at h;cases hw:Aa b.off 0 ((nl:Int) -1)with
    |false=>rw[hw]at h;exact absurd h (show ¬(9:Int)=0 by decide)|true=>unfold Aa at hw;simp only[zd,zi]at hw;omega
   ·rw[show Sn nl ns b.kind=some (ns:Int)by unfold Sn;rw[k];rfl]at h;simp only[]at h;cases hw:Aa b.off 0 ((ns:Int) -1)with
    |false=>rw[hw]at h;exact absurd h (show ¬(9:Int)=0 by decide)|true=>unfold Aa at hw;simp only[zd,zi]at hw;omega
theorem Ug{nb:Nat}{k:Int}: ∀{p:Option Int} {ls:List SLink},Fl nb k p ls=0 -> ∀l∈ls,0<=l.bus/\l.bus.toNat<nb/\(l.pos=0\/l.pos=1)
 |_,[],_,l,hl=>by cases hl|p,x::r,h,l,hl=>by
  unfold Fl at h;cases hw:Aa x.bus 0 ((nb:Int) -1)with
  |false=>rw[hw]at h;exact absurd h (show ¬(9:Int)=0 by decide)|true=>
   rw[hw]at h;simp only[Bool.not_true,zb]at h;cases hp:(x.pos !=1&&(x.pos !=0||k==3))with
   |true=>rw[hp]at h;exact absurd h (show ¬(16:Int)=0 by decide)|false=>
    rw[hp]at h;simp only[zb]at h;cases hd:(p==some x.bus)with
    |true=>rw[hd]at h;exact absurd h (show ¬(12:Int)=0 by decide)|false=>
     rw[hd]at h;simp only[zb]at h;rcases List.mem_cons.1 hl with rfl|hl
     ·unfold Aa at hw;simp only[zd,zi]at hw;refine⟨hw.1,by omega, ?_⟩;cases q1:(l.pos !=1)with
      |false=>right;simpa using q1|true=>
       cases q2:(l.pos !=0)with
       |false=>left;simpa using q2|true=>rw[q1,q2]at hp;cases hp
     ·exact Ug h l hl
theorem chk_split{s:SSta}(h:A3 s=0):Ag s.name=true/\Jp s=false/\(tBus s.qa).1=0/\(Hk s.qa s.qb).1=0/\(tSrc (s.qa++s.qb.map SLine.name) s.qc).1=0/\(tBay s.qa.length s.qb.length s.qc.length (s.qa++s.qb.map SLine.name++s.qc.map SSrc.name) s.qd).1=0:=by
 unfold A3 at h;cases h1:Ag s.name with
 |false=>rw[h1]at h;exact absurd h (show ¬(7:Int)=0 by decide)|true=>
  cases h2:Jp s with
  |true=>rw[h1,h2]at h;exact absurd h (show ¬(3:Int)=0 by decide)|false=>
   rw[h1,h2]at h;simp only[Bool.not_true,zb]at h;have z: ∀{x y:Int},(bif x !=0 then x else y)=0 ->x=0/\y=0:=by
    intro x y hx;cases e:(x !=0)with
    |true=>rw[e]at hx;simp only[za]at hx;rw[hx]at e;cases e|false=>rw[e]at hx;exact⟨by simpa using e,hx⟩
   obtain⟨a1,h⟩:=z h;obtain⟨a2,h⟩:=z h;obtain⟨a3,h⟩:=z h;exact⟨rfl,rfl,a1,a2,a3,h⟩
theorem W4{s:SSta}(h:Jp s=false):s.qa≠[]/\s.qa.length<=4/\s.qb.length<=6/\s.qc.length<=4/\s.qd.length<=16:=by
 unfold Jp at h;simp only[Bool.or_eq_false_iff,decide_eq_false_iff_not]at h;have⟨h1,h2,h3,h4,h5⟩:=h;refine⟨?_,by omega,by omega,by omega,by omega⟩;intro e;rw[e]at h1;cases h1
def mainT(s:SSta):List Tg:=s.qa.map .bus++(s.qb.map .line++(s.qc.map .src++s.qd.map .bay))
theorem main_enc(s:SSta):(mainT s).map (Tg.enc s)=(Cp s).tail:=by
 unfold mainT Cp;simp[Tg.enc,List.map_append,Function.comp_def,List.append_assoc]
theorem B9{n:Int}(h:nOk n):Hl n:=by
 have h1:=h.1;have h2:=h.2;refine⟨h1, ?_⟩;show n<1000000000000;omega
theorem AbP{s:SSta}(h:A3 s=0)(k:Nat)(hk:k<s.qb.length):LFit (s.qb.getD k Ah):=by
 obtain⟨_,_,_,h2,_,_⟩:=chk_split h;obtain⟨_,_,i1,i2⟩:=Mu (take_at (x0:=Ah) s.qb [] k h2 hk);obtain⟨p1,p2,p3,p4⟩:=Lw i1;obtain⟨p5,p6,p7,p8⟩:=Lw i2;exact⟨B9 ⟨by omega,by omega⟩,B9 ⟨by omega,by omega⟩,B9 ⟨by omega,by omega⟩,B9 ⟨by omega,by omega⟩⟩
theorem AdQ{s:SSta}(h:A3 s=0)(k:Nat)(hk:k<s.qc.length):GFit (s.qc.getD k src0):=by
 obtain⟨_,_,_,_,h3,_⟩:=chk_split h;obtain⟨_,_,i1,i2,iz⟩:=Qp (take_at (x0:=src0) s.qc [] k h3 hk);obtain⟨p1,p2,p3,p4⟩:=Lw i1;obtain⟨p5,p6,p7,p8⟩:=Lw i2;unfold Aa at iz;simp only[zd,zi]at iz;exact⟨B9 ⟨by omega,by omega⟩,B9 ⟨by omega,by omega⟩,B9 ⟨by omega,by omega⟩,B9 ⟨by omega,by omega⟩,B9 ⟨by omega,by omega⟩⟩
theorem AdR{s:SSta}(h:A3 s=0)(k:Nat)(hk:k<s.qd.length):BFit s (s.qd.getD k bay0):=by
 obtain⟨_,_,_,_,_,h4⟩:=chk_split h;have he:=take_at (x0:=bay0) s.qd [] k h4 hk;generalize s.qd.getD k bay0=b at he;unfold Jv at he;obtain⟨_,hr,ho,_,hle⟩:=Rt he;obtain⟨hll,hlk⟩:=Wo hle;obtain⟨o1,o2⟩:=Ago he;obtain⟨r1,r2,r3,r4,r5,r6,r7,_⟩:=Vx hr;refine⟨fun q=>⟨ho,by have:=o1 q;omega⟩,fun q=>⟨ho,by have:=o2 q;omega⟩,B9 r5,B9 r6,B9 r7,B9 r1,B9 r2,B9 r3,B9 r4,fun j hj=> ?_,by omega⟩;have hm:b.qe.getD j A4∈b.qe:=by
  rw[zh,zn hj];exact List.getElem_mem hj
 obtain⟨a1,a2,_⟩:=Ug hlk _ hm;exact⟨a1,by omega⟩
theorem sfit{s:SSta}(h:A3 s=0):SFit s:=by
 obtain⟨_,hc,_⟩:=chk_split h;obtain⟨_,l1,l2,l3,l4⟩:=W4 hc;exact⟨AbP h,AdQ h,AdR h,by omega,by omega,by omega,by omega⟩
end Go.Y.de
namespace Go.Y.de
open Go.RowKit Go.Eb Go.Y.st
open Go.Y.ck (chP Mf Dd)
end Go.Y.de
namespace Go.Y.de
open Go.RowKit Go.Eb Go.Y.st
open Go.Y.wd
theorem M5{l:List UInt8}(h:digs l=true):l.all (fun c=>Ct c.toNat)=true:=by
 unfold digs at h;rw[List.all_eq_true]at h⊢;intro c hc;have:=h c hc;unfold Ct;simp[this]
theorem AfZ(n:Int):Da (dec n)=true:=by
 obtain⟨f1,_,c,r,f3,_⟩:=M6 n.toNat;unfold Da dec;rw[M5 f1,Adc,sne]
 ·rfl
 ·intro e;rw[e]at f3;cases f3
theorem Gr{t:BA}(h:Da t=true)(hs:t.size<=120):ck.cwd ⟨t,false⟩=0:=by
 unfold ck.cwd;rw[zt (by show ¬(t.size:Int)>120;omega),h];rfl
theorem AaC: ∀(l:List UInt8) (i:Nat),nmT i l=true ->l.all (fun c=>Ct c.toNat)=true
 |[],_,_=>rfl|c::r,i,h=>by
  unfold nmT at h;simp only[zd]at h;rw[List.all_cons,AaC r (i+1) h.2,Bool.and_true];have h1:=h.1;unfold Uh Aaz at h1;unfold Ct C0 Mb;simp only[Bool.or_eq_true,zd]at h1⊢;rcases h1 with h1|⟨_,h1|h1⟩
  ·exact .inl (.inl (.inl (.inl (.inl (.inl (.inl h1))))))
  ·exact .inl (.inl (.inl (.inl (.inl (.inl (.inr h1))))))
  ·exact .inl (.inl (.inl (.inl (.inl (.inr h1)))))
theorem S5{s:BA}(h:Ag s=true):Da s=true/\s.size<=120:=by
 unfold Ag at h;simp only[zd,Bool.not_eq_true',decide_eq_false_iff_not]at h;have⟨h0,h1,h2⟩:=h;refine⟨?_,by omega⟩;unfold Da;rw[AaC _ 0 h2,Adc,sne]
 ·rfl
 ·intro e;rw[e]at h0;cases h0
structure Good (x:It):Prop where
 len:x.words.length<=40
 ne:x.words≠[]
 op:ck.opn (x.words.getD 0 w0)=true
 ws: ∀w∈x.words,ck.cwd w=0
theorem Akq{w:Wd}(h:ck.cwd w=0):w.text.size<=120:=by
 unfold ck.cwd at h;cases e:decide ((w.text.size:Int)>120)with
 |true=>rw[e]at h;exact absurd h (show ¬(4:Int)=0 by decide)|false=>have:=of_decide_eq_false e;omega
theorem Good.fit{x:It}(h:Good x):decide (x.words.length<=9223372036854775807)=true/\x.words.all (fun w=>decide (w.text.size<=9223372036854775807))=true:=by
 have h1:=h.len;refine⟨zk,List.all_eq_true.2 fun w hw=>zk ?_⟩;have:=Akq (h.ws w hw);omega
theorem Wy: ∀(l:List It),(∀x∈l,Good x/\x.kids=[]) ->fits l=true
 |[],_=>by rw[fits]| .mk a w b k::r,h=>by
  obtain⟨h1,h2⟩:=h (.mk a w b k) (by simp);obtain⟨f1,f2⟩:=h1.fit;have hk:k=[]:=h2;subst hk;have ih:=Wy r fun x hx=>h x (by simp[hx])
  unfold fits;rw[show decide (w.length<=9223372036854775807)=true from f1,show w.all (fun x=>decide (x.text.size<=9223372036854775807))=true from f2,ih];unfold fits;rfl
theorem Us: ∀(l:List It),(∀x∈l,Good x/\x.kids.length<=600/\ ∀y∈x.kids,Good y/\y.kids=[]) ->fits l=true
 |[],_=>by rw[fits]| .mk a w b k::r,h=>by
  obtain⟨h1,h2,h3⟩:=h (.mk a w b k) (by simp);obtain⟨f1,f2⟩:=h1.fit;have h2':k.length<=600:=h2;have ih:=Us r fun x hx=>h x (by simp[hx])
  unfold fits;rw[show decide (w.length<=9223372036854775807)=true from f1,show w.all (fun x=>decide (x.text.size<=9223372036854775807))=true from f2,ih,Wy k h3,zk (show k.length<=9223372036854775807 by omega)];rfl
theorem AhR{t:BA}{r:List BA}(h1:ck.opn ⟨t,false⟩=true)(h2:ck.cwd ⟨t,false⟩=0)(h3: ∀u∈r,ck.cwd ⟨u,false⟩=0)(h4:r.length<=39):Good (say (t::r))/\(say (t::r)).kids=[]:=by
 refine⟨⟨?_, ?_,h1, ?_⟩,rfl⟩
 ·show((t::r).map fun t=>(⟨t,false⟩:Wd)).length<=40;simp;omega
 ·show((t::r).map fun t=>(⟨t,false⟩:Wd))≠[];simp
 ·intro w hw;have hw':w∈(t::r).map fun t=>(⟨t,false⟩:Wd):=hw
  simp only[List.map_cons,List.mem_cons,List.mem_map]at hw';rcases hw' with rfl|⟨u,hu,rfl⟩
  ·exact h2
  ·exact h3 u hu
theorem cwdN{t:BA}(h:Ag t=true):ck.cwd ⟨t,false⟩=0:=Gr (S5 h).1 (S5 h).2
theorem cwdD{n:Int}(h:nOk n):ck.cwd ⟨dec n,false⟩=0:=by
 refine Gr (AfZ n) ?_;have:=Zb 6 n.toNat (by have:=h.2;have:=h.1;omega);unfold dec;omega
structure Tag (t:BA):Prop where
 op:ck.opn ⟨t,false⟩=true
 cw:ck.cwd ⟨t,false⟩=0
theorem Bs{t:BA}(h1:t≠ByteArray.mk #[])(h2:C0 ((bs t).getD 0 0).toNat=true)(h3:(bs t).all (fun c=>Ct c.toNat)=true)(h4:t.size<=120):Tag t:=by
 have h5:(t.toList==(ByteArray.mk #[]).toList)=false:=by rw[Adc];exact sne h1
 refine⟨?_,Gr ?_ h4⟩
 ·unfold ck.opn;rw[h5,h2];rfl
 ·unfold Da;rw[h3,h5];rfl
theorem tgStation:Tag Gy:=Bs (by decide) (by kernel_rfl) (by kernel_rfl) (by decide)
theorem tgBus:Tag Vs:=Bs (by decide) (by kernel_rfl) (by kernel_rfl) (by decide)
theorem tgLine:Tag Hy:=Bs (by decide) (by kernel_rfl) (by kernel_rfl) (by decide)
theorem tgSource:Tag Fe:=Bs (by decide) (by kernel_rfl) (by kernel_rfl) (by decide)
theorem Alh:Tag Sj:=Bs (by decide) (by kernel_rfl) (by kernel_rfl) (by decide)
theorem tgCoupler:Tag Fx:=Bs (by decide) (by kernel_rfl) (by kernel_rfl) (by decide)
theorem tgCt:Tag tCt:=Bs (by decide) (by kernel_rfl) (by kernel_rfl) (by decide)
theorem tgVt:Tag tVt:=Bs (by decide) (by kernel_rfl) (by kernel_rfl) (by decide)
theorem ApF:Tag tSat:=Bs (by decide) (by kernel_rfl) (by kernel_rfl) (by decide)
theorem AgS:Tag F2:=Bs (by decide) (by kernel_rfl) (by kernel_rfl) (by decide)
theorem tgSelect:Tag Tu:=Bs (by decide) (by kernel_rfl) (by kernel_rfl) (by decide)
theorem tgOpen:Tag Hx:=Bs (by decide) (by kernel_rfl) (by kernel_rfl) (by decide)
theorem tgClosed:Tag Tv:=Bs (by decide) (by kernel_rfl) (by kernel_rfl) (by decide)
theorem tgBreaker:Tag Cs:=Bs (by decide) (by kernel_rfl) (by kernel_rfl) (by decide)
theorem Tag.say{t:BA}(h:Tag t){r:List BA}(h3: ∀u∈r,ck.cwd ⟨u,false⟩=0)(h4:r.length<=39):Good (say (t::r))/\(Go.Eb.say (t::r)).kids=[]:=AhR h.op h.cw h3 h4
theorem mem_at{J:Type}{d x:J}: ∀{l:List J},x∈l -> ∃k,k<l.length/\l.getD k d=x
 |[],h=>by simp at h|y::r,h=>by
  rcases List.mem_cons.1 h with rfl|h
  ·exact⟨0,by simp,rfl⟩
  ·obtain⟨k,h1,h2⟩:=mem_at h;exact⟨k+1,by simpa using h1,h2⟩
theorem wth{n a b:Int}(h:Aa n a b=true):a<=n/\n<=b:=by
 unfold Aa at h;simp only[zd,zi]at h;exact⟨h.1,h.2⟩
theorem Aim{r x:Int}(h:El r x=true):nOk r/\nOk x:=by
 unfold El at h;simp only[zd]at h;have a:=wth h.1;have b:=wth h.2;exact⟨⟨by omega,by omega⟩,⟨by omega,by omega⟩⟩
section
variable {s:SSta}(h:A3 s=0)
include h
theorem Akt(k:Nat)(hk:k<s.qa.length):Ag (s.qa.getD k e0)=true:=by
 obtain⟨_,_,h1,_,_,_⟩:=chk_split h;exact(Q9 (take_at (x0:=e0) s.qa [] k h1 hk)).1
theorem Aio{n:BA}(hn:n∈s.qa):Good (Pj n)/\(Pj n).kids=[]:=by
 obtain⟨k,hk,rfl⟩:=mem_at (d:=e0) hn;exact tgBus.say (by simp only[List.mem_singleton];rintro u rfl;exact cwdN (Akt h k hk)) (by simp)
theorem Afn{x:SLine}(hn:x∈s.qb):Good (F7 x)/\(F7 x).kids=[]:=by
 obtain⟨k,hk,rfl⟩:=mem_at (d:=Ah) hn;obtain⟨_,_,_,h2,_,_⟩:=chk_split h;obtain⟨n1,_,i1,i2⟩:=Mu (take_at (x0:=Ah) s.qb [] k h2 hk);obtain⟨a1,a2⟩:=Aim i1;obtain⟨a3,a4⟩:=Aim i2;refine tgLine.say ?_ (by simp);simp only[List.mem_cons,List.not_mem_nil,or_false];rintro u (rfl|rfl|rfl|rfl|rfl)
 ·exact cwdN n1
 ·exact cwdD a1
 ·exact cwdD a2
 ·exact cwdD a3
 ·exact cwdD a4
theorem Ain{x:SSrc}(hn:x∈s.qc):Good (Hf x)/\(Hf x).kids=[]:=by
 obtain⟨k,hk,rfl⟩:=mem_at (d:=src0) hn;obtain⟨_,_,_,_,h3,_⟩:=chk_split h;obtain⟨n1,_,i1,i2,i3⟩:=Qp (take_at (x0:=src0) s.qc [] k h3 hk);obtain⟨a1,a2⟩:=Aim i1;obtain⟨a3,a4⟩:=Aim i2;have a5:nOk (s.qc.getD k src0).emf:=by have:=wth i3;exact⟨by omega,by omega⟩
 refine tgSource.say ?_ (by simp);simp only[List.mem_cons,List.not_mem_nil,or_false];rintro u (rfl|rfl|rfl|rfl|rfl|rfl)
 ·exact cwdN n1
 ·exact cwdD a5
 ·exact cwdD a1
 ·exact cwdD a2
 ·exact cwdD a3
 ·exact cwdD a4
end
theorem bay_nm{nb nl ns:Nat}{dup:Bool}{bef:List SBay}{b:SBay}(h:Ec nb nl ns dup bef b=0):Ag b.name=true:=by
 unfold Ec at h;cases hn:Ag b.name with
 |false=>rw[hn]at h;exact absurd h (show ¬(7:Int)=0 by decide)|true=>rfl
theorem E8{x:It}{t:BA}{r:List BA}(ht:Tag t)(hx:x.words=(t::r).map fun t=>(⟨t,false⟩:Wd))(h3: ∀u∈r,ck.cwd ⟨u,false⟩=0)(h4:r.length<=39):Good x:=by
 obtain⟨g,_⟩:=ht.say h3 h4;have e:(say (t::r)).words=x.words:=hx.symm;exact⟨e▸g.len,e▸g.ne,e▸g.op,e▸g.ws⟩
theorem Afo{s:SSta}{b:SBay}(hn:Ag b.name=true)(h1:b.kind=1 ->Ag (s.qb.getD b.off.toNat Ah).name=true)(h2:b.kind=2 ->Ag (s.qc.getD b.off.toNat src0).name=true)(hf:nOk b.fin)(hr:nOk b.zr)(hx:nOk b.zx):Good (Bc s b):=by
 cases e1:(b.kind==1)with
 |true=>
  refine E8 (x:=Bc s b) Alh (r:=[b.name,Hy,(s.qb.getD b.off.toNat Ah).name,dec b.fin]) ?_ ?_ (by simp)
  ·show bayW s b=_;unfold bayW;rw[e1];rfl
  ·simp only[List.mem_cons,List.not_mem_nil,or_false];rintro u (rfl|rfl|rfl|rfl)
   ·exact cwdN hn
   ·exact tgLine.cw
   ·exact cwdN (h1 (eq_of_beq e1))
   ·exact cwdD hf
 |false=>
  cases e2:(b.kind==2)with
  |true=>
   refine E8 (x:=Bc s b) Alh (r:=[b.name,Fe,(s.qc.getD b.off.toNat src0).name]) ?_ ?_ (by simp)
   ·show bayW s b=_;unfold bayW;rw[e1,e2];rfl
   ·simp only[List.mem_cons,List.not_mem_nil,or_false];rintro u (rfl|rfl|rfl)
    ·exact cwdN hn
    ·exact tgSource.cw
    ·exact cwdN (h2 (eq_of_beq e2))
  |false=>
   refine E8 (x:=Bc s b) Alh (r:=[b.name,Fx,dec b.zr,dec b.zx]) ?_ ?_ (by simp)
   ·show bayW s b=_;unfold bayW;rw[e1,e2];rfl
   ·simp only[List.mem_cons,List.not_mem_nil,or_false];rintro u (rfl|rfl|rfl|rfl)
    ·exact cwdN hn
    ·exact tgCoupler.cw
    ·exact cwdD hr
    ·exact cwdD hx
theorem Afp{s:SSta}{b:SBay}(h1:nOk b.ct)(h2:nOk b.vt)(h3:nOk b.sat)(h4:nOk b.qg)(hl: ∀l∈b.qe,Ag (s.qa.getD l.bus.toNat e0)=true): ∀y∈bayK s b,Good y/\y.kids=[]:=by
 intro y hy;unfold bayK at hy;simp only[List.mem_append,List.mem_singleton,List.mem_map]at hy;have one: ∀{t:BA} {n:Int},Tag t ->nOk n ->Good (say [t,dec n])/\(say [t,dec n]).kids=[]:=fun ht hn=>ht.say (by simp only[List.mem_singleton];rintro u rfl;exact cwdD hn) (by simp)
 rcases hy with((((rfl|hy)|hy)|rfl)|⟨l,hl',rfl⟩)|hy
 ·exact one tgCt h1
 ·cases e:(b.kind !=3)with
  |true=>
   rw[e]at hy;obtain rfl:=List.mem_singleton.1 hy;exact one tgVt h2
  |false=>rw[e]at hy;cases hy
 ·cases e:(b.sat !=0)with
  |true=>
   rw[e]at hy;obtain rfl:=List.mem_singleton.1 hy;exact one ApF h3
  |false=>rw[e]at hy;cases hy
 ·exact one AgS h4
 ·refine tgSelect.say ?_ (by simp);simp only[List.mem_cons,List.not_mem_nil,or_false];rintro u (rfl|rfl)
  ·exact cwdN (hl l hl')
  ·cases(l.pos==1)
   ·exact tgOpen.cw
   ·exact tgClosed.cw
 ·cases e:(!b.qf)with
  |true=>
   rw[e]at hy;obtain rfl:=List.mem_singleton.1 hy;exact tgBreaker.say (by simp only[List.mem_singleton];rintro u rfl;exact tgOpen.cw) (by simp)
  |false=>rw[e]at hy;cases hy
theorem Agq(s:SSta)(b:SBay)(h:b.qe.length<=2):(bayK s b).length<=7:=by
 unfold bayK;cases(b.kind !=3)<;>cases(b.sat !=0)<;>cases(!b.qf)<;>simp<;>omega
theorem Aip{s:SSta}(h:A3 s=0){b:SBay}(hb:b∈s.qd):Good (Bc s b)/\(bayK s b).length<=7/\ ∀y∈bayK s b,Good y/\y.kids=[]:=by
 obtain⟨k,hk,rfl⟩:=mem_at (d:=bay0) hb;obtain⟨_,_,_,h2,h3,h4⟩:=chk_split h;have he:=take_at (x0:=bay0) s.qd [] k h4 hk;generalize s.qd.getD k bay0=b at he;unfold Jv at he;obtain⟨_,hr,ho,_,hle⟩:=Rt he;obtain⟨hll,hlk⟩:=Wo hle;obtain⟨o1,o2⟩:=Ago he;obtain⟨r1,r2,r3,r4,r5,r6,r7,_⟩:=Vx hr;refine⟨Afo (bay_nm he) (fun q=>(Mu (take_at (x0:=Ah) s.qb [] _ h2 (o1 q))).1) (fun q=>(Qp (take_at (x0:=src0) s.qc [] _ h3 (o2 q))).1) r5 r6 r7,Agq s b (by omega),Afp r1 r2 r3 r4 fun l hl=> ?_⟩;obtain⟨_,a2,_⟩:=Ug hlk l hl;exact Akt h _ a2
def Good2(x:It):Prop:=Good x/\(x.block=true\/x.kids=[])/\x.kids.length<=7/\ ∀y∈x.kids,Good y/\y.kids=[]
theorem Good2.flat{x:It}(h:Good x/\x.kids=[]):Good2 x:=⟨h.1, .inr h.2,by rw[h.2];simp,by rw[h.2];simp⟩
section
variable {s:SSta}(h:A3 s=0)
include h
theorem Wt: ∀t∈mainT s,Good2 (t.enc s):=by
 intro t ht;unfold mainT at ht;simp only[List.mem_append,List.mem_map]at ht;rcases ht with⟨x,hx,rfl⟩|⟨x,hx,rfl⟩|⟨x,hx,rfl⟩|⟨x,hx,rfl⟩
 ·exact .flat (Aio h hx)
 ·exact .flat (Afn h hx)
 ·exact .flat (Ain h hx)
 ·obtain⟨g1,g2,g3⟩:=Aip h hx;exact⟨g1, .inl rfl,g2,g3⟩
theorem AaI:Good2 (Tg.sta.enc s):=by
 obtain⟨h1,_⟩:=chk_split h;exact .flat (tgStation.say (by simp only[List.mem_singleton];rintro u rfl;exact cwdN h1) (by simp))
theorem main_len:(mainT s).length<=30:=by
 obtain⟨_,hc,_⟩:=chk_split h;obtain⟨_,l1,l2,l3,l4⟩:=W4 hc;unfold mainT;simp;omega
end
end Go.Y.de
namespace Go.Eb
open Go.RowKit
def bF(s:BA):RD:=fun i=>bif Nat.blt i s.size then [.v (.int .u8 (s.data.toList.getD i 0).toNat)]else []
theorem Zk{s:BA}{i:Nat}(h:i<s.size):bF s i=[.v (.int .u8 (s.data.toList.getD i 0).toNat)]:=by
 simp[bF,bltD,h]
theorem Apq{s:BA}{i:Nat}(h:s.size<=i):bF s i=[]:=by
 have: ¬i<s.size:=by omega
 simp[bF,bltD,this]
theorem AdN(s:BA):s.data.toList.length=s.size:=by rfl
theorem Yb(a b:BA):(a++b).data.toList=a.data.toList++b.data.toList:=by simp
theorem Agw(a b:BA):appF a.size (bF a) (bF b)=bF (a++b):=by
 funext j;unfold appF;by_cases h:j<a.size
 ·have h2:j<(a++b).size:=by simp[ByteArray.size_append];omega
  simp only[bltD,h,decide_true,za];rw[Zk h,Zk h2,Yb,zh,zh,List.getElem?_append_left (by rw[AdN];exact h)]
 ·simp only[bltD,h,decide_false,zb];by_cases h2:j -a.size<b.size
  ·have h3:j<(a++b).size:=by simp[ByteArray.size_append];omega
   rw[Zk h2,Zk h3,Yb,zh,zh,List.getElem?_append_right (by rw[AdN];omega),AdN]
  ·rw[Apq (by omega),Apq (by simp[ByteArray.size_append];omega)]
theorem Agk(b:UInt8):Mh [.v (.int .u8 b.toNat)]=some b:=by
 unfold Mh;simp
theorem M9(b:BA):Dk b.size (bF b)=true:=by
 unfold Dk;rw[List.all_eq_true];intro i hi;rw[Zk (by simpa using hi),Agk];rfl
theorem W8(b:BA):C5 b.size (bF b)=b:=by
 apply ByteArray.ext;unfold C5;apply Array.ext';simp only;apply List.ext_getElem?;intro i;by_cases h:i<b.size
 ·rw[List.getElem?_map,List.getElem?_range h];simp only[Option.map_some];rw[Zk h,Agk];have:i<b.data.toList.length:=h;simp[zh,zn this]
 ·rw[List.getElem?_eq_none (by simp;omega),List.getElem?_eq_none (by rw[AdN];omega)]
theorem B6(n:Nat)(f:RD):(C5 n f).size=n:=by
 rw[<-AdN];simp[C5]
theorem AdW{n:Nat}{f:RD}(h:Dk n f=true)(t:TypeId):Ble (.row n f 1 t) (.row (C5 n f).size (bF (C5 n f)) 1 t):=by
 refine⟨(B6 n f).symm,rfl,rfl,fun i hi=> ?_⟩;obtain⟨b,h1,h2⟩:=Ro h hi;rw[Zk (by rw[B6];exact hi),h2];have:(C5 n f).data.toList.getD i 0=b:=by
  simp[C5,zh,hi,h1]
 rw[this];exact .refl _
structure BG where
 sz:BA ->Nat
 fn:BA ->RD
 of:Nat ->RD ->BA
 ap:BA ->BA ->BA
 ok:Nat ->Nat ->RD ->BA ->Bool
def bMax:Nat:=140737488355328
def bg:BG:=⟨ByteArray.size,bF,C5,fun a b=>a++b,fun n m f s=>Nat.beq m n&&Dk n f&&decide (n+s.size<=bMax)⟩
theorem AcC(b:BA):bg.of (bg.sz b) (bg.fn b)=b:=W8 b
theorem Hm(b s:BA)(h:b.size+s.size<=bMax):bg.ok (bg.sz b) (bg.sz b) (bg.fn b) s=true:=by
 simp only[bg,M9,zd,zi];exact⟨⟨by rw[beqD];simp,trivial⟩,h⟩
abbrev HB0(tb:TypeId):Hp:=[(0, .cells [.d (.v (.pointer none)), .d (.v (.slice none 0 0))] tb)]
abbrev HB(tb te:TypeId)(b:BA):Hp:=[(0, .cells [.ptr 0 0, .row 1 1 b.size] tb),(1, .row b.size (bF b) 1 te)]
abbrev HG(G:BG)(tb te:TypeId)(b:BA):Hp:=[(0, .cells [.ptr 0 0, .row 1 1 (G.sz b)] tb),(1, .row (G.sz b) (G.fn b) 1 te)]
abbrev HW(tb te:TypeId)(b:BA):Hp:=[(0, .cells [.ptr 0 0, .row 2 1 b.size] tb),(1, .dead),(2, .row b.size (bF b) 1 te)]
abbrev HWG(G:BG)(tb te:TypeId)(b:BA):Hp:=[(0, .cells [.ptr 0 0, .row 2 1 (G.sz b)] tb),(1, .dead),(2, .row (G.sz b) (G.fn b) 1 te)]
abbrev HBd(tb:TypeId)(n:Nat):Hp:=[(0, .cells [.ptr 0 0, .row 1 1 n] tb),(1, .dead)]
def Ani(n:Int):Option BA:=match Mh [.v (.int .u8 n)]with|some b=>some ⟨#[b]⟩|none=>none
def argS:AV ->Option BA
 | .c (.d (.v (.string s)))=>some s|_=>none
def arg8:AV ->Option BA
 | .c (.d (.v (.int .u8 n)))=>Ani n|_=>none
def AiY(z:Bool)(G:BG)(tb te:TypeId)(dec:AV ->Option BA)(r:BA ->AV):(R:Type) ->List AV ->Hp ->(AV ->Hp ->Option (T R)) ->Option (T R):=fun _ args H k=>match args with
 |[.c (.ptr 0 0),x]=>(match dec x with
  |some s=>(match H with
   |[(0, .cells [.d (.v (.pointer none)), .d (.v (.slice none 0 0))] t)]=>bif z&&Nat.beq t tb&&G.ok 0 0 (fun _=>[]) s then k (r s) (HG G tb te s)else none
   |[(0, .cells [.ptr 0 0, .row 1 1 n] t),(1, .row m f 1 t')]=>bif Nat.beq t tb&&Nat.beq t' te&&G.ok n m f s then k (r s) (HWG G tb te (G.ap (G.of n f) s))else none|_=>none)
  |none=>none)
 |_=>none
theorem Abi{z:Bool}{P:Program}{f0:FuncId}{tb te:TypeId}{dec:AV ->Option BA}{r:BA ->AV}
  (h0:z=true -> ∀x s,dec x=some s ->s.size<=bMax ->CX P f0 [.c (.ptr 0 0),x] (HB0 tb) (r s) (HB tb te s))
  (h1: ∀x s b,dec x=some s ->b.size+s.size<=bMax ->CX P f0 [.c (.ptr 0 0),x] (HB tb te b) (r s) (HW tb te (b++s))):
  ∀(R:Type) args H (k:AV ->Hp ->Option (T R)) t,AiY z bg tb te dec r R args H k=some t -> ∃x H',k x H'=some t/\CX P f0 args H x H':=fun R args H k t h=>by
 unfold AiY at h;split at h
 ·rename_i x;split at h
  ·rename_i s hs;split at h
   ·rename_i t';cases hc:(z&&Nat.beq t' tb&&bg.ok 0 0 (fun _=>[]) s)with
    |false=>rw[hc]at h;cases h|true=>
     rw[hc]at h;simp only[zd]at hc;have e:=zg hc.1.2;subst e;refine⟨_,_,h,h0 hc.1.1 x s hs ?_⟩;have:=hc.2;simp only[bg,zd,zi]at this;omega
   ·rename_i n t' m f t'';cases hc:(Nat.beq t' tb&&Nat.beq t'' te&&bg.ok n m f s)with
    |false=>rw[hc]at h;cases h|true=>
     rw[hc]at h;simp only[zd,bg,zi]at hc;have⟨⟨e1,e2⟩,⟨e3,e4⟩,e5⟩:=hc;have e1:=zg e1;have e2:=zg e2;have e3:=zg e3;subst e1 e2 e3;refine⟨_,_,h,(h1 x s (C5 m f) hs (by rw[B6];exact e5)).ge (.refl _) (.cons ?_ (.cons (AdW e4 _) .nil))⟩;rw[B6];exact .refl _
   ·simp at h
  ·simp at h
 ·simp at h
def Anr(G:BG)(tb te:TypeId):(R:Type) ->List AV ->Hp ->(AV ->Hp ->Option (T R)) ->Option (T R):=fun _ args H k=>match args with
 |[.c (.ptr 0 0)]=>(match H with
  |[(0, .cells [.d (.v (.pointer none)), .d (.v (.slice none 0 0))] t)]=>bif Nat.beq t tb then k (vS .empty) (HB0 tb)else none|[(0, .cells [.ptr 0 0, .row 1 1 n] t),(1, .row m f 1 t')]=>bif Nat.beq t tb&&Nat.beq t' te&&G.ok n m f .empty&&Nat.blt 0 n then k (vS (G.of n f)) (HBd tb n)else none|_=>none)
 |_=>none
theorem AiZ{P:Program}{f0:FuncId}{tb te:TypeId}(h0:CX P f0 [.c (.ptr 0 0)] (HB0 tb) (vS .empty) (HB0 tb))
  (h1: ∀b:BA,0<b.size ->b.size<=bMax ->CX P f0 [.c (.ptr 0 0)] (HB tb te b) (vS b) (HBd tb b.size)):
  ∀(R:Type) args H (k:AV ->Hp ->Option (T R)) t,Anr bg tb te R args H k=some t -> ∃x H',k x H'=some t/\CX P f0 args H x H':=fun R args H k t h=>by
 unfold Anr at h;split at h
 ·split at h
  ·rename_i t';cases hc:Nat.beq t' tb with
   |false=>rw[hc]at h;cases h|true=>
    rw[hc]at h;have e:=zg hc;subst e;exact⟨_,_,h,h0⟩
  ·rename_i n t' m f t'';cases hc:(Nat.beq t' tb&&Nat.beq t'' te&&bg.ok n m f .empty&&Nat.blt 0 n)with
   |false=>rw[hc]at h;cases h|true=>
    rw[hc]at h;simp only[zd,bg,zi,bltD]at hc;have⟨⟨⟨e1,e2⟩,⟨e3,e4⟩,e5⟩,e6⟩:=hc;have e1:=zg e1;have e2:=zg e2;have e3:=zg e3;subst e1 e2 e3;have key:=(h1 (C5 m f) (by rw[B6];exact e6) (by rw[B6];omega)).ge (.refl _) (K:=[(0, .cells [.ptr 0 0, .row 1 1 m] t'),(1, .row m f 1 t'')]) (.cons (by rw[B6];exact .refl _) (.cons (AdW e4 _) .nil));rw[B6]at key;exact⟨_,_,h,key⟩
  ·simp at h
 ·simp at h
def AgA:(R:Type) ->List AV ->Hp ->(AV ->Hp ->Option (T R)) ->Option (T R):=fun _ args H k=>match args with
 |[x]=>k x H|_=>none
theorem Abj {P : Program} {f0 : FuncId} {fn : Func} (hf : P.funcs[f0]? = some fn) (hname : (fn.name == "runtime.NumGoroutine") = false) (hb : fn.body.isNone = true) (hn : Extern.findNext fn = none) (he : Extern.find fn = some Extern.AbiNoEscape.same) :
  ∀(R:Type) args H (k:AV ->Hp ->Option (T R)) t,AgA R args H k=some t -> ∃x H',k x H'=some t/\CX P f0 args H x H':=fun R args H k t h=>by
 unfold AgA at h;split at h
 ·rename_i x;refine⟨_,_,h, ?_⟩;unfold CX;rw[hf];simp only[hb,if_true];intro O I w vs hr ha;obtain⟨v,rfl⟩: ∃v,vs= #[v]:=by
   have:=ha.1;simp at this;match vs,this with
   |⟨[v]⟩,_=>exact⟨v,rfl⟩
  refine⟨v,w,O,I, ?_,hr,ha.2 0 x v rfl rfl, .refl _ _ _, .refl _⟩;rw[run_callFunc_extern hf hname hb hn he,Lib.run_noEscape];rfl
 ·simp at h
theorem AiK(c:UInt8):Ae [D.v (.int .u8 c.toNat)] 1=bF ⟨#[c]⟩:=by
 funext i;match i with
 |0=>rfl|i+1=>simp[Ae,bF,bltD,ByteArray.size]
theorem Apr(s:BA):(fun i=>bif Nat.blt i s.size then [D.v (.int .u8 (s.data.toList.getD i 0).toNat)]else [])=bF s:=rfl
theorem AcA{n:Int}{s:BA}(h:Ani n=some s): ∃c:UInt8,n=c.toNat/\s=⟨#[c]⟩:=by
 unfold Ani at h;split at h
 ·rename_i b hb;simp at h;simp only[Mh]at hb;by_cases e:n=(n.toNat.toUInt8.toNat:Int)
  ·rw[if_pos e]at hb;simp only[zj]at hb;rw[hb]at e;exact⟨b,e,h.symm⟩
  ·rw[if_neg e]at hb;cases hb
 ·cases h
end Go.Eb
namespace Go.Y.en
open Go.RowKit Go.Eb Go.Y.st Go.Y.se
open Go.Y.wd (Da Ct C0)
open Go.Y.de (Tag Bs cwdN Gr M5 M6 Zb E8 tgLine tgBus tgSource tgCoupler sne Akq)
abbrev W0(t:BA):Prop:=ck.cwd ⟨t,false⟩=0
theorem AhV(a b:BA)(p:UInt8 ->Bool):(wd.bs (a++b)).all p=((wd.bs a).all p&&(wd.bs b).all p):=by
 show(a++b).data.toList.all p=(a.data.toList.all p&&b.data.toList.all p);rw[Yb,List.all_append]
theorem cwdI{n:Int}(h:nI n=true):W0 (decI n):=by
 unfold nI at h;simp only[zd,zi]at h;have key: ∀m:Nat,m<=1000000 ->(wd.bs (decB m)).all (fun c=>Ct c.toNat)=true/\(decB m).size<=7/\0<(decB m).size:=fun m hm=>by
  obtain⟨f1,_,c,r,f3,_⟩:=M6 m;refine⟨M5 f1,Zb 6 m (by omega), ?_⟩;have e:(wd.bs (decB m)).length=(decB m).size:=rfl;have f3':wd.bs (decB m)=c::r:=f3;rw[<-e,f3'];simp
 have ne: ∀t:BA,0<t.size ->(t.toList==(ByteArray.mk #[]).toList)=false:=fun t ht=>by
  rw[Adc];exact sne fun e=>by rw[e]at ht;exact zp 0 ht
 unfold decI;by_cases h0:n<0
 ·obtain⟨a1,a2,a3⟩:=key n.natAbs (by omega);rw[zk h0,za];refine Gr ?_ ?_
  ·unfold Da;rw[AhV,a1,ne _ (by rw[ByteArray.size_append];omega)];rfl
  ·rw[ByteArray.size_append];show 1+_<=120;omega
 ·obtain⟨a1,a2,a3⟩:=key n.toNat (by omega);rw[zt h0,zb];refine Gr ?_ (by omega);unfold Da;rw[a1,ne _ a3];rfl
theorem tgZone:Tag Fc:=Bs (by decide) (by kernel_rfl) (by kernel_rfl) (by decide)
theorem tgForward:Tag Dw:=Bs (by decide) (by kernel_rfl) (by kernel_rfl) (by decide)
theorem tgReverse:Tag Dv:=Bs (by decide) (by kernel_rfl) (by kernel_rfl) (by decide)
theorem AnJ:Tag Pb:=Bs (by decide) (by kernel_rfl) (by kernel_rfl) (by decide)
theorem AgT:Tag De:=Bs (by decide) (by kernel_rfl) (by kernel_rfl) (by decide)
theorem tgUnderreach:Tag Fw:=Bs (by decide) (by kernel_rfl) (by kernel_rfl) (by decide)
theorem tgOverreach:Tag Gz:=Bs (by decide) (by kernel_rfl) (by kernel_rfl) (by decide)
theorem tgBlocking:Tag J4:=Bs (by decide) (by kernel_rfl) (by kernel_rfl) (by decide)
theorem AbN:Tag Dm:=Bs (by decide) (by kernel_rfl) (by kernel_rfl) (by decide)
theorem AcP:Tag Eg:=Bs (by decide) (by kernel_rfl) (by kernel_rfl) (by decide)
theorem AnK:Tag Pc:=Bs (by decide) (by kernel_rfl) (by kernel_rfl) (by decide)
theorem AcO:Tag Ef:=Bs (by decide) (by kernel_rfl) (by kernel_rfl) (by decide)
theorem Alg:Tag Hw:=Bs (by decide) (by kernel_rfl) (by kernel_rfl) (by decide)
theorem AnI:Tag Pa:=Bs (by decide) (by kernel_rfl) (by kernel_rfl) (by decide)
theorem Sh:Tag By:=Bs (by decide) (by kernel_rfl) (by kernel_rfl) (by decide)
theorem tgRule:Tag Sr:=Bs (by decide) (by kernel_rfl) (by kernel_rfl) (by decide)
theorem tgSet:Tag Si:=Bs (by decide) (by kernel_rfl) (by kernel_rfl) (by decide)
theorem tgPublish:Tag Lf:=Bs (by decide) (by kernel_rfl) (by kernel_rfl) (by decide)
theorem tgSubscribe:Tag Gx:=Bs (by decide) (by kernel_rfl) (by kernel_rfl) (by decide)
theorem Zz:Tag Ff:=Bs (by decide) (by kernel_rfl) (by kernel_rfl) (by decide)
def G0(y:It):Prop:=de.Good y/\y.kids=[]
def AllW(l:List BA):Prop:= ∀u∈l,W0 u
theorem AllW.nil:AllW []:=fun u h=>by cases h
theorem AllW.cons{t:BA}{l:List BA}(h:W0 t)(k:AllW l):AllW (t::l):=fun u hu=>by
 rcases List.mem_cons.1 hu with rfl|hu
 ·exact h
 ·exact k u hu
theorem K9{a b:List It}(h1: ∀y∈a,G0 y)(h2: ∀y∈b,G0 y): ∀y∈a++b,G0 y:=fun y hy=>(List.mem_append.1 hy).elim (h1 y) (h2 y)
theorem iG{b:Bool}{t:BA}{l:List BA}(ht:Tag t)(hw:AllW l)(h:l.length<=39): ∀y∈Bw b (say (t::l)),G0 y:=fun y hy=>by
 cases b with
 |false=>cases hy|true=>
  have hy':y∈[say (t::l)]:=hy;obtain rfl:=List.mem_singleton.1 hy';exact ht.say hw h
theorem zG(i:Int)(hi:nI i=true)(on fw:Bool){x r l d:Int}(hx:nI x=true)(hr:nI r=true)(hl:nI l=true)(hd:nI d=true): ∀y∈Dj i on fw x r l d,G0 y:=fun y hy=>by
 cases on with
 |false=>cases hy|true=>
  have hy':y∈[say [Fc,decI i,bif fw then Dw else Dv,decI x,decI r,decI l,decI d]]:=hy;obtain rfl:=List.mem_singleton.1 hy';refine tgZone.say (AllW.cons (cwdI hi) (AllW.cons ?_ (AllW.cons (cwdI hx) (AllW.cons (cwdI hr) (AllW.cons (cwdI hl) (AllW.cons (cwdI hd) AllW.nil)))))) (by simp);cases fw
  ·exact tgReverse.cw
  ·exact tgForward.cw
theorem ApH(n:Int):W0 (Kt n):=by
 unfold Kt;cases(n==1)
 ·cases(n==2)
  ·exact tgBlocking.cw
  ·exact tgOverreach.cw
 ·exact tgUnderreach.cw
theorem ApO{r:SRel}(h:NFit r): ∀y∈C1 r,G0 y:=by
 unfold C1;refine K9 (K9 (K9 (K9 (K9 (K9 (K9 (K9 (K9 (K9 (K9 (zG _ rfl _ _ h.zx0 h.zr0 h.zl0 h.zd0) (zG _ rfl _ _ h.zx1 h.zr1 h.zl1 h.zd1)) (zG _ rfl _ _ h.zx2 h.zr2 h.zl2 h.zd2)) ?_) ?_) ?_) ?_) ?_) ?_) ?_) ?_) ?_
 ·exact iG AnJ (AllW.cons (cwdI h.min) (AllW.cons (cwdI h.kre) (AllW.cons (cwdI h.kim) AllW.nil))) (by simp)
 ·exact iG AgT (AllW.cons (ApH _) (AllW.cons (cwdI h.wait) (AllW.cons (cwdI h.guard) AllW.nil))) (by simp)
 ·exact iG AbN (AllW.cons (cwdI h.dpk) (AllW.cons (cwdI h.ddl) AllW.nil)) (by simp)
 ·exact iG AcP (AllW.cons (cwdI h.ipk) (AllW.cons (cwdI h.idl) AllW.nil)) (by simp)
 ·exact iG AnK (AllW.cons (cwdI h.fpk) (AllW.cons (cwdI h.fdl) AllW.nil)) (by simp)
 ·exact iG AcO (AllW.cons (cwdI h.qp) (AllW.cons (cwdI h.dead) (AllW.cons (cwdI h.qo) AllW.nil))) (by simp)
 ·exact iG Alg (AllW.cons (cwdI h.upk) (AllW.cons (cwdI h.udl) AllW.nil)) (by simp)
 ·exact iG AnI (AllW.cons (cwdI h.opk) (AllW.cons (cwdI h.odl) AllW.nil)) (by simp)
 ·exact iG Sh (AllW.cons (cwdI h.diff) (AllW.cons (cwdI h.num) (AllW.cons (cwdI h.den) (AllW.cons (cwdI h.harm) AllW.nil)))) (by simp)
structure NmFit (r:SRel):Prop where
 nm:Ag r.name=true
 ru: ∀x∈r.qi,Ag x.name=true/\D2 x.text=0
 se: ∀x∈r.qj,Ag x.name=true/\(∀n∈x.qm,Ag n=true)/\x.qm.length<=30
 pu: ∀x∈r.qk,Ag x.set=true/\nI x.fst=true/\nI x.max=true
 su: ∀x∈r.ql,Ag x.loc=true/\Ag x.dev=true/\Ag x.set=true/\Ag x.sig=true
theorem Lq{J:Type}{valid:J ->Bool}{key:J ->BA}{rest:J ->Int}: ∀(l:List J) (seen:List BA),Cd valid key rest seen l=0 -> ∀x∈l,valid x=true/\rest x=0
 |[],_,_,x,hx=>by cases hx|y::r,seen,h,x,hx=>by
  simp only[Cd]at h;obtain⟨h0,h⟩:=bz h (by decide);cases e:inB seen (key y)with
  |true=>rw[e]at h;exact absurd h (show ¬(8:Int)=0 by decide)|false=>
   rw[e,zb]at h;obtain⟨h1,h2⟩:=bz' h;rcases List.mem_cons.1 hx with rfl|hx
   ·exact⟨h0,h1⟩
   ·exact Lq r _ h2 x hx
theorem Aoj{qd:List SBay}{N:List BA}{B:List Int}{r:SRel}(h:B3 qd N B r=0)(hl:largeR r=false):NmFit r:=by
 have hn:Ag r.name=true:=by
  unfold B3 at h;exact(bz h (by decide)).1
 have h:=(Mi h).2;unfold D4 at h;obtain⟨_,h⟩:=bz h (by decide);obtain⟨_,h⟩:=bz h (by decide);obtain⟨_,h⟩:=bz h (by decide);obtain⟨_,h⟩:=bz h (by decide);obtain⟨_,h⟩:=bz h (by decide);obtain⟨_,h⟩:=bz h (by decide);obtain⟨_,h⟩:=bz h (by decide);unfold Fz at h;obtain⟨a1,h⟩:=bz' h;obtain⟨a2,h⟩:=bz' h;obtain⟨a3,a4⟩:=bz' h;unfold largeR at hl;simp only[Bool.or_eq_false_iff,decide_eq_false_iff_not]at hl;have⟨_,_,_,_,l5,_⟩:=hl;refine⟨hn,fun x hx=> ?_,fun x hx=> ?_,fun x hx=> ?_,fun x hx=> ?_⟩
 ·obtain⟨v,t⟩:=Lq _ _ a1 x hx;unfold H8 at v;simp only[zd]at v;exact⟨v.1,t⟩
 ·obtain⟨v,_⟩:=Lq _ _ a2 x hx;unfold Qr at v;simp only[zd,List.all_eq_true]at v;have:=of_decide_eq_false (by simpa using List.any_eq_false.1 l5 x hx:decide (30<x.qm.length)=false);exact⟨v.1,v.2,by omega⟩
 ·obtain⟨v,t⟩:=Lq _ _ a3 x hx;exact⟨v,AlS t⟩
 ·obtain⟨v,_⟩:=Lq _ _ a4 x hx;unfold Qn at v;simp only[zd]at v;exact⟨v.1,v.2.1,v.2.2.1,v.2.2.2⟩
theorem AnL{s:BA}(h:D2 s=0):ck.cwd ⟨s,true⟩=0:=by
 unfold D2 at h;cases e:decide (120<s.size)with
 |true=>rw[e]at h;exact absurd h (show ¬(4:Int)=0 by decide)|false=>
  rw[e,zb]at h;cases e2:s.data.toList.any Gb with
  |true=>rw[e2]at h;exact absurd h (show ¬(5:Int)=0 by decide)|false=>
   have hs:=of_decide_eq_false e;unfold ck.cwd;rw[zt (by show ¬(s.size:Int)>120;omega)];have hq:ck.quot s=true:=by
    unfold ck.quot;rw[List.all_eq_true];intro c hc;have hb:Gb c=false:=by
     cases hx:Gb c with
     |false=>rfl|true=>exact absurd (List.any_eq_true.2 ⟨c,hc,hx⟩) (by rw[e2];simp)
    unfold Gb at hb;unfold ck.qch;simp only[Bool.or_eq_false_iff]at hb;rw[hb.1,hb.2.1,hb.2.2];rfl
   rw[hq];rfl
theorem ApZ{r:SRel}(h:NmFit r): ∀y∈Eo r,G0 y:=by
 unfold Eo;refine K9 (K9 (K9 ?_ ?_) ?_) ?_
 ·intro y hy;obtain⟨x,hx,rfl⟩:=List.mem_map.1 hy;obtain⟨a,b⟩:=h.ru x hx;refine⟨⟨by show 3<=40;omega,by show [_,_,_]≠[];simp,tgRule.op,fun w hw=> ?_⟩,rfl⟩;have hw':w∈[(⟨Sr,false⟩:Wd),⟨x.name,false⟩,⟨x.text,true⟩]:=hw;simp only[List.mem_cons,List.not_mem_nil,or_false]at hw';rcases hw' with rfl|rfl|rfl
  ·exact tgRule.cw
  ·exact cwdN a
  ·exact AnL b
 ·intro y hy;obtain⟨x,hx,rfl⟩:=List.mem_map.1 hy;obtain⟨a,b,c⟩:=h.se x hx;exact tgSet.say (AllW.cons (cwdN a) fun u hu=>cwdN (b u hu)) (by simp;omega)
 ·intro y hy;obtain⟨x,hx,rfl⟩:=List.mem_map.1 hy;obtain⟨a,b,c⟩:=h.pu x hx;exact tgPublish.say (AllW.cons (cwdN a) (AllW.cons (cwdI b) (AllW.cons (cwdI c) AllW.nil))) (by simp)
 ·intro y hy;obtain⟨x,hx,rfl⟩:=List.mem_map.1 hy;obtain⟨a,b,c,d⟩:=h.su x hx;exact tgSubscribe.say (AllW.cons (cwdN a) (AllW.cons (cwdN b) (AllW.cons (cwdN c) (AllW.cons (cwdN d) AllW.nil)))) (by simp)
theorem AoE(k:Int):W0 (Sl k):=by
 unfold Sl;cases(k==1)
 ·cases(k==2)
  ·exact tgCoupler.cw
  ·exact tgSource.cw
 ·exact tgLine.cw
theorem Aoa{s:SSta}{r:SRel}(hs: ∀b∈s.qd,Ag b.name=true)(hn:NFit r)(hm:NmFit r)(hp:PFit s r):de.Good (Ds s r)/\ ∀y∈(Ds s r).kids,de.Good y/\y.kids=[]:=by
 refine⟨?_,K9 (ApO hn) (ApZ hm)⟩;cases e:(r.kind==4)with
 |true=>
  refine E8 (x:=Ds s r) Zz (r:=[r.name,Vs]) ?_ (AllW.cons (cwdN hm.nm) (AllW.cons tgBus.cw AllW.nil)) (by simp);show Cb (relW s r)=_;unfold relW Cb;rw[e];rfl
 |false=>
  have hb:Ag (s.qd.getD r.bay.toNat bay0).name=true:=by
   rcases hp with hp|⟨_,h0,h1⟩
   ·rw[hp]at e;cases e
   ·have hlt:r.bay.toNat<s.qd.length:=by omega
    exact hs _ (by rw[zh,zn hlt];exact List.getElem_mem hlt)
  refine E8 (x:=Ds s r) Zz (r:=[r.name,Sl r.kind,(s.qd.getD r.bay.toNat bay0).name]) ?_ (AllW.cons (cwdN hm.nm) (AllW.cons (AoE _) (AllW.cons (cwdN hb) AllW.nil))) (by simp);show Cb (relW s r)=_;unfold relW Cb;rw[e];rfl
end Go.Y.en
namespace Go.Y.de
open Go.RowKit Go.Eb Go.Y.st
def oPit(okd:LB)(dcd:List AV ->BA):Orc:=Orc.cons 89 (ansG okd fun x=>vS (dcd x)) Orc.nil
def oPst(okd:LB)(dcd:List AV ->BA):Orc:=Orc.cons 87 (inl prog Orc.nil na 12 f87) (Orc.cons 88 (inl prog (oPit okd dcd) na 12 f88) (oPit okd dcd))
def oPeb(okd:LB)(dcd:List AV ->BA):Orc:=Orc.cons 151 (inl prog (oPst okd dcd) na 12 f151) (oPst okd dcd)
def Rv:Ann:=A1 [(100010,⟨[2,6,4,5,3],[(5,1,1000,0),(5,3,4,176)]⟩),(100011,⟨[2,6,4,5,3],[(5,1,1000,0),(5,3,4,176)]⟩),(100013,⟨[2,6,4,5,3],[(5,1,1000,0),(5,3,4,176)]⟩),(100015,⟨[2,6,4,5,3],[(5,1,1000,0),(5,3,4,176)]⟩),(17,⟨[2,6,83,4,5,3,84,85],[(5,1,1000,0),(5,3,4,176)]⟩)]
def N7(okd:LB)(dcd:List AV ->BA)(s:SSta)(b:SBay)(g m:Nat)(n4:Nat)(f4:RD)(x2:Int)(x2_2:Bool)(x3:Int)(x3_2:D)(x3_3:Bool):=GK prog (oPeb okd dcd) Rv 0 g f90 10 m ⟨frm [(2, .c (.ptr 0 0)),(3, .c (.ptr 1 0)),(4, .c (.ptr 2 0)),(5, .c (.ptr 3 0)),(6, .c (.fn 151 [] [Rf.ptr 3 0]))] 0 f90.ntmps,[(0, .cells (List.map C.d (staC s)) 27),(1, .cells (List.map C.d (bayC b)) 118),(2, .cells [.d (iD x2), .d (.v (.slice none 0 0)), .d (.v (.bool x2_2)), .d (.v (.slice none 0 0))] 176),(3, .cells [.d (iD x3), .d (x3_2), .d (.v (.bool x3_3)), .row 4 4 n4] 176),(4, .row n4 f4 4 176)],5⟩
def Zr(okd:LB)(dcd:List AV ->BA)(s:SSta)(b:SBay)(g m:Nat)(n4:Nat)(f4:RD)(x2:Int)(x2_2:Bool)(x3:Int)(x3_2:D)(x3_3:Bool):=GK prog (oPeb okd dcd) Rv 0 g f90 11 m ⟨frm [(2, .c (.ptr 0 0)),(3, .c (.ptr 1 0)),(4, .c (.ptr 2 0)),(5, .c (.ptr 3 0)),(6, .c (.fn 151 [] [Rf.ptr 3 0]))] 0 f90.ntmps,[(0, .cells (List.map C.d (staC s)) 27),(1, .cells (List.map C.d (bayC b)) 118),(2, .cells [.d (iD x2), .d (.v (.slice none 0 0)), .d (.v (.bool x2_2)), .d (.v (.slice none 0 0))] 176),(3, .cells [.d (iD x3), .d x3_2, .d (.v (.bool x3_3)), .row 4 4 n4] 176),(4, .row n4 f4 4 176)],5⟩
def Vi(okd:LB)(dcd:List AV ->BA)(s:SSta)(b:SBay)(g m:Nat)(n4:Nat)(f4:RD)(x2:Int)(x2_2:Bool)(x3:Int)(x3_2:D)(x3_3:Bool):=GK prog (oPeb okd dcd) Rv 0 g f90 13 m ⟨frm [(2, .c (.ptr 0 0)),(3, .c (.ptr 1 0)),(4, .c (.ptr 2 0)),(5, .c (.ptr 3 0)),(6, .c (.fn 151 [] [Rf.ptr 3 0]))] 0 f90.ntmps,[(0, .cells (List.map C.d (staC s)) 27),(1, .cells (List.map C.d (bayC b)) 118),(2, .cells [.d (iD x2), .d (.v (.slice none 0 0)), .d (.v (.bool x2_2)), .d (.v (.slice none 0 0))] 176),(3, .cells [.d (iD x3), .d x3_2, .d (.v (.bool x3_3)), .row 4 4 n4] 176),(4, .row n4 f4 4 176)],5⟩
def Vh(okd:LB)(dcd:List AV ->BA)(s:SSta)(b:SBay)(g m:Nat)(n4:Nat)(f4:RD)(x2:Int)(x2_2:Bool)(x3:Int)(x3_2:D)(x3_3:Bool):=GK prog (oPeb okd dcd) Rv 0 g f90 15 m ⟨frm [(2, .c (.ptr 0 0)),(3, .c (.ptr 1 0)),(4, .c (.ptr 2 0)),(5, .c (.ptr 3 0)),(6, .c (.fn 151 [] [Rf.ptr 3 0]))] 0 f90.ntmps,[(0, .cells (List.map C.d (staC s)) 27),(1, .cells (List.map C.d (bayC b)) 118),(2, .cells [.d (iD x2), .d (.v (.slice none 0 0)), .d (.v (.bool x2_2)), .d (.v (.slice none 0 0))] 176),(3, .cells [.d (iD x3), .d x3_2, .d (.v (.bool x3_3)), .row 4 4 n4] 176),(4, .row n4 f4 4 176)],5⟩
def Fs(okd:LB)(dcd:List AV ->BA)(s:SSta)(b:SBay)(g m:Nat)(n4:Nat)(f4:RD)(i85:Int)(x2:Int)(x2_2:Bool)(x3:Int)(x3_2:D)(x3_3:Bool):=LK prog (oPeb okd dcd) Rv 0 g f90 17 m ⟨frm [(2, .c (.ptr 0 0)),(3, .c (.ptr 1 0)),(4, .c (.ptr 2 0)),(5, .c (.ptr 3 0)),(6, .c (.fn 151 [] [Rf.ptr 3 0])),(83, .c (.d (Ad 2 Gm A4 (SBay.qe b)))),(84,iA (↑(List.length (SBay.qe b)):Int)),(85,iA i85)] 0 f90.ntmps,[(0, .cells (List.map C.d (staC s)) 27),(1, .cells (List.map C.d (bayC b)) 118),(2, .cells [.d (iD x2), .d (.v (.slice none 0 0)), .d (.v (.bool x2_2)), .d (.v (.slice none 0 0))] 176),(3, .cells [.d (iD x3), .d x3_2, .d (.v (.bool x3_3)), .row 4 4 n4] 176),(4, .row n4 f4 4 176)],5⟩
theorem beby:f90.body=some (Ac f90):=by kernel_rfl
theorem AqW(okd:LB)(dcd:List AV ->BA)(s:SSta)(b:SBay)(g:Nat):Ai prog (oPeb okd dcd) Rv g f90 (Ac f90) [aSta s,aBay b] []=
 (bif b.kind==1 then(bif decide (0<=b.off)&&decide (b.off<(↑s.qb.length:Int))then(bif okd [.c (.d (iD b.fin))]then N7 okd dcd s b g g 0
 (fun x=>[]) 0 false 0 (D.sl (2) (5) (Ae [D.v (.string (⟨#[98,97,121]⟩)),D.v (.bool false),dS b.name,D.v (.bool false),D.v (.string (⟨#[108,105,110,101]⟩)),D.v (.bool
 false),dS (SLine.name (s.qb.getD (Int.toNat b.off) Ah)),D.v (.bool false),D.v (.string (dcd [iA b.fin])),D.v (.bool false)] (1+1))) true else none)
 else none)else(bif b.kind==2 then(bif decide (0<=b.off)&&decide (b.off<(↑s.qc.length:Int))then N7 okd dcd s b g g 0 (fun x=>[]) 0 false 0 (D.sl (2) (4) (Ae [D.v
 (.string (⟨#[98,97,121]⟩)),D.v (.bool false),dS b.name,D.v (Value.bool false),D.v (.string (⟨#[115,111,117,114,99,101]⟩)),D.v (.bool false),dS (SSrc.name (s.qc.getD
 (Int.toNat b.off) src0)),D.v (.bool false)] (1+1))) true else none)else(bif okd [.c (.d (iD b.zr))]then(bif okd [iA b.zx]
 then N7 okd dcd s b g g 0 (fun x=>[]) 0 false 0 (D.sl ((2:Nat)) (5) (Ae [D.v (.string (⟨#[98,97,121]⟩)),D.v (.bool false),dS b.name,D.v (.bool false),D.v (Value.string
 (⟨#[99,111,117,112,108,101,114]⟩)),D.v (.bool false),D.v (Value.string (dcd [iA b.zr])),D.v (.bool false),D.v (.string (dcd [.c (.d (.v (.int
 .i64 b.zx)))])),D.v (Value.bool false)] (1+1))) true else none)else none))):=by kernel_rfl
theorem AhC(okd:LB)(dcd:List AV ->BA)(s:SSta)(b:SBay)(g m:Nat)(n4:Nat)(f4:RD)(x2:Int)(x2_2:Bool)(x3:Int)(x3_2:D)(x3_3:Bool):N7 okd dcd s b g (m+1) n4 f4 x2 x2_2 x3 x3_2 x3_3=
 (bif okd [iA b.ct]then(bif decide ((n4+1)*64<=140737488355328)&&decide (n4+1<=9223372036854775807)then(bif decide (0<=(↑n4:Int))&&decide
 ((↑n4:Int)<(↑(n4+1):Int))then Zr okd dcd s b g g (n4+1) (fun j=>bif Nat.beq j (Int.toNat (↑n4:Int))then splice (appF n4 f4 (Ae [iD 0,D.v (.slice none
 0 0),D.v (.bool false),D.v (Value.slice none 0 0)] (3+1)) j) 0 [iD 0,D.sl (1+1) (0+1+(1:Nat)) (Ae [D.v (.string (⟨#[99,116]⟩)),D.v (.bool false),D.v
 (.string (dcd [iA b.ct])),D.v (.bool false)] (1+1)),D.v (.bool false),D.v (.slice none 0 0)]else appF n4 f4 (Ae [iD 0,D.v (.slice none 0
 0),D.v (.bool false),D.v (.slice none 0 0)] (3+1)) j) x2 x2_2 x3 x3_2 x3_3 else none)else none)else none):=by kernel_rfl
theorem AhB(okd:LB)(dcd:List AV ->BA)(s:SSta)(b:SBay)(g m:Nat)(n4:Nat)(f4:RD)(x2:Int)(x2_2:Bool)(x3:Int)(x3_2:D)(x3_3:Bool):Zr okd dcd s b g (m+1) n4 f4 x2 x2_2 x3 x3_2 x3_3=
 (bif b.kind !=3 then(bif okd [iA b.vt]then(bif decide ((n4+1)*64<=140737488355328)&&decide (n4+1<=9223372036854775807)then(bif decide (0<=
 (↑n4:Int))&&decide ((↑n4:Int)<(↑(n4+1):Int))then Vi okd dcd s b g g (n4+1) (fun j=>bif Nat.beq j (Int.toNat (↑n4:Int))then splice (appF n4 f4 (Ae [D.v (.int
 .i64 0),D.v (.slice none 0 0),D.v (Value.bool false),D.v (.slice none 0 0)] (3+1)) j) 0 [iD 0,D.sl (1+1) (0+1+1) (Ae [D.v (.string (⟨#[118,116]⟩)),D.v
 (.bool false),D.v (.string (dcd [.c (.d (iD b.vt))])),D.v (.bool false)] (1+1)),D.v (.bool false),D.v (.slice none 0 0)]else appF n4 f4 (Ae [D.v
 (Value.int IntKind.i64 0),D.v (.slice none 0 0),D.v (.bool false),D.v (.slice none 0 0)] (3+1)) j) x2 x2_2 x3 x3_2 x3_3 else none)else none)else none)else Vi okd dcd s b g
 g n4 f4 x2 x2_2 x3 x3_2 x3_3):=by kernel_rfl
theorem AhA(okd:LB)(dcd:List AV ->BA)(s:SSta)(b:SBay)(g m:Nat)(n4:Nat)(f4:RD)(x2:Int)(x2_2:Bool)(x3:Int)(x3_2:D)(x3_3:Bool):Vi okd dcd s b g (m+1) n4 f4 x2 x2_2 x3 x3_2 x3_3=
 (bif b.sat !=0 then(bif okd [iA b.sat]then(bif decide ((n4+1)*64<=140737488355328)&&decide (n4+1<=9223372036854775807)then(bif decide (0<=
 (↑n4:Int))&&decide ((↑n4:Int)<(↑(n4+1):Int))then Vh okd dcd s b g g (n4+1) (fun j=>bif Nat.beq j (Int.toNat (↑n4:Int))then splice (appF n4 f4 (Ae [D.v (.int
 .i64 0),D.v (.slice none 0 0),D.v (Value.bool false),D.v (.slice none 0 0)] (3+1)) j) 0 [iD 0,D.sl (1+1) (0+1+1) (Ae [D.v (.string (⟨#[115,97,116]⟩)),
 D.v (.bool false),D.v (.string (dcd [.c (.d (iD b.sat))])),D.v (.bool false)] (1+1)),D.v (.bool false),D.v (.slice none 0 0)]else appF n4 f4 (Ae
 [iD 0,D.v (.slice none 0 0),D.v (.bool false),D.v (.slice none 0 0)] (3+(1:Nat))) j) x2 x2_2 x3 x3_2 x3_3 else none)else none)else none)else Vh okd dcd s b g
 g n4 f4 x2 x2_2 x3 x3_2 x3_3):=by kernel_rfl
theorem Ahz(okd:LB)(dcd:List AV ->BA)(s:SSta)(b:SBay)(g m:Nat)(n4:Nat)(f4:RD)(x2:Int)(x2_2:Bool)(x3:Int)(x3_2:D)(x3_3:Bool):Vh okd dcd s b g (m+1) n4 f4 x2 x2_2 x3 x3_2 x3_3=
 (bif okd [iA b.qg]then(bif decide ((n4+1)*64<=140737488355328)&&decide (n4+1<=9223372036854775807)then(bif decide (0<=(↑n4:Int))&&
 decide ((↑n4:Int)<(↑(n4+1):Int))then Fs okd dcd s b g g (n4+1) (fun j=>bif Nat.beq j (Int.toNat (↑n4:Int))then splice (appF n4 f4 (Ae [iD 0,D.v
 (.slice none 0 0),D.v (.bool false),D.v (Value.slice none 0 0)] (3+1)) j) 0 [iD 0,D.sl (1+1) (0+1+(1:Nat)) (Ae [D.v (.string (⟨#[116,114,97,118,101,
 108]⟩)),D.v (.bool false),D.v (Value.string (dcd [iA b.qg])),D.v (.bool false)] (1+1)),D.v (.bool false),D.v (Value.slice none 0 (0:Nat))]else
 appF n4 f4 (Ae [iD 0,D.v (.slice none 0 0),D.v (.bool false),D.v (.slice none 0 0)] (3+1)) j) 0 x2 x2_2 x3 x3_2 x3_3 else none)else none)else none):=by kernel_rfl
theorem Aah(okd:LB)(dcd:List AV ->BA)(s:SSta)(b:SBay)(g m:Nat)(n4:Nat)(f4:RD)(i85:Int)(x2:Int)(x2_2:Bool)(x3:Int)(x3_2:D)(x3_3:Bool):Fs okd dcd s b g (m+1) n4 f4 i85 x2 x2_2 x3 x3_2 x3_3=
 (bif decide (i85<(↑b.qe.length:Int))then(bif decide (0<=i85)&&decide (i85<(↑b.qe.length:Int))then(bif SLink.pos (b.qe.getD i85.toNat A4)==1 then(bif
 decide (0<=SLink.bus (b.qe.getD i85.toNat A4))&&decide (SLink.bus (b.qe.getD i85.toNat A4)<(↑s.qa.length:Int))then(bif decide ((n4+1)*64<=140737488355328)&&
 decide (n4+1<=9223372036854775807)then(bif decide (0<=(↑n4:Int))&&decide ((↑n4:Int)<(↑(n4+1):Int))then Fs okd dcd s b g m (n4+1) (fun j=>bif Nat.beq j
 (Int.toNat (↑n4:Int))then splice (appF n4 f4 (Ae [iD 0,D.v (.slice none 0 0),D.v (.bool false),D.v (Value.slice none 0 0)] (3+1)) j) 0 [iD 0,D.sl
 (1+1) (0+1+1+1) (Ae [D.v (.string (⟨#[115,101,108,101,99,116]⟩)),D.v (.bool false),dS (s.qa.getD (Int.toNat (SLink.bus (b.qe.getD i85.toNat A4))) e0),D.v
 (.bool false),D.v (.string (⟨#[99,(108:UInt8),111,115,101,100]⟩)),D.v (.bool false)] (1+1)),D.v (.bool false),D.v (Value.slice none 0 (0:Nat))]else appF n4 f4 (Ae
 [iD 0,D.v (.slice none 0 0),D.v (.bool false),D.v (Value.slice none 0 (0:Nat))] (3+1)) j) (wrap .i64 (i85+1)) x2 x2_2 x3 x3_2 x3_3 else none)else
 none)else none)else(bif decide (0<=SLink.bus (b.qe.getD i85.toNat A4))&&decide (SLink.bus (b.qe.getD i85.toNat A4)<(↑s.qa.length:Int))then(bif decide ((n4+1)
 *64<=140737488355328)&&decide (n4+1<=9223372036854775807)then(bif decide (0<=(↑n4:Int))&&decide ((↑n4:Int)<(↑(n4+1):Int))then Fs okd dcd s b g m (n4+1)
 (fun j=>bif Nat.beq j (Int.toNat (↑n4:Int))then splice (appF n4 f4 (Ae [iD 0,D.v (.slice none 0 0),D.v (.bool false),D.v (.slice none 0 0)] (3+
 1)) j) 0 [iD 0,D.sl (1+1) (0+1+1+1) (Ae [D.v (.string (⟨#[115,101,(108:UInt8),101,99,116]⟩)),D.v (.bool false),dS (s.qa.getD
 (Int.toNat (SLink.bus (b.qe.getD i85.toNat A4))) e0),D.v (.bool false),D.v (.string (⟨#[111,112,101,110]⟩)),D.v (.bool false)] (1+1)),D.v (Value.bool false),D.v
 (.slice none 0 0)]else appF n4 f4 (Ae [iD 0,D.v (.slice none 0 0),D.v (Value.bool false),D.v (.slice none 0 0)] (3+1)) j) (wrap .i64 (i85+1)) x2 x2_2
 x3 x3_2 x3_3 else none)else none)else none))else none)else(bif !b.qf then(bif decide ((n4+1)*64<=140737488355328)&&decide (n4+1<=9223372036854775807)then(bif
 decide (0<=(↑n4:Int))&&decide ((↑n4:Int)<(↑(n4+1):Int))then some (T.leaf (.agg [.d (iD x3), .d x3_2, .d (.v (Value.bool x3_3)), .row (0) (4) (n4+
 1)],[(0, .row (n4+1) (fun j=>bif Nat.beq j (Int.toNat (↑n4:Int))then splice (appF n4 f4 (Ae [iD 0,D.v (.slice none 0 0),D.v (.bool false),D.v (.slice
 none 0 0)] (3+(1:Nat))) j) 0 [iD 0,D.sl (1+1) (0+1+1) (Ae [D.v (.string (⟨#[98,114,101,97,107,101,114]⟩)),D.v (.bool false),D.v (.string (⟨#[111,
 112,101,110]⟩)),D.v (.bool false)] (1+1)),D.v (.bool false),D.v (.slice none 0 0)]else appF n4 f4 (Ae [iD 0,D.v (.slice none 0 0),D.v (.bool
 false),D.v (.slice none 0 0)] (3+1)) j) ((4:Nat)) (176))]))else none)else none)else some (T.leaf (.agg [.d (iD x3), .d x3_2, .d (.v (.bool x3_3)),C.row
 (0) (4) n4],[(0, .row n4 f4 (4) (176))])))):=by kernel_rfl
def oPe(okd:LB)(dcd:List AV ->BA)(okc:LB)(ck:LI)(okb:LB)(bw bk:List AV ->D):Orc:=Orc.cons 31 (ansG okc fun x=>vI (ck x)) (Orc.cons 90 (ansG okb fun x=> .agg [.d (dI 0), .d (bw x), .d (dB true), .d (bk x)]) (oPst okd dcd))
def annpen:Ann:=A1 [(5,⟨[23,1,24,25,3],[(3,0,4,176)]⟩),(10,⟨[37,1,38,39,3],[(3,0,4,176)]⟩),(16,⟨[60,1,61,62,3],[(3,0,4,176)]⟩),(22,⟨[1,86,87,88,3],[(3,0,4,176)]⟩)]
def Xq(okd:LB)(dcd:List AV ->BA)(okc:LB)(ck:LI)(okb:LB)(bw bk:List AV ->D)(s:SSta)(g m:Nat)(n1:Nat)(f1:RD)(i25:Int):=LK prog (oPe okd dcd okc ck okb bw bk) annpen 0 g f35 5 m ⟨frm [(1, .c (.ptr 0 0)),(3, .c (.row 1 4 n1)),(23, .c (.d (Ad 1 busC e0 (SSta.qa s)))),(24,iA (↑(List.length (SSta.qa s)):Int)),(25,iA i25)] 0 f35.ntmps,[(0, .cells (List.map C.d (staC s)) 27),(1, .row n1 f1 4 176)],2⟩
def R2(okd:LB)(dcd:List AV ->BA)(okc:LB)(ck:LI)(okb:LB)(bw bk:List AV ->D)(s:SSta)(g m:Nat)(n1:Nat)(f1:RD)(i39:Int):=LK prog (oPe okd dcd okc ck okb bw bk) annpen 0 g f35 10 m ⟨frm [(1, .c (.ptr 0 0)),(3, .c (.row 1 4 n1)),(37, .c (.d (Ad 5 Az Ah (SSta.qb s)))),(38,iA (↑(List.length (SSta.qb s)):Int)),(39,iA i39)] 0 f35.ntmps,[(0, .cells (List.map C.d (staC s)) 27),(1, .row n1 f1 4 176)],2⟩
def R1(okd:LB)(dcd:List AV ->BA)(okc:LB)(ck:LI)(okb:LB)(bw bk:List AV ->D)(s:SSta)(g m:Nat)(n1:Nat)(f1:RD)(i62:Int):=LK prog (oPe okd dcd okc ck okb bw bk) annpen 0 g f35 16 m ⟨frm [(1, .c (.ptr 0 0)),(3, .c (.row 1 4 n1)),(60, .c (.d (Ad 6 Ay src0 (SSta.qc s)))),(61,iA (↑(List.length (SSta.qc s)):Int)),(62,iA i62)] 0 f35.ntmps,[(0, .cells (List.map C.d (staC s)) 27),(1, .row n1 f1 4 176)],2⟩
def Vd(okd:LB)(dcd:List AV ->BA)(okc:LB)(ck:LI)(okb:LB)(bw bk:List AV ->D)(s:SSta)(g m:Nat)(n1:Nat)(f1:RD)(i88:Int):=LK prog (oPe okd dcd okc ck okb bw bk) annpen 0 g f35 22 m ⟨frm [(1, .c (.ptr 0 0)),(3, .c (.row 1 4 n1)),(86, .c (.d (Ad 12 bayC bay0 (SSta.qd s)))),(87,iA (↑(List.length (SSta.qd s)):Int)),(88,iA i88)] 0 f35.ntmps,[(0, .cells (List.map C.d (staC s)) 27),(1, .row n1 f1 4 176)],2⟩
theorem bpen:f35.body=some (Ac f35):=by kernel_rfl
theorem evpen(okd:LB)(dcd:List AV ->BA)(okc:LB)(ck:LI)(okb:LB)(bw bk:List AV ->D)(s:SSta)(g:Nat):Ai prog (oPe okd dcd okc ck okb bw bk) annpen g f35 (Ac f35) [aSta s] []=
 (bif okc [gA (staC s)]then(bif ck [gA (staC s)] !=0 then some (T.leaf (.c (.d (.v (.slice none 0 0))),[]))else Xq okd dcd okc ck okb bw
 bk s g g 1 (Ae [iD 0,D.sl (1+1) (0+1+1) (Ae [D.v (Value.string (⟨#[115,116,97,116,105,111,110]⟩)),D.v (.bool false),dS s.name,D.v (.bool false)] (1+
 1)),D.v (.bool false),D.v (.slice none 0 0)] 4) 0)else none):=by kernel_rfl
theorem Adf(okd:LB)(dcd:List AV ->BA)(okc:LB)(ck:LI)(okb:LB)(bw bk:List AV ->D)(s:SSta)(g m:Nat)(n1:Nat)(f1:RD)(i25:Int):Xq okd dcd okc ck okb bw bk s g (m+1) n1 f1 i25=
 (bif decide (i25<(↑s.qa.length:Int))then(bif decide (0<=i25)&&decide (i25<(↑s.qa.length:Int))then(bif decide ((n1+(1:Nat))*64<=140737488355328)&&
 decide (n1+1<=9223372036854775807)then Xq okd dcd okc ck okb bw bk s g m (n1+1) (appF n1 f1 (Ae [iD 0,D.sl (1+1) (0+1+1) (Ae [D.v (.string (⟨#[98,117,
 (115:UInt8)]⟩)),D.v (.bool false),dS (s.qa.getD i25.toNat e0),D.v (.bool false)] (1+1)),D.v (.bool false),D.v (Value.slice none 0 0)] (3+1))) (wrap .i64 (i25
 +1))else none)else none)else R2 okd dcd okc ck okb bw bk s g g n1 f1 0):=by kernel_rfl
theorem Z6(okd:LB)(dcd:List AV ->BA)(okc:LB)(ck:LI)(okb:LB)(bw bk:List AV ->D)(s:SSta)(g m:Nat)(n1:Nat)(f1:RD)(i39:Int):R2 okd dcd okc ck okb bw bk s g (m+1) n1 f1 i39=
 (bif decide (i39<(↑s.qb.length:Int))then(bif decide (0<=i39)&&decide (i39<(↑s.qb.length:Int))then(bif okd [.c (.d (iD (SLine.r1
 (s.qb.getD i39.toNat Ah))))]then(bif okd [iA (SLine.x1 (s.qb.getD i39.toNat Ah))]then(bif okd [iA (SLine.r0 (s.qb.getD
 i39.toNat Ah))]then(bif okd [.c (.d (iD (SLine.x0 (s.qb.getD i39.toNat Ah))))]then(bif decide ((n1+1)*64<=140737488355328)&&decide (n1
 +(1:Nat)<=9223372036854775807)then R2 okd dcd okc ck okb bw bk s g m (n1+1) (appF n1 f1 (Ae [iD 0,D.sl (1+(1:Nat)) (0+1+1+1+1+1+1) (Ae [D.v
 (.string (⟨#[108,105,110,(101:UInt8)]⟩)),D.v (.bool false),dS (SLine.name (s.qb.getD i39.toNat Ah)),D.v (.bool false),D.v (.string (dcd [.c (.d (.v (Value.int
 IntKind.i64 (SLine.r1 (s.qb.getD i39.toNat Ah)))))])),D.v (.bool false),D.v (.string (dcd [iA (SLine.x1 (s.qb.getD i39.toNat Ah))])),D.v (.bool
 false),D.v (.string (dcd [iA (SLine.r0 (s.qb.getD i39.toNat Ah))])),D.v (.bool false),D.v (.string (dcd [iA (SLine.x0
 (s.qb.getD i39.toNat Ah))])),D.v (.bool false)] (1+1)),D.v (.bool false),D.v (.slice none 0 0)] (3+1))) (wrap IntKind.i64 (i39+1))else none)else none)else
 none)else none)else none)else none)else R1 okd dcd okc ck okb bw bk s g g n1 f1 0):=by kernel_rfl
theorem Z5(okd:LB)(dcd:List AV ->BA)(okc:LB)(ck:LI)(okb:LB)(bw bk:List AV ->D)(s:SSta)(g m:Nat)(n1:Nat)(f1:RD)(i62:Int):R1 okd dcd okc ck okb bw bk s g (m+1) n1 f1 i62=
 (bif decide (i62<(↑s.qc.length:Int))then(bif decide (0<=i62)&&decide (i62<(↑s.qc.length:Int))then(bif okd [.c (.d (iD (SSrc.emf
 (s.qc.getD i62.toNat src0))))]then(bif okd [iA (SSrc.r1 (s.qc.getD i62.toNat src0))]then(bif okd [iA (SSrc.x1 (s.qc.getD
 i62.toNat src0))]then(bif okd [.c (.d (iD (SSrc.r0 (s.qc.getD i62.toNat src0))))]then(bif okd [iA (SSrc.x0 (s.qc.getD
 i62.toNat src0))]then(bif decide ((n1+1)*64<=140737488355328)&&decide (n1+1<=9223372036854775807)then R1 okd dcd okc ck okb bw bk s g m (n1+1) (appF n1 f1 (Ae
 [iD 0,D.sl (1+1) (0+1+1+1+1+1+1+1) (Ae [D.v (.string (⟨#[115,111,117,114,99,101]⟩)),D.v (Value.bool false),dS (SSrc.name (s.qc.getD i62.toNat
 src0)),D.v (.bool false),D.v (.string (dcd [iA (SSrc.emf (s.qc.getD i62.toNat src0))])),D.v (.bool false),D.v (.string (dcd [.c (.d (.v (.int .i64
 (SSrc.r1 (s.qc.getD i62.toNat src0)))))])),D.v (.bool false),D.v (.string (dcd [iA (SSrc.x1 (s.qc.getD i62.toNat src0))])),D.v (Value.bool false),
 D.v (.string (dcd [iA (SSrc.r0 (s.qc.getD i62.toNat src0))])),D.v (.bool false),D.v (.string (dcd [iA (SSrc.x0 (s.qc.getD
 i62.toNat src0))])),D.v (.bool false)] (1+1)),D.v (.bool false),D.v (Value.slice none 0 0)] (3+1))) (wrap .i64 (i62+1))else none)else none)else none)else
 none)else none)else none)else none)else Vd okd dcd okc ck okb bw bk s g g n1 f1 0):=by kernel_rfl
theorem Z3(okd:LB)(dcd:List AV ->BA)(okc:LB)(ck:LI)(okb:LB)(bw bk:List AV ->D)(s:SSta)(g m:Nat)(n1:Nat)(f1:RD)(i88:Int):Vd okd dcd okc ck okb bw bk s g (m+1) n1 f1 i88=
 (bif decide (i88<(↑s.qd.length:Int))then(bif decide (0<=i88)&&decide (i88<(↑s.qd.length:Int))then(bif okb [gA (staC s), .agg (List.map C.d
 (bayC (s.qd.getD i88.toNat bay0)))]then(bif decide ((n1+1)*64<=140737488355328)&&decide (n1+1<=9223372036854775807)then Vd okd dcd okc ck okb bw bk s g m (n1+1)
 (appF n1 f1 (Ae [dI 0,bw [gA (staC s),gA (bayC (s.qd.getD i88.toNat bay0))],dB true,bk [gA (staC s), .agg (List.map
 .d (bayC (s.qd.getD i88.toNat bay0)))]] (3+1))) (wrap .i64 (i88+1))else none)else none)else none)else some (T.leaf (.c (.row (0) (4) n1),[(0, .row n1 f1
 (4) (176))]))):=by kernel_rfl
end Go.Y.de
namespace Go.Y.pe
open Go.RowKit Go.Eb Go.Y.st Go.Y.de
abbrev putF(n:Nat)(f:RD)(z ds:List D):RD:=fun j=>bif Nat.beq j (Int.toNat (n:Int))then splice (appF n f (Ae z ((3:Nat)+(1:Nat))) j) 0 ds else appF n f (Ae z ((3:Nat)+(1:Nat))) j
abbrev z4:List D:=[dI 0, .v (.slice none 0 0),dB false, .v (.slice none 0 0)]
theorem putF_eq'(n:Nat)(f:RD)(z ds:List D)(hz:z.length=4)(hd:ds.length=4):putF n f z ds=appF n f (Ae ds 4):=by
 funext j;unfold putF appF;rw[bltD,beqD,tn];by_cases e:j<n
 ·rw[zk e,zt];rfl
 ·rw[zt e];by_cases e2:j=n
  ·subst e2;rw[zk rfl,Nat.sub_self];show splice (Ae z 4 0) 0 ds=Ae ds 4 0;have h1:Ae z 4 0=z:=by rw[<-hz];exact Jq z
   have h2:Ae ds 4 0=ds:=by rw[<-hd];exact Jq ds
   rw[h1,h2];unfold splice;rw[zl];simp
  ·rw[zt e2];show Ae z 4 (j -n)=Ae ds 4 (j -n);unfold Ae;rw[zl,zl]
theorem putF_eq(n:Nat)(f:RD)(z ds:List D)(hz:z.length=4)(hd:ds.length=4):(fun j=>bif Nat.beq j (Int.toNat (n:Int))then splice (appF n f (Ae z ((3:Nat)+(1:Nat))) j) (0:Nat) ds else appF n f (Ae z ((3:Nat)+(1:Nat))) j)=appF n f (Ae ds 4):=putF_eq' n f z ds hz hd
theorem ixn(n:Nat):(decide ((0:Int)<=(n:Int))&&decide ((n:Int)<((n+(1:Nat):Nat):Int)))=true:=by
 rw[zk,zk];rfl
theorem sPit(hI: ∀n:Int,0<=n ->n<M12 ->CX prog 89 [vI n] [] (vS (dec n)) []):OrcS prog (oPit (okD M12) dcD):= .cons (.t' (enc:=en1 vI) (c:=fun k=>decide (0<=k)&&decide (k<M12)) (r:=fun k=>vS (dec k)) fun k hk=>by
 simp only[zd,zi]at hk;exact hI k hk.1 hk.2) .nil
theorem sPst(hI: ∀n:Int,0<=n ->n<M12 ->CX prog 89 [vI n] [] (vS (dec n)) []):OrcS prog (oPst (okD M12) dcD):= .cons (.inl .nil func87 (by kernel_rfl)) (.cons (.inl (sPit hI) func88 (by kernel_rfl)) (sPit hI))
theorem sPeb(hI: ∀n:Int,0<=n ->n<M12 ->CX prog 89 [vI n] [] (vS (dec n)) []):OrcS prog (oPeb (okD M12) dcD):= .cons (.inl (sPst hI) func151 (by kernel_rfl)) (sPst hI)
def leafB(w:D)(n:Nat)(f:RD):Option (T (AV×Hp)):=some (T.leaf (AV.agg [.d (dI 0), .d w, .d (dB true), .row 0 4 n],[(0,Blk.row n f 4 176)]))
section
variable {s:SSta}{b:SBay}(h:BFit s b)(g:Nat)(hg:200<g)(x2:Int)(x2':Bool)(w:D)
include h
theorem t16(m n:Nat)(f:RD)(bef:List It)(hn:n<=100)(hm:b.qe.length<m)(hr:RLe Af i0 n f bef):
  ∃n' f',RLe Af i0 n' f' (bef++b.qe.map (Jk s.qa)++(bif !b.qf then [say [Cs,Hx]]else []))/\Fs (okD M12) dcD s b g m n f 0 x2 x2' 0 w true=leafB w n' f':=by
 have hl:=h.len;obtain⟨f',h1,h2⟩:=app_loop (L:=fun m n f i=>Fs (okD M12) dcD s b g m n f i x2 x2' 0 w true)
  (K:=fun n f=>bif !b.qf then(bif decide ((n+(1:Nat))*(64:Nat)<=(140737488355328:Nat))&&decide (n+(1:Nat)<=(9223372036854775807:Nat))then(bif decide ((0:Int)<=(n:Int))&&decide ((n:Int)<((n+(1:Nat):Nat):Int))then leafB w (n+1) (putF n f z4 (sayC [Cs,Hx]))else none)else none)else leafB w n f)
  (l:=b.qe) (d:=A4) (c:=Af) (d0:=i0) (ch:=fun l=>sayC [Tu,s.qa.getD l.bus.toNat e0,bif l.pos==1 then Tv else Hx]) (e:=Jk s.qa) (sz:=4)
  (fun m k n f hk hn=>by
    show Fs (okD M12) dcD s b g (m+1) n f k x2 x2' 0 w true=Fs (okD M12) dcD s b g m (n+1) _ _ x2 x2' 0 w true;rw[Aah];obtain⟨b1,b2⟩:=h.bus k hk;rw[lt1 hk,za,ge0,tt,za,tn,zk b1,zk b2,tt,nx hk,appOk5 hn,ixn];generalize Fs (okD M12) dcD s b g m=LL;cases((b.qe.getD k A4).pos==1)
    ·rw[zb,za,za,za,putF_eq _ _ _ _ rfl rfl];rfl
    ·rw[za,za,za,za,putF_eq _ _ _ _ rfl rfl];rfl)
  (fun m n f=>by
    show Fs (okD M12) dcD s b g (m+1) n f (b.qe.length:Int) x2 x2' 0 w true=_;rw[Aah,lt0 (zp _)];rfl)
  (fun _=>rfl) (fun k _=>At _) m 0 n f bef (by omega) (by omega) (by omega) hr
 simp only[Nat.sub_zero,zq]at h1 h2;have h2:Fs (okD M12) dcD s b g m n f 0 x2 x2' 0 w true=_:=h2;rw[h2];cases b.qf with
 |true=>exact⟨_,f',by simpa using h1,rfl⟩|false=>
  refine⟨_,_,h1.app rfl (At [Cs,Hx]), ?_⟩;rw[Bool.not_false,za,appOk5,za,ixn,za];exact congrArg (leafB w _) (putF_eq' _ _ _ _ rfl rfl)
include hg
theorem t14(n:Nat)(f:RD)(bef:List It)(hn:n<=90)(hr:RLe Af i0 n f bef):
  ∃n' f',RLe Af i0 n' f' (bef++[say [F2,dec b.qg]]++b.qe.map (Jk s.qa)++(bif !b.qf then [say [Cs,Hx]]else []))/\Vh (okD M12) dcD s b g g n f x2 x2' 0 w true=leafB w n' f':=by
 have hl:=h.len;obtain⟨m,rfl⟩: ∃m,g=m+1:=⟨g -1,by omega⟩;obtain⟨n',f',h1,h2⟩:=t16 h (m+1) x2 x2' w (m+1) (n+1) _ (bef++[say [F2,dec b.qg]]) (by omega) (by omega) (hr.app rfl (At _));refine⟨n',f',h1, ?_⟩;rw[Ahz,okN h.qg,dcN,za,appOk5,za,ixn,za,putF_eq _ _ _ _ rfl rfl];exact h2
theorem t12(n:Nat)(f:RD)(bef:List It)(hn:n<=80)(hr:RLe Af i0 n f bef):
  ∃n' f',RLe Af i0 n' f' (bef++(bif b.sat !=0 then [say [tSat,dec b.sat]]else [])++[say [F2,dec b.qg]]++b.qe.map (Jk s.qa)++(bif !b.qf then [say [Cs,Hx]]else []))/\Vi (okD M12) dcD s b g g n f x2 x2' 0 w true=leafB w n' f':=by
 obtain⟨m,rfl⟩: ∃m,g=m+1:=⟨g -1,by omega⟩;rw[AhA,okN h.sat,dcN];cases(b.sat !=0)with
 |false=>
  obtain⟨n',f',h1,h2⟩:=t14 h (m+1) hg x2 x2' w n f bef (by omega) hr;refine⟨n',f',by simpa using h1, ?_⟩;rw[zb];exact h2
 |true=>
  obtain⟨n',f',h1,h2⟩:=t14 h (m+1) hg x2 x2' w (n+1) _ (bef++[say [tSat,dec b.sat]]) (by omega) (hr.app rfl (At _));refine⟨n',f',h1, ?_⟩;rw[za,za,appOk5,za,ixn,za,putF_eq _ _ _ _ rfl rfl];exact h2
theorem t10(n:Nat)(f:RD)(bef:List It)(hn:n<=70)(hr:RLe Af i0 n f bef):
  ∃n' f',RLe Af i0 n' f' (bef++(bif b.kind !=3 then [say [tVt,dec b.vt]]else [])++(bif b.sat !=0 then [say [tSat,dec b.sat]]else [])++[say [F2,dec b.qg]]++b.qe.map (Jk s.qa)++(bif !b.qf then [say [Cs,Hx]]else []))/\Zr (okD M12) dcD s b g g n f x2 x2' 0 w true=leafB w n' f':=by
 obtain⟨m,rfl⟩: ∃m,g=m+1:=⟨g -1,by omega⟩;rw[AhB,okN h.vt,dcN];cases(b.kind !=3)with
 |false=>
  obtain⟨n',f',h1,h2⟩:=t12 h (m+1) hg x2 x2' w n f bef (by omega) hr;refine⟨n',f',by simpa using h1, ?_⟩;rw[zb];exact h2
 |true=>
  obtain⟨n',f',h1,h2⟩:=t12 h (m+1) hg x2 x2' w (n+1) _ (bef++[say [tVt,dec b.vt]]) (by omega) (hr.app rfl (At _));refine⟨n',f',h1, ?_⟩;rw[za,za,appOk5,za,ixn,za,putF_eq _ _ _ _ rfl rfl];exact h2
theorem t8: ∃n' f',RLe Af i0 n' f' (bayK s b)/\N7 (okD M12) dcD s b g g 0 (fun _=>[]) x2 x2' 0 w true=leafB w n' f':=by
 obtain⟨m,rfl⟩: ∃m,g=m+1:=⟨g -1,by omega⟩;obtain⟨n',f',h1,h2⟩:=t10 h (m+1) hg x2 x2' w (0+1) _ ([]++[say [tCt,dec b.ct]]) (by omega) ((RLe.nil (c:=Af) (d0:=i0) fun _=>[]).app rfl (At _));refine⟨n',f',h1, ?_⟩;rw[AhC,okN h.ct,dcN,za,appOk5,za,ixn,za,putF_eq _ _ _ _ rfl rfl];exact h2
end
theorem bayW_fix(s:SSta)(b:SBay)(l:List BA)(hl:bayW s b=Cb l):DE (Dt l) (Aw (bayW s b)):=hl▸Hq l
theorem ceby(hI: ∀n:Int,0<=n ->n<M12 ->CX prog 89 [vI n] [] (vS (dec n)) [])(s:SSta)(b:SBay)(h:BFit s b):CX prog 90 [aSta s,aBay b] [] (.agg [.d (dI 0), .d (Aw (bayW s b)), .d (dB true), .d (A6 (Bc s b))]) []:=by
 obtain⟨g,hg⟩: ∃g,200<g:=⟨201,by omega⟩;have fin: ∀(l:List BA),bayW s b=Cb l ->Ai prog (oPeb (okD M12) dcD) Rv g f90 (Ac f90) [aSta s,aBay b] []=N7 (okD M12) dcD s b g g 0 (fun _=>[]) 0 false 0 (Dt l) true ->
  CX prog 90 [aSta s,aBay b] [] (.agg [.d (dI 0), .d (Aw (bayW s b)), .d (dB true), .d (A6 (Bc s b))]) []:=fun l hl he=>by
  obtain⟨n',f',h1,h2⟩:=t8 h g hg 0 false (Dt l)
  have hc:=(Mc (sPeb hI).ok func90 beby rfl (he.trans h2)).data (y:= .agg [.d (dI 0), .d (Dt l), .d (dB true), .d (.sl 4 n' f')]) rfl
  refine(CX.of_cr func90 beby hc).le ?_ (.refl _)
  refine Gv (a:=[dI 0,Dt l,dB true, .sl 4 n' f']) (b:=[dI 0,Aw (bayW s b),dB true,A6 (Bc s b)]) (.cons (.refl _) (.cons (bayW_fix s b l hl) (.cons (.refl _) (.cons ?_ .nil))))
  exact(h1.de (sz:=4)).trans (Ek (Bc s b))
 have ev:=AqW (okD M12) dcD s b g;cases h1:(b.kind==1)with
 |true=>
  obtain⟨o1,o2⟩:=h.off1 (by simpa using h1);refine fin [Sj,b.name,Hy,(s.qb.getD b.off.toNat Ah).name,dec b.fin] (by unfold bayW;rw[h1];rfl) (ev.trans ?_);rw[h1,za,zk o1,zk o2,tt,za,okN h.fin,za,dcN];rfl
 |false=>
  cases h2:(b.kind==2)with
  |true=>
   obtain⟨o1,o2⟩:=h.off2 (by simpa using h2);refine fin [Sj,b.name,Fe,(s.qc.getD b.off.toNat src0).name] (by unfold bayW;rw[h1,h2];rfl) (ev.trans ?_);rw[h1,zb,h2,za,zk o1,zk o2,tt,za];rfl
  |false=>
   refine fin [Sj,b.name,Fx,dec b.zr,dec b.zx] (by unfold bayW;rw[h1,h2];rfl) (ev.trans ?_);rw[h1,zb,h2,zb,okN h.zr,za,okN h.zx,za,dcN,dcN];rfl
abbrev OPe:Orc:=oPe (okD M12) dcD (okG (en1 aSta) Bv) (fun x=>A3 (theT (en1 aSta) x)) (okG eSB bFit) (fun x=>Aw (bayW (theT eSB x).1 (theT eSB x).2)) (fun x=>A6 (Bc (theT eSB x).1 (theT eSB x).2))
theorem sPe(hI: ∀n:Int,0<=n ->n<M12 ->CX prog 89 [vI n] [] (vS (dec n)) [])(hck: ∀s,Bv s=true ->CX prog 31 [aSta s] [] (vI (A3 s)) []):OrcS prog OPe:=
 .cons (.t' (r:=fun a=>vI (A3 a)) fun a h=>hck a h) (.cons (.t' (enc:=eSB) (c:=bFit) (r:=fun a=> .agg [.d (dI 0), .d (Aw (bayW a.1 a.2)), .d (dB true), .d (A6 (Bc a.1 a.2))]) fun a h=>ceby hI a.1 a.2 (Qf.1 h)) (sPst hI))
section
variable {s:SSta}(hs:SFit s)(g:Nat)(hg:6000<g)
include hs hg
abbrev L5(s:SSta)(g m n:Nat)(f:RD)(i:Int):=Xq (okD M12) dcD (okG (en1 aSta) Bv) (fun x=>A3 (theT (en1 aSta) x)) (okG eSB bFit) (fun x=>Aw (bayW (theT eSB x).1 (theT eSB x).2)) (fun x=>A6 (Bc (theT eSB x).1 (theT eSB x).2)) s g m n f i
abbrev L9(s:SSta)(g m n:Nat)(f:RD)(i:Int):=R2 (okD M12) dcD (okG (en1 aSta) Bv) (fun x=>A3 (theT (en1 aSta) x)) (okG eSB bFit) (fun x=>Aw (bayW (theT eSB x).1 (theT eSB x).2)) (fun x=>A6 (Bc (theT eSB x).1 (theT eSB x).2)) s g m n f i
abbrev L14(s:SSta)(g m n:Nat)(f:RD)(i:Int):=R1 (okD M12) dcD (okG (en1 aSta) Bv) (fun x=>A3 (theT (en1 aSta) x)) (okG eSB bFit) (fun x=>Aw (bayW (theT eSB x).1 (theT eSB x).2)) (fun x=>A6 (Bc (theT eSB x).1 (theT eSB x).2)) s g m n f i
abbrev L19(s:SSta)(g m n:Nat)(f:RD)(i:Int):=Vd (okD M12) dcD (okG (en1 aSta) Bv) (fun x=>A3 (theT (en1 aSta) x)) (okG eSB bFit) (fun x=>Aw (bayW (theT eSB x).1 (theT eSB x).2)) (fun x=>A6 (Bc (theT eSB x).1 (theT eSB x).2)) s g m n f i
def leafE(n:Nat)(f:RD):Option (T (AV×Hp)):=some (T.leaf (AV.c (C.row 0 4 n),[(0,Blk.row n f 4 176)]))
theorem l19(n:Nat)(f:RD)(bef:List It)(hn:n<=4000)(hr:RLe Af i0 n f bef): ∃n' f',RLe Af i0 n' f' (bef++s.qd.map (Bc s))/\L19 s g g n f 0=leafE n' f':=by
 have hq:=hs.nq;obtain⟨f',h1,h2⟩:=app_loop (L:=fun m n f i=>L19 s g m n f i) (K:=leafE) (l:=s.qd) (d:=bay0) (c:=Af) (d0:=i0) (ch:=fun b=>[dI 0,Aw (bayW s b),dB true,A6 (Bc s b)]) (e:=Bc s) (sz:=4)
  (fun m k n f hk hn=>by
    show L19 s g (m+1) n f k=L19 s g m (n+1) _ _;unfold L19;rw[Z3];have e1:okG eSB bFit [AV.agg (List.map C.d (staC s)),AV.agg (List.map C.d (bayC (List.getD s.qd (Int.toNat (k:Int)) bay0)))]=true:=by
     rw[tn];exact Ao Uw (s,s.qd.getD k bay0) (Qf.2 (hs.qd k hk))
    have e2:theT eSB [AV.agg (List.map C.d (staC s)),AV.agg (List.map C.d (bayC (List.getD s.qd (Int.toNat (k:Int)) bay0)))]=(s,s.qd.getD k bay0):=by
     rw[tn];exact Aj Uw (s,s.qd.getD k bay0)
    rw[e1,e2];simp -implicitDefEqProofs only[lt1 hk,ge0,tt,za,nx hk,appOk5 hn])
  (fun m n f=>by
    show L19 s g (m+1) n f (s.qd.length:Int)=_;unfold L19;rw[Z3,lt0 (zp _),zb];rfl)
  (fun _=>rfl) (fun k hk=>U9 (x:=Bc s (s.qd.getD k bay0)) rfl rfl (.refl _) (.refl _)) g 0 n f bef (by omega) (by omega) (by omega) hr
 simp only[Nat.sub_zero,zq]at h1 h2;exact⟨_,f',h1,h2⟩
theorem l14(n:Nat)(f:RD)(bef:List It)(hn:n<=3000)(hr:RLe Af i0 n f bef): ∃n' f',RLe Af i0 n' f' (bef++s.qc.map Hf++s.qd.map (Bc s))/\L14 s g g n f 0=leafE n' f':=by
 have hq:=hs.ns;obtain⟨f',h1,h2⟩:=app_loop (L:=fun m n f i=>L14 s g m n f i) (K:=fun n f=>L19 s g g n f 0) (l:=s.qc) (d:=src0) (c:=Af) (d0:=i0) (ch:=fun l=>sayC [Fe,l.name,dec l.emf,dec l.r1,dec l.x1,dec l.r0,dec l.x0]) (e:=Hf) (sz:=4)
  (fun m k n f hk hn=>by
    show L14 s g (m+1) n f k=L14 s g m (n+1) _ _;unfold L14;have hf:=hs.qc k hk;rw[Z5];simp -implicitDefEqProofs only[lt1 hk,ge0,tn,tt,za,nx hk,appOk5 hn,okN hf.emf,okN hf.r1,okN hf.x1,okN hf.r0,okN hf.x0,dcN];generalize R1 (okD M12) dcD (okG (en1 aSta) Bv) (fun x=>A3 (theT (en1 aSta) x)) (okG eSB bFit) (fun x=>Aw (bayW (theT eSB x).1 (theT eSB x).2)) (fun x=>A6 (Bc (theT eSB x).1 (theT eSB x).2)) s g m=LL;rfl)
  (fun m n f=>by
    show L14 s g (m+1) n f (s.qc.length:Int)=_;unfold L14;rw[Z5,lt0 (zp _),zb])
  (fun _=>rfl) (fun k _=>At _) g 0 n f bef (by omega) (by omega) (by omega) hr
 simp only[Nat.sub_zero,zq]at h1 h2;obtain⟨n2,f2,k1,k2⟩:=l19 hs g hg _ f' _ (by omega) h1;exact⟨n2,f2,k1,h2.trans k2⟩
theorem l9(n:Nat)(f:RD)(bef:List It)(hn:n<=2000)(hr:RLe Af i0 n f bef): ∃n' f',RLe Af i0 n' f' (bef++s.qb.map F7++s.qc.map Hf++s.qd.map (Bc s))/\L9 s g g n f 0=leafE n' f':=by
 have hq:=hs.nl;obtain⟨f',h1,h2⟩:=app_loop (L:=fun m n f i=>L9 s g m n f i) (K:=fun n f=>L14 s g g n f 0) (l:=s.qb) (d:=Ah) (c:=Af) (d0:=i0) (ch:=fun l=>sayC [Hy,l.name,dec l.r1,dec l.x1,dec l.r0,dec l.x0]) (e:=F7) (sz:=4)
  (fun m k n f hk hn=>by
    show L9 s g (m+1) n f k=L9 s g m (n+1) _ _;unfold L9;have hf:=hs.qb k hk;rw[Z6];simp -implicitDefEqProofs only[lt1 hk,ge0,tn,tt,za,nx hk,appOk5 hn,okN hf.r1,okN hf.x1,okN hf.r0,okN hf.x0,dcN];generalize R2 (okD M12) dcD (okG (en1 aSta) Bv) (fun x=>A3 (theT (en1 aSta) x)) (okG eSB bFit) (fun x=>Aw (bayW (theT eSB x).1 (theT eSB x).2)) (fun x=>A6 (Bc (theT eSB x).1 (theT eSB x).2)) s g m=LL;rfl)
  (fun m n f=>by
    show L9 s g (m+1) n f (s.qb.length:Int)=_;unfold L9;rw[Z6,lt0 (zp _),zb])
  (fun _=>rfl) (fun k _=>At _) g 0 n f bef (by omega) (by omega) (by omega) hr
 simp only[Nat.sub_zero,zq]at h1 h2;obtain⟨n2,f2,k1,k2⟩:=l14 hs g hg _ f' _ (by omega) h1;exact⟨n2,f2,k1,h2.trans k2⟩
theorem l5(n:Nat)(f:RD)(bef:List It)(hn:n<=1000)(hr:RLe Af i0 n f bef): ∃n' f',RLe Af i0 n' f' (bef++s.qa.map Pj++s.qb.map F7++s.qc.map Hf++s.qd.map (Bc s))/\L5 s g g n f 0=leafE n' f':=by
 have hq:=hs.nb;obtain⟨f',h1,h2⟩:=app_loop (L:=fun m n f i=>L5 s g m n f i) (K:=fun n f=>L9 s g g n f 0) (l:=s.qa) (d:=e0) (c:=Af) (d0:=i0) (ch:=fun x=>sayC [Vs,x]) (e:=Pj) (sz:=4)
  (fun m k n f hk hn=>by
    show L5 s g (m+1) n f k=L5 s g m (n+1) _ _;unfold L5;rw[Adf];simp -implicitDefEqProofs only[lt1 hk,ge0,tn,tt,za,nx hk,appOk5 hn];generalize Xq (okD M12) dcD (okG (en1 aSta) Bv) (fun x=>A3 (theT (en1 aSta) x)) (okG eSB bFit) (fun x=>Aw (bayW (theT eSB x).1 (theT eSB x).2)) (fun x=>A6 (Bc (theT eSB x).1 (theT eSB x).2)) s g m=LL;rfl)
  (fun m n f=>by
    show L5 s g (m+1) n f (s.qa.length:Int)=_;unfold L5;rw[Adf,lt0 (zp _),zb])
  (fun _=>rfl) (fun k _=>At _) g 0 n f bef (by omega) (by omega) (by omega) hr
 simp only[Nat.sub_zero,zq]at h1 h2;obtain⟨n2,f2,k1,k2⟩:=l9 hs g hg _ f' _ (by omega) h1;exact⟨n2,f2,k1,h2.trans k2⟩
end
theorem cpenR(hI: ∀n:Int,0<=n ->n<M12 ->CX prog 89 [vI n] [] (vS (dec n)) [])(hck: ∀s,Bv s=true ->CX prog 31 [aSta s] [] (vI (A3 s)) [])(s:SSta)(ho:Bv s=true)(h0:A3 s=0)(hs:SFit s):CX prog 35 [aSta s] [] (.c (.row 0 4 (Cp s).length)) [(0, .row (Cp s).length (fun i=>Af ((Cp s).getD i i0)) 4 176)]:=by
 obtain⟨g,hg⟩: ∃g,6000<g:=⟨6001,by omega⟩;have ev:=evpen (okD M12) dcD (okG (en1 aSta) Bv) (fun x=>A3 (theT (en1 aSta) x)) (okG eSB bFit) (fun x=>Aw (bayW (theT eSB x).1 (theT eSB x).2)) (fun x=>A6 (Bc (theT eSB x).1 (theT eSB x).2)) s g;have e1:okG (en1 aSta) Bv [AV.agg (List.map C.d (staC s))]=true:=Ao (Cf Ee) s ho;have e2:theT (en1 aSta) [AV.agg (List.map C.d (staC s))]=s:=Aj (Cf Ee) s;rw[e1,e2,h0]at ev;simp only[za,bne_self_eq_false,zb]at ev;obtain⟨n',f',h1,h2⟩:=l5 hs g hg 1 _ [say [Gy,s.name]] (by omega) (.one (sz:=4) rfl (At [Gy,s.name]));have hl:n'=(Cp s).length:=h1.len;subst hl;exact(Am (sPe hI hck).ok func35 bpen rfl (ev.trans h2)).le (.refl _) (.cons (show Ble _ _ from⟨rfl,rfl,rfl,h1.le⟩) (.refl _))
end Go.Y.pe
namespace Go.Y.bu
open Go.RowKit Go.Eb
def o48:Orc:=Orc.cons 217 AgA Orc.nil
theorem Are(_u:Unit):Ai prog o48 na 1 f149 (Ac f149) [.c (.ptr 0 0)] (HB0 172)=
 some (T.leaf (.tup [],[(0, .cells [.ptr (0) (0), .d (.v (.slice none 0 0))] (172))])):=by kernel_rfl
def o32:Orc:=Orc.cons 149 (fun _ args H k=>match args,H with
 |[.c (.ptr 0 0)],[(0, .cells [.d (.v (.pointer none)), .d (.v (.slice none 0 0))] 172)]=>k (.tup []) [(0, .cells [.ptr 0 0, .d (.v (.slice none 0 0))] 172)]|[.c (.ptr 0 0)],[(0, .cells [.ptr 0 0, .row 1 1 n] 172),(1, .row m f 1 5)]=>k (.tup []) [(0, .cells [.ptr 0 0, .row 1 1 n] 172),(1, .row m f 1 5)]|_,_=>none) Orc.nil
theorem Arj(s:BA):Ai prog o32 na 1 f83 (Ac f83) [.c (.ptr 0 0),vS s] (HB0 172)=
 (bif decide ((0+ByteArray.size s)*1<=140737488355328)&&decide (0+ByteArray.size s<=9223372036854775807)then some (T.leaf (.tup [(false,[.d (.v (.int .i64
 (↑(ByteArray.size s):Int)))]),(false,[.d (.v Value.nilIface)])],[(0, .cells [.ptr (0) (0), .row ((1:Nat)) (1) (0+ByteArray.size s)] (172)),(1, .row (0+
 ByteArray.size s) (fun i=>bif Nat.blt i (ByteArray.size s)then [D.v (Value.int IntKind.u8 (↑(UInt8.toNat ((Array.toList (ByteArray.data s)).getD i 0)):Int))]else []) (1)
 (5))]))else none):=by kernel_rfl
theorem Ari(s b:BA):Ai prog o32 na 1 f83 (Ac f83) [.c (.ptr 0 0),vS s] (HB 172 5 b)=
 (bif decide ((ByteArray.size b+ByteArray.size s)*1<=140737488355328)&&decide (ByteArray.size b+ByteArray.size s<=9223372036854775807)then some (T.leaf (.tup [(false,
 [.d (iD (↑(ByteArray.size s):Int))]),(false,[.d (.v Value.nilIface)])],[(0, .cells [.ptr (0) ((0:Nat)), .row (2) (1) (ByteArray.size b+ByteArray.size
 s)] (172)),(1, .dead),(2, .row (ByteArray.size b+ByteArray.size s) (appF (ByteArray.size b) (bF b) fun i=>bif Nat.blt i (ByteArray.size s)then [D.v (Value.int
 IntKind.u8 (↑(UInt8.toNat ((Array.toList (ByteArray.data s)).getD i 0)):Int))]else []) (1) (5))]))else none):=by kernel_rfl
theorem Arh(c:Int)(b:BA):Ai prog o32 na 1 f84 (Ac f84) [.c (.ptr 0 0),v8 c] (HB 172 5 b)=
 (bif decide ((ByteArray.size b+1)*1<=140737488355328)&&decide (ByteArray.size b+1<=9223372036854775807)then some (T.leaf (.c (.d (.v Value.nilIface)),[(0, .cells
 [.ptr (0) (0), .row (2) (1) (ByteArray.size b+1)] (172)),(1, .dead),(2, .row (ByteArray.size b+1) (appF (ByteArray.size b) (bF b) (Ae [D.v (Value.int IntKind.u8 c)]
 (0+1))) (1) ((5:Nat)))]))else none):=by kernel_rfl
theorem Arg(_u:Unit):Ai prog Orc.nil na 1 f86 (Ac f86) [.c (.ptr 0 0)] (HB0 172)=
 some (T.leaf (.c (.d (.v (.string ByteArray.empty))),[(0, .cells [.d (.v (Value.pointer none)), .d (.v (.slice none 0 0))] ((172:Nat)))])):=by kernel_rfl
theorem Arf(b:BA):Ai prog Orc.nil na 1 f86 (Ac f86) [.c (.ptr 0 0)] (HB 172 5 b)=
 (bif decide (0<ByteArray.size b)then(bif decide (0<=(↑(ByteArray.size b):Int))&&decide ((↑(ByteArray.size b):Int)<=9223372036854775807)then(bif Nat.ble (Int.toNat
 (↑(ByteArray.size b):Int)) (ByteArray.size b)&&Nat.beq 1 1&&Nat.beq (5:TypeId) 5&&Dk (Int.toNat (↑(ByteArray.size b):Int)) (bF b)then some (T.leaf (.c (.d (.v
 (.string (C5 (Int.toNat (↑(ByteArray.size b):Int)) (bF b))))),[(0, .cells [.ptr (0) (0), .row (1) (1) (ByteArray.size b)] (172)),(1, .dead)]))else none)else none)
 else none):=by kernel_rfl
theorem ev34(w:Wd):Ai prog Orc.nil na 1 f85 (Ac f85) [.agg ((Fv w).map .d)] []=
 (bif Wd.q w then(bif decide (ByteArray.size (⟨#[34]⟩)+ByteArray.size (Wd.text w)<=9223372036854775807)then(bif decide (ByteArray.size (ByteArray.mk #[34]++Wd.text w)+
 ByteArray.size (⟨#[34]⟩)<=9223372036854775807)then some (T.leaf (.c (.d (.v (Value.string (ByteArray.mk #[34]++Wd.text w++⟨#[34]⟩)))),[]))else none)else none)else
 some (T.leaf (.c (.d (.v (.string (Wd.text w)))),[]))):=by kernel_rfl
theorem b48:f149.body=some (Ac f149):=by kernel_rfl
theorem b32:f83.body=some (Ac f83):=by kernel_rfl
theorem b33:f84.body=some (Ac f84):=by kernel_rfl
theorem b34:f85.body=some (Ac f85):=by kernel_rfl
theorem b35:f86.body=some (Ac f86):=by kernel_rfl
theorem AjW:B4 prog o48:=Orc.cons_ok (Orc.nil_ok _) (Abj (fn:=f217) func217 (by kernel_rfl) (by kernel_rfl) (by kernel_rfl) (by kernel_rfl))
theorem c48a:CX prog 149 [.c (.ptr 0 0)] (HB0 172) (.tup []) [(0, .cells [.ptr 0 0, .d (.v (.slice none 0 0))] 172)]:=Am AjW func149 b48 rfl (Are ())
theorem Ard(n m:Nat)(f:RD):Ai prog o48 na 1 f149 (Ac f149) [.c (.ptr 0 0)] [(0, .cells [.ptr 0 0, .row 1 1 n] 172),(1, .row m f 1 5)]=some (.leaf (.tup [],[(0, .cells [.ptr 0 0, .row 1 1 n] 172),(1, .row m f 1 5)])):=by kernel_rfl
theorem c48b(n m:Nat)(f:RD):CX prog 149 [.c (.ptr 0 0)] [(0, .cells [.ptr 0 0, .row 1 1 n] 172),(1, .row m f 1 5)] (.tup []) [(0, .cells [.ptr 0 0, .row 1 1 n] 172),(1, .row m f 1 5)]:=Am AjW func149 b48 rfl (Ard n m f)
theorem AeE:B4 prog o32:=Orc.cons_ok (Orc.nil_ok _) fun R args H k t h=>by
 split at h
 ·exact⟨_,_,h,c48a⟩
 ·exact⟨_,_,h,c48b _ _ _⟩
 ·simp at h
abbrev rS(s:BA):AV:= .tup [pI s.size,(false,[.d (.v .nilIface)])]
theorem c32a(s:BA)(hs:s.size<=bMax):CX prog 83 [.c (.ptr 0 0),vS s] (HB0 172) (rS s) (HB 172 5 s):=by
 have h:=Arj s;unfold bMax at hs;rw[show(decide ((0+s.size)*1<=140737488355328)&&decide (0+s.size<=9223372036854775807))=true from by simp;omega,za]at h;simp only[Ba,Bk,appD,Nat.zero_add,Apr]at h;exact Am AeE func83 b32 rfl h
theorem c32b(s b:BA)(hs:b.size+s.size<=bMax):CX prog 83 [.c (.ptr 0 0),vS s] (HB 172 5 b) (rS s) (HW 172 5 (b++s)):=by
 have h:=Ari s b;unfold bMax at hs;rw[show(decide ((b.size+s.size)*1<=140737488355328)&&decide (b.size+s.size<=9223372036854775807))=true from by simp;omega,za]at h;simp only[Ba,Bk,appD,Apr,Agw]at h;simp only[<-ByteArray.size_append]at h;exact Am AeE func83 b32 rfl h
abbrev rE:AV:= .c (.d (.v .nilIface))
theorem c33b(c:UInt8)(b:BA)(hs:b.size+1<=bMax):CX prog 84 [.c (.ptr 0 0),v8 c.toNat] (HB 172 5 b) rE (HW 172 5 (b++⟨#[c]⟩)):=by
 have h:=Arh c.toNat b;unfold bMax at hs;rw[show(decide ((b.size+1)*1<=140737488355328)&&decide (b.size+1<=9223372036854775807))=true from by simp;omega,za]at h;simp only[Ba,Bk,appD,Nat.zero_add,AiK,Agw]at h;have e:b.size+1=(b++(⟨#[c]⟩:BA)).size:=by rw[ByteArray.size_append];rfl
 rw[e]at h;exact Am AeE func84 b33 rfl h
theorem c35a:CX prog 86 [.c (.ptr 0 0)] (HB0 172) (vS .empty) (HB0 172):=Am (Orc.nil_ok _) func86 b35 rfl (Arg ())
theorem c35b(b:BA)(h0:0<b.size)(hs:b.size<=bMax):CX prog 86 [.c (.ptr 0 0)] (HB 172 5 b) (vS b) (HBd 172 b.size):=by
 have h:=Arf b;unfold bMax at hs;rw[show decide (0<b.size)=true from zk h0,za,show(decide ((0:Int)<=(b.size:Int))&&decide ((b.size:Int)<=9223372036854775807))=true from by simp;omega,za]at h;simp only[Int.toNat_natCast,M9,W8,bleD,beqD,Nat.le_refl,decide_true,Bool.and_true,za]at h;exact Am (Orc.nil_ok _) func86 b35 rfl h
def src(w:Wd):BA:=bif w.q then(⟨#[34]⟩:BA)++w.text++⟨#[34]⟩else w.text
theorem c34(w:Wd)(hw:w.text.size+2<=9223372036854775807):CX prog 85 [.agg ((Fv w).map .d)] [] (vS (src w)) []:=by
 have h:=ev34 w;have e1:ByteArray.size (ByteArray.mk #[34])=1:=rfl;rw[show decide (ByteArray.size (ByteArray.mk #[(34:UInt8)])+ByteArray.size (Wd.text w)<=9223372036854775807)=true from zk (by rw[e1];omega),show decide (ByteArray.size (ByteArray.mk #[(34:UInt8)]++Wd.text w)+ByteArray.size (ByteArray.mk #[(34:UInt8)])<=9223372036854775807)=true from zk (by rw[ByteArray.size_append,e1];omega),za,za]at h;have h2:Ai prog Orc.nil na 1 f85 (Ac f85) [.agg ((Fv w).map .d)] []=some (.leaf (vS (src w),[])):=by
  rw[h];unfold src;cases w.q<;>rfl
 exact Am (Orc.nil_ok _) func85 b34 rfl h2
end Go.Y.bu
namespace Go.Y.fo
open Go.RowKit Go.Eb
open Go.Y.bu (rS rE)
open Go.Y.ck (Za aWd)
abbrev W1:Nat×Blk:=(1, .cells [.fn 82 [] [.ptr 0 0, .ptr 1 0]] 173)
abbrev W2:Nat×Blk:=(2, .cells [.fn 82 [] [.ptr 0 0, .ptr 2 0]] 173)
abbrev HA0:Hp:=[(0, .cells [.d (.v (.pointer none)), .d (.v (.slice none 0 0))] 172),W1]
abbrev HC0(G:BG)(b:BA):Hp:=[(0, .cells [.ptr 0 0, .row 1 1 (G.sz b)] 172),(1, .row (G.sz b) (G.fn b) 1 5),W2]
abbrev HA(G:BG)(b:BA):Hp:=[(0, .cells [.ptr 0 0, .row 2 1 (G.sz b)] 172),W1,(2, .row (G.sz b) (G.fn b) 1 5)]
abbrev HC(G:BG)(b:BA):Hp:=[(0, .cells [.ptr 0 0, .row 3 1 (G.sz b)] 172),(1, .dead),W2,(3, .row (G.sz b) (G.fn b) 1 5)]
structure FP where
 G:BG
 c:D ->BA ->Nat ->Nat ->RD ->Bool
 emp:D ->Bool
 fm:D ->BA ->BA ->BA
 sr:Wd ->BA
 cw:Wd ->Bool
def Ans(Z:FP):(R:Type) ->List AV ->Hp ->(AV ->Hp ->Option (T R)) ->Option (T R):=fun _ args H k=>match args,H with
 |[.c (.d x), .c (.d (.v (.string ind))), .c (.ptr 0 0), .c (.ptr 2 0)],[(0, .cells [.ptr 0 0, .row 1 1 n] 172),(1, .row m f 1 5),(2, .cells [.fn 82 [] [.ptr 0 0, .ptr 2 0]] 173)]=>
  bif Z.c x ind n m f then(bif Z.emp x then k (.tup []) (HC0 Z.G (Z.G.of n f))else k (.tup []) (HC Z.G (Z.fm x ind (Z.G.of n f))))else none
 |_,_=>none
def o31(Z:FP):Orc:=Orc.cons 83 (AiY true Z.G 172 5 argS rS) (Orc.cons 84 (AiY false Z.G 172 5 arg8 fun _=>rE) (Orc.cons 85 (ansC Za Z.cw fun w=>vS (Z.sr w)) (Orc.cons 82 (Ans Z) Orc.nil)))
def Hn:=A1 [(1,⟨[1,2,3,10,11,12],[]⟩),(5,⟨[1,2,3,7,10,11,12,19,20,21],[]⟩)]
noncomputable abbrev lb31:Code:=sub [true,false,false] (Ac f82)
abbrev li31:Code:=sub [true,true,false,false,true,true,false,true,false,false] lb31
def LA(Z:FP)(l:List It)(ind:BA)(g m:Nat)(b:BA)(i:Int):=G5 prog (o31 Z) Hn 2 g lb31 m ⟨frm [(1,vS ind),(2, .c (.ptr 0 0)),(3, .c (.ptr 1 0)),(10,aI l),(11,vI l.length),(12,vI i)] 0 f82.ntmps,HA Z.G b,3⟩ (kAt prog (o31 Z) Hn 2 g [true,false] (Ac f82) (kEnd prog f82 2))
def IA(Z:FP)(l:List It)(ind:BA)(x:It)(g m m1:Nat)(b:BA)(i j:Int):=G5 prog (o31 Z) Hn 2 g li31 m1 ⟨frm [(1,vS ind),(2, .c (.ptr 0 0)),(3, .c (.ptr 1 0)),(7, .c (.ptr 3 0)),(10,aI l),(11,vI l.length),(12,vI i),(19,aW x.words),(20,vI x.words.length),(21,vI j)] 0 f82.ntmps,HA Z.G b++[(3, .cells ((Af x).map .d) 176)],4⟩ (kAt prog (o31 Z) Hn 2 g [true,true,false,false,true,true,false,true,false] lb31 (Afb prog (o31 Z) Hn 2 g lb31 m (kAt prog (o31 Z) Hn 2 g [true,false] (Ac f82) (kEnd prog f82 2))))
theorem stA(Z:FP)(l:List It)(ind:BA)(g m:Nat)(b:BA)(i:Int):LA Z l ind g (m+1) b i=
 (bif decide (i<(↑l.length:Int))then(bif decide (0<=i)&&decide (i<(↑l.length:Int))then(bif Nat.beq (172:TypeId) (172:TypeId)&&Nat.beq (5:TypeId) (5:TypeId)
 &&BG.ok (FP.G Z) (BG.sz (FP.G Z) b) (BG.sz (FP.G Z) b) (BG.fn (FP.G Z) b) ind then IA Z l ind (l.getD i.toNat i0) g m g (BG.ap (FP.G Z) (BG.of (FP.G Z) (BG.sz (FP.G Z) b) (BG.fn
 (FP.G Z) b)) ind) i 0 else none)else none)else some (T.leaf (.tup [],[(0, .cells [.ptr (0) (0), .row ((2:Nat)) (1) (BG.sz (FP.G Z) b)] (172)),(1, .cells [.fn (82)
 [] [Rf.ptr (0) (0),Rf.ptr (1) (0)]] (173)),(2, .row (BG.sz (FP.G Z) b) (BG.fn (FP.G Z) b) (1) (5))]))):=by kernel_rfl
theorem siA(Z:FP)(l:List It)(ind:BA)(x:It)(g m m1:Nat)(b:BA)(i j:Int):IA Z l ind x g m (m1+1) b i j=
 (bif decide (j<(↑(It.words x).length:Int))then(bif decide (0<=j)&&decide (j<(↑(It.words x).length:Int))then(bif decide (j>0)then(bif Nat.beq (172:TypeId) (172
 :TypeId)&&Nat.beq (5:TypeId) (5:TypeId)&&BG.ok (FP.G Z) (BG.sz (FP.G Z) b) (BG.sz (FP.G Z) b) (BG.fn (FP.G Z) b) (⟨#[Nat.toUInt8 (Int.toNat 32)]⟩)then(bif FP.cw Z (Wd.mk
 (Wd.text ((It.words x).getD j.toNat w0)) (Wd.q ((It.words x).getD j.toNat w0)))then(bif Nat.beq (172:TypeId) (172:TypeId)&&Nat.beq (5:TypeId) (5:TypeId)&&BG.ok (FP.G
 Z) (BG.sz (FP.G Z) (BG.ap (FP.G Z) (BG.of (FP.G Z) (BG.sz (FP.G Z) b) (BG.fn (FP.G Z) b)) (⟨#[Nat.toUInt8 (Int.toNat 32)]⟩))) (BG.sz (FP.G Z) (BG.ap (FP.G Z) (BG.of (FP.G Z) (BG.sz
 (FP.G Z) b) (BG.fn (FP.G Z) b)) (⟨#[Nat.toUInt8 (Int.toNat 32)]⟩))) (BG.fn (FP.G Z) (BG.ap (FP.G Z) (BG.of (FP.G Z) (BG.sz (FP.G Z) b) (BG.fn (FP.G Z) b)) (⟨#[Nat.toUInt8
 (Int.toNat 32)]⟩))) (FP.sr Z (Wd.mk (Wd.text ((It.words x).getD j.toNat w0)) (Wd.q ((It.words x).getD j.toNat w0))))then IA Z l ind x g m m1 (BG.ap (FP.G Z) (BG.of (FP.G Z) (BG.sz
 (FP.G Z) (BG.ap (FP.G Z) (BG.of (FP.G Z) (BG.sz (FP.G Z) b) (BG.fn (FP.G Z) b)) (⟨#[Nat.toUInt8 (Int.toNat 32)]⟩))) (BG.fn (FP.G Z) (BG.ap (FP.G Z) (BG.of (FP.G Z) (BG.sz (FP.G Z)
 b) (BG.fn (FP.G Z) b)) (⟨#[Nat.toUInt8 (Int.toNat 32)]⟩)))) (FP.sr Z (Wd.mk (Wd.text ((It.words x).getD j.toNat w0)) (Wd.q ((It.words x).getD j.toNat w0))))) i (wrap .i64
 (j+1))else none)else none)else none)else(bif FP.cw Z (Wd.mk (Wd.text ((It.words x).getD j.toNat w0)) (Wd.q ((It.words x).getD j.toNat w0)))then(bif Nat.beq (172:TypeId)
 (172:TypeId)&&Nat.beq (5:TypeId) (5:TypeId)&&BG.ok (FP.G Z) (BG.sz (FP.G Z) b) (BG.sz (FP.G Z) b) (BG.fn (FP.G Z) b) (FP.sr Z (Wd.mk (Wd.text ((It.words x).getD j.toNat
 w0)) (Wd.q ((It.words x).getD j.toNat w0))))then IA Z l ind x g m m1 (BG.ap (FP.G Z) (BG.of (FP.G Z) (BG.sz (FP.G Z) b) (BG.fn (FP.G Z) b)) (FP.sr Z (Wd.mk (Wd.text ((It.words
 x).getD j.toNat w0)) (Wd.q ((It.words x).getD j.toNat w0))))) i (wrap .i64 (j+1))else none)else none))else none)else(bif !It.block x then(bif Nat.beq (172:TypeId)
 (172:TypeId)&&Nat.beq (5:TypeId) (5:TypeId)&&BG.ok (FP.G Z) (BG.sz (FP.G Z) b) (BG.sz (FP.G Z) b) (BG.fn (FP.G Z) b) (⟨#[59,10]⟩)then LA Z l ind g m (BG.ap (FP.G Z)
 (BG.of (FP.G Z) (BG.sz (FP.G Z) b) (BG.fn (FP.G Z) b)) (⟨#[59,10]⟩)) (wrap .i64 (i+1))else none)else(bif Nat.beq (172:TypeId) (172:TypeId)&&Nat.beq (5:TypeId)
 (5:TypeId)&&BG.ok (FP.G Z) (BG.sz (FP.G Z) b) (BG.sz (FP.G Z) b) (BG.fn (FP.G Z) b) (⟨#[32,123,10]⟩)then(bif decide (ByteArray.size ind+ByteArray.size (⟨#[32,32]⟩)<=
 9223372036854775807)then(bif FP.c Z (A6 x) (ind++⟨#[32,32]⟩) (BG.sz (FP.G Z) (BG.ap (FP.G Z) (BG.of (FP.G Z) (BG.sz (FP.G Z) b) (BG.fn (FP.G Z) b)) (⟨#[32,123,10]⟩))) (BG.sz
 (FP.G Z) (BG.ap (FP.G Z) (BG.of (FP.G Z) (BG.sz (FP.G Z) b) (BG.fn (FP.G Z) b)) (⟨#[32,123,10]⟩))) (BG.fn (FP.G Z) (BG.ap (FP.G Z) (BG.of (FP.G Z) (BG.sz (FP.G Z) b) (BG.fn (FP.G
 Z) b)) (⟨#[32,123,10]⟩)))then(bif FP.emp Z (A6 x)then(bif decide (ByteArray.size ind+ByteArray.size (⟨#[125,10]⟩)<=9223372036854775807)then(bif Nat.beq (172:TypeId)
 (172:TypeId)&&Nat.beq (5:TypeId) (5:TypeId)&&BG.ok (FP.G Z) (BG.sz (FP.G Z) (BG.of (FP.G Z) (BG.sz (FP.G Z) (BG.ap (FP.G Z) (BG.of (FP.G Z) (BG.sz (FP.G Z) b) (BG.fn
 (FP.G Z) b)) (⟨#[32,(123:UInt8),10]⟩))) (BG.fn (FP.G Z) (BG.ap (FP.G Z) (BG.of (FP.G Z) (BG.sz (FP.G Z) b) (BG.fn (FP.G Z) b)) (⟨#[32,123,10]⟩))))) (BG.sz (FP.G Z) (BG.of
 (FP.G Z) (BG.sz (FP.G Z) (BG.ap (FP.G Z) (BG.of (FP.G Z) (BG.sz (FP.G Z) b) (BG.fn (FP.G Z) b)) (⟨#[32,123,10]⟩))) (BG.fn (FP.G Z) (BG.ap (FP.G Z) (BG.of (FP.G Z) (BG.sz (FP.G Z)
 b) (BG.fn (FP.G Z) b)) (⟨#[32,123,10]⟩))))) (BG.fn (FP.G Z) (BG.of (FP.G Z) (BG.sz (FP.G Z) (BG.ap (FP.G Z) (BG.of (FP.G Z) (BG.sz (FP.G Z) b) (BG.fn (FP.G Z) b)) (⟨#[32,123,
 10]⟩))) (BG.fn (FP.G Z) (BG.ap (FP.G Z) (BG.of (FP.G Z) (BG.sz (FP.G Z) b) (BG.fn (FP.G Z) b)) (⟨#[32,123,10]⟩))))) (ind++⟨#[125,10]⟩)then LA Z l ind g m (BG.ap (FP.G Z)
 (BG.of (FP.G Z) (BG.sz (FP.G Z) (BG.of (FP.G Z) (BG.sz (FP.G Z) (BG.ap (FP.G Z) (BG.of (FP.G Z) (BG.sz (FP.G Z) b) (BG.fn (FP.G Z) b)) (⟨#[32,123,10]⟩))) (BG.fn (FP.G Z) (BG.ap
 (FP.G Z) (BG.of (FP.G Z) (BG.sz (FP.G Z) b) (BG.fn (FP.G Z) b)) (⟨#[32,123,10]⟩))))) (BG.fn (FP.G Z) (BG.of (FP.G Z) (BG.sz (FP.G Z) (BG.ap (FP.G Z) (BG.of (FP.G Z) (BG.sz (FP.G
 Z) b) (BG.fn (FP.G Z) b)) (⟨#[32,(123:UInt8),10]⟩))) (BG.fn (FP.G Z) (BG.ap (FP.G Z) (BG.of (FP.G Z) (BG.sz (FP.G Z) b) (BG.fn (FP.G Z) b)) (⟨#[32,123,10]⟩)))))) (ind++
 ⟨#[125,10]⟩)) (wrap .i64 (i+1))else none)else none)else(bif decide (ByteArray.size ind+ByteArray.size (⟨#[125,10]⟩)<=9223372036854775807)then(bif Nat.beq (172
 :TypeId) (172:TypeId)&&Nat.beq (5:TypeId) (5:TypeId)&&BG.ok (FP.G Z) (BG.sz (FP.G Z) (FP.fm Z (A6 x) (ind++⟨#[32,32]⟩) (BG.of (FP.G Z) (BG.sz (FP.G Z) (BG.ap (FP.G Z)
 (BG.of (FP.G Z) (BG.sz (FP.G Z) b) (BG.fn (FP.G Z) b)) (⟨#[32,123,10]⟩))) (BG.fn (FP.G Z) (BG.ap (FP.G Z) (BG.of (FP.G Z) (BG.sz (FP.G Z) b) (BG.fn (FP.G Z) b)) (⟨#[32,123,
 10]⟩)))))) (BG.sz (FP.G Z) (FP.fm Z (A6 x) (ind++⟨#[32,32]⟩) (BG.of (FP.G Z) (BG.sz (FP.G Z) (BG.ap (FP.G Z) (BG.of (FP.G Z) (BG.sz (FP.G Z) b) (BG.fn (FP.G Z) b)) (⟨#[32,123,
 10]⟩))) (BG.fn (FP.G Z) (BG.ap (FP.G Z) (BG.of (FP.G Z) (BG.sz (FP.G Z) b) (BG.fn (FP.G Z) b)) (⟨#[32,123,10]⟩)))))) (BG.fn (FP.G Z) (FP.fm Z (A6 x) (ind++⟨#[32,32]⟩) (BG.of
 (FP.G Z) (BG.sz (FP.G Z) (BG.ap (FP.G Z) (BG.of (FP.G Z) (BG.sz (FP.G Z) b) (BG.fn (FP.G Z) b)) (⟨#[32,123,10]⟩))) (BG.fn (FP.G Z) (BG.ap (FP.G Z) (BG.of (FP.G Z) (BG.sz (FP.G Z)
 b) (BG.fn (FP.G Z) b)) (⟨#[32,123,10]⟩)))))) (ind++⟨#[125,10]⟩)then LA Z l ind g m (BG.ap (FP.G Z) (BG.of (FP.G Z) (BG.sz (FP.G Z) (FP.fm Z (A6 x) (ind++⟨#[32,32]⟩) (BG.of
 (FP.G Z) (BG.sz (FP.G Z) (BG.ap (FP.G Z) (BG.of (FP.G Z) (BG.sz (FP.G Z) b) (BG.fn (FP.G Z) b)) (⟨#[32,123,10]⟩))) (BG.fn (FP.G Z) (BG.ap (FP.G Z) (BG.of (FP.G Z) (BG.sz (FP.G Z)
 b) (BG.fn (FP.G Z) b)) (⟨#[32,123,10]⟩)))))) (BG.fn (FP.G Z) (FP.fm Z (A6 x) (ind++⟨#[32,(32:UInt8)]⟩) (BG.of (FP.G Z) (BG.sz (FP.G Z) (BG.ap (FP.G Z) (BG.of (FP.G Z) (BG.sz
 (FP.G Z) b) (BG.fn (FP.G Z) b)) (⟨#[32,123,10]⟩))) (BG.fn (FP.G Z) (BG.ap (FP.G Z) (BG.of (FP.G Z) (BG.sz (FP.G Z) b) (BG.fn (FP.G Z) b)) (⟨#[32,123,10]⟩))))))) (ind++⟨#[(125
 :UInt8),10]⟩)) (wrap .i64 (i+1))else none)else none))else none)else none)else none))):=by kernel_rfl
def FA(Z:FP)(l:List It)(ind:BA)(g m:Nat)(i:Int):=G5 prog (o31 Z) Hn 2 g lb31 m ⟨frm [(1,vS ind),(2, .c (.ptr 0 0)),(3, .c (.ptr 1 0)),(10,aI l),(11,vI l.length),(12,vI i)] 0 f82.ntmps,HA0,2⟩ (kAt prog (o31 Z) Hn 2 g [true,false] (Ac f82) (kEnd prog f82 2))
theorem evA(Z:FP)(l:List It)(ind:BA)(g:Nat):Ai prog (o31 Z) Hn g f82 (Ac f82) [aI l,vS ind, .c (.ptr 0 0), .c (.ptr 1 0)] (HA0)=
 FA Z l ind g g 0:=by kernel_rfl
theorem sfA(Z:FP)(l:List It)(ind:BA)(g m:Nat)(i:Int):FA Z l ind g (m+1) i=
 (bif decide (i<(↑l.length:Int))then(bif decide (0<=i)&&decide (i<(↑l.length:Int))then(bif true&&Nat.beq (172:TypeId) (172:TypeId)&&BG.ok (FP.G Z) 0 0 (fun x
 =>[]) ind then IA Z l ind (l.getD i.toNat i0) g m g ind i 0 else none)else none)else some (T.leaf (.tup [],[((0:Nat), .cells [.d (.v (Value.pointer none)), .d (.v
 (.slice none 0 0))] (172)),(1, .cells [.fn (82) [] [Rf.ptr (0) (0),Rf.ptr (1) (0)]] (173))]))):=by kernel_rfl
def LC(Z:FP)(l:List It)(ind:BA)(g m:Nat)(b:BA)(i:Int):=G5 prog (o31 Z) Hn 3 g lb31 m ⟨frm [(1,vS ind),(2, .c (.ptr 0 0)),(3, .c (.ptr 2 0)),(10,aI l),(11,vI l.length),(12,vI i)] 0 f82.ntmps,HC Z.G b,4⟩ (kAt prog (o31 Z) Hn 3 g [true,false] (Ac f82) (kEnd prog f82 3))
def IC(Z:FP)(l:List It)(ind:BA)(x:It)(g m m1:Nat)(b:BA)(i j:Int):=G5 prog (o31 Z) Hn 3 g li31 m1 ⟨frm [(1,vS ind),(2, .c (.ptr 0 0)),(3, .c (.ptr 2 0)),(7, .c (.ptr 4 0)),(10,aI l),(11,vI l.length),(12,vI i),(19,aW x.words),(20,vI x.words.length),(21,vI j)] 0 f82.ntmps,HC Z.G b++[(4, .cells ((Af x).map .d) 176)],5⟩ (kAt prog (o31 Z) Hn 3 g [true,true,false,false,true,true,false,true,false] lb31 (Afb prog (o31 Z) Hn 3 g lb31 m (kAt prog (o31 Z) Hn 3 g [true,false] (Ac f82) (kEnd prog f82 3))))
theorem stC(Z:FP)(l:List It)(ind:BA)(g m:Nat)(b:BA)(i:Int):LC Z l ind g (m+1) b i=
 (bif decide (i<(↑l.length:Int))then(bif decide (0<=i)&&decide (i<(↑l.length:Int))then(bif Nat.beq (172:TypeId) (172:TypeId)&&Nat.beq (5:TypeId) (5:TypeId)
 &&BG.ok (FP.G Z) (BG.sz (FP.G Z) b) (BG.sz (FP.G Z) b) (BG.fn (FP.G Z) b) ind then IC Z l ind (l.getD i.toNat i0) g m g (BG.ap (FP.G Z) (BG.of (FP.G Z) (BG.sz (FP.G Z) b) (BG.fn
 (FP.G Z) b)) ind) i 0 else none)else none)else some (T.leaf (.tup [],[(0, .cells [.ptr (0) (0), .row ((3:Nat)) (1) (BG.sz (FP.G Z) b)] (172)),(1, .dead),(2,
 .cells [.fn (82) [] [Rf.ptr (0) (0),Rf.ptr (2) ((0:Nat))]] (173)),(3, .row (BG.sz (FP.G Z) b) (BG.fn (FP.G Z) b) (1) (5))]))):=by kernel_rfl
theorem siC(Z:FP)(l:List It)(ind:BA)(x:It)(g m m1:Nat)(b:BA)(i j:Int):IC Z l ind x g m (m1+1) b i j=
 (bif decide (j<(↑(It.words x).length:Int))then(bif decide (0<=j)&&decide (j<(↑(It.words x).length:Int))then(bif decide (j>0)then(bif Nat.beq (172:TypeId) (172
 :TypeId)&&Nat.beq (5:TypeId) (5:TypeId)&&BG.ok (FP.G Z) (BG.sz (FP.G Z) b) (BG.sz (FP.G Z) b) (BG.fn (FP.G Z) b) (⟨#[Nat.toUInt8 (Int.toNat 32)]⟩)then(bif FP.cw Z (Wd.mk
 (Wd.text ((It.words x).getD j.toNat w0)) (Wd.q ((It.words x).getD j.toNat w0)))then(bif Nat.beq (172:TypeId) (172:TypeId)&&Nat.beq (5:TypeId) (5:TypeId)&&BG.ok (FP.G
 Z) (BG.sz (FP.G Z) (BG.ap (FP.G Z) (BG.of (FP.G Z) (BG.sz (FP.G Z) b) (BG.fn (FP.G Z) b)) (⟨#[Nat.toUInt8 (Int.toNat 32)]⟩))) (BG.sz (FP.G Z) (BG.ap (FP.G Z) (BG.of (FP.G Z) (BG.sz
 (FP.G Z) b) (BG.fn (FP.G Z) b)) (⟨#[Nat.toUInt8 (Int.toNat 32)]⟩))) (BG.fn (FP.G Z) (BG.ap (FP.G Z) (BG.of (FP.G Z) (BG.sz (FP.G Z) b) (BG.fn (FP.G Z) b)) (⟨#[Nat.toUInt8
 (Int.toNat 32)]⟩))) (FP.sr Z (Wd.mk (Wd.text ((It.words x).getD j.toNat w0)) (Wd.q ((It.words x).getD j.toNat w0))))then IC Z l ind x g m m1 (BG.ap (FP.G Z) (BG.of (FP.G Z) (BG.sz
 (FP.G Z) (BG.ap (FP.G Z) (BG.of (FP.G Z) (BG.sz (FP.G Z) b) (BG.fn (FP.G Z) b)) (⟨#[Nat.toUInt8 (Int.toNat 32)]⟩))) (BG.fn (FP.G Z) (BG.ap (FP.G Z) (BG.of (FP.G Z) (BG.sz (FP.G Z)
 b) (BG.fn (FP.G Z) b)) (⟨#[Nat.toUInt8 (Int.toNat 32)]⟩)))) (FP.sr Z (Wd.mk (Wd.text ((It.words x).getD j.toNat w0)) (Wd.q ((It.words x).getD j.toNat w0))))) i (wrap .i64
 (j+1))else none)else none)else none)else(bif FP.cw Z (Wd.mk (Wd.text ((It.words x).getD j.toNat w0)) (Wd.q ((It.words x).getD j.toNat w0)))then(bif Nat.beq (172:TypeId)
 (172:TypeId)&&Nat.beq (5:TypeId) (5:TypeId)&&BG.ok (FP.G Z) (BG.sz (FP.G Z) b) (BG.sz (FP.G Z) b) (BG.fn (FP.G Z) b) (FP.sr Z (Wd.mk (Wd.text ((It.words x).getD j.toNat
 w0)) (Wd.q ((It.words x).getD j.toNat w0))))then IC Z l ind x g m m1 (BG.ap (FP.G Z) (BG.of (FP.G Z) (BG.sz (FP.G Z) b) (BG.fn (FP.G Z) b)) (FP.sr Z (Wd.mk (Wd.text ((It.words
 x).getD j.toNat w0)) (Wd.q ((It.words x).getD j.toNat w0))))) i (wrap .i64 (j+1))else none)else none))else none)else(bif !It.block x then(bif Nat.beq (172:TypeId)
 (172:TypeId)&&Nat.beq (5:TypeId) (5:TypeId)&&BG.ok (FP.G Z) (BG.sz (FP.G Z) b) (BG.sz (FP.G Z) b) (BG.fn (FP.G Z) b) (⟨#[59,10]⟩)then LC Z l ind g m (BG.ap (FP.G Z)
 (BG.of (FP.G Z) (BG.sz (FP.G Z) b) (BG.fn (FP.G Z) b)) (⟨#[59,10]⟩)) (wrap .i64 (i+1))else none)else(bif Nat.beq (172:TypeId) (172:TypeId)&&Nat.beq (5:TypeId)
 (5:TypeId)&&BG.ok (FP.G Z) (BG.sz (FP.G Z) b) (BG.sz (FP.G Z) b) (BG.fn (FP.G Z) b) (⟨#[32,123,10]⟩)then(bif decide (ByteArray.size ind+ByteArray.size (⟨#[32,32]⟩)<=
 9223372036854775807)then(bif FP.c Z (A6 x) (ind++⟨#[32,32]⟩) (BG.sz (FP.G Z) (BG.ap (FP.G Z) (BG.of (FP.G Z) (BG.sz (FP.G Z) b) (BG.fn (FP.G Z) b)) (⟨#[32,123,10]⟩))) (BG.sz
 (FP.G Z) (BG.ap (FP.G Z) (BG.of (FP.G Z) (BG.sz (FP.G Z) b) (BG.fn (FP.G Z) b)) (⟨#[32,123,10]⟩))) (BG.fn (FP.G Z) (BG.ap (FP.G Z) (BG.of (FP.G Z) (BG.sz (FP.G Z) b) (BG.fn (FP.G
 Z) b)) (⟨#[32,123,10]⟩)))then(bif FP.emp Z (A6 x)then(bif decide (ByteArray.size ind+ByteArray.size (⟨#[125,10]⟩)<=9223372036854775807)then(bif Nat.beq (172:TypeId)
 (172:TypeId)&&Nat.beq (5:TypeId) (5:TypeId)&&BG.ok (FP.G Z) (BG.sz (FP.G Z) (BG.of (FP.G Z) (BG.sz (FP.G Z) (BG.ap (FP.G Z) (BG.of (FP.G Z) (BG.sz (FP.G Z) b) (BG.fn
 (FP.G Z) b)) (⟨#[32,(123:UInt8),10]⟩))) (BG.fn (FP.G Z) (BG.ap (FP.G Z) (BG.of (FP.G Z) (BG.sz (FP.G Z) b) (BG.fn (FP.G Z) b)) (⟨#[32,123,10]⟩))))) (BG.sz (FP.G Z) (BG.of
 (FP.G Z) (BG.sz (FP.G Z) (BG.ap (FP.G Z) (BG.of (FP.G Z) (BG.sz (FP.G Z) b) (BG.fn (FP.G Z) b)) (⟨#[32,123,10]⟩))) (BG.fn (FP.G Z) (BG.ap (FP.G Z) (BG.of (FP.G Z) (BG.sz (FP.G Z)
 b) (BG.fn (FP.G Z) b)) (⟨#[32,123,10]⟩))))) (BG.fn (FP.G Z) (BG.of (FP.G Z) (BG.sz (FP.G Z) (BG.ap (FP.G Z) (BG.of (FP.G Z) (BG.sz (FP.G Z) b) (BG.fn (FP.G Z) b)) (⟨#[32,123,
 10]⟩))) (BG.fn (FP.G Z) (BG.ap (FP.G Z) (BG.of (FP.G Z) (BG.sz (FP.G Z) b) (BG.fn (FP.G Z) b)) (⟨#[32,123,10]⟩))))) (ind++⟨#[125,10]⟩)then LC Z l ind g m (BG.ap (FP.G Z)
 (BG.of (FP.G Z) (BG.sz (FP.G Z) (BG.of (FP.G Z) (BG.sz (FP.G Z) (BG.ap (FP.G Z) (BG.of (FP.G Z) (BG.sz (FP.G Z) b) (BG.fn (FP.G Z) b)) (⟨#[32,123,10]⟩))) (BG.fn (FP.G Z) (BG.ap
 (FP.G Z) (BG.of (FP.G Z) (BG.sz (FP.G Z) b) (BG.fn (FP.G Z) b)) (⟨#[32,123,10]⟩))))) (BG.fn (FP.G Z) (BG.of (FP.G Z) (BG.sz (FP.G Z) (BG.ap (FP.G Z) (BG.of (FP.G Z) (BG.sz (FP.G
 Z) b) (BG.fn (FP.G Z) b)) (⟨#[32,(123:UInt8),10]⟩))) (BG.fn (FP.G Z) (BG.ap (FP.G Z) (BG.of (FP.G Z) (BG.sz (FP.G Z) b) (BG.fn (FP.G Z) b)) (⟨#[32,123,10]⟩)))))) (ind++
 ⟨#[125,10]⟩)) (wrap .i64 (i+1))else none)else none)else(bif decide (ByteArray.size ind+ByteArray.size (⟨#[125,10]⟩)<=9223372036854775807)then(bif Nat.beq (172
 :TypeId) (172:TypeId)&&Nat.beq (5:TypeId) (5:TypeId)&&BG.ok (FP.G Z) (BG.sz (FP.G Z) (FP.fm Z (A6 x) (ind++⟨#[32,32]⟩) (BG.of (FP.G Z) (BG.sz (FP.G Z) (BG.ap (FP.G Z)
 (BG.of (FP.G Z) (BG.sz (FP.G Z) b) (BG.fn (FP.G Z) b)) (⟨#[32,123,10]⟩))) (BG.fn (FP.G Z) (BG.ap (FP.G Z) (BG.of (FP.G Z) (BG.sz (FP.G Z) b) (BG.fn (FP.G Z) b)) (⟨#[32,123,
 10]⟩)))))) (BG.sz (FP.G Z) (FP.fm Z (A6 x) (ind++⟨#[32,32]⟩) (BG.of (FP.G Z) (BG.sz (FP.G Z) (BG.ap (FP.G Z) (BG.of (FP.G Z) (BG.sz (FP.G Z) b) (BG.fn (FP.G Z) b)) (⟨#[32,123,
 10]⟩))) (BG.fn (FP.G Z) (BG.ap (FP.G Z) (BG.of (FP.G Z) (BG.sz (FP.G Z) b) (BG.fn (FP.G Z) b)) (⟨#[32,123,10]⟩)))))) (BG.fn (FP.G Z) (FP.fm Z (A6 x) (ind++⟨#[32,32]⟩) (BG.of
 (FP.G Z) (BG.sz (FP.G Z) (BG.ap (FP.G Z) (BG.of (FP.G Z) (BG.sz (FP.G Z) b) (BG.fn (FP.G Z) b)) (⟨#[32,123,10]⟩))) (BG.fn (FP.G Z) (BG.ap (FP.G Z) (BG.of (FP.G Z) (BG.sz (FP.G Z)
 b) (BG.fn (FP.G Z) b)) (⟨#[32,123,10]⟩)))))) (ind++⟨#[125,10]⟩)then LC Z l ind g m (BG.ap (FP.G Z) (BG.of (FP.G Z) (BG.sz (FP.G Z) (FP.fm Z (A6 x) (ind++⟨#[32,32]⟩) (BG.of
 (FP.G Z) (BG.sz (FP.G Z) (BG.ap (FP.G Z) (BG.of (FP.G Z) (BG.sz (FP.G Z) b) (BG.fn (FP.G Z) b)) (⟨#[32,123,10]⟩))) (BG.fn (FP.G Z) (BG.ap (FP.G Z) (BG.of (FP.G Z) (BG.sz (FP.G Z)
 b) (BG.fn (FP.G Z) b)) (⟨#[32,123,10]⟩)))))) (BG.fn (FP.G Z) (FP.fm Z (A6 x) (ind++⟨#[32,(32:UInt8)]⟩) (BG.of (FP.G Z) (BG.sz (FP.G Z) (BG.ap (FP.G Z) (BG.of (FP.G Z) (BG.sz
 (FP.G Z) b) (BG.fn (FP.G Z) b)) (⟨#[32,123,10]⟩))) (BG.fn (FP.G Z) (BG.ap (FP.G Z) (BG.of (FP.G Z) (BG.sz (FP.G Z) b) (BG.fn (FP.G Z) b)) (⟨#[32,123,10]⟩))))))) (ind++⟨#[(125
 :UInt8),10]⟩)) (wrap .i64 (i+1))else none)else none))else none)else none)else none))):=by kernel_rfl
def FC(Z:FP)(l:List It)(ind:BA)(g m:Nat)(b:BA)(i:Int):=G5 prog (o31 Z) Hn 3 g lb31 m ⟨frm [(1,vS ind),(2, .c (.ptr 0 0)),(3, .c (.ptr 2 0)),(10,aI l),(11,vI l.length),(12,vI i)] 0 f82.ntmps,HC0 Z.G b,3⟩ (kAt prog (o31 Z) Hn 3 g [true,false] (Ac f82) (kEnd prog f82 3))
theorem evC(Z:FP)(l:List It)(ind:BA)(g:Nat)(b:BA):Ai prog (o31 Z) Hn g f82 (Ac f82) [aI l,vS ind, .c (.ptr 0 0), .c (.ptr 2 0)] (HC0 Z.G b)=
 FC Z l ind g g b 0:=by kernel_rfl
theorem sfC(Z:FP)(l:List It)(ind:BA)(g m:Nat)(b:BA)(i:Int):FC Z l ind g (m+1) b i=
 (bif decide (i<(↑l.length:Int))then(bif decide (0<=i)&&decide (i<(↑l.length:Int))then(bif Nat.beq (172:TypeId) (172:TypeId)&&Nat.beq (5:TypeId) (5:TypeId)
 &&BG.ok (FP.G Z) (BG.sz (FP.G Z) b) (BG.sz (FP.G Z) b) (BG.fn (FP.G Z) b) ind then IC Z l ind (l.getD i.toNat i0) g m g (BG.ap (FP.G Z) (BG.of (FP.G Z) (BG.sz (FP.G Z) b) (BG.fn
 (FP.G Z) b)) ind) i 0 else none)else none)else some (T.leaf (.tup [],[(0, .cells [.ptr (0) (0), .row ((1:Nat)) (1) (BG.sz (FP.G Z) b)] (172)),(1, .row (BG.sz (FP.G
 Z) b) (BG.fn (FP.G Z) b) (1) (5)),(2, .cells [.fn (82) [] [Rf.ptr (0) (0),Rf.ptr (2) (0)]] (173))]))):=by kernel_rfl
def AgC(Z:FP)(c0:D ->Bool):(R:Type) ->List AV ->Hp ->(AV ->Hp ->Option (T R)) ->Option (T R):=fun _ args H k=>match args,H with
 |[.c (.d x), .c (.d (.v (.string ind))), .c (.ptr 0 0), .c (.ptr 1 0)],[(0, .cells [.d (.v (.pointer none)), .d (.v (.slice none 0 0))] 172),(1, .cells [.fn 82 [] [.ptr 0 0, .ptr 1 0]] 173)]=>
  bif Nat.beq ind.size 0&&c0 x then(bif Z.emp x then k (.tup []) HA0 else k (.tup []) (HA Z.G (Z.fm x .empty .empty)))else none
 |_,_=>none
def o15(Z:FP)(ck:D ->Int)(okc c0:D ->Bool):Orc:=Orc.cons 81 (ans1 okc fun x=>vI (ck x)) (Orc.cons 82 (AgC Z c0) (Orc.cons 86 (Anr Z.G 172 5) Orc.nil))
theorem ev15(Z:FP)(ck:D ->Int)(okc c0:D ->Bool)(l:List It):Ai prog (o15 Z ck okc c0) na 1 f34 (Ac f34) [aI l] []=
 (bif okc (Bf l)then(bif ck (Bf l) !=0 then some (T.leaf (.c (.d (.v (.string (⟨#[]⟩)))),[]))else(bif Nat.beq (ByteArray.size (⟨#[]⟩)) 0&&c0 (Bf l)then(bif FP.emp Z (Bf
 l)then some (T.leaf (.c (.d (.v (.string ByteArray.empty))),[]))else(bif Nat.beq (172:TypeId) (172:TypeId)&&Nat.beq (5:TypeId) (5:TypeId)&&BG.ok (FP.G Z) (BG.sz
 (FP.G Z) (FP.fm Z (Bf l) ByteArray.empty ByteArray.empty)) (BG.sz (FP.G Z) (FP.fm Z (Bf l) ByteArray.empty ByteArray.empty)) (BG.fn (FP.G Z) (FP.fm Z (Bf l) ByteArray.empty
 ByteArray.empty)) ByteArray.empty&&Nat.blt 0 (BG.sz (FP.G Z) (FP.fm Z (Bf l) ByteArray.empty ByteArray.empty))then some (T.leaf (.c (.d (.v (.string (BG.of (FP.G Z) (BG.sz
 (FP.G Z) (FP.fm Z (Bf l) ByteArray.empty ByteArray.empty)) (BG.fn (FP.G Z) (FP.fm Z (Bf l) ByteArray.empty ByteArray.empty)))))),[]))else none))else none))else none):=by kernel_rfl
def o39(c:D ->Int ->Bool)(fm:D ->Int ->BA):Orc:=Orc.cons 97 (fun _ args H k=>match H,args with|[],[.c (.d x), .c (.d (.v (.int .i64 d)))]=>bif c x d then k (vS (fm x d)) []else none|_,_=>none) Orc.nil
def Vb:=A1 [(3,⟨[0,1,5,6],[]⟩),(8,⟨[0,1,5,7,8],[]⟩),(12,⟨[0,1,5,7,8,9],[]⟩)]
noncomputable abbrev lo39:Code:=sub [true,true,true,true,false,true,false,false] (Ac f97)
def B39(c:D ->Int ->Bool)(fm:D ->Int ->BA)(l:List It)(d:Int)(g m:Nat)(bl:BA)(i:Int):=G5 prog (o39 c fm) Vb 0 g (sub [true,true,false,true,false,false] (Ac f97)) m ⟨frm [(0,aI l),(1,vI d),(5,vS bl),(6,vI i)] 0 f97.ntmps,[],0⟩ (kAt prog (o39 c fm) Vb 0 g [true,true,false,true,false] (Ac f97) (kEnd prog f97 0))
def L39(c:D ->Int ->Bool)(fm:D ->Int ->BA)(l:List It)(d:Int)(bl:BA)(g m:Nat)(b:BA)(i:Int):=G5 prog (o39 c fm) Vb 0 g lo39 m ⟨frm [(0,aI l),(1,vI d),(5,vS bl),(7,vS b),(8,vI i)] 0 f97.ntmps,[],0⟩ (kAt prog (o39 c fm) Vb 0 g [true,true,true,true,false,true,false] (Ac f97) (kEnd prog f97 0))
def I39(c:D ->Int ->Bool)(fm:D ->Int ->BA)(l:List It)(d:Int)(bl:BA)(g m m1:Nat)(b:BA)(i j:Int):=G5 prog (o39 c fm) Vb 0 g (sub [true,false,false,true,false,true,false,false] lo39) m1 ⟨frm [(0,aI l),(1,vI d),(5,vS bl),(7,vS b),(8,vI i),(9,vI j)] 0 f97.ntmps,[],0⟩ (kAt prog (o39 c fm) Vb 0 g [true,false,false,true,false,true,false] lo39 (Afb prog (o39 c fm) Vb 0 g lo39 m (kAt prog (o39 c fm) Vb 0 g [true,true,true,true,false,true,false] (Ac f97) (kEnd prog f97 0))))
theorem ev39(c:D ->Int ->Bool)(fm:D ->Int ->BA)(l:List It)(d:Int)(g:Nat):Ai prog (o39 c fm) Vb g f97 (Ac f97) [aI l,vI d] []=
 B39 c fm l d g g (⟨#[]⟩) 0:=by kernel_rfl
theorem sb39(c:D ->Int ->Bool)(fm:D ->Int ->BA)(l:List It)(d:Int)(g m:Nat)(bl:BA)(i:Int):B39 c fm l d g (m+1) bl i=
 (bif decide (i<d)then(bif decide (ByteArray.size bl+ByteArray.size (⟨#[32,32]⟩)<=9223372036854775807)then B39 c fm l d g m (bl++⟨#[32,32]⟩) (wrap .i64 (i+1))
 else none)else L39 c fm l d bl g g (⟨#[]⟩) 0):=by kernel_rfl
theorem st39(c:D ->Int ->Bool)(fm:D ->Int ->BA)(l:List It)(d:Int)(bl:BA)(g m:Nat)(b:BA)(i:Int):L39 c fm l d bl g (m+1) b i=
 (bif decide (i<(↑l.length:Int))then(bif decide (ByteArray.size b+ByteArray.size bl<=9223372036854775807)then I39 c fm l d bl g m g (b++bl) i 0 else none)else some
 (T.leaf (.c (.d (.v (.string b))),[]))):=by kernel_rfl
theorem si39(c:D ->Int ->Bool)(fm:D ->Int ->BA)(l:List It)(d:Int)(bl:BA)(g m m1:Nat)(b:BA)(i j:Int):I39 c fm l d bl g m (m1+1) b i j=
 (bif decide (0<=i)&&decide (i<(↑l.length:Int))then(bif decide (j<(↑(It.words (l.getD i.toNat i0)).length:Int))then(bif decide (0<=i)&&decide (i<(↑l.length:
 Int))then(bif decide (0<=j)&&decide (j<(↑(It.words (l.getD i.toNat i0)).length:Int))then(bif decide (j>0)then(bif decide (ByteArray.size b+ByteArray.size (⟨#[32]⟩)
 <=9223372036854775807)then(bif Wd.q ((It.words (l.getD i.toNat i0)).getD j.toNat w0)then(bif decide (ByteArray.size (b++⟨#[32]⟩)+ByteArray.size (⟨#[34]⟩)<=
 (9223372036854775807:Nat))then(bif decide (ByteArray.size (b++ByteArray.mk #[32]++⟨#[34]⟩)+ByteArray.size (Wd.text ((It.words (l.getD i.toNat i0)).getD j.toNat w0))<=
 9223372036854775807)then(bif decide (ByteArray.size (b++ByteArray.mk #[32]++ByteArray.mk #[34]++Wd.text ((It.words (l.getD i.toNat i0)).getD j.toNat w0))+ByteArray.size
 (⟨#[34]⟩)<=9223372036854775807)then I39 c fm l d bl g m m1 (b++ByteArray.mk #[32]++ByteArray.mk #[34]++Wd.text ((It.words (l.getD i.toNat i0)).getD j.toNat w0)++⟨#[34]⟩)
 i (wrap .i64 (j+1))else none)else none)else none)else(bif decide (ByteArray.size (b++⟨#[32]⟩)+ByteArray.size (Wd.text ((It.words (l.getD i.toNat i0)).getD
 j.toNat w0))<=9223372036854775807)then I39 c fm l d bl g m m1 (b++ByteArray.mk #[32]++Wd.text ((It.words (l.getD i.toNat i0)).getD j.toNat w0)) i (wrap .i64 (j+1))
 else none))else none)else(bif Wd.q ((It.words (l.getD i.toNat i0)).getD j.toNat w0)then(bif decide (ByteArray.size b+ByteArray.size (⟨#[34]⟩)<=9223372036854775807)then
 (bif decide (ByteArray.size (b++⟨#[34]⟩)+ByteArray.size (Wd.text ((It.words (l.getD i.toNat i0)).getD j.toNat w0))<=9223372036854775807)then(bif decide (ByteArray.size (b++
 ByteArray.mk #[34]++Wd.text ((It.words (l.getD i.toNat i0)).getD j.toNat w0))+ByteArray.size (⟨#[34]⟩)<=9223372036854775807)then I39 c fm l d bl g m m1 (b++ByteArray.mk
 #[34]++Wd.text ((It.words (l.getD i.toNat i0)).getD j.toNat w0)++⟨#[34]⟩) i (wrap .i64 (j+1))else none)else none)else none)else(bif decide (ByteArray.size b+
 ByteArray.size (Wd.text ((It.words (l.getD i.toNat i0)).getD j.toNat w0))<=9223372036854775807)then I39 c fm l d bl g m m1 (b++Wd.text ((It.words (l.getD i.toNat i0)).getD
 j.toNat w0)) i (wrap .i64 (j+1))else none)))else none)else none)else(bif decide (0<=i)&&decide (i<(↑l.length:Int))then(bif !It.block (l.getD i.toNat i0)
 then(bif decide (ByteArray.size b+ByteArray.size (⟨#[59,10]⟩)<=9223372036854775807)then L39 c fm l d bl g m (b++⟨#[59,10]⟩) (wrap .i64 (i+1))else none)else
 (bif decide (ByteArray.size b+ByteArray.size (⟨#[32,123,10]⟩)<=9223372036854775807)then(bif decide (0<=i)&&decide (i<(↑l.length:Int))then(bif c (A6 (l.getD i.toNat
 i0)) (wrap .i64 (d+1))then(bif decide (ByteArray.size (b++⟨#[(32:UInt8),123,10]⟩)+ByteArray.size (fm (A6 (l.getD i.toNat i0)) (wrap .i64 (d+1)))<=
 9223372036854775807)then(bif decide (ByteArray.size (b++ByteArray.mk #[32,123,10]++fm (A6 (l.getD i.toNat i0)) (wrap .i64 (d+1)))+ByteArray.size bl<=
 9223372036854775807)then(bif decide (ByteArray.size (b++ByteArray.mk #[32,123,10]++fm (A6 (l.getD i.toNat i0)) (wrap .i64 (d+1))++bl)+ByteArray.size (⟨#[125,
 10]⟩)<=9223372036854775807)then L39 c fm l d bl g m (b++ByteArray.mk #[32,123,10]++fm (A6 (l.getD i.toNat i0)) (wrap .i64 (d+1))++bl++⟨#[125,10]⟩)
 (wrap .i64 (i+1))else none)else none)else none)else none)else none)else none))else none))else none):=by kernel_rfl
def o19(ck:D ->Int)(okc:D ->Bool)(c:D ->Int ->Bool)(fm:D ->Int ->BA):Orc:=Orc.cons 96 (ans1 okc fun x=>vI (ck x)) (o39 c fm)
theorem ev19(ck:D ->Int)(okc:D ->Bool)(c:D ->Int ->Bool)(fm:D ->Int ->BA)(l:List It):Ai prog (o19 ck okc c fm) na 1 f37 (Ac f37) [aI l] []=
 (bif okc (Bf l)then(bif ck (Bf l) !=0 then some (T.leaf (.c (.d (.v (.string (⟨#[]⟩)))),[]))else(bif c (Bf l) 0 then some (T.leaf (.c (.d (.v (.string (fm (Bf l) 0)))),
 []))else none))else none):=by kernel_rfl
end Go.Y.fo
namespace Go.Y.fo
open Go.RowKit Go.Eb
open Go.Y.wd hiding wrap_id
open Go.Y.bu (src)
open Go.Y.ck (chP Mf chk Dd cws cwd)
abbrev sp1:BA:=ByteArray.mk #[32]
abbrev sp2:BA:=ByteArray.mk #[32,32]
abbrev sc:BA:=ByteArray.mk #[59,10]
abbrev ob:BA:=ByteArray.mk #[32,123,10]
abbrev cb:BA:=ByteArray.mk #[125,10]
theorem Mz(b:BA):ByteArray.empty++b=b:=by simp
theorem Anp(b:BA):b++ByteArray.empty=b:=by simp
theorem D0(a b c:BA):a++b++c=a++(b++c):=by simp[ByteArray.append_assoc]
theorem Al(a b:BA):(a++b).size=a.size+b.size:=ByteArray.size_append
def wtx:Bool ->List Wd ->BA
 |_,[]=> .empty|s,w::r=>(bif s then sp1 else .empty)++(src w++wtx true r)
def fmt(ind:BA):List It ->BA
 |[]=> .empty| .mk _ w b k::r=>ind++(wtx false w++((bif b then ob++(fmt (ind++sp2) k++(ind++cb))else sc)++fmt ind r))
def tl(ind:BA)(x:It):BA:=bif x.block then ob++(fmt (ind++sp2) x.kids++(ind++cb))else sc
theorem E5(ind:BA)(x:It)(r:List It):fmt ind (x::r)=ind++(wtx false x.words++(tl ind x++fmt ind r)):=by
 cases x;simp only[fmt,tl,It.words,It.block,It.kids]
theorem K3(ind:BA):fmt ind []= .empty:=by simp only[fmt]
def tot:List It ->Nat
 |[]=>0| .mk _ _ _ k::r=>1+tot k+tot r
theorem Zy(x:It)(r:List It):tot (x::r)=1+tot x.kids+tot r:=by cases x;simp only[tot,It.kids]
def sml:List It ->Bool
 |[]=>true| .mk _ w _ k::r=>decide (w.length<=40)&&w.all (fun x=>decide (x.text.size<=120))&&sml k&&sml r
theorem Aak(x:It)(r:List It):sml (x::r)=(decide (x.words.length<=40)&&x.words.all (fun x=>decide (x.text.size<=120))&&sml x.kids&&sml r):=by cases x;simp only[sml,It.kids,It.words];rfl
theorem Qa(x:It)(r:List It):dep (x::r)=max (dep x.kids+1) (dep r):=by cases x;simp only[dep,It.kids]
theorem Agd: ∀(l:List Wd),cws l=0 ->l.all (fun x=>decide (x.text.size<=120))=true
 |[],_=>rfl|w::r,h=>by
  simp only[cws]at h;cases hc:(cwd w !=0)with
  |true=>rw[hc]at h;simp only[za]at h;rw[h]at hc;simp at hc|false=>
   rw[hc]at h;have hw:cwd w=0:=by simpa using hc
   have ih:=Agd r h;simp only[List.all_cons,ih,Bool.and_true];unfold cwd at hw;cases hd:decide ((w.text.size:Int)>120)with
   |true=>rw[hd]at hw;simp at hw|false=>simp at hd;simp;omega
theorem Acz(x:It)(h:Dd x=0):x.words.length<=40/\x.words.all (fun x=>decide (x.text.size<=120))=true:=by
 unfold Dd at h;cases h1:((x.words.length:Int)==0)with
 |true=>rw[h1]at h;simp at h|false=>
  rw[h1]at h;cases h2:(!ck.opn (x.words.getD 0 w0))with
  |true=>rw[h2]at h;simp at h|false=>
   rw[h2]at h;cases h3:decide ((x.words.length:Int)>40)with
   |true=>rw[h3]at h;simp at h|false=>
    rw[h3]at h;simp only[zb]at h;cases h4:(cws x.words !=0)with
    |true=>rw[h4]at h;simp only[za]at h;rw[h]at h4;simp at h4|false=>exact⟨by simp at h3;omega,Agd _ (by simpa using h4)⟩
theorem Age(N:Nat): ∀(l:List It) (d n:Int),dep l<N ->0<=d ->d<=5 ->0<=n ->n<=600 ->(chP l d n).1=0 ->sml l=true/\(chP l d n).2=n+tot l/\n+tot l<=600/\(dep l:Int)+d<=5:=by
 induction N with
 |zero=>intro l d n h;omega|succ N ih=>
  intro l;induction l with
  |nil=>intro d n _ h0 h1 h2 h3 _;simp only[chP,sml,tot,dep];exact⟨trivial,by omega,by omega,by omega⟩|cons x r ihr=>
   intro d n hd h0 h1 h2 h3 he;have hdk:dep x.kids<N:=by rw[Qa]at hd;omega
   have hdr:dep r<N+1:=by rw[Qa]at hd;omega
   rw[Mf]at he⊢;have hw:wrap IntKind.i64 (n+1)=n+1:=wrap_id;have hw2:wrap IntKind.i64 (d+1)=d+1:=wrap_id;rw[hw,hw2]at he⊢;cases h6:decide (n+1>600)with
   |true=>rw[h6]at he;simp at he|false=>
    rw[h6]at he;have hlt:n+1<=600:=by simpa using h6
    cases h7:decide (d>4)with
    |true=>rw[h7]at he;simp at he|false=>
     rw[h7]at he;have hd4:d<=4:=by simpa using h7
     cases hc:(Dd x !=0)with
     |true=>rw[hc]at he;simp only[zb,za]at he;rw[he]at hc;simp at hc|false=>
      rw[hc]at he;simp only[zb]at he⊢;cases hk:((chP x.kids (d+1) (n+1)).1 !=0)with
      |true=>rw[hk]at he;simp only[za]at he;rw[he]at hk;simp at hk|false=>
       rw[hk]at he;simp only[zb]at he⊢;obtain⟨a1,a2,a3,a4⟩:=ih x.kids (d+1) (n+1) hdk (by omega) (by omega) (by omega) hlt (by simpa using hk);rw[a2]at he⊢;obtain⟨b1,b2,b3,b4⟩:=ihr d (n+1+tot x.kids) hdr h0 h1 (by omega) a3 he;obtain⟨c1,c2⟩:=Acz x (by simpa using hc);rw[b2,Aak,Zy,Qa];refine⟨by rw[zk c1,c2,a1,b1];rfl,by omega,by omega,by omega⟩
theorem AhG(w:Wd)(h:w.text.size<=120):(src w).size<=122:=by
 unfold bu.src;have e:ByteArray.size (ByteArray.mk #[(34:UInt8)])=1:=rfl;cases w.q
 ·simp only[zb];omega
 ·simp only[za,Al,e];omega
theorem Zw: ∀(l:List Wd) (s:Bool),l.all (fun x=>decide (x.text.size<=120))=true ->(wtx s l).size<=l.length*123
 |[],s,_=>by simp[wtx]|w::r,s,h=>by
  simp only[List.all_cons,zd,zi]at h;have ih:=Zw r true h.2;have h1:=AhG w h.1;have h2:(bif s then sp1 else ByteArray.empty).size<=1:=by cases s<;>decide
  simp only[wtx,Al,List.length_cons];omega
theorem Ais(N:Nat): ∀(l:List It) (ind:BA),dep l<N ->sml l=true ->ind.size+2*dep l<=20 ->(fmt ind l).size<=tot l*5000:=by
 induction N with
 |zero=>intro l ind h;omega|succ N ih=>
  intro l;induction l with
  |nil=>intro ind _ _ _;simp[K3,tot]|cons x r ihr=>
   intro ind hd hs hi;rw[Qa]at hd hi;rw[Aak]at hs;simp only[zd,zi]at hs;have⟨⟨⟨s1,s2⟩,s3⟩,s4⟩:=hs;have h1:=ihr ind (by omega) s4 (by omega);have e2:(ind++sp2).size=ind.size+2:=by rw[Al];rfl
   have h2:=ih x.kids (ind++sp2) (by omega) s3 (by rw[e2];omega);have h3:=Zw x.words false s2;have h4:(tl ind x).size<=3+(fmt (ind++sp2) x.kids).size+ind.size+2:=by
    unfold tl;have e3:ob.size=3:=rfl;have e4:cb.size=2:=rfl;have e5:sc.size=2:=rfl;cases x.block
    ·simp only[zb,e5];omega
    ·simp only[za,Al,e3,e4];omega
   rw[E5,Zy];simp only[Al];omega
theorem Qb(l:List It)(h:chk l=0):(fmt .empty l).size<=3000000:=by
 obtain⟨h1,_,h3,h4⟩:=Age (dep l+1) l 0 0 (by omega) (by omega) (by omega) (by omega) (by omega) h;have:=Ais (dep l+1) l .empty (by omega) h1 (by have:ByteArray.empty.size=0:=rfl;omega);omega
theorem Ana(l:List It)(h:chk l=0):dep l<=5:=by
 obtain⟨h1,_,h3,h4⟩:=Age (dep l+1) l 0 0 (by omega) (by omega) (by omega) (by omega) (by omega) h;omega
theorem AmE(ind:BA)(x:It)(r:List It):0<(fmt ind (x::r)).size:=by
 have:0<(tl ind x).size:=by
  unfold tl;cases x.block
  ·simp only[zb];decide
  ·simp only[za,Al];have e3:ob.size=3:=rfl;omega
 rw[E5];simp only[Al];omega
end Go.Y.fo
namespace Go.Y.fo
open Go.RowKit Go.Eb
open Go.Y.wd hiding wrap_id
open Go.Y.bu (src rS rE)
open Go.Y.ck (Cq)
def cF(N:Nat)(x:D)(ind:BA)(n m:Nat)(f:RD):Bool:=okI x&&okL (theI x)&&decide (dep (theI x)<N)&&Nat.beq m n&&Dk n f&&decide (n+(fmt ind (theI x)).size<=bMax)
def cwF(w:Wd):Bool:=decide (w.text.size+2<=9223372036854775807)
def Z0(N:Nat):FP:=⟨bg,cF N,fun x=>(theI x).isEmpty,fun x ind b=>b++fmt ind (theI x),src,cwF⟩
theorem zG(N:Nat):(Z0 N).G=bg:=rfl
theorem zc(N:Nat):(Z0 N).c=cF N:=rfl
theorem ze(N:Nat)(x:D):(Z0 N).emp x=(theI x).isEmpty:=rfl
theorem zf(N:Nat)(x:D)(ind b:BA):(Z0 N).fm x ind b=b++fmt ind (theI x):=rfl
theorem zs(N:Nat):(Z0 N).sr=bu.src:=rfl
theorem zw(N:Nat):(Z0 N).cw=cwF:=rfl
theorem ga(a b:BA):bg.ap a b=a++b:=rfl
theorem t1(X:Bool):(Nat.beq (172:TypeId) (172:TypeId)&&Nat.beq (5:TypeId) (5:TypeId)&&X)=X:=rfl
theorem t0(X:Bool):(true&&Nat.beq (172:TypeId) (172:TypeId)&&X)=X:=rfl
theorem b32':ByteArray.mk #[Nat.toUInt8 (Int.toNat (32:Int))]=sp1:=rfl
theorem weta(w:Wd):Wd.mk (Wd.text w) (Wd.q w)=w:=rfl
theorem Apk{N:Nat}{x:It}{ind b:BA}(h1:okL x.kids=true)(h2:dep x.kids<N)(h3:b.size+(fmt ind x.kids).size<=bMax):cF N (A6 x) ind (bg.sz b) (bg.sz b) (bg.fn b)=true:=by
 unfold cF;rw[Py,Fb,h1,zk h2];have e1:Dk (bg.sz b) (bg.fn b)=true:=M9 b;have e2:Nat.beq (bg.sz b) (bg.sz b)=true:=by rw[beqD];simp
 rw[e1,e2,zk (show bg.sz b+(fmt ind x.kids).size<=bMax from h3)];rfl
theorem gt0(k:Nat):decide (((k+1:Nat):Int)>0)=true:=zk
theorem gt00:decide (((0:Nat):Int)>0)=false:=by simp
def wmax:List It ->Nat
 |[]=>0|x::r=>max x.words.length (wmax r)
theorem J3: ∀(l:List It) (i:Nat),i<l.length ->(l.getD i i0).words.length<=wmax l
 |[],i,h=>by simp at h|x::r,0,_=>by simp only[List.getD_cons_zero,wmax];omega|x::r,i+1,h=>by
  have:=J3 r i (by simpa using h);simp only[List.getD_cons_succ,wmax];omega
theorem AjK(w:Wd):w.text.size<=(src w).size:=by
 unfold bu.src;cases w.q
 ·simp only[zb];omega
 ·simp only[za,Al];omega
theorem Agr:bMax<=140737488355328:=Nat.le_refl _
theorem inA(N:Nat)(l:List It)(ind:BA)(x:It)(g m i:Nat)(hi:i<l.length)(hl:l.length<=9223372036854775807)(hw:okWs x.words=true)(hk:okL x.kids=true)(hd:dep x.kids<N)(hind:ind.size<=bMax):
  ∀(m1 j:Nat) (b:BA),j<=x.words.length ->x.words.length -j<m1 ->b.size+(wtx (decide ((j:Int)>0)) (x.words.drop j)).size+(tl ind x).size<=bMax ->
   IA (Z0 N) l ind x g m m1 b i j=LA (Z0 N) l ind g m (b++(wtx (decide ((j:Int)>0)) (x.words.drop j)++tl ind x)) ((i+1:Nat):Int)
 |0,j,b,_,h,_=>by omega|m1+1,j,b,hj,h,hb=>by
  have hM:=Agr;rw[siA];simp only[zG,zc,ze,zf,zs,zw,AcC,ga,t1,b32',weta,tn];by_cases hlt:j<x.words.length
  ·rw[Cq x.words w0 hlt]at hb⊢;generalize hwd:x.words.getD j w0=w at hb⊢;simp only[wtx,Al]at hb;have hsrc:=AjK w;have hcw:cwF w=true:=zk;simp only[lt1 hlt,ge0,Bool.and_self,za];rw[nx hlt (Lm hw)];cases j with
   |zero=>
    simp only[gt00,zb]at hb⊢;have e0:ByteArray.empty.size=0:=rfl;rw[hcw,Hm b (src w) (by omega),za,za];have ih:=inA N l ind x g m i hi hl hw hk hd hind m1 1 (b++src w) (by omega) (by omega);have g1:decide (((1:Nat):Int)>0)=true:=by simp
    rw[g1]at ih;have ih:=ih (by simp only[Al];simp only[e0,Nat.zero_add]at hb;omega);rw[show((0+1:Nat))=1 from rfl,ih];simp only[wtx,zb,Mz,D0]
   |succ j=>
    simp only[gt0,za]at hb⊢;have e1:sp1.size=1:=rfl;rw[hcw,Hm b sp1 (by omega),Hm (b++sp1) (src w) (by rw[Al];omega),za,za,za];have ih:=inA N l ind x g m i hi hl hw hk hd hind m1 (j+1+1) (b++sp1++src w) (by omega) (by omega);rw[gt0]at ih;rw[ih (by simp only[Al];omega)];simp only[wtx,za,D0]
  ·rw[zl]at hb⊢;have e0:ByteArray.empty.size=0:=rfl;simp only[wtx,e0]at hb;simp only[lt0 hlt,zb,wtx,Mz];rw[nx hi hl];unfold tl at hb⊢;cases hbl:x.block with
   |false=>
    rw[hbl]at hb;simp only[zb]at hb⊢;rw[Hm b sc (by omega)];rfl
   |true=>
    rw[hbl]at hb;simp only[za,Al]at hb⊢;have e3:ob.size=3:=rfl;have e4:cb.size=2:=rfl;have e5:sp2.size=2:=rfl;simp only[Bool.not_true,zb]
    rw[Hm b ob (by omega),za,zk (show ind.size+sp2.size<=9223372036854775807 by omega),za,Apk (ind:=ind++sp2) (b:=b++ob) hk hd (by simp only[Al];omega),za,
     zk (show ind.size+cb.size<=9223372036854775807 by omega),za,za]
    simp only[Fb];cases hke:x.kids with
    |nil=>
     simp only[List.isEmpty_nil,za,K3,Mz];rw[Hm (b++ob) (ind++cb) (by simp only[Al];omega),za,D0]
    |cons y r=>
     rw[hke]at hb;simp only[List.isEmpty_cons,zb];rw[Hm (b++ob++fmt (ind++sp2) (y::r)) (ind++cb) (by simp only[Al];omega),za];simp only[D0]
theorem lpA(N:Nat)(l:List It)(ind:BA)(g:Nat)(hN:dep l<=N)(hL:okL l=true)(hg:wmax l<g)(hind:ind.size<=bMax): ∀(m k:Nat) (b:BA),k<=l.length ->l.length -k<m ->b.size+(fmt ind (l.drop k)).size<=bMax ->
  LA (Z0 N) l ind g m b k=some (.leaf (.tup [],HA bg (b++fmt ind (l.drop k))))
 |0,k,b,_,h,_=>by omega|m+1,k,b,hk,h,hb=>by
  rw[stA];simp only[zG,AcC,ga,t1,tn];by_cases hlt:k<l.length
  ·rw[Cq l i0 hlt,E5]at hb⊢;simp only[Al]at hb;simp only[lt1 hlt,ge0,Bool.and_self,za];rw[Hm b ind (by omega),za];obtain⟨h1,h2⟩:=Kx hL hlt;have hin:=inA N l ind (l.getD k i0) g m k hlt (Kw hL) h2 h1 (by have:=Jm l k hlt;omega) hind g 0 (b++ind) (by omega) (by have:=J3 l k hlt;omega);simp only[gt00,zq]at hin;have hin:=hin (by simp only[Al];omega);have hin':IA (Z0 N) l ind (l.getD k i0) g m g (b++ind) (k:Int) 0=_:=hin;rw[hin',lpA N l ind g hN hL hg hind m (k+1) _ (by omega) (by omega) (by simp only[Al];omega)];simp only[D0]
  ·rw[lt0 hlt,zl,K3,Anp];rfl
theorem topA(N:Nat)(l:List It)(g:Nat)(hN:dep l<=N)(hL:okL l=true)(hg:wmax l+l.length<g)(hb:(fmt .empty l).size<=bMax):
  FA (Z0 N) l .empty g g 0=some (.leaf (.tup [],bif l.isEmpty then HA0 else HA bg (fmt .empty l))):=by
 obtain⟨m,rfl⟩: ∃m,g=m+1:=⟨g -1,by omega⟩;rw[sfA];simp only[zG,t0];cases l with
 |nil=>rfl|cons x r=>
  have hlt:0<(x::r).length:=by simp
  have e1:decide ((0:Int)<(((x::r).length:Nat):Int))=true:=zk;rw[e1];have e2:bg.ok 0 0 (fun _=>[]) ByteArray.empty=true:=by decide
  rw[e2];obtain⟨h1,h2⟩:=Kx hL hlt;have e0:ByteArray.empty.size=0:=rfl;rw[E5]at hb;simp only[Al]at hb;have hin:=inA N (x::r) .empty ((x::r).getD 0 i0) (m+1) m 0 hlt (Kw hL) h2 h1 (by have:=Jm (x::r) 0 hlt;omega) (by rw[e0];exact Nat.zero_le _) (m+1) 0 .empty (by omega) (by have:=J3 (x::r) 0 hlt;omega);simp only[gt00,zq,List.getD_cons_zero]at hin;have hin:=hin (by omega);have hin':IA (Z0 N) (x::r) .empty x (m+1) m (m+1) .empty 0 0=_:=hin;have hlp:=lpA N (x::r) .empty (m+1) hN hL (by omega) (by rw[e0];exact Nat.zero_le _) m 1 (.empty++(wtx false x.words++tl .empty x)) (by simp) (by simp only[List.length_cons]at hg⊢;omega) (by simp only[Al,List.drop_succ_cons,zq];omega);have e3:List.getD (x::r) (Int.toNat 0) i0=x:=rfl;simp only[Bool.and_self,za,show decide ((0:Int)<=0)=true from rfl,e3];rw[hin'];have e4:((0+1:Nat):Int)=((1:Nat):Int):=rfl;rw[e4,hlp];simp only[List.drop_succ_cons,zq,List.isEmpty_cons,zb,E5,Mz,D0]
theorem inC(N:Nat)(l:List It)(ind:BA)(x:It)(g m i:Nat)(hi:i<l.length)(hl:l.length<=9223372036854775807)(hw:okWs x.words=true)(hk:okL x.kids=true)(hd:dep x.kids<N)(hind:ind.size<=bMax):
  ∀(m1 j:Nat) (b:BA),j<=x.words.length ->x.words.length -j<m1 ->b.size+(wtx (decide ((j:Int)>0)) (x.words.drop j)).size+(tl ind x).size<=bMax ->
   IC (Z0 N) l ind x g m m1 b i j=LC (Z0 N) l ind g m (b++(wtx (decide ((j:Int)>0)) (x.words.drop j)++tl ind x)) ((i+1:Nat):Int)
 |0,j,b,_,h,_=>by omega|m1+1,j,b,hj,h,hb=>by
  have hM:=Agr;rw[siC];simp only[zG,zc,ze,zf,zs,zw,AcC,ga,t1,b32',weta,tn];by_cases hlt:j<x.words.length
  ·rw[Cq x.words w0 hlt]at hb⊢;generalize hwd:x.words.getD j w0=w at hb⊢;simp only[wtx,Al]at hb;have hsrc:=AjK w;have hcw:cwF w=true:=zk;simp only[lt1 hlt,ge0,Bool.and_self,za];rw[nx hlt (Lm hw)];cases j with
   |zero=>
    simp only[gt00,zb]at hb⊢;have e0:ByteArray.empty.size=0:=rfl;rw[hcw,Hm b (src w) (by omega),za,za];have ih:=inC N l ind x g m i hi hl hw hk hd hind m1 1 (b++src w) (by omega) (by omega);have g1:decide (((1:Nat):Int)>0)=true:=by simp
    rw[g1]at ih;have ih:=ih (by simp only[Al];simp only[e0,Nat.zero_add]at hb;omega);rw[show((0+1:Nat))=1 from rfl,ih];simp only[wtx,zb,Mz,D0]
   |succ j=>
    simp only[gt0,za]at hb⊢;have e1:sp1.size=1:=rfl;rw[hcw,Hm b sp1 (by omega),Hm (b++sp1) (src w) (by rw[Al];omega),za,za,za];have ih:=inC N l ind x g m i hi hl hw hk hd hind m1 (j+1+1) (b++sp1++src w) (by omega) (by omega);rw[gt0]at ih;rw[ih (by simp only[Al];omega)];simp only[wtx,za,D0]
  ·rw[zl]at hb⊢;have e0:ByteArray.empty.size=0:=rfl;simp only[wtx,e0]at hb;simp only[lt0 hlt,zb,wtx,Mz];rw[nx hi hl];unfold tl at hb⊢;cases hbl:x.block with
   |false=>
    rw[hbl]at hb;simp only[zb]at hb⊢;rw[Hm b sc (by omega)];rfl
   |true=>
    rw[hbl]at hb;simp only[za,Al]at hb⊢;have e3:ob.size=3:=rfl;have e4:cb.size=2:=rfl;have e5:sp2.size=2:=rfl;simp only[Bool.not_true,zb]
    rw[Hm b ob (by omega),za,zk (show ind.size+sp2.size<=9223372036854775807 by omega),za,Apk (ind:=ind++sp2) (b:=b++ob) hk hd (by simp only[Al];omega),za,
     zk (show ind.size+cb.size<=9223372036854775807 by omega),za,za]
    simp only[Fb];cases hke:x.kids with
    |nil=>
     simp only[List.isEmpty_nil,za,K3,Mz];rw[Hm (b++ob) (ind++cb) (by simp only[Al];omega),za,D0]
    |cons y r=>
     rw[hke]at hb;simp only[List.isEmpty_cons,zb];rw[Hm (b++ob++fmt (ind++sp2) (y::r)) (ind++cb) (by simp only[Al];omega),za];simp only[D0]
theorem lpC(N:Nat)(l:List It)(ind:BA)(g:Nat)(hN:dep l<=N)(hL:okL l=true)(hg:wmax l<g)(hind:ind.size<=bMax): ∀(m k:Nat) (b:BA),k<=l.length ->l.length -k<m ->b.size+(fmt ind (l.drop k)).size<=bMax ->
  LC (Z0 N) l ind g m b k=some (.leaf (.tup [],HC bg (b++fmt ind (l.drop k))))
 |0,k,b,_,h,_=>by omega|m+1,k,b,hk,h,hb=>by
  rw[stC];simp only[zG,AcC,ga,t1,tn];by_cases hlt:k<l.length
  ·rw[Cq l i0 hlt,E5]at hb⊢;simp only[Al]at hb;simp only[lt1 hlt,ge0,Bool.and_self,za];rw[Hm b ind (by omega),za];obtain⟨h1,h2⟩:=Kx hL hlt;have hin:=inC N l ind (l.getD k i0) g m k hlt (Kw hL) h2 h1 (by have:=Jm l k hlt;omega) hind g 0 (b++ind) (by omega) (by have:=J3 l k hlt;omega);simp only[gt00,zq]at hin;have hin:=hin (by simp only[Al];omega);have hin':IC (Z0 N) l ind (l.getD k i0) g m g (b++ind) (k:Int) 0=_:=hin;rw[hin',lpC N l ind g hN hL hg hind m (k+1) _ (by omega) (by omega) (by simp only[Al];omega)];simp only[D0]
  ·rw[lt0 hlt,zl,K3,Anp];rfl
theorem topC(N:Nat)(l:List It)(ind b:BA)(g:Nat)(hN:dep l<=N)(hL:okL l=true)(hg:wmax l+l.length<g)(hb:b.size+(fmt ind l).size<=bMax):
  FC (Z0 N) l ind g g b 0=some (.leaf (.tup [],bif l.isEmpty then HC0 bg b else HC bg (b++fmt ind l))):=by
 obtain⟨m,rfl⟩: ∃m,g=m+1:=⟨g -1,by omega⟩;rw[sfC];simp only[zG,AcC,ga,t1];cases l with
 |nil=>rfl|cons x r=>
  have hlt:0<(x::r).length:=by simp
  have e1:decide ((0:Int)<(((x::r).length:Nat):Int))=true:=zk;rw[e1];obtain⟨h1,h2⟩:=Kx hL hlt;rw[E5]at hb;simp only[Al]at hb;rw[Hm b ind (by omega)];have hin:=inC N (x::r) ind ((x::r).getD 0 i0) (m+1) m 0 hlt (Kw hL) h2 h1 (by have:=Jm (x::r) 0 hlt;omega) (by omega) (m+1) 0 (b++ind) (by omega) (by have:=J3 (x::r) 0 hlt;omega);simp only[gt00,zq,List.getD_cons_zero]at hin;have hin:=hin (by simp only[Al];omega);have hin':IC (Z0 N) (x::r) ind x (m+1) m (m+1) (b++ind) 0 0=_:=hin;have hlp:=lpC N (x::r) ind (m+1) hN hL (by omega) (by omega) m 1 (b++ind++(wtx false x.words++tl ind x)) (by simp) (by simp only[List.length_cons]at hg⊢;omega) (by simp only[Al,List.drop_succ_cons,zq];omega);have e3:List.getD (x::r) (Int.toNat 0) i0=x:=rfl;simp only[Bool.and_self,za,show decide ((0:Int)<=0)=true from rfl,e3];rw[hin'];have e4:((0+1:Nat):Int)=((1:Nat):Int):=rfl;rw[e4,hlp];simp only[List.drop_succ_cons,zq,List.isEmpty_cons,zb,E5,D0]
theorem Ajd{N:Nat}(hc: ∀(l:List It) (ind b:BA),dep l<N ->okL l=true ->b.size+(fmt ind l).size<=bMax ->CX prog 82 [aI l,vS ind, .c (.ptr 0 0), .c (.ptr 2 0)] (HC0 bg b) (.tup []) (bif l.isEmpty then HC0 bg b else HC bg (b++fmt ind l))):
  ∀(R:Type) args H (k:AV ->Hp ->Option (T R)) t,Ans (Z0 N) R args H k=some t -> ∃x H',k x H'=some t/\CX prog 82 args H x H':=fun R args H k t h=>by
 unfold Ans at h;split at h
 ·rename_i x ind n m f;simp only[zc,ze,zf,zG]at h;cases hcc:cF N x ind n m f with
  |false=>rw[hcc]at h;cases h|true=>
   rw[hcc]at h;simp only[za]at h;unfold cF at hcc;simp only[zd,zi]at hcc;have⟨⟨⟨⟨⟨q1,q2⟩,q3⟩,q4⟩,q5⟩,q6⟩:=hcc;have q4:=zg q4;subst q4;have key:=hc (theI x) ind (C5 m f) q3 q2 (by rw[B6];exact q6);have hle:Hle [(0, .cells [.ptr 0 0, .row 1 1 m] 172),(1, .row m f 1 5),W2] (HC0 bg (C5 m f)):= .cons (by show Ble _ (.cells [.ptr 0 0, .row 1 1 (C5 m f).size] 172);rw[B6];exact .refl _) (.cons (AdW q5 _) (.refl _));have key:=key.ge (.cons (Pt (Hv q1)) (.refl _)) hle;cases he:(theI x).isEmpty with
   |true=>
    rw[he]at h key;exact⟨_,_,h,key⟩
   |false=>
    rw[he]at h key;exact⟨_,_,h,key⟩
 ·simp at h
theorem b31:f82.body=some (Ac f82):=by kernel_rfl
theorem b15:f34.body=some (Ac f34):=by kernel_rfl
theorem Xf{x:AV}{s:BA}(h:argS x=some s):x=vS s:=by
 unfold argS at h;split at h
 ·cases h;rfl
 ·cases h
theorem Agu{x:AV}{s:BA}(h:arg8 x=some s): ∃c:UInt8,x=v8 c.toNat/\s=⟨#[c]⟩:=by
 unfold arg8 at h;split at h
 ·obtain⟨c,e1,e2⟩:=AcA h;exact⟨c,by rw[e1],e2⟩
 ·cases h
theorem AjX{N:Nat}(hc: ∀(l:List It) (ind b:BA),dep l<N ->okL l=true ->b.size+(fmt ind l).size<=bMax ->CX prog 82 [aI l,vS ind, .c (.ptr 0 0), .c (.ptr 2 0)] (HC0 bg b) (.tup []) (bif l.isEmpty then HC0 bg b else HC bg (b++fmt ind l))):B4 prog (o31 (Z0 N)):=
 Orc.cons_ok (Orc.cons_ok (Orc.cons_ok (Orc.cons_ok (Orc.nil_ok _) (Ajd hc)) (Va ck.decWd_ok fun w h => bu.c34 w (by unfold Z0 cwF at h;simpa using h)))
  (Abi (fun h => by cases h) fun x s b hx hs=>by
    obtain⟨c,rfl,rfl⟩:=Agu hx;exact bu.c33b c b hs))
  (Abi (fun _ x s hx hs=>by rw[Xf hx];exact bu.c32a s hs) fun x s b hx hs=>by rw[Xf hx];exact bu.c32b s b hs)
theorem c31C: ∀(N:Nat) (l:List It) (ind b:BA),dep l<N ->okL l=true ->b.size+(fmt ind l).size<=bMax ->CX prog 82 [aI l,vS ind, .c (.ptr 0 0), .c (.ptr 2 0)] (HC0 bg b) (.tup []) (bif l.isEmpty then HC0 bg b else HC bg (b++fmt ind l))
 |0,l,ind,b,h,_,_=>by omega|N+1,l,ind,b,h,hL,hb=>by
  refine Am (AjX (c31C N)) func82 b31 rfl ((evC (Z0 N) l ind (wmax l+l.length+1) b).trans ?_);exact topC N l ind b (wmax l+l.length+1) (by omega) hL (by omega) hb
theorem c31A(l:List It)(hL:okL l=true)(hb:(fmt .empty l).size<=bMax):CX prog 82 [aI l,vS .empty, .c (.ptr 0 0), .c (.ptr 1 0)] HA0 (.tup []) (bif l.isEmpty then HA0 else HA bg (fmt .empty l)):=by
 refine Am (AjX (c31C (dep l))) func82 b31 rfl ((evA (Z0 (dep l)) l .empty (wmax l+l.length+1)).trans ?_);exact topA (dep l) l (wmax l+l.length+1) (Nat.le_refl _) hL (by omega) hb
def c0F(x:D):Bool:=okI x&&okL (theI x)&&decide ((fmt .empty (theI x)).size<=bMax)
def okF(x:D):Bool:=okI x&&okL (theI x)
def ckF(x:D):Int:=ck.chk (theI x)
theorem Aiz{b:BA}(h:Nat.beq b.size 0=true):b= .empty:=by
 have:=zg h;cases b with
 |mk a=>congr 1;exact Array.eq_empty_of_size_eq_zero this
theorem AgB: ∀(R:Type) args H (k:AV ->Hp ->Option (T R)) t,AgC (Z0 0) c0F R args H k=some t -> ∃x H',k x H'=some t/\CX prog 82 args H x H':=fun R args H k t h=>by
 unfold AgC at h;split at h
 ·rename_i x ind;simp only[ze,zf,zG]at h;cases hcc:(Nat.beq ind.size 0&&c0F x)with
  |false=>rw[hcc]at h;cases h|true=>
   rw[hcc]at h;simp only[za]at h;simp only[zd]at hcc;have e:=Aiz hcc.1;subst e;have hc:=hcc.2;unfold c0F at hc;simp only[zd,zi]at hc;have key:=(c31A (theI x) hc.1.2 hc.2).ge (.cons (Pt (Hv hc.1.1)) (.refl _)) (.refl _);rw[Mz]at h;cases he:(theI x).isEmpty with
   |true=>rw[he]at h key;exact⟨_,_,h,key⟩|false=>rw[he]at h key;exact⟨_,_,h,key⟩
 ·simp at h
def fmtK(l:List It):BA:=bif ck.chk l !=0 then .empty else fmt .empty l
theorem Akr{f:FuncId}(hc: ∀l,okL l=true ->CX prog f [aI l] [] (vI (ck.chk l)) []): ∀x,okF x=true ->CX prog f [.c (.d x)] [] (vI (ckF x)) []:=fun x hx=>by
 unfold okF at hx;simp only[zd]at hx;exact(hc (theI x) hx.2).ge (ArH (Hv hx.1)) (.refl _)
theorem Aoi:B4 prog (o15 (Z0 0) ckF okF c0F):=
 Orc.cons_ok (Orc.cons_ok (Orc.cons_ok (Orc.nil_ok _) (AiZ bu.c35a bu.c35b)) AgB) (AgD (Akr ck.c16))
theorem c15(l:List It)(hL:okL l=true):CX prog 34 [aI l] [] (vS (fmtK l)) []:=by
 refine Am Aoi func34 b15 rfl ((ev15 (Z0 0) ckF okF c0F l).trans ?_);have e1:okF (Bf l)=true:=by unfold okF;rw[Gj,C3,hL];rfl
 rw[e1];unfold fmtK ckF;simp only[C3,za,ze,zf,zG,AcC,t1,Mz];cases hc:(ck.chk l !=0)with
 |true=>rfl|false=>
  have hs:=Qb l (by simpa using hc);have e2:c0F (Bf l)=true:=by
   unfold c0F;rw[Gj,C3,hL,zk (show(fmt .empty l).size<=bMax by unfold bMax;omega)];rfl
  rw[e2];cases l with
  |nil=>simp only[List.isEmpty_nil,K3];rfl|cons x r=>
   have e3:Nat.blt 0 (bg.sz (fmt .empty (x::r)))=true:=by rw[bltD];exact zk (AmE _ _ _)
   rw[Hm (fmt .empty (x::r)) .empty (by have e0:ByteArray.empty.size=0:=rfl;unfold bMax;omega),e3];rfl
end Go.Y.fo
end
