/-
  Go code evaluated: part 3. No condition.
-/
import Derived.Test.YtbpndheehcbldaaGreatDoorQ2
import Derived.Test.YtbpndheehcbldaaGreatDoorProg
import Derived.KernelRfl
import Derived.Shelf.Strconv.Itoa3
import Derived.Ground.NamesProg
import Derived.Shelf.Slices.Clone
import Derived.Ground.Names2Prog
open Go.IntKind (wrap u32 i32)
noncomputable section
open Go.Proofs Go.Proofs.Tryz
namespace Go.Proofs.YtbpndheehcbldaaGreatDoor
end Go.Proofs.YtbpndheehcbldaaGreatDoor
open Go.Proofs.YtbpndheehcbldaaGreatDoor
namespace Go.Eb
abbrev leB(b:Bool):Option (T (AV×Hp)):=some (.leaf (.c (.d (.v (.bool b))),[]))
abbrev leI(n:Int):Option (T (AV×Hp)):=some (.leaf (.c (.d (.v (.int .i64 n))),[]))
end Go.Eb
set_option maxRecDepth 100000
namespace Go.Eb
open Go.RowKit
def Det{J O:Type}(F:(R:Type) ->(J ->O ->Option (T R)) ->Option (T R)):Prop:=
 (∀(R:Type) (k:J ->O ->Option (T R)),F R k=none)\/ ∃a b,∀(R:Type) (k:J ->O ->Option (T R)),F R k=k a b
def Hi(orc:Orc):Prop:= ∀f args H,Det fun R k=>orc R f args H k
theorem Det.no{J O:Type}{F:(R:Type) ->(J ->O ->Option (T R)) ->Option (T R)}(h: ∀(R:Type) k,F R k=none):Det F:= .inl h
theorem Det.one{J O:Type}{F:(R:Type) ->(J ->O ->Option (T R)) ->Option (T R)}(a:J)(b:O)(h: ∀(R:Type) k,F R k=k a b):Det F:= .inr ⟨a,b,h⟩
theorem Det.bif{J O:Type}{F G:(R:Type) ->(J ->O ->Option (T R)) ->Option (T R)}(c:Bool)(h:Det F)(k:Det G):Det fun R q=>bif c then F R q else G R q:=by
 cases c with
 |true=>exact h|false=>exact k
theorem Det.congr{J O:Type}{F G:(R:Type) ->(J ->O ->Option (T R)) ->Option (T R)}(h:Det F)(e: ∀(R:Type) k,G R k=F R k):Det G:=by
 rcases h with h|⟨a,b,h⟩
 ·exact .inl fun R k=>(e R k).trans (h R k)
 ·exact .inr ⟨a,b,fun R k=>(e R k).trans (h R k)⟩
theorem Det.bind{J O M V:Type}{F:(R:Type) ->(J ->O ->Option (T R)) ->Option (T R)}(h:Det F){G:J ->O ->(R:Type) ->(M ->V ->Option (T R)) ->Option (T R)}(hG: ∀a b,Det (G a b)):
  Det fun R k=>F R fun a b=>G a b R k:=by
 rcases h with h|⟨a,b,h⟩
 ·exact .inl fun R k=>h R _
 ·rcases hG a b with g|⟨c,d,g⟩
  ·exact .inl fun R k=>(h R _).trans (g R k)
  ·exact .inr ⟨c,d,fun R k=>(h R _).trans (g R k)⟩
section
variable {P:Program}{orc:Orc}
theorem Aeo(ho:Hi orc)(h0:Nat)(a:Do)(H:Hp):(∀(R:Type) k,C7 (R:=R) orc h0 a H k=none)\/ ∃x ft u,∀(R:Type) k,C7 (R:=R) orc h0 a H k=k x ft u:=by
 cases a with
 |call f args=>
  simp only[C7];cases hL:Agg H args with
  |none=>exact .inl fun R k=>rfl
  |some L=>
   rcases ho f (Qd L args) (Zg H L)with h|⟨x,Hr,h⟩
   ·exact .inl fun R k=>h R _
   ·exact .inr ⟨_,_,_,fun R k=>h R _⟩
 |next h=>
  simp only[C7];cases look H h with
  |none=>exact .inl fun R k=>rfl
  |some b=>
   cases b with
   |iter s pos=>
    cases hb:Nat.blt pos s.size with
    |true=>exact .inr ⟨_,_,_,fun R k=>by simp only[hb,za];rfl⟩
    |false=>exact .inr ⟨_,_,_,fun R k=>by simp only[hb,zb];rfl⟩
   |_=>exact .inl fun R k=>rfl
 |ustr h n e=>
  simp only[C7];cases look H h with
  |none=>exact .inl fun R k=>rfl
  |some b=>
   cases b with
   |row m f sz t=>
    cases hb:(Nat.ble n m&&Nat.beq sz 1&&Nat.beq t e&&Dk n f)with
    |true=>exact .inr ⟨_,_,_,fun R k=>by simp only[hb,za];rfl⟩
    |false=>exact .inl fun R k=>by simp only[hb,zb]
   |_=>exact .inl fun R k=>rfl
 |cstr h n=>
  simp only[C7];cases hb:Ey n (look H h)with
  |true=>exact .inr ⟨_,_,_,fun R k=>by simp only[za];rfl⟩
  |false=>exact .inl fun R k=>by simp only[zb]
 |idx h off s len n=>
  simp only[C7];cases n==0 with
  |true=>exact .inr ⟨_,_,_,fun R k=>rfl⟩
  |false=>
   cases Nat.ble 2 len&&n==1 with
   |true=>exact .inr ⟨_,_,_,fun R k=>rfl⟩
   |false=>
    cases Nat.ble 3 len&&n==2 with
    |true=>exact .inr ⟨_,_,_,fun R k=>rfl⟩
    |false=>
     cases Nat.ble 4 len&&n==3 with
     |true=>exact .inr ⟨_,_,_,fun R k=>rfl⟩
     |false=>exact .inl fun R k=>rfl
 |look h kd key ok z=>
  simp only[S2];split
  ·exact .inr ⟨_,_,_,fun R k=>rfl⟩
  ·exact .inl fun R k=>rfl
 |_=>
  all_goals
   simp only[C7]
   split
   ·exact .inr ⟨_,_,_,fun R k=>rfl⟩
   ·exact .inl fun R k=>rfl
theorem Acn(ops:Array Oper)(F:List AV)(o:Oper):(∀(R:Type) yes no,Kj (R:=R) ops F o yes no=none)\/(∃F',∀(R:Type) yes no,Kj (R:=R) ops F o yes no=yes F')\/ ∃F',∀(R:Type) yes no,Kj (R:=R) ops F o yes no=no F':=by
 unfold Kj;split
 ·exact .inr (.inl ⟨_,fun R yes no=>rfl⟩)
 ·rename_i j want _;split
  ·exact .inr (.inr ⟨_,fun R yes no=>rfl⟩)
  ·split
   ·rename_i b _;cases b<;>cases want
    ·exact .inr (.inl ⟨_,fun R yes no=>rfl⟩)
    ·exact .inr (.inr ⟨_,fun R yes no=>rfl⟩)
    ·exact .inr (.inr ⟨_,fun R yes no=>rfl⟩)
    ·exact .inr (.inl ⟨_,fun R yes no=>rfl⟩)
   ·exact .inr (.inr ⟨_,fun R yes no=>rfl⟩)
   ·exact .inl fun R yes no=>rfl
theorem Adu(ho:Hi orc)(ops:Array Oper)(i:Nat)(s:St):Det fun R k=>Ye (R:=R) P orc ops i s k:=by
 unfold Ye;simp only[Rh,Aea,Aeu,putF_eq];split
 ·exact .no fun R k=>rfl
 ·rename_i o _;rcases Acn ops s.F o with h|⟨F',h⟩|⟨F',h⟩
  ·exact .no fun R k=>h R _ _
  ·cases hr:res P o (opA F')with
   |none=>exact .no fun R k=>by rw[h];simp only[hr]
   |some p=>
    obtain⟨ok,a⟩:=p;cases ok with
    |false=>exact .no fun R k=>by rw[h];simp only[hr,zb]
    |true=>
     rcases Aeo ho (s.nm+16*i) a s.H with g|⟨x,ft,u,g⟩
     ·exact .no fun R k=>by rw[h];simp only[hr,za];exact g R _
     ·exact .one _ _ fun R k=>by rw[h];simp only[hr,za];exact g R _
  ·exact .one _ _ fun R k=>h R _ _
theorem AaA(ho:Hi orc)(ops:Array Oper): ∀(l:List Nat) (tr:List (Nat×Tx)) (s:St),Det fun R k=>opsK (R:=R) P orc ops l tr s k
 |[],tr,s=> .one tr s fun R k=>rfl
 |i::rest,tr,s=>(Adu ho ops i s).bind fun a s'=>AaA ho ops rest (tr++[(i,a)]) s'
def D1:Code ->Bool
 | .region _ ops draw=> !(draw&&F8 ops)| .seq a b=>D1 a&&D1 b| .cond _ a b=>D1 a&&D1 b| .block _ c=>D1 c| .loop c=>D1 c| .scope c=>D1 c|_=>true
theorem Qy(ho:Hi orc)(ops:Array Oper)(draw:Bool)(s:St)(hd:(draw&&F8 ops)=false):Det fun R k=>Er (R:=R) P orc ops draw s k:=by
 unfold Er;simp only[hd,zb];simp only[U0];refine(AaA ho ops _ _ s).bind fun tr s'=> ?_
 cases(!draw||(B1 ops (Ky ops.toList []) tr&&Db ops&&P.follows .mixedOrders))with
 |true=>exact .one _ _ fun R k=>rfl
 |false=>exact .no fun R k=>rfl
theorem Rd{k0:Nat}{note:Option Note}{body:(R:Type) ->St ->(Out ->St ->Option (T R)) ->Option (T R)}(hb: ∀s,Det fun R k=>body R s k): ∀(n:Nat) (s:St),Det fun R k=>E4 (R:=R) k0 note (body R) n s k
 |0,s=> .no fun R k=>rfl
 |n+1,s=>(hb s).bind (G:=fun(o:Out) (s':St) (R:Type) (k:Out ->St ->Option (T R))=>match o with
  | .norm=>(match trim k0 note s' with
   |none=>none|some s0=>E4 k0 note (body R) n s0 k)
  | .exit id=>k (.exit id) s'| .goto l=>k (.goto l) s'| .ret=>k .ret s') fun o s'=>by
   cases o with
   |norm=>
    simp only[];cases trim k0 note s' with
    |none=>exact .no fun R k=>rfl
    |some s0=>exact Rd hb n s0
   |exit id=>exact .one _ _ fun R k=>rfl
   |goto l=>exact .one _ _ fun R k=>rfl
   |ret=>exact .one _ _ fun R k=>rfl
theorem AmG(ho:Hi orc)(ann:Ann)(k0 n:Nat): ∀(c:Code),D1 c=true -> ∀(lab:Option Nat) (s:St),Det fun R k=>evK (R:=R) P orc ann k0 n c lab s k:=by
 intro c;induction c with
 |skip=>intro _ lab s;cases lab with
  |none=>exact .one _ _ fun R k=>by simp only[evK];rfl
  |some l=>exact .no fun R k=>by simp only[evK]
 |region id ops draw=>
  intro hn lab s;cases lab with
  |none=>
   have hd:(draw&&F8 ops)=false:=by simp only[D1,Bool.not_eq_true']at hn;exact hn
   simp only[evK];split
   ·exact Qy ho ops draw s hd
   ·split
    ·exact .no fun R k=>rfl
    ·rename_i s0 hs0;cases n with
     |zero=>exact .no fun R k=>by simp only[E4]
     |succ m=>
      have h:=(Qy (P:=P) ho ops draw s0 hd).bind (G:=fun(o:Out) (s':St) (R:Type) (k:Out ->St ->Option (T R))=>Wv (fun s''=>k .norm s'') o s') fun o s'=>by
       cases o with
       |norm=>exact .one _ _ fun R k=>rfl
       |_=>exact .no fun R k=>rfl
      refine h.congr fun R k=> ?_
      simp only[E4];exact congrArg _ (funext fun o=>funext fun s''=>by cases o<;>rfl)
  |some l=>exact .no fun R k=>by simp only[evK]
 |seq a b iha ihb=>
  intro hn lab s;simp only[D1,zd]at hn;have go: ∀lab',Det fun(R:Type) (k:Out ->St ->Option (T R))=>evK P orc ann k0 n a lab' s fun o s'=>match o with
   | .norm=>evK P orc ann k0 n b none s' k| .exit id=>k (.exit id) s'| .goto l=>k (.goto l) s'| .ret=>k .ret s':=fun lab'=>(iha hn.1 lab' s).bind (G:=fun(o:Out) (s':St) (R:Type) (k:Out ->St ->Option (T R))=>match o with
   | .norm=>evK P orc ann k0 n b none s' k| .exit id=>k (.exit id) s'| .goto l=>k (.goto l) s'| .ret=>k .ret s') fun o s'=>by
    cases o with
    |norm=>exact ihb hn.2 none s'|exit id=>exact .one _ _ fun R k=>rfl
    |goto l=>exact .one _ _ fun R k=>rfl
    |ret=>exact .one _ _ fun R k=>rfl
  cases lab with
  |none=>simp only[evK];exact go none|some l=>
   simp only[evK];cases Dg l a with
   |true=>exact go (some l)|false=>exact ihb hn.2 (some l) s
 |cond c x y ihx ihy=>
  intro hn lab s;simp only[D1,zd]at hn;cases lab with
  |some l=>exact .no fun R k=>by simp only[evK]
  |none=>
   simp only[evK];split
   ·rename_i b _;cases b with
    |true=>exact ihx hn.1 none s|false=>exact ihy hn.2 none s
   ·exact .no fun R k=>rfl
 |block id c ih=>
  intro hn lab s;simp only[D1]at hn;cases lab with
  |some l=>exact .no fun R k=>by simp only[evK]
  |none=>
   simp only[evK];exact(ih hn none s).bind (G:=fun(o:Out) (s':St) (R:Type) (k:Out ->St ->Option (T R))=>match o with
    | .norm=>k .norm s'| .exit j=>bif j==id then k .norm s' else k (.exit j) s'| .goto l=>k (.goto l) s'| .ret=>k .ret s') fun o s'=>by
     cases o with
     |norm=>exact .one _ _ fun R k=>rfl
     |exit j=>cases hj:(j==id)with
      |true=>exact .one _ _ fun R k=>by simp only[hj,za];rfl
      |false=>exact .one _ _ fun R k=>by simp only[hj,zb];rfl
     |goto l=>exact .one _ _ fun R k=>rfl
     |ret=>exact .one _ _ fun R k=>rfl
 |loop c ih=>
  intro hn lab s;simp only[D1]at hn;cases lab with
  |some l=>exact .no fun R k=>by simp only[evK]
  |none=>
   simp only[evK];split
   ·exact .no fun R k=>rfl
   ·rename_i s0 _;exact Rd (body:=fun(R:Type) (s':St) (k':Out ->St ->Option (T R))=>evK P orc ann k0 n c none s' k') (fun s'=>ih hn none s') n s0
 |scope c ih=>
  intro hn lab s;simp only[D1]at hn;cases lab with
  |some l=>exact .no fun R k=>by simp only[evK]
  |none=>
   simp only[evK];refine(ih hn none s).bind (G:=fun(o:Out) (s':St) (R:Type) (k:Out ->St ->Option (T R))=>match o with
    | .goto l=>(match findLabel c l with
     |some rest=>(match trim k0 ((B2 rest).bind ann) s' with
      |none=>none|some s0=>E4 k0 ((B2 rest).bind ann) (fun s' k'=>evK P orc ann k0 n c (some l) s' fun o s''=>match o with
       | .goto m=>bif m==l then k' .norm s'' else none| .norm=>k' (.goto l) s''| .exit id=>k' (.exit id) s''| .ret=>k' .ret s'') n s0 fun o s''=>match o with
        | .goto _=>k .norm s''| .norm=>none| .exit id=>k (.exit id) s''| .ret=>k .ret s'')
     |none=>none)
    | .norm=>k .norm s'| .exit id=>k (.exit id) s'| .ret=>k .ret s') fun o s'=> ?_
   cases o with
   |norm=>exact .one _ _ fun R k=>rfl
   |exit id=>exact .one _ _ fun R k=>rfl
   |ret=>exact .one _ _ fun R k=>rfl
   |goto l=>
    simp only[];split
    ·split
     ·exact .no fun R k=>rfl
     ·rename_i rest _ _ s0 _;refine(Rd (body:=fun(R:Type) (s':St) (k':Out ->St ->Option (T R))=>evK P orc ann k0 n c (some l) s' fun o s''=>match o with
       | .goto m=>bif m==l then k' .norm s'' else none| .norm=>k' (.goto l) s''| .exit id=>k' (.exit id) s''| .ret=>k' .ret s'') (fun s1=> ?_) n s0).bind (G:=fun(o:Out) (s'':St) (R:Type) (k:Out ->St ->Option (T R))=>match o with
        | .goto _=>k .norm s''| .norm=>none| .exit id=>k (.exit id) s''| .ret=>k .ret s'') fun o s''=> ?_
      ·refine(ih hn (some l) s1).bind (G:=fun(o:Out) (s'':St) (R:Type) (k':Out ->St ->Option (T R))=>match o with
        | .goto m=>bif m==l then k' .norm s'' else none| .norm=>k' (.goto l) s''| .exit id=>k' (.exit id) s''| .ret=>k' .ret s'') fun o s''=> ?_
       cases o with
       |goto m=>cases hj:(m==l)with
        |true=>exact .one _ _ fun R k=>by simp only[hj,za];rfl
        |false=>exact .no fun R k=>by simp only[hj,zb]
       |norm=>exact .one _ _ fun R k=>rfl
       |exit id=>exact .one _ _ fun R k=>rfl
       |ret=>exact .one _ _ fun R k=>rfl
      ·cases o with
       |goto m=>exact .one _ _ fun R k=>rfl
       |norm=>exact .no fun R k=>rfl
       |exit id=>exact .one _ _ fun R k=>rfl
       |ret=>exact .one _ _ fun R k=>rfl
    ·exact .no fun R k=>rfl
 |label m=>
  intro hn lab s;cases lab with
  |none=>exact .one _ _ fun R k=>by simp only[evK];rfl
  |some l=>
   cases hj:(m==l)with
   |true=>exact .one _ _ fun R k=>by simp only[evK,hj,za];rfl
   |false=>exact .no fun R k=>by simp only[evK,hj,zb]
 |goto l=>intro _ lab s;cases lab with
  |none=>exact .one _ _ fun R k=>by simp only[evK];rfl
  |some l=>exact .no fun R k=>by simp only[evK]
 |exit l=>intro _ lab s;cases lab with
  |none=>exact .one _ _ fun R k=>by simp only[evK];rfl
  |some l=>exact .no fun R k=>by simp only[evK]
 |ret=>intro _ lab s;cases lab with
  |none=>exact .one _ _ fun R k=>by simp only[evK];rfl
  |some l=>exact .no fun R k=>by simp only[evK]
 |_=>intro _ lab s;exact .no fun R k=>by cases lab<;>simp only[evK]
theorem Aiy(fn:Func)(k0:Nat)(o:Out)(s:St):Det fun R k=>endK (R:=R) P fn k0 k o s:=by
 unfold endK;cases o with
 |exit _=>exact .no fun R k=>rfl
 |goto _=>exact .no fun R k=>rfl
 |_=>
  all_goals
   simp only[]
   cases G2 P fn s with
   |none=>exact .no fun R k=>rfl
   |some l=>
    simp only[]
    cases Fj l with
    |none=>exact .no fun R k=>rfl
    |some x=>exact .one _ _ fun R k=>rfl
theorem W5(ho:Hi orc)(ann:Ann)(n:Nat)(fn:Func)(c:Code)(hc:D1 c=true)(args:List AV)(H:Hp):Det fun R k=>W6 (R:=R) P orc ann n fn c args H k:=by
 unfold W6;exact(AmG ho ann H.length n c hc none _).bind (G:=fun o s R k=>endK P fn H.length k o s) fun o s=>Aiy fn H.length o s
end
def inl(P:Program)(orc:Orc)(ann:Ann)(n:Nat)(fn:Func):(R:Type) ->List AV ->Hp ->(AV ->Hp ->Option (T R)) ->Option (T R):=fun _ args H k=>
 bif D1 (Ac fn)&&seqN 0 H then W6 P orc ann n fn (Ac fn) args H k else none
def X8(g:(R:Type) ->List AV ->Hp ->(AV ->Hp ->Option (T R)) ->Option (T R)):Prop:= ∀args H,Det fun R k=>g R args H k
theorem Amv{P:Program}{orc:Orc}(ho:Hi orc){ann:Ann}{n:Nat}{fn:Func}:X8 (inl P orc ann n fn):=fun args H=>by
 unfold inl;cases hc:(D1 (Ac fn)&&seqN 0 H)with
 |false=>exact .no fun R k=>rfl
 |true=>
  simp only[zd]at hc;exact W5 ho ann n fn _ hc.1 args H
theorem AoH{P:Program}{orc:Orc}(ho:B4 P orc)(hd:Hi orc){ann:Ann}{n:Nat}{f:FuncId}{fn:Func}(hf:P.funcs[f]? =some fn)(hb:fn.body=some (Ac fn)):
  ∀(R:Type) args H (k:AV ->Hp ->Option (T R)) t,inl P orc ann n fn R args H k=some t -> ∃x H',k x H'=some t/\CX P f args H x H':=fun R args H k t h=>by
 unfold inl at h;cases hc:(D1 (Ac fn)&&seqN 0 H)with
 |false=>rw[hc]at h;cases h|true=>
  rw[hc]at h;simp only[za]at h;simp only[zd]at hc;rcases W5 (P:=P) hd ann n fn _ hc.1 args H with g|⟨x,H',g⟩
  ·exact absurd ((g R k).symm.trans h) (by simp)
  ·exact⟨x,H',(g R k).symm.trans h,Akp ho (ann:=ann) (n:=n) hf hb hc.2 (by unfold W7;exact g _ _)⟩
theorem Orc.nil_det:Hi Orc.nil:=fun f args H=> .no fun R k=>rfl
theorem Orc.cons_det{f0:FuncId}{g:(R:Type) ->List AV ->Hp ->(AV ->Hp ->Option (T R)) ->Option (T R)}{rest:Orc}(hg:X8 g)(hr:Hi rest):Hi (Orc.cons f0 g rest):=fun f args H=>by
 unfold Orc.cons;exact .bif _ (hg args H) (hr f args H)
theorem Aja{J:Type}{dec:List AV ->Option J}{g:J ->AV}:X8 (ansP dec g):=fun args H=>by
 unfold ansP;cases H with
 |nil=>
  simp only[];cases dec args with
  |none=>exact .no fun R k=>rfl
  |some a=>exact .one _ _ fun R k=>rfl
 |cons _ _=>exact .no fun R k=>rfl
structure OrcS (P:Program) (orc:Orc):Prop where
 ok:B4 P orc
 det:Hi orc
structure AnsS (P:Program) (f:FuncId) (g:(R:Type) ->List AV ->Hp ->(AV ->Hp ->Option (T R)) ->Option (T R)):Prop where
 ok: ∀(R:Type) args H (k:AV ->Hp ->Option (T R)) t,g R args H k=some t -> ∃x H',k x H'=some t/\CX P f args H x H'
 det:X8 g
theorem OrcS.nil{P:Program}:OrcS P Orc.nil:=⟨Orc.nil_ok P,Orc.nil_det⟩
theorem OrcS.cons{P:Program}{f0:FuncId}{g:(R:Type) ->List AV ->Hp ->(AV ->Hp ->Option (T R)) ->Option (T R)}{rest:Orc}(h:AnsS P f0 g)(r:OrcS P rest):OrcS P (Orc.cons f0 g rest):=⟨Orc.cons_ok r.ok h.ok,Orc.cons_det h.det r.det⟩
theorem AnsS.inl{P:Program}{orc:Orc}(h:OrcS P orc){ann:Ann}{n:Nat}{f:FuncId}{fn:Func}(hf:P.funcs[f]? =some fn)(hb:fn.body=some (Ac fn)):AnsS P f (inl P orc ann n fn):=⟨AoH h.ok h.det hf hb,Amv h.det⟩
theorem AnsS.p{P:Program}{f0:FuncId}{J:Type}{dec:List AV ->Option J}{g:J ->AV}{enc:J ->List AV}(hd: ∀args a,dec args=some a ->args=enc a)(hc: ∀a,CX P f0 (enc a) [] (g a) []):AnsS P f0 (ansP dec g):=⟨Fq hd hc,Aja⟩
structure Dec (X A:Type) where
 dec:X ->Option A
 enc:A ->X
 ok: ∀x a,dec x=some a ->x=enc a
namespace Dec
def nil{X:Type}:Dec (List X) Unit:=⟨fun x=>match x with|[]=>some ()|_::_=>none,fun _=>[],fun x a h=>by cases x<;>simp_all⟩
def cons{X A B:Type}(d:Dec X A)(e:Dec (List X) B):Dec (List X) (A×B):=
 ⟨fun x=>match x with
  |[]=>none|y::r=>match d.dec y with
   |none=>none|some a=>match e.dec r with
    |none=>none|some b=>some (a,b),
  fun p=>d.enc p.1::e.enc p.2,fun x p h=>by
   cases x with
   |nil=>simp at h|cons y r=>
    simp only[]at h;cases hd:d.dec y with
    |none=>rw[hd]at h;simp at h|some a=>
     rw[hd]at h;simp only[]at h;cases he:e.dec r with
     |none=>rw[he]at h;simp at h|some b=>
      rw[he]at h;simp only[zj]at h;subst h;rw[d.ok y a hd,e.ok r b he]⟩
def pair{X Y A B:Type}(d:Dec X A)(e:Dec Y B):Dec (X×Y) (A×B):=
 ⟨fun x=>match d.dec x.1 with
  |none=>none|some a=>match e.dec x.2 with
   |none=>none|some b=>some (a,b),
  fun p=>(d.enc p.1,e.enc p.2),fun x p h=>by
   obtain⟨y,r⟩:=x;simp only[]at h;cases hd:d.dec y with
   |none=>rw[hd]at h;simp at h|some a=>
    rw[hd]at h;simp only[]at h;cases he:e.dec r with
    |none=>rw[he]at h;simp at h|some b=>
     rw[he]at h;simp only[zj]at h;subst h;rw[d.ok y a hd,e.ok r b he]⟩
def blk{A:Type}(n:Nat)(d:Dec Blk A):Dec (Nat×Blk) A:= 
 ⟨fun x=>bif Nat.beq x.1 n then d.dec x.2 else none,fun a=>(n,d.enc a),fun x a h=>by
  obtain⟨m,b⟩:=x;cases hb:Nat.beq m n with
  |true=>simp only[hb,za]at h;rw[zg hb,d.ok b a h]|false=>simp only[hb,zb]at h;cases h⟩
def cells{A:Type}(t:TypeId)(d:Dec (List C) A):Dec Blk A:=
 ⟨fun x=>match x with| .cells cs u=>bif Nat.beq u t then d.dec cs else none|_=>none,fun a=> .cells (d.enc a) t,fun x a h=>by
  cases x with
  |cells cs u=>
   simp only[]at h;cases hb:Nat.beq u t with
   |true=>rw[hb]at h;simp only[za]at h;rw[zg hb,d.ok cs a h]|false=>rw[hb]at h;cases h
  |_=>cases h⟩
def rowB(sz:Nat)(t:TypeId):Dec Blk (Nat×RD):=
 ⟨fun x=>match x with| .row n f z u=>bif Nat.beq z sz&&Nat.beq u t then some (n,f)else none|_=>none,fun a=> .row a.1 a.2 sz t,fun x a h=>by
  cases x with
  |row n f z u=>
   simp only[]at h;cases hb:(Nat.beq z sz&&Nat.beq u t)with
   |true=>
    rw[hb]at h;simp only[za,zj]at h;subst h;simp only[zd]at hb;rw[zg hb.1,zg hb.2]
   |false=>rw[hb]at h;cases h
  |_=>cases h⟩
def i64:Dec C Int:=⟨fun x=>match x with| .d (.v (.int .i64 n))=>some n|_=>none,fun n=> .d (.v (.int .i64 n)),fun x a h=>by
 split at h
 ·cases h;rfl
 ·cases h⟩
def bool:Dec C Bool:=⟨fun x=>match x with| .d (.v (.bool n))=>some n|_=>none,fun n=> .d (.v (.bool n)),fun x a h=>by
 split at h
 ·cases h;rfl
 ·cases h⟩
def str:Dec C BA:=⟨fun x=>match x with| .d (.v (.string n))=>some n|_=>none,fun n=> .d (.v (.string n)),fun x a h=>by
 split at h
 ·cases h;rfl
 ·cases h⟩
def nilS:Dec C Unit:=⟨fun x=>match x with| .d (.v (.slice none 0 0))=>some ()|_=>none,fun _=> .d (.v (.slice none 0 0)),fun x a h=>by
 split at h
 ·rfl
 ·cases h⟩
def data:Dec C D:=⟨fun x=>match x with| .d y=>some y|_=>none,fun n=> .d n,fun x a h=>by
 split at h
 ·cases h;rfl
 ·cases h⟩
def row(h sz:Nat):Dec C Nat:=⟨fun x=>match x with| .row k z n=>bif Nat.beq k h&&Nat.beq z sz then some n else none|_=>none,fun n=> .row h sz n,fun x a e=>by
 split at e
 ·rename_i k z n;cases hb:(Nat.beq k h&&Nat.beq z sz)with
  |true=>
   rw[hb]at e;simp only[za,zj]at e;subst e;simp only[zd]at hb;rw[zg hb.1,zg hb.2]
  |false=>rw[hb]at e;cases e
 ·cases e⟩
def ptr(h o:Nat):Dec C Unit:=⟨fun x=>match x with| .ptr k p=>bif Nat.beq k h&&Nat.beq p o then some ()else none|_=>none,fun _=> .ptr h o,fun x a e=>by
 split at e
 ·rename_i k p;cases hb:(Nat.beq k h&&Nat.beq p o)with
  |true=>
   simp only[zd]at hb;rw[zg hb.1,zg hb.2]
  |false=>rw[hb]at e;cases e
 ·cases e⟩
def c{A:Type}(d:Dec C A):Dec AV A:=⟨fun x=>match x with| .c y=>d.dec y|_=>none,fun a=> .c (d.enc a),fun x a h=>by
 cases x with
 |c y=>rw[d.ok y a h]|_=>cases h⟩
def agg{A:Type}(d:Dec (List C) A):Dec AV A:=⟨fun x=>match x with| .agg y=>d.dec y|_=>none,fun a=> .agg (d.enc a),fun x a h=>by
 cases x with
 |agg y=>rw[d.ok y a h]|_=>cases h⟩
end Dec
def ansD{A:Type}(d:Dec (List AV×Hp) A)(c:A ->Bool)(r:A ->AV)(H':A ->Hp):(R:Type) ->List AV ->Hp ->(AV ->Hp ->Option (T R)) ->Option (T R):=fun _ args H k=>
 match d.dec (args,H)with
 |some a=>bif c a then k (r a) (H' a)else none|none=>none
theorem AnsS.d{P:Program}{f:FuncId}{A:Type}{d:Dec (List AV×Hp) A}{c:A ->Bool}{r:A ->AV}{H':A ->Hp}(hc: ∀a,c a=true ->CX P f (d.enc a).1 (d.enc a).2 (r a) (H' a)):AnsS P f (ansD d c r H'):=by
 refine⟨fun R args H k t h=> ?_,fun args H=> ?_⟩
 ·unfold ansD at h;cases hd:d.dec (args,H)with
  |none=>rw[hd]at h;cases h|some a=>
   rw[hd]at h;simp only[]at h;cases hca:c a with
   |false=>rw[hca]at h;cases h|true=>
    rw[hca]at h;have e:=d.ok _ _ hd;have:=hc a hca;rw[<-e]at this;exact⟨_,_,h,this⟩
 ·unfold ansD;cases d.dec (args,H)with
  |none=>exact .no fun R k=>rfl
  |some a=>exact .bif _ (.one _ _ fun R k=>rfl) (.no fun R k=>rfl)
def Agy(c:Hp ->Bool)(g g':(R:Type) ->List AV ->Hp ->(AV ->Hp ->Option (T R)) ->Option (T R)):(R:Type) ->List AV ->Hp ->(AV ->Hp ->Option (T R)) ->Option (T R):=fun R args H k=>bif c H then g R args H k else g' R args H k
theorem AnsS.ite{P:Program}{f:FuncId}{g g':(R:Type) ->List AV ->Hp ->(AV ->Hp ->Option (T R)) ->Option (T R)}{c:Hp ->Bool}(h:AnsS P f g)(h':AnsS P f g'):AnsS P f (Agy c g g'):=by
 refine⟨fun R args H k t e=> ?_,fun args H=> .bif _ (h.det args H) (h'.det args H)⟩;unfold Agy at e;cases hc:c H with
 |true=>simp only[hc,za]at e;exact h.ok R args H k t e|false=>simp only[hc,zb]at e;exact h'.ok R args H k t e
def Ajb{A:Type}(d:Dec (List AV×Hp) A)(c:A ->Bool)(r:A ->AV)(H':A ->Hp)(g:(R:Type) ->List AV ->Hp ->(AV ->Hp ->Option (T R)) ->Option (T R)):(R:Type) ->List AV ->Hp ->(AV ->Hp ->Option (T R)) ->Option (T R):=fun R args H k=>
 match d.dec (args,H)with
 |some a=>bif c a then k (r a) (H' a)else none|none=>g R args H k
theorem AnsS.or{P:Program}{f:FuncId}{A:Type}{d:Dec (List AV×Hp) A}{c:A ->Bool}{r:A ->AV}{H':A ->Hp}{g:(R:Type) ->List AV ->Hp ->(AV ->Hp ->Option (T R)) ->Option (T R)}(hc: ∀a,c a=true ->CX P f (d.enc a).1 (d.enc a).2 (r a) (H' a))(hg:AnsS P f g):AnsS P f (Ajb d c r H' g):=by
 refine⟨fun R args H k t h=> ?_,fun args H=> ?_⟩
 ·unfold Ajb at h;cases hd:d.dec (args,H)with
  |none=>rw[hd]at h;exact hg.ok R args H k t h|some a=>
   rw[hd]at h;simp only[]at h;cases hca:c a with
   |false=>rw[hca]at h;cases h|true=>
    rw[hca]at h;have e:=d.ok _ _ hd;have:=hc a hca;rw[<-e]at this;exact⟨_,_,h,this⟩
 ·unfold Ajb;cases d.dec (args,H)with
  |none=>exact hg.det args H|some a=>exact .bif _ (.one _ _ fun R k=>rfl) (.no fun R k=>rfl)
inductive Fr where
 |nil|leaf (j:Nat) (x:AV)|node (k:Nat) (l r:Fr)
namespace Fr
def get(i:Nat)(t:Fr):AV:=
 Fr.rec (motive:=fun _=>AV) .u (fun j x=>Bool.rec (motive:=fun _=>AV) .u x (Nat.beq i j)) (fun k _ _ a b=>Bool.rec (motive:=fun _=>AV) a b (Nat.ble k i)) t
def setK{R:Type}(i:Nat)(x:AV)(t:Fr):(Fr ->R) ->R:=
 Fr.rec (motive:=fun _=>(Fr ->R) ->R) (fun k=>k .nil) (fun j y k=>Bool.rec (motive:=fun _=>R) (k (.leaf j y)) (k (.leaf j x)) (Nat.beq i j))
  (fun m l r a b k=>Bool.rec (motive:=fun _=>R) (a fun l'=>k (.node m l' r)) (b fun r'=>k (.node m l r')) (Nat.ble m i)) t
def toL:Fr ->List AV
 |nil=>[]|leaf _ x=>[x]|node _ l r=>toL l++toL r
def Ok:Nat ->Nat ->Fr ->Prop
 |lo,hi,nil=>lo=hi|lo,hi,leaf j _=>j=lo/\hi=lo+1|lo,hi,node k l r=>Ok lo k l/\Ok k hi r
theorem Ok.len: ∀{t:Fr} {lo hi:Nat},Ok lo hi t ->lo+(toL t).length=hi
 |nil,lo,hi,h=>by simpa[Ok,toL]using h|leaf j x,lo,hi,h=>by simp only[Ok]at h;simp[toL,h.2]|node k l r,lo,hi,h=>by
  simp only[Ok]at h;have h1:=Ok.len h.1;have h2:=Ok.len h.2;simp only[toL,List.length_append];omega
theorem get_eq: ∀{t:Fr} {lo hi i:Nat},Ok lo hi t ->lo<=i ->get i t=(toL t).getD (i -lo) .u
 |nil,lo,hi,i,h,hi'=>by simp[get,toL]|leaf j x,lo,hi,i,h,hi'=>by
  simp only[Ok]at h;obtain⟨rfl,_⟩:=h;show Bool.rec (motive:=fun _=>AV) .u x (Nat.beq i j)=_;rw[beqD];by_cases e:i=j
  ·subst e;simp[toL]
  ·rw[zt e];have:i -j=(i -j -1)+1:=by omega
   rw[this];simp[toL]
 |node k l r,lo,hi,i,h,hi'=>by
  simp only[Ok]at h;have h1:=Ok.len h.1;show Bool.rec (motive:=fun _=>AV) (get i l) (get i r) (Nat.ble k i)=_;rw[bleD];by_cases e:k<=i
  ·rw[zk e];have:=get_eq (t:=r) h.2 e;simp only[toL];rw[zh,List.getElem?_append_right (by omega),this,zh];congr 2;omega
  ·rw[zt e];have:=get_eq (t:=l) h.1 hi';simp only[toL];rw[zh,List.getElem?_append_left (by omega),this,zh]
theorem setK_eq(x:AV): ∀{t:Fr} {lo hi i:Nat},Ok lo hi t ->lo<=i -> ∃t',Ok lo hi t'/\toL t'=(toL t).set (i -lo) x/\ ∀(R:Type) (k:Fr ->R),setK i x t k=k t'
 |nil,lo,hi,i,h,hi'=>⟨nil,h,by simp[toL],fun R k=>rfl⟩
 |leaf j y,lo,hi,i,h,hi'=>by
  simp only[Ok]at h;obtain⟨rfl,rfl⟩:=h;by_cases e:i=j
  ·subst e;refine⟨leaf i x,⟨rfl,rfl⟩,by simp[toL],fun R k=> ?_⟩;show Bool.rec (motive:=fun _=>R) (k (.leaf i y)) (k (.leaf i x)) (Nat.beq i i)=_;rw[beqD];simp
  ·refine⟨leaf j y,⟨rfl,rfl⟩, ?_,fun R k=> ?_⟩
   ·have:i -j=(i -j -1)+1:=by omega
    rw[this];simp[toL]
   ·show Bool.rec (motive:=fun _=>R) (k (.leaf j y)) (k (.leaf j x)) (Nat.beq i j)=_;rw[beqD,zt e]
 |node m l r,lo,hi,i,h,hi'=>by
  simp only[Ok]at h;have h1:=Ok.len h.1;by_cases e:m<=i
  ·obtain⟨r',o,e1,e2⟩:=setK_eq x (t:=r) h.2 e;refine⟨node m l r',⟨h.1,o⟩, ?_,fun R k=> ?_⟩
   ·simp only[toL];rw[e1,List.set_append_right _ _ (by omega:(toL l).length<=i -lo)];congr 2;omega
   ·show Bool.rec (motive:=fun _=>R) (setK i x l fun l'=>k (.node m l' r)) (setK i x r fun r'=>k (.node m l r')) (Nat.ble m i)=_;rw[bleD,zk e];exact e2 R _
  ·obtain⟨l',o,e1,e2⟩:=setK_eq x (t:=l) h.1 hi';refine⟨node m l' r,⟨o,h.2⟩, ?_,fun R k=> ?_⟩
   ·simp only[toL];rw[e1,List.set_append_left _ _ (by omega:i -lo<(toL l).length)]
   ·show Bool.rec (motive:=fun _=>R) (setK i x l fun l'=>k (.node m l' r)) (setK i x r fun r'=>k (.node m l r')) (Nat.ble m i)=_;rw[bleD,zt e];exact e2 R _
def base:Nat ->Nat ->Nat ->Fr
 |0,_,_=>nil|_+1,_,0=>nil|_+1,lo,1=>leaf lo (.tup [])|d+1,lo,n+2=>node (lo+(n+2)/2) (base d lo ((n+2)/2)) (base d (lo+(n+2)/2) (n+2 -(n+2)/2))
theorem base_ok: ∀(d lo n:Nat),n<=d ->Ok lo (lo+n) (base d lo n)/\toL (base d lo n)=List.replicate n (.tup [])
 |0,lo,n,h=>by
  obtain rfl:n=0:=by omega
  simp[base,Ok,toL]
 |d+1,lo,0,h=>by simp[base,Ok,toL]|d+1,lo,1,h=>by simp[base,Ok,toL]|d+1,lo,n+2,h=>by
  have h1:=base_ok d lo ((n+2)/2) (by omega);have h2:=base_ok d (lo+(n+2)/2) (n+2 -(n+2)/2) (by omega);have e:lo+(n+2)/2+(n+2 -(n+2)/2)=lo+(n+2):=by omega
  rw[e]at h2;refine⟨?_, ?_⟩
  ·simp only[base,Ok];exact⟨h1.1,h2.1⟩
  ·simp only[base,toL,h1.2,h2.2,List.replicate_append_replicate];congr 1;omega
def putsK{R:Type}(l:List AV):Nat ->Fr ->(Fr ->R) ->R:=
 List.rec (motive:=fun _=>Nat ->Fr ->(Fr ->R) ->R) (fun _ t k=>k t) (fun x _ ih i t k=>setK i x t fun t'=>ih (i+1) t' k) l
theorem putsK_eq: ∀(l:List AV) {t:Fr} {hi i:Nat},Ok 0 hi t ->i+l.length<=hi -> ∃t',Ok 0 hi t'/\toL t'=(toL t).take i++l++(toL t).drop (i+l.length)/\ ∀(R:Type) (k:Fr ->R),putsK l i t k=k t'
 |[],t,hi,i,h,hl=>⟨t,h,by simp,fun R k=>rfl⟩
 |x::r,t,hi,i,h,hl=>by
  obtain⟨t1,o1,e1,k1⟩:=setK_eq x h (Nat.zero_le i);have hlen:=h.len;simp only[List.length_cons]at hl;obtain⟨t2,o2,e2,k2⟩:=putsK_eq r (t:=t1) (i:=i+1) o1 (by omega);refine⟨t2,o2, ?_,fun R k=> ?_⟩
  ·rw[e2,e1];simp only[Nat.sub_zero,List.length_cons];have hi2:i<(toL t).length:=by omega
   rw[List.drop_set_of_lt (by omega),List.take_add_one,List.getElem?_set_self (by omega)];simp only[Option.toList_some,List.take_set,List.append_assoc,List.cons_append,List.nil_append];rw[List.set_eq_of_length_le (by simp;omega)];have e9:i+1+r.length=i+(r.length+1):=by omega
   rw[e9]
  ·show setK i x t (fun t'=>putsK r (i+1) t' k)=_;rw[k1];exact k2 R k
def ofK{R:Type}(l:List AV)(k:Fr ->R):R:=putsK l 0 (base l.length 0 l.length) k
theorem ofK_eq(l:List AV): ∃t,Ok 0 l.length t/\toL t=l/\ ∀(R:Type) (k:Fr ->R),ofK l k=k t:=by
 have hb:=base_ok l.length 0 l.length (Nat.le_refl _);rw[Nat.zero_add]at hb;obtain⟨t,o,e,h⟩:=putsK_eq l hb.1 (i:=0) (by omega);refine⟨t,o, ?_,h⟩;rw[e,hb.2];simp
end Fr
def insK{R:Type}(h:Nat)(b:Blk)(H:Hp):(Hp ->R) ->R:=
 List.rec (motive:=fun _=>(Hp ->R) ->R) (fun k=>k [(h,b)])
  (fun p r ih k=>Bool.rec (motive:=fun _=>R) (ih fun r'=>k (p::r')) (Bool.rec (motive:=fun _=>R) (k ((h,b)::p::r)) (k ((h,b)::r)) (Nat.beq h p.1)) (Nat.ble h p.1)) H
theorem Afd{R:Type}(h:Nat)(b:Blk): ∀(H:Hp) (k:Hp ->R),insK h b H k=k (ins h b H)
 |[],k=>rfl|(m,c)::r,k=>by
  show Bool.rec (motive:=fun _=>R) (insK h b r fun r'=>k ((m,c)::r')) (Bool.rec (motive:=fun _=>R) (k ((h,b)::(m,c)::r)) (k ((h,b)::r)) (Nat.beq h m)) (Nat.ble h m)=_;simp only[ins];cases h1:Nat.ble h m with
  |false=>simp only[zb];exact Afd h b r _|true=>
   cases h2:Nat.beq h m with
   |false=>simp only[za,zb]|true=>simp only[za]
def Abh{R:Type}(u:Ups):Hp ->(Hp ->R) ->R:=
 List.rec (motive:=fun _=>Hp ->(Hp ->R) ->R) (fun H k=>k H) (fun p _ ih H k=>insK p.1 p.2 H fun H'=>ih H' k) u
theorem Xg{R:Type}: ∀(u:Ups) (H:Hp) (k:Hp ->R),Abh u H k=k (A9 u H)
 |[],H,k=>rfl|(h,b)::r,H,k=>by
  show insK h b H (fun H'=>Abh r H' k)=_;rw[Afd,Xg r];rfl
def natK{R:Type}(n:Nat)(k:Nat ->R):R:=Nat.rec (motive:=fun _=>R) (k 0) (fun m _=>k (Nat.succ m)) n
theorem Ami{R:Type}(n:Nat)(k:Nat ->R):natK n k=k n:=by cases n<;>rfl
structure StQ where
 t:Fr
 H:Hp
 nm:Nat
def StQ.to(s:StQ):St:=⟨s.t.toL,s.H,s.nm⟩
def StQ.Ok(s:StQ):Prop:= ∃hi,Fr.Ok 0 hi s.t
section
variable {P:Program}{orc:Orc}
def opQ(t:Fr)(o:Operand):AV:=
 Operand.rec (motive:=fun _=>Fr ->AV) (fun i t=>t.get i) (fun v _=>absA v) (fun g _=>gOp g) (fun f _=> .c (.d (.v (.func (.func f) #[] #[])))) o t
theorem AjU{t:Fr}{hi:Nat}(h:Fr.Ok 0 hi t):opQ t=opA t.toL:=by
 funext o;cases o with
 |tmp i=>exact(Fr.get_eq h (Nat.zero_le _)).trans (by simp only[opA,Nat.sub_zero])|_=>rfl
def putQ{R:Type}(dst:Option Nat):AV ->Fr ->(Fr ->R) ->R:=Option.rec (motive:=fun _=>AV ->Fr ->(Fr ->R) ->R) (fun _ t k=>k t) (fun d x t k=>Fr.setK d x t k) dst
def Afl{R:Type}(ops:Array Oper)(j:Nat)(want:Bool)(t:Fr)(yes no:Fr ->Option (T R)):Option (T R):=
 match(ops[j]?).bind (·.dst)with
  |none=>no t|some d=>match t.get d with
   | .c (.d (.v (.bool b)))=>bif b then(bif want then Fr.setK d (.c (.d (.v (.bool true)))) t yes else Fr.setK d (.c (.d (.v (.bool true)))) t no)
    else(bif want then Fr.setK d (.c (.d (.v (.bool false)))) t no else Fr.setK d (.c (.d (.v (.bool false)))) t yes)
   | .tup []=>no t|_=>none
def Afi{R:Type}(g:Option (Nat×Bool)):Array Oper ->Fr ->(Fr ->Option (T R)) ->(Fr ->Option (T R)) ->Option (T R):=
 Option.rec (motive:=fun _=>Array Oper ->Fr ->(Fr ->Option (T R)) ->(Fr ->Option (T R)) ->Option (T R)) (fun _ t yes _=>yes t) (fun p ops t yes no=>Afl ops p.1 p.2 t yes no) g
theorem Aej(dst:Option Nat)(x:AV){t:Fr}{hi:Nat}(h:Fr.Ok 0 hi t): ∃t',Fr.Ok 0 hi t'/\t'.toL=put t.toL dst x/\ ∀(R:Type) (k:Fr ->R),putQ dst x t k=k t':=by
 cases dst with
 |none=>exact⟨t,h,rfl,fun R k=>rfl⟩
 |some d=>
  obtain⟨t',o,e,k⟩:=Fr.setK_eq x h (Nat.zero_le d);exact⟨t',o,e,k⟩
theorem Afh{R:Type}(ops:Array Oper){t:Fr}{hi:Nat}(h:Fr.Ok 0 hi t)(o:Oper)(yes no:Fr ->Option (T R))(yes' no':List AV ->Option (T R))
  (hy: ∀t,Fr.Ok 0 hi t ->yes t=yes' t.toL) (hn: ∀t,Fr.Ok 0 hi t ->no t=no' t.toL):Afi o.guard ops t yes no=Kj ops t.toL o yes' no':=by
 unfold Kj;cases o.guard with
 |none=>exact hy t h|some p=>
  obtain⟨j,want⟩:=p;show Afl ops j want t yes no=_;unfold Afl;simp only;cases(ops[j]?).bind (·.dst)with
  |none=>exact hn t h|some d=>
   have e:=Fr.get_eq h (Nat.zero_le d);rw[Nat.sub_zero]at e;simp only;rw[e];obtain⟨t1,o1,e1,k1⟩:=Fr.setK_eq (.c (.d (.v (.bool true)))) h (Nat.zero_le d);obtain⟨t2,o2,e2,k2⟩:=Fr.setK_eq (.c (.d (.v (.bool false)))) h (Nat.zero_le d);rw[Nat.sub_zero]at e1 e2;simp only[k1,k2,hy _ o1,hn _ o1,hy _ o2,hn _ o2,e1,e2,hn t h];rfl
def leS(a b:IntKind):Bool:=decide (a=b)
def intQ(op:BinOp):IntKind ->Int ->Int ->Option (Bool×Do):=BinOp.rec (motive:=fun _=>IntKind ->Int ->Int ->Option (Bool×Do))
 (fun k a b=>some (true, .val (.c (.d (.v (.int k (k.wrap (a+b))))))))
 (fun k a b=>some (true, .val (.c (.d (.v (.int k (k.wrap (a -b))))))))
 (fun k a b=>some (true, .val (.c (.d (.v (.int k (k.wrap (a*b))))))))
 (fun _ _ _=>none) (fun _ _ _=>none) (fun _ _ _=>none) (fun _ _ _=>none) (fun _ _ _=>none) (fun _ _ _=>none) (fun _ _ _=>none) (fun _ _ _=>none)
 (fun _ a b=>some (true, .val (.c (.d (.v (.bool (a==b)))))))
 (fun _ a b=>some (true, .val (.c (.d (.v (.bool (a !=b)))))))
 (fun _ a b=>some (true, .val (.c (.d (.v (.bool (decide (a<b))))))))
 (fun _ a b=>some (true, .val (.c (.d (.v (.bool (decide (a<=b))))))))
 (fun _ a b=>some (true, .val (.c (.d (.v (.bool (decide (a>b))))))))
 (fun _ a b=>some (true, .val (.c (.d (.v (.bool (decide (a>=b)))))))) op
def P6:BinOp ->Bool
 | .add| .sub| .mul| .eql| .neq| .lss| .leq| .gtr| .geq=>true|_=>false
def Aku(p q:AV)(op:BinOp)(slow:Option (Bool×Do)):Option (Bool×Do):=match p,q with
 | .c (.d (.v (.int k a))), .c (.d (.v (.int k' b)))=>bif P6 op&&leS k k' then intQ op k a b else slow|_,_=>slow
def Aeh(P:Program)(ρ:Operand ->AV)(op:BinOp)(t:TypeId)(x y:Operand):Option (Bool×Do):=Aku (ρ x) (ρ y) op (Aau P ρ op t x y)
theorem Aog(op:BinOp)(hf:P6 op=true)(t:TypeId)(x y:Operand)(k:IntKind)(a b:Int):(match pr P (do eqGuard op t x y (.int k a) (.int k b);binOp op t (.int k a) (.int k b))with|some r=>val1 r|none=>none)=intQ op k a b:=by
 cases op<;>first|(cases hf;done)|(cases k<;>rfl)
theorem AiC{op:BinOp}(hf:P6 op=true)(a b:Value)(s:Option (Bool×Do)):Acv op a b s=s:=by
 cases op<;>first|(cases hf;done)|rfl
theorem Aeg(ρ:Operand ->AV)(op:BinOp)(t:TypeId)(x y:Operand):Aeh P ρ op t x y=Aau P ρ op t x y:=by
 unfold Aeh Aku;split
 ·rename_i k a k' b hx hy;cases hc:(P6 op&&leS k k')with
  |false=>rfl|true=>
   simp only[zd]at hc;have hk:k=k':=of_decide_eq_true hc.2;subst hk;simp only[za];unfold Aau;rw[hx,hy];exact(Aog op hc.1 t x y k a b).symm.trans (AiC hc.1 _ _ _).symm
 ·rfl
def resQ(o:Op):Program ->(Operand ->AV) ->Option (Bool×Do):=
 Op.rec (motive:=fun _=>Program ->(Operand ->AV) ->Option (Bool×Do))
  (fun x _ ρ=>some (true, .val (ρ x)))
  (fun x _ ρ=>some (true, .val (ρ x)))
  (fun c a b P ρ=>Aoc P ρ c a b)
  (fun e P ρ=>AjT P ρ e)
  (fun e x P ρ=>rBox P ρ e x)
  (fun t parts P ρ=>AjS P ρ t parts)
  (fun t len parts P ρ=>Qz P ρ t len parts)
  (fun t m k v P ρ=>J8 P ρ t m k v)
  (fun t a P ρ=>Aoe P ρ t a)
  (fun t a x P ρ=>AjN P ρ t a x)
  (fun _ _ _=>none)
  (fun _ _ _=>none)
  (fun x P ρ=>V1 P ρ x)
  (fun op t x y _ P ρ=>Aeh P ρ op t x y)
  (fun op _ x P ρ=>Aob P ρ op x)
  (fun s t x P ρ=>Aat P ρ s t x)
  (fun _ _ _ _=>none)
  (fun _ _ _ _=>none)
  (fun fn first captured P ρ=>V2 P ρ fn first captured)
  (fun t r P ρ=>Aar P ρ t r)
  (fun _ _ _ _=>none)
  (fun _ _ _ _ _=>none)
  (fun t x lo hi mx P ρ=>AjO P ρ t x lo hi mx)
  (fun s x f P ρ=>Sy P ρ s x f)
  (fun t x f P ρ=>AjR P ρ t x f)
  (fun t x i P ρ=>Sx P ρ t x i)
  (fun t x i P ρ=>AjQ P ρ t x i)
  (fun t x i ok P ρ=>Aee P ρ t x i ok)
  (fun t m k v P ρ=>J8 P ρ t m k v)
  (fun _ _ _ _ _=>none)
  (fun _ _ _ _ _ _=>none)
  (fun t x P ρ=>AjP P ρ t x)
  (fun it str P ρ=>Aod P ρ it str)
  (fun _ _ _=>none)
  (fun _ _ _ _ _ _=>none)
  (fun x i P ρ=>Aas P ρ x i)
  (fun c P ρ=>Aof P ρ c)
  (fun _ _ _=>none)
  (fun _ _ _=>none)
  (fun _ _ _=>none)
  (fun _ _ _ _=>none)
  (fun _ _ _ _ _=>none)
  (fun _ _ _ _=>none) o
theorem AlP(o:Oper)(ρ:Operand ->AV):resQ o.op P ρ=resF P o ρ:=by
 obtain⟨dst,op,ty,pos,after,guard⟩:=o;cases op with
 |binOp op t x y u=>exact Aeg ρ op t x y|_=>rfl
def Wj(k:Nat)(H:Hp):Option Blk:=List.rec (motive:=fun _=>Option Blk) none (fun p _ ih=>Bool.rec (motive:=fun _=>Option Blk) ih (some p.2) (Nat.beq k p.1)) H
def getQ{J:Type}(l:List J):Nat ->Option J:=List.rec (motive:=fun _=>Nat ->Option J) (fun _=>none) (fun x _ ih n=>Nat.rec (motive:=fun _=>Option J) (some x) (fun m _=>ih m) n) l
theorem Ue(k:Nat): ∀H:Hp,Wj k H=look H k
 |[]=>rfl|(h,b)::r=>by
  show Bool.rec (motive:=fun _=>Option Blk) (Wj k r) (some b) (Nat.beq k h)=_;rw[Ue k r];simp only[look];cases Nat.beq k h<;>rfl
theorem Y1{J:Type}: ∀(l:List J) (n:Nat),getQ l n=l[n]?
 |[],n=>by simp[getQ]|x::r,0=>by simp;rfl|x::r,n+1=>by
  show getQ r n=_;rw[Y1 r n];simp
def Anc(cs:List C)(off n:Nat)(ag:Bool):Option AV:=
 Bool.rec (motive:=fun _=>Option AV) none (Bool.rec (motive:=fun _=>Option AV) (Option.rec (motive:=fun _=>Option AV) none (fun c=>some (.c c)) (getQ cs off)) (some (.agg ((cs.drop off).take n))) ag) (Nat.ble (off+n) cs.length)
theorem AiM(cs:List C)(off n:Nat)(ag:Bool):Anc cs off n ag=Ke cs off n ag:=by
 unfold Anc Ke;rw[bleD,Y1];by_cases h:off+n<=cs.length
 ·rw[zk h,if_pos h];cases ag with
  |true=>rfl|false=>
   simp only[Bool.false_eq_true,if_false];cases cs[off]? <;>rfl
 ·rw[zt h,if_neg h]
def Amo(b:Option Blk):Nat ->Nat ->Nat ->Nat ->Bool ->Option AV:=
 Option.rec (motive:=fun _=>Nat ->Nat ->Nat ->Nat ->Bool ->Option AV) (fun _ _ _ _ _=>none)
  (fun b=>Blk.rec (motive:=fun _=>Nat ->Nat ->Nat ->Nat ->Bool ->Option AV) (fun cs _ sz i off n ag=>Anc cs (i*sz+off) n ag)
    (fun _ f sz' _ sz i off n ag=>bif Nat.beq sz sz' then Ke ((f i).map .d) off n ag else none) (fun _ _ _ _ _ _ _=>none) (fun _ _ _ _ _ _ _=>none) (fun _ _ _ _ _=>none) b) b
theorem Aig(H:Hp)(h sz i off n:Nat)(ag:Bool):Amo (Wj h H) sz i off n ag=Gl H h sz i off n ag:=by
 rw[Ue];unfold Gl;cases look H h with
 |none=>rfl|some b=>
  cases b with
  |cells cs t=>exact AiM cs (i*sz+off) n ag|_=>rfl
def AoD{R:Type}(x:Option AV):Nat ->(AV ->Foot ->Ups ->Option (T R)) ->Option (T R):=
 Option.rec (motive:=fun _=>Nat ->(AV ->Foot ->Ups ->Option (T R)) ->Option (T R)) (fun _ _=>none) (fun x h k=>k x ⟨[h],[]⟩ []) x
def Ajt{R:Type}(x:Option (Ups×List Nat)):(AV ->Foot ->Ups ->Option (T R)) ->Option (T R):=
 Option.rec (motive:=fun _=>(AV ->Foot ->Ups ->Option (T R)) ->Option (T R)) (fun _=>none) (fun p k=>k (.tup []) ⟨p.2,p.1.map (·.1)⟩ p.1) x
def splQ{J:Type}(cs:List J):Nat ->List J ->List J:=
 List.rec (motive:=fun _=>Nat ->List J ->List J) (fun _ new=>new) (fun c r ih off new=>Nat.rec (motive:=fun _=>List J) (new++(c::r).drop new.length) (fun m _=>c::ih m new) off) cs
theorem AdM{J:Type}: ∀(cs:List J) (off:Nat) (new:List J),off<=cs.length ->splQ cs off new=splice cs off new
 |[],off,new,h=>by
  obtain rfl:off=0:=by simpa using h
  simp[splQ,splice]
 |c::r,0,new,h=>by
  show new++(c::r).drop new.length=_;simp[splice]
 |c::r,off+1,new,h=>by
  show c::splQ r off new=_;rw[AdM r off new (by simpa using h)];simp[splice,Nat.add_right_comm]
def Adi(b:Option Blk):Hp ->Nat ->Nat ->Nat ->Nat ->List C ->Option (Ups×List Nat):=
 Option.rec (motive:=fun _=>Hp ->Nat ->Nat ->Nat ->Nat ->List C ->Option (Ups×List Nat)) (fun _ _ _ _ _ _=>none)
  (fun b=>Blk.rec (motive:=fun _=>Hp ->Nat ->Nat ->Nat ->Nat ->List C ->Option (Ups×List Nat))
    (fun ds t _ h sz i off cs=>bif Nat.ble (i*sz+off+cs.length) ds.length then some ([(h, .cells (splQ ds (i*sz+off) cs) t)],[h])else none)
    (fun _ _ _ _ H h sz i off cs=>Eh H h sz i off cs) (fun _ _ H h sz i off cs=>Eh H h sz i off cs) (fun _ _ H h sz i off cs=>Eh H h sz i off cs) (fun H h sz i off cs=>Eh H h sz i off cs) b) b
theorem Adh(H:Hp)(h sz i off:Nat)(cs:List C):Adi (Wj h H) H h sz i off cs=Eh H h sz i off cs:=by
 rw[Ue];cases hl:look H h with
 |none=>unfold Eh;rw[hl];rfl|some b=>
  cases b with
  |cells ds t=>
   show(bif Nat.ble (i*sz+off+cs.length) ds.length then some ([(h,Blk.cells (splQ ds (i*sz+off) cs) t)],[h])else none)=_;unfold Eh;rw[hl];simp only;rw[bleD];by_cases hb:i*sz+off+cs.length<=ds.length
   ·rw[zk hb,AdM ds _ cs (by omega)]
   ·rw[zt hb];rfl
  |_=>rfl
def AhX{R:Type}(a:Do):Orc ->Nat ->Hp ->(AV ->Foot ->Ups ->Option (T R)) ->Option (T R):=
 Do.rec (motive:=fun _=>Orc ->Nat ->Hp ->(AV ->Foot ->Ups ->Option (T R)) ->Option (T R))
  (fun x _ _ _ k=>k x ⟨[],[]⟩ [])
  (fun h sz i off n ag _ _ H k=>AoD (Amo (Wj h H) sz i off n ag) h k)
  (fun h sz i off cs _ _ H k=>Ajt (Adi (Wj h H) H h sz i off cs) k)
  (fun b mk _ h0 _ k=>k (mk h0) ⟨[],[h0]⟩ [(h0,b)])
  (fun d s e sz orc h0 H k=>C7 orc h0 (.append d s e sz) H k)
  (fun h orc h0 H k=>C7 orc h0 (.next h) H k)
  (fun h kd key ok z orc h0 H k=>C7 orc h0 (.look h kd key ok z) H k)
  (fun h kd key v orc h0 H k=>C7 orc h0 (.upd h kd key v) H k)
  (fun h x orc h0 H k=>C7 orc h0 (.chk h x) H k)
  (fun h off u orc h0 H k=>C7 orc h0 (.conv h off u) H k)
  (fun h n e orc h0 H k=>C7 orc h0 (.ustr h n e) H k)
  (fun h n orc h0 H k=>C7 orc h0 (.cstr h n) H k)
  (fun h n s orc h0 H k=>C7 orc h0 (.slarr h n s) H k)
  (fun h orc h0 H k=>C7 orc h0 (.mlen h) H k)
  (fun h off s len n orc h0 H k=>C7 orc h0 (.idx h off s len n) H k)
  (fun f args orc h0 H k=>C7 orc h0 (.call f args) H k) a
theorem AhW{R:Type}(a:Do)(h0:Nat)(H:Hp)(k:AV ->Foot ->Ups ->Option (T R)):AhX a orc h0 H k=C7 orc h0 a H k:=by
 cases a with
 |load h sz i off n ag=>
  show AoD (Amo (Wj h H) sz i off n ag) h k=_;rw[Aig];simp only[C7,Ax];cases Gl H h sz i off n ag<;>rfl
 |store h sz i off cs=>
  show Ajt (Adi (Wj h H) H h sz i off cs) k=_;rw[Adh];simp only[C7,Ax];cases Eh H h sz i off cs<;>rfl
 |_=>rfl
def okQ{R:Type}(r:Option (Bool×Do)):(Do ->Option (T R)) ->Option (T R):=
 Option.rec (motive:=fun _=>(Do ->Option (T R)) ->Option (T R)) (fun _=>none) (fun p k=>Bool.rec (motive:=fun _=>Option (T R)) none (k p.2) p.1) r
def opsQ{R:Type}(P:Program)(orc:Orc)(ops:Array Oper)(draw:Bool)(nm:Nat)(l:List Oper):Nat ->List (Nat×Tx) ->Fr ->Hp ->(List (Nat×Tx) ->Fr ->Hp ->Option (T R)) ->Option (T R):=
 List.rec (motive:=fun _=>Nat ->List (Nat×Tx) ->Fr ->Hp ->(List (Nat×Tx) ->Fr ->Hp ->Option (T R)) ->Option (T R)) (fun _ tr t H k=>k tr t H)
  (fun o _ ih i tr t H k=>Afi o.guard ops t
    (fun t=>okQ (resQ o.op P (opQ t)) fun a=>AhX a orc (nm+16*i) H (fun x ft u=>putQ o.dst x t fun t'=>Abh u H fun H'=>ih (i+1) (Bool.rec (motive:=fun _=>List (Nat×Tx)) tr (tr++[(i,⟨ft,Lp a x,u⟩)]) draw) t' H' k))
    (fun t=>putQ o.dst (.tup []) t fun t'=>ih (i+1) (Bool.rec (motive:=fun _=>List (Nat×Tx)) tr (tr++[(i,tx0)]) draw) t' H k)) l
theorem Yl{R:Type}{orc:Orc}(h0:Nat)(a:Do)(H:Hp)(k k':AV ->Foot ->Ups ->Option (T R))(h: ∀x ft u,k x ft u=k' x ft u):C7 orc h0 a H k=C7 orc h0 a H k':=by
 have:k=k':=by funext x ft u;exact h x ft u
 rw[this]
theorem Aes{R:Type}(ops:Array Oper)(draw:Bool)(nm:Nat): ∀(l:List Oper) (i:Nat),l=ops.toList.drop i -> ∀(tr tr':List (Nat×Tx)) (t:Fr) (hi:Nat) (H:Hp) (kq:List (Nat×Tx) ->Fr ->Hp ->Option (T R)) (k:List (Nat×Tx) ->St ->Option (T R)),
  Fr.Ok 0 hi t ->tr'.map (·.1)=List.range i ->(draw=true ->tr=tr') ->(∀tr tr' t H,Fr.Ok 0 hi t ->tr'.map (·.1)=List.range (i+l.length) ->(draw=true ->tr=tr') ->kq tr t H=k tr' ⟨t.toL,H,nm⟩) ->
  opsQ P orc ops draw nm l i tr t H kq=opsK P orc ops (List.range' i l.length) tr' ⟨t.toL,H,nm⟩ k
 |[],i,hl,tr,tr',t,hi,H,kq,k,ho,hm,htr,hk=>by
  show kq tr t H=_;simp only[List.length_nil,List.range'_zero,opsK];exact hk tr tr' t H ho (by simpa using hm) htr
 |o::r,i,hl,tr,tr',t,hi,H,kq,k,ho,hm,htr,hk=>by
  have hget:ops[i]? =some o:=by
   have:ops.toList[i]? =some o:=by
    have:=congrArg (fun x=>x[0]?) hl;simpa using this.symm
   simpa using this
  have hr:r=ops.toList.drop (i+1):=by
   have:=congrArg (List.drop 1) hl;simpa[List.drop_drop,Nat.add_comm]using this
  have go: ∀(tr tr':List (Nat×Tx)) (t:Fr) (H:Hp),Fr.Ok 0 hi t ->tr'.map (·.1)=List.range (i+1) ->(draw=true ->tr=tr') ->opsQ P orc ops draw nm r (i+1) tr t H kq=opsK P orc ops (List.range' (i+1) r.length) tr' ⟨t.toL,H,nm⟩ k:=
   fun tr tr' t H ho hm htr=>Aes ops draw nm r (i+1) hr tr tr' t hi H kq k ho hm htr (fun a b c d e f g=>hk a b c d e (by rw[f];congr 1;simp;omega) g)
  show Afi o.guard ops t
   (fun t=>okQ (resQ o.op P (opQ t)) fun a=>AhX a orc (nm+16*i) H (fun x ft u=>putQ o.dst x t fun t'=>Abh u H fun H'=>opsQ P orc ops draw nm r (i+1) (Bool.rec (motive:=fun _=>List (Nat×Tx)) tr (tr++[(i,⟨ft,Lp a x,u⟩)]) draw) t' H' kq))
   (fun t=>putQ o.dst (.tup []) t fun t'=>opsQ P orc ops draw nm r (i+1) (Bool.rec (motive:=fun _=>List (Nat×Tx)) tr (tr++[(i,tx0)]) draw) t' H kq)=_
  simp only[List.length_cons,List.range'_succ,opsK,Ye,hget,Rh,Aeu,putF_eq];have htr2: ∀ft:Tx,draw=true ->(Bool.rec (motive:=fun _=>List (Nat×Tx)) tr (tr++[(i,ft)]) draw)=tr'++[(i,ft)]:=fun ft hd=>by rw[hd,htr hd]
  have hm2: ∀ft:Tx,(tr'++[(i,ft)]).map (·.1)=List.range (i+1):=fun ft=>by rw[List.map_append,hm,List.range_succ];rfl
  refine Afh ops ho o _ _ _ _ (fun t1 o1=> ?_) (fun t1 o1=> ?_)
  ·rw[AjU o1,AlP];cases resF P o (opA t1.toL)with
   |none=>rfl|some p=>
    obtain⟨ok,a⟩:=p;cases ok with
    |false=>rfl|true=>
     simp only[za];show AhX a orc (nm+16*i) H _=_;rw[AhW];refine Yl _ _ _ _ _ fun x ft u=> ?_
     obtain⟨t2,o2,e2,k2⟩:=Aej o.dst x o1;rw[k2,Xg,go _ (tr'++[(i,⟨ft,Lp a x,u⟩)]) _ _ o2 (hm2 _) (htr2 _),e2]
  ·obtain⟨t2,o2,e2,k2⟩:=Aej o.dst (.tup []) o1;rw[k2,go _ (tr'++[(i,tx0)]) _ _ o2 (hm2 _) (htr2 _),e2]
def unP(ops:Array Oper):List (Nat×Nat):=(List.range ops.size).flatMap fun j=>((List.range j).filter fun i=> !((Ky ops.toList []).getD j 0).testBit i).map fun i=>(i,j)
def AnO(ops:Array Oper):Bool:=(unP ops).all (fun p=>match ops[p.1]?,ops[p.2]? with|some o,some q=>o.apart ops q|_,_=>false)&&Db ops
def Sm(tr:List (Nat×Tx))(i:Nat):Foot:=Option.rec (motive:=fun _=>Foot) ⟨[],[]⟩ (fun p=>p.2.ft) (getQ tr i)
def Aep(l:List (Nat×Nat)):List (Nat×Tx) ->Bool:=
 List.rec (motive:=fun _=>List (Nat×Tx) ->Bool) (fun _=>true) (fun p _ ih tr=>Bool.rec (motive:=fun _=>Bool) false (ih tr) (Lu (Sm tr p.1) (Sm tr p.2))) l
def V3(ops:Array Oper)(tr:List (Nat×Tx)):Bool:=AnO ops&&Aep (unP ops) tr
theorem S4: ∀(l:List (Nat×Nat)) (tr:List (Nat×Tx)),Aep l tr=true -> ∀p∈l,Lu (Sm tr p.1) (Sm tr p.2)=true
 |[],_,_,p,hp=>by simp at hp|q::r,tr,h,p,hp=>by
  have h':Bool.rec (motive:=fun _=>Bool) false (Aep r tr) (Lu (Sm tr q.1) (Sm tr q.2))=true:=h;cases hi:Lu (Sm tr q.1) (Sm tr q.2)with
  |false=>rw[hi]at h';cases h'|true=>
   rw[hi]at h';rcases List.mem_cons.1 hp with rfl|hp
   ·exact hi
   ·exact S4 r tr h' p hp
theorem AaL{tr:List (Nat×Tx)}{n i:Nat}(hm:tr.map (·.1)=List.range n){x:Nat×Tx}(hx:tr[i]? =some x):x.1=i/\Sm tr i=x.2.ft:=by
 constructor
 ·have h1:(tr.map (·.1))[i]? =some x.1:=by rw[List.getElem?_map,hx];rfl
  rw[hm]at h1;have:=List.getElem?_eq_some_iff.1 h1;obtain⟨hlt,e⟩:=this;simpa using e.symm
 ·unfold Sm;rw[Y1,hx]
theorem Pm(ops:Array Oper)(ms:List Nat): ∀(tr:List (Nat×Tx)),(∀(i j:Nat) (x y:Nat×Tx),i<j ->tr[i]? =some x ->tr[j]? =some y ->((ms.getD y.1 0).testBit x.1||Lv ops x y)=true) ->B1 ops ms tr=true
 |[],_=>rfl|x::r,h=>by
  simp only[B1,zd];refine⟨?_,Pm ops ms r fun i j a b hij ha hb=>h (i+1) (j+1) a b (by omega) (by simpa using ha) (by simpa using hb)⟩;rw[List.all_eq_true];intro y hy;obtain⟨j,hj,e⟩:=List.getElem_of_mem hy;exact h 0 (j+1) x y (by omega) (by simp) (by simp[zn hj,e])
theorem Aef(ops:Array Oper)(tr:List (Nat×Tx))(hm:tr.map (·.1)=List.range ops.size)(h:V3 ops tr=true):B1 ops (Ky ops.toList []) tr=true/\Db ops=true:=by
 unfold V3 AnO at h;simp only[zd]at h;obtain⟨⟨h1,h2⟩,h3⟩:=h;refine⟨Pm ops _ tr fun i j x y hij hx hy=> ?_,h2⟩;obtain⟨ex,fx⟩:=AaL hm hx;obtain⟨ey,fy⟩:=AaL hm hy;cases ht:((Ky ops.toList []).getD y.1 0).testBit x.1 with
 |true=>rfl|false=>
  have hjn:j<ops.size:=by
   have:=congrArg List.length hm;simp at this;have:=(List.getElem?_eq_some_iff.1 hy).1;omega
  have hmem:(i,j)∈unP ops:=by
   unfold unP;rw[List.mem_flatMap];refine⟨j,by simpa using hjn, ?_⟩;rw[List.mem_map];exact⟨i,by rw[List.mem_filter];exact⟨by simpa using hij,by rw[ex,ey]at ht;rw[ht];rfl⟩,rfl⟩
  have g1:=List.all_eq_true.1 h1 _ hmem;have g2:=S4 _ _ h3 _ hmem;simp only[fx,fy]at g2;simp only[Bool.false_or];unfold Lv;rw[ex,ey];simp only at g1;cases ho:ops[i]? with
  |none=>rw[ho]at g1;simp at g1|some o=>
   cases hp:ops[j]? with
   |none=>rw[ho,hp]at g1;simp at g1|some q=>
    rw[ho,hp]at g1;simp only[g1,g2,Bool.true_or,Bool.and_self]
def AeD{R:Type}(s:St)(k:StQ ->R):R:=Fr.ofK s.F fun t=>k ⟨t,s.H,s.nm⟩
theorem AaB(s:St): ∃q:StQ,q.Ok/\q.to=s/\ ∀(R:Type) (k:StQ ->R),AeD s k=k q:=by
 obtain⟨t,o,e,h⟩:=Fr.ofK_eq s.F;exact⟨⟨t,s.H,s.nm⟩,⟨_,o⟩,by simp[StQ.to,e],fun R k=>h R _⟩
def AmS{R:Type}(draw:Bool):Program ->Array Oper ->List (Nat×Tx) ->Option (T R) ->Option (T R):=
 Bool.rec (motive:=fun _=>Program ->Array Oper ->List (Nat×Tx) ->Option (T R) ->Option (T R)) (fun _ _ _ k=>k) (fun P ops tr k=>Bool.rec (motive:=fun _=>Option (T R)) (Y9 true P ops tr k) k (V3 ops tr&&P.follows .mixedOrders)) draw
theorem AiA{R:Type}(draw:Bool)(ops:Array Oper)(tr tr':List (Nat×Tx))(hm:tr'.map (·.1)=List.range ops.size)(htr:draw=true ->tr=tr')(k:Option (T R)):
  AmS draw P ops tr k=Y9 draw P ops tr' k:=by
 cases draw with
 |false=>rfl|true=>
  obtain rfl:=htr rfl;show Bool.rec (motive:=fun _=>Option (T R)) (Y9 true P ops tr k) k (V3 ops tr&&P.follows .mixedOrders)=_;cases hq:V3 ops tr with
  |false=>rfl|true=>
   cases hf:P.follows .mixedOrders with
   |false=>rfl|true=>
    obtain⟨h1,h2⟩:=Aef ops tr hm hq;rw[U0,h1,h2,hf];rfl
def T4{R:Type}(P:Program)(orc:Orc)(ops:Array Oper)(draw:Bool)(s:StQ)(k:Out ->StQ ->Option (T R)):Option (T R):=
 bif draw&&F8 ops then Er P orc ops draw s.to fun o s'=>AeD s' fun q=>k o q
 else opsQ P orc ops draw s.nm ops.toList 0 [] s.t s.H fun tr t H=>AmS draw P ops tr (natK (s.nm+16*ops.size) fun n=>k .norm ⟨t,H,n⟩)
def KEq{R:Type}(kq:Out ->StQ ->Option (T R))(k:Out ->St ->Option (T R)):Prop:= ∀o (s:StQ),s.Ok ->kq o s=k o s.to
theorem Aid{R:Type}{kq:Out ->StQ ->Option (T R)}{k:Out ->St ->Option (T R)}(h:KEq kq k)(o:Out)(s:St):(AeD s fun q=>kq o q)=k o s:=by
 obtain⟨q,ho,e,hk⟩:=AaB s;rw[hk,h o q ho,e]
theorem Sv{R:Type}(ops:Array Oper)(draw:Bool)(s:StQ)(hs:s.Ok){kq:Out ->StQ ->Option (T R)}{k:Out ->St ->Option (T R)}(h:KEq kq k):T4 P orc ops draw s kq=Er P orc ops draw s.to k:=by
 unfold T4;cases hd:(draw&&F8 ops)with
 |true=>
  simp only[za];have:(fun o s'=>AeD s' fun q=>kq o q)=k:=by funext o s';exact Aid h o s'
  rw[this]
 |false=>
  simp only[zb];unfold Er;simp only[hd,zb];obtain⟨hi,ho⟩:=hs;have:=Aes (P:=P) (orc:=orc) (R:=R) ops draw s.nm ops.toList 0 (by simp) [] [] s.t hi s.H (fun tr t H=>AmS draw P ops tr (natK (s.nm+16*ops.size) fun n=>kq .norm ⟨t,H,n⟩))
   (fun tr s'=>Y9 draw P ops tr (k .norm ⟨s'.F,s'.H,s.nm+16*ops.size⟩)) ho rfl (fun _=>rfl) (fun tr tr' t H ho hm htr=>by
     rw[AiA draw ops tr tr' (by simpa using hm) htr,Ami,h .norm ⟨t,H,_⟩ ⟨hi,ho⟩];rfl)
  rw[this];have e:List.range ops.size=List.range' 0 ops.toList.length:=by rw[List.range_eq_range'];rfl
  rw[e];rfl
def Ya{R:Type}(k0:Nat)(note:Option Note)(s:StQ)(k:StQ ->Option (T R)):Option (T R):=match note with
 |none=>k s|some n=>match trim k0 (some n) s.to with
  |none=>none|some s0=>AeD s0 k
theorem Pu{R:Type}(k0:Nat)(note:Option Note)(s:StQ)(hs:s.Ok){kq:StQ ->Option (T R)}{k:St ->Option (T R)}(h: ∀s:StQ,s.Ok ->kq s=k s.to):
  Ya k0 note s kq=match trim k0 note s.to with|none=>none|some s0=>k s0:=by
 cases note with
 |none=>exact h s hs|some n=>
  simp only[Ya];cases trim k0 (some n) s.to with
  |none=>rfl|some s0=>
   obtain⟨q,ho,e,hk⟩:=AaB s0;simp only;rw[hk,h q ho,e]
def outK{R:Type}(o:Out):(StQ ->Option (T R)) ->(Out ->StQ ->Option (T R)) ->StQ ->Option (T R):=
 Out.rec (motive:=fun _=>(StQ ->Option (T R)) ->(Out ->StQ ->Option (T R)) ->StQ ->Option (T R)) (fun g _ s=>g s) (fun id _ k s=>k (.exit id) s) (fun l _ k s=>k (.goto l) s) (fun _ k s=>k .ret s) o
def Apo{R:Type}(o:Out):Nat ->(Out ->StQ ->Option (T R)) ->StQ ->Option (T R):=
 Out.rec (motive:=fun _=>Nat ->(Out ->StQ ->Option (T R)) ->StQ ->Option (T R)) (fun _ k s=>k .norm s) (fun j id k s=>Bool.rec (motive:=fun _=>Option (T R)) (k (.exit j) s) (k .norm s) (Nat.beq j id)) (fun l _ k s=>k (.goto l) s) (fun _ k s=>k .ret s) o
def Yy{R:Type}(k0:Nat)(note:Option Note)(body:StQ ->(Out ->StQ ->Option (T R)) ->Option (T R))(n:Nat):StQ ->(Out ->StQ ->Option (T R)) ->Option (T R):=
 Nat.rec (motive:=fun _=>StQ ->(Out ->StQ ->Option (T R)) ->Option (T R)) (fun _ _=>none) (fun _ ih s k=>body s fun o s'=>outK o (fun s'=>Ya k0 note s' fun s0=>ih s0 k) k s') n
theorem P5{R:Type}(k0:Nat)(note:Option Note){bq:StQ ->(Out ->StQ ->Option (T R)) ->Option (T R)}{b:St ->(Out ->St ->Option (T R)) ->Option (T R)}
  (hb: ∀(s:StQ) kq k,s.Ok ->KEq kq k ->bq s kq=b s.to k): ∀(n:Nat) (s:StQ) kq k,s.Ok ->KEq kq k ->Yy k0 note bq n s kq=E4 k0 note b n s.to k
 |0,s,kq,k,_,_=>rfl|n+1,s,kq,k,hs,hk=>by
  show(bq s fun o s'=>outK o (fun s'=>Ya k0 note s' fun s0=>Yy k0 note bq n s0 kq) kq s')=_;simp only[E4];refine hb s _ _ hs fun o s' hs'=> ?_
  cases o with
  |norm=>exact Pu k0 note s' hs' (kq:=fun s0=>Yy k0 note bq n s0 kq) (k:=fun s0=>E4 k0 note b n s0 k) fun s0 h0=>P5 k0 note hb n s0 kq k h0 hk
  |exit id=>exact hk _ _ hs'|goto l=>exact hk _ _ hs'|ret=>exact hk _ _ hs'
def AdT{R:Type}(k0 n:Nat)(ann:Ann)(c:Code)(ev:Option Nat ->StQ ->(Out ->StQ ->Option (T R)) ->Option (T R))(l:Nat)(k:Out ->StQ ->Option (T R))(s':StQ):Option (T R):=
 match findLabel c l with
  |some rest=>Ya k0 ((B2 rest).bind ann) s' fun s0=>Yy k0 ((B2 rest).bind ann) (fun s' k'=>ev (some l) s' fun o s''=>match o with
   | .goto m=>bif m==l then k' .norm s'' else none| .norm=>k' (.goto l) s''| .exit id=>k' (.exit id) s''| .ret=>k' .ret s'') n s0 fun o s''=>match o with
    | .goto _=>k .norm s''| .norm=>none| .exit id=>k (.exit id) s''| .ret=>k .ret s''
  |none=>none
def AiJ{R:Type}(x:AV)(a b:Option (T R)):Option (T R):=match x with
 | .c (.d (.v (.bool t)))=>Bool.rec (motive:=fun _=>Option (T R)) b a t
 |_=>none
def Ub{R:Type}(lab:Option Nat):Option (T R) ->Option (T R):=Option.rec (motive:=fun _=>Option (T R) ->Option (T R)) (fun x=>x) (fun _ _=>none) lab
def seqQ{R:Type}(lab:Option Nat):Code ->(Option Nat ->StQ ->(Out ->StQ ->Option (T R)) ->Option (T R)) ->(Option Nat ->StQ ->(Out ->StQ ->Option (T R)) ->Option (T R)) ->StQ ->(Out ->StQ ->Option (T R)) ->Option (T R):=
 Option.rec (motive:=fun _=>Code ->(Option Nat ->StQ ->(Out ->StQ ->Option (T R)) ->Option (T R)) ->(Option Nat ->StQ ->(Out ->StQ ->Option (T R)) ->Option (T R)) ->StQ ->(Out ->StQ ->Option (T R)) ->Option (T R))
  (fun _ ea eb s k=>ea none s fun o s'=>outK o (fun s'=>eb none s' k) k s')
  (fun l a ea eb s k=>bif Dg l a then ea (some l) s (fun o s'=>outK o (fun s'=>eb none s' k) k s')else eb (some l) s k) lab
def AmA{R:Type}(P:Program)(orc:Orc)(ann:Ann)(k0 n:Nat)(id:Nat)(ops:Array Oper)(draw:Bool)(s:StQ)(k:Out ->StQ ->Option (T R)):Option (T R):=match ann (id+100000)with
 |none=>T4 P orc ops draw s k|some nt=>Ya k0 (some nt) s fun s0=>Yy k0 ((B2 (.region id ops draw)).bind ann) (fun s' k'=>T4 P orc ops draw s' fun o s''=>match o with
  | .norm=>k' .ret s''|_=>none) n s0 fun o s''=>match o with
   | .ret=>k .norm s''|_=>none
def evQ{R:Type}(P:Program)(orc:Orc)(ann:Ann)(k0 n:Nat)(c:Code):Option Nat ->StQ ->(Out ->StQ ->Option (T R)) ->Option (T R):=
 Code.rec (motive:=fun _=>Option Nat ->StQ ->(Out ->StQ ->Option (T R)) ->Option (T R))
  (fun lab s k=>Ub lab (k .norm s))
  (fun id ops draw lab s k=>Ub lab (AmA P orc ann k0 n id ops draw s k))
  (fun a _ ea eb lab s k=>seqQ lab a ea eb s k)
  (fun c _ _ ex ey lab s k=>Ub lab (AiJ (opQ s.t c) (ex none s k) (ey none s k)))
  (fun id _ ec lab s k=>Ub lab (ec none s fun o s'=>Apo o id k s'))
  (fun c ec lab s k=>Ub lab (Ya k0 ((B2 c).bind ann) s fun s0=>Yy k0 ((B2 c).bind ann) (fun s' k'=>ec none s' k') n s0 k))
  (fun _ _ _ _ _ _ _ _ _=>none)
  (fun id lab s k=>Ub lab (k (.exit id) s))
  (fun c ec lab s k=>Ub lab (ec none s fun o s'=>match o with
    | .goto l=>AdT k0 n ann c ec l k s'| .norm=>k .norm s'| .exit id=>k (.exit id) s'| .ret=>k .ret s'))
  (fun m lab s k=>match lab with|none=>k .norm s|some l=>bif m==l then k .norm s else none)
  (fun l lab s k=>Ub lab (k (.goto l) s))
  (fun lab s k=>Ub lab (k .ret s))
  (fun _ _ _ _=>none) c
theorem AiI{R:Type}(x:AV)(a b:Option (T R)):AiJ x a b=match x with| .c (.d (.v (.bool t)))=>bif t then a else b|_=>none:=by
 unfold AiJ;split
 ·rename_i t;cases t<;>rfl
 ·rfl
theorem AoN{R:Type}(ann:Ann)(k0 n:Nat): ∀(c:Code) (lab:Option Nat) (s:StQ) (kq:Out ->StQ ->Option (T R)) (k:Out ->St ->Option (T R)),s.Ok ->KEq kq k ->evQ P orc ann k0 n c lab s kq=evK P orc ann k0 n c lab s.to k:=by
 intro c;induction c with
 |skip=>
  intro lab s kq k hs hk;cases lab with
  |none=>simp only[evK];exact hk _ _ hs|some l=>simp only[evK];rfl
 |region id ops draw=>
  intro lab s kq k hs hk;cases lab with
  |none=>
   simp only[evK];show AmA P orc ann k0 n id ops draw s kq=_;unfold AmA;cases ann (id+100000)with
   |none=>exact Sv ops draw s hs hk|some nt=>
    simp only[];refine Pu k0 (some nt) s hs fun s0 h0=> ?_
    refine P5 k0 _ (b:=fun s' k'=>Er P orc ops draw s' (Wv fun s''=>k' .ret s'')) (fun s1 kq1 k1 h1 hk1=>Sv ops draw s1 h1 fun o s2 h2=> ?_) n s0 _ _ h0 fun o s2 h2=> ?_
    ·cases o with
     |norm=>exact hk1 _ _ h2|_=>rfl
    ·cases o with
     |ret=>exact hk _ _ h2|_=>rfl
  |some l=>simp only[evK];rfl
 |seq a b iha ihb=>
  intro lab s kq k hs hk;have go: ∀lab',(evQ P orc ann k0 n a lab' s fun o s'=>outK o (fun s'=>evQ P orc ann k0 n b none s' kq) kq s')=evK P orc ann k0 n a lab' s.to fun o s'=>match o with
   | .norm=>evK P orc ann k0 n b none s' k| .exit id=>k (.exit id) s'| .goto l=>k (.goto l) s'| .ret=>k .ret s':=fun lab'=>iha lab' s _ _ hs fun o s' hs'=>by
    cases o with
    |norm=>exact ihb none s' kq k hs' hk|exit id=>exact hk _ _ hs'|goto l=>exact hk _ _ hs'|ret=>exact hk _ _ hs'
  cases lab with
  |none=>simp only[evK];exact go none|some l=>
   simp only[evK];show(bif Dg l a then(evQ P orc ann k0 n a (some l) s fun o s'=>outK o (fun s'=>evQ P orc ann k0 n b none s' kq) kq s')else evQ P orc ann k0 n b (some l) s kq)=_;cases Dg l a with
   |true=>simp only[za];exact go (some l)|false=>simp only[zb];exact ihb (some l) s kq k hs hk
 |cond c x y ihx ihy=>
  intro lab s kq k hs hk;cases lab with
  |some l=>simp only[evK];rfl|none=>
   simp only[evK];show AiJ (opQ s.t c) (evQ P orc ann k0 n x none s kq) (evQ P orc ann k0 n y none s kq)=_;have hs1:=hs;obtain⟨hi,ho⟩:=hs;rw[AiI,AjU ho,ihx none s kq k hs1 hk,ihy none s kq k hs1 hk];rfl
 |block id c ih=>
  intro lab s kq k hs hk;cases lab with
  |some l=>simp only[evK];rfl|none=>
   simp only[evK];refine ih none s _ _ hs fun o s' hs'=> ?_
   cases o with
   |norm=>exact hk _ _ hs'|exit j=>
    show Bool.rec (motive:=fun _=>Option (T R)) (kq (.exit j) s') (kq .norm s') (Nat.beq j id)=bif j==id then _ else _;have e:(j==id)=Nat.beq j id:=by rw[beqD];exact Bool.beq_eq_decide_eq j id
    rw[e];cases Nat.beq j id with
    |true=>exact hk _ _ hs'|false=>exact hk _ _ hs'
   |goto l=>exact hk _ _ hs'|ret=>exact hk _ _ hs'
 |loop c ih=>
  intro lab s kq k hs hk;cases lab with
  |some l=>simp only[evK];rfl|none=>
   simp only[evK];exact Pu k0 _ s hs (kq:=fun s0=>Yy k0 ((B2 c).bind ann) (fun s' k'=>evQ P orc ann k0 n c none s' k') n s0 kq) (k:=fun s0=>E4 k0 ((B2 c).bind ann) (fun s' k'=>evK P orc ann k0 n c none s' k') n s0 k) fun s0 h0=>P5 k0 _ (fun s1 kq1 k1 h1 hk1=>ih none s1 kq1 k1 h1 hk1) n s0 kq k h0 hk
 |scope c ih=>
  intro lab s kq k hs hk;cases lab with
  |some l=>simp only[evK];rfl|none=>
   simp only[evK];refine ih none s _ _ hs fun o s' hs'=> ?_
   cases o with
   |norm=>exact hk _ _ hs'|exit id=>exact hk _ _ hs'|ret=>exact hk _ _ hs'|goto l=>
    show AdT k0 n ann c (evQ P orc ann k0 n c) l kq s'=_;unfold AdT;simp only[];cases findLabel c l with
    |none=>rfl|some rest=>
     simp only[];refine Pu k0 _ s' hs' fun s0 h0=> ?_
     refine P5 k0 _ (b:=fun s' k'=>evK P orc ann k0 n c (some l) s' fun o s''=>match o with
      | .goto m=>bif m==l then k' .norm s'' else none| .norm=>k' (.goto l) s''| .exit id=>k' (.exit id) s''| .ret=>k' .ret s'') (fun s1 kq1 k1 h1 hk1=>ih (some l) s1 _ _ h1 fun o s2 h2=> ?_) n s0 _ _ h0 fun o s2 h2=> ?_
     ·cases o with
      |goto m=>cases hj:(m==l)with
       |true=>simp only[hj,za];exact hk1 _ _ h2|false=>simp only[hj,zb]
      |norm=>exact hk1 _ _ h2|exit id=>exact hk1 _ _ h2|ret=>exact hk1 _ _ h2
     ·cases o with
      |goto m=>exact hk _ _ h2|norm=>rfl|exit id=>exact hk _ _ h2|ret=>exact hk _ _ h2
 |label m=>
  intro lab s kq k hs hk;cases lab with
  |none=>simp only[evK];exact hk _ _ hs|some l=>
   simp only[evK];show(bif m==l then kq .norm s else none)=_;cases hj:(m==l)with
   |true=>simp only[za];exact hk _ _ hs|false=>simp only[zb]
 |goto l=>intro lab s kq k hs hk;cases lab with
  |none=>simp only[evK];exact hk _ _ hs|some l=>simp only[evK];rfl
 |exit l=>intro lab s kq k hs hk;cases lab with
  |none=>simp only[evK];exact hk _ _ hs|some l=>simp only[evK];rfl
 |ret=>intro lab s kq k hs hk;cases lab with
  |none=>simp only[evK];exact hk _ _ hs|some l=>simp only[evK];rfl
 |_=>intro lab s kq k hs hk;cases lab<;>(simp only[evK];rfl)
def T1(P:Program)(fn:Func)(t:Fr)(H:Hp):Option (List (Bool×List C)):=
 fn.results.toList.foldr (fun r acc=>match acc with
  |none=>none|some l=>match r with
   | .tmp i=>(match t.get i with
    | .c x=>some ((false,[x])::l)| .agg cs=>some ((true,cs)::l)|_=>none)
   | .cell a ty=>(match t.get a,aggT P ty,Bm P ty with
    | .c (.ptr h off),some ag,some n=>(match Gl H h 0 0 off (bif ag then n else 1) ag with
     |some (.c x)=>some ((false,[x])::l)|some (.agg cs)=>some ((true,cs)::l)|_=>none)
    |_,_,_=>none)) (some [])
theorem Yh(fn:Func)(s:StQ)(hs:s.Ok):T1 P fn s.t s.H=G2 P fn s.to:=by
 obtain⟨hi,ho⟩:=hs;have e: ∀i,s.t.get i=s.to.F.getD i .u:=fun i=>by
  have:=Fr.get_eq ho (Nat.zero_le i);rwa [Nat.sub_zero]at this
 unfold T1 G2;simp only[e];rfl
def endQ{R:Type}(P:Program)(fn:Func)(k0:Nat)(k:AV ->Hp ->Option (T R)):Out ->StQ ->Option (T R):=fun o s=>match o with
 | .exit _=>none| .goto _=>none|_=>match T1 P fn s.t s.H with
  |some l=>(match Fj l with
   |some x=>let L:=newL k0 s.H (Ev x);k (renA (newN k0 L) x) (Km k0 s.H L)|none=>none)
  |none=>none
theorem AmO{R:Type}(fn:Func)(k0:Nat)(k:AV ->Hp ->Option (T R)):KEq (endQ P fn k0 k) (endK P fn k0 k):=fun o s hs=>by
 unfold endQ endK;rw[Yh fn s hs];rfl
def Fu{R:Type}(P:Program)(orc:Orc)(ann:Ann)(n:Nat)(fn:Func)(c:Code)(args:List AV)(H:Hp)(k:AV ->Hp ->Option (T R)):Option (T R):=
 Fr.putsK args 0 (Fr.base (args.length+(fn.ntmps -args.length)) 0 (args.length+(fn.ntmps -args.length))) fun t=>evQ P orc ann H.length n c none ⟨t,H,H.length⟩ (endQ P fn H.length k)
theorem Abc{R:Type}(ann:Ann)(n:Nat)(fn:Func)(c:Code)(args:List AV)(H:Hp)(k:AV ->Hp ->Option (T R)):Fu P orc ann n fn c args H k=W6 P orc ann n fn c args H k:=by
 unfold Fu W6;have hb:=Fr.base_ok (args.length+(fn.ntmps -args.length)) 0 (args.length+(fn.ntmps -args.length)) (Nat.le_refl _);rw[Nat.zero_add]at hb;obtain⟨t,o,e,h⟩:=Fr.putsK_eq args hb.1 (i:=0) (by omega);rw[h,AoN (P:=P) (orc:=orc) ann H.length n c none ⟨t,H,H.length⟩ _ _ ⟨_,o⟩ (AmO fn H.length k)];congr 1;unfold StQ.to;rw[e,hb.2];simp
end
theorem Apc{P:Program}{orc:Orc}(ho:B4 P orc){ann:Ann}{n:Nat}{f:FuncId}{fn:Func}{c:Code}{args:List AV}{H:Hp}{x:AV}{H':Hp}(hf:P.funcs[f]? =some fn)(hb:fn.body=some c)(hH:seqN 0 H=true)
 (h:Fu P orc ann n fn c args H (fun x H'=>some (.leaf (x,H')))=some (.leaf (x,H'))):CX P f args H x H':=Akp ho hf hb hH (by rw[Abc]at h;exact h)
def frzP(H:Hp):List (Bool×List C) ->Option (List (Bool×List D))
 |[]=>some []|p::r=>match frzL H 400 p.2 with
  |some (ds,_)=>match frzP H r with
   |some l=>some ((p.1,ds)::l)|none=>none
  |none=>none
def Aoh(p:Bool×List D):Bool×List C:=(p.1,p.2.map .d)
def frzA(H:Hp):AV ->Option AV
 | .c x=>match frz H 400 x with
  |some (d,_)=>some (.c (.d d))|none=>none
 | .agg cs=>match frzL H 400 cs with
  |some (ds,_)=>some (.agg (ds.map .d))|none=>none
 | .tup ps=>match frzP H ps with
  |some l=>some (.tup (l.map Aoh))|none=>none
 | .u=>some .u
section
variable {O:Bt}{w:World}{I:Im}{H:Hp}
def allB(O:Bt)(I:Im):Im:=fun b o=>I b o\/ ∃k,(O k).blk=some b
theorem T2{I':Im}{O':Bt}{ds:List D}{vs:List Value}(h:RepDs w I' ds vs):RepCs O' w I' (ds.map .d) vs:=by
 refine⟨by simpa using h.1,fun i c v h1 h2=> ?_⟩;rw[List.getElem?_map]at h1;cases hd:ds[i]? with
 |none=>rw[hd]at h1;cases h1|some d=>rw[hd]at h1;cases h1;exact h.2 i d v hd h2
theorem Aft(hr:RelH O H I w){O':Bt}: ∀(ps:List (Bool×List C)) (l:List (Bool×List D)),frzP H ps=some l ->l.length=ps.length/\ ∀(i:Nat) p q v,ps[i]? =some p ->l[i]? =some q ->RepP O w I p v ->RepP O' w (allB O I) (Aoh q) v
 |[],l,h=>by simp[frzP]at h;subst h;exact⟨rfl,fun i p q v h=>by simp at h⟩
 |p::r,l,h=>by
  simp only[frzP]at h;split at h
  ·rename_i ds ks hf;split at h
   ·rename_i l' hl;simp only[zj]at h;subst h;obtain⟨h1,h2⟩:=Aft hr r l' hl;refine⟨by simp[h1],fun i p' q v e1 e2 hp=> ?_⟩;cases i with
    |succ i=>exact h2 i p' q v (by simpa using e1) (by simpa using e2) hp|zero=>
     simp at e1 e2;subst e1 e2;obtain⟨b,cs⟩:=p;have key: ∀vs,RepCs O w I cs vs ->RepDs w (allB O I) ds vs:=fun vs hv=>(F5 hr 400 cs ds ks vs hf hv).2 _ (fun _ _ hi=> .inl hi) (fun k _ b hb o=> .inr ⟨k,hb⟩)
     cases b with
     |true=>obtain⟨vs,rfl,hv⟩:=hp;exact⟨vs,rfl,T2 (key _ hv)⟩
     |false=>
      obtain⟨c,hcs,hv⟩:=hp;have hcs:cs=[c]:=hcs;subst hcs;have:=key [v] ⟨rfl,fun i c' v' h1 h2=>by
       cases i with
       |zero=>simp at h1 h2;subst h1 h2;exact hv|succ i=>simp at h1⟩
      match ds,this with
      |[d],this=>exact⟨.d d,rfl,this.2 0 d v rfl rfl⟩
   ·simp at h
  ·simp at h
theorem Afu(hr:RelH O H I w){O':Bt}{x y:AV}{v:Value}(h:frzA H x=some y)(hx:RepA O w I x v):RepA O' w (allB O I) y v:=by
 cases x with
 |c x=>
  simp only[frzA]at h;split at h
  ·rename_i d ks hf;simp only[zj]at h;subst h;exact(AaJ hr 400 x d ks v hf hx).2 _ (fun _ _ hi=> .inl hi) (fun k _ b hb o=> .inr ⟨k,hb⟩)
  ·simp at h
 |agg cs=>
  simp only[frzA]at h;split at h
  ·rename_i ds ks hf;simp only[zj]at h;subst h;obtain⟨vs,rfl,hv⟩:=hx;exact⟨vs,rfl,T2 ((F5 hr 400 cs ds ks _ hf hv).2 _ (fun _ _ hi=> .inl hi) (fun k _ b hb o=> .inr ⟨k,hb⟩))⟩
  ·simp at h
 |tup ps=>
  simp only[frzA]at h;split at h
  ·rename_i l hf;simp only[zj]at h;subst h;obtain⟨vs,rfl,hl,hv⟩:=hx;obtain⟨h1,h2⟩:=Aft (O':=O') hr ps l hf;refine⟨vs,rfl,by simpa[h1]using hl,fun i p x e1 e2=> ?_⟩;rw[List.getElem?_map]at e1;cases hq:l[i]? with
   |none=>rw[hq]at e1;cases e1|some q=>
    rw[hq]at e1;simp only[Option.map_some,zj]at e1;subst e1;have hlt:i<ps.length:=by rw[<-h1];exact(List.getElem?_eq_some_iff.1 hq).1
    exact h2 i _ q x (zn hlt) hq (hv i _ x (zn hlt) e2)
  ·simp at h
 |u=>simp[frzA]at h;subst h;trivial
end
theorem CR.data{P:Program}{f:FuncId}{args:List AV}{x y:AV}{Hr:Hp}(h:CR P f args [] x Hr)(hf:frzA Hr x=some y):CR P f args [] y []:=by
 intro O I w vs hr ha;refine(h O I w vs hr ha).mono fun e w' ⟨v,O',I',he,hr',hx,hE,hm⟩=> ?_
 have hfree: ∀h,O h= .free:=fun h=>hr.dom h rfl
 refine⟨v,O,allB O' I',he, ?_,Afu hr' hf hx, ?_, .refl _⟩
 ·refine⟨⟨fun i j b hi=> ?_,fun i b hi=> ?_,fun i b o hi=> ?_,fun b o hi=> ?_,hr'.gl.step (fun _ _ hi=> .inl hi) (fun _ _ _=>rfl)⟩,fun i _=>hfree i,fun i B hB=>by simp[look]at hB⟩
  ·rw[hfree i]at hi;cases hi
  ·rw[hfree i]at hi;cases hi
  ·rw[hfree i]at hi;cases hi
  ·rcases hi with hi|⟨k,hk⟩
   ·exact hr'.old b o hi
   ·exact hr'.lt k b hk
 ·refine⟨hE.os,hE.tape,hE.output,hE.size,hE.block,fun b o hi=> .inl (hE.keepI b o hi),hE.cell,fun b o hi=> ?_,fun i b hb=> .inl ⟨i,hb⟩,hE.shapes⟩;rcases hi with hi|⟨k,hk⟩
  ·exact hE.newI b o hi
  ·rcases hE.newB k b hk with⟨j,hj⟩|hj
   ·exact .inr (.inr ⟨j,hj⟩)
   ·exact .inr (.inl hj)
def Ur(H:Hp):List AV ->Option (List AV)
 |[]=>some []|x::r=>match frzA H x with
  |some y=>match Ur H r with
   |some l=>some (y::l)|none=>none
  |none=>none
theorem AaK{O O':Bt}{w:World}{I:Im}{H:Hp}(hr:RelH O H I w): ∀(xs ys:List AV),Ur H xs=some ys ->ys.length=xs.length/\ ∀(i:Nat) x y v,xs[i]? =some x ->ys[i]? =some y ->RepA O w I x v ->RepA O' w (allB O I) y v
 |[],ys,h=>by simp[Ur]at h;subst h;exact⟨rfl,fun i x y v h=>by simp at h⟩
 |x::r,ys,h=>by
  simp only[Ur]at h;split at h
  ·rename_i y hy;split at h
   ·rename_i l hl;simp only[zj]at h;subst h;obtain⟨h1,h2⟩:=AaK (O':=O') hr r l hl;refine⟨by simp[h1],fun i x' y' v e1 e2 hx=> ?_⟩;cases i with
    |zero=>simp at e1 e2;subst e1 e2;exact Afu hr hy hx|succ i=>exact h2 i x' y' v (by simpa using e1) (by simpa using e2) hx
   ·simp at h
  ·simp at h
section
variable {J:Type}[Inhabited J]
def okE(enc:J ->D)(x:D):Bool:= @decide (∃a,DE x (enc a)) (Classical.propDecidable _)
def theE(enc:J ->D)(x:D):J:= @dite _ (∃a,DE x (enc a)) (Classical.propDecidable _) (fun h=>Classical.choose h) (fun _=>default)
omit [Inhabited J] in
theorem AeC{enc:J ->D}{x:D}:okE enc x=true↔ ∃a,DE x (enc a):=by unfold okE;simp
theorem Du{enc:J ->D}{x:D}(h:okE enc x=true):DE x (enc (theE enc x)):=by
 have h':=AeC.1 h;unfold theE;rw[dif_pos h'];exact Classical.choose_spec h'
theorem AcN{enc:J ->D}(inj: ∀a b,DE (enc a) (enc b) ->a=b){x:D}{a:J}(h1:DE x (enc a))(h2:DE (enc a) x):okE enc x=true/\theE enc x=a:=by
 have h:=AeC.2 ⟨a,h1⟩;exact⟨h,(inj _ _ (h2.trans (Du h))).symm⟩
end
def Ad{O:Type}(sz:Nat)(c:O ->List D)(d0:O)(l:List O):D:= .sl sz l.length fun i=>c (l.getD i d0)
theorem Wn{O:Type}{d:O}: ∀{l l':List O},l.length=l'.length ->(∀i,i<l.length ->l.getD i d=l'.getD i d) ->l=l'
 |[],[],_,_=>rfl|x::r,y::r',hl,h=>by
  have h0:=h 0 (by simp);simp at h0;rw[h0,Wn (l:=r) (l':=r') (by simpa using hl) (fun i hi=>by have:=h (i+1) (by simpa using hi);simpa using this)]
 |[],_::_,hl,_=>by simp at hl|_::_,[],hl,_=>by simp at hl
theorem A8{O:Type}{sz:Nat}{c:O ->List D}{d0:O}(hc: ∀a b,DEs (c a) (c b) ->a=b)(l l':List O)(h:DE (Ad sz c d0 l) (Ad sz c d0 l')):l=l':=by
 unfold Ad at h;generalize he:l'.length=n' at h;generalize hg:(fun i=>c (l'.getD i d0))=g at h;generalize hn:l.length=n at h;generalize hf:(fun i=>c (l.getD i d0))=f at h;cases h with
 |sl _ _ _ _ h1 h2=>
  refine Wn (d:=d0) (by omega) fun i hi=> ?_
  refine hc _ _ ⟨?_,fun j d e hd he'=> ?_⟩
  ·have:=h1 i (by omega);rw[<-hf,<-hg]at this;exact this
  ·exact h2 i j d e (by omega) (by rw[<-hf];exact hd) (by rw[<-hg];exact he')
theorem W3{a b:Value}(h:DE (.v a) (.v b)):a=b:=by cases h;rfl
theorem wrap_id{n:Int}(h0: -9223372036854775808<=n:=by omega)(h1:n<=9223372036854775807:=by omega):wrap IntKind.i64 n=n:=by
 have e:wrap IntKind.i64 n=(n+9223372036854775808)%18446744073709551616 -9223372036854775808:=by
  unfold wrap;simp[IntKind.signed,IntKind.bits];omega
 rw[e];omega
theorem lt1{k n:Nat}(h:k<n):decide ((k:Int)<(n:Int))=true:=by simp;omega
theorem lt0{k n:Nat}(h: ¬k<n):decide ((k:Int)<(n:Int))=false:=by simp;omega
theorem ge0(k:Nat):decide ((0:Int)<=(k:Int))=true:=by simp
theorem tn(k:Nat):Int.toNat (k:Int)=k:=by simp
theorem nx{k n:Nat}(h:k<n)(hn:n<=9223372036854775807:=by omega):wrap IntKind.i64 ((k:Int)+1)=((k+1:Nat):Int):=by rw[wrap_id];omega
theorem Av{J:Type}{T:List J}{d:J}{a:Nat}(h:a<T.length):T.drop a=T.getD a d::T.drop (a+1):=by
 rw[List.drop_eq_getElem_cons h];simp[List.getD,h]
section
variable {O:Type}{c:O ->List D}{d0:O}
structure RL (c:O ->List D) (d0:O) (n:Nat) (f:RD) (l:List O):Prop where
 len:n=l.length
 le: ∀i,i<n ->DEs (f i) (c (l.getD i d0))
 ge: ∀i,i<n ->DEs (c (l.getD i d0)) (f i)
theorem RL.de{n sz:Nat}{f:RD}{l:List O}(h:RL c d0 n f l):DE (.sl sz n f) (Ad sz c d0 l):=by
 obtain⟨rfl,h1,_⟩:=h;exact .sls h1
theorem RL.ed{n sz:Nat}{f:RD}{l:List O}(h:RL c d0 n f l):DE (Ad sz c d0 l) (.sl sz n f):=by
 obtain⟨rfl,_,h2⟩:=h;exact .sls h2
theorem RL.nil(f:RD):RL c d0 0 f []:=⟨rfl,fun i h=>by omega,fun i h=>by omega⟩
theorem RL.data(l:List O):RL c d0 l.length (fun i=>c (l.getD i d0)) l:=⟨rfl,fun i _=> .refl _,fun i _=> .refl _⟩
theorem RL.eq{n:Nat}{f:RD}{l:List O}(hn:n=l.length)(h: ∀i,i<n ->f i=c (l.getD i d0)):RL c d0 n f l:=⟨hn,fun i hi=>by rw[h i hi];exact .refl _,fun i hi=>by rw[h i hi];exact .refl _⟩
theorem K0{l l':List O}{i:Nat}(h:i<l.length):(l++l').getD i d0=l.getD i d0:=by
 rw[zh,List.getElem?_append_left h,<-zh]
theorem K1{l l':List O}{i:Nat}(h:l.length<=i):(l++l').getD i d0=l'.getD (i -l.length) d0:=by
 rw[zh,List.getElem?_append_right h,<-zh]
theorem RL.cat{n m:Nat}{f g:RD}{l l':List O}(h:RL c d0 n f l)(k:RL c d0 m g l'):RL c d0 (n+m) (appF n f g) (l++l'):=by
 have hf: ∀i,i<n+m ->(i<n/\appF n f g i=f i/\(l++l').getD i d0=l.getD i d0)\/(n<=i/\appF n f g i=g (i -n)/\(l++l').getD i d0=l'.getD (i -n) d0):=fun i hi=>by
  unfold appF;rw[bltD];by_cases e:i<n
  ·left;rw[zk e];exact⟨e,rfl,K0 (by rw[<-h.len];exact e)⟩
  ·right;rw[zt e];exact⟨by omega,rfl,by rw[K1 (by rw[<-h.len];omega),<-h.len]⟩
 refine⟨by rw[h.len,k.len,List.length_append],fun i hi=> ?_,fun i hi=> ?_⟩
 ·rcases hf i hi with⟨h1,h2,h3⟩|⟨h1,h2,h3⟩
  ·rw[h2,h3];exact h.le i h1
  ·rw[h2,h3];exact k.le (i -n) (by omega)
 ·rcases hf i hi with⟨h1,h2,h3⟩|⟨h1,h2,h3⟩
  ·rw[h2,h3];exact h.ge i h1
  ·rw[h2,h3];exact k.ge (i -n) (by omega)
theorem RL.one{sz:Nat}{ds:List D}{x:O}(hs:ds.length=sz)(h1:DEs ds (c x))(h2:DEs (c x) ds):RL c d0 1 (Ae ds sz) [x]:=by
 have e: ∀i,i<1 ->Ae ds sz i=ds/\ [x].getD i d0=x:=fun i hi=>by
  obtain rfl:i=0:=by omega
  refine⟨?_,rfl⟩;unfold Ae;simp[<-hs]
 exact⟨rfl,fun i hi=>by rw[(e i hi).1,(e i hi).2];exact h1,fun i hi=>by rw[(e i hi).1,(e i hi).2];exact h2⟩
theorem RL.app{n sz:Nat}{f:RD}{l:List O}{ds:List D}{x:O}(h:RL c d0 n f l)(hs:ds.length=sz)(h1:DEs ds (c x))(h2:DEs (c x) ds):RL c d0 (n+1) (appF n f (Ae ds sz)) (l++[x]):=h.cat (.one hs h1 h2)
theorem RL.app'{n sz:Nat}{f:RD}{l:List O}{x:O}(h:RL c d0 n f l)(hs:(c x).length=sz):RL c d0 (n+1) (appF n f (Ae (c x) sz)) (l++[x]):=h.app hs (.refl _) (.refl _)
theorem RL.ble{n sz:Nat}{t:TypeId}{f:RD}{l:List O}(h:RL c d0 n f l):Ble (.row n f sz t) (.row l.length (fun i=>c (l.getD i d0)) sz t):=⟨h.len,rfl,rfl,h.le⟩
end
section
variable {O:Type}{c:O ->List D}{d0:O}{sz:Nat}
theorem RL.the(hc: ∀a b,DEs (c a) (c b) ->a=b){n:Nat}{f:RD}{l:List O}(h:RL c d0 n f l):okE (Ad sz c d0) (.sl sz n f)=true/\theE (Ad sz c d0) (.sl sz n f)=l:=
 AcN (A8 hc) h.de h.ed
theorem Bj(hc: ∀a b,DEs (c a) (c b) ->a=b)(l:List O):okE (Ad sz c d0) (Ad sz c d0 l)=true/\theE (Ad sz c d0) (Ad sz c d0 l)=l:=AcN (A8 hc) (.refl _) (.refl _)
theorem RL.of_ok{n:Nat}{f:RD}(h:okE (Ad sz c d0) (.sl sz n f)=true):n=(theE (Ad sz c d0) (.sl sz n f)).length/\ ∀i,i<n ->DEs (f i) (c ((theE (Ad sz c d0) (.sl sz n f)).getD i d0)):=by
 have:=Du h;generalize theE (Ad sz c d0) (.sl sz n f)=l at this;unfold Ad at this;generalize hy:D.sl sz l.length (fun i=>c (l.getD i d0))=y at this;cases this with
 |sl _ _ _ g h1 h2=>
  injection hy with _ e1 e2;subst e2;exact⟨e1.symm,fun i hi=>⟨h1 i hi,fun j d e hd he=>h2 i j d e hi hd he⟩⟩
theorem Agl{n:Nat}{t:TypeId}{f:RD}(h:okE (Ad sz c d0) (.sl sz n f)=true):Ble (.row n f sz t) (.row (theE (Ad sz c d0) (.sl sz n f)).length (fun i=>c ((theE (Ad sz c d0) (.sl sz n f)).getD i d0)) sz t):=
 ⟨(RL.of_ok h).1,rfl,rfl,(RL.of_ok h).2⟩
end
def ansB{A:Type}(d:Dec (List AV×Hp) A)(c b:A ->Bool)(r:A ->AV)(H':A ->Hp)(r2:A ->AV)(H2:A ->Hp):(R:Type) ->List AV ->Hp ->(AV ->Hp ->Option (T R)) ->Option (T R):=fun _ args H k=>
 match d.dec (args,H)with
 |some a=>bif c a then(bif b a then k (r a) (H' a)else k (r2 a) (H2 a))else none|none=>none
theorem AnsS.b{P:Program}{f:FuncId}{A:Type}{d:Dec (List AV×Hp) A}{c b:A ->Bool}{r:A ->AV}{H':A ->Hp}{r2:A ->AV}{H2:A ->Hp}(hc: ∀a,c a=true ->b a=true ->CX P f (d.enc a).1 (d.enc a).2 (r a) (H' a))
  (hc2: ∀a,c a=true ->b a=false ->CX P f (d.enc a).1 (d.enc a).2 (r2 a) (H2 a)):AnsS P f (ansB d c b r H' r2 H2):=by
 refine⟨fun R args H k t h=> ?_,fun args H=> ?_⟩
 ·unfold ansB at h;cases hd:d.dec (args,H)with
  |none=>rw[hd]at h;cases h|some a=>
   rw[hd]at h;simp only[]at h;cases hca:c a with
   |false=>rw[hca]at h;cases h|true=>
    rw[hca]at h;simp only[za]at h;have e:=d.ok _ _ hd;cases hb:b a with
    |true=>
     rw[hb]at h;have:=hc a hca hb;rw[<-e]at this;exact⟨_,_,h,this⟩
    |false=>
     rw[hb]at h;have:=hc2 a hca hb;rw[<-e]at this;exact⟨_,_,h,this⟩
 ·unfold ansB;cases d.dec (args,H)with
  |none=>exact .no fun R k=>rfl
  |some a=>exact .bif _ (.bif _ (.one _ _ fun R k=>rfl) (.one _ _ fun R k=>rfl)) (.no fun R k=>rfl)
namespace Dec
def mp(h:Nat):Dec C Unit:=⟨fun x=>match x with| .mp k=>bif Nat.beq k h then some ()else none|_=>none,fun _=> .mp h,fun x a e=>by
 split at e
 ·rename_i k;cases hb:Nat.beq k h with
  |true=>rw[zg hb]|false=>rw[hb]at e;cases e
 ·cases e⟩
def mapB(kd:Nat):Dec Blk (List (Value×Value)):=⟨fun x=>match x with| .map k l=>bif Nat.beq k kd then some l else none|_=>none,fun l=> .map kd l,fun x a e=>by
 split at e
 ·rename_i k l;cases hb:Nat.beq k kd with
  |true=>rw[hb]at e;simp only[za,zj]at e;rw[zg hb,e]|false=>rw[hb]at e;cases e
 ·cases e⟩
def meth(f:FuncId):Dec C Unit:=⟨fun x=>match x with| .fn g [.ptr 0 0] []=>bif Nat.beq g f then some ()else none|_=>none,fun _=> .fn f [.ptr 0 0] [],fun x a e=>by
 split at e
 ·rename_i g;cases hb:Nat.beq g f with
  |true=>rw[zg hb]|false=>rw[hb]at e;cases e
 ·cases e⟩
end Dec
def same{J:Type}(a b:J):Bool:= @decide (a=b) (Classical.propDecidable _)
theorem Tz{J:Type}{a b:J}:same a b=true↔a=b:=by unfold same;simp
theorem Adc(a b:BA):(a.toList==b.toList)=same a b:=by
 rw[Bool.eq_iff_iff,Tz,beq_iff_eq];refine⟨fun h=> ?_,fun h=>by rw[h]⟩;rw[ByteArray.toList_eq,ByteArray.toList_eq]at h;cases a;cases b;simp only[ByteArray.mk.injEq];exact Array.toList_inj.1 h
abbrev lB(b:Bool):Option (T (AV×Hp)):=some (.leaf (vB b,[]))
theorem bAnd(a b:Bool):(bif a then lB b else lB false)=lB (a&&b):=by cases a<;>rfl
theorem fNot{J:Type}(b:Bool)(X Y:J):(bif !b then X else Y)=bif b then Y else X:=by cases b<;>rfl
theorem fAnd{J:Type}(a b:Bool)(X Y:J):(bif a then(bif b then Y else X)else X)=bif(a&&b)then Y else X:=by cases a<;>rfl
theorem fOr{J:Type}(a b:Bool)(X Y:J):(bif a then X else(bif b then X else Y))=bif(a||b)then X else Y:=by cases a<;>rfl
theorem neN(a b:Int):(a !=b)= !(a==b):=rfl
theorem Jx(c a b:Bool):(bif c then some (T.leaf (vB a,([]:Hp)))else some (T.leaf (vB b,[])))=some (T.leaf (vB (bif c then a else b),[])):=by cases c<;>rfl
theorem Aqf(c:Bool)(a b:Int):(bif c then some (T.leaf (vI a,([]:Hp)))else some (T.leaf (vI b,[])))=some (T.leaf (vI (bif c then a else b),[])):=by cases c<;>rfl
theorem tt:(true&&true)=true:=rfl
def ansG(ok:LB)(r:List AV ->AV):(R:Type) ->List AV ->Hp ->(AV ->Hp ->Option (T R)) ->Option (T R):=fun _ args H k=>match H with
 |[]=>bif ok args then k (r args) []else none|_::_=>none
section
variable {J:Type}[Inhabited J]
def okX(enc:J ->List AV)(x:List AV):Bool:= @decide (∃a,Asle x (enc a)) (Classical.propDecidable _)
def theT(enc:J ->List AV)(x:List AV):J:= @dite _ (∃a,Asle x (enc a)) (Classical.propDecidable _) (fun h=>Classical.choose h) (fun _=>default)
omit [Inhabited J] in
theorem Q5{enc:J ->List AV}{x:List AV}:okX enc x=true↔ ∃a,Asle x (enc a):=by unfold okX;simp
theorem Gw{enc:J ->List AV}{x:List AV}(h:okX enc x=true):Asle x (enc (theT enc x)):=by
 have h':=Q5.1 h;unfold theT;rw[dif_pos h'];exact Classical.choose_spec h'
def InjT(enc:J ->List AV):Prop:= ∀a b,Asle (enc a) (enc b) ->a=b
omit [Inhabited J] in
theorem Aex{enc:J ->List AV}(a:J):okX enc (enc a)=true:=Q5.2 ⟨a, .refl _⟩
theorem Aj{enc:J ->List AV}(inj:InjT enc)(a:J):theT enc (enc a)=a:=(inj _ _ (Gw (Aex a))).symm
def okG(enc:J ->List AV)(c:J ->Bool)(x:List AV):Bool:=okX enc x&&c (theT enc x)
theorem Ao{enc:J ->List AV}(inj:InjT enc){c:J ->Bool}(a:J)(h:c a=true):okG enc c (enc a)=true:=by
 unfold okG;rw[Aex,Aj inj,h];rfl
theorem AnsS.g{P:Program}{f:FuncId}{ok:LB}{r:List AV ->AV}(hc: ∀x,ok x=true ->CX P f x [] (r x) []):AnsS P f (ansG ok r):=by
 refine⟨fun R args H k t h=> ?_,fun args H=> ?_⟩
 ·unfold ansG at h;cases H with
  |cons b H=>cases h|nil=>
   simp only[]at h;cases hb:ok args with
   |false=>rw[hb]at h;cases h|true=>rw[hb]at h;exact⟨_,_,h,hc args hb⟩
 ·unfold ansG;cases H with
  |cons b H=>exact .no fun R k=>rfl
  |nil=>exact .bif _ (.one _ _ fun R k=>rfl) (.no fun R k=>rfl)
theorem AnsS.t'{P:Program}{f:FuncId}{enc:J ->List AV}{c:J ->Bool}{r:J ->AV}(hc: ∀a,c a=true ->CX P f (enc a) [] (r a) []):AnsS P f (ansG (okG enc c) fun x=>r (theT enc x)):= .g fun x h=>by
 unfold okG at h;simp only[zd]at h;exact(hc _ h.2).ge (Gw h.1) (.refl _)
end
def InjA{J:Type}(e:J ->AV):Prop:= ∀a b,Ale (e a) (e b) ->a=b
theorem Ar{x y:AV}{a b:List AV}(h:Asle (x::a) (y::b)):Ale x y/\Asle a b:=by
 refine⟨h.2 0 x y rfl rfl,by simpa using h.1,fun i p q h1 h2=>h.2 (i+1) p q (by simpa using h1) (by simpa using h2)⟩
section
variable {J O M V:Type}{e:J ->AV}{f:O ->AV}{g:M ->AV}{k:V ->AV}
def en1(e:J ->AV):J ->List AV:=fun a=>[e a]
def en2(e:J ->AV)(f:O ->AV):J×O ->List AV:=fun a=>[e a.1,f a.2]
def en3(e:J ->AV)(f:O ->AV)(g:M ->AV):J×O×M ->List AV:=fun a=>[e a.1,f a.2.1,g a.2.2]
theorem Cf(h:InjA e):InjT (en1 e):=fun a b x=>h _ _ (Ar x).1
theorem K4(h:InjA e)(h2:InjA f):InjT (en2 e f):=fun a b x=>by
 obtain⟨x1,x⟩:=Ar x;obtain⟨x2,x⟩:=Ar x;exact Prod.ext (h _ _ x1) (h2 _ _ x2)
theorem AmQ(h:InjA e)(h2:InjA f)(h3:InjA g):InjT (en3 e f g):=fun a b x=>by
 obtain⟨x1,x⟩:=Ar x;obtain⟨x2,x⟩:=Ar x;obtain⟨x3,x⟩:=Ar x;exact Prod.ext (h _ _ x1) (Prod.ext (h2 _ _ x2) (h3 _ _ x3))
end
def en5{J O M V ε:Type}(e:J ->AV)(f:O ->AV)(g:M ->AV)(k:V ->AV)(l:ε ->AV):J×O×M×V×ε ->List AV:=fun a=>[e a.1,f a.2.1,g a.2.2.1,k a.2.2.2.1,l a.2.2.2.2]
theorem AmP{J O M V ε:Type}{e:J ->AV}{f:O ->AV}{g:M ->AV}{k:V ->AV}{l:ε ->AV}(h:InjA e)(h2:InjA f)(h3:InjA g)(h4:InjA k)(h5:InjA l):InjT (en5 e f g k l):=fun a b x=>by
 obtain⟨x1,x⟩:=Ar x;obtain⟨x2,x⟩:=Ar x;obtain⟨x3,x⟩:=Ar x;obtain⟨x4,x⟩:=Ar x;obtain⟨x5,x⟩:=Ar x;exact Prod.ext (h _ _ x1) (Prod.ext (h2 _ _ x2) (Prod.ext (h3 _ _ x3) (Prod.ext (h4 _ _ x4) (h5 _ _ x5))))
def aD{J:Type}(e:J ->D):J ->AV:=fun a=> .c (.d (e a))
def aG{J:Type}(e:J ->List D):J ->AV:=fun a=> .agg ((e a).map .d)
theorem Nf{x y:D}(h:Ale (.c (.d x)) (.c (.d y))):DE x y:=h
theorem AgK{x y:List D}(h:Ale (.agg (x.map .d)) (.agg (y.map .d))):DEs x y:=by
 have h:Csle (x.map .d) (y.map .d):=h;refine⟨by simpa using h.1,fun j d e hd he=> ?_⟩;exact h.2 j (.d d) (.d e) (by rw[List.getElem?_map,hd];rfl) (by rw[List.getElem?_map,he];rfl)
theorem Xn{J:Type}{e:J ->D}(h: ∀a b,DE (e a) (e b) ->a=b):InjA (aD e):=fun a b x=>h a b (Nf x)
theorem Kn{J:Type}{e:J ->List D}(h: ∀a b,DEs (e a) (e b) ->a=b):InjA (aG e):=fun a b x=>h a b (AgK x)
theorem Hs:InjA vI:=fun a b x=>by have:=W3 (Nf x);simpa using this
def vN(n:Nat):AV:=vI n
theorem Zx:InjA vN:=fun a b x=>by have:=Hs _ _ x;omega
theorem AcK:InjA vS:=fun a b x=>by have:=W3 (Nf x);simpa using this
instance:Inhabited BA:=⟨⟨#[]⟩⟩
theorem AeS{J:Type}(d:J)(R:Nat ->J ->Prop): ∀(n:Nat),(∀i,i<n -> ∃x,R i x) -> ∃l:List J,l.length=n/\ ∀i,i<n ->R i (l.getD i d)
 |0,_=>⟨[],rfl,fun i h=>by omega⟩
 |n+1,h=>by
  obtain⟨l,hl,hr⟩:=AeS d R n (fun i hi=>h i (by omega));obtain⟨x,hx⟩:=h n (by omega);refine⟨l++[x],by simp[hl],fun i hi=> ?_⟩;by_cases e:i<n
  ·have:=hr i e;rwa [zh,List.getElem?_append_left (by omega),<-zh]
  ·have:i=n:=by omega
   subst this;rw[zh,List.getElem?_append_right (by omega),hl];simpa using hx
def Au{J:Type}(l:List J):Bool:=decide (l.length<=9223372036854775807)
theorem Bi{J:Type}{l:List J}(h:Au l=true):l.length<=9223372036854775807:=by unfold Au at h;simpa using h
theorem AeG:maxLen<=9223372036854775807:=by unfold maxLen;omega
theorem Dx{P:Program}{t e:TypeId}{ds:List D}{O:Type}{c:O ->List D}{d0:O}{sz:Nat}{ok:O ->Bool}(hu:P.underlying t=some (.slice e))(hc:P.cellsOf e=sz)
  (ho: ∀ds,Shp P e ds -> ∃x,DEs ds (c x)/\ok x=true) (h:Shp P t ds): ∃(d:D) (l:List O),ds=[d]/\DE d (Ad sz c d0 l)/\Au l=true/\l.all ok=true:=by
 obtain⟨n,f,rfl,hn,hf⟩:=h.sl_inv hu;obtain⟨l,hl,hr⟩:=AeS d0 (fun i x=>DEs (f i) (c x)/\ok x=true) n (fun i hi=>ho _ (hf i hi));subst hl;have hM:=AeG;refine⟨_,l,rfl, ?_, ?_, ?_⟩
 ·rw[hc];exact .sls fun i hi=>(hr i hi).1
 ·unfold Au;rw[zk]
 ·rw[List.all_eq_true];intro x hx;obtain⟨i,hi,he⟩:=List.getElem_of_mem hx;have:=(hr i hi).2;rwa [zh,zn hi,he]at this
theorem DEs.app{a b a' b':List D}(h:DEs a a')(k:DEs b b'):DEs (a++b) (a'++b'):=by
 refine⟨by simp[h.1,k.1],fun j d e hd he=> ?_⟩;by_cases hj:j<a.length
 ·rw[List.getElem?_append_left hj]at hd;rw[List.getElem?_append_left (by rw[<-h.1];exact hj)]at he;exact h.2 j d e hd he
 ·rw[List.getElem?_append_right (by omega)]at hd;rw[List.getElem?_append_right (by rw[<-h.1];omega),<-h.1]at he;exact k.2 _ d e hd he
theorem Gv{a b:List D}(h:DEs a b):Ale (.agg (a.map .d)) (.agg (b.map .d)):=by
 show Csle _ _;refine⟨by simpa using h.1,fun j d e hd he=> ?_⟩;rw[List.getElem?_map]at hd he;cases h1:a[j]? with
 |none=>rw[h1]at hd;cases hd|some x=>
  cases h2:b[j]? with
  |none=>rw[h2]at he;cases he|some y=>rw[h1]at hd;rw[h2]at he;cases hd;cases he;exact h.2 j x y h1 h2
structure SLine where
 name:BA
 r1:Int
 x1:Int
 r0:Int
 x0:Int
structure SSrc where
 name:BA
 emf:Int
 r1:Int
 x1:Int
 r0:Int
 x0:Int
structure SLink where
 bus:Int
 pos:Int
structure SBay where
 name:BA
 kind:Int
 off:Int
 fin:Int
 zr:Int
 zx:Int
 qe:List SLink
 qf:Bool
 ct:Int
 vt:Int
 sat:Int
 qg:Int
structure SSta where
 name:BA
 qa:List BA
 qb:List SLine
 qc:List SSrc
 qd:List SBay
abbrev dS(s:BA):D:= .v (.string s)
abbrev dI(n:Int):D:= .v (.int .i64 n)
abbrev dB(b:Bool):D:= .v (.bool b)
def e0:BA:=⟨#[]⟩
def Ah:SLine:=⟨e0,0,0,0,0⟩
def src0:SSrc:=⟨e0,0,0,0,0,0⟩
def A4:SLink:=⟨0,0⟩
def bay0:SBay:=⟨e0,0,0,0,0,0,[],false,0,0,0,0⟩
def Az(l:SLine):List D:=[dS l.name,dI l.r1,dI l.x1,dI l.r0,dI l.x0]
def Ay(l:SSrc):List D:=[dS l.name,dI l.emf,dI l.r1,dI l.x1,dI l.r0,dI l.x0]
def Gm(l:SLink):List D:=[dI l.bus,dI l.pos]
abbrev B7(l:List SLink):D:=Ad 2 Gm A4 l
def bayC(b:SBay):List D:=[dS b.name,dI b.kind,dI b.off,dI b.fin,dI b.zr,dI b.zx,B7 b.qe,dB b.qf,dI b.ct,dI b.vt,dI b.sat,dI b.qg]
def busC(s:BA):List D:=[dS s]
abbrev Ab(l:List BA):D:=Ad 1 busC e0 l
abbrev Aq(l:List SLine):D:=Ad 5 Az Ah l
abbrev Cl(l:List SSrc):D:=Ad 6 Ay src0 l
abbrev Cg(l:List SBay):D:=Ad 12 bayC bay0 l
def staC(s:SSta):List D:=[dS s.name,Ab s.qa,Aq s.qb,Cl s.qc,Cg s.qd]
instance:Inhabited SLine:=⟨Ah⟩
instance:Inhabited SSrc:=⟨src0⟩
instance:Inhabited SBay:=⟨bay0⟩
theorem Ex{a b:BA}(h:DE (dS a) (dS b)):a=b:=by have:=W3 h;simpa using this
theorem A2{a b:Int}(h:DE (dI a) (dI b)):a=b:=by have:=W3 h;simpa using this
theorem Hg{a b:Bool}(h:DE (dB a) (dB b)):a=b:=by have:=W3 h;simpa using this
theorem Ca(a b:BA)(h:DEs (busC a) (busC b)):a=b:=Ex (h.2 0 _ _ rfl rfl)
theorem Ls(a b:SLine)(h:DEs (Az a) (Az b)):a=b:=by
 cases a;cases b;have h0:=Ex (h.2 0 _ _ rfl rfl);have h1:=A2 (h.2 1 _ _ rfl rfl);have h2:=A2 (h.2 2 _ _ rfl rfl);have h3:=A2 (h.2 3 _ _ rfl rfl);have h4:=A2 (h.2 4 _ _ rfl rfl);simp only at h0 h1 h2 h3 h4;rw[h0,h1,h2,h3,h4]
theorem Pw(a b:SSrc)(h:DEs (Ay a) (Ay b)):a=b:=by
 cases a;cases b;have h0:=Ex (h.2 0 _ _ rfl rfl);have h1:=A2 (h.2 1 _ _ rfl rfl);have h2:=A2 (h.2 2 _ _ rfl rfl);have h3:=A2 (h.2 3 _ _ rfl rfl);have h4:=A2 (h.2 4 _ _ rfl rfl);have h5:=A2 (h.2 5 _ _ rfl rfl);simp only at h0 h1 h2 h3 h4 h5;rw[h0,h1,h2,h3,h4,h5]
theorem Lr(a b:SLink)(h:DEs (Gm a) (Gm b)):a=b:=by
 cases a;cases b;have h0:=A2 (h.2 0 _ _ rfl rfl);have h1:=A2 (h.2 1 _ _ rfl rfl);simp only at h0 h1;rw[h0,h1]
theorem Kc(a b:SBay)(h:DEs (bayC a) (bayC b)):a=b:=by
 cases a;cases b;have h0:=Ex (h.2 0 _ _ rfl rfl);have h1:=A2 (h.2 1 _ _ rfl rfl);have h2:=A2 (h.2 2 _ _ rfl rfl);have h3:=A2 (h.2 3 _ _ rfl rfl);have h4:=A2 (h.2 4 _ _ rfl rfl);have h5:=A2 (h.2 5 _ _ rfl rfl);have h6:=A8 Lr _ _ (h.2 6 _ _ rfl rfl);have h7:=Hg (h.2 7 _ _ rfl rfl);have h8:=A2 (h.2 8 _ _ rfl rfl);have h9:=A2 (h.2 9 _ _ rfl rfl);have h10:=A2 (h.2 10 _ _ rfl rfl);have h11:=A2 (h.2 11 _ _ rfl rfl);simp only at h0 h1 h2 h3 h4 h5 h6 h7 h8 h9 h10 h11;rw[h0,h1,h2,h3,h4,h5,h6,h7,h8,h9,h10,h11]
theorem Aaj(a b:SSta)(h:DEs (staC a) (staC b)):a=b:=by
 cases a;cases b;have h0:=Ex (h.2 0 _ _ rfl rfl);have h1:=A8 Ca _ _ (h.2 1 _ _ rfl rfl);have h2:=A8 Ls _ _ (h.2 2 _ _ rfl rfl);have h3:=A8 Pw _ _ (h.2 3 _ _ rfl rfl);have h4:=A8 Kc _ _ (h.2 4 _ _ rfl rfl);simp only at h0 h1 h2 h3 h4;rw[h0,h1,h2,h3,h4]
instance:Inhabited SSta:=⟨⟨e0,[],[],[],[]⟩⟩
abbrev aSta(s:SSta):AV:= .agg ((staC s).map .d)
abbrev aBay(b:SBay):AV:= .agg ((bayC b).map .d)
abbrev RBay:=BA×Int×Int×Int×Int×Int×D×Bool×Int×Int×Int×Int×Unit
def bayD:Dec (List C) RBay:= .cons .str (.cons .i64 (.cons .i64 (.cons .i64 (.cons .i64 (.cons .i64 (.cons .data (.cons .bool (.cons .i64 (.cons .i64 (.cons .i64 (.cons .i64 .nil)))))))))))
abbrev RSta:=BA×D×D×D×D×Unit
def staD:Dec (List C) RSta:= .cons .str (.cons .data (.cons .data (.cons .data (.cons .data .nil))))
instance:Inhabited SLink:=⟨A4⟩
def okLk(x:D):Bool:=okE B7 x&&decide ((theE B7 x).length<=9223372036854775807)
def rbay(x:RBay):SBay:=⟨x.1,x.2.1,x.2.2.1,x.2.2.2.1,x.2.2.2.2.1,x.2.2.2.2.2.1,theE B7 x.2.2.2.2.2.2.1,x.2.2.2.2.2.2.2.1,x.2.2.2.2.2.2.2.2.1,x.2.2.2.2.2.2.2.2.2.1,x.2.2.2.2.2.2.2.2.2.2.1,x.2.2.2.2.2.2.2.2.2.2.2.1⟩
def bayR(b:SBay):RBay:=(b.name,b.kind,b.off,b.fin,b.zr,b.zx,B7 b.qe,b.qf,b.ct,b.vt,b.sat,b.qg,())
def okRB(x:RBay):Bool:=okLk x.2.2.2.2.2.2.1
theorem Gi{l:List SLink}(h:l.length<=9223372036854775807):okLk (B7 l)=true:=by
 unfold okLk;rw[(Bj Lr l).1,(Bj Lr l).2];simp only[Bool.true_and];exact zk h
theorem Jb(b:SBay):rbay (bayR b)=b:=by
 unfold rbay bayR;simp only[(Bj Lr b.qe).2]
theorem Xc(x:RBay)(h:okRB x=true):Ale (.agg (bayD.enc x)) (aBay (rbay x)):=by
 unfold okRB okLk at h;simp only[zd]at h;exact .cons (.refl _) (.cons (.refl _) (.cons (.refl _) (.cons (.refl _) (.cons (.refl _) (.cons (.refl _) (.cons (Du h.1) (.cons (.refl _) (.cons (.refl _) (.cons (.refl _) (.cons (.refl _) (.cons (.refl _) .nil)))))))))))
def Uh(c:UInt8):Bool:=(decide (65<=(c.toNat:Int))&&decide ((c.toNat:Int)<=90))||(decide (97<=(c.toNat:Int))&&decide ((c.toNat:Int)<=122))
def Aaz(c:UInt8):Bool:=(decide (48<=(c.toNat:Int))&&decide ((c.toNat:Int)<=57))||(c.toNat:Int)==95
def nmT:Nat ->List UInt8 ->Bool
 |_,[]=>true|i,c::r=>(Uh c||(i !=0&&Aaz c))&&nmT (i+1) r
def Ag(s:BA):Bool:= !((s.size:Int)==0)&&(!decide ((s.size:Int)>12)&&nmT 0 s.data.toList)
def inB(l:List BA)(s:BA):Bool:=l.any fun t=>s.data.toList==t.data.toList
def Bq(l:List BA)(s:BA):Int:=bif !Ag s then 7 else bif inB l s then 8 else 0
def Aa(n lo hi:Int):Bool:=decide (n>=lo)&&decide (n<=hi)
def El(r x:Int):Bool:=Aa r 0 1000&&Aa x 1 1000
def Jg(l:List BA)(x:SLine):Int:=bif Bq l x.name !=0 then Bq l x.name else bif El x.r1 x.x1&&El x.r0 x.x0 then 0 else 2
def Pd(l:List BA)(x:SSrc):Int:=bif Bq l x.name !=0 then Bq l x.name else bif Aa x.emf 1 1000000&&(El x.r1 x.x1&&El x.r0 x.x0)then 0 else 2
def Sn(nl ns:Nat)(k:Int):Option Int:=bif k==1 then some nl else bif k==2 then some ns else bif k==3 then some 1 else none
def Dh(b:SBay):Bool:=
 (bif b.kind==3 then El b.zr b.zx&&b.vt==0 else(b.zr==0&&b.zx==0)&&Aa b.vt 1 10000)&&
   (Aa b.fin 0 (bif b.kind==1 then 1 else 0)&&(Aa b.ct 1 100&&(Aa b.sat 0 16383&&Aa b.qg 1 6)))
def Fp(x y:SBay):Bool:=x.kind !=3&&(x.kind==y.kind&&(x.off==y.off&&x.fin==y.fin))
def Fl(nb:Nat)(k:Int):Option Int ->List SLink ->Int
 |_,[]=>0|p,l::r=>bif !Aa l.bus 0 ((nb:Int) -1)then 9 else bif l.pos !=1&&(l.pos !=0||k==3)then 16 else bif p==some l.bus then 12 else Fl nb k (some l.bus) r
def Bx(nb:Nat)(b:SBay):Int:=bif decide (b.qe.length<1)||(decide (2<b.qe.length)||(b.kind==3&&b.qe.length !=2))then 3 else Fl nb b.kind none b.qe
def Ec(nb nl ns:Nat)(dup:Bool)(before:List SBay)(b:SBay):Int:=
 bif !Ag b.name then 7 else bif dup then 8 else match Sn nl ns b.kind with
  |none=>10|some c=>bif !Aa b.off 0 (c -1)then 9 else bif !Dh b then 2 else bif before.any (Fp b)then 12 else Bx nb b
def Jv(nb nl ns:Nat)(l:List BA)(before:List SBay)(b:SBay):Int:=Ec nb nl ns (inB l b.name) before b
def D3{J:Type}(nm:J ->BA)(f:List BA ->List J ->J ->Int)(N:List BA):List J ->List J ->Int×List J
 |before,[]=>(0,before)|before,x::r=>bif f (N++before.map nm) before x !=0 then(f (N++before.map nm) before x,before)else D3 nm f N (before++[x]) r
theorem Pv{J:Type}{nm:J ->BA}{f:List BA ->List J ->J ->Int}{N:List BA}: ∀(before l:List J),(D3 nm f N before l).1=0 ->(D3 nm f N before l).2=before++l
 |before,[],_=>by simp[D3]|before,x::r,h=>by
  simp only[D3]at h⊢;cases e:(f (N++before.map nm) before x !=0)with
  |true=>rw[e]at h;simp only[za]at h;rw[h]at e;simp at e|false=>rw[e]at h;simp only[zb]at h⊢;rw[Pv _ r h];simp
def tBus(l:List BA):=D3 id (fun N _ x=>Bq N x) [] [] l
def Hk(N:List BA)(l:List SLine):=D3 SLine.name (fun N _ x=>Jg N x) N [] l
def tSrc(N:List BA)(l:List SSrc):=D3 SSrc.name (fun N _ x=>Pd N x) N [] l
def tBay(nb nl ns:Nat)(N:List BA)(l:List SBay):=D3 SBay.name (fun N before x=>Jv nb nl ns N before x) N [] l
def Jp(s:SSta):Bool:=s.qa.length==0||(decide (4<s.qa.length)||(decide (6<s.qb.length)||(decide (4<s.qc.length)||decide (16<s.qd.length))))
def A3(s:SSta):Int:=
 bif !Ag s.name then 7 else
 bif Jp s then 3 else
 bif(tBus s.qa).1 !=0 then(tBus s.qa).1 else
 bif(Hk s.qa s.qb).1 !=0 then(Hk s.qa s.qb).1 else
 bif(tSrc (s.qa++s.qb.map SLine.name) s.qc).1 !=0 then(tSrc (s.qa++s.qb.map SLine.name) s.qc).1 else
 (tBay s.qa.length s.qb.length s.qc.length (s.qa++s.qb.map SLine.name++s.qc.map SSrc.name) s.qd).1
def Ap(l:List BA):MV:=l.reverse.map fun s=>(.string s, .bool true)
theorem Cc(l:List BA)(s:BA):Ap (l++[s])=(.string s, .bool true)::Ap l:=by simp[Ap]
theorem Xd(s:BA): ∀l:List BA,B8 (Bb (l.map fun s=>(Value.string s,Value.bool true)) (.string s))=l.any fun t=>s.data.toList==t.data.toList
 |[]=>rfl|t::r=>by
  simp only[List.map_cons,Bb,Lh,List.any_cons];cases(s.data.toList==t.data.toList)with
  |true=>rfl|false=>simp only[zb,Bool.false_or];exact Xd s r
theorem C2(l:List BA)(s:BA):B8 (Bb (Ap l) (.string s))=inB l s:=by
 unfold Ap inB;rw[Xd,List.any_reverse]
theorem Gp{J:Type}{nm:J ->BA}{F:List BA ->List J ->J ->Int}{N:List BA}{c:J ->List D}{d0:J}{l:List J}{L:Nat ->List (Value×Value) ->Nat ->RD ->Int ->Option (T (AV×Hp))}
  {HX:List (Value×Value) ->Nat ->RD ->Hp}
  (hst: ∀(m k:Nat) (before:List J) (f:RD),k<l.length ->before.length=k ->RL c d0 k f before -> ∃f1 f2,RL c d0 (k+1) f1 (before++[l.getD k d0])/\RL c d0 k f2 before/\L (m+1) (Ap (N++before.map nm)) k f k=
    bif F (N++before.map nm) before (l.getD k d0) !=0 then some (.leaf (vI (F (N++before.map nm) before (l.getD k d0)),HX (Ap (N++before.map nm)) k f2))
    else L m ((.string (nm (l.getD k d0)), .bool true)::Ap (N++before.map nm)) (k+1) f1 ((k+1:Nat):Int))
  (hend: ∀m mp n f,L (m+1) mp n f l.length=some (.leaf (vI 0,HX mp n f))):
  ∀(m k:Nat) (before:List J) (f:RD),k<=l.length ->l.length -k<m ->before.length=k ->RL c d0 k f before ->
   ∃f',RL c d0 (D3 nm F N before (l.drop k)).2.length f' (D3 nm F N before (l.drop k)).2/\
    L m (Ap (N++before.map nm)) k f k=some (.leaf (vI (D3 nm F N before (l.drop k)).1,HX (Ap (N++(D3 nm F N before (l.drop k)).2.map nm)) (D3 nm F N before (l.drop k)).2.length f'))
 |0,k,before,f,_,h,_,_=>by omega|m+1,k,before,f,hk,h,hb,hr=>by
  by_cases e:k=l.length
  ·subst e;rw[zl (Nat.le_refl _)];simp only[D3];rw[hend,hb];exact⟨f,hr,rfl⟩
  ·have hlt:k<l.length:=by omega
   obtain⟨f1,f2,hr1,hr2,hst1⟩:=hst m k before f hlt hb hr;rw[hst1,Av (d:=d0) hlt];simp only[D3];cases hF:(F (N++before.map nm) before (l.getD k d0) !=0)with
   |true=>
    simp only[za];rw[hb];exact⟨f2,hr2,rfl⟩
   |false=>
    simp only[zb];have ih:=Gp hst hend m (k+1) (before++[l.getD k d0]) f1 (by omega) (by omega) (by simp[hb]) hr1;have e1:N++(before++[l.getD k d0]).map nm=(N++before.map nm)++[nm (l.getD k d0)]:=by simp
    rw[e1,Cc]at ih;exact ih
theorem Wi{a b:List BA}(h:Ap a=Ap b):a=b:=by
 unfold Ap at h;have h2:=(List.map_inj_right (f:=fun s:BA=>(Value.string s,Value.bool true)) (fun x y e=>by simpa using e)).1 h;exact List.reverse_inj.1 h2
def okM(mp:MV):Bool:= @decide (∃N,mp=Ap N) (Classical.propDecidable _)
def theM(mp:MV):List BA:= @dite _ (∃N,mp=Ap N) (Classical.propDecidable _) (fun h=>Classical.choose h) (fun _=>[])
theorem Hu{mp:MV}(h:okM mp=true):mp=Ap (theM mp):=by
 have h': ∃N,mp=Ap N:=by unfold okM at h;simpa using h
 unfold theM;rw[dif_pos h'];exact Classical.choose_spec h'
theorem Je(N:List BA):okM (Ap N)=true:=by unfold okM;simp;exact⟨N,rfl⟩
theorem E9(N:List BA):theM (Ap N)=N:=(Wi (Hu (Je N))).symm
def Mt(l:List SBay):Bool:=l.all fun b=>decide (b.qe.length<=9223372036854775807)
theorem Wl{l:List SBay}(h:Mt l=true)(i:Nat)(hi:i<l.length):(l.getD i bay0).qe.length<=9223372036854775807:=by
 unfold Mt at h;rw[List.all_eq_true]at h;have:=h (l.getD i bay0) (by rw[zh,zn hi];simp);simpa using this
def Bv(s:SSta):Bool:=Au s.qa&&(Au s.qb&&(Au s.qc&&(Au s.qd&&s.qd.all fun b=>Au b.qe)))
theorem Ei{s:SSta}(h:Bv s=true):s.qa.length<=9223372036854775807/\s.qb.length<=9223372036854775807/\s.qc.length<=9223372036854775807/\s.qd.length<=9223372036854775807/\Mt s.qd=true:=by
 unfold Bv Au at h;simp only[zd,zi]at h;exact⟨h.1,h.2.1,h.2.2.1,h.2.2.2.1,h.2.2.2.2⟩
theorem Ee:InjA aSta:=Kn Aaj
structure SRule where
 name:BA
 text:BA
structure SSet where
 name:BA
 qm:List BA
structure SPub where
 set:BA
 fst:Int
 max:Int
structure SSub where
 loc:BA
 dev:BA
 set:BA
 sig:BA
def Be:SRule:=⟨e0,e0⟩
def set0:SSet:=⟨e0,[]⟩
def pub0:SPub:=⟨e0,0,0⟩
def sub0:SSub:=⟨e0,e0,e0,e0⟩
instance:Inhabited SRule:=⟨Be⟩
instance:Inhabited SSet:=⟨set0⟩
instance:Inhabited SPub:=⟨pub0⟩
instance:Inhabited SSub:=⟨sub0⟩
def E0(x:SRule):List D:=[dS x.name,dS x.text]
def setC(x:SSet):List D:=[dS x.name,Ab x.qm]
def pubC(x:SPub):List D:=[dS x.set,dI x.fst,dI x.max]
def subC(x:SSub):List D:=[dS x.loc,dS x.dev,dS x.set,dS x.sig]
abbrev Qt(l:List SRule):D:=Ad 2 E0 Be l
abbrev Sk(l:List SSet):D:=Ad 2 setC set0 l
abbrev Yk(l:List SPub):D:=Ad 3 pubC pub0 l
abbrev Yc(l:List SSub):D:=Ad 4 subC sub0 l
theorem Li(a b:SRule)(h:DEs (E0 a) (E0 b)):a=b:=by
 cases a;cases b;have h0:=Ex (h.2 0 _ _ rfl rfl);have h1:=Ex (h.2 1 _ _ rfl rfl);simp only at h0 h1;rw[h0,h1]
theorem Lg(a b:SSet)(h:DEs (setC a) (setC b)):a=b:=by
 cases a;cases b;have h0:=Ex (h.2 0 _ _ rfl rfl);have h1:=A8 Ca _ _ (h.2 1 _ _ rfl rfl);simp only at h0 h1;rw[h0,h1]
theorem Px(a b:SPub)(h:DEs (pubC a) (pubC b)):a=b:=by
 cases a;cases b;have h0:=Ex (h.2 0 _ _ rfl rfl);have h1:=A2 (h.2 1 _ _ rfl rfl);have h2:=A2 (h.2 2 _ _ rfl rfl);simp only at h0 h1 h2;rw[h0,h1,h2]
theorem J5(a b:SSub)(h:DEs (subC a) (subC b)):a=b:=by
 cases a;cases b;have h0:=Ex (h.2 0 _ _ rfl rfl);have h1:=Ex (h.2 1 _ _ rfl rfl);have h2:=Ex (h.2 2 _ _ rfl rfl);have h3:=Ex (h.2 3 _ _ rfl rfl);simp only at h0 h1 h2 h3;rw[h0,h1,h2,h3]
structure SRel where
 name:BA
 kind:Int
 bay:Int
 zon0:Bool
 zfw0:Bool
 zx0:Int
 zr0:Int
 zl0:Int
 zd0:Int
 zon1:Bool
 zfw1:Bool
 zx1:Int
 zr1:Int
 zl1:Int
 zd1:Int
 zon2:Bool
 zfw2:Bool
 zx2:Int
 zr2:Int
 zl2:Int
 zd2:Int
 min:Int
 kre:Int
 kim:Int
 qn:Int
 wait:Int
 guard:Int
 don:Bool
 dpk:Int
 ddl:Int
 ion:Bool
 ipk:Int
 idl:Int
 fon:Bool
 fpk:Int
 fdl:Int
 qp:Int
 dead:Int
 qo:Int
 uon:Bool
 upk:Int
 udl:Int
 oon:Bool
 opk:Int
 odl:Int
 diff:Int
 num:Int
 den:Int
 harm:Int
 qi:List SRule
 qj:List SSet
 qk:List SPub
 ql:List SSub
def rel0:SRel:=⟨e0,0,0,false,false,0,0,0,0,false,false,0,0,0,0,false,false,0,0,0,0,0,0,0,0,0,0,false,0,0,false,0,0,false,0,0,0,0,0,false,0,0,false,0,0,0,0,0,0,[],[],[],[]⟩
instance:Inhabited SRel:=⟨rel0⟩
def relC(r:SRel):List D:=[dS r.name,dI r.kind,dI r.bay,dB r.zon0,dB r.zfw0,dI r.zx0,dI r.zr0,dI r.zl0,dI r.zd0,dB r.zon1,dB r.zfw1,dI r.zx1,dI r.zr1,dI r.zl1,dI r.zd1,dB r.zon2,dB r.zfw2,dI r.zx2,dI r.zr2,dI r.zl2,dI r.zd2,dI r.min,dI r.kre,dI r.kim,dI r.qn,dI r.wait,dI r.guard,dB r.don,dI r.dpk,dI r.ddl,dB r.ion,dI r.ipk,dI r.idl,dB r.fon,dI r.fpk,dI r.fdl,dI r.qp,dI r.dead,dI r.qo,dB r.uon,dI r.upk,dI r.udl,dB r.oon,dI r.opk,dI r.odl,dI r.diff,dI r.num,dI r.den,dI r.harm,Qt r.qi,Sk r.qj,Yk r.qk,Yc r.ql]
abbrev Di(l:List SRel):D:=Ad 53 relC rel0 l
abbrev aRel(r:SRel):AV:= .agg ((relC r).map .d)
theorem Lk(a b:SRel)(h:DEs (relC a) (relC b)):a=b:=by
 cases a;cases b;have h0:=Ex (h.2 0 _ _ rfl rfl);have h1:=A2 (h.2 1 _ _ rfl rfl);have h2:=A2 (h.2 2 _ _ rfl rfl);have h3:=Hg (h.2 3 _ _ rfl rfl);have h4:=Hg (h.2 4 _ _ rfl rfl);have h5:=A2 (h.2 5 _ _ rfl rfl);have h6:=A2 (h.2 6 _ _ rfl rfl);have h7:=A2 (h.2 7 _ _ rfl rfl);have h8:=A2 (h.2 8 _ _ rfl rfl);have h9:=Hg (h.2 9 _ _ rfl rfl);have h10:=Hg (h.2 10 _ _ rfl rfl);have h11:=A2 (h.2 11 _ _ rfl rfl);have h12:=A2 (h.2 12 _ _ rfl rfl);have h13:=A2 (h.2 13 _ _ rfl rfl);have h14:=A2 (h.2 14 _ _ rfl rfl);have h15:=Hg (h.2 15 _ _ rfl rfl);have h16:=Hg (h.2 16 _ _ rfl rfl);have h17:=A2 (h.2 17 _ _ rfl rfl);have h18:=A2 (h.2 18 _ _ rfl rfl);have h19:=A2 (h.2 19 _ _ rfl rfl);have h20:=A2 (h.2 20 _ _ rfl rfl);have h21:=A2 (h.2 21 _ _ rfl rfl);have h22:=A2 (h.2 22 _ _ rfl rfl);have h23:=A2 (h.2 23 _ _ rfl rfl);have h24:=A2 (h.2 24 _ _ rfl rfl);have h25:=A2 (h.2 25 _ _ rfl rfl);have h26:=A2 (h.2 26 _ _ rfl rfl);have h27:=Hg (h.2 27 _ _ rfl rfl);have h28:=A2 (h.2 28 _ _ rfl rfl);have h29:=A2 (h.2 29 _ _ rfl rfl);have h30:=Hg (h.2 30 _ _ rfl rfl);have h31:=A2 (h.2 31 _ _ rfl rfl);have h32:=A2 (h.2 32 _ _ rfl rfl);have h33:=Hg (h.2 33 _ _ rfl rfl);have h34:=A2 (h.2 34 _ _ rfl rfl);have h35:=A2 (h.2 35 _ _ rfl rfl);have h36:=A2 (h.2 36 _ _ rfl rfl);have h37:=A2 (h.2 37 _ _ rfl rfl);have h38:=A2 (h.2 38 _ _ rfl rfl);have h39:=Hg (h.2 39 _ _ rfl rfl);have h40:=A2 (h.2 40 _ _ rfl rfl);have h41:=A2 (h.2 41 _ _ rfl rfl);have h42:=Hg (h.2 42 _ _ rfl rfl);have h43:=A2 (h.2 43 _ _ rfl rfl);have h44:=A2 (h.2 44 _ _ rfl rfl);have h45:=A2 (h.2 45 _ _ rfl rfl);have h46:=A2 (h.2 46 _ _ rfl rfl);have h47:=A2 (h.2 47 _ _ rfl rfl);have h48:=A2 (h.2 48 _ _ rfl rfl);have h49:=A8 Li _ _ (h.2 49 _ _ rfl rfl);have h50:=A8 Lg _ _ (h.2 50 _ _ rfl rfl);have h51:=A8 Px _ _ (h.2 51 _ _ rfl rfl);have h52:=A8 J5 _ _ (h.2 52 _ _ rfl rfl);simp only at h0 h1 h2 h3 h4 h5 h6 h7 h8 h9 h10 h11 h12 h13 h14 h15 h16 h17 h18 h19 h20 h21 h22 h23 h24 h25 h26 h27 h28 h29 h30 h31 h32 h33 h34 h35 h36 h37 h38 h39 h40 h41 h42 h43 h44 h45 h46 h47 h48 h49 h50 h51 h52;subst h0 h1 h2 h3 h4 h5 h6 h7 h8 h9 h10 h11 h12 h13 h14 h15 h16 h17 h18 h19 h20 h21 h22 h23 h24 h25 h26 h27 h28 h29 h30 h31 h32 h33 h34 h35 h36 h37 h38 h39 h40 h41 h42 h43 h44 h45 h46 h47 h48 h49 h50 h51 h52;rfl
theorem aRel_inj:InjA aRel:=Kn Lk
abbrev lN(n:Int):Option (T (AV×Hp)):=some (.leaf (vI n,[]))
def Cd{J:Type}(valid:J ->Bool)(key:J ->BA)(rest:J ->Int)(seen:List BA):List J ->Int
 |[]=>0|x::r=>bif !valid x then 7 else bif inB seen (key x)then 8 else bif rest x !=0 then rest x else Cd valid key rest (seen++[key x]) r
theorem H7{J:Type}{valid:J ->Bool}{key:J ->BA}{rest:J ->Int}{l:List J}{d0:J}{L:Nat ->List (Value×Value) ->Int ->Option (T (AV×Hp))}
  (hst: ∀(m k:Nat) (seen:List BA),k<l.length ->L (m+1) (Ap seen) k=bif !valid (l.getD k d0)then lN 7 else bif inB seen (key (l.getD k d0))then lN 8 else bif rest (l.getD k d0) !=0 then lN (rest (l.getD k d0))else L m (Ap (seen++[key (l.getD k d0)])) ((k+1:Nat):Int))
  (hend: ∀m mp,L (m+1) mp l.length=lN 0): ∀(m k:Nat) (seen:List BA),k<=l.length ->l.length -k<m ->L m (Ap seen) k=lN (Cd valid key rest seen (l.drop k))
 |0,k,_,_,h=>by omega|m+1,k,seen,hk,h=>by
  by_cases e:k=l.length
  ·subst e;rw[hend,zl (Nat.le_refl _)];rfl
  ·have hlt:k<l.length:=by omega
   rw[hst m k seen hlt,H7 hst hend m (k+1) _ (by omega) (by omega),Av (d:=d0) hlt];simp only[Cd];cases valid (l.getD k d0)with
   |false=>rfl|true=>
    cases inB seen (key (l.getD k d0))with
    |true=>rfl|false=>
     cases(rest (l.getD k d0) !=0)<;>rfl
def idxP{J:Type}(p:J ->Bool):Nat ->List J ->Int
 |_,[]=> -1|i,x::r=>bif p x then(i:Int)else idxP p (i+1) r
theorem Re{J:Type}(p:J ->Bool): ∀(l:List J) (i:Nat),decide (idxP p i l>=0)=l.any p
 |[],i=>rfl|x::r,i=>by
  have ih:=Re p r (i+1);have e:idxP p i (x::r)=bif p x then(i:Int)else idxP p (i+1) r:=rfl;rw[List.any_cons,<-ih,Bool.eq_iff_iff,Bool.or_eq_true,zi,zi,e];cases p x with
  |true=>simp|false=>simp
theorem Lx{J:Type}{p:J ->Bool}{l:List J}{d0:J}{L:Nat ->Int ->Option (T (AV×Hp))}
  (hst: ∀(m k:Nat),k<l.length ->L (m+1) k=bif p (l.getD k d0)then lN k else L m ((k+1:Nat):Int)) (hend: ∀m,L (m+1) l.length=lN (-1)):
  ∀(m k:Nat),k<=l.length ->l.length -k<m ->L m k=lN (idxP p k (l.drop k))
 |0,k,_,h=>by omega|m+1,k,hk,h=>by
  by_cases e:k=l.length
  ·subst e;rw[hend,zl (Nat.le_refl _)];rfl
  ·have hlt:k<l.length:=by omega
   rw[hst m k hlt,Lx hst hend m (k+1) (by omega) (by omega),Av (d:=d0) hlt];simp only[idxP];cases p (l.getD k d0)<;>rfl
theorem Gk{J:Type}{nm:J ->BA}{l:List J}{d0:J}{L:Nat ->List (Value×Value) ->Int ->Option (T (AV×Hp))}{NX:List (Value×Value) ->Option (T (AV×Hp))}
  (hst: ∀(m k:Nat) (N:List BA),k<l.length ->L (m+1) (Ap N) k=L m (Ap (N++[nm (l.getD k d0)])) ((k+1:Nat):Int)) (hend: ∀m mp,L (m+1) mp l.length=NX mp):
  ∀(m k:Nat) (N:List BA),k<=l.length ->l.length -k<m ->L m (Ap N) k=NX (Ap (N++(l.drop k).map nm))
 |0,k,_,_,h=>by omega|m+1,k,N,hk,h=>by
  by_cases e:k=l.length
  ·subst e;rw[hend,zl (Nat.le_refl _)];simp
  ·have hlt:k<l.length:=by omega
   rw[hst m k N hlt,Gk hst hend m (k+1) _ (by omega) (by omega),Av (d:=d0) hlt];simp
def Gb(c:UInt8):Bool:=decide ((c.toNat:Int)<32)||(decide ((c.toNat:Int)>126)||(c.toNat:Int)==34)
def D2(s:BA):Int:=bif decide (120<s.size)then 4 else bif s.data.toList.any Gb then 5 else 0
def Ln(x:SSet):Bool:=Au x.qm
def Ci(r:SRel):Bool:=Au r.qi&&(Au r.qj&&(Au r.qk&&(Au r.ql&&r.qj.all Ln)))
theorem Jd{r:SRel}(h:Ci r=true):r.qi.length<=9223372036854775807/\r.qj.length<=9223372036854775807/\r.qk.length<=9223372036854775807/\r.ql.length<=9223372036854775807/\r.qj.all Ln=true:=by
 unfold Ci Au at h;simp only[zd,zi]at h;exact h
theorem E7{J:Type}{p:J ->Bool}{l:List J}{d:J}(h:l.all p=true)(hd:p d=true)(i:Nat):p (l.getD i d)=true:=by
 by_cases hi:i<l.length
 ·rw[List.all_eq_true]at h;exact h _ (by simp[List.getD,hi])
 ·have:l.getD i d=d:=by simp[List.getD,hi]
  rw[this];exact hd
theorem Asle.trans{a b c:List AV}(h:Asle a b)(k:Asle b c):Asle a c:=by
 refine⟨h.1.trans k.1,fun i x z h1 h3=> ?_⟩;have hlt:i<b.length:=by rw[<-h.1];exact(List.getElem?_eq_some_iff.1 h1).1
 exact(h.2 i x _ h1 (zn hlt)).trans (k.2 i _ z (zn hlt) h3)
section
variable {J:Type}[Inhabited J]{enc:J ->List AV}
theorem Mm(inj:InjT enc){x:List AV}{a:J}(h1:Asle x (enc a))(h2:Asle (enc a) x):theT enc x=a:=
 (inj _ _ (h2.trans (Gw (Q5.2 ⟨a,h1⟩)))).symm
theorem Wg(inj:InjT enc){x:List AV}{a:J}{c:J ->Bool}(h1:Asle x (enc a))(h2:Asle (enc a) x)(h:c a=true):okG enc c x=true:=by
 unfold okG;rw[Mm inj h1 h2,Q5.2 ⟨a,h1⟩,h];rfl
end
def S1:C ->Bool
 | .d (.v _)=>true|_=>false
def V6:AV ->Bool
 | .c x=>S1 x| .agg cs=>cs.all S1| .tup ps=>ps.all fun p=>p.2.all S1
 | .u=>true
section
variable {O O':Bt}{w w':World}{I I':Im}
theorem Q0{x:C}{v:Value}(h:S1 x=true)(hx:RepC O w I x v):RepC O' w' I' x v:=by
 match x,h with
 | .d (.v y),_=>
  have hx:RepD w I (.v y) v:=hx;cases hx with
  |v _ h1=>exact RepD.v _ h1
theorem S0{cs:List C}{vs:List Value}(h:cs.all S1=true)(hx:RepCs O w I cs vs):RepCs O' w' I' cs vs:=by
 refine⟨hx.1,fun i c v h1 h2=>Q0 ?_ (hx.2 i c v h1 h2)⟩;rw[List.all_eq_true]at h;exact h c (List.mem_of_getElem? h1)
theorem Ael{x:AV}{v:Value}(h:V6 x=true)(hx:RepA O w I x v):RepA O' w' I' x v:=by
 cases x with
 |c x=>exact Q0 h hx|agg cs=>obtain⟨vs,rfl,hv⟩:=hx;exact⟨vs,rfl,S0 h hv⟩
 |tup ps=>
  obtain⟨vs,rfl,hl,hv⟩:=hx;refine⟨vs,rfl,hl,fun i p x h1 h2=> ?_⟩;have hp:=hv i p x h1 h2;have h:(ps.all fun p=>p.2.all S1)=true:=h;rw[List.all_eq_true]at h;have hq:=h p (List.mem_of_getElem? h1);obtain⟨b,cs⟩:=p;cases b with
  |true=>obtain⟨us,rfl,hu⟩:=hp;exact⟨us,rfl,S0 hq hu⟩
  |false=>
   obtain⟨c,hc,hu⟩:=hp;have hc:cs=[c]:=hc;subst hc;exact⟨c,rfl,Q0 (by simpa using hq) hu⟩
 |u=>trivial
end
theorem CR.lends{P:Program}{f:FuncId}{args ds:List AV}{H:Hp}{x:AV}(h:CR P f ds [] x [])(hp:V6 x=true)(hf:Ur H args=some ds):CR P f args H x H:=by
 intro O I w vs hr ha;have hr0:RelH (fun _=> .free) [] (allB O I) w:=by
  refine⟨⟨(fun i j b hi=>by cases hi),(fun i b hi=>by cases hi),(fun i b o hi=>by cases hi),(fun b o hi=> ?_),hr.gl.step (fun _ _ hi=> .inl hi) (fun _ _ _=>rfl)⟩,fun i _=>rfl,fun i B hB=>by simp[look]at hB⟩;rcases hi with hi|⟨k,hk⟩
  ·exact hr.old b o hi
  ·exact hr.lt k b hk
 obtain⟨hl,hreps⟩:=AaK (O':=fun _=> .free) hr args ds hf;have ha0:RepF (fun _=> .free) w (allB O I) ds vs:=by
  refine⟨by rw[hl];exact ha.1,fun i y v h1 h2=> ?_⟩;have hlt:i<args.length:=by rw[<-hl];exact(List.getElem?_eq_some_iff.1 h1).1
  exact hreps i _ y v (zn hlt) h1 (ha.2 i _ v (zn hlt) h2)
 refine(h _ _ w vs hr0 ha0).mono fun e w' ⟨v,O',I',he,hr',hx,hE,hm⟩=> ?_
 have hblk: ∀b,b<w.heap.size ->w'.heap[b]? =w.heap[b]?:=fun b hb=>hE.block b hb (fun k hk=>by cases hk)
 have hcell: ∀b o,I b o ->w'.cell? ⟨b,o,none⟩=w.cell? ⟨b,o,none⟩:=fun b o hi=>hE.cell b o (.inl hi)
 have hk:Keep O I w O I w':=⟨.refl _,fun _ _ hi=>hi,hcell,hE.shapes⟩;have hpl:Place O I w':=⟨hr.inj,fun i b hb=>Nat.lt_of_lt_of_le (hr.lt i b hb) hE.size,hr.off,fun b o hi=>Nat.lt_of_lt_of_le (hr.old b o hi) hE.size,hr.gl.step (fun _ _ hi=>hi) hcell⟩;refine⟨v,O,I,he, ?_,Ael hp hx,⟨hE.os,hE.tape,hE.output,hE.size,fun b hb _=>hblk b hb,fun _ _ hi=>hi,hcell,fun _ _ hi=> .inl hi,fun i b hb=> .inl ⟨i,hb⟩,hE.shapes⟩, .refl _⟩;exact⟨hpl,hr.dom,fun i B hB=>(hr.blk i B hB).keep hk rfl (fun b hb=>hblk b (hr.lt i b hb))⟩
theorem CX.cr{P:Program}{f:FuncId}{fn:Func}{c:Code}{args:List AV}{H:Hp}{x:AV}{H':Hp}(hf:P.funcs[f]? =some fn)(hb:fn.body=some c)(h:CX P f args H x H'):CR P f args H x H':=by
 unfold CX at h;rw[hf]at h;simp only[hb,Option.isNone_some,Bool.false_eq_true,if_false]at h;exact h
theorem CX.lends{P:Program}{f:FuncId}{fn:Func}{c:Code}{args ds:List AV}{H:Hp}{x:AV}(hf:P.funcs[f]? =some fn)(hb:fn.body=some c)(h:CX P f ds [] x [])(hp:V6 x=true)(hz:Ur H args=some ds):CX P f args H x H:=
 .of_cr hf hb ((h.cr hf hb).lends hp hz)
def ansL(ok:LB)(r:List AV ->AV):(R:Type) ->List AV ->Hp ->(AV ->Hp ->Option (T R)) ->Option (T R):=fun _ args H k=>
 match Ur H args with
 |some ds=>bif ok ds then k (r ds) H else none|none=>none
theorem AnsS.l{P:Program}{f:FuncId}{fn:Func}{ok:LB}{r:List AV ->AV}(hf:P.funcs[f]? =some fn)(hb:fn.body=some (Ac fn))(hc: ∀x,ok x=true ->CX P f x [] (r x) []/\V6 (r x)=true):AnsS P f (ansL ok r):=by
 refine⟨fun R args H k t h=> ?_,fun args H=> ?_⟩
 ·unfold ansL at h;cases hd:Ur H args with
  |none=>rw[hd]at h;cases h|some ds=>
   rw[hd]at h;simp only[]at h;cases hb':ok ds with
   |false=>rw[hb']at h;cases h|true=>
    rw[hb']at h;obtain⟨h1,h2⟩:=hc ds hb';exact⟨_,_,h,h1.lends hf hb h2 hd⟩
 ·unfold ansL;cases Ur H args with
  |none=>exact .no fun R k=>rfl
  |some ds=>exact .bif _ (.one _ _ fun R k=>rfl) (.no fun R k=>rfl)
theorem AnsS.lt{P:Program}{f:FuncId}{fn:Func}{J:Type}[Inhabited J]{enc:J ->List AV}{c:J ->Bool}{r:J ->AV}(hf:P.funcs[f]? =some fn)(hb:fn.body=some (Ac fn))(hp: ∀a,V6 (r a)=true)
  (hc: ∀a,c a=true ->CX P f (enc a) [] (r a) []):AnsS P f (ansL (okG enc c) fun x=>r (theT enc x)):= .l hf hb fun x h=>by
 unfold okG at h;simp only[zd]at h;exact⟨(hc _ h.2).ge (Gw h.1) (.refl _),hp _⟩
theorem Gt{J:Type}{p:J ->Bool}{l:List J}{d0:J}{L:Nat ->Int ->Option (T (AV×Hp))}{A B:Option (T (AV×Hp))}
  (hst: ∀(m k:Nat),k<l.length ->L (m+1) k=bif p (l.getD k d0)then A else L m ((k+1:Nat):Int)) (hend: ∀m,L (m+1) l.length=B):
  ∀(m k:Nat),k<=l.length ->l.length -k<m ->L m k=bif(l.drop k).any p then A else B
 |0,k,_,h=>by omega|m+1,k,hk,h=>by
  by_cases e:k=l.length
  ·subst e;rw[hend,zl (Nat.le_refl _)];rfl
  ·have hlt:k<l.length:=by omega
   rw[hst m k hlt,Gt hst hend m (k+1) (by omega) (by omega),Av (d:=d0) hlt];simp only[List.any_cons];cases p (l.getD k d0)<;>rfl
theorem Gg{J:Type}{valid:J ->Bool}{key:J ->BA}{rest:J ->Int}{l:List J}{d0:J}{L:Nat ->Nat ->RD ->Int ->Option (T (AV×Hp))}{NX:Option (T (AV×Hp))}(hl:l.length<=9000)
  (hst: ∀(m k n:Nat) (f:RD) (seen:List BA),k<l.length ->RL busC e0 n f seen ->n<=9000 ->L (m+1) n f k=bif !valid (l.getD k d0)then lN 7 else bif inB seen (key (l.getD k d0))then lN 8 else bif rest (l.getD k d0) !=0 then lN (rest (l.getD k d0))else L m (n+1) (appF n f (Ae (busC (key (l.getD k d0))) 1)) ((k+1:Nat):Int))
  (hend: ∀m n f,L (m+1) n f l.length=NX): ∀(m k n:Nat) (f:RD) (seen:List BA),RL busC e0 n f seen ->seen.length=k ->k<=l.length ->l.length -k<m ->
    L m n f k=bif Cd valid key rest seen (l.drop k) !=0 then lN (Cd valid key rest seen (l.drop k))else NX
 |0,k,n,f,seen,_,_,_,h=>by omega|m+1,k,n,f,seen,hr,hn,hk,h=>by
  by_cases e:k=l.length
  ·rw[e,hend,zl (Nat.le_refl _)];rfl
  ·have hlt:k<l.length:=by omega
   have hr':=hr.app' (x:=key (l.getD k d0)) (sz:=1) rfl;rw[hst m k n f seen hlt hr (by have:=hr.len;omega),Gg hl hst hend m (k+1) _ _ _ hr' (by simp;omega) (by omega) (by omega),Av (d:=d0) hlt];simp only[Cd];cases valid (l.getD k d0)with
   |false=>rfl|true=>
    cases inB seen (key (l.getD k d0))with
    |true=>rfl|false=>
     cases hz:(rest (l.getD k d0) !=0)with
     |true=>simp only[Bool.not_true,zb,za,hz]|false=>rfl
theorem J0{n:Nat}(h:n<=9000):(decide ((n+1)*16<=140737488355328)&&decide (n+1<=9223372036854775807))=true:=by
 rw[zk,zk];rfl
abbrev eIx:=en2 (aD Ab) vS
theorem Et:InjT eIx:=K4 (Xn (A8 (sz:=1) (d0:=e0) Ca)) AcK
def cIx(a:List BA×BA):Bool:=Au a.1
theorem Aki{n:Nat}{f:RD}{l:List BA}(hr:RL busC e0 n f l)(s:BA):Asle [.c (.d (.sl 1 n f)),vS s] (eIx (l,s))/\Asle (eIx (l,s)) [.c (.d (.sl 1 n f)),vS s]:=
 ⟨.cons hr.de (.cons (.refl _) .nil), .cons hr.ed (.cons (.refl _) .nil)⟩
theorem AoF{n:Nat}{f:RD}{l:List BA}(hr:RL busC e0 n f l)(hn:n<=9000)(s:BA):okG eIx cIx [.c (.d (.sl 1 n f)),vS s]=true/\theT eIx [.c (.d (.sl 1 n f)),vS s]=(l,s):=by
 obtain⟨h1,h2⟩:=Aki hr s;refine⟨Wg Et h1 h2 ?_,Mm Et h1 h2⟩;unfold cIx Au;rw[zk (by have:=hr.len;simp only;omega)]
theorem CR.cellsRow{P:Program}{f:FuncId}{args:List AV}{ds:List D}{n:Nat}{t:TypeId}{g:RD}(hn:ds.length=n)(hg: ∀i,i<n ->g i=[ds.getD i (dI 0)])
  (h:CR P f args [] (.c (.row 0 1 n)) [(0, .cells (ds.map .d) t)]):CR P f args [] (.c (.row 0 1 n)) [(0, .row n g 1 t)]:=by
 intro O I w vs hr ha;have hfree: ∀h,O h= .free:=fun h=>hr.dom h rfl
 refine(h O I w vs hr ha).mono fun e w' ⟨v,O',I',he,hr',hx,hE,hm⟩=> ?_
 obtain⟨b,us,hb,hheap,hle,hcs⟩:=hr'.blk 0 _ (rfl:look [(0,Blk.cells (ds.map .d) t)] 0=some _);have hblk: ∀k,(setB O' 0 (.row (some b) n) k).blk=(O' k).blk:=fun k=>by
  by_cases ek:k=0
  ·subst ek;rw[Ak,hb];rfl
  ·rw[Bo ek]
 refine ⟨v, setB O' 0 (.row (some b) n), I', he, ⟨⟨fun i j c h1 h2 => hr'.inj i j c (by rw[<-hblk];exact h1) (by rw[<-hblk];exact h2),fun k c hk=>hr'.lt k c (by rw[<-hblk];exact hk),fun k c o hk=>hr'.off k c o (by rw[<-hblk];exact hk),hr'.old,hr'.gl⟩,fun k hk=> ?_,fun k B hB=> ?_⟩, ?_,
  ⟨hE.os,hE.tape,hE.output,hE.size,hE.block,hE.keepI,hE.cell,hE.newI,fun k c hk=>hE.newB k c (by rw[<-hblk];exact hk),hE.shapes⟩,fun k=>by rw[hfree k];trivial⟩
 ·by_cases ek:k=0
  ·subst ek
   have hk':(some (Blk.row n g 1 t):Option Blk)=none:=hk
   cases hk'
  ·rw[Bo ek]
   refine hr'.dom k ?_
   show(bif Nat.beq k 0 then some _ else none)=none
   rw[beqD,zt ek]
   rfl
 ·by_cases ek:k=0
  ·subst ek
   have hB':some (Blk.row n g 1 t)=some B:=hB
   cases hB'
   refine⟨by omega, .inr ⟨b,us,Ak _ _ _,hheap,by simp at hle;omega,fun i hi=>⟨by rw[hg i hi];rfl,fun j d hj=> ?_⟩⟩⟩
   rw[hg i hi]at hj
   match j,hj with
   |0,hj=>
    have hj':ds.getD i (dI 0)=d:=by simpa using hj
    have hd:(ds.map C.d)[i]? =some (.d d):=by
     rw[List.getElem?_map,zn (by omega),<-hj'];simp[List.getD,show i<ds.length by omega]
    have hu:i<us.size:=by simp at hle;omega
    exact⟨us[i],by rw[Nat.mul_one,Nat.add_zero];exact Array.getElem?_eq_getElem hu,hcs i _ _ hd (Array.getElem?_eq_getElem hu)⟩
   |j+1,hj=>simp at hj
  ·have hB':(bif Nat.beq k 0 then some (Blk.row n g 1 t)else none)=some B:=hB
   rw[beqD,zt ek]at hB'
   cases hB'
 ·have hx:RowAt O' w' 0 1 n v:=hx
  show RowAt _ w' 0 1 n v
  rcases hx with⟨h0,rfl,h2⟩|⟨c,cap,rfl,hcap,h2⟩
  ·rcases h2 with h2|⟨m,h2⟩<;>(rw[hb]at h2;cases h2)
  ·refine .inr ⟨c,cap,rfl,hcap, ?_⟩
   rcases h2 with h2|⟨h2,_,h4⟩
   ·rw[hb]at h2;cases h2
   ·have:c=b:=by rw[hb]at h2;simpa[Nst.blk]using h2.symm
    subst this
    refine .inr ⟨by rw[Ak];rfl,fun ob m hm=> ?_,h4⟩
    rw[Ak]at hm
    cases hm
    omega
def ansN(ok:LB)(r:List AV ->AV)(H':List AV ->Hp):(R:Type) ->List AV ->Hp ->(AV ->Hp ->Option (T R)) ->Option (T R):=fun _ args H k=>match H with
 |[]=>bif ok args then k (r args) (H' args)else none|_::_=>none
theorem AnsS.n{P:Program}{f:FuncId}{ok:LB}{r:List AV ->AV}{H':List AV ->Hp}(hc: ∀x,ok x=true ->CX P f x [] (r x) (H' x)):AnsS P f (ansN ok r H'):=by
 refine⟨fun R args H k t h=> ?_,fun args H=> ?_⟩
 ·unfold ansN at h;cases H with
  |cons b H=>cases h|nil=>
   simp only[]at h;cases hb:ok args with
   |false=>rw[hb]at h;cases h|true=>rw[hb]at h;exact⟨_,_,h,hc args hb⟩
 ·unfold ansN;cases H with
  |cons b H=>exact .no fun R k=>rfl
  |nil=>exact .bif _ (.one _ _ fun R k=>rfl) (.no fun R k=>rfl)
theorem AnsS.nt{P:Program}{f:FuncId}{J:Type}[Inhabited J]{enc:J ->List AV}{c:J ->Bool}{r:J ->AV}{H':J ->Hp}(hc: ∀a,c a=true ->CX P f (enc a) [] (r a) (H' a)):AnsS P f (ansN (okG enc c) (fun x=>r (theT enc x)) fun x=>H' (theT enc x)):= .n fun x h=>by
 unfold okG at h;simp only[zd]at h;exact(hc _ h.2).ge (Gw h.1) (.refl _)
def ansM(ok:List AV ->Hp ->Bool)(r:List AV ->Hp ->AV)(H':List AV ->Hp ->Hp):(R:Type) ->List AV ->Hp ->(AV ->Hp ->Option (T R)) ->Option (T R):=fun _ args H k=>
 bif ok args H then k (r args H) (H' args H)else none
theorem AnsS.mg{P:Program}{f:FuncId}{ok:List AV ->Hp ->Bool}{r:List AV ->Hp ->AV}{H':List AV ->Hp ->Hp}(hc: ∀x H,ok x H=true ->CX P f x H (r x H) (H' x H)):AnsS P f (ansM ok r H'):=by
 refine⟨fun R args H k t h=> ?_,fun args H=> ?_⟩
 ·unfold ansM at h;cases hb:ok args H with
  |false=>rw[hb]at h;cases h|true=>rw[hb]at h;exact⟨_,_,h,hc args H hb⟩
 ·unfold ansM;exact .bif _ (.one _ _ fun R k=>rfl) (.no fun R k=>rfl)
section
variable {J:Type}[Inhabited J]
def okY(enc:J ->List AV×Hp)(x:List AV)(H:Hp):Bool:= @decide (∃a,Asle x (enc a).1/\Hle H (enc a).2) (Classical.propDecidable _)
def theY(enc:J ->List AV×Hp)(x:List AV)(H:Hp):J:= @dite _ (∃a,Asle x (enc a).1/\Hle H (enc a).2) (Classical.propDecidable _) (fun h=>Classical.choose h) (fun _=>default)
omit [Inhabited J] in
theorem Aew{enc:J ->List AV×Hp}{x:List AV}{H:Hp}:okY enc x H=true↔ ∃a,Asle x (enc a).1/\Hle H (enc a).2:=by unfold okY;simp
theorem Tr{enc:J ->List AV×Hp}{x:List AV}{H:Hp}(h:okY enc x H=true):Asle x (enc (theY enc x H)).1/\Hle H (enc (theY enc x H)).2:=by
 have h':=Aew.1 h;unfold theY;rw[dif_pos h'];exact Classical.choose_spec h'
def InjY(enc:J ->List AV×Hp):Prop:= ∀a b,Asle (enc a).1 (enc b).1 ->Hle (enc a).2 (enc b).2 ->a=b
def okZ(enc:J ->List AV×Hp)(c:J ->Bool)(x:List AV)(H:Hp):Bool:=okY enc x H&&c (theY enc x H)
omit [Inhabited J] in
theorem Yo{enc:J ->List AV×Hp}(a:J):okY enc (enc a).1 (enc a).2=true:=Aew.2 ⟨a, .refl _, .refl _⟩
theorem Le{enc:J ->List AV×Hp}(inj:InjY enc)(a:J):theY enc (enc a).1 (enc a).2=a:=(inj _ _ (Tr (Yo a)).1 (Tr (Yo a)).2).symm
theorem Q4{enc:J ->List AV×Hp}(inj:InjY enc){c:J ->Bool}(a:J)(h:c a=true):okZ enc c (enc a).1 (enc a).2=true:=by
 unfold okZ;rw[Yo,Le inj,h];rfl
theorem AnsS.m{P:Program}{f:FuncId}{enc:J ->List AV×Hp}{c:J ->Bool}{r:J ->AV}{H':J ->Hp}(hc: ∀a,c a=true ->CX P f (enc a).1 (enc a).2 (r a) (H' a)):
  AnsS P f (ansM (okZ enc c) (fun x H=>r (theY enc x H)) fun x H=>H' (theY enc x H)):= .mg fun x H h=>by
 unfold okZ at h;simp only[zd]at h;exact(hc _ h.2).ge (Tr h.1).1 (Tr h.1).2
end
theorem P7{H K:Hp}(h:Hle H K)(n:Nat){a b:Blk}(h1:look H n=some a)(h2:look K n=some b):Ble a b:=by
 have:=h n;rw[h1,h2]at this;exact this
theorem Agm{a b:Nat}{l l':MV}(h:Ble (.map a l) (.map b l')):l=l':=by
 have h:Blk.map a l=Blk.map b l':=h;injection h
theorem Xa{a b:List C}{t u:TypeId}(h:Ble (.cells a t) (.cells b u)):Csle a b:=h.2
def C8(l:List Int):MV:=l.reverse.map fun n=>(.int .i64 n, .bool true)
theorem AeJ(l:List Int)(n:Int):C8 (l++[n])=(.int .i64 n, .bool true)::C8 l:=by simp[C8]
theorem Zl(l:List Int)(n:Int):B8 (Bb (C8 l) (.int .i64 n))=l.any fun m=>n==m:=by
 have key: ∀l:List Int,B8 (Bb (l.map fun n=>(Value.int .i64 n,Value.bool true)) (.int .i64 n))=l.any fun m=>n==m:=by
  intro l;induction l with
  |nil=>rfl|cons m r ih=>
   simp only[List.map_cons,Bb,Lh,List.any_cons];cases(n==m)with
   |true=>rfl|false=>simp only[zb,Bool.false_or];exact ih
 unfold C8;rw[key,List.any_reverse]
theorem AeI{a b:List Int}(h:C8 a=C8 b):a=b:=by
 unfold C8 at h;have h2:=(List.map_inj_right (f:=fun n:Int=>(Value.int .i64 n,Value.bool true)) (fun x y e=>by simpa using e)).1 h;exact List.reverse_inj.1 h2
structure Wd where
 text:BA
 q:Bool
inductive It where
 |mk (line:Int) (words:List Wd) (block:Bool) (kids:List It)
namespace It
def line:It ->Int|mk l _ _ _=>l
def words:It ->List Wd|mk _ w _ _=>w
def block:It ->Bool|mk _ _ b _=>b
def kids:It ->List It|mk _ _ _ k=>k
theorem eta(x:It):x=mk x.line x.words x.block x.kids:=by cases x;rfl
end It
def w0:Wd:=⟨ByteArray.mk #[],false⟩
def i0:It:= .mk 0 [] false []
def Fv(w:Wd):List D:=[.v (.string w.text), .v (.bool w.q)]
def Aw(l:List Wd):D:= .sl 2 l.length fun i=>Fv (l.getD i w0)
def kidF:List It ->RD
 |[],_=>[]| .mk l w b k::_,0=>[.v (.int .i64 l),Aw w, .v (.bool b), .sl 4 k.length (kidF k)]|_::r,i+1=>kidF r i
def A6(x:It):D:= .sl 4 x.kids.length (kidF x.kids)
def Af(x:It):List D:=[.v (.int .i64 x.line),Aw x.words, .v (.bool x.block),A6 x]
def Bf(l:List It):D:= .sl 4 l.length fun i=>Af (l.getD i i0)
theorem Yw: ∀(l:List It) (i:Nat),i<l.length ->kidF l i=Af (l.getD i i0)
 |[],i,h=>by simp at h| .mk a b c k::r,0,_=>by simp only[kidF,List.getD_cons_zero,Af,A6,It.line,It.words,It.block,It.kids]|x::r,i+1,h=>by simp only[kidF,List.getD_cons_succ];exact Yw r i (by simpa using h)
theorem Uj(x:It):DE (A6 x) (Bf x.kids):=by
 exact .sl_eq fun i hi=>Yw x.kids i hi
theorem Ek(x:It):DE (Bf x.kids) (A6 x):=by
 exact .sl_eq fun i hi=>(Yw x.kids i hi).symm
theorem de_v{a b:Value}(h:DE (.v a) (.v b)):a=b:=by cases h;rfl
theorem AmY{sz n sz' m:Nat}{f g:RD}(h:DE (.sl sz n f) (.sl sz' m g)):sz=sz'/\n=m/\ ∀i,i<n ->DEs (f i) (g i):=by
 cases h with
 |sl _ _ _ _ h1 h2=>exact⟨rfl,rfl,fun i hi=>⟨h1 i hi,fun j d e hd he=>h2 i j d e hi hd he⟩⟩
theorem AbM{a b:Wd}(h:DEs (Fv a) (Fv b)):a=b:=by
 have h1:=de_v (h.2 0 _ _ rfl rfl);have h2:=de_v (h.2 1 _ _ rfl rfl);cases a;cases b;simp at h1 h2;rw[h1,h2]
theorem AaF{J:Type}{d:J}: ∀{l l':List J},l.length=l'.length ->(∀i,i<l.length ->l.getD i d=l'.getD i d) ->l=l'
 |[],[],_,_=>rfl|x::r,y::r',hl,h=>by
  have h0:=h 0 (by simp);simp at h0;rw[h0,AaF (l:=r) (l':=r') (by simpa using hl) (fun i hi=>by have:=h (i+1) (by simpa using hi);simpa using this)]
 |[],_::_,hl,_=>by simp at hl|_::_,[],hl,_=>by simp at hl
theorem So{l l':List Wd}(h:DE (Aw l) (Aw l')):l=l':=by
 obtain⟨_,hl,hf⟩:=AmY h;exact AaF hl fun i hi=>AbM (hf i hi)
theorem Uk: ∀(l l':List It),l.length=l'.length ->(∀i,i<l.length ->DEs (kidF l i) (kidF l' i)) ->l=l'
 |[],[],_,_=>rfl| .mk a b c k::r, .mk a' b' c' k'::r',hl,h=>by
  have h0:=h 0 (by simp);simp only[kidF]at h0;have e1:=de_v (h0.2 0 _ _ rfl rfl);have e2:=So (h0.2 1 _ _ rfl rfl);have e3:=de_v (h0.2 2 _ _ rfl rfl);obtain⟨_,hl4,hf4⟩:=AmY (h0.2 3 _ _ rfl rfl);have e4:=Uk k k' hl4 hf4;have er:=Uk r r' (by simpa using hl) (fun i hi=>by have:=h (i+1) (by simpa using hi);simpa[kidF]using this);simp at e1 e3;rw[e1,e2,e3,e4,er]
 |[],_::_,hl,_=>by simp at hl|_::_,[],hl,_=>by simp at hl
theorem AeY(x y:It)(h:DE (A6 x) (A6 y)):x.kids=y.kids:=by
 obtain⟨_,hl,hf⟩:=AmY h;exact Uk x.kids y.kids hl hf
theorem Acm{l l':List It}(h:DE (Bf l) (Bf l')):l=l':=by
 have h1:DE (A6 (.mk 0 [] false l)) (A6 (.mk 0 [] false l')):=(Uj (.mk 0 [] false l)).trans (h.trans (Ek (.mk 0 [] false l')));exact AeY _ _ h1
def okI(x:D):Bool:= @decide (∃l,DE x (Bf l)) (Classical.propDecidable _)
def theI(x:D):List It:= @dite _ (∃l,DE x (Bf l)) (Classical.propDecidable _) (fun h=>Classical.choose h) (fun _=>[])
def okW(x:D):Bool:= @decide (∃l,DE x (Aw l)) (Classical.propDecidable _)
def theW(x:D):List Wd:= @dite _ (∃l,DE x (Aw l)) (Classical.propDecidable _) (fun h=>Classical.choose h) (fun _=>[])
theorem AeB{x:D}:okI x=true↔ ∃l,DE x (Bf l):=by unfold okI;simp
theorem Hv{x:D}(h:okI x=true):DE x (Bf (theI x)):=by
 have h':=AeB.1 h;unfold theI;rw[dif_pos h'];exact Classical.choose_spec h'
theorem Aey{x:D}:okW x=true↔ ∃l,DE x (Aw l):=by unfold okW;simp
theorem AcM{x:D}(h:okW x=true):DE x (Aw (theW x)):=by
 have h':=Aey.1 h;unfold theW;rw[dif_pos h'];exact Classical.choose_spec h'
theorem Ts{x:D}{l:List It}(h1:DE x (Bf l))(h2:DE (Bf l) x):okI x=true/\theI x=l:=by
 have h:=AeB.2 ⟨l,h1⟩;exact⟨h,(Acm (h2.trans (Hv h))).symm⟩
theorem AcL{x:D}{l:List Wd}(h1:DE x (Aw l))(h2:DE (Aw l) x):okW x=true/\theW x=l:=by
 have h:=Aey.2 ⟨l,h1⟩;exact⟨h,(So (h2.trans (AcM h))).symm⟩
theorem Gj(l:List It):okI (Bf l)=true:=(Ts (.refl _) (.refl _)).1
theorem C3(l:List It):theI (Bf l)=l:=(Ts (.refl _) (.refl _)).2
theorem Py(x:It):okI (A6 x)=true:=(Ts (Uj x) (Ek x)).1
theorem Fb(x:It):theI (A6 x)=x.kids:=(Ts (Uj x) (Ek x)).2
theorem Wf(l:List Wd):okW (Aw l)=true:=(AcL (.refl _) (.refl _)).1
theorem Sq(l:List Wd):theW (Aw l)=l:=(AcL (.refl _) (.refl _)).2
def dep:List It ->Nat
 |[]=>0| .mk _ _ _ k::r=>max (dep k+1) (dep r)
theorem Jm: ∀(l:List It) (i:Nat),i<l.length ->dep (l.getD i i0).kids<dep l
 |[],i,h=>by simp at h| .mk a b c k::r,0,_=>by simp[dep,It.kids];omega| .mk a b c k::r,i+1,h=>by
  have:=Jm r i (by simpa using h);simp only[List.getD_cons_succ,dep];omega
def fits:List It ->Bool
 |[]=>true| .mk _ w _ k::r=>decide (k.length<=9223372036854775807)&&decide (w.length<=9223372036854775807)&&w.all (fun x=>decide (x.text.size<=9223372036854775807))&&fits k&&fits r
def okL(l:List It):Bool:=decide (l.length<=9223372036854775807)&&fits l
def okWs(w:List Wd):Bool:=decide (w.length<=9223372036854775807)&&w.all fun x=>decide (x.text.size<=9223372036854775807)
theorem AaN: ∀(l:List It) (i:Nat),i<l.length ->fits l=true ->okL (l.getD i i0).kids=true/\okWs (l.getD i i0).words=true
 |[],i,h,_=>by simp at h| .mk a b c k::r,0,_,hf=>by
  simp only[fits,zd]at hf;obtain⟨⟨⟨⟨h1,h2⟩,h3⟩,h4⟩,h5⟩:=hf;simp only[List.getD_cons_zero,It.kids,It.words,okL,okWs,h1,h2,h3,h4,Bool.and_self,and_self]
 | .mk a b c k::r,i+1,h,hf=>by
  simp only[fits,zd]at hf;simp only[List.getD_cons_succ];exact AaN r i (by simpa using h) hf.2
theorem Kw{l:List It}(h:okL l=true):l.length<=9223372036854775807:=by unfold okL at h;simp at h;exact h.1
theorem Aic{l:List It}(h:okL l=true):fits l=true:=by unfold okL at h;simp at h;exact h.2
theorem Kx{l:List It}(h:okL l=true){i:Nat}(hi:i<l.length):okL (l.getD i i0).kids=true/\okWs (l.getD i i0).words=true:=AaN l i hi (Aic h)
theorem Lm{l:List Wd}(h:okWs l=true):l.length<=9223372036854775807:=by unfold okWs at h;simp at h;exact h.1
def ans1(c:D ->Bool)(g:D ->AV):(R:Type) ->List AV ->Hp ->(AV ->Hp ->Option (T R)) ->Option (T R):=fun _ args H k=>match H,args with
 |[],[.c (.d x)]=>bif c x then k (g x) []else none|_,_=>none
theorem AgD{P:Program}{f0:FuncId}{c:D ->Bool}{g:D ->AV}(hc: ∀x,c x=true ->CX P f0 [.c (.d x)] [] (g x) []):
  ∀(R:Type) args H (k:AV ->Hp ->Option (T R)) t,ans1 c g R args H k=some t -> ∃x H',k x H'=some t/\CX P f0 args H x H':=fun R args H k t h=>by
 unfold ans1 at h;split at h
 ·rename_i x;cases hx:c x with
  |true=>rw[hx]at h;exact⟨_,_,h,hc x hx⟩|false=>rw[hx]at h;cases h
 ·simp at h
theorem Pt{x y:D}(h:DE x y):Ale (.c (.d x)) (.c (.d y)):=h
theorem ArH{x y:D}(h:DE x y):Asle [.c (.d x)] [.c (.d y)]:= .cons (Pt h) .nil
abbrev aI(l:List It):AV:= .c (.d (Bf l))
abbrev aW(l:List Wd):AV:= .c (.d (Aw l))
abbrev aT(x:It):AV:= .agg ((Af x).map .d)
def decB(n:Nat):BA:=if h:n<10 then⟨#[UInt8.ofNat (48+n)]⟩else decB (n/10)++decB (n%10)
termination_by n
decreasing_by all_goals omega
theorem Bg{n:Nat}(h:n<10):decB n=⟨#[UInt8.ofNat (48+n)]⟩:=by rw[decB,dif_pos h]
theorem Ea{n:Nat}(h: ¬n<10):decB n=decB (n/10)++decB (n%10):=by rw[decB,dif_neg h]
theorem Gq(n:Nat):(decB n).size<=n+1:=by
 induction n using Nat.strongRecOn with
 |ind n ih=>
  by_cases h:n<10
  ·rw[Bg h];show 1<=_;omega
  ·rw[Ea h,ByteArray.size_append];have h1:=ih (n/10) (by omega);have h2:=ih (n%10) (by omega);omega
def say(l:List BA):It:= .mk 0 (l.map fun t=>⟨t,false⟩) false []
def Gy:BA:=⟨#[115,116,97,116,105,111,110]⟩
def Vs:BA:=⟨#[98,117,115]⟩
def Hy:BA:=⟨#[108,105,110,101]⟩
def Fe:BA:=⟨#[115,111,117,114,99,101]⟩
def Sj:BA:=⟨#[98,97,121]⟩
def Fx:BA:=⟨#[99,111,117,112,108,101,114]⟩
def tCt:BA:=⟨#[99,116]⟩
def tVt:BA:=⟨#[118,116]⟩
def tSat:BA:=⟨#[115,97,116]⟩
def F2:BA:=⟨#[116,114,97,118,101,108]⟩
def Tu:BA:=⟨#[115,101,108,101,99,116]⟩
def Hx:BA:=⟨#[111,112,101,110]⟩
def Tv:BA:=⟨#[99,108,111,115,101,100]⟩
def Cs:BA:=⟨#[98,114,101,97,107,101,114]⟩
def dec(n:Int):BA:=decB n.toNat
def Pj(n:BA):It:=say [Vs,n]
def F7(l:SLine):It:=say [Hy,l.name,dec l.r1,dec l.x1,dec l.r0,dec l.x0]
def Hf(l:SSrc):It:=say [Fe,l.name,dec l.emf,dec l.r1,dec l.x1,dec l.r0,dec l.x0]
def Jk(bs:List BA)(l:SLink):It:=say [Tu,bs.getD l.bus.toNat e0,bif l.pos==1 then Tv else Hx]
def bayW(s:SSta)(b:SBay):List Wd:=(bif b.kind==1 then [Sj,b.name,Hy,(s.qb.getD b.off.toNat Ah).name,dec b.fin]else bif b.kind==2 then [Sj,b.name,Fe,(s.qc.getD b.off.toNat src0).name]else [Sj,b.name,Fx,dec b.zr,dec b.zx]).map fun t=>⟨t,false⟩
def bayK(s:SSta)(b:SBay):List It:=[say [tCt,dec b.ct]]++(bif b.kind !=3 then [say [tVt,dec b.vt]]else [])++(bif b.sat !=0 then [say [tSat,dec b.sat]]else [])++[say [F2,dec b.qg]]++b.qe.map (Jk s.qa)++(bif !b.qf then [say [Cs,Hx]]else [])
def Bc(s:SSta)(b:SBay):It:= .mk 0 (bayW s b) true (bayK s b)
def Cp(s:SSta):List It:=[say [Gy,s.name]]++s.qa.map Pj++s.qb.map F7++s.qc.map Hf++s.qd.map (Bc s)
structure RLe {O:Type} (c:O ->List D) (d0:O) (n:Nat) (f:RD) (l:List O):Prop where
 len:n=l.length
 le: ∀i,i<n ->DEs (f i) (c (l.getD i d0))
section
variable {O:Type}{c:O ->List D}{d0:O}
theorem RLe.de{n sz:Nat}{f:RD}{l:List O}(h:RLe c d0 n f l):DE (.sl sz n f) (.sl sz l.length fun i=>c (l.getD i d0)):=by
 obtain⟨rfl,h1⟩:=h;exact .sls h1
theorem RLe.nil(f:RD):RLe c d0 0 f []:=⟨rfl,fun i h=>by omega⟩
theorem Jq(ds:List D):Ae ds ds.length 0=ds:=by unfold Ae;simp
theorem RLe.one{sz:Nat}{ds:List D}{x:O}(hs:ds.length=sz)(h1:DEs ds (c x)):RLe c d0 1 (Ae ds sz) [x]:=⟨rfl,fun i hi=>by
 obtain rfl:i=0:=by omega
 rw[<-hs,Jq];exact h1⟩
theorem RLe.app{n sz:Nat}{f:RD}{l:List O}{ds:List D}{x:O}(h:RLe c d0 n f l)(hs:ds.length=sz)(h1:DEs ds (c x)):RLe c d0 (n+1) (appF n f (Ae ds sz)) (l++[x]):=by
 refine⟨by rw[h.len];simp,fun i hi=> ?_⟩;unfold appF;rw[bltD];by_cases e:i<n
 ·rw[zk e,K0 (by rw[<-h.len];exact e)];exact h.le i e
 ·obtain rfl:i=n:=by omega
  rw[zt e,K1 (by rw[<-h.len];omega),<-h.len,Nat.sub_self];exact(RLe.one (d0:=d0) hs h1).le 0 (by omega)
theorem app_loop{J ρ:Type}{L:Nat ->Nat ->RD ->Int ->ρ}{K:Nat ->RD ->ρ}{l:List J}{d:J}{ch:J ->List D}{e:J ->O}{sz:Nat}
  (hst: ∀(m k n:Nat) (f:RD),k<l.length ->n<=5000 ->L (m+1) n f k=L m (n+1) (appF n f (Ae (ch (l.getD k d)) sz)) ((k+1:Nat):Int))
  (hend: ∀(m n:Nat) (f:RD),L (m+1) n f (l.length:Int)=K n f) (hs: ∀x,(ch x).length=sz) (hch: ∀k,k<l.length ->DEs (ch (l.getD k d)) (c (e (l.getD k d)))):
  ∀(m k n:Nat) (f:RD) (bef:List O),k<=l.length ->l.length -k<m ->n+(l.length -k)<=5000 ->RLe c d0 n f bef ->
   ∃f',RLe c d0 (n+(l.length -k)) f' (bef++(l.drop k).map e)/\L m n f k=K (n+(l.length -k)) f':=by
 intro m;induction m with
 |zero=>intro k n f bef _ h;omega|succ m ih=>
  intro k n f bef hk hm hn hr;by_cases hlt:k<l.length
  ·rw[hst m k n f hlt (by omega)];obtain⟨f',h1,h2⟩:=ih (k+1) (n+1) _ (bef++[e (l.getD k d)]) (by omega) (by omega) (by omega) (hr.app (hs _) (hch k hlt));have e1:n+1+(l.length -(k+1))=n+(l.length -k):=by omega
   rw[e1]at h1 h2;refine⟨f', ?_,h2⟩;rw[Av (d:=d) hlt];simpa using h1
  ·obtain rfl:k=l.length:=by omega
   rw[hend];refine⟨f, ?_,by rw[Nat.sub_self,Nat.add_zero]⟩;simpa using hr
end
theorem Te{J:Type}{g:J ->List D}{sz:Nat}{d:J}(hg: ∀x,(g x).length=sz): ∀(l:List J) (i:Nat),i<l.length ->Ae (l.flatMap g) sz i=g (l.getD i d)
 |[],i,h=>by simp at h|x::r,0,_=>by
  unfold Ae;simp only[Nat.zero_mul,zq,List.flatMap_cons,List.getD_cons_zero];rw[List.take_append_of_le_length (by rw[hg];exact Nat.le_refl _),List.take_of_length_le (by rw[hg];exact Nat.le_refl _)]
 |x::r,i+1,h=>by
  have ih:=Te (d:=d) hg r i (by simpa using h);unfold Ae at ih⊢;rw[List.flatMap_cons,List.getD_cons_succ,<-ih,List.drop_append,hg,zl (by rw[hg,Nat.add_mul];omega),List.nil_append];congr 2;rw[Nat.add_mul];omega
def Cb(l:List BA):List Wd:=l.map fun t=>⟨t,false⟩
def Dt(l:List BA):D:= .sl 2 l.length (Ae (l.flatMap fun t=>[dS t,dB false]) 2)
theorem Hq(l:List BA):DE (Dt l) (Aw (Cb l)):=by
 unfold Dt Aw Cb;rw[List.length_map];refine .sls fun i hi=> ?_
 rw[Te (g:=fun t=>[dS t,dB false]) (sz:=2) (d:=e0) (fun _=>rfl) l i hi];have e:(l.map fun t=>(⟨t,false⟩:Wd)).getD i w0=⟨l.getD i e0,false⟩:=by
  simp[zh,hi]
 rw[e];exact .refl _
def sayC(l:List BA):List D:=[dI 0,Dt l,dB false, .v (.slice none 0 0)]
theorem At(l:List BA):DEs (sayC l) (Af (say l)):=
 .cons (.refl _) (.cons (Hq l) (.cons (.refl _) (.cons (.nil _ _) .nil)))
theorem U9{x:It}{ws kd:D}(h0:x.line=0)(hb:x.block=true)(hw:DE ws (Aw x.words))(hk:DE kd (A6 x)):DEs [dI 0,ws,dB true,kd] (Af x):=by
 unfold Af;rw[h0,hb];exact .cons (.refl _) (.cons hw (.cons (.refl _) (.cons hk .nil)))
def decI(n:Int):BA:=bif decide (n<0)then(⟨#[45]⟩:BA)++decB n.natAbs else decB n.toNat
def Ff:BA:=⟨#[114,101,108,97,121]⟩
def Fc:BA:=⟨#[122,111,110,101]⟩
def Dw:BA:=⟨#[102,111,114,119,97,114,100]⟩
def Dv:BA:=⟨#[114,101,118,101,114,115,101]⟩
def Pb:BA:=⟨#[108,111,111,112]⟩
def De:BA:=⟨#[115,99,104,101,109,101]⟩
def Fw:BA:=⟨#[117,110,100,101,114,114,101,97,99,104]⟩
def Gz:BA:=⟨#[111,118,101,114,114,101,97,99,104]⟩
def J4:BA:=⟨#[98,108,111,99,107,105,110,103]⟩
def Dm:BA:=⟨#[100,101,102,105,110,105,116,101]⟩
def Eg:BA:=⟨#[105,110,118,101,114,115,101]⟩
def Pc:BA:=⟨#[102,97,105,108]⟩
def Ef:BA:=⟨#[114,101,99,108,111,115,101]⟩
def Hw:BA:=⟨#[117,110,100,101,114]⟩
def Pa:BA:=⟨#[111,118,101,114]⟩
def By:BA:=⟨#[100,105,102,102,101,114,101,110,116,105,97,108]⟩
def Sr:BA:=⟨#[114,117,108,101]⟩
def Si:BA:=⟨#[115,101,116]⟩
def Lf:BA:=⟨#[112,117,98,108,105,115,104]⟩
def Gx:BA:=⟨#[115,117,98,115,99,114,105,98,101]⟩
def Dj(i:Int)(on fw:Bool)(x r l d:Int):List It:=bif on then [say [Fc,decI i,bif fw then Dw else Dv,decI x,decI r,decI l,decI d]]else []
def Kt(n:Int):BA:=bif n==1 then Fw else bif n==2 then Gz else J4
def Bw(b:Bool)(x:It):List It:=bif b then [x]else []
def C1(r:SRel):List It:=Dj 1 r.zon0 r.zfw0 r.zx0 r.zr0 r.zl0 r.zd0++Dj 2 r.zon1 r.zfw1 r.zx1 r.zr1 r.zl1 r.zd1++Dj 3 r.zon2 r.zfw2 r.zx2 r.zr2 r.zl2 r.zd2
 ++Bw (r.min !=0) (say [Pb,decI r.min,decI r.kre,decI r.kim])
 ++Bw (r.qn !=0) (say [De,Kt r.qn,decI r.wait,decI r.guard])
 ++Bw r.don (say [Dm,decI r.dpk,decI r.ddl])
 ++Bw r.ion (say [Eg,decI r.ipk,decI r.idl])
 ++Bw r.fon (say [Pc,decI r.fpk,decI r.fdl])
 ++Bw (r.qp !=0) (say [Ef,decI r.qp,decI r.dead,decI r.qo])
 ++Bw r.uon (say [Hw,decI r.upk,decI r.udl])
 ++Bw r.oon (say [Pa,decI r.opk,decI r.odl])
 ++Bw (r.diff !=0) (say [By,decI r.diff,decI r.num,decI r.den,decI r.harm])
def My(x:SRule):It:= .mk 0 [⟨Sr,false⟩,⟨x.name,false⟩,⟨x.text,true⟩] false []
def Pi(x:SSet):It:=say (Si::x.name::x.qm)
def L6(x:SPub):It:=say [Lf,x.set,decI x.fst,decI x.max]
def Jj(x:SSub):It:=say [Gx,x.loc,x.dev,x.set,x.sig]
def Eo(r:SRel):List It:=r.qi.map My++r.qj.map Pi++r.qk.map L6++r.ql.map Jj
def Sl(k:Int):BA:=bif k==1 then Hy else bif k==2 then Fe else Fx
def relW(s:SSta)(r:SRel):List BA:=bif r.kind==4 then [Ff,r.name,Vs]else [Ff,r.name,Sl r.kind,(s.qd.getD r.bay.toNat bay0).name]
def Ds(s:SSta)(r:SRel):It:= .mk 0 (Cb (relW s r)) true (C1 r++Eo r)
def F6(s:SSta)(l:List SRel):List It:=l.map (Ds s)
abbrev isT(a b:BA):Bool:=a.toList==b.toList
def Vv:BA:=⟨#[116,114,105,112]⟩
def sgLine:List BA:=[⟨#[116,114,105,112]⟩,⟨#[99,108,111,115,101]⟩,⟨#[102,97,105,108]⟩,⟨#[115,101,110,100]⟩,⟨#[116,114,97,110,115,102,101,114]⟩,⟨#[122,111,110,101,49]⟩,⟨#[122,111,110,101,50]⟩,⟨#[122,111,110,101,51]⟩,⟨#[116,105,109,101]⟩,⟨#[115,116,97,114,116,101,100]⟩]
def sgSrc:List BA:=[⟨#[116,114,105,112]⟩,⟨#[99,108,111,115,101]⟩,⟨#[102,97,105,108]⟩,⟨#[116,105,109,101]⟩,⟨#[115,116,97,114,116,101,100]⟩,⟨#[117,110,100,101,114]⟩,⟨#[111,118,101,114]⟩]
def sgDig:List BA:=[⟨#[48]⟩,⟨#[49]⟩,⟨#[50]⟩,⟨#[51]⟩,⟨#[52]⟩,⟨#[53]⟩,⟨#[54]⟩,⟨#[55]⟩,⟨#[56]⟩,⟨#[57]⟩,⟨#[49,48]⟩,⟨#[49,49]⟩,⟨#[49,50]⟩,⟨#[49,51]⟩,⟨#[49,52]⟩,⟨#[49,53]⟩]
def sgBus:List BA:=(List.range 16).map fun i=>Vv++sgDig.getD i e0
def Cu(k:Int):List BA:=bif k==1 then sgLine else bif k==2||k==3 then sgSrc else bif k==4 then sgBus else []
def outS(r:SRel):List BA:=Cu r.kind++r.qi.map SRule.name
def inS(r:SRel):List BA:=r.ql.map SSub.loc
def repS(seen:List BA):List BA ->Bool
 |[]=>false|x::t=>inB seen x||repS (seen++[x]) t
def H0(known seen:List BA):List BA ->Int
 |[]=>0|x::t=>bif !inB known x then 9 else bif inB seen x then 8 else H0 known (seen++[x]) t
def Fh(known:List BA):List SSet ->Int
 |[]=>0|x::t=>bif H0 known [] x.qm !=0 then H0 known [] x.qm else Fh known t
def Cy(r:SRel)(n:BA):Int:=idxP (fun s:SSet=>isT s.name n) 0 r.qj
def Jc(r:SRel):List SPub ->Int
 |[]=>0|x::t=>bif decide (Cy r x.set<0)then 9 else Jc r t
def Ki(r:SRel):Int:=bif repS [] (outS r++inS r)then 8 else bif Fh (outS r) r.qj !=0 then Fh (outS r) r.qj else Jc r r.qk
structure Plc where
 rel:Int
 set:Int
 item:Int
 err:Int
def F9(qh:List SRel)(n:BA):Int:=idxP (fun r:SRel=>isT r.name n) 0 qh
def F3(l:List BA)(n:BA):Int:=idxP (fun x:BA=>isT x n) 0 l
def AmF(r:SRel)(dev:Int)(x:SSub):Plc:=
 bif decide (Cy r x.set<0)then⟨0,0,0,9⟩else bif !(r.qk.any fun p=>isT p.set x.set)then⟨0,0,0,11⟩else
  bif decide (F3 (r.qj.getD (Cy r x.set).toNat set0).qm x.sig<0)then⟨0,0,0,9⟩else⟨dev,Cy r x.set,F3 (r.qj.getD (Cy r x.set).toNat set0).qm x.sig,0⟩
def Pr(qh:List SRel)(of dev:Int)(x:SSub):Plc:=
 bif decide (dev<0)then⟨0,0,0,9⟩else bif dev==of then⟨0,0,0,12⟩else AmF (qh.getD dev.toNat rel0) dev x
def Ut(qh:List SRel)(of:Int)(x:SSub):Plc:=Pr qh of (F9 qh x.dev) x
def Hz(qh:List SRel)(of:Int):List SSub ->Int
 |[]=>0|x::t=>bif(Ut qh of x).err !=0 then(Ut qh of x).err else Hz qh of t
def Lj(qh:List SRel)(i:Int)(r:SRel):Int:=bif Ki r !=0 then Ki r else Hz qh i r.ql
def Fy(qh:List SRel)(i:Nat):List SRel ->Int×Int
 |[]=>(0,0)|r::t=>bif Lj qh i r !=0 then((i:Int),Lj qh i r)else Fy qh (i+1) t
structure Pbl where
 rel:Int
 set:Int
 fst:Int
 max:Int
 qm:List Int
structure Dev where
 outs:List BA
 sends:List Int
 ins:List (Int×Int)
structure SCfg where
 sta:SSta
 qh:List SRel
instance:Inhabited SCfg:=⟨⟨default,[]⟩⟩
def cfgC(c:SCfg):List D:=staC c.sta++[Di c.qh]
abbrev aCfg(c:SCfg):AV:= .agg ((cfgC c).map .d)
theorem AiL(c k:SCfg)(h:DEs (cfgC c) (cfgC k)):c=k:=by
 have hs:DEs (staC c.sta) (staC k.sta):=⟨rfl,fun j d e hd he=>by
  have hj:j<5:=(List.getElem?_eq_some_iff.1 hd).1;refine h.2 j d e ?_ ?_
  ·unfold cfgC;rw[List.getElem?_append_left hj];exact hd
  ·unfold cfgC;rw[List.getElem?_append_left hj];exact he⟩
 have h1:=Aaj _ _ hs;have h2:=A8 (sz:=53) (d0:=rel0) Lk _ _ (h.2 5 _ _ rfl rfl);cases c;cases k;cases h1;cases h2;rfl
def nC(n:Int):List D:=[dI n]
abbrev nsD(l:List Int):D:=Ad 1 nC 0 l
def inC(p:Int×Int):List D:=[dI p.1,dI p.2]
abbrev insD(l:List (Int×Int)):D:=Ad 2 inC (0,0) l
def pbl0:Pbl:=⟨0,0,0,0,[]⟩
def dev0:Dev:=⟨[],[],[]⟩
def pblC(p:Pbl):List D:=[dI p.rel,dI p.set,dI p.fst,dI p.max,nsD p.qm]
def devC(d:Dev):List D:=[Ab d.outs,nsD d.sends,insD d.ins]
abbrev AlW(l:List Pbl):D:=Ad 5 pblC pbl0 l
abbrev AmV(l:List Dev):D:=Ad 3 devC dev0 l
theorem Amw(l:List BA)(s:BA):inB l s=true↔s∈l:=by
 unfold inB;rw[List.any_eq_true];constructor
 ·rintro⟨t,ht,h⟩;have:s=t:=by
   cases s;cases t;simp only[beq_iff_eq]at h;simp only[ByteArray.mk.injEq];exact Array.toList_inj.1 h
  rw[this];exact ht
 ·exact fun h=>⟨s,h,by simp⟩
def Bd(s:SSta):List BA:=s.qa++(s.qb.map SLine.name++(s.qc.map SSrc.name++s.qd.map SBay.name))
theorem Un{a b:BA}:isT a b=true↔a=b:=by
 show(a.toList==b.toList)=true↔_;rw[Adc,Tz]
theorem Aik(a:BA):isT a a=true:=Un.2 rfl
theorem Um(a b:BA):isT a b=isT b a:=by
 rw[Bool.eq_iff_iff,Un,Un];exact⟨fun h=>h.symm,fun h=>h.symm⟩
theorem Mw{J:Type}(p:J ->Bool)(d:J): ∀(l:List J) (i:Nat),(idxP p i l= -1/\ ∀x∈l,p x=false)\/ ∃k,k<l.length/\idxP p i l=((i+k:Nat):Int)/\p (l.getD k d)=true/\ ∀j,j<k ->p (l.getD j d)=false
 |[],i=> .inl ⟨rfl,fun x h=>by cases h⟩
 |x::t,i=>by
  cases hp:p x with
  |true=>exact .inr ⟨0,by simp,by simp[idxP,hp],by simpa using hp,fun j h=>by omega⟩
  |false=>
   rcases Mw p d t (i+1)with⟨h1,h2⟩|⟨k,hk,h1,h2,h3⟩
   ·refine .inl ⟨by simp[idxP,hp,h1],fun y hy=> ?_⟩;rcases List.mem_cons.1 hy with rfl|hy
    ·exact hp
    ·exact h2 y hy
   ·refine .inr ⟨k+1,by simpa using hk, ?_,by simpa using h2,fun j hj=> ?_⟩
    ·simp only[idxP,hp,zb,h1];congr 1;omega
    ·cases j with
     |zero=>simpa using hp|succ j=>simpa using h3 j (by omega)
theorem Afg{J:Type}{p:J ->Bool}(d:J){l:List J}(h:0<=idxP p 0 l): ∃k,k<l.length/\idxP p 0 l=(k:Int)/\p (l.getD k d)=true/\ ∀j,j<k ->p (l.getD j d)=false:=by
 rcases Mw p d l 0 with⟨h1,_⟩|⟨k,hk,h1,h2,h3⟩
 ·rw[h1]at h;exact absurd h (by decide)
 ·exact⟨k,hk,by rw[h1];congr 1;omega,h2,h3⟩
theorem Lz{J:Type}{l:List J}{k:Nat}(d:J)(h:k<l.length):l.getD k d∈l:=by simp[List.getD,h]
def devA(acc:MV)(i:Nat):List SRel ->List (Value×Value)
 |[]=>acc|r::t=>devA (bif !(Bb acc (.string r.name)).isSome then(.string r.name, .int .i64 i)::acc else acc) (i+1) t
theorem AdU(a b:BA):Lh (.string a) (.string b)=isT a b:=by
 show(a.data.toList==b.data.toList)=(a.toList==b.toList);rw[ByteArray.toList_eq,ByteArray.toList_eq]
theorem Tj(n:BA): ∀(l:List SRel) (acc:MV) (i:Nat),Bb (devA acc i l) (.string n)=match Bb acc (.string n)with
  |some v=>some v|none=>bif decide (idxP (fun r:SRel=>isT r.name n) i l<0)then none else some (.int .i64 (idxP (fun r:SRel=>isT r.name n) i l))
 |[],acc,i=>by
  show Bb acc (.string n)=_;cases Bb acc (.string n)<;>rfl
 |r::t,acc,i=>by
  show Bb (devA _ (i+1) t) (.string n)=_;rw[Tj n t];cases hn:isT r.name n with
  |true=>
   have e:r.name=n:=Un.1 hn;simp only[idxP,hn,za,e];cases h:Bb acc (.string n)with
   |some v=>simp[h]|none=>
    simp only[Option.isSome_none,Bool.not_false,za,Bb,AdU,Aik];rw[zt];rfl
  |false=>
   have hn':isT n r.name=false:=by rw[Um];exact hn
   simp only[idxP,hn,zb];cases h2:(Bb acc (.string r.name)).isSome with
   |true=>rfl|false=>simp only[Bool.not_false,za,Bb,AdU,hn',zb]
theorem Ags(l:List SRel)(n:BA):Bb (devA [] 0 l) (.string n)=bif decide (F9 l n<0)then none else some (.int .i64 (F9 l n)):=Tj n l [] 0
theorem G8{J:Type}{valid:J ->Bool}{key:J ->BA}{rest:J ->Int}: ∀{l:List J} {seen:List BA},Cd valid key rest seen l=0 ->(l.map key).Nodup/\ ∀x∈l,key x∉seen
 |[],seen,_=>⟨by simp,fun x h=>by cases h⟩
 |x::t,seen,h=>by
  unfold Cd at h;cases h1:valid x with
  |false=>rw[h1]at h;cases h|true=>
   rw[h1]at h;cases h2:inB seen (key x)with
   |true=>rw[h2]at h;cases h|false=>
    rw[h2]at h;cases h3:(rest x !=0)with
    |true=>rw[h3]at h;have h:rest x=0:=h;rw[h]at h3;cases h3|false=>
     rw[h3]at h;obtain⟨a,b⟩:=G8 (l:=t) h;have hx:key x∉seen:=fun hm=>by rw[(Amw _ _).2 hm]at h2;cases h2
     refine⟨?_,fun y hy=> ?_⟩
     ·rw[List.map_cons,List.nodup_cons];refine⟨fun hm=> ?_,a⟩;obtain⟨y,hy,e⟩:=List.mem_map.1 hm;exact b y hy (by simp[e])
     ·rcases List.mem_cons.1 hy with rfl|hy
      ·exact hx
      ·exact fun hm=>b y hy (by simp[hm])
structure Uq (r:SRel):Prop where
 qj:(r.qj.map SSet.name).Nodup
 qk:(r.qk.map SPub.set).Nodup
end Go.Eb
namespace Go.Y.st
open Go.RowKit Go.Eb
def ApA:=A1 [(4,⟨[0,16,17],[]⟩)]
def L15(s:BA)(g m:Nat)(i:Int):=LK prog Orc.nil ApA 0 g f65 4 m ⟨frm [(0,vS s),(16,vI s.size),(17,vI i)] 0 f65.ntmps,[],0⟩
theorem ev15(s:BA)(g:Nat):Ai prog Orc.nil ApA g f65 (Ac f65) [vS s] []=
 (bif(↑(ByteArray.size s):Int)==0 then leB false else(bif decide ((↑(ByteArray.size s):Int)>12)then leB false else L15 s g g 0)):=by kernel_rfl
theorem st15(s:BA)(g m:Nat)(i:Int):L15 s g (m+1) i=
 (bif decide (i<(↑(ByteArray.size s):Int))then(bif decide (0<=i)&&decide (i<(↑(ByteArray.size s):Int))then(bif decide ((↑(UInt8.toNat ((Array.toList (ByteArray.data
 s)).getD i.toNat 0)):Int)>=65)then(bif decide ((↑(UInt8.toNat ((Array.toList (ByteArray.data s)).getD i.toNat 0)):Int)<=90)then(bif decide ((↑(UInt8.toNat ((Array.toList
 (ByteArray.data s)).getD i.toNat 0)):Int)>=48)then(bif decide ((↑(UInt8.toNat ((Array.toList (ByteArray.data s)).getD i.toNat 0)):Int)<=57)then L15 s g m (wrap
 .i64 (i+1))else L15 s g m (wrap IntKind.i64 (i+1)))else L15 s g m (wrap .i64 (i+1)))else(bif decide ((↑(UInt8.toNat ((Array.toList (ByteArray.data
 s)).getD i.toNat 0)):Int)>=97)then(bif decide ((↑(UInt8.toNat ((Array.toList (ByteArray.data s)).getD i.toNat 0)):Int)>=48)then(bif decide ((↑(UInt8.toNat ((Array.toList
 (ByteArray.data s)).getD i.toNat 0)):Int)<=57)then(bif !decide ((↑(UInt8.toNat ((Array.toList (ByteArray.data s)).getD i.toNat 0)):Int)<=122)then(bif i==0 then leB
 false else L15 s g m (wrap .i64 (i+1)))else L15 s g m (wrap .i64 (i+1)))else(bif !decide ((↑(UInt8.toNat ((Array.toList (ByteArray.data s)).getD i.toNat 0))
 :Int)<=122)then(bif i==0 then leB false else(bif !(↑(UInt8.toNat ((Array.toList (ByteArray.data s)).getD i.toNat 0)):Int)==95 then leB false else L15 s g m (wrap
 IntKind.i64 (i+1))))else L15 s g m (wrap .i64 (i+1))))else(bif !decide ((↑(UInt8.toNat ((Array.toList (ByteArray.data s)).getD i.toNat 0)):Int)<=122)then(bif i
 ==0 then leB false else(bif !(↑(UInt8.toNat ((Array.toList (ByteArray.data s)).getD i.toNat 0)):Int)==95 then leB false else L15 s g m (wrap .i64 (i+1))))else L15
 s g m (wrap .i64 (i+1))))else(bif decide ((↑(UInt8.toNat ((Array.toList (ByteArray.data s)).getD i.toNat 0)):Int)>=48)then(bif decide ((↑(UInt8.toNat
 ((Array.toList (ByteArray.data s)).getD i.toNat 0)):Int)<=57)then(bif i==0 then leB false else L15 s g m (wrap .i64 (i+1)))else(bif i==0 then leB false else
 (bif !(↑(UInt8.toNat ((Array.toList (ByteArray.data s)).getD i.toNat 0)):Int)==95 then leB false else L15 s g m (wrap .i64 (i+1)))))else(bif i==0 then leB false
 else(bif !(↑(UInt8.toNat ((Array.toList (ByteArray.data s)).getD i.toNat 0)):Int)==95 then leB false else L15 s g m (wrap .i64 (i+1)))))))else(bif decide
 ((↑(UInt8.toNat ((Array.toList (ByteArray.data s)).getD i.toNat 0)):Int)>=97)then(bif decide ((↑(UInt8.toNat ((Array.toList (ByteArray.data s)).getD i.toNat 0)):Int)>=48)
 then(bif decide ((↑(UInt8.toNat ((Array.toList (ByteArray.data s)).getD i.toNat 0)):Int)<=57)then(bif !decide ((↑(UInt8.toNat ((Array.toList (ByteArray.data s)).getD i.toNat
 (0:UInt8))):Int)<=122)then(bif i==0 then leB false else L15 s g m (wrap .i64 (i+1)))else L15 s g m (wrap .i64 (i+1)))else(bif !decide
 ((↑(UInt8.toNat ((Array.toList (ByteArray.data s)).getD i.toNat 0)):Int)<=122)then(bif i==0 then leB false else(bif !(↑(UInt8.toNat ((Array.toList (ByteArray.data s)).getD
 i.toNat (0:UInt8))):Int)==95 then leB false else L15 s g m (wrap .i64 (i+1))))else L15 s g m (wrap IntKind.i64 (i+1))))else(bif !decide ((↑(UInt8.toNat
 ((Array.toList (ByteArray.data s)).getD i.toNat 0)):Int)<=122)then(bif i==0 then leB false else(bif !(↑(UInt8.toNat ((Array.toList (ByteArray.data s)).getD i.toNat 0)):
 Int)==95 then leB false else L15 s g m (wrap .i64 (i+1))))else L15 s g m (wrap .i64 (i+1))))else(bif decide ((↑(UInt8.toNat ((Array.toList (ByteArray.data
 s)).getD i.toNat 0)):Int)>=48)then(bif decide ((↑(UInt8.toNat ((Array.toList (ByteArray.data s)).getD i.toNat 0)):Int)<=57)then(bif i==0 then leB false else L15 s g m
 (wrap .i64 (i+1)))else(bif i==0 then leB false else(bif !(↑(UInt8.toNat ((Array.toList (ByteArray.data s)).getD i.toNat 0)):Int)==95 then leB false else L15 s g
 m (wrap IntKind.i64 (i+1)))))else(bif i==0 then leB false else(bif !(↑(UInt8.toNat ((Array.toList (ByteArray.data s)).getD i.toNat 0)):Int)==95 then leB false
 else L15 s g m (wrap .i64 (i+1)))))))else none)else leB true):=by kernel_rfl
def AnB:=A1 [(4,⟨[0,3],[]⟩)]
def L16(s:BA)(g m:Nat)(i:Int):=LK prog Orc.nil AnB 0 g f57 4 m ⟨frm [(0,vS s),(3,vI i)] 0 f57.ntmps,[],0⟩
theorem ev16(s:BA)(g:Nat):Ai prog Orc.nil AnB g f57 (Ac f57) [vS s] []=
 (bif decide ((↑(ByteArray.size s):Int)<1)then leB false else(bif decide ((↑(ByteArray.size s):Int)>12)then leB false else L16 s g g 0)):=by kernel_rfl
theorem st16(s:BA)(g m:Nat)(i:Int):L16 s g (m+1) i=
 (bif decide (i<(↑(ByteArray.size s):Int))then(bif decide (0<=i)&&decide (i<(↑(ByteArray.size s):Int))then(bif decide ((↑(UInt8.toNat ((Array.toList (ByteArray.data
 s)).getD i.toNat 0)):Int)>=97)then(bif decide ((↑(UInt8.toNat ((Array.toList (ByteArray.data s)).getD i.toNat 0)):Int)<=122)then L16 s g m (wrap .i64 (i+1))else
 (bif decide ((↑(UInt8.toNat ((Array.toList (ByteArray.data s)).getD i.toNat 0)):Int)>=65)then(bif !decide ((↑(UInt8.toNat ((Array.toList (ByteArray.data s)).getD i.toNat 0)):
 Int)<=90)then(bif i==0 then leB false else(bif decide ((↑(UInt8.toNat ((Array.toList (ByteArray.data s)).getD i.toNat 0)):Int)<48)then(bif(↑(UInt8.toNat ((Array.toList
 (ByteArray.data s)).getD i.toNat 0)):Int) !=95 then leB false else L16 s g m (wrap .i64 (i+1)))else(bif decide ((↑(UInt8.toNat ((Array.toList (ByteArray.data
 s)).getD i.toNat 0)):Int)>57)then(bif(↑(UInt8.toNat ((Array.toList (ByteArray.data s)).getD i.toNat 0)):Int) !=95 then leB false else L16 s g m (wrap .i64 (i+
 1)))else L16 s g m (wrap .i64 (i+1)))))else L16 s g m (wrap .i64 (i+1)))else(bif i==0 then leB false else(bif decide ((↑(UInt8.toNat ((Array.toList
 (ByteArray.data s)).getD i.toNat 0)):Int)<48)then(bif(↑(UInt8.toNat ((Array.toList (ByteArray.data s)).getD i.toNat 0)):Int) !=95 then leB false else L16 s g m
 (wrap .i64 (i+1)))else(bif decide ((↑(UInt8.toNat ((Array.toList (ByteArray.data s)).getD i.toNat 0)):Int)>57)then(bif(↑(UInt8.toNat ((Array.toList
 (ByteArray.data s)).getD i.toNat 0)):Int) !=95 then leB false else L16 s g m (wrap .i64 (i+1)))else L16 s g m (wrap .i64 (i+1)))))))else(bif decide
 ((↑(UInt8.toNat ((Array.toList (ByteArray.data s)).getD i.toNat 0)):Int)>=65)then(bif !decide ((↑(UInt8.toNat ((Array.toList (ByteArray.data s)).getD i.toNat 0)):Int)<=90)
 then(bif i==0 then leB false else(bif decide ((↑(UInt8.toNat ((Array.toList (ByteArray.data s)).getD i.toNat 0)):Int)<48)then(bif(↑(UInt8.toNat ((Array.toList
 (ByteArray.data s)).getD i.toNat 0)):Int) !=95 then leB false else L16 s g m (wrap .i64 (i+1)))else(bif decide ((↑(UInt8.toNat ((Array.toList (ByteArray.data
 s)).getD i.toNat 0)):Int)>57)then(bif(↑(UInt8.toNat ((Array.toList (ByteArray.data s)).getD i.toNat 0)):Int) !=95 then leB false else L16 s g m (wrap IntKind.i64
 (i+1)))else L16 s g m (wrap .i64 (i+1)))))else L16 s g m (wrap .i64 (i+1)))else(bif i==0 then leB false else(bif decide ((↑(UInt8.toNat ((Array.toList
 (ByteArray.data s)).getD i.toNat 0)):Int)<48)then(bif(↑(UInt8.toNat ((Array.toList (ByteArray.data s)).getD i.toNat 0)):Int) !=95 then leB false else L16 s g m
 (wrap .i64 (i+1)))else(bif decide ((↑(UInt8.toNat ((Array.toList (ByteArray.data s)).getD i.toNat 0)):Int)>57)then(bif(↑(UInt8.toNat ((Array.toList
 (ByteArray.data s)).getD i.toNat 0)):Int) !=95 then leB false else L16 s g m (wrap .i64 (i+1)))else L16 s g m (wrap .i64 (i+1)))))))else none)else leB
 true):=by kernel_rfl
def Apw:=A1 [(2,⟨[0,1,5],[]⟩)]
def L46(l:List BA)(s:BA)(g m:Nat)(i:Int):=LK prog Orc.nil Apw 0 g f52 2 m ⟨frm [(0, .c (.d (Ab l))),(1,vS s),(5,vI i)] 0 f52.ntmps,[],0⟩
theorem ev46(l:List BA)(s:BA)(g:Nat):Ai prog Orc.nil Apw g f52 (Ac f52) [.c (.d (Ab l)),vS s] []=
 L46 l s g g 0:=by kernel_rfl
theorem st46(l:List BA)(s:BA)(g m:Nat)(i:Int):L46 l s g (m+1) i=
 (bif decide (i<(↑l.length:Int))then(bif decide (0<=i)&&decide (i<(↑l.length:Int))then(bif(l.getD i.toNat e0).toList==s.toList then leI i else L46 l s g m
 (wrap .i64 (i+1)))else none)else leI (-1)):=by kernel_rfl
def ann7:=A1 [(4,⟨[1,3],[]⟩)]
def L7(s:SSta)(g m:Nat)(i:Int):=LK prog Orc.nil ann7 0 g f19 4 m ⟨frm [(1, .c (.ptr 0 0)),(3,vI i)] 0 f19.ntmps,[(0, .cells ((staC s).map .d) 27)],1⟩
theorem ev7(s:SSta)(g:Nat):Ai prog Orc.nil ann7 g f19 (Ac f19) [aSta s] []=
 (bif decide ((↑s.qa.length:Int)>8)then leB true else(bif decide ((↑s.qb.length:Int)>10)then leB true else(bif decide ((↑s.qc.length:Int)>8)then leB true
 else(bif decide ((↑s.qd.length:Int)>20)then leB true else L7 s g g 0)))):=by kernel_rfl
theorem st7(s:SSta)(g m:Nat)(i:Int):L7 s g (m+1) i=
 (bif decide (i<(↑s.qd.length:Int))then(bif decide (0<=i)&&decide (i<(↑s.qd.length:Int))then(bif decide ((↑(SBay.qe (s.qd.getD i.toNat bay0)).length:Int)>
 6)then leB true else L7 s g m (wrap .i64 (i+1)))else none)else leB false):=by kernel_rfl
theorem b15:f65.body=some (Ac f65):=by kernel_rfl
theorem b16:f57.body=some (Ac f57):=by kernel_rfl
theorem z0(k:Nat):((k:Int)==0)=(k==0):=by cases k<;>rfl
theorem lp15(s:BA)(g:Nat)(hs:s.size<=12): ∀(m k:Nat),k<=s.size ->s.size -k<m ->L15 s g m k=some (.leaf (vB (nmT k (s.data.toList.drop k)),[]))
 |0,k,_,h=>by omega|m+1,k,hk,h=>by
  rw[st15];by_cases hlt:k<s.size
  ·have hl:k<s.data.toList.length:=by simpa using hlt
   have ih:=lp15 s g hs m (k+1) (by omega) (by omega);rw[Av (d:=0) hl];simp only[lt1 hlt,ge0,tn,Bool.and_self,za,nx hlt,ih,nmT,Uh,Aaz,ge_iff_le,z0,bne];generalize s.data.toList.getD k 0=c;generalize nmT (k+1) (s.data.toList.drop (k+1))=t;generalize decide (65<=(c.toNat:Int))=a1;generalize decide ((c.toNat:Int)<=90)=a2;generalize decide (97<=(c.toNat:Int))=b1;generalize decide ((c.toNat:Int)<=122)=b2;generalize decide (48<=(c.toNat:Int))=d1;generalize decide ((c.toNat:Int)<=57)=d2;generalize ((c.toNat:Int)==95)=e1;generalize (k==0)=z;cases a1<;>cases a2<;>cases b1<;>cases b2<;>cases d1<;>cases d2<;>cases e1<;>cases z<;>rfl
  ·rw[lt0 hlt,zl (by simp;omega)];rfl
theorem c15(s:BA):CX prog 65 [vS s] [] (vB (Ag s)) []:=by
 refine Am (Orc.nil_ok _) func65 b15 rfl ((ev15 s (s.size+1)).trans ?_);generalize hg:s.size+1=g;unfold Ag;cases h0:((s.size:Int)==0)with
 |true=>rfl|false=>
  cases h1:decide ((s.size:Int)>12)with
  |true=>rfl|false=>
   have hs:s.size<=12:=by simp at h1;omega
   have:=lp15 s g hs g 0 (by omega) (by omega);simp only[zb,Bool.not_false,Bool.true_and];exact this
theorem ltn(x y:Int):decide (x<y)= !decide (y<=x):=by
 by_cases h:x<y
 ·rw[zk h,zt];rfl
 ·rw[zt h,zk];rfl
theorem gtn(x y:Int):decide (x>y)= !decide (x<=y):=by
 by_cases h:x>y
 ·rw[zk h,zt];rfl
 ·rw[zt h,zk];rfl
theorem lt1z(n:Nat):decide ((n:Int)<1)=((n:Int)==0):=by
 by_cases h:n=0
 ·subst h;rfl
 ·have h2:((n:Int)==0)=false:=beq_eq_false_iff_ne.2 (by omega);rw[zt,h2]
theorem lp16(s:BA)(g:Nat)(hs:s.size<=12): ∀(m k:Nat),k<=s.size ->s.size -k<m ->L16 s g m k=some (.leaf (vB (nmT k (s.data.toList.drop k)),[]))
 |0,k,_,h=>by omega|m+1,k,hk,h=>by
  rw[st16];by_cases hlt:k<s.size
  ·have hl:k<s.data.toList.length:=by simpa using hlt
   have ih:=lp16 s g hs m (k+1) (by omega) (by omega);rw[Av (d:=0) hl];generalize hc:s.data.toList.getD k 0=c;have e48:decide ((c.toNat:Int)<48)= !decide (48<=(c.toNat:Int)):=ltn _ _;have e57:decide ((c.toNat:Int)>57)= !decide ((c.toNat:Int)<=57):=gtn _ _;simp only[lt1 hlt,ge0,tn,hc,Bool.and_self,za,nx hlt,ih,nmT,Uh,Aaz,e48,e57,z0,bne,ge_iff_le];generalize nmT (k+1) (s.data.toList.drop (k+1))=t;generalize decide (65<=(c.toNat:Int))=a1;generalize decide ((c.toNat:Int)<=90)=a2;generalize decide (97<=(c.toNat:Int))=b1;generalize decide ((c.toNat:Int)<=122)=b2;generalize decide (48<=(c.toNat:Int))=d1;generalize decide ((c.toNat:Int)<=57)=d2;generalize ((c.toNat:Int)==95)=e1;generalize (k==0)=z;cases a1<;>cases a2<;>cases b1<;>cases b2<;>cases d1<;>cases d2<;>cases e1<;>cases z<;>rfl
  ·rw[lt0 hlt,zl (by simp;omega)];rfl
theorem r16(s:BA)(g:Nat)(hg:s.size<g):Ai prog Orc.nil AnB g f57 (Ac f57) [vS s] []=some (.leaf (vB (Ag s),[])):=by
 rw[ev16,lt1z];unfold Ag;cases h0:((s.size:Int)==0)with
 |true=>rfl|false=>
  cases h1:decide ((s.size:Int)>12)with
  |true=>rfl|false=>
   have hs:s.size<=12:=by simp at h1;omega
   have:=lp16 s g hs g 0 (by omega) (by omega);simp only[zb,Bool.not_false,Bool.true_and];exact this
theorem c16(s:BA):CX prog 57 [vS s] [] (vB (Ag s)) []:=Am (Orc.nil_ok _) func57 b16 rfl (r16 s (s.size+1) (by omega))
end Go.Y.st
namespace Go.Y.tb
open Go.RowKit Go.Eb Go.Y.st
structure KSv where
 okc:LB
 ck:Int
 oks:LB
 es:List It
 okr:LB
 er:List It
 okf:LB
 fm:List AV ->BA
def oSv(Z:KSv):Orc:=Orc.cons 13 (ansG Z.okc fun _=>vI Z.ck) (Orc.cons 35 (ansN Z.oks (fun _=> .c (.row 0 4 Z.es.length)) fun _=>[(0, .row Z.es.length (fun i=>Af (Z.es.getD i i0)) 4 176)]) (Orc.cons 36 (ansG Z.okr fun _=> .c (.d (Bf Z.er))) (Orc.cons 34 (ansL Z.okf fun x=>vS (Z.fm x)) Orc.nil)))
theorem Aqx(Z:KSv)(c:SCfg):Ai prog (oSv Z) na 1 f14 (Ac f14) [aCfg c] []=
 (bif KSv.okc Z [gA (cfgC c)]then(bif KSv.ck Z !=0 then some (T.leaf (.c (.d (.v (.string (⟨#[]⟩)))),[]))else(bif KSv.oks Z [gA (staC
 c.sta)]then(bif KSv.okr Z [gA (staC c.sta), .c (.d (Ad (53) relC rel0 c.qh))]then(bif decide (((KSv.es Z).length+(KSv.er Z).length)*64<=
 140737488355328)&&decide ((KSv.es Z).length+(KSv.er Z).length<=9223372036854775807)then(bif KSv.okf Z [.c (.d (.sl (4) ((KSv.es Z).length+(KSv.er Z).length) (appF
 (KSv.es Z).length (fun i=>Af ((KSv.es Z).getD i i0)) fun i=>Af ((KSv.er Z).getD i i0))))]then some (T.leaf (.c (.d (.v (.string (KSv.fm Z [.c (.d (.sl (4) ((KSv.es
 Z).length+(KSv.er Z).length) (appF (KSv.es Z).length (fun i=>Af ((KSv.es Z).getD i i0)) fun i=>Af ((KSv.er Z).getD i i0))))])))),[]))else none)else none)else none)else
 none))else none):=by kernel_rfl
def oRv(Z:KSv):Orc:=Orc.cons 12 (ansG Z.okc fun _=>vI Z.ck) (Orc.cons 38 (ansN Z.oks (fun _=> .c (.row 0 4 Z.es.length)) fun _=>[(0, .row Z.es.length (fun i=>Af (Z.es.getD i i0)) 4 176)]) (Orc.cons 39 (ansG Z.okr fun _=> .c (.d (Bf Z.er))) (Orc.cons 37 (ansL Z.okf fun x=>vS (Z.fm x)) Orc.nil)))
theorem Aqy(Z:KSv)(c:SCfg):Ai prog (oRv Z) na 1 f15 (Ac f15) [aCfg c] []=
 (bif KSv.okc Z [gA (cfgC c)]then(bif KSv.ck Z !=0 then some (T.leaf (.c (.d (.v (.string (⟨#[]⟩)))),[]))else(bif KSv.oks Z [gA (staC
 c.sta)]then(bif KSv.okr Z [gA (staC c.sta), .c (.d (Ad (53) relC rel0 c.qh))]then(bif decide (((KSv.es Z).length+(KSv.er Z).length)*64<=
 140737488355328)&&decide ((KSv.es Z).length+(KSv.er Z).length<=9223372036854775807)then(bif KSv.okf Z [.c (.d (.sl (4) ((KSv.es Z).length+(KSv.er Z).length) (appF
 (KSv.es Z).length (fun i=>Af ((KSv.es Z).getD i i0)) fun i=>Af ((KSv.er Z).getD i i0))))]then some (T.leaf (.c (.d (.v (.string (KSv.fm Z [.c (.d (.sl (4) ((KSv.es
 Z).length+(KSv.er Z).length) (appF (KSv.es Z).length (fun i=>Af ((KSv.es Z).getD i i0)) fun i=>Af ((KSv.er Z).getD i i0))))])))),[]))else none)else none)else none)else
 none))else none):=by kernel_rfl
structure KLs where
 okl:LB
 lg:LB
 okc:LB
 chk:LI
 sv:List AV ->BA
 dg:LI
abbrev v32(n:Int):AV:= .c (.d (.v (.int .u32 n)))
def oLs(Z:KLs):Orc:=Orc.cons 7 (ansP dec0 fun _=>vB true) (Orc.cons 8 (ansG Z.okl fun x=>vB (Z.lg x)) (Orc.cons 13 (ansG Z.okc fun x=>vI (Z.chk x)) (Orc.cons 12 (ansG Z.okc fun x=>vI (Z.chk x))
 (Orc.cons 14 (ansG Z.okc fun x=>vS (Z.sv x)) (Orc.cons 15 (ansG Z.okc fun x=>vS (Z.sv x)) (Orc.cons 16 (ansG Z.okc fun x=>v32 (Z.dg x)) (Orc.cons 17 (ansG Z.okc fun x=>v32 (Z.dg x)) Orc.nil)))))))
theorem evTS(Z:KLs)(c:SCfg):Ai prog (oLs Z) na 1 f6 (Ac f6) [aCfg c] []=
 (bif KLs.okl Z [gA (cfgC c)]then(bif KLs.lg Z [gA (cfgC c)]then leB true else(bif KLs.okc Z [gA (cfgC c)]then(bif
 KLs.okc Z [gA (cfgC c)]then(bif KLs.chk Z [gA (cfgC c)]==KLs.chk Z [gA (cfgC c)]then(bif KLs.okc Z [.agg (List.map
 .d (cfgC c))]then(bif KLs.okc Z [gA (cfgC c)]then(bif(KLs.sv Z [gA (cfgC c)]).toList==(KLs.sv Z [gA (cfgC
 c)]).toList then(bif KLs.okc Z [gA (cfgC c)]then(bif KLs.okc Z [gA (cfgC c)]then leB (KLs.dg Z [gA (cfgC c)]==KLs.dg
 Z [gA (cfgC c)])else none)else none)else leB false)else none)else none)else leB false)else none)else none))else none):=by kernel_rfl
end Go.Y.tb
namespace Go.Y.sg
open Go.RowKit Go.Eb Go.Y.st
abbrev aPl(p:Plc):AV:= .tup [(true,[.d (dI p.rel), .d (dI p.set), .d (dI p.item)]),(false,[.d (dI p.err)])]
abbrev Aji(x:SSub):AV:= .agg ((subC x).map .d)
def HN(n:BA):Hp:=[(0, .cells [.d (dS n)] 9)]
def HSb(x:SSub):Hp:=[(0, .cells ((subC x).map .d) 68)]
def AkL:Ann:=A1 [(2,⟨[0,1,7,8],[]⟩)]
def AbB(l:List SSet)(n:BA)(g m:Nat)(i8:Int):=LK prog (Orc.cons 212 (inl prog Orc.nil na 1 f212) Orc.nil) AkL (List.length (α:=Nat×Blk) (HN n)) g f46 2 m ⟨frm [(0, .c (.d (Ad 2 setC set0 l))),(1, .c (.fn 212 [] [Rf.ptr 0 0])),(7,iA (↑(List.length l):Int)),(8,iA i8)] 0 f46.ntmps,[(0, .cells [.d (.v (.string n))] 9)],1⟩
theorem bisx:f46.body=some (Ac f46):=by kernel_rfl
theorem AqR(l:List SSet)(n:BA)(g:Nat):Ai prog (Orc.cons 212 (inl prog Orc.nil na 1 f212) Orc.nil) AkL g f46 (Ac f46) [.c (.d (Sk l)), .c (.fn 212 [] [.ptr 0 0])] (HN n)=
 AbB l n g g 0:=by kernel_rfl
theorem Alu(l:List SSet)(n:BA)(g m:Nat)(i8:Int):AbB l n g (m+1) i8=
 (bif decide (i8<(↑l.length:Int))then(bif decide (0<=i8)&&decide (i8<(↑l.length:Int))then(bif(SSet.name (l.getD i8.toNat set0)).toList==n.toList then some (T.leaf
 (iA i8,[(0, .cells [.d (.v (.string n))] (9))]))else AbB l n g m (wrap .i64 (i8+1)))else none)else some (T.leaf (.c (.d (.v (.int .i64
 (-1)))),[(0, .cells [.d (.v (Value.string n))] (9))]))):=by kernel_rfl
def AkM:Ann:=A1 [(2,⟨[0,1,7,8],[]⟩)]
def AbC(l:List SPub)(x:SSub)(g m:Nat)(i8:Int):=LK prog (Orc.cons 146 (inl prog Orc.nil na 1 f146) Orc.nil) AkM (List.length (α:=Nat×Blk) (HSb x)) g f213 2 m ⟨frm [(0, .c (.d (Ad 3 pubC pub0 l))),(1, .c (.fn 146 [] [Rf.ptr 0 0])),(7,iA (↑(List.length l):Int)),(8,iA i8)] 0 f213.ntmps,[(0, .cells (List.map C.d (subC x)) 68)],1⟩
theorem bipx:f213.body=some (Ac f213):=by kernel_rfl
theorem AqS(l:List SPub)(x:SSub)(g:Nat):Ai prog (Orc.cons 146 (inl prog Orc.nil na 1 f146) Orc.nil) AkM g f213 (Ac f213) [.c (.d (Yk l)), .c (.fn 146 [] [.ptr 0 0])] (HSb x)=
 AbC l x g g 0:=by kernel_rfl
theorem Alv(l:List SPub)(x:SSub)(g m:Nat)(i8:Int):AbC l x g (m+1) i8=
 (bif decide (i8<(↑l.length:Int))then(bif decide (0<=i8)&&decide (i8<(↑l.length:Int))then(bif(SPub.set (l.getD i8.toNat pub0)).toList==x.set.toList then some
 (T.leaf (iA i8,[(0, .cells (List.map C.d (subC x)) (68))]))else AbC l x g m (wrap .i64 (i8+1)))else none)else some (T.leaf (.c (.d (.v
 (.int .i64 (-1)))),[(0, .cells (List.map C.d (subC x)) (68))]))):=by kernel_rfl
end Go.Y.sg
namespace Go.Y.tb
open Go.RowKit Go.Eb Go.Y.st
end Go.Y.tb
namespace Go.Y.sg
open Go.RowKit Go.Eb Go.Y.st
theorem Aos(l:List SSet)(n:BA)(g:Nat)(hb:l.length<=9223372036854775807): ∀(m k:Nat),k<=l.length ->l.length -k<m ->
  AbB l n g m k=some (.leaf (vI (idxP (fun s:SSet=>isT s.name n) k (l.drop k)),HN n))
 |0,k,_,h=>by omega|m+1,k,hk,h=>by
  rw[Alu];by_cases hlt:k<l.length
  ·rw[Av (d:=set0) hlt,lt1 hlt,ge0,tn,nx hlt hb,Aos l n g hb m (k+1) (by omega) (by omega)];simp only[idxP];show(bif isT (l.getD k set0).name n then _ else _)=_;cases isT (l.getD k set0).name n<;>rfl
  ·rw[lt0 hlt,zl];rfl
theorem cisx(l:List SSet)(n:BA)(hb:l.length<=9223372036854775807):
  CX prog 46 [.c (.d (Sk l)), .c (.fn 212 [] [.ptr 0 0])] (HN n) (vI (idxP (fun s:SSet=>isT s.name n) 0 l)) (HN n):=by
 have ho:B4 prog (Orc.cons 212 (inl prog Orc.nil na 1 f212) Orc.nil):=(OrcS.cons (.inl .nil func212 (by kernel_rfl)) .nil).ok;exact Am ho func46 bisx rfl ((AqR l n (l.length+1)).trans (Aos l n (l.length+1) hb (l.length+1) 0 (by omega) (by omega)))
theorem Aot(l:List SPub)(x:SSub)(g:Nat)(hb:l.length<=9223372036854775807): ∀(m k:Nat),k<=l.length ->l.length -k<m ->
  AbC l x g m k=some (.leaf (vI (idxP (fun p:SPub=>isT p.set x.set) k (l.drop k)),HSb x))
 |0,k,_,h=>by omega|m+1,k,hk,h=>by
  rw[Alv];by_cases hlt:k<l.length
  ·rw[Av (d:=pub0) hlt,lt1 hlt,ge0,tn,nx hlt hb,Aot l x g hb m (k+1) (by omega) (by omega)];simp only[idxP];show(bif isT (l.getD k pub0).set x.set then _ else _)=_;cases isT (l.getD k pub0).set x.set<;>rfl
  ·rw[lt0 hlt,zl];rfl
theorem cipx(l:List SPub)(x:SSub)(hb:l.length<=9223372036854775807):
  CX prog 213 [.c (.d (Yk l)), .c (.fn 146 [] [.ptr 0 0])] (HSb x) (vI (idxP (fun p:SPub=>isT p.set x.set) 0 l)) (HSb x):=by
 have ho:B4 prog (Orc.cons 146 (inl prog Orc.nil na 1 f146) Orc.nil):=(OrcS.cons (.inl .nil func146 (by kernel_rfl)) .nil).ok;exact Am ho func213 bipx rfl ((AqS l x (l.length+1)).trans (Aot l x (l.length+1) hb (l.length+1) 0 (by omega) (by omega)))
structure KSo where
 ok:List AV ->Hp ->Bool
 ix:List AV ->Hp ->Int
 nm:List AV ->Hp ->BA
def oSo(Z:KSo):Orc:=Orc.cons 46 (ansM Z.ok (fun x H=>vI (Z.ix x H)) fun x H=>[(0, .cells [.d (dS (Z.nm x H))] 9)]) Orc.nil
theorem evSo(Z:KSo)(r:SRel)(n:BA):Ai prog (oSo Z) na 5 f144 (Ac f144) [aRel r,vS n] []=
 (bif KSo.ok Z [.c (.d (Ad (2) setC set0 r.qj)), .c (.fn (212) [] [Rf.ptr (0) (0)])] [(0, .cells [.d (.v (Value.string n))] (9))]then leI (KSo.ix Z [.c (.d (Ad (2)
 setC set0 r.qj)), .c (.fn (212) [] [Rf.ptr (0) (0)])] [(0, .cells [.d (.v (.string n))] (9))])else none):=by kernel_rfl
structure KFi where
 okr:LB
 so:LI
 okp:List AV ->Hp ->Bool
 px:List AV ->Hp ->Int
 sb:List AV ->Hp ->SSub
 okx:LB
 ix:LI
def oFi(Z:KFi):Orc:=Orc.cons 144 (ansG Z.okr fun x=>vI (Z.so x)) (Orc.cons 145 (inl prog (Orc.cons 213 (ansM Z.okp (fun x H=>vI (Z.px x H)) fun x H=>[(0, .cells ((subC (Z.sb x H)).map .d) 68)]) Orc.nil) na 1 f145) (Orc.cons 48 (ansG Z.okx fun x=>vI (Z.ix x)) Orc.nil))
theorem evFi(Z:KFi)(c:SCfg)(of dev:Int)(x:SSub):Ai prog (oFi Z) na 5 f79 (Ac f79) [aCfg c,vI of,vI dev,Aji x] []=
 (bif decide (dev<0)then some (T.leaf (.tup [(true,[.d (iD 0), .d (iD 0), .d (iD 0)]),(false,[.d (iD 9)])],
 []))else(bif dev==of then some (T.leaf (.tup [(true,[.d (iD 0), .d (iD 0), .d (iD 0)]),(false,[.d (iD 12)])],[]))else
 (bif decide (0<=dev)&&decide (dev<(↑c.qh.length:Int))then(bif KFi.okr Z [gA (relC (c.qh.getD dev.toNat rel0)), .c (.d (.v (.string x.set)))]
 then(bif decide (KFi.so Z [gA (relC (c.qh.getD dev.toNat rel0)), .c (.d (.v (.string x.set)))]<0)then some (T.leaf (.tup [(true,[.d (.v (.int .i64
 0)), .d (iD 0), .d (iD 0)]),(false,[.d (iD 9)])],[]))else(bif KFi.okp Z [.c (.d (Ad (3) pubC pub0 (SRel.qk (c.qh.getD dev.toNat
 rel0)))), .c (.fn (146) [] [Rf.ptr (0) (0)])] [(0, .cells (List.map C.d (subC x)) (68))]then(bif !decide (KFi.px Z [.c (.d (Ad (3) pubC pub0 (SRel.qk (c.qh.getD
 dev.toNat rel0)))), .c (.fn (146) [] [Rf.ptr (0) (0)])] [(0, .cells (List.map C.d (subC x)) (68))]>=0)then some (T.leaf (.tup [(true,[.d (iD 0), .d (.v
 (.int .i64 0)), .d (iD 0)]),(false,[.d (iD 11)])],[]))else(bif decide (0<=KFi.so Z [gA (relC (c.qh.getD dev.toNat rel0)),AV.c
 (.d (.v (.string x.set)))])&&decide (KFi.so Z [gA (relC (c.qh.getD dev.toNat rel0)), .c (.d (.v (.string x.set)))]<(↑(SRel.qj (c.qh.getD dev.toNat
 rel0)).length:Int))then(bif KFi.okx Z [.c (.d (Ad (1) busC e0 (SSet.qm ((SRel.qj (c.qh.getD dev.toNat rel0)).getD (Int.toNat (KFi.so Z [gA (relC
 (c.qh.getD dev.toNat rel0)), .c (.d (.v (.string x.set)))])) set0)))), .c (.d (.v (.string (SSub.sig (KFi.sb Z [.c (.d (Ad (3) pubC pub0 (SRel.qk (c.qh.getD dev.toNat
 rel0)))), .c (.fn (146) [] [Rf.ptr (0) (0)])] [(0, .cells (List.map C.d (subC x)) ((68:Nat)))])))))]then(bif decide (KFi.ix Z [.c (.d (Ad (1) busC e0 (SSet.qm
 ((SRel.qj (c.qh.getD dev.toNat rel0)).getD (Int.toNat (KFi.so Z [gA (relC (c.qh.getD dev.toNat rel0)), .c (.d (.v (.string x.set)))])) set0)))), .c (.d
 (.v (.string (SSub.sig (KFi.sb Z [.c (.d (Ad (3) pubC pub0 (SRel.qk (c.qh.getD dev.toNat rel0)))), .c (.fn (146) [] [Rf.ptr (0) (0)])] [((0:Nat), .cells (List.map
 .d (subC x)) (68))])))))]<0)then some (T.leaf (.tup [(true,[.d (iD 0), .d (iD 0), .d (iD 0)]),(false,[.d (.v (.int
 .i64 9))])],[]))else some (T.leaf (.tup [(true,[.d (iD dev), .d (iD (KFi.so Z [gA (relC (c.qh.getD dev.toNat rel0)),
 .c (.d (.v (Value.string x.set)))])), .d (iD (KFi.ix Z [.c (.d (Ad (1) busC e0 (SSet.qm ((SRel.qj (c.qh.getD dev.toNat rel0)).getD (Int.toNat (KFi.so Z
 [gA (relC (c.qh.getD dev.toNat rel0)), .c (.d (.v (.string x.set)))])) set0)))), .c (.d (.v (Value.string (SSub.sig (KFi.sb Z [.c (.d (Ad (3) pubC
 pub0 (SRel.qk (c.qh.getD dev.toNat rel0)))), .c (.fn (146) [] [Rf.ptr ((0:Nat)) (0)])] [(0, .cells (List.map C.d (subC x)) (68))])))))]))]),(false,[.d (.v (.int
 .i64 0))])],[])))else none)else none))else none))else none)else none))):=by kernel_rfl
def Aky:Ann:=A1 [(2,⟨[0,1,7,8],[]⟩)]
def Abt(l:List BA)(n:BA)(g m:Nat)(i8:Int):=LK prog Orc.nil Aky 0 g f48 2 m ⟨frm [(0, .c (.d (Ad 1 busC e0 l))),(1, .c (.d (.v (.string n)))),(7,iA (↑(List.length l):Int)),(8,iA i8)] 0 f48.ntmps,[],0⟩
theorem bsix:f48.body=some (Ac f48):=by kernel_rfl
theorem Aqu(l:List BA)(n:BA)(g:Nat):Ai prog Orc.nil Aky g f48 (Ac f48) [.c (.d (Ab l)),vS n] []=
 Abt l n g g 0:=by kernel_rfl
theorem Alk(l:List BA)(n:BA)(g m:Nat)(i8:Int):Abt l n g (m+1) i8=
 (bif decide (i8<(↑l.length:Int))then(bif decide (0<=i8)&&decide (i8<(↑l.length:Int))then(bif n.toList==(l.getD i8.toNat e0).toList then leI i8 else Abt l n g m
 (wrap .i64 (i8+1)))else none)else leI (-1)):=by kernel_rfl
def AkC:Ann:=A1 [(3,⟨[3,7,8,9],[]⟩)]
def Abx(l:List BA)(g m:Nat)(l0:MV)(i9:Int):=LK prog Orc.nil AkC 0 g f141 3 m ⟨frm [(3, .c (.mp 0)),(7, .c (.d (Ad 1 busC e0 l))),(8,iA (↑(List.length l):Int)),(9,iA i9)] 0 f141.ntmps,[(0, .map 0 l0)],1⟩
theorem brpt:f141.body=some (Ac f141):=by kernel_rfl
theorem AqC(l:List BA)(g:Nat):Ai prog Orc.nil AkC g f141 (Ac f141) [.c (.d (Ab l))] []=
 Abx l g g ([]) 0:=by kernel_rfl
theorem Alp(l:List BA)(g m:Nat)(l0:MV)(i9:Int):Abx l g (m+1) l0 i9=
 (bif decide (i9<(↑l.length:Int))then(bif decide (0<=i9)&&decide (i9<(↑l.length:Int))then(bif B8 (Bb l0 (Value.string (l.getD i9.toNat e0)))then leB true else Abx l
 g m ((Value.string (l.getD i9.toNat e0),Value.bool true)::l0) (wrap .i64 (i9+1)))else none)else leB false):=by kernel_rfl
def AkO:Ann:=A1 [(3,⟨[3,10,11,12],[]⟩)]
def X0(c:SCfg)(g m:Nat)(l0:MV)(i12:Int):=LK prog Orc.nil AkO 0 g f77 3 m ⟨frm [(3, .c (.mp 0)),(10, .c (.d (Ad 53 relC rel0 (SCfg.qh c)))),(11,iA (↑(List.length (SCfg.qh c)):Int)),(12,iA i12)] 0 f77.ntmps,[(0, .map 1 l0)],1⟩
theorem bdvs:f77.body=some (Ac f77):=by kernel_rfl
theorem AqX(c:SCfg)(g:Nat):Ai prog Orc.nil AkO g f77 (Ac f77) [aCfg c] []=
 X0 c g g ([]) 0:=by kernel_rfl
theorem Alw(c:SCfg)(g m:Nat)(l0:MV)(i12:Int):X0 c g (m+1) l0 i12=
 (bif decide (i12<(↑c.qh.length:Int))then(bif decide (0<=i12)&&decide (i12<(↑c.qh.length:Int))then(bif !Option.isSome (Bb l0 (Value.string (SRel.name (c.qh.getD
 i12.toNat rel0))))then X0 c g m ((Value.string (SRel.name (c.qh.getD i12.toNat rel0)),Value.int IntKind.i64 i12)::l0) (wrap .i64 (i12+1))else X0 c g m l0
 (wrap .i64 (i12+1)))else none)else some (T.leaf (.c (.mp ((0:Nat))),[(0, .map (1) l0)]))):=by kernel_rfl
structure KOw where
 oko:LB
 ou:List AV ->List BA
 okn:LB
 inn:List AV ->List BA
 okc:LB
 cl:List AV ->List BA
 okr:LB
 rp:LB
 oks:LB
 so:LI
def oOw(Z:KOw):Orc:=Orc.cons 45 (ansG Z.oko fun x=> .c (.d (Ab (Z.ou x)))) (Orc.cons 143 (ansG Z.okn fun x=> .c (.d (Ab (Z.inn x)))) (Orc.cons 142 (ansN (fun x=>Z.okc x) (fun x=> .c (.row 0 1 (Z.cl x).length)) fun x=>[(0, .row (Z.cl x).length (fun i=>busC ((Z.cl x).getD i e0)) 1 9)])
 (Orc.cons 141 (ansL Z.okr fun x=>vB (Z.rp x)) (Orc.cons 144 (ansG Z.oks fun x=>vI (Z.so x)) Orc.nil))))
def Xi:Ann:=A1 [(6,⟨[4,23,1,24,25],[]⟩),(11,⟨[4,33,1,34,35],[]⟩),(15,⟨[9,4,41,33,1,34,35,42,43],[]⟩),(25,⟨[1,61,62,63],[]⟩)]
def Xr(Z:KOw)(r:SRel)(g m:Nat)(l1:MV)(i25:Int):=LK prog (oOw Z) Xi 0 g f78 6 m ⟨frm [(1, .c (.ptr 0 0)),(4, .c (.mp 1)),(23, .c (.d (Ad 1 busC e0 (KOw.ou Z [gA (relC r)])))),(24,iA (↑(List.length (KOw.ou Z [gA (relC r)])):Int)),(25,iA i25)] 0 f78.ntmps,[(0, .cells (List.map C.d (relC r)) 64),(1, .map 0 l1)],2⟩
def J2(Z:KOw)(r:SRel)(g m:Nat)(l1:MV)(i35:Int):=LK prog (oOw Z) Xi 0 g f78 11 m ⟨frm [(1, .c (.ptr 0 0)),(4, .c (.mp 1)),(33, .c (.d (Ad 2 setC set0 (SRel.qj r)))),(34,iA (↑(List.length (SRel.qj r)):Int)),(35,iA i35)] 0 f78.ntmps,[(0, .cells (List.map C.d (relC r)) 64),(1, .map 0 l1)],2⟩
def R3(Z:KOw)(r:SRel)(g mo m:Nat)(l1:MV)(l2:MV)(i35:Int)(i42:Int)(i43:Int):=LK2 prog (oOw Z) Xi 0 g f78 11 mo 15 m ⟨frm [(1, .c (.ptr 0 0)),(4, .c (.mp 1)),(9, .c (.mp 2)),(33, .c (.d (Ad 2 setC set0 (SRel.qj r)))),(34,iA (↑(List.length (SRel.qj r)):Int)),(35,iA i35),(41, .c (.d (Ad 1 busC e0 (SSet.qm (List.getD (SRel.qj r) (Int.toNat i35) set0))))),(42,iA i42),(43,iA i43)] 0 f78.ntmps,[(0, .cells (List.map C.d (relC r)) 64),(1, .map 0 l1),(2, .map 0 l2)],3⟩
def Nj(Z:KOw)(r:SRel)(g m:Nat)(i63:Int):=LK prog (oOw Z) Xi 0 g f78 25 m ⟨frm [(1, .c (.ptr 0 0)),(61, .c (.d (Ad 3 pubC pub0 (SRel.qk r)))),(62,iA (↑(List.length (SRel.qk r)):Int)),(63,iA i63)] 0 f78.ntmps,[(0, .cells (List.map C.d (relC r)) 64)],1⟩
theorem bown:f78.body=some (Ac f78):=by kernel_rfl
theorem AqI(Z:KOw)(r:SRel)(g:Nat):Ai prog (oOw Z) Xi g f78 (Ac f78) [aRel r] []=
 (bif KOw.oko Z [gA (relC r)]then(bif KOw.okc Z [.c (.d (Ad (1) busC e0 (KOw.ou Z [gA (relC r)])))]then(bif KOw.okn Z [.agg (List.map
 .d (relC r))]then(bif decide (((KOw.cl Z [.c (.d (Ad (1) busC e0 (KOw.ou Z [gA (relC r)])))]).length+(KOw.inn Z [gA (relC r)]).length)
 *16<=140737488355328)&&decide ((KOw.cl Z [.c (.d (Ad (1) busC e0 (KOw.ou Z [gA (relC r)])))]).length+(KOw.inn Z [gA (relC r)]).length
 <=9223372036854775807)then(bif KOw.okr Z [.c (.d (.sl (1) ((KOw.cl Z [.c (.d (Ad (1) busC e0 (KOw.ou Z [gA (relC r)])))]).length+(KOw.inn Z [AV.agg
 (List.map C.d (relC r))]).length) (appF (KOw.cl Z [.c (.d (Ad (1) busC e0 (KOw.ou Z [gA (relC r)])))]).length (fun i=>busC ((KOw.cl Z [.c (.d (Ad (1)
 busC e0 (KOw.ou Z [gA (relC r)])))]).getD i e0)) fun i=>busC ((KOw.inn Z [gA (relC r)]).getD i e0))))]then(bif KOw.rp Z [.c (.d (D.sl
 (1) ((KOw.cl Z [.c (.d (Ad (1) busC e0 (KOw.ou Z [gA (relC r)])))]).length+(KOw.inn Z [gA (relC r)]).length) (appF (KOw.cl Z [.c (C.d
 (Ad (1) busC e0 (KOw.ou Z [gA (relC r)])))]).length (fun i=>busC ((KOw.cl Z [.c (.d (Ad (1) busC e0 (KOw.ou Z [gA (relC r)])))]).getD i
 e0)) fun i=>busC ((KOw.inn Z [gA (relC r)]).getD i e0))))]then leI 8 else Xr Z r g g ([]) 0)else none)else none)else none)else none)else none):=by kernel_rfl
theorem Adg(Z:KOw)(r:SRel)(g m:Nat)(l1:MV)(i25:Int):Xr Z r g (m+1) l1 i25=
 (bif decide (i25<(↑(KOw.ou Z [gA (relC r)]).length:Int))then(bif decide (0<=i25)&&decide (i25<(↑(KOw.ou Z [gA (relC r)]).length:
 Int))then Xr Z r g m ((Value.string ((KOw.ou Z [gA (relC r)]).getD i25.toNat e0),Value.bool true)::l1) (wrap IntKind.i64 (i25+1))else none)else
 J2 Z r g g l1 0):=by kernel_rfl
theorem Aha(Z:KOw)(r:SRel)(g m:Nat)(l1:MV)(i35:Int):J2 Z r g (m+1) l1 i35=
 (bif decide (i35<(↑r.qj.length:Int))then(bif decide (0<=i35)&&decide (i35<(↑r.qj.length:Int))then R3 Z r g m g l1 ([]) i35 ((↑(SSet.qm (r.qj.getD i35.toNat
 set0)).length:Int)) 0 else none)else Nj Z r g g 0):=by kernel_rfl
theorem AgZ(Z:KOw)(r:SRel)(g mo m:Nat)(l1:MV)(l2:MV)(i35:Int)(i42:Int)(i43:Int):R3 Z r g mo (m+1) l1 l2 i35 i42 i43=
 (bif decide (i43<i42)then(bif decide (0<=i43)&&decide (i43<(↑(SSet.qm (r.qj.getD i35.toNat set0)).length:Int))then(bif !B8 (Bb l1 (Value.string ((SSet.qm
 (r.qj.getD i35.toNat set0)).getD i43.toNat e0)))then leI 9 else(bif B8 (Bb l2 (Value.string ((SSet.qm (r.qj.getD i35.toNat set0)).getD i43.toNat e0)))then leI 8 else R3 Z
 r g mo m l1 ((Value.string ((SSet.qm (r.qj.getD i35.toNat set0)).getD i43.toNat e0),Value.bool true)::l2) i35 i42 (wrap .i64 (i43+1))))else none)else J2 Z r g mo
 l1 (wrap .i64 (i35+1))):=by kernel_rfl
theorem AgY(Z:KOw)(r:SRel)(g m:Nat)(i63:Int):Nj Z r g (m+1) i63=
 (bif decide (i63<(↑r.qk.length:Int))then(bif decide (0<=i63)&&decide (i63<(↑r.qk.length:Int))then(bif KOw.oks Z [gA (relC r), .c (.d (.v
 (.string (SPub.set (r.qk.getD i63.toNat pub0)))))]then(bif decide (KOw.so Z [gA (relC r), .c (.d (.v (.string (SPub.set (r.qk.getD i63.toNat pub0)))))]
 <0)then leI 9 else Nj Z r g m (wrap .i64 (i63+1)))else none)else none)else leI 0):=by kernel_rfl
def oIt(okd:LB)(it:List AV ->BA):Orc:=Orc.cons 89 (ansG okd fun x=>vS (it x)) Orc.nil
def AgH:Ann:=A1 [(10,⟨[15,3],[(3,0,1,9)]⟩)]
def N6(okd:LB)(it:List AV ->BA)(k:Int)(g m:Nat)(n0:Nat)(f0:RD)(i15:Int):=LK prog (oIt okd it) AgH 0 g f108 10 m ⟨frm [(3, .c (.row 0 1 n0)),(15,iA i15)] 0 f108.ntmps,[(0, .row n0 f0 1 9)],1⟩
theorem bfix:f108.body=some (Ac f108):=by kernel_rfl
theorem Aiv(okd:LB)(it:List AV ->BA)(k:Int)(g:Nat):Ai prog (oIt okd it) AgH g f108 (Ac f108) [vI k] []=
 (bif k==1 then some (T.leaf (.c (.row (0) (1) (10)),[(0, .cells [.d (.v (.string (⟨#[116,(114:UInt8),105,112]⟩))), .d (.v (.string (⟨#[99,108,111,115,101]⟩))),
 .d (.v (Value.string (⟨#[102,97,105,108]⟩))), .d (.v (.string (⟨#[115,101,110,100]⟩))), .d (.v (.string (⟨#[116,114,97,110,115,102,101,114]⟩))), .d (D.v
 (Value.string (⟨#[122,111,110,101,49]⟩))), .d (.v (.string (⟨#[122,111,(110:UInt8),101,50]⟩))), .d (.v (.string (⟨#[122,111,110,101,51]⟩))), .d (.v (Value.string
 (⟨#[116,105,109,101]⟩))), .d (.v (.string (⟨#[115,116,97,(114:UInt8),116,101,100]⟩)))] (9))]))else(bif k==2 then(bif k==2 then some (T.leaf (.c (.row (0) (1)
 (7)),[(0, .cells [.d (.v (.string (⟨#[116,114,105,112]⟩))), .d (.v (.string (⟨#[99,108,111,115,101]⟩))), .d (.v (.string (⟨#[102,97,105,108]⟩))), .d (.v (.string
 (⟨#[116,105,109,101]⟩))), .d (.v (.string (⟨#[115,116,(97:UInt8),114,116,101,100]⟩))), .d (.v (.string (⟨#[117,110,100,101,(114:UInt8)]⟩))), .d (.v (.string
 (⟨#[111,118,101,114]⟩)))] (9))]))else(bif k==4 then N6 okd it k g g 0 (fun x=>[]) 0 else some (T.leaf (.c (.d (.v (.slice none 0 0))),[]))))else(bif k==3 then some
 (T.leaf (.c (.row ((0:Nat)) (1) (7)),[(0, .cells [.d (.v (.string (⟨#[116,114,105,112]⟩))), .d (.v (Value.string (⟨#[99,108,111,115,101]⟩))), .d (.v (.string
 (⟨#[102,97,105,(108:UInt8)]⟩))), .d (.v (.string (⟨#[116,105,109,101]⟩))), .d (.v (.string (⟨#[115,(116:UInt8),97,114,116,101,100]⟩))), .d (.v (.string (⟨#[117,
 110,100,(101:UInt8),114]⟩))), .d (.v (.string (⟨#[111,118,101,114]⟩)))] (9))]))else(bif k==4 then N6 okd it k g g 0 (fun x=>[]) 0 else some (T.leaf (.c (.d (.v
 (.slice none 0 0))),[])))))):=by kernel_rfl
theorem Ahy(okd:LB)(it:List AV ->BA)(k:Int)(g m:Nat)(n0:Nat)(f0:RD)(i15:Int):N6 okd it k g (m+1) n0 f0 i15=
 (bif decide (i15<16)then(bif okd [iA i15]then(bif decide (ByteArray.size (⟨#[116,114,(105:UInt8),112]⟩)+ByteArray.size (it [.c (.d (.v (.int
 .i64 i15)))])<=9223372036854775807)then(bif decide ((n0+1)*16<=140737488355328)&&decide (n0+1<=9223372036854775807)then N6 okd it k g m (n0+1) (appF n0 f0 (Ae [D.v
 (.string (ByteArray.mk #[116,114,105,112]++it [iA i15]))] (0+1))) (wrap .i64 (i15+1))else none)else none)else none)else some (T.leaf
 (.c (.row (0) (1) n0),[(0, .row n0 f0 (1) (9))]))):=by kernel_rfl
def oOu(okf:LB)(fx:List AV ->List BA)(okn:LB)(nl:List AV ->List BA):Orc:=Orc.cons 108 (ansN (fun x=>okf x) (fun x=> .c (.row 0 1 (fx x).length)) fun x=>[(0, .row (fx x).length (fun i=>busC ((fx x).getD i e0)) 1 9)]) (Orc.cons 109 (ansG okn fun x=> .c (.d (Ab (nl x)))) Orc.nil)
theorem evOu(okf:LB)(fx:List AV ->List BA)(okn:LB)(nl:List AV ->List BA)(r:SRel):Ai prog (oOu okf fx okn nl) na 5 f45 (Ac f45) [aRel r] []=
 (bif okf [iA r.kind]then(bif okn [.c (.d (Ad (2) E0 Be r.qi)), .c (.d (.v (Value.func (Fn.func (110:Nat)) #[] #[])))]then(bif decide (((fx
 [iA r.kind]).length+(nl [.c (.d (Ad (2) E0 Be r.qi)), .c (.d (.v (Value.func (Fn.func 110) #[] #[])))]).length)*16<=140737488355328)&&
 decide ((fx [.c (.d (iD r.kind))]).length+(nl [.c (.d (Ad (2) E0 Be r.qi)), .c (.d (.v (Value.func (Fn.func 110) #[] #[])))]).length<=
 9223372036854775807)then some (T.leaf (.c (.row (0) (1) ((fx [iA r.kind]).length+(nl [.c (.d (Ad (2) E0 Be r.qi)), .c (.d (.v (Value.func
 (Fn.func 110) #[] #[])))]).length)),[(0, .row ((fx [.c (.d (iD r.kind))]).length+(nl [.c (.d (Ad (2) E0 Be r.qi)), .c (.d (D.v
 (Value.func (Fn.func 110) #[] #[])))]).length) (appF (fx [iA r.kind]).length (fun i=>busC ((fx [iA r.kind]).getD i e0)) fun i=>
 busC ((nl [.c (.d (Ad (2) E0 Be r.qi)), .c (.d (.v (Value.func (Fn.func 110) #[] #[])))]).getD i e0)) (1) ((9:Nat)))]))else none)else none)else none):=by kernel_rfl
theorem evIn(okn:LB)(nl:List AV ->List BA)(r:SRel):Ai prog (Orc.cons 210 (ansG okn fun x=> .c (.d (Ab (nl x)))) Orc.nil) na 5 f143 (Ac f143) [aRel r] []=
 (bif okn [.c (.d (Ad (4) subC sub0 r.ql)), .c (.d (.v (Value.func (Fn.func 211) #[] #[])))]then some (T.leaf (.c (.d (Ad (1) busC e0 (nl [.c (.d (Ad (4) subC sub0
 r.ql)), .c (.d (.v (Value.func (Fn.func 211) #[] #[])))]))),[]))else none):=by kernel_rfl
def AkJ:Ann:=A1 [(3,⟨[1,8,9,10,5],[(5,0,1,9)]⟩)]
def Xu(l:List SRule)(g m:Nat)(n0:Nat)(f0:RD)(i10:Int):=LK prog (Orc.cons 110 (inl prog Orc.nil na 1 f110) Orc.nil) AkJ 0 g f109 3 m ⟨frm [(1, .c (.d (.v (Value.func (Fn.func (110:FuncId)) #[] #[])))),(5, .c (.row 0 1 n0)),(8, .c (.d (Ad 2 E0 Be l))),(9,iA (↑(List.length l):Int)),(10,iA i10)] 0 f109.ntmps,[(0, .row n0 f0 1 9)],1⟩
theorem bnru:f109.body=some (Ac f109):=by kernel_rfl
theorem AqN(l:List SRule)(g:Nat):Ai prog (Orc.cons 110 (inl prog Orc.nil na 1 f110) Orc.nil) AkJ g f109 (Ac f109) [.c (.d (Qt l)), .c (.d (.v (.func (.func 110) #[] #[])))] []=
 Xu l g g 0 (fun x=>[]) 0:=by kernel_rfl
theorem Adm(l:List SRule)(g m:Nat)(n0:Nat)(f0:RD)(i10:Int):Xu l g (m+1) n0 f0 i10=
 (bif decide (i10<(↑l.length:Int))then(bif decide (0<=i10)&&decide (i10<(↑l.length:Int))then(bif decide ((n0+1)*16<=140737488355328)&&decide (n0+1<=
 9223372036854775807)then Xu l g m (n0+1) (appF n0 f0 (Ae [dS (SRule.name (l.getD i10.toNat Be))] (0+1))) (wrap .i64 (i10+1))else none)else none)else some (T.leaf
 (.c (.row (0) (1) n0),[(0, .row n0 f0 (1) (9))]))):=by kernel_rfl
def AkI:Ann:=A1 [(3,⟨[1,8,9,10,5],[(5,0,1,9)]⟩)]
def Xt(l:List SSub)(g m:Nat)(n0:Nat)(f0:RD)(i10:Int):=LK prog (Orc.cons 211 (inl prog Orc.nil na 1 f211) Orc.nil) AkI 0 g f210 3 m ⟨frm [(1, .c (.d (.v (Value.func (Fn.func (211:FuncId)) #[] #[])))),(5, .c (.row 0 1 n0)),(8, .c (.d (Ad 4 subC sub0 l))),(9,iA (↑(List.length l):Int)),(10,iA i10)] 0 f210.ntmps,[(0, .row n0 f0 1 9)],1⟩
theorem bnsu:f210.body=some (Ac f210):=by kernel_rfl
theorem AqM(l:List SSub)(g:Nat):Ai prog (Orc.cons 211 (inl prog Orc.nil na 1 f211) Orc.nil) AkI g f210 (Ac f210) [.c (.d (Yc l)), .c (.d (.v (.func (.func 211) #[] #[])))] []=
 Xt l g g 0 (fun x=>[]) 0:=by kernel_rfl
theorem Adl(l:List SSub)(g m:Nat)(n0:Nat)(f0:RD)(i10:Int):Xt l g (m+1) n0 f0 i10=
 (bif decide (i10<(↑l.length:Int))then(bif decide (0<=i10)&&decide (i10<(↑l.length:Int))then(bif decide ((n0+1)*16<=140737488355328)&&decide (n0+1<=
 9223372036854775807)then Xt l g m (n0+1) (appF n0 f0 (Ae [dS (SSub.loc (l.getD i10.toNat sub0))] (0+1))) (wrap .i64 (i10+1))else none)else none)else some (T.leaf
 (.c (.row (0) (1) n0),[(0, .row n0 f0 (1) (9))]))):=by kernel_rfl
end Go.Y.sg
namespace Go.Proofs.YtbpndheehcbldaaGreatDoor.ito
open Go.Shelf
def Yv:Go.Shelf.Ren:=⟨fun|171=>89|243=>150|246=>218|283=>229|284=>230|285=>231|286=>232|129=>244|317=>243|318=>245|319=>246|320=>247|337=>252|338=>253|n=>n,fun|3=>3|9=>9|2=>2|4=>4|171=>299|0=>0|53=>300|37=>107|5=>5|173=>303|212=>315|51=>72|20=>20|213=>316|46=>105|232=>321|233=>322|n=>n,fun|17=>0|18=>2|19=>3|n=>n⟩
theorem Amq:Go.Proofs.LaysM.n171 prog Yv:={
 mixed:=by kernel_rfl
 f129:=func244.trans (congrArg some (by kernel_rfl))
 f171:=func89.trans (congrArg some (by kernel_rfl))
 f243:=func150.trans (congrArg some (by kernel_rfl))
 f246:=func218.trans (congrArg some (by kernel_rfl))
 f283:=func229.trans (congrArg some (by kernel_rfl))
 f284:=func230.trans (congrArg some (by kernel_rfl))
 f285:=func231.trans (congrArg some (by kernel_rfl))
 f286:=func232.trans (congrArg some (by kernel_rfl))
 f317:=func243.trans (congrArg some (by kernel_rfl))
 f318:=func245.trans (congrArg some (by kernel_rfl))
 f319:=func246.trans (congrArg some (by kernel_rfl))
 f320:=func247.trans (congrArg some (by kernel_rfl))
 f337:=func252.trans (congrArg some (by kernel_rfl))
 f338:=func253.trans (congrArg some (by kernel_rfl))
 t0:=underlying0
 a0:=Tryz.isAgg0
 z0:=Tryz.sizeOf0
 v0:=Tryz.zeroValue0
 t2:=underlying2
 a2:=Tryz.isAgg2
 z2:=Tryz.sizeOf2
 v2:=Tryz.zeroValue2
 t3:=underlying3
 a3:=Tryz.isAgg3
 z3:=Tryz.sizeOf3
 v3:=Tryz.zeroValue3
 t4:=underlying4
 a4:=Tryz.isAgg4
 z4:=Tryz.sizeOf4
 v4:=Tryz.zeroValue4
 t5:=underlying5
 a5:=Tryz.isAgg5
 z5:=Tryz.sizeOf5
 v5:=Tryz.zeroValue5
 t9:=underlying9
 a9:=Tryz.isAgg9
 z9:=Tryz.sizeOf9
 v9:=Tryz.zeroValue9
 t20:=underlying20
 a20:=Tryz.isAgg20
 z20:=Tryz.sizeOf20
 v20:=Tryz.zeroValue20
 t37:=underlying107
 a37:=Tryz.isAgg107
 z37:=Tryz.sizeOf107
 v37:=Tryz.zeroValue107
 t46:=underlying105
 a46:=Tryz.isAgg105
 z46:=Tryz.sizeOf105
 v46:=Tryz.zeroValue105
 t51:=underlying72
 a51:=Tryz.isAgg72
 z51:=Tryz.sizeOf72
 v51:=Tryz.zeroValue72
 t53:=underlying300
 a53:=Tryz.isAgg300
 z53:=Tryz.sizeOf300
 v53:=Tryz.zeroValue300
 t171:=underlying299
 a171:=Tryz.isAgg299
 z171:=Tryz.sizeOf299
 v171:=Tryz.zeroValue299
 t173:=underlying303
 a173:=Tryz.isAgg303
 z173:=Tryz.sizeOf303
 v173:=Tryz.zeroValue303
 t212:=underlying315
 a212:=Tryz.isAgg315
 z212:=Tryz.sizeOf315
 v212:=Tryz.zeroValue315
 t213:=underlying316
 a213:=Tryz.isAgg316
 z213:=Tryz.sizeOf316
 t232:=underlying321
 a232:=Tryz.isAgg321
 z232:=Tryz.sizeOf321
 v232:=Tryz.zeroValue321
 t233:=underlying322
 a233:=Tryz.isAgg322
 z233:=Tryz.sizeOf322
 v233:=Tryz.zeroValue322
 g17:=by kernel_rfl
 g18:=by kernel_rfl
 g19:=by kernel_rfl
 i0:=by kernel_rfl
 i2:=by kernel_rfl
 i3:=by kernel_rfl
 i4:=by kernel_rfl
 i5:=by kernel_rfl
 i9:=by kernel_rfl
 i20:=by kernel_rfl
 i37:=by kernel_rfl
 i46:=by kernel_rfl
 i51:=by kernel_rfl
 i53:=by kernel_rfl
 i171:=by kernel_rfl
 i173:=by kernel_rfl
 i212:=by kernel_rfl
 i232:=by kernel_rfl
 i233:=by kernel_rfl
 m17:=by kernel_rfl
 m18:=by kernel_rfl
 m19:=by kernel_rfl}
end Go.Proofs.YtbpndheehcbldaaGreatDoor.ito
namespace Go.Proofs.YtbpndheehcbldaaGreatDoor.ito
open Go.RowKit Go.Eb
theorem Td(u:Nat):decB u=⟨(Lib.decDigits u).toArray⟩:=by
 induction u using Nat.strongRecOn with
 |ind u ih=>
  rw[Lib.decDigits];by_cases h:u<10
  ·rw[dif_pos h,Bg h]
  ·rw[dif_neg h,Ea h,ih (u/10) (by omega),Bg (by omega)];apply ByteArray.ext;rw[ByteArray.data_append];simp
theorem Aij{n:Int}:(⟨(Lib.itoa n).toArray⟩:BA)=decI n:=by
 unfold Lib.itoa decI;by_cases h:n<0
 ·rw[if_pos h,zk h,za,Td];apply ByteArray.ext;rw[ByteArray.data_append];simp
 ·rw[if_neg h,zt h,zb,Td]
def tab:Array Value:=(Lib.pow10Tab.map fun z=>Value.int .u64 z).toArray
theorem Z1:tab.size=20:=by simp[tab,Lib.pow10Tab]
theorem AcR(i:Nat)(h:i<20):tab[i]? =some (.int .u64 ((10^i:Nat):Int)):=by
 simp[tab,Lib.pow10Tab,h]
theorem Y0{I:Im}{w:World}(hg:Glob I w)(i:Nat)(h:i<21):w.cell? ⟨0,i,none⟩=(bif Nat.blt i 20 then some (.int .u64 ((10^i:Nat):Int))else none):=by
 have:=hg (0,i,bif Nat.blt i 20 then some (.int .u64 ((10^i:Nat):Int))else none) (by
  unfold Wu;exact List.mem_map.2 ⟨i,List.mem_range.2 h,rfl⟩)
 exact this.2
theorem AnN{I:Im}{w:World}(hg:Glob I w): ∃t fz,w.heap[0]? =some (.cells tab t fz):=by
 have h0:=Y0 hg 0 (by omega);rw[show(bif Nat.blt 0 20 then some (Value.int .u64 ((10^0:Nat):Int))else none)=some (Value.int .u64 1)from rfl]at h0;have hc: ∀{c:Array Value} {t:TypeId} {fz:Nat×Nat},w.heap[0]? =some (.cells c t fz) -> ∀i,w.cell? ⟨0,i,none⟩=c[i]?:=fun hh i=>by
  unfold World.cell?;rw[hh];rfl
 cases hh:w.heap[0]? with
 |none=>unfold World.cell? at h0;rw[hh]at h0;cases h0|some o=>
  cases o with
  |cells c t fz=>
   refine⟨t,fz, ?_⟩;have e:c=tab:=by
    apply Array.ext_getElem?;intro i;by_cases h:i<20
    ·have:=Y0 hg i (by omega);rw[hc hh,bltD,zk h]at this;rw[this,AcR i h];rfl
    ·have:=Y0 hg 20 (by omega);rw[hc hh]at this;have h20:c[20]? =none:=this;have hs:c.size<=20:=by simpa using h20
     rw[Array.getElem?_eq_none (by omega),Array.getElem?_eq_none (by rw[Z1];omega)]
   rw[e]
  |_=>unfold World.cell? at h0;rw[hh]at h0;cases h0
theorem Yz(w:World)(k:Nat)(os:Array Obj){b:Nat}(h:b<w.heap.size):(Sort.grow (w.drewN k) os).heap[b]? =w.heap[b]?:=by
 show(w.heap++os)[b]? =_;rw[Array.getElem?_append,if_pos h]
theorem Afm(w:World)(k:Nat)(os:Array Obj){b o:Nat}(h:b<w.heap.size):(Sort.grow (w.drewN k) os).cell? ⟨b,o,none⟩=w.cell? ⟨b,o,none⟩:=by
 unfold World.cell?;rw[Yz w k os h]
theorem Aks(n:Int)(h0: -1000000000000<=n)(h1:n<=1000000000000):CX prog 89 [vI n] [] (vS (decI n)) []:=by
 refine CX.of_cr func89 (by kernel_rfl:f89.body=some (Ac f89)) ?_;intro O I w vs hr ha;obtain⟨hl,hv⟩:=ha;have hs:vs.size=1:=by rw[<-hl];rfl
 obtain⟨v,rfl⟩: ∃v,vs= #[v]:=by
  refine⟨vs[0]'(by omega), ?_⟩;apply Array.ext
  ·simp[hs]
  ·intro i h1 h2;have:i=0:=by omega
   subst this;rfl
 have hx:RepA O w I (vI n) v:=hv 0 _ v rfl (by simp);have hd:RepD w I (.v (.int .i64 n)) v:=hx;obtain rfl:=RepD.v_eq hd;obtain⟨t,fz,hh⟩:=AnN hr.gl;have hi: ∀h,O h= .free:=fun h=>hr.dom h rfl
 refine(Any.strconv_Itoa Amq n (by omega) (by omega) w ?_).mono ?_
 ·unfold Lib.TabIs World.var?;refine Eq.trans (congrArg (fun o=>Option.bind o _) (?_:_=some 0)) ?_
  ·kernel_rfl
  ·show(match w.heap[0]? with|some (.cells cs _ _)=>some cs|_=>none)=_;rw[hh];rfl
 ·rintro e w' ⟨rfl,k,os,rfl⟩;have hsz:w.heap.size<=(Sort.grow (w.drewN k) os).heap.size:=by
   show _<=(w.heap++os).size;simp
  have hE:Ext O I O I w (Sort.grow (w.drewN k) os):=⟨rfl,rfl,rfl,hsz,fun b hb _=>Yz w k os hb,fun _ _ hi=>hi,fun b o hi=>Afm w k os (hr.old b o hi),fun _ _ hi=> .inl hi,fun x b hb=> .inl ⟨x,hb⟩,fun b vs t fz hb=>⟨vs,fz,by rw[Yz w k os (Array.getElem?_eq_some_iff.1 hb).1];exact hb,rfl⟩⟩;refine⟨_,O,I,rfl,⟨⟨hr.inj,fun h b hb=>Nat.lt_of_lt_of_le (hr.lt h b hb) hsz,hr.off,fun b o hi=>Nat.lt_of_lt_of_le (hr.old b o hi) hsz,hr.gl.step (fun _ _ hi=>hi) hE.cell⟩,hr.dom,fun h B hB=>by have hB':(none:Option Blk)=some B:=hB;cases hB'⟩, ?_,hE, .refl O⟩;rw[Aij];exact RepD.v _ rfl
theorem cItoa(n:Int)(h0: -1000000<=n)(h1:n<=1000000):CX prog 89 [vI n] [] (vS (decI n)) []:=Aks n (by omega) (by omega)
theorem cItoaN(n:Int)(h0:0<=n)(h1:n<1000000000000):CX prog 89 [vI n] [] (vS (dec n)) []:=by
 have:=Aks n (by omega) (by omega);unfold decI at this;rw[zt,zb]at this;exact this
end Go.Proofs.YtbpndheehcbldaaGreatDoor.ito
namespace Go.Y.sg
open Go.RowKit Go.Eb Go.Y.st
abbrev rowS(l:List BA):AV:= .c (.row 0 1 l.length)
abbrev hpS(l:List BA):Hp:=[(0, .row l.length (fun i=>busC (l.getD i e0)) 1 9)]
theorem AmT: ∀n:Int,0<=n ->n<16 ->decI n=sgDig.getD n.toNat e0:=by
 intro n h0 h1;have:n=0\/n=1\/n=2\/n=3\/n=4\/n=5\/n=6\/n=7\/n=8\/n=9\/n=10\/n=11\/n=12\/n=13\/n=14\/n=15:=by omega
 have e: ∀k:Nat,decI (k:Int)=decB k:=fun k=>by
  unfold decI;rw[zt];rfl
 rcases this with rfl|rfl|rfl|rfl|rfl|rfl|rfl|rfl|rfl|rfl|rfl|rfl|rfl|rfl|rfl|rfl
 ·exact(e 0).trans ((Bg (by omega)).trans rfl)
 ·exact(e 1).trans ((Bg (by omega)).trans rfl)
 ·exact(e 2).trans ((Bg (by omega)).trans rfl)
 ·exact(e 3).trans ((Bg (by omega)).trans rfl)
 ·exact(e 4).trans ((Bg (by omega)).trans rfl)
 ·exact(e 5).trans ((Bg (by omega)).trans rfl)
 ·exact(e 6).trans ((Bg (by omega)).trans rfl)
 ·exact(e 7).trans ((Bg (by omega)).trans rfl)
 ·exact(e 8).trans ((Bg (by omega)).trans rfl)
 ·exact(e 9).trans ((Bg (by omega)).trans rfl)
 ·exact(e 10).trans ((Ea (by omega)).trans (by rw[Bg (by omega),Bg (by omega)];rfl))
 ·exact(e 11).trans ((Ea (by omega)).trans (by rw[Bg (by omega)];rfl))
 ·exact(e 12).trans ((Ea (by omega)).trans (by rw[Bg (by omega),Bg (by omega)];rfl))
 ·exact(e 13).trans ((Ea (by omega)).trans (by rw[Bg (by omega),Bg (by omega)];rfl))
 ·exact(e 14).trans ((Ea (by omega)).trans (by rw[Bg (by omega),Bg (by omega)];rfl))
 ·exact(e 15).trans ((Ea (by omega)).trans (by rw[Bg (by omega),Bg (by omega)];rfl))
def ok16(n:Int):Bool:=decide (0<=n)&&decide (n<16)
abbrev eI1:=en1 vI
theorem M2:InjT eI1:=Cf Hs
theorem sIt:OrcS prog (oIt (okG eI1 ok16) fun x=>sgDig.getD (theT eI1 x).toNat e0):=
 .cons (.t' (enc:=eI1) (c:=ok16) (r:=fun n=>vS (sgDig.getD n.toNat e0)) fun n h=>by
  unfold ok16 at h;simp only[zd,zi]at h;have:=ito.cItoa n (by omega) (by omega);rw[AmT n h.1 h.2]at this;exact this) .nil
theorem AhQ{k:Nat}(h:k<16):sgBus.getD k e0=Vv++sgDig.getD k e0:=by
 have: ∀k,k<16 ->sgBus.getD k e0=Vv++sgDig.getD k e0:=by
  intro k hk;unfold sgBus;rw[zh,List.getElem?_map,List.getElem?_range hk];rfl
 exact this k h
theorem AiE: ∀k,k<16 ->(sgDig.getD k e0).size<=2:=by decide
theorem Aou(okd:LB)(it:List AV ->BA)(hok: ∀k:Nat,k<16 ->okd [vI k]=true)(hit: ∀k:Nat,k<16 ->it [vI k]=sgDig.getD k e0)(q:Int)(g:Nat): ∀(m k:Nat) (f:RD),k<=16 ->16 -k<m ->RLe busC e0 k f (sgBus.take k) ->
  ∃f',RLe busC e0 16 f' sgBus/\N6 okd it q g m k f k=some (.leaf (.c (.row 0 1 16),[(0, .row 16 f' 1 9)]))
 |0,k,f,_,h,_=>by omega|m+1,k,f,hk,h,hr=>by
  rw[Ahy];by_cases hlt:k<16
  ·have l:sgBus.length=16:=by simp[sgBus]
   have hr':RLe busC e0 (k+1) (appF k f (Ae (busC (Vv++sgDig.getD k e0)) 1)) (sgBus.take (k+1)):=by
    have:=hr.app (x:=sgBus.getD k e0) (sz:=1) (ds:=busC (Vv++sgDig.getD k e0)) rfl (by rw[AhQ hlt];exact .refl _);rw[List.take_add_one,show sgBus[k]? =some (sgBus.getD k e0)by simp[List.getD,l,hlt]];exact this
   obtain⟨f',h1,h2⟩:=Aou okd it hok hit q g m (k+1) _ (by omega) (by omega) hr';refine⟨f',h1, ?_⟩;have e1:decide ((k:Int)<16)=true:=zk;have e2:=hok k hlt;have e3:=hit k hlt;have e4:decide (ByteArray.size (ByteArray.mk #[(116:UInt8),(114:UInt8),(105:UInt8),(112:UInt8)])+ByteArray.size (sgDig.getD k e0)<=(9223372036854775807:Nat))=true:=zk (by
    have:=AiE k hlt;show 4+_<=_;omega)
   rw[e1,e2,e3,e4,J0 (by omega)];simp only[za];rw[show wrap IntKind.i64 ((k:Int)+1)=((k+1:Nat):Int)by rw[wrap_id];omega];exact h2
  ·obtain rfl:k=16:=by omega
   rw[List.take_of_length_le (by simp[sgBus])]at hr;exact⟨f,hr,rfl⟩
theorem Apj(k:Int)(h1:1<=k)(h4:k<=4):CX prog 108 [vI k] [] (rowS (Cu k)) (hpS (Cu k)):=by
 have:k=1\/k=2\/k=3\/k=4:=by omega
 have go: ∀(k:Int) (l:List BA),Ai prog (oIt (okG eI1 ok16) fun x=>sgDig.getD (theT eI1 x).toNat e0) AgH 20 f108 (Ac f108) [vI k] []=some (.leaf (.c (.row 0 1 l.length),[(0, .cells ((l.map dS).map .d) 9)])) ->
  CX prog 108 [vI k] [] (rowS l) (hpS l):=fun k l h=>
  CX.of_cr func108 bfix (CR.cellsRow (ds:=l.map dS) (by simp) (fun i hi=>by
   simp[busC,List.getD,hi]) (Mc sIt.ok func108 bfix rfl h))
 rcases this with rfl|rfl|rfl|rfl
 ·have e:=Aiv (okG eI1 ok16) (fun x=>sgDig.getD (theT eI1 x).toNat e0) 1 20;rw[show((1:Int)==1)=true from rfl,za]at e;exact go 1 sgLine e
 ·have e:=Aiv (okG eI1 ok16) (fun x=>sgDig.getD (theT eI1 x).toNat e0) 2 20;rw[show((2:Int)==1)=false from rfl,zb,show((2:Int)==2)=true from rfl,za,za]at e;exact go 2 sgSrc e
 ·have e:=Aiv (okG eI1 ok16) (fun x=>sgDig.getD (theT eI1 x).toNat e0) 3 20;rw[show((3:Int)==1)=false from rfl,zb,show((3:Int)==2)=false from rfl,zb,show((3:Int)==3)=true from rfl,za]at e;exact go 3 sgSrc e
 ·obtain⟨f',hr,he⟩:=Aou (okG eI1 ok16) (fun x=>sgDig.getD (theT eI1 x).toNat e0) (fun k hk=>Ao M2 (c:=ok16) (k:Int) (by unfold ok16;rw[zk,zk];rfl))
   (fun k hk=>by
     have:theT eI1 [vI (k:Int)]=(k:Int):=Aj M2 (k:Int);rw[this,Int.toNat_natCast]) 4 20 20 0 (fun _=>[]) (by omega) (by omega) (.nil _)
  have e:=Aiv (okG eI1 ok16) (fun x=>sgDig.getD (theT eI1 x).toNat e0) 4 20;rw[show((4:Int)==1)=false from rfl,zb,show((4:Int)==2)=false from rfl,zb,show((4:Int)==3)=false from rfl,zb,show((4:Int)==4)=true from rfl,za]at e;have he:N6 (okG eI1 ok16) (fun x=>sgDig.getD (theT eI1 x).toNat e0) 4 20 20 0 (fun _=>[]) 0=_:=he;have hl:sgBus.length=16:=by simp[sgBus]
  have c:=Am sIt.ok func108 bfix rfl (e.trans he);show CX prog 108 [vI 4] [] (rowS sgBus) (hpS sgBus);unfold rowS hpS;rw[hl];exact c.le (.refl _) (.cons ⟨rfl,rfl,rfl,hr.le⟩ (.refl _))
end Go.Y.sg
namespace Go.Y.cln
open Go.Shelf
def AeX:Go.Shelf.Ren:=⟨fun|16=>142|n=>n,fun|24=>22|9=>9|4=>4|n=>n,fun|n=>n⟩
theorem Aqc:Go.Proofs.Lays2.n16 prog AeX:={
 mixed:=by kernel_rfl
 f16:=func142.trans (congrArg some (by kernel_rfl))
 t4:=underlying4
 a4:=Tryz.isAgg4
 z4:=Tryz.sizeOf4
 v4:=Tryz.zeroValue4
 t9:=underlying9
 a9:=Tryz.isAgg9
 z9:=Tryz.sizeOf9
 v9:=Tryz.zeroValue9
 t24:=underlying22
 a24:=Tryz.isAgg22
 z24:=Tryz.sizeOf22
 v24:=Tryz.zeroValue22
 i9:=by kernel_rfl}
end Go.Y.cln
namespace Go.Y.cln
open Go.RowKit Go.Eb
theorem cClone(ws:List BA)(h0:ws≠[])(h1:ws.length<=1000000):CX prog 142 [.c (.d (Ab ws))] [] (.c (.row 0 1 ws.length)) [(0, .row ws.length (fun i=>busC (ws.getD i e0)) 1 9)]:=by
 refine CX.of_cr func142 (by kernel_rfl:f142.body=some (Ac f142)) ?_;intro O I w vs hr ha;obtain⟨hl,hv⟩:=ha;have hs:vs.size=1:=by rw[<-hl];rfl
 obtain⟨v,rfl⟩: ∃v,vs= #[v]:=by
  refine⟨vs[0]'(by omega), ?_⟩;apply Array.ext
  ·simp[hs]
  ·intro i h1 h2;have:i=0:=by omega
   subst this;rfl
 have hx:RepA O w I (.c (.d (Ab ws))) v:=hv 0 _ v rfl (by simp);have hd:RepD w I (.sl 1 ws.length fun i=>busC (ws.getD i e0)) v:=hx;have hfree: ∀h,O h= .free:=fun h=>hr.dom h rfl
 have hpos:0<ws.length:=List.length_pos_iff.2 h0;generalize hn:ws.length=n at hd;cases hd with
 |nil=>omega|emp=>omega|sl _ _ _ b off cap g hcap hsz hc hi hre=>
  have hcell: ∀j,j<ws.length ->w.cell? ⟨b,off+j,none⟩=some (.string (ws.getD j ByteArray.empty)):=fun j hj=>by
   have e1:=hc j 0 _ (by omega) rfl;have e2:=hre j 0 _ (by omega) rfl;have e3:g j 0= .string (ws.getD j e0):=(RepD.v_eq e2);rw[Nat.mul_one,Nat.add_zero]at e1;rw[e1,e3];rfl
  refine(Go.Proofs.Any.slices_Clone_string Aqc b off n cap ws w (by omega) (by omega) hcell).mono ?_;rintro e w' ⟨v',rfl,hown,hnn,hbel⟩;obtain⟨hlen,hcase⟩:=hown;rcases hcase with⟨rfl,_⟩|⟨gb,cap',cur,rfl,hge,hheap,hle,hmx,hcs,htake⟩
  ·exact absurd rfl hnn
  have hgb:gb<w'.heap.size:=(Array.getElem?_eq_some_iff.1 hheap).1;have hb0: ∀k bb,(setB O 0 (.row (some gb) n) k).blk=some bb ->k=0/\bb=gb:=fun k bb hk=>by
   by_cases e:k=0
   ·subst e;rw[Ak]at hk;exact⟨rfl,by simpa[Nst.blk]using hk.symm⟩
   ·rw[Bo e,hfree]at hk;cases hk
  have hcl: ∀bb o,I bb o ->w'.cell? ⟨bb,o,none⟩=w.cell? ⟨bb,o,none⟩:=fun bb o hI=>by
   unfold World.cell?;rw[hbel.block bb (hr.old bb o hI)]
  have hE : Ext O I (setB O 0 (.row (some gb) n)) I w w' := ⟨hbel.os, hbel.tape, hbel.output, hbel.size, fun bb hbb _ => hbel.block bb hbb, fun _ _ hI => hI, hcl, fun _ _ hI => .inl hI, fun k bb hk => .inr (by rw[(hb0 k bb hk).2];exact hge),
   fun bb cs t fz hbb=>⟨cs,fz,by rw[hbel.block bb (Array.getElem?_eq_some_iff.1 hbb).1];exact hbb,rfl⟩⟩
  have hcur: ∀i,i<n ->cur[i]? =some (.string (ws.getD i e0)):=fun i hi'=>by
   have h2:(cur.toList.take (n*1))[i]? =some (.string (ws.getD i e0)):=by
    rw[htake,List.take_of_length_le (by omega)];have:i<ws.length:=by omega
    simp[List.getD,this]
   rw[List.getElem?_take]at h2;rw[if_pos (by omega)]at h2;rw[<-Array.getElem?_toList];exact h2
  refine⟨_,setB O 0 (.row (some gb) n),I,rfl,⟨⟨fun i j bb h1 h2=>by rw[(hb0 i bb h1).1,(hb0 j bb h2).1],fun k bb hk=>by rw[(hb0 k bb hk).2];exact hgb,fun k bb o hk hI=> ?_,fun bb o hI=>Nat.lt_of_lt_of_le (hr.old bb o hI) hbel.size,hr.gl.step (fun _ _ hI=>hI) hcl⟩,fun k hk=> ?_,fun k B hB=> ?_⟩, ?_,hE, .set (hfree 0) _⟩
  ·rw[(hb0 k bb hk).2]at hI;have:=hr.old gb o hI;omega
  ·by_cases e:k=0
   ·subst e;have hk':(some (Blk.row n (fun i=>busC (ws.getD i e0)) 1 9):Option Blk)=none:=hk;cases hk'
   ·rw[Bo e];exact hfree k
  ·by_cases e:k=0
   ·subst e;have hB':some (Blk.row n (fun i=>busC (ws.getD i e0)) 1 9)=some B:=hB;cases hB';refine⟨by omega, .inr ⟨gb,cur,Ak _ _ _,hheap,by rw[hcs];omega,fun i hi'=>⟨rfl,fun j d hj=> ?_⟩⟩⟩;match j,hj with
    |0,hj=>
     have hj':dS (ws.getD i e0)=d:=by simpa[busC]using hj
     subst hj';exact⟨_,by rw[Nat.mul_one,Nat.add_zero];exact hcur i hi',RepD.v _ rfl⟩
    |j+1,hj=>simp[busC]at hj
   ·have hB':(bif Nat.beq k 0 then some (Blk.row n (fun i=>busC (ws.getD i e0)) 1 9)else none)=some B:=hB;rw[beqD,zt e]at hB';cases hB'
  ·refine .inr ⟨gb,cap',rfl,hle, .inr ⟨by rw[Ak];rfl,fun ob m hm=> ?_,cur,_,_,hheap,hcs⟩⟩;rw[Ak]at hm;cases hm;omega
end Go.Y.cln
namespace Go.Y.sg
open Go.RowKit Go.Eb Go.Y.st
abbrev lfR(n:Nat)(f:RD):Option (T (AV×Hp)):=some (.leaf (.c (.row 0 1 n),[(0, .row n f 1 9)]))
theorem cNru(l:List SRule)(hl:l.length<=5000):CX prog 109 [.c (.d (Qt l)), .c (.d (.v (.func (.func 110) #[] #[])))] [] (.c (.d (Ab (l.map SRule.name)))) []:=by
 have ho:B4 prog (Orc.cons 110 (inl prog Orc.nil na 1 f110) Orc.nil):=(OrcS.cons (.inl .nil func110 (by kernel_rfl)) .nil).ok;obtain⟨f',h1,h2⟩:=app_loop (L:=fun m n f i=>Xu l (l.length+1) m n f i) (K:=lfR) (l:=l) (d:=Be) (c:=busC) (d0:=e0) (ch:=fun x=>[dS x.name]) (e:=SRule.name) (sz:=1)
  (fun m k n f hk hn=>by rw[Adm,lt1 hk,ge0,tn,nx hk,J0 (by omega),tt,za,za,za,Nat.zero_add])
  (fun m n f=>by rw[Adm,lt0 (zp _)];rfl) (fun _=>rfl) (fun k hk=> .refl _) (l.length+1) 0 0 (fun _=>[]) [] (by omega) (by omega) (by omega) (.nil _)
 simp only[Nat.sub_zero,Nat.zero_add,List.nil_append,zq]at h1 h2;have h2:Xu l (l.length+1) (l.length+1) 0 (fun _=>[]) 0=lfR l.length f':=h2;have hc:=(Mc ho func109 bnru rfl ((AqN l (l.length+1)).trans h2)).data (y:= .c (.d (.sl 1 l.length f'))) rfl;exact(CX.of_cr func109 bnru hc).le (show DE _ _ from h1.de) (.refl _)
theorem cNsu(l:List SSub)(hl:l.length<=5000):CX prog 210 [.c (.d (Yc l)), .c (.d (.v (.func (.func 211) #[] #[])))] [] (.c (.d (Ab (l.map SSub.loc)))) []:=by
 have ho:B4 prog (Orc.cons 211 (inl prog Orc.nil na 1 f211) Orc.nil):=(OrcS.cons (.inl .nil func211 (by kernel_rfl)) .nil).ok;obtain⟨f',h1,h2⟩:=app_loop (L:=fun m n f i=>Xt l (l.length+1) m n f i) (K:=lfR) (l:=l) (d:=sub0) (c:=busC) (d0:=e0) (ch:=fun x=>[dS x.loc]) (e:=SSub.loc) (sz:=1)
  (fun m k n f hk hn=>by rw[Adl,lt1 hk,ge0,tn,nx hk,J0 (by omega),tt,za,za,za,Nat.zero_add])
  (fun m n f=>by rw[Adl,lt0 (zp _)];rfl) (fun _=>rfl) (fun k hk=> .refl _) (l.length+1) 0 0 (fun _=>[]) [] (by omega) (by omega) (by omega) (.nil _)
 simp only[Nat.sub_zero,Nat.zero_add,List.nil_append,zq]at h1 h2;have h2:Xt l (l.length+1) (l.length+1) 0 (fun _=>[]) 0=lfR l.length f':=h2;have hc:=(Mc ho func210 bnsu rfl ((AqM l (l.length+1)).trans h2)).data (y:= .c (.d (.sl 1 l.length f'))) rfl;exact(CX.of_cr func210 bnsu hc).le (show DE _ _ from h1.de) (.refl _)
def fitR(r:SRel):Bool:=(decide (1<=r.kind)&&decide (r.kind<=4))&&(decide (r.qi.length<=1000)&&(decide (r.qj.length<=1000)&&(decide (r.qk.length<=1000)&&(decide (r.ql.length<=1000)&&r.qj.all fun x=>decide (x.qm.length<=1000)))))
structure FitR (r:SRel):Prop where
 k1:1<=r.kind
 k4:r.kind<=4
 ru:r.qi.length<=1000
 se:r.qj.length<=1000
 pu:r.qk.length<=1000
 su:r.ql.length<=1000
 sg: ∀x∈r.qj,x.qm.length<=1000
theorem Cv{r:SRel}(h:fitR r=true):FitR r:=by
 unfold fitR at h;simp only[zd,zi,List.all_eq_true]at h;exact⟨h.1.1,h.1.2,h.2.1,h.2.2.1,h.2.2.2.1,h.2.2.2.2.1,h.2.2.2.2.2⟩
def k14(n:Int):Bool:=decide (1<=n)&&decide (n<=4)
abbrev eNr(l:List SRule):List AV:=[.c (.d (Qt l)), .c (.d (.v (.func (.func 110) #[] #[])))]
abbrev eNs(l:List SSub):List AV:=[.c (.d (Yc l)), .c (.d (.v (.func (.func 211) #[] #[])))]
theorem AfQ:InjT eNr:=fun a b h=>A8 (sz:=2) (d0:=Be) Li _ _ (Nf (Ar h).1)
theorem AfP:InjT eNs:=fun a b h=>A8 (sz:=4) (d0:=sub0) J5 _ _ (Nf (Ar h).1)
def le5{J:Type}(l:List J):Bool:=decide (l.length<=5000)
theorem Rj(k:Int):(Cu k).length<=16:=by
 unfold Cu;cases(k==1)
 ·cases(k==2||k==3)
  ·cases(k==4)
   ·exact Nat.zero_le _
   ·show sgBus.length<=16;simp[sgBus]
  ·show sgSrc.length<=16;decide
 ·show sgLine.length<=16;decide
theorem Ll(r:SRel):(outS r).length<=16+r.qi.length:=by
 unfold outS;have:=Rj r.kind;simp;omega
theorem cOu(r:SRel)(h:FitR r):CX prog 45 [aRel r] [] (rowS (outS r)) (hpS (outS r)):=by
 have ho:OrcS prog (oOu (okG eI1 k14) (fun x=>Cu (theT eI1 x)) (okG eNr le5) fun x=>(theT eNr x).map SRule.name):=
  .cons (.nt (enc:=eI1) (c:=k14) (r:=fun k=>rowS (Cu k)) (H':=fun k=>hpS (Cu k)) fun k hk=>by
   unfold k14 at hk;simp only[zd,zi]at hk;exact Apj k hk.1 hk.2) (.cons (.t' (enc:=eNr) (c:=le5) (r:=fun l=> .c (.d (Ab (l.map SRule.name)))) fun l hl=>cNru l (by unfold le5 at hl;simpa using hl)) .nil)
 have e:=evOu (okG eI1 k14) (fun x=>Cu (theT eI1 x)) (okG eNr le5) (fun x=>(theT eNr x).map SRule.name) r;have k1:okG eI1 k14 [AV.c (C.d (D.v (Value.int IntKind.i64 r.kind)))]=true:=Ao M2 (c:=k14) r.kind (by unfold k14;rw[zk h.k1,zk h.k4];rfl);have k2:theT eI1 [AV.c (C.d (D.v (Value.int IntKind.i64 r.kind)))]=r.kind:=Aj M2 r.kind;have k3:okG eNr le5 (eNr r.qi)=true:=Ao AfQ (c:=le5) r.qi (by unfold le5;exact zk (by have:=h.ru;omega));have k4:theT eNr (eNr r.qi)=r.qi:=Aj AfQ r.qi;have k5:(decide (((Cu r.kind).length+(r.qi.map SRule.name).length)*16<=140737488355328)&&decide ((Cu r.kind).length+(r.qi.map SRule.name).length<=9223372036854775807))=true:=by
  have:=Rj r.kind;have:=h.ru;rw[List.length_map,zk,zk];rfl
 rw[k1,k2,k3,k4,k5,za,za,za]at e;refine(Am ho.ok func45 (by kernel_rfl) rfl e).le ?_ (.cons ((RL.cat (RL.data (Cu r.kind)) (RL.data (r.qi.map SRule.name))).ble) (.refl _));unfold rowS;rw[show(outS r).length=(Cu r.kind).length+(r.qi.map SRule.name).length from List.length_append];exact .refl _
theorem cIn(r:SRel)(h:FitR r):CX prog 143 [aRel r] [] (.c (.d (Ab (inS r)))) []:=by
 have ho:OrcS prog (Orc.cons 210 (ansG (okG eNs le5) fun x=> .c (.d (Ab ((theT eNs x).map SSub.loc)))) Orc.nil):=
  .cons (.t' (enc:=eNs) (c:=le5) (r:=fun l=> .c (.d (Ab (l.map SSub.loc)))) fun l hl=>cNsu l (by unfold le5 at hl;simpa using hl)) .nil
 have e:=evIn (okG eNs le5) (fun x=>(theT eNs x).map SSub.loc) r;have k3:okG eNs le5 (eNs r.ql)=true:=Ao AfP (c:=le5) r.ql (by unfold le5;exact zk (by have:=h.su;omega));have k4:theT eNs (eNs r.ql)=r.ql:=Aj AfP r.ql;rw[k3,k4,za]at e;exact Am ho.ok func143 (by kernel_rfl) rfl e
theorem cOuD(r:SRel)(h:FitR r):CX prog 45 [aRel r] [] (.c (.d (Ab (outS r)))) []:=by
 have hb:f45.body=some (Ac f45):=by kernel_rfl
 exact CX.of_cr func45 hb (((cOu r h).cr func45 hb).data (y:= .c (.d (Ab (outS r)))) rfl)
def eSx(a:List SSet×BA):List AV×Hp:=([.c (.d (Sk a.1)), .c (.fn 212 [] [.ptr 0 0])],HN a.2)
theorem ArC{x y:D}{a b:List D}(h:Csle ((x::a).map .d) ((y::b).map .d)):DE x y:=h.2 0 (.d x) (.d y) rfl rfl
theorem AfJ:InjY eSx:=fun a b h1 h2=>Prod.ext (A8 (sz:=2) (d0:=set0) Lg _ _ (Nf (Ar h1).1))
 (Ex (ArC (x:=dS a.2) (y:=dS b.2) (a:=[]) (b:=[]) (Xa (P7 h2 0 (a:= .cells [.d (dS a.2)] 9) (b:= .cells [.d (dS b.2)] 9) rfl rfl))))
def ePx(a:List SPub×SSub):List AV×Hp:=([.c (.d (Yk a.1)), .c (.fn 146 [] [.ptr 0 0])],HSb a.2)
theorem AfN:InjY ePx:=fun a b h1 h2=>Prod.ext (A8 (sz:=3) (d0:=pub0) Px _ _ (Nf (Ar h1).1))
 (J5 _ _ (AgK (x:=subC a.2) (y:=subC b.2) (Xa (P7 h2 0 (a:= .cells ((subC a.2).map .d) 68) (b:= .cells ((subC b.2).map .d) 68) rfl rfl))))
abbrev eRS:=en2 aRel vS
theorem Jl:InjT eRS:=K4 aRel_inj AcK
def ZSo:KSo where
 ok:=okZ eSx fun a=>Au a.1
 ix x H:=idxP (fun s:SSet=>isT s.name (theY eSx x H).2) 0 (theY eSx x H).1
 nm x H:=(theY eSx x H).2
theorem sSo:OrcS prog (oSo ZSo):= .cons (.m (enc:=eSx) (c:=fun a=>Au a.1) (r:=fun a=>vI (idxP (fun s:SSet=>isT s.name a.2) 0 a.1)) (H':=fun a=>HN a.2) fun a h=>cisx a.1 a.2 (Bi h)) .nil
theorem cSo(r:SRel)(n:BA)(h:Au r.qj=true):CX prog 144 [aRel r,vS n] [] (vI (Cy r n)) []:=by
 have e:=evSo ZSo r n;have k1:ZSo.ok (eSx (r.qj,n)).1 (eSx (r.qj,n)).2=true:=Q4 AfJ (c:=fun a=>Au a.1) (r.qj,n) h;have t:theY eSx (eSx (r.qj,n)).1 (eSx (r.qj,n)).2=(r.qj,n):=Le AfJ (r.qj,n);have k2:ZSo.ix (eSx (r.qj,n)).1 (eSx (r.qj,n)).2=Cy r n:=by dsimp only[ZSo];rw[t];rfl
 unfold eSx HN at k1 k2;refine Am sSo.ok func144 (by kernel_rfl) rfl (e.trans ?_);refine(congrArg (fun b=>cond b _ _) k1).trans ?_;rw[za];exact congrArg (fun n=>some (T.leaf (vI n,([]:Hp)))) k2
theorem Aop(l:List BA)(n:BA)(g:Nat)(hb:l.length<=9223372036854775807): ∀(m k:Nat),k<=l.length ->l.length -k<m ->Abt l n g m k=some (.leaf (vI (idxP (fun x:BA=>isT x n) k (l.drop k)),[]))
 |0,k,_,h=>by omega|m+1,k,hk,h=>by
  rw[Alk];by_cases hlt:k<l.length
  ·rw[Av (d:=e0) hlt,lt1 hlt,ge0,tn,nx hlt hb,Aop l n g hb m (k+1) (by omega) (by omega),tt,za,za];simp only[idxP];rw[Um (l.getD k e0) n];show(bif isT n (l.getD k e0)then _ else _)=_;cases isT n (l.getD k e0)<;>rfl
  ·rw[lt0 hlt,zl];rfl
theorem cSix(l:List BA)(n:BA)(h:Au l=true):CX prog 48 [.c (.d (Ab l)),vS n] [] (vI (F3 l n)) []:=
 Am (Orc.nil_ok _) func48 bsix rfl ((Aqu l n (l.length+1)).trans (Aop l n (l.length+1) (Bi h) (l.length+1) 0 (by omega) (by omega)))
def ZFi:KFi where
 okr:=okG eRS fun a=>Au a.1.qj
 so x:=Cy (theT eRS x).1 (theT eRS x).2
 okp:=okZ ePx fun a=>Au a.1
 px x H:=idxP (fun p:SPub=>isT p.set (theY ePx x H).2.set) 0 (theY ePx x H).1
 sb x H:=(theY ePx x H).2
 okx:=okG eIx cIx
 ix x:=F3 (theT eIx x).1 (theT eIx x).2
theorem sFi:OrcS prog (oFi ZFi):=
 .cons (.t' (enc:=eRS) (c:=fun a=>Au a.1.qj) (r:=fun a=>vI (Cy a.1 a.2)) fun a h=>cSo a.1 a.2 h)
  (.cons (.inl (.cons (.m (enc := ePx) (c := fun a => Au a.1) (r := fun a => vI (idxP (fun p : SPub => isT p.set a.2.set) 0 a.1)) (H' := fun a => HSb a.2) fun a h => cipx a.1 a.2 (Bi h)) .nil) func145 (by kernel_rfl))
  (.cons (.t' (enc:=eIx) (c:=cIx) (r:=fun a=>vI (F3 a.1 a.2)) fun a h=>cSix a.1 a.2 h) .nil))
theorem Ang(c:SCfg)(of dev:Int)(x:SSub)(hd:dev<c.qh.length)(ha:c.qh.all Ci=true):CX prog 79 [aCfg c,vI of,vI dev,Aji x] [] (aPl (Pr c.qh of dev x)) []:=by
 refine Am sFi.ok func79 (by kernel_rfl) rfl ((evFi ZFi c of dev x).trans ?_);unfold Pr;cases h1:decide (dev<0)with
 |true=>rfl|false=>
  have h1':0<=dev:=by have:=of_decide_eq_false h1;omega
  cases h2:(dev==of)with
  |true=>rfl|false=>
   have hr:Ci (c.qh.getD dev.toNat rel0)=true:=E7 ha rfl _;generalize c.qh.getD dev.toNat rel0=r at hr⊢;obtain⟨_,o2,o3,_,o5⟩:=Jd hr;have e1:(decide (0<=dev)&&decide (dev<(c.qh.length:Int)))=true:=by rw[zk h1',zk hd];rfl
   have k1:ZFi.okr [AV.agg (List.map C.d (relC r)),AV.c (C.d (D.v (Value.string x.set)))]=true:=Ao Jl (c:=fun a=>Au a.1.qj) (r,x.set) (by unfold Au;exact zk o2);have t1:theT eRS [AV.agg (List.map C.d (relC r)),AV.c (C.d (D.v (Value.string x.set)))]=(r,x.set):=Aj Jl (r,x.set);have k2:ZFi.so [AV.agg (List.map C.d (relC r)),AV.c (C.d (D.v (Value.string x.set)))]=Cy r x.set:=by dsimp only[ZFi];rw[t1]
   have k3:ZFi.okp (ePx (r.qk,x)).1 (ePx (r.qk,x)).2=true:=Q4 AfN (c:=fun a=>Au a.1) (r.qk,x) (by unfold Au;exact zk o3);have t2:theY ePx (ePx (r.qk,x)).1 (ePx (r.qk,x)).2=(r.qk,x):=Le AfN (r.qk,x);have k4:ZFi.px (ePx (r.qk,x)).1 (ePx (r.qk,x)).2=idxP (fun p:SPub=>isT p.set x.set) 0 r.qk:=by dsimp only[ZFi];rw[t2]
   have k5:ZFi.sb (ePx (r.qk,x)).1 (ePx (r.qk,x)).2=x:=by dsimp only[ZFi];rw[t2]
   unfold ePx HSb at k3 k4 k5;simp only[]at k3 k4 k5;rw[e1,k1,k2,k3,k4,k5];simp only[za,zb,Re];unfold AmF;cases h3:decide (Cy r x.set<0)with
   |true=>rfl|false=>
    cases h4:(r.qk.any fun p=>isT p.set x.set)with
    |false=>rfl|true=>
     obtain⟨j,hj,hje,_⟩:=Afg (p:=fun s:SSet=>isT s.name x.set) set0 (l:=r.qj) (by have:=of_decide_eq_false h3;show 0<=Cy r x.set;omega);have hje:Cy r x.set=j:=hje;have e2:(decide (0<=Cy r x.set)&&decide (Cy r x.set<(r.qj.length:Int)))=true:=by rw[hje,zk,zk];rfl
     have hs:Ln (r.qj.getD (Cy r x.set).toNat set0)=true:=E7 o5 rfl _;generalize r.qj.getD (Cy r x.set).toNat set0=q at hs⊢;have k6:ZFi.okx [AV.c (C.d (Ad 1 busC e0 q.qm)),AV.c (C.d (D.v (Value.string x.sig)))]=true:=Ao Et (c:=cIx) (q.qm,x.sig) hs;have t3:theT eIx [AV.c (C.d (Ad 1 busC e0 q.qm)),AV.c (C.d (D.v (Value.string x.sig)))]=(q.qm,x.sig):=Aj Et (q.qm,x.sig);have k7:ZFi.ix [AV.c (C.d (Ad 1 busC e0 q.qm)),AV.c (C.d (D.v (Value.string x.sig)))]=F3 q.qm x.sig:=by dsimp only[ZFi];rw[t3]
     rw[e2,k6,k7];simp only[Bool.not_true,za,zb];cases h5:decide (F3 q.qm x.sig<0)<;>rfl
end Go.Y.sg
end
