/- Texts of this claim, one behind the other. -/
import Derived.Test.YtkgibdhpijdbfaaGreatDoorZ6
import Derived.Test.YtkgibdhpijdbfaaGreatDoorZ8
import Derived.Test.YtkgibdhpijdbfaaGreatDoorZ5
import Derived.RangeFuncRecord
import Derived.TacticsIn
import Derived.OrdersIn
set_option linter.unusedVariables false
set_option linter.unusedSimpArgs false
set_option maxHeartbeats 16000000
namespace Go.Proofs.YtkgibdhpijdbfaaGreatDoor
open Go Go.Eng Go.Proofs
theorem Bo.at{β:Type}{sz:Nat}{R:CS β}{W:World}{a:Option Addr}{n cap:Nat}{xs:List β}(h:Bo sz R W [.slice a n cap] xs){j:Nat}(hj:j<xs.length):
  ∃b off cs,a=some ⟨b,off,none⟩∧cs.length=sz∧(∀i v,cs[i]?=some v→W.cell? ⟨b,off+(j*sz+i),none⟩=some v)∧R W cs xs[j]:=by
 obtain⟨a',cap',h1, -, -,h4⟩:=h.ex;have:a=a':=by simpa using(List.cons.inj h1).1|> λh=>(Value.slice.inj h).1
 subst this;exact h4 j hj
theorem Bo.keep{β:Type}{sz:Nat}{R:CS β}{w0 w:World}{H:AH}(hS:St w0 [] H w)(hR: ∀cs x,R w0 cs x→R w cs x){cs:List Value}{xs:List β}(h:Bo sz R w0 cs xs):Bo sz R w cs xs:=by
 obtain⟨a,cap,h1,h2,h3,h4⟩:=h.ex;refine⟨a,cap,h1,h2,h3,λj hj=>?_⟩;obtain⟨b,off,cs',h5,h6,h7,h8⟩:=h4 j hj;exact⟨b,off,cs',h5,h6,λi v hv=>hS.oldCell AB (h7 i v hv),hR _ _ h8⟩
theorem Bo.ldn{β:Type}{sz:Nat}{R:CS β}{w0 w:World}{H:AH}(hS:St w0 [] H w){a:Option Addr}{n cap:Nat}{xs:List β}(h:Bo sz R w0 [.slice a n cap] xs){j:Nat}(hj:j<xs.length):
  ∃b off cs,a=some ⟨b,off,none⟩∧R w0 cs xs[j]∧ ∀K:List Value→Prop,K cs→GM (λw'=>w=w') sz b (off+j*sz) K:=by
 obtain⟨b,off,cs,h1,h2,h3,h4⟩:=h.at hj;refine⟨b,off,cs,h1,h4,λK hK=>⟨⟨cs,h2,λ_ e i v hv=>?_,hK⟩⟩⟩;subst e;have:=hS.oldCell AB (h3 i v hv);rw[←Gn]at this;exact this
theorem Bo.ldnC{β:Type}{sz:Nat}{R:CS β}{w0:World}{a:Option Addr}{n cap:Nat}{xs:List β}(h:Bo sz R w0 [.slice a n cap] xs){j:Nat}(hj:j<xs.length):
  ∃b off cs,a=some ⟨b,off,none⟩∧R w0 cs xs[j]∧ ∀K:List Value→Prop,K cs→GM (λw'=>St w0 [] [] w') sz b (off+j*sz) K:=by
 obtain⟨b,off,cs,h1,h2,h3,h4⟩:=h.at hj;refine⟨b,off,cs,h1,h4,λK hK=>⟨⟨cs,h2,λ_ e i v hv=>?_,hK⟩⟩⟩;have:=e.oldCell AB (h3 i v hv);rw[←Gn]at this;exact this
theorem Bo.mem{β:Type}{sz:Nat}{R:CS β}{W:World}{v:Value}{xs:List β}(h:Bo sz R W [v] xs){x:β}(hx:x∈xs): ∃cs,R W cs x:=by
 obtain⟨a,cap, -, -, -,h4⟩:=h.ex;obtain⟨i,hi,rfl⟩:=Hq.1 hx;obtain⟨b,off,cs, -, -, -,h8⟩:=h4 i hi;exact⟨cs,h8⟩
theorem Bl.map{P:Program}{t:TypeId}{β γ:Type}{R:CS β}{S:CS γ}{bk:β→Nat}{bk':γ→Nat}(h:Bl P t R bk)(f:β→γ)(hf: ∀W cs x,R W cs x→S W cs (f x))(hb: ∀x,bk' (f x)≤bk x):Bl P t S bk':=by
 refine⟨λ{H enc W fuel cs x}hx=>?_⟩;obtain⟨b,h1,h2⟩:=h.out hx;exact⟨f b,hf _ _ _ h1,Au (hb b) h2⟩
def K1(n:Int):Prop:= -9223372036854775808≤n∧n≤9223372036854775807
theorem zB{n:Int}(h:(Lit.int .i64 n).wf=true):K1 n:=by
 unfold K1;simpa[Lit.wf,IntKind.min,IntKind.max,IntKind.signed,IntKind.bits]using h
theorem PH{cs:List Value}{x:Value}(h:cs.take 1=[x]):cs=x::cs.drop 1:=by
 conv=>lhs;rw[←CN 1 cs,h]
 rfl
theorem NC{k:IntKind}{β:Type}{S:CS β}{W:World}{cs:List Value}{x:Int×β}(h:Ii 1 (HD k) S W cs x):cs= .int k x.1::cs.drop 1∧(Lit.int k x.1).wf=true∧S W (cs.drop 1) x.2:=
 ⟨PH h.1.1,h.1.2,h.2⟩
theorem vU{β:Type}{S:CS β}{W:World}{cs:List Value}{x:Bool×β}(h:Ii 1 S9 S W cs x):cs= .bool x.1::cs.drop 1∧S W (cs.drop 1) x.2:=
 ⟨PH h.1,h.2⟩
theorem Ou{β:Type}{S:CS β}{W:World}{cs:List Value}{x:AE×β}(h:Ii 1 TB S W cs x):cs=AG x.1::cs.drop 1∧S W (cs.drop 1) x.2:=
 ⟨PH h.1.1,h.2⟩
theorem Ot{α β:Type}{sz:Nat}{R:CS α}{S:CS β}{W:World}{cs:List Value}{x:List α×β}(h:Ii 1 (Bo sz R) S W cs x): ∃v,cs=v::cs.drop 1∧Bo sz R W [v] x.1∧S W (cs.drop 1) x.2:=by
 obtain⟨a,cap,h1, -⟩:=h.1.ex;refine⟨_,PH h1,?_,h.2⟩;rw[←h1];exact h.1
theorem Bo.own{β:Type}{sz:Nat}{R:CS β}{w0 w:World}{T:List Nat}{H:AH}{g:Nat}{t:TypeId}{fz:Nat×Nat}{css:List (List Value)}{tail:List Value}{F:Obj→AH}(hS:St w0 T H w) [Slot H g (.cells ⟨css.flatten++tail⟩ t fz) F]{xs:List β}{cap:Nat}
  (hl:css.length=xs.length)(hc: ∀c∈css,c.length=sz)(hR: ∀j(h1:j<css.length)(h2:j<xs.length),R w css[j] xs[j])(hcap:xs.length≤cap)(_hm:True):Bo sz R w [.slice (some ⟨g,0,none⟩) xs.length cap] xs:=by
 refine⟨some ⟨g,0,none⟩,cap,rfl,hcap,trivial,λj hj=>?_⟩;have hj':j<css.length:=AA;refine⟨g,0,css[j],rfl,hc _ (CW hj'),λi v hv=>?_,hR j hj' hj⟩;refine hS.cell ?_;have hfl: ∀(l:List (List Value))(j i:Nat)(v:Value)(hj:j<l.length),(∀c∈l,c.length=sz)→l[j][i]?=some v→(l.flatten++tail)[j*sz+i]?=some v:=by
  intro l
  induction l with
  |nil=>intro j i v hj;simp at hj
  |cons c l ih=>
   intro j i v hj hc hv;have hcl:=hc c AB;cases j with
   |zero=>
    simp only[Ja]at hv;rw[Nat.zero_mul,DR,Dc,Aj,Cq (Fm.1 hv).1];exact hv
   |succ j=>
    simp only[List.getElem_cons_succ]at hv;rw[Dc,Aj,Nat.succ_mul,D2 AA,show j*sz+sz+i-c.length=j*sz+i by omega];exact ih j i v (by simpa using hj) (λc h=>hc c (by simp[h])) hv
 rw[DR];exact hfl css j i v hj' hc hv
end Go.Proofs.YtkgibdhpijdbfaaGreatDoor
namespace Go.Proofs.YtkgibdhpijdbfaaGreatDoor
open Go Go.Eng Go.Proofs
structure Ar where
 b:Nat
 e:AF
 h:Nat
def Bt(l:Nat):List Ar→Value
 |[]=> .pointer none
 |x::r=>if l<x.h then ptr x.b else Bt l r
def F5(h:Nat)(r:List Ar)(l:Nat):Value:=if l<h then Bt l r else .pointer none
def Dz(f:Nat→Value):List Value:=[f 0,f 1,f 2,f 3,f 4,f 5,f 6,f 7]
theorem Im(f:Nat→Value)(l:Nat)(h:l<8):(Dz f)[l]?=some (f l):=by
 match l,h with
 |0,_=>rfl|1,_=>rfl|2,_=>rfl|3,_=>rfl|4,_=>rfl|5,_=>rfl|6,_=>rfl|7,_=>rfl
def DH(x:Ar)(r:List Ar):List Value:=AU x.e++Dz (F5 x.h r)
def EH:List Ar→AH
 |[]=>[]
 |x::r=>(x.b,.cells ⟨DH x r⟩ HF (0,0))::EH r
def memC(n bytes:Int)(ns:List Ar)(ha:Option Addr)(hn hc:Nat)(turn:Int):List Value:=
 [.int .i64 n,.int .i64 bytes,AG [],.int .i64 0,.bool false,AG []]++Dz (λl=>Bt l ns)++[.slice ha hn hc,.int .i64 turn]
theorem RT: ∀(A:List Ar)(x:Ar)(B:List Ar),(x.b,.cells ⟨DH x B⟩ HF (0,0))∈EH (A++x::B)
 |[],_,_=>CM
 |_::A,x,B=>CH _ (RT A x B)
structure Ff(b:Nat)(A:List Ar)(l:Nat)(g off:Nat):Prop where
 out:(A=[]∧g=b∧off=2)∨ ∃A0 x,A=A0++[x]∧g=x.b∧off=0∧l<x.h
theorem Ff.head(b l:Nat):Ff b [] l b 2:=⟨.inl ⟨rfl,rfl,rfl⟩⟩
theorem Ff.down{b:Nat}{A:List Ar}{l k g off:Nat}(h:Ff b A l g off)(hk:k≤l):Ff b A k g off:=by
 rcases h.out with h|⟨A0,x,h1,h2,h3,h4⟩
 ·exact⟨.inl h⟩
 ·exact⟨.inr ⟨A0,x,h1,h2,h3,AA⟩⟩
def lastP(p:Value)(l:Nat):List Ar→Value
 |[]=>p
 |x::r=>lastP (if l<x.h then ptr x.b else p) l r
theorem Oc(p:Value)(l:Nat): ∀(A B:List Ar),lastP p l (A++B)=lastP (lastP p l A) l B
 |[],_=>rfl
 |x::A,B=>Oc _ l A B
theorem Od(p:Value)(l:Nat): ∀{A:List Ar},(∀x∈A,¬l<x.h)→lastP p l A=p
 |[],_=>rfl
 |x::A,h=>by
  unfold lastP;rw[if_neg (h x CM),Od p l λy hy=>h y (CH _ hy)]
def F7(b:Nat):Value:= .pointer (some ⟨b,2,none⟩)
theorem Ff.lastP{b:Nat}{A:List Ar}{l g off:Nat}(h:Ff b A l g off):lastP (F7 b) l A= .pointer (some ⟨g,off,none⟩):=by
 rcases h.out with⟨rfl,rfl,rfl⟩|⟨A0,x,rfl,rfl,rfl,h4⟩
 ·rfl
 ·rw[Oc];show(if l<x.h then ptr x.b else _)=_;rw[if_pos h4]
theorem W9(l:Nat): ∀(A B:List Ar),(∃C z D,A=C++z::D∧(∀x∈C,¬l<x.h)∧l<z.h∧Bt l (A++B)=ptr z.b)∨((∀x∈A,¬l<x.h)∧Bt l (A++B)=Bt l B)
 |[],B=> .inr ⟨AB,rfl⟩
 |x::A,B=>by
  by_cases hx:l<x.h
  ·left;exact⟨[],x,A,rfl,AB,hx,by show(if l<x.h then _ else _)=_;rw[if_pos hx]⟩
  ·have e:Bt l (x::A++B)=Bt l (A++B):=by show(if l<x.h then _ else Bt l (A++B))=_;rw[if_neg hx]
   rcases W9 l A B with⟨C,z,D,h1,h2,h3,h4⟩|⟨h1,h2⟩
   ·left;refine⟨x::C,z,D,by rw[h1];rfl,λy hy=>?_,h3,by rw[e,h4]⟩;rcases As.1 hy with rfl|hy
    ·exact hx
    ·exact h2 y hy
   ·right;refine⟨λy hy=>?_,by rw[e,h2]⟩;rcases As.1 hy with rfl|hy
    ·exact hx
    ·exact h1 y hy
theorem RZ(l:Nat): ∀(B:List Ar),Bt l B= .pointer none∨ ∃C z D,B=C++z::D∧Bt l B=ptr z.b
 |[]=> .inl rfl
 |x::B=>by
  by_cases hx:l<x.h
  ·exact .inr ⟨[],x,B,rfl,by show(if l<x.h then _ else _)=_;rw[if_pos hx]⟩
  ·have e:Bt l (x::B)=Bt l B:=by show(if l<x.h then _ else _)=_;rw[if_neg hx]
   rcases RZ l B with h|⟨C,z,D,h1,h2⟩
   ·exact .inl (e.trans h)
   ·exact .inr ⟨x::C,z,D,by rw[h1];rfl,e.trans h2⟩
section
variable {w0 w : World} {T : List Nat} {H : AH}
theorem RM(hS:St w0 T H w){b:Nat}{l:List Value}{t:TypeId}{fz:Nat×Nat}(hm:(b,Obj.cells ⟨l⟩ t fz)∈H){off:Nat}{v:Value}(hv:l[off]?=some v):w.cell? ⟨b,off,none⟩=some v:=by
 have h:=hS.own _ hm;simp only at h;simp only[World.cell?,h];simpa using hv
structure Fe(b:Nat)(ns:List Ar)(H:AH):Prop where
 tab: ∃n bytes ha hn hc turn,(b,Obj.cells ⟨memC n bytes ns ha hn hc turn⟩ ES (0,0))∈H
 nodes: ∀p∈EH ns,p∈H
theorem Fe.next{b:Nat}{A R:List Ar}(hM:Fe b (A++R) H)(hS:St w0 T H w){l g off:Nat}(hl:l<8)(hp:Ff b A l g off):w.cell? ⟨g,off+(4+l),none⟩=some (Bt l R):=by
 rcases hp.out with⟨rfl,rfl,rfl⟩|⟨A0,x,rfl,rfl,rfl,h4⟩
 ·obtain⟨n,bytes,ha,hn,hc,turn,hm⟩:=hM.tab;refine RM hS hm ?_;unfold memC;rw[Aj,D2 (by simp;omega),Cq (by simp[Dz];omega)];rw[show 2+(4+l)-_=l by simp;omega];exact Im _ l hl
 ·have hm:=hM.nodes _ (by rw[Aj];exact RT A0 x R);refine RM hS hm ?_;unfold DH;rw[D2 (by simp[AU])];rw[show 0+(4+l)-(AU x.e).length=l by simp[AU],Im _ l hl];unfold F5;rw[if_pos h4]
theorem Fe.ent{b:Nat}{A R:List Ar}{z:Ar}(hM:Fe b (A++z::R) H)(hS:St w0 T H w): ∀(j:Nat)(v:Value),(AU z.e)[j]?=some v→w.cell? ⟨z.b,j,none⟩=some v:=by
 intro j v hv;refine RM hS (hM.nodes _ (RT A z R)) ?_;unfold DH;rw[Cq (Fm.1 hv).1];exact hv
end
end Go.Proofs.YtkgibdhpijdbfaaGreatDoor
namespace Go.Proofs.YtkgibdhpijdbfaaGreatDoor
open Go Go.Eng Go.Proofs
theorem K9{w:World}{a:Addr}{v:Value}(h:w.cell? a=some v){K:Value→Prop}(hk:K v):FG (λw'=>w=w') a K:=⟨⟨v,λ_ e=>by subst e;exact h,hk⟩⟩
theorem IP{w:World}{n b off:Nat}{cs:List Value}(hn:cs.length=n)(h: ∀j v,cs[j]?=some v→w.cell? ⟨b,off+j,none⟩=some v){K:List Value→Prop}(hk:K cs):GM (λw'=>w=w') n b off K:=⟨⟨cs,hn,λ_ e j v hj=>by subst e;exact h j v hj,hk⟩⟩
theorem RG{w0:World}{T:List Nat}{H:AH}{a:Addr}{v:Value}(h: ∀w,St w0 T H w→w.cell? a=some v){K:Value→Prop}(hk:K v):FG (λw'=>St w0 T H w') a K:=⟨⟨v,λw hw=>h w hw,hk⟩⟩
theorem Jf{w0:World}{T:List Nat}{H:AH}{n b off:Nat}{cs:List Value}(hn:cs.length=n)(h: ∀w,St w0 T H w→ ∀j v,cs[j]?=some v→w.cell? ⟨b,off+j,none⟩=some v){K:List Value→Prop}(hk:K cs):GM (λw'=>St w0 T H w') n b off K:=⟨⟨cs,hn,λw hw j v hj=>h w hw j v hj,hk⟩⟩
def D8(b k:Nat)(A:List Ar):List Value:=Dz λl=>if k≤l then lastP (F7 b) l A else .pointer none
theorem RC(p:Value)(l:Nat)(hp:p.oneCell'=true): ∀A:List Ar,(lastP p l A).oneCell'=true
 |[]=>hp
 |x::A=>by
  unfold lastP
  split
  ·exact RC _ l rfl A
  ·exact RC _ l hp A
theorem XK(b k:Nat)(A:List Ar):(D8 b k A).all Value.oneCell'=true:=by
 have h: ∀l,((λl=>if k≤l then lastP (F7 b) l A else Value.pointer none) l).oneCell'=true:=λl=>by
  show(if k≤l then lastP (F7 b) l A else Value.pointer none).oneCell'=true
  split
  ·exact RC _ _ rfl A
  ·rfl
 unfold D8 Dz;generalize(λl=>if k≤l then lastP (F7 b) l A else Value.pointer none)=f at h;simp only[List.all_cons,List.all_nil,h,Bool.and_true]
theorem XL(b l:Nat)(A:List Ar)(hl:l<8):(D8 b (l+1) A).set l (lastP (F7 b) l A)=D8 b l A:=by
 apply List.ext_getElem?;intro j;rw[List.getElem?_set];by_cases hj:j<8
 ·unfold D8;rw[Im _ j hj,Im _ j hj]
  split
  ·rename_i e;subst e;rw[if_pos (by show l<8;exact hl),if_pos (AW _)]
  ·rename_i e;by_cases h:l≤j
   ·rw[if_pos AA,if_pos h]
   ·rw[if_neg AA,if_neg h]
 ·rw[if_neg AA,JZ (by show 8≤j;omega),JZ (by show 8≤j;omega)]
theorem Td{w:World}{b:Nat}{A B:List Ar}{L:AH}(hM:Fe b (A++B) L)(hh:Holds L w)(x:AF)(hA: ∀y∈A,CK y.e x=true)(hB: ∀y∈B,CK y.e x=false):
  Cl Tryz.prog nN [ptr b,B9 x] w λv w'=>v= .agg ⟨D8 b 0 A⟩∧St w (keys L) L w':=by
 have hS:=St.enter hh;generalize hT:keys L=T0 at hS⊢;unfold B9 AU;refine fO rfl ?_;refine jq ⟨?_⟩;refine hS.al ?_;intro b3 w1 _ hS;refine jq ⟨?_⟩;refine hS.al ?_;intro b4 w2 _ hS;refine jq ⟨?_⟩;refine hS.al ?_;intro b5 w3 _ hS;refine jq ⟨?_⟩;refine AM.loop (λ(i:Nat×List Ar×Nat×Nat)=>[(0,ptr b),(3,ptr b3),(4,ptr b4),(5,ptr b5),(6,.pointer (some ⟨i.2.2.1,i.2.2.2,none⟩)),(7,.int .i64 ((i.1:Int)-1))])
  (λi w'=>i.1≤8∧(∃A2,A=i.2.1++A2∧ ∀y∈A2,¬i.1<y.h∨i.1=8)∧Ff b i.2.1 i.1 i.2.2.1 i.2.2.2∧
   St w T0 ((b5,.cells ⟨D8 b i.1 A⟩ FJ (0,0))::(b4,.cells ⟨Dz λ_=> .pointer none⟩ FJ (0,0))::(b3,.cells ⟨[AG x.k,.int .i64 x.s,.bool x.d,AG x.v]⟩ Ap (0,0))::L) w') (λi=>i.1) (8,[],b,2)
  ⟨rfl,rfl,rfl,rfl,rfl,congrArg (Value.int .i64) (by decide:(7:Int)=((8:Nat):Int)-1),trivial⟩ ⟨AW _,⟨A,rfl,λy _=> .inr rfl⟩,Ff.head b 8,hS⟩ ?_
 clear hS;rintro⟨k,A1,g,off⟩w4⟨hk,⟨A2,hA2,hno⟩,hp,hS⟩;simp only at hk hA2 hno hp hS⊢;rcases k with _|l
 ·obtain⟨v0,v1,v2,v3,v4,v5,v6,v7,hO⟩: ∃v0 v1 v2 v3 v4 v5 v6 v7,D8 b 0 A=[v0,v1,v2,v3,v4,v5,v6,v7]:=⟨_,_,_,_,_,_,_,_,rfl⟩;have h1:=XK b 0 A;rw[hO]at hS h1⊢;(repeat(refine jt ⟨?_⟩;refine hS.q ?_;intro _ hS));refine jt ⟨?_⟩;refine hS.st h1 rfl ?_;intro w5 hS;(repeat(refine jt ⟨?_⟩;refine hS.q ?_;intro _ hS));refine jt ⟨?_⟩;exact⟨rfl,hS.sub (((AS _ _).trans (AS _ _)).trans (AS _ _))⟩
 ·rw[show((l+1:Nat):Int)-1=(l:Int) by omega];have hMc: ∀{H:AH},(∀p∈L,p∈H)→Fe b (A++B) H:=λh=>⟨by
   obtain⟨n,bytes,ha,hn,hc,turn,hm⟩:=hM.tab;exact⟨n,bytes,ha,hn,hc,turn,h _ hm⟩,λp hp=>h p (hM.nodes p hp)⟩
  have hMH:=hMc (H:=(b5,Obj.cells ⟨D8 b (l+1) A⟩ FJ (0,0))::(b4,.cells ⟨Dz λ_=> .pointer none⟩ FJ (0,0))::(b3,.cells ⟨[AG x.k,.int .i64 x.s,.bool x.d,AG x.v]⟩ Ap (0,0))::L) (λp hp=>by simp[hp]);refine jq ⟨?_⟩;refine AM.loop (λ(i:List Ar×Nat×Nat)=>[(0,ptr b),(3,ptr b3),(4,ptr b4),(5,ptr b5),(6,.pointer (some ⟨i.2.1,i.2.2,none⟩)),(7,.int .i64 (l:Int))])
   (λi w'=>(∃A2,A=i.1++A2)∧Ff b i.1 l i.2.1 i.2.2∧
    St w T0 ((b5,.cells ⟨D8 b (l+1) A⟩ FJ (0,0))::(b4,.cells ⟨Dz λ_=> .pointer none⟩ FJ (0,0))::(b3,.cells ⟨[AG x.k,.int .i64 x.s,.bool x.d,AG x.v]⟩ Ap (0,0))::L) w') (λi=>A.length-i.1.length) (A1,g,off)
   ⟨rfl,rfl,rfl,rfl,rfl,rfl,trivial⟩ ⟨⟨A2,hA2⟩,hp.down AA,hS⟩ ?_
  clear hS hA2 hno hp;rintro⟨A1,g,off⟩w5⟨⟨A2,hA2⟩,hp,hS⟩;simp only at hA2 hp hS⊢;have hAB:A++B=A1++(A2++B):=by rw[hA2,Aj]
  refine jq ⟨?_⟩;refine AM.draw AK mixed (λw'=>St w T0 ((b5,.cells ⟨D8 b (l+1) A⟩ FJ (0,0))::(b4,.cells ⟨Dz λ_=> .pointer none⟩ FJ (0,0))::(b3,.cells ⟨[AG x.k,.int .i64 x.s,.bool x.d,AG x.v]⟩ Ap (0,0))::L) w')
   [18,19,20] [0,1,2,3,4,5,6,7,8,9,10,11,12,13,14,15,16,17,18,19,20] AD hS.drew ?_
  have hS:=hS.drew;refine jr ⟨?_⟩;have hcell: ∀w',St w T0 ((b5,.cells ⟨D8 b (l+1) A⟩ FJ (0,0))::(b4,.cells ⟨Dz λ_=> .pointer none⟩ FJ (0,0))::(b3,.cells ⟨[AG x.k,.int .i64 x.s,.bool x.d,AG x.v]⟩ Ap (0,0))::L) w'→
    w'.cell? ⟨g,off+4+((l:Int)).toNat*1,none⟩=some (Bt l (A2++B)):=λw' hw=>by
   rw[show off+4+((l:Int)).toNat*1=off+(4+l) by omega];rw[hAB]at hMH;exact hMH.next hw AA hp
  refine RG hcell ?_;rcases W9 l A2 B with⟨C,z,D,h1,h2,h3,h4⟩|⟨h1,h2⟩
  ·rw[h4]at hcell⊢;have hz:A++B=(A1++C)++z::(D++B):=by rw[hAB,h1];simp
   refine jr ⟨?_⟩;refine RG hcell ?_;refine jr ⟨?_⟩;refine Jf (cs:=AU z.e) rfl (λw' hw j v hv=>by rw[hz]at hMH;rw[DR];exact hMH.ent hw j v hv) ?_;refine jr ⟨?_⟩;refine(RN z.e x w5.drew).mono ?_;rintro _ w6⟨rfl,hS'⟩;have hS:=hS.call0 hS';refine jr ⟨?_⟩;refine jq ⟨?_⟩;refine Ax.pos ((Me _ _).2 (hA z (by rw[hA2,h1];simp))) ?_;refine jq ⟨?_⟩;refine K9 (hcell _ hS) ?_;refine jq ⟨?_⟩;exact⟨(A1++C++[z],z.b,0),⟨rfl,rfl,rfl,rfl,rfl,rfl,trivial⟩,⟨⟨D,by rw[hA2,h1];simp⟩,⟨.inr ⟨A1++C,z,rfl,rfl,rfl,h3⟩⟩,hS⟩,by rw[hA2,h1];simp;omega⟩
  ·have h2':=h1;rw[h2]at hcell⊢;have hlast:lastP (F7 b) l A= .pointer (some ⟨g,off,none⟩):=by rw[hA2,Oc,Od _ _ h1,hp.lastP]
   rcases RZ l B with h3|⟨C,z,D,h3,h4⟩
   ·rw[h3]at hcell⊢;refine jr ⟨?_⟩;refine jq ⟨?_⟩;refine hS.stI (by rfl) (by have:(D8 b (l+1) A).length=8:=rfl;omega) ?_;intro w7 hS;have hS:=hS;rw[show 0+((l:Int)).toNat*1=l by omega,←hlast,XL b l A AA]at hS;refine jq ⟨?_⟩;exact⟨(l,A1,g,off),⟨rfl,rfl,rfl,rfl,rfl,rfl,trivial⟩,⟨AA,⟨A2,hA2,λy hy=> .inl (h2' y hy)⟩,hp,hS⟩,AB⟩
   ·rw[h4]at hcell⊢;have hz:A++B=(A++C)++z::D:=by rw[h3];simp
    refine jr ⟨?_⟩;refine RG hcell ?_;refine jr ⟨?_⟩;refine Jf (cs:=AU z.e) rfl (λw' hw j v hv=>by rw[hz]at hMH;rw[DR];exact hMH.ent hw j v hv) ?_;refine jr ⟨?_⟩;refine(RN z.e x w5.drew).mono ?_;rintro _ w6⟨rfl,hS'⟩;have hS:=hS.call0 hS';refine jr ⟨?_⟩;refine jq ⟨?_⟩;refine Ax.neg (λh=>by rw[Me,hB z (by rw[h3];simp)]at h;cases h) ?_;refine jq ⟨?_⟩;refine hS.stI (by rfl) (by have:(D8 b (l+1) A).length=8:=rfl;omega) ?_
    intro w7 hS;have hS:=hS;rw[show 0+((l:Int)).toNat*1=l by omega,←hlast,XL b l A AA]at hS;refine jq ⟨?_⟩;exact⟨(l,A1,g,off),⟨rfl,rfl,rfl,rfl,rfl,rfl,trivial⟩,⟨AA,⟨A2,hA2,λy hy=> .inl (h2' y hy)⟩,hp,hS⟩,AB⟩
end Go.Proofs.YtkgibdhpijdbfaaGreatDoor
namespace Go.Eng
open Go
structure Md where
 r:Option Nat
 ds:List Deferred
abbrev Md.F(m:Md):Fence:={Fence.wide with round:=m.r}
variable {P : Program} {T : BL}
def Hu(o:Oper):Bool:=match o.op with| .defer _=>false|_=>true
theorem Wq{o:Oper}(h:Hu o=true): ∀c,o.op≠ .defer c:=by intro c hc;simp[Hu,hc]at h
theorem wU{m:Md}{row:String}{args:Array Value}{w:World}{R:Value→World→Prop}(h:Rows P row args w R):RowsIn m.F 0 P row args w R:=
 λc cs _=>let⟨v,w',r,s⟩:=h c cs;⟨v,w',r,stepsIn_wide.2 s⟩
theorem cA{m:Md}{f:FuncId}{args:Array Value}{w:World}{R:Ending→World→Prop}(h:Calls P f args w R):CallsIn m.F 0 P f args w R:=
 (callsIn_wide (n:=0)).2 h
theorem Yx{m:Md}{o:Oper}{a:Act}{w:World}{next:Act→World→Prop}{Q:Exit→Act→World→Prop}(hd:Hu o=true)(h:o.wp P a w next Q):o.wpIn m.F 0 P a w next Q:=by
 refine⟨λ_ _=>trivial,?_⟩;rw[Oper.semAt_eq _ _ _ (Wq hd)];unfold Oper.wp Oper.upon at h;unfold Oper.uponIn;generalize(execOp a.eval o).run P w=r at h⊢;cases r with
 |ok n w'=>cases n with
  |value v=>exact h
  |skip=>exact h
  |defer d=>exact h
  |enter f args=>exact⟨nofun,cA h⟩
  |row row args=>exact⟨nofun,wU h⟩
  |_=>exact h.elim
 |halt s w'=>cases s<;>exact h
def liftM(ds:List Deferred)(N:Nat)(Q:Exit→AZ→World→Prop):Exit→Act→World→Prop
 |.panic _,_,_=>False
 |.outgrown,_,_=>False
 |x,a,w=>∃e,BO ds N e a∧Q x e w
def Ao(P:Program)(N:Nat)(m:Md)(c:Code)(Q:Exit→AZ→World→Prop)(e:AZ)(w:World):Prop:=∀a,BO m.ds N e a→c.wpIn m.F 0 P (liftM m.ds N Q) a w
theorem tC(N:Nat)(Q:Exit→AZ→World→Prop):KH N Q=liftM [] N Q:=by
 funext x a w;cases x<;>rfl
theorem Ao.toW{N:Nat}{c:Code}{Q:Exit→AZ→World→Prop}{e:AZ}{w:World}(h:Ao P N ⟨none,[]⟩ c Q e w):AM P N c Q e w:=
 λa hr=>by rw[tC];exact(wpIn_wide (n:=0)).1 (h a hr)
theorem Ao.mono{N:Nat}{m:Md}{c:Code}{Q Q':Exit→AZ→World→Prop}{e:AZ}{w:World}(h:Ao P N m c Q e w)(hq: ∀x e w,Q x e w→Q' x e w):Ao P N m c Q' e w:=
 λa hr=>wpIn_mono (h a hr) (λx a w hl=>by
  cases x<;>first|exact hl|(obtain⟨e,h1,h2⟩:=hl;exact⟨e,h1,hq _ _ _ h2⟩))
theorem Ao.seq{N:Nat}{m:Md}{x y:Code}{Q:Exit→AZ→World→Prop}{e:AZ}{w:World}(h:Ao P N m x (Gt (Ao P N m y Q) Q) e w):Ao P N m (.seq x y) Q e w:=by
 intro a hr;refine wpIn_seq (wpIn_mono (h a hr) (λx a w hl=>?_));cases x
 case normal=>obtain⟨e,h1,h2⟩:=hl;exact h2 a h1
 all_goals exact hl
theorem Ao.block{N:Nat}{m:Md}{id:Nat}{c:Code}{Q:Exit→AZ→World→Prop}{e:AZ}{w:World}(h:Ao P N m c (JR id Q) e w):Ao P N m (.block id c) Q e w:=by
 intro a hr;refine wpIn_block (wpIn_mono (h a hr) (λx a w hl=>?_));cases x
 case exit id'=>
  obtain⟨e,h1,h2⟩:=hl;simp only[JR]at h2;simp only[Exit.inBlock];cases hb:Nat.beq id' id with
  |true=>rw[hb]at h2;rw[if_pos (Nat.eq_of_beq_eq_true hb)];exact⟨e,h1,h2⟩
  |false=>
   rw[hb]at h2;rw[if_neg (by intro he;subst he;simp at hb)];exact⟨e,h1,h2⟩
 all_goals exact hl
theorem Ao.cond{N:Nat}{m:Md}{c:Operand}{x y:Code}{Q:Exit→AZ→World→Prop}{e:AZ}{w:World}
  (h:BP e c λv=>match v with| .bool t=>Ax t (Ao P N m x Q e w) (Ao P N m y Q e w)|_=>False):Ao P N m (.cond c x y) Q e w:=by
 intro a hr;have h:=Bj hr h;cases hc:a.eval c<;>simp only[hc]at h
 case bool t=>exact wpIn_cond_split hc (λht=>h.t' ht a hr) (λhf=>h.f' hf a hr)
structure Kk(P:Program)(l:Nat)(vs:List Value)(w:World)(K:Value→World→Prop):Prop where
 out: ∃f tmps assign body,(Instr.yield l ⟨vs⟩).run P w= .ok (.round l f tmps assign body) w∧RoundIn Fence.wide 0 P l f tmps assign body w λe w'=>∃v,e= .returned v∧K v w'
def PD(P:Program)(T:BL)(N:Nat)(e:AZ)(o:Oper)(w:World)(K:AZ→World→Prop):Prop:=
 match o.op with
 |.call ⟨.value f,args,_⟩=>BP e f λv=>(match v with
  |.func (.yield l) ⟨[]⟩ ⟨[]⟩=>Hi e args.toList λvs=>Kk P l vs w λv w'=>Ej N o.dst v e λe'=>K e' w'
  |_=>stepG P T N e o w K)
 |_=>stepG P T N e o w K
theorem yB(hT:BR P T){m:Md}{N:Nat}{e:AZ}{a:Act}(hr:BO m.ds N e a){o:Oper}(hd:Hu o=true){w:World}{K:AZ→World→Prop}(h:PD P T N e o w K)
  {next:Act→World→Prop}{Q:Exit→Act→World→Prop}(hn: ∀e' a' w',K e' w'→BO m.ds N e' a'→next a' w'):o.wpIn m.F 0 P a w next Q:=by
 have base:stepG P T N e o w K→o.wpIn m.F 0 P a w next Q:=λh=>Yx hd (YQ hT hr h hn)
 unfold PD at h;obtain⟨dst,op,ty,pos,after,guard⟩:=o
 split at h
 case h_1 f args at' heq=>
  simp only at heq;subst heq;have h:=Bj hr h
  split at h
  ·rename_i l hf;have h:=IF hr h;have e2:(⟨List.map a.eval args.toList⟩:Array Value)=args.map a.eval:=by rw[←Array.toList_map]
   obtain⟨f',tmps,assign,body,h1,h2⟩:=h.out;refine⟨λ_ _=>trivial,?_⟩;rw[Oper.semAt_eq _ _ _ (Wq hd)];have hx:(execOp a.eval ⟨dst,.call ⟨.value f,args,at'⟩,ty,pos,after,guard⟩).run P w= .ok (.round l f' tmps assign body) w:=by
    rw[e2]at h1;simp only[execOp,resolve,hf,Deferred.ofValue,Sem.run_bind,Sem.run_pure,Result.andThen_ok,invoke];simpa using h1
   rw[hx];refine⟨nofun,?_⟩;refine RoundIn.mono (F:=m.F) h2 ?_;rintro e' w'⟨v,rfl,hv⟩;obtain⟨e',h3,h4⟩:=Ek hv hr;exact hn _ _ _ h4 h3
  ·exact base h
 ·exact base h
def NU(P:Program)(T:BL)(N:Nat)(all:List Oper):List Oper→AZ→World→(AZ→World→Prop)→Prop
 |[],e,w,K=>K e w
 |o::r,e,w,K=>(match Hu o with
  |true=>J4 all o.guard e (λe=>PD P T N e o w λe' w'=>NU P T N all r e' w' K) (λe=>Ej N o.dst undef e λe'=>NU P T N all r e' w K)
  |false=>False)
theorem SV(hT:BR P T){m:Md}{N:Nat}{all:List Oper}{Q:Exit→Act→World→Prop}{K:AZ→World→Prop}
  (hK: ∀e' a' w',K e' w'→BO m.ds N e' a'→Q .normal a' w'): ∀(r:List Oper)(e:AZ)(a:Act)(w:World),BO m.ds N e a→NU P T N all r e w K→wpListIn m.F 0 P all.toArray Q r a w
 |[],e,a,w,hr,h=>hK _ _ _ h hr
 |o::r,e,a,w,hr,h=>by
  simp only[NU]at h;cases hd:Hu o with
  |false=>rw[hd]at h;exact h.elim
  |true=>
   rw[hd]at h;unfold wpListIn;rcases K0 hr h with⟨e',h1,h2,h3⟩|⟨e',h1,h2,h3⟩
   ·rw[if_pos h2];exact yB hT h1 hd h3 λe' a' w' hv hr'=>SV hT hK r _ _ _ hr' hv
   ·rw[if_neg (by rw[h2];simp)];obtain⟨e'',h4,h5⟩:=Ek h3 h1;exact⟨λ_ _=>trivial,SV hT hK r _ _ _ h4 h5⟩
structure Pn(P:Program)(N:Nat)(m:Md)(c:Code)(Q:Exit→AZ→World→Prop)(e:AZ)(w:World):Prop where
 out:Ao P N m c Q e w
def KW(P:Program)(T:BL)(N:Nat)(m:Md):Code→(Exit→AZ→World→Prop)→AZ→World→Prop
 |.skip,Q,e,w=>Q .normal e w
 |.ret,Q,e,w=>Q .ret e w
 |.exit id,Q,e,w=>Q (.exit id) e w
 |.region _ ops false,Q,e,w=>NU P T N ops.toList ops.toList e w λe' w'=>Q .normal e' w'
 |.seq a b,Q,e,w=>KW P T N m a (Gt (Ao P N m b Q) Q) e w
 |.cond c a b,Q,e,w=>BP e c λv=>match v with| .bool t=>Ax t (KW P T N m a Q e w) (KW P T N m b Q e w)|_=>False
 |.block id c,Q,e,w=>KW P T N m c (JR id Q) e w
 |c,Q,e,w=>Pn P N m c Q e w
theorem KX(hT:BR P T){N:Nat}{m:Md}: ∀(c:Code)(Q:Exit→AZ→World→Prop)(e:AZ)(w:World),KW P T N m c Q e w→Ao P N m c Q e w
 |.skip,Q,e,w,h=>λa hr=>wpIn_skip ⟨e,hr,h⟩
 |.ret,Q,e,w,h=>λa hr=>wpIn_ret ⟨e,hr,h⟩
 |.exit id,Q,e,w,h=>λa hr=>wpIn_exit ⟨e,hr,h⟩
 |.region id ops false,Q,e,w,h=>λa hr=>by
  obtain⟨ops⟩:=ops;exact wpIn_region_lit (SV (Q:=liftM m.ds N Q) hT (λe' a' w' hk hr'=>⟨e',hr',hk⟩) _ _ _ _ hr h)
 |.seq a b,Q,e,w,h=>Ao.seq (KX hT a _ e w h)
 |.cond c a b,Q,e,w,h=>Ao.cond (by
   simp only[KW]at h;cases c with
   |tmp n=>
    obtain⟨v,h1,h2⟩:=(IQ _ _ _).1 h;refine(IQ _ _ _).2 ⟨v,h1,?_⟩;cases v<;>first|exact h2|exact⟨λht=>KX hT a _ e w (h2.t' ht),λhf=>KX hT b _ e w (h2.f' hf)⟩
   |const v=>cases v<;>first|exact h|exact⟨λht=>KX hT a _ e w (h.t' ht),λhf=>KX hT b _ e w (h.f' hf)⟩
   |global g=>exact h
   |func f=>exact h)
 |.block id c,Q,e,w,h=>Ao.block (KX hT c _ e w h)
 |.region id ops true,Q,e,w,h=>h.out
 |.loop c,Q,e,w,h=>h.out
 |.rangeFunc ..,Q,e,w,h=>h.out
 |.scope c,Q,e,w,h=>h.out
 |.label l,Q,e,w,h=>h.out
 |.goto l,Q,e,w,h=>h.out
 |.refuse s,Q,e,w,h=>h.out
theorem Ao.run(hT:BR P T){N:Nat}{m:Md}{c:Code}{Q:Exit→AZ→World→Prop}{e:AZ}{w:World}(h:KW P T N m c Q e w):Ao P N m c Q e w:=KX hT c Q e w h
theorem Ao.loop{N:Nat}{m:Md}{c:Code}{Q:Exit→AZ→World→Prop}{e:AZ}{w:World}{ι:Type}(I:ι→AZ)(J:ι→World→Prop)(μ:ι→Nat)(i0:ι)
  (hs:JC (I i0) e)(hJ:J i0 w)
  (round: ∀i w,J i w→Ao P N m c (Gt (λe' w'=>∃i',JC (I i') e'∧J i' w'∧μ i'<μ i) Q) (I i) w):Pn P N m (.loop c) Q e w:=by
 refine⟨λa hr b k cs hro hb hroom=>?_⟩;have key: ∀n i a w,μ i=n→BO m.ds N (I i) a→J i w→
   ∃x a' w',liftM m.ds N Q x a' w'∧ArrivesIn (Machine.fenced P m.F) P (lone (b.atR a (.code c:: .inLoop c::k)) cs w) b k cs x a' w':=by
  intro n
  induction n using Nat.strongRecOn with
  |_ n ih=>
   intro i a w hn hr hJ;obtain⟨x,a₁,w₁,hq,harr⟩:=round i w hJ a hr b (.inLoop c::k) cs hro hb hroom;cases x with
   |normal=>
    obtain⟨e',hr',i',hs',hJ',hlt⟩:=hq;obtain⟨e₂,a₂,w₂,hq₂,harr₂⟩:=ih (μ i') (hn▸hlt) i' a₁ w₁ rfl (hr'.sub (Ld hs')) hJ';exact⟨e₂,a₂,w₂,hq₂,.of_steps (StepsIn.trans harr (.one (fenced_calm hb hroom rfl) stepR_inLoop)) harr₂⟩
   |exit id=>exact⟨.exit id,a₁,w₁,hq,.pass (x:= .inLoop c) rfl (λ_ _=> .inl AB) harr⟩
   |goto l=>exact⟨.goto l,a₁,w₁,hq,.pass (x:= .inLoop c) rfl (λ_ _=> .inl AB) harr⟩
   |ret=>exact⟨.ret,a₁,w₁,hq,.pass (x:= .inLoop c) rfl (λ_ _=> .inl AB) harr⟩
   |panic ch=>exact hq.elim
   |outgrown=>exact hq.elim
 obtain⟨x,a',w',hq,harr⟩:=key _ i0 a w rfl (hr.sub (Ld hs)) hJ;exact⟨x,a',w',hq,.of_steps (.one (fenced_calm hb hroom rfl) stepR_loop) harr⟩
theorem uP(ds:List Deferred)(N:Nat)(Q:Exit→AZ→World→Prop): ¬LetsOut (liftM ds N Q):=by
 rintro⟨a,w,h⟩;exact h
theorem zE{m:Md}{ops:Array Oper}{Q:Exit→Act→World→Prop}(hQ: ¬LetsOut Q)(hnd: ∀(i:Nat)(o:Oper),ops[i]?=some o→Hu o=true){i:Nat}{K K':Act→World→Prop}{a:Act}{w:World}
  (hK: ∀a w,K a w→K' a w)(h:wpOp P ops Q i K a w):wpOpIn m.F 0 P ops Q i K' a w:=by
 unfold wpOp at h;unfold wpOpIn;cases ho:ops[i]? with
 |none=>rw[ho]at h;exact hK _ _ h
 |some o=>
  rw[ho]at h;simp only at h⊢
  split
  ·rename_i hw;rw[if_pos hw]at h;rcases h with h|⟨_,h⟩
   ·exact Oper.wpIn_mono hK (Yx (hnd i o ho) h)
   ·exact absurd h hQ
  ·rename_i hw;rw[if_neg hw]at h;exact⟨λ_ _=>trivial,hK _ _ h⟩
theorem Yu{m:Md}{ops:Array Oper}{Q:Exit→Act→World→Prop}(hQ: ¬LetsOut Q)(hnd: ∀(i:Nat)(o:Oper),ops[i]?=some o→Hu o=true): ∀(fuel:Nat)(listed:Array Bool)(a:Act)(w:World),
  wpAny P .any ops Q fuel listed a w→wpAnyIn m.F 0 P .any ops Q fuel listed a w
 |0,_,_,_,h=>h
 |fuel+1,_,_,_,h=>⟨h.1,λi hi=>zE hQ hnd (λa w=>Yu hQ hnd fuel _ a w) (h.2 i hi)⟩
theorem bE{l:List Oper}(h:l.all Hu=true): ∀(i:Nat)(o:Oper),(Array.mk l)[i]?=some o→Hu o=true:=λi o ho=>
 Db.1 h o (List.mem_of_getElem? (by simpa using ho))
theorem Ao.draw(hT:BR P T){N:Nat}{m:Md}{id:Nat}{all:List Oper}{Q:Exit→AZ→World→Prop}{e:AZ}{w:World}(hm:P.follows .mixedOrders=true)
  (C:World→Prop)(fin ord:List Nat)(hok:(all.all Hu&&(Region.noSelect ⟨all⟩&&Nat.beq ord.length all.length&&Jk ⟨all⟩ (kind T) fin ord true (Array.replicate (Array.mk all).size false)))=true)
  (hC:C w.drew)(h:HA P T N all C fin ord e w.drew λe' w'=>Q .normal e' w'):Pn P N m (.region id ⟨all⟩ true) Q e w:=by
 simp only[Bool.and_eq_true]at hok;obtain⟨h0,⟨h1,h2⟩,h3⟩:=hok;refine⟨λa hr=>wpIn_region_any hm ?_⟩;have hl:=Nat.eq_of_beq_eq_true h2;have hcl:HY ⟨all⟩ (Array.replicate (Array.mk all).size false):=by
  intro j oj _ hl;simp only[Array.getD_eq_getD_getElem?,Array.getElem?_replicate]at hl
  split at hl<;>simp at hl
 have:=PP (Q:=liftM m.ds N Q) hT h1 (λ_ _ _ h=>h) (λe' a' w' hk hr'=>⟨e',hr',hk⟩) ord true _ e a w.drew hcl (λ_=>hC) hr h3 h;rw[hl]at this;exact Yu (uP _ _ _) (bE h0) _ _ _ _ (SX _ _ _ _ this)
/-! ## A function that holds a range over a function-/
abbrev HH(D:Nat):Deferred:={target:= .collected D,args:= #[]}
def WP(N:Nat)(Q:Exit→AZ→World→Prop):Exit→Act→World→Prop
 |.panic _,_,_=>False
 |.outgrown,_,_=>False
 |x,a,w=>(∃e,BO [] N e a∧Q x e w)∨ ∃e D,BO [HH D] N e a∧w.heap[D]?=some (.deferred (some []))∧Q x e (w.putObj D (.deferred none))
def EF(P:Program)(N:Nat)(c:Code)(Q:Exit→AZ→World→Prop)(e:AZ)(w:World):Prop:=∀a,BO [] N e a→c.wp P (WP N Q) a w
theorem EF.seq{N:Nat}{x y:Code}{Q:Exit→AZ→World→Prop}{e:AZ}{w:World}(h:AM P N x (Gt (EF P N y Q) Q) e w):EF P N (.seq x y) Q e w:=by
 intro a hr;refine wp_seq (Code.wp_mono (λx a w hl=>?_) (h a hr));cases x
 case normal=>obtain⟨e,h1,h2⟩:=hl;exact h2 a h1
 case panic=>exact hl.elim
 case outgrown=>exact hl.elim
 all_goals exact .inl hl
def Rx(l:Nat)(lo:LoopState→Option Code→Obj)(K:Value→World→Prop):Exit→AZ→World→Prop
 |.normal,_,w=>w.heap[l]?=some (lo .busy none)∧K (.bool true) (w.putObj l (lo .ready none))
 |.ret,_,w=>w.heap[l]?=some (lo .busy none)∧K (.bool false) (w.putObj l (lo .done (some .ret)))
 |_,_,_=>False
def I8(D:Nat)(Q:Exit→AZ→World→Prop)(x:Exit)(e:AZ)(w:World):Prop:=w.heap[D]?=some (.deferred (some []))∧Q x e (w.putObj D (.deferred none))
theorem XJ{N D:Nat}{Q:Exit→AZ→World→Prop}{x:Exit}{a:Act}{w:World}(h:liftM [HH D] N (I8 D Q) x a w):WP N Q x a w:=by
 cases x<;>first|exact h|(obtain⟨e,h1,h2,h3⟩:=h;exact .inr ⟨e,D,h1,h2,h3⟩)
theorem Xa{N:Nat}{g:Operand}{p:Tmp}{assign body:Code}{A B:World→Prop}{X:Exit→Act→World→Prop}{e:AZ}{w:World}{gf:FuncId}{cap:List Value}
  (hcall: ∀(args:Array Value)(w:World),(callFunc gf args).run P w= .ok (.enter gf args) w)(hg:BP e g λv=>v= .func (.func gf) #[] ⟨cap⟩)(hp:Nat.ble (p+1) N=true)
  (h: ∀(lo:LoopState→Option Code→Obj),
   (∀(v:Value)(w1:World)(K:Value→World→Prop),w1.heap[w.heap.size+1]?=some (lo .ready none)→
    Ao P N ⟨some (w.heap.size+1),[]⟩ assign (Gt (λe1 w2=>w2.heap[w.heap.size+1]?=some (lo .ready none)∧Ao P N ⟨some (w.heap.size+1),[]⟩ body (Rx (w.heap.size+1) lo K) e1 (w2.putObj (w.heap.size+1) (lo .busy none))) (λ_ _ _=>False)) ((p,v)::e) w1→
    Kk P (w.heap.size+1) [v] w1 K)→
   Cl P gf (.func (.yield (w.heap.size+1)) #[] #[]::cap) ((w.alloc (.deferred (some []))).alloc (lo .ready none)) λ_ w3=>
    ∃st pe,w3.heap[w.heap.size+1]?=some (lo st pe)∧st≠ .busy∧(match pe with
     |none=>A (w3.putObj (w.heap.size+1) (lo .exhausted none))
     |some .ret=>B (w3.putObj (w.heap.size+1) (lo .exhausted (some .ret)))
     |some _=>False))
  (hA: ∀a' w',BO [HH w.heap.size] N e a'→A w'→X .normal a' w')(hB: ∀a' w',BO [HH w.heap.size] N e a'→B w'→X .ret a' w'){a:Act}(hr:BO [] N e a):
  (Code.rangeFunc g #[p] assign body).wpIn Fence.wide 0 P X a w:=by
 refine wpIn_rangeFunc (λfn _=>?_);have hg:=Bj hr hg;obtain⟨rec,hrec⟩: ∃rec:LoopState→Option Code→Loop,rec= λst pe=>{state:=st,pending:=pe,fn,tmps:=a.tmps,params:= #[p],assign,body,defers:=w.heap.size}:=⟨_,rfl⟩;have hcl:=h (λst pe=> .loop (rec st pe)) (by
  intro v w1 K hl hs;have hy:=run_yield (P:=P) (args:= #[v]) hl (by rw[hrec];rfl);rw[hrec]at hy;refine⟨fn,_,assign,body,hy,roundIn_of_wpIn trivial ?_⟩;have hr':BO [] N ((p,v)::e) {tmps:=((#[p]:Array Tmp).zip #[v]).foldl (λtmps(t,a)=>tmps.setIfInBounds t a) a.tmps,defers:=[]}:=by
   have:=BO.put (a:={a with defers:=[]}) ⟨hr.size,rfl,hr.get⟩ (KE hp) v;simpa[Act.put]using this
  refine wpIn_mono (hs _ hr') ?_;intro x a1 w2 hl2;cases x
  case normal=>
   obtain⟨e1,hr1,hl3,hb⟩:=hl2;refine⟨_,run_beginRound hl3 (by rw[hrec]),?_⟩;have hbusy:({rec .ready none with state:= .busy}:Loop)=rec .busy none:=by rw[hrec]
   rw[hbusy];refine wpIn_mono (hb a1 hr1) ?_;intro x2 a2 w4 hl4;cases x2
   case normal=>
    obtain⟨_,_,h5,h6⟩:=hl4;refine⟨_,_,run_endRound none h5,_,rfl,?_⟩;have:({rec .busy none with state:=if(none:Option Code).isNone then .ready else .done,pending:=none}:Loop)=rec .ready none:=by rw[hrec];rfl
    rw[this];exact h6
   case ret=>
    obtain⟨_,_,h5,h6⟩:=hl4;refine⟨_,_,run_endRound (some .ret) h5,_,rfl,?_⟩;have:({rec .busy none with state:=if(some Code.ret).isNone then .ready else .done,pending:=some .ret}:Loop)=rec .done (some .ret):=by rw[hrec];rfl
    rw[this];exact h6
   case panic=>exact hl4.elim
   case outgrown=>exact hl4.elim
   case exit=>obtain⟨_,_,h⟩:=hl4;exact h.elim
   case goto=>obtain⟨_,_,h⟩:=hl4;exact h.elim
  all_goals first|exact hl2.elim|(obtain⟨_,_,h⟩:=hl2;exact h.elim))
 obtain⟨W1,hW1⟩: ∃W1,(w.alloc (.deferred (some []))).alloc (.loop (rec .ready none))=W1:=⟨_,rfl⟩;rw[hW1]at hcl;rcases hcl with⟨hc1,hc2⟩|⟨v,w',hc1,hc2⟩
 ·refine⟨w.heap.size+1,[HH w.heap.size],W1,{target:= .fn (.func gf) ⟨cap⟩,args:= #[.func (.yield (w.heap.size+1)) #[] #[]]},W1,gf,⟨.func (.yield (w.heap.size+1)) #[] #[]::cap⟩,W1,?_,?_,λ_ _=>trivial,?_,nofun,?_⟩
  ·rw[←hW1,hrec];exact run_enterLoop_outer _ _ _ _ _
  ·simp only[resolve,hg];simp[go_sem]
  ·have e2:(#[Value.func (.yield (w.heap.size+1)) #[] #[]]:Array Value)++(⟨cap⟩:Array Value)=⟨.func (.yield (w.heap.size+1)) #[] #[]::cap⟩:=by apply Array.ext';simp
   simp only[invoke,e2];exact hc1
  ·refine(callsIn_wide (n:=0)).2 (Calls.mono hc2 ?_);rintro e' w3⟨v,rfl,st,pe,hl,hst,hm⟩;subst hrec;refine⟨_,_,run_endLoop hl hst,?_⟩;have hr2:BO [HH w.heap.size] N e {a with defers:=[HH w.heap.size]++a.defers}:=⟨hr.size,by simp[hr.dz],hr.get⟩;cases pe with
   |none=>
    exact hA _ _ hr2 hm
   |some c=>
    cases c
    case ret=>exact wpIn_ret (hB _ _ hr2 hm)
    all_goals exact hm.elim
 ·rw[hcall]at hc1;cases hc1
theorem EF.range{N:Nat}{g:Operand}{p:Tmp}{assign body y:Code}{Q:Exit→AZ→World→Prop}{e:AZ}{w:World}{gf:FuncId}{cap:List Value}
  (hcall: ∀(args:Array Value)(w:World),(callFunc gf args).run P w= .ok (.enter gf args) w)(hg:BP e g λv=>v= .func (.func gf) #[] ⟨cap⟩)(hp:Nat.ble (p+1) N=true)
  (h: ∀(lo:LoopState→Option Code→Obj),
   (∀(v:Value)(w1:World)(K:Value→World→Prop),w1.heap[w.heap.size+1]?=some (lo .ready none)→
    Ao P N ⟨some (w.heap.size+1),[]⟩ assign (Gt (λe1 w2=>w2.heap[w.heap.size+1]?=some (lo .ready none)∧Ao P N ⟨some (w.heap.size+1),[]⟩ body (Rx (w.heap.size+1) lo K) e1 (w2.putObj (w.heap.size+1) (lo .busy none))) (λ_ _ _=>False)) ((p,v)::e) w1→
    Kk P (w.heap.size+1) [v] w1 K)→
   Cl P gf (.func (.yield (w.heap.size+1)) #[] #[]::cap) ((w.alloc (.deferred (some []))).alloc (lo .ready none)) λ_ w3=>
    ∃st pe,w3.heap[w.heap.size+1]?=some (lo st pe)∧st≠ .busy∧(match pe with
     |none=>Ao P N ⟨none,[HH w.heap.size]⟩ y (I8 w.heap.size Q) e (w3.putObj (w.heap.size+1) (lo .exhausted none))
     |some .ret=>I8 w.heap.size Q .ret e (w3.putObj (w.heap.size+1) (lo .exhausted (some .ret)))
     |some _=>False)):EF P N (.seq (.rangeFunc g #[p] assign body) y) Q e w:=by
 intro a hr;refine(wpIn_wide (n:=0)).1 (wpIn_seq (Xa (A:=λw'=>Ao P N ⟨none,[HH w.heap.size]⟩ y (I8 w.heap.size Q) e w') (B:=λw'=>I8 w.heap.size Q .ret e w') hcall hg hp h (λa' w' hr2 hm=>?_) (λa' w' hr2 hm=>?_) hr))
 ·exact wpIn_mono (hm _ hr2) (λx a w hl=>XJ hl)
 ·exact .inr ⟨e,_,hr2,hm⟩
def Zz(P:Program)(N:Nat)(g:Operand)(p:Tmp)(assign body y:Code)(Q:Exit→AZ→World→Prop)(e:AZ)(w:World):Prop:=
 ∃gf cap,(∀(args:Array Value)(w:World),(callFunc gf args).run P w= .ok (.enter gf args) w)∧(BP e g λv=>v= .func (.func gf) #[] ⟨cap⟩)∧
  ∀(lo:LoopState→Option Code→Obj),
   (∀(v:Value)(w1:World)(K:Value→World→Prop),w1.heap[w.heap.size+1]?=some (lo .ready none)→
    Ao P N ⟨some (w.heap.size+1),[]⟩ assign (Gt (λe1 w2=>w2.heap[w.heap.size+1]?=some (lo .ready none)∧Ao P N ⟨some (w.heap.size+1),[]⟩ body (Rx (w.heap.size+1) lo K) e1 (w2.putObj (w.heap.size+1) (lo .busy none))) (λ_ _ _=>False)) ((p,v)::e) w1→
    Kk P (w.heap.size+1) [v] w1 K)→
   Cl P gf (.func (.yield (w.heap.size+1)) #[] #[]::cap) ((w.alloc (.deferred (some []))).alloc (lo .ready none)) λ_ w3=>
    ∃st pe,w3.heap[w.heap.size+1]?=some (lo st pe)∧st≠ .busy∧(match pe with
     |none=>Ao P N ⟨none,[HH w.heap.size]⟩ y (I8 w.heap.size Q) e (w3.putObj (w.heap.size+1) (lo .exhausted none))
     |some .ret=>I8 w.heap.size Q .ret e (w3.putObj (w.heap.size+1) (lo .exhausted (some .ret)))
     |some _=>False)
theorem EF.rangeB{N id:Nat}{g:Operand}{p:Tmp}{r assign body y:Code}{Q:Exit→AZ→World→Prop}{e:AZ}{w:World}(hp:Nat.ble (p+1) N=true)
  (h:AM P N r (Gt (Zz P N g p assign body y Q) λ_ _ _=>False) e w):EF P N (.seq (.seq r (.block id (.rangeFunc g #[p] assign body))) y) Q e w:=by
 intro a hr;refine wp_seq (wp_seq (Code.wp_mono (λx a w hl=>?_) (h a hr)));cases x
 case normal=>
  obtain⟨e,hr,gf,cap,hcall,hg,h⟩:=hl;refine(wpIn_wide (n:=0)).1 (wpIn_block (Xa (A:=λw'=>Ao P N ⟨none,[HH w.heap.size]⟩ y (I8 w.heap.size Q) e w') (B:=λw'=>I8 w.heap.size Q .ret e w') hcall hg hp h (λa' w' hr2 hm=>?_) (λa' w' hr2 hm=>?_) hr))
  ·exact(wpIn_wide (n:=0)).1 (wpIn_mono (hm _ hr2) (λx a w hl=>XJ hl))
  ·exact .inr ⟨e,_,hr2,hm⟩
 case panic=>exact hl.elim
 case outgrown=>exact hl.elim
 all_goals (obtain⟨_,_,h⟩:=hl;exact h.elim)
theorem Cl.enterX{P:Program}{T:BL}(hT:BR P T){f:FuncId}{fn:Func}{c:Code}{N:Nat}{args:List Value}{w:World}{R:Value→World→Prop}
  (hcall: ∀(args:Array Value)(w:World),(callFunc f args).run P w= .ok (.enter f args) w)(hf:P.funcs[f]?=some fn)(hN:fn.ntmps=N)(hb:fn.body=some c){rs:List ResultVar}(hrs:fn.results=⟨rs⟩)
  (hlen:Nat.ble args.length N=true)(h:EF P N c (LX T rs R) (HG 0 args) w):Cl P f args w R:=by
 refine .inl ⟨hcall _ _,(callsIn_wide (n:=0)).1 (callsIn_of_wp_marks hf hb trivial ?_)⟩;have hle:=KE hlen;have hr:BO [] N (HG 0 args) ⟨⟨args⟩++Array.replicate (fn.ntmps-(Array.mk args).size) undef,[]⟩:=by
  refine⟨by simp[hN];omega,rfl,λn v hv=>?_⟩;obtain⟨_,h2⟩:=Pz args 0 n v hv;simp only[Nat.sub_zero]at h2;have hlt:n<args.length:=(Fm.1 h2).1;rw[Array.getElem?_append_left (by simpa using hlt)];simpa using h2
 refine(wpIn_wide (n:=0)).2 (Code.wp_mono (λx a w hl=>?_) (h _ hr));have fin: ∀e w ds,BO ds N e a→(IV T e w rs λvs=>Jm vs λv=>R v w)→ ∃v,(results fn a.tmps).run P w= .ok v w∧ ∃v',Ending.returned v= .returned v'∧R v' w:=by
  intro e w ds hr h;obtain⟨vs,h1,h2⟩:=NG hT hr h;have hm:(results fn a.tmps).run P w= .ok (if h:vs.length=1 then vs[0]else .tuple ⟨vs⟩) w:=by
   unfold results;rw[hrs];simp only[Sem.run_bind];rw[Array.mapM_eq_mapM_toList];simp only[Sem.run_map];generalize hM:Sem.run P (List.mapM _ rs) w=r;have h1':r= .ok vs w:=hM.symm.trans h1;subst h1';simp
  refine⟨_,hm,_,rfl,?_⟩;unfold Jm at h2
  split at h2
  ·simpa using h2
  ·rename_i hne;rw[dif_neg (by intro hl;obtain⟨v,rfl⟩:=K5.1 hl;exact hne v rfl)];exact h2
 have out:((∃e,BO [] N e a∧(IV T e w rs λvs=>Jm vs λv=>R v w))∨ ∃e D,BO [HH D] N e a∧w.heap[D]?=some (.deferred (some []))∧(IV T e (w.putObj D (.deferred none)) rs λvs=>Jm vs λv=>R v (w.putObj D (.deferred none))))→
   LeavesInM Fence.wide 0 P fn a.tmps (λe w'=>∃v,e= .returned v∧R v w') a.defers .returning w:=by
  rintro(⟨e,h1,h2⟩|⟨e,D,h1,h2,h3⟩)
  ·rw[h1.dz];exact fin e w _ h1 h2
  ·rw[h1.dz];exact⟨nofun,.inl ⟨D,_,rfl,run_takeDeferred h2,fin e _ _ h1 h3⟩⟩
 cases x with
 |normal=>exact out hl
 |ret=>exact out hl
 |exit id=>
  rcases hl with⟨e,_,h⟩|⟨e,D,_,_,h⟩<;>exact h.elim
 |goto l=>
  rcases hl with⟨e,_,h⟩|⟨e,D,_,_,h⟩<;>exact h.elim
 |panic c=>exact hl.elim
 |outgrown=>exact hl.elim
theorem St.rng{w0 w:World}{T:List Nat}{H:AH}(hS:St w0 T H w)(x y:Obj):St w0 T ((w.heap.size+1,y)::(w.heap.size,x)::H) ((w.alloc x).alloc y):=by
 have:=(hS.alloc x).alloc y;rwa[show(w.alloc x).heap.size=w.heap.size+1 by simp]at this
theorem St.put{w0 w:World}{T:List Nat}{H:AH}{b:Nat}{o:Obj}{F:Obj→AH}(hS:St w0 T H w) [hs:Slot H b o F](o':Obj):St w0 T (F o') (w.putObj b o'):=
 hS.setBlock (o':=o') rfl rfl rfl AB (λk hk=>World.putObj_heap_other hk) (World.putObj_heap_same (Array.getElem?_eq_some_iff.1 hS.mem).1)
end Go.Eng
