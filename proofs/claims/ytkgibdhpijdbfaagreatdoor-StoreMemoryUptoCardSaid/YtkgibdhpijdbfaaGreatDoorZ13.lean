/- Texts of this claim, one behind the other. -/
import Derived.Test.YtkgibdhpijdbfaaGreatDoorZ5
import Derived.Test.YtkgibdhpijdbfaaGreatDoorZ11
import Derived.Test.YtkgibdhpijdbfaaGreatDoorZ6
import Derived.Test.YtkgibdhpijdbfaaGreatDoorZ9
set_option linter.unusedVariables false
set_option linter.unusedSimpArgs false
set_option maxHeartbeats 16000000
namespace Go.Proofs.YtkgibdhpijdbfaaGreatDoor
open Go Go.Eng Go.Proofs
theorem Bt.at{β:Type}{sz:Nat}{R:CT β}{W:World}{a:Option Addr}{n cap:Nat}{xs:List β}(h:Bt sz R W [.slice a n cap] xs){j:Nat}(hj:j<xs.length):
  ∃b off cs,a=some ⟨b,off,none⟩∧cs.length=sz∧(∀i v,cs[i]?=some v→W.cell? ⟨b,off+(j*sz+i),none⟩=some v)∧R W cs xs[j]:=by
 obtain⟨a',cap',h1, -, -,h4⟩:=h.ex;have:a=a':=by simpa using(List.cons.inj h1).1|> λh=>(Value.slice.inj h).1
 subst this;exact h4 j hj
theorem Bt.keep{β:Type}{sz:Nat}{R:CT β}{w0 w:World}{H:AH}(hS:St w0 [] H w)(hR: ∀cs x,R w0 cs x→R w cs x){cs:List Value}{xs:List β}(h:Bt sz R w0 cs xs):Bt sz R w cs xs:=by
 obtain⟨a,cap,h1,h2,h3,h4⟩:=h.ex;refine⟨a,cap,h1,h2,h3,λj hj=>?_⟩;obtain⟨b,off,cs',h5,h6,h7,h8⟩:=h4 j hj;exact⟨b,off,cs',h5,h6,λi v hv=>hS.oldCell AB (h7 i v hv),hR _ _ h8⟩
theorem Bt.ldn{β:Type}{sz:Nat}{R:CT β}{w0 w:World}{H:AH}(hS:St w0 [] H w){a:Option Addr}{n cap:Nat}{xs:List β}(h:Bt sz R w0 [.slice a n cap] xs){j:Nat}(hj:j<xs.length):
  ∃b off cs,a=some ⟨b,off,none⟩∧R w0 cs xs[j]∧ ∀K:List Value→Prop,K cs→GN (λw'=>w=w') sz b (off+j*sz) K:=by
 obtain⟨b,off,cs,h1,h2,h3,h4⟩:=h.at hj;refine⟨b,off,cs,h1,h4,λK hK=>⟨⟨cs,h2,λ_ e i v hv=>?_,hK⟩⟩⟩;subst e;have:=hS.oldCell AB (h3 i v hv);rw[←Gq]at this;exact this
theorem Bt.ldnC{β:Type}{sz:Nat}{R:CT β}{w0:World}{a:Option Addr}{n cap:Nat}{xs:List β}(h:Bt sz R w0 [.slice a n cap] xs){j:Nat}(hj:j<xs.length):
  ∃b off cs,a=some ⟨b,off,none⟩∧R w0 cs xs[j]∧ ∀K:List Value→Prop,K cs→GN (λw'=>St w0 [] [] w') sz b (off+j*sz) K:=by
 obtain⟨b,off,cs,h1,h2,h3,h4⟩:=h.at hj;refine⟨b,off,cs,h1,h4,λK hK=>⟨⟨cs,h2,λ_ e i v hv=>?_,hK⟩⟩⟩;have:=e.oldCell AB (h3 i v hv);rw[←Gq]at this;exact this
theorem Bt.mem{β:Type}{sz:Nat}{R:CT β}{W:World}{v:Value}{xs:List β}(h:Bt sz R W [v] xs){x:β}(hx:x∈xs): ∃cs,R W cs x:=by
 obtain⟨a,cap, -, -, -,h4⟩:=h.ex;obtain⟨i,hi,rfl⟩:=Hr.1 hx;obtain⟨b,off,cs, -, -, -,h8⟩:=h4 i hi;exact⟨cs,h8⟩
theorem Bm.map{P:Program}{t:TypeId}{β γ:Type}{R:CT β}{S:CT γ}{bk:β→Nat}{bk':γ→Nat}(h:Bm P t R bk)(f:β→γ)(hf: ∀W cs x,R W cs x→S W cs (f x))(hb: ∀x,bk' (f x)≤bk x):Bm P t S bk':=by
 refine⟨λ{H enc W fuel cs x}hx=>?_⟩;obtain⟨b,h1,h2⟩:=h.out hx;exact⟨f b,hf _ _ _ h1,Au (hb b) h2⟩
def Kv(n:Int):Prop:= -9223372036854775808≤n∧n≤9223372036854775807
theorem zF{n:Int}(h:(Lit.int .i64 n).wf=true):Kv n:=by
 unfold Kv;simpa[Lit.wf,IntKind.min,IntKind.max,IntKind.signed,IntKind.bits]using h
theorem PD{cs:List Value}{x:Value}(h:cs.take 1=[x]):cs=x::cs.drop 1:=by
 conv=>lhs;rw[←CO 1 cs,h]
 rfl
theorem M7{k:IntKind}{β:Type}{S:CT β}{W:World}{cs:List Value}{x:Int×β}(h:Ij 1 (HD k) S W cs x):cs= .int k x.1::cs.drop 1∧(Lit.int k x.1).wf=true∧S W (cs.drop 1) x.2:=
 ⟨PD h.1.1,h.1.2,h.2⟩
theorem vU{β:Type}{S:CT β}{W:World}{cs:List Value}{x:Bool×β}(h:Ij 1 TC S W cs x):cs= .bool x.1::cs.drop 1∧S W (cs.drop 1) x.2:=
 ⟨PD h.1,h.2⟩
theorem Oq{β:Type}{S:CT β}{W:World}{cs:List Value}{x:AE×β}(h:Ij 1 TE S W cs x):cs=AG x.1::cs.drop 1∧S W (cs.drop 1) x.2:=
 ⟨PD h.1.1,h.2⟩
theorem Oo{α β:Type}{sz:Nat}{R:CT α}{S:CT β}{W:World}{cs:List Value}{x:List α×β}(h:Ij 1 (Bt sz R) S W cs x): ∃v,cs=v::cs.drop 1∧Bt sz R W [v] x.1∧S W (cs.drop 1) x.2:=by
 obtain⟨a,cap,h1, -⟩:=h.1.ex;refine⟨_,PD h1,?_,h.2⟩;rw[←h1];exact h.1
theorem Bt.own{β:Type}{sz:Nat}{R:CT β}{w0 w:World}{T:List Nat}{H:AH}{g:Nat}{t:TypeId}{fz:Nat×Nat}{css:List (List Value)}{tail:List Value}{F:Obj→AH}(hS:St w0 T H w) [Slot H g (.cells ⟨css.flatten++tail⟩ t fz) F]{xs:List β}{cap:Nat}
  (hl:css.length=xs.length)(hc: ∀c∈css,c.length=sz)(hR: ∀j(h1:j<css.length)(h2:j<xs.length),R w css[j] xs[j])(hcap:xs.length≤cap)(_hm:True):Bt sz R w [.slice (some ⟨g,0,none⟩) xs.length cap] xs:=by
 refine⟨some ⟨g,0,none⟩,cap,rfl,hcap,trivial,λj hj=>?_⟩;have hj':j<css.length:=AA;refine⟨g,0,css[j],rfl,hc _ (Ca hj'),λi v hv=>?_,hR j hj' hj⟩;refine hS.cell ?_;have hfl: ∀(l:List (List Value))(j i:Nat)(v:Value)(hj:j<l.length),(∀c∈l,c.length=sz)→l[j][i]?=some v→(l.flatten++tail)[j*sz+i]?=some v:=by
  intro l
  induction l with
  |nil=>intro j i v hj;simp at hj
  |cons c l ih=>
   intro j i v hj hc hv;have hcl:=hc c AB;cases j with
   |zero=>
    simp only[JU]at hv;rw[Nat.zero_mul,Cs,Dc,Aj,Cn (FR.1 hv).1];exact hv
   |succ j=>
    simp only[List.getElem_cons_succ]at hv;rw[Dc,Aj,Nat.succ_mul,Dp AA,show j*sz+sz+i-c.length=j*sz+i by omega];exact ih j i v (by simpa using hj) (λc h=>hc c (by simp[h])) hv
 rw[Cs];exact hfl css j i v hj' hc hv
end Go.Proofs.YtkgibdhpijdbfaaGreatDoor
namespace Go.Proofs.YtkgibdhpijdbfaaGreatDoor
open Go Go.Eng Go.Proofs
structure Av where
 b:Nat
 e:AF
 h:Nat
def Bv(l:Nat):List Av→Value
 |[]=> .pointer none
 |x::r=>if l<x.h then ptr x.b else Bv l r
def F5(h:Nat)(r:List Av)(l:Nat):Value:=if l<h then Bv l r else .pointer none
def D2(f:Nat→Value):List Value:=[f 0,f 1,f 2,f 3,f 4,f 5,f 6,f 7]
theorem Im(f:Nat→Value)(l:Nat)(h:l<8):(D2 f)[l]?=some (f l):=by
 match l,h with
 |0,_=>rfl|1,_=>rfl|2,_=>rfl|3,_=>rfl|4,_=>rfl|5,_=>rfl|6,_=>rfl|7,_=>rfl
def DK(x:Av)(r:List Av):List Value:=AU x.e++D2 (F5 x.h r)
def EF:List Av→AH
 |[]=>[]
 |x::r=>(x.b,.cells ⟨DK x r⟩ HF (0,0))::EF r
def memC(n bytes:Int)(ns:List Av)(ha:Option Addr)(hn hc:Nat)(turn:Int):List Value:=
 [.int .i64 n,.int .i64 bytes,AG [],.int .i64 0,.bool false,AG []]++D2 (λl=>Bv l ns)++[.slice ha hn hc,.int .i64 turn]
theorem RU: ∀(A:List Av)(x:Av)(B:List Av),(x.b,.cells ⟨DK x B⟩ HF (0,0))∈EF (A++x::B)
 |[],_,_=>CN
 |_::A,x,B=>CJ _ (RU A x B)
structure Fh(b:Nat)(A:List Av)(l:Nat)(g off:Nat):Prop where
 out:(A=[]∧g=b∧off=2)∨ ∃A0 x,A=A0++[x]∧g=x.b∧off=0∧l<x.h
theorem Fh.head(b l:Nat):Fh b [] l b 2:=⟨.inl ⟨rfl,rfl,rfl⟩⟩
theorem Fh.down{b:Nat}{A:List Av}{l k g off:Nat}(h:Fh b A l g off)(hk:k≤l):Fh b A k g off:=by
 rcases h.out with h|⟨A0,x,h1,h2,h3,h4⟩
 ·exact⟨.inl h⟩
 ·exact⟨.inr ⟨A0,x,h1,h2,h3,AA⟩⟩
def lastP(p:Value)(l:Nat):List Av→Value
 |[]=>p
 |x::r=>lastP (if l<x.h then ptr x.b else p) l r
theorem Oa(p:Value)(l:Nat): ∀(A B:List Av),lastP p l (A++B)=lastP (lastP p l A) l B
 |[],_=>rfl
 |x::A,B=>Oa _ l A B
theorem Ob(p:Value)(l:Nat): ∀{A:List Av},(∀x∈A,¬l<x.h)→lastP p l A=p
 |[],_=>rfl
 |x::A,h=>by
  unfold lastP;rw[if_neg (h x CN),Ob p l λy hy=>h y (CJ _ hy)]
def F8(b:Nat):Value:= .pointer (some ⟨b,2,none⟩)
theorem Fh.lastP{b:Nat}{A:List Av}{l g off:Nat}(h:Fh b A l g off):lastP (F8 b) l A= .pointer (some ⟨g,off,none⟩):=by
 rcases h.out with⟨rfl,rfl,rfl⟩|⟨A0,x,rfl,rfl,rfl,h4⟩
 ·rfl
 ·rw[Oa];show(if l<x.h then ptr x.b else _)=_;rw[if_pos h4]
theorem W7(l:Nat): ∀(A B:List Av),(∃C z D,A=C++z::D∧(∀x∈C,¬l<x.h)∧l<z.h∧Bv l (A++B)=ptr z.b)∨((∀x∈A,¬l<x.h)∧Bv l (A++B)=Bv l B)
 |[],B=> .inr ⟨AB,rfl⟩
 |x::A,B=>by
  by_cases hx:l<x.h
  ·left;exact⟨[],x,A,rfl,AB,hx,by show(if l<x.h then _ else _)=_;rw[if_pos hx]⟩
  ·have e:Bv l (x::A++B)=Bv l (A++B):=by show(if l<x.h then _ else Bv l (A++B))=_;rw[if_neg hx]
   rcases W7 l A B with⟨C,z,D,h1,h2,h3,h4⟩|⟨h1,h2⟩
   ·left;refine⟨x::C,z,D,by rw[h1];rfl,λy hy=>?_,h3,by rw[e,h4]⟩;rcases As.1 hy with rfl|hy
    ·exact hx
    ·exact h2 y hy
   ·right;refine⟨λy hy=>?_,by rw[e,h2]⟩;rcases As.1 hy with rfl|hy
    ·exact hx
    ·exact h1 y hy
theorem Ra(l:Nat): ∀(B:List Av),Bv l B= .pointer none∨ ∃C z D,B=C++z::D∧Bv l B=ptr z.b
 |[]=> .inl rfl
 |x::B=>by
  by_cases hx:l<x.h
  ·exact .inr ⟨[],x,B,rfl,by show(if l<x.h then _ else _)=_;rw[if_pos hx]⟩
  ·have e:Bv l (x::B)=Bv l B:=by show(if l<x.h then _ else _)=_;rw[if_neg hx]
   rcases Ra l B with h|⟨C,z,D,h1,h2⟩
   ·exact .inl (e.trans h)
   ·exact .inr ⟨x::C,z,D,by rw[h1];rfl,e.trans h2⟩
section
variable {w0 w : World} {T : List Nat} {H : AH}
theorem RN(hS:St w0 T H w){b:Nat}{l:List Value}{t:TypeId}{fz:Nat×Nat}(hm:(b,Obj.cells ⟨l⟩ t fz)∈H){off:Nat}{v:Value}(hv:l[off]?=some v):w.cell? ⟨b,off,none⟩=some v:=by
 have h:=hS.own _ hm;simp only at h;simp only[World.cell?,h];simpa using hv
structure Fg(b:Nat)(ns:List Av)(H:AH):Prop where
 tab: ∃n bytes ha hn hc turn,(b,Obj.cells ⟨memC n bytes ns ha hn hc turn⟩ ET (0,0))∈H
 nodes: ∀p∈EF ns,p∈H
theorem Fg.next{b:Nat}{A R:List Av}(hM:Fg b (A++R) H)(hS:St w0 T H w){l g off:Nat}(hl:l<8)(hp:Fh b A l g off):w.cell? ⟨g,off+(4+l),none⟩=some (Bv l R):=by
 rcases hp.out with⟨rfl,rfl,rfl⟩|⟨A0,x,rfl,rfl,rfl,h4⟩
 ·obtain⟨n,bytes,ha,hn,hc,turn,hm⟩:=hM.tab;refine RN hS hm ?_;unfold memC;rw[Aj,Dp (by simp;omega),Cn (by simp[D2];omega)];rw[show 2+(4+l)-_=l by simp;omega];exact Im _ l hl
 ·have hm:=hM.nodes _ (by rw[Aj];exact RU A0 x R);refine RN hS hm ?_;unfold DK;rw[Dp (by simp[AU])];rw[show 0+(4+l)-(AU x.e).length=l by simp[AU],Im _ l hl];unfold F5;rw[if_pos h4]
theorem Fg.ent{b:Nat}{A R:List Av}{z:Av}(hM:Fg b (A++z::R) H)(hS:St w0 T H w): ∀(j:Nat)(v:Value),(AU z.e)[j]?=some v→w.cell? ⟨z.b,j,none⟩=some v:=by
 intro j v hv;refine RN hS (hM.nodes _ (RU A z R)) ?_;unfold DK;rw[Cn (FR.1 hv).1];exact hv
end
end Go.Proofs.YtkgibdhpijdbfaaGreatDoor
namespace Go.Proofs.YtkgibdhpijdbfaaGreatDoor
open Go Go.Eng Go.Proofs
def D7(b k:Nat)(A:List Av):List Value:=D2 λl=>if k≤l then lastP (F8 b) l A else .pointer none
theorem RD(p:Value)(l:Nat)(hp:p.oneCell'=true): ∀A:List Av,(lastP p l A).oneCell'=true
 |[]=>hp
 |x::A=>by
  unfold lastP
  split
  ·exact RD _ l rfl A
  ·exact RD _ l hp A
theorem XH(b k:Nat)(A:List Av):(D7 b k A).all Value.oneCell'=true:=by
 have h: ∀l,((λl=>if k≤l then lastP (F8 b) l A else Value.pointer none) l).oneCell'=true:=λl=>by
  show(if k≤l then lastP (F8 b) l A else Value.pointer none).oneCell'=true
  split
  ·exact RD _ _ rfl A
  ·rfl
 unfold D7 D2;generalize(λl=>if k≤l then lastP (F8 b) l A else Value.pointer none)=f at h;simp only[List.all_cons,List.all_nil,h,Bool.and_true]
theorem XI(b l:Nat)(A:List Av)(hl:l<8):(D7 b (l+1) A).set l (lastP (F8 b) l A)=D7 b l A:=by
 apply List.ext_getElem?;intro j;rw[List.getElem?_set];by_cases hj:j<8
 ·unfold D7;rw[Im _ j hj,Im _ j hj]
  split
  ·rename_i e;subst e;rw[if_pos (by show l<8;exact hl),if_pos (AV _)]
  ·rename_i e;by_cases h:l≤j
   ·rw[if_pos AA,if_pos h]
   ·rw[if_neg AA,if_neg h]
 ·rw[if_neg AA,List.getElem?_eq_none (by show 8≤j;omega),List.getElem?_eq_none (by show 8≤j;omega)]
theorem Tg{w:World}{b:Nat}{A B:List Av}{L:AH}(hM:Fg b (A++B) L)(hh:Holds L w)(x:AF)(hA: ∀y∈A,CL y.e x=true)(hB: ∀y∈B,CL y.e x=false):
  Cl Tryz.prog nN [ptr b,B9 x] w λv w'=>v= .agg ⟨D7 b 0 A⟩∧St w (keys L) L w':=by
 have hS:=St.enter hh;generalize hT:keys L=T0 at hS⊢;unfold B9 AU;refine fL rfl ?_;refine jq ⟨?_⟩;refine hS.al ?_;intro b3 w1 _ hS;refine jq ⟨?_⟩;refine hS.al ?_;intro b4 w2 _ hS;refine jq ⟨?_⟩;refine hS.al ?_;intro b5 w3 _ hS;refine jq ⟨?_⟩;refine AL.loop (λ(i:Nat×List Av×Nat×Nat)=>[(0,ptr b),(3,ptr b3),(4,ptr b4),(5,ptr b5),(6,.pointer (some ⟨i.2.2.1,i.2.2.2,none⟩)),(7,.int .i64 ((i.1:Int)-1))])
  (λi w'=>i.1≤8∧(∃A2,A=i.2.1++A2∧ ∀y∈A2,¬i.1<y.h∨i.1=8)∧Fh b i.2.1 i.1 i.2.2.1 i.2.2.2∧
   St w T0 ((b5,.cells ⟨D7 b i.1 A⟩ FM (0,0))::(b4,.cells ⟨D2 λ_=> .pointer none⟩ FM (0,0))::(b3,.cells ⟨[AG x.k,.int .i64 x.s,.bool x.d,AG x.v]⟩ Aq (0,0))::L) w') (λi=>i.1) (8,[],b,2)
  ⟨rfl,rfl,rfl,rfl,rfl,congrArg (Value.int .i64) (by decide:(7:Int)=((8:Nat):Int)-1),trivial⟩ ⟨AV _,⟨A,rfl,λy _=> .inr rfl⟩,Fh.head b 8,hS⟩ ?_
 clear hS;rintro⟨k,A1,g,off⟩w4⟨hk,⟨A2,hA2,hno⟩,hp,hS⟩;simp only at hk hA2 hno hp hS⊢;rcases k with _|l
 ·obtain⟨v0,v1,v2,v3,v4,v5,v6,v7,hO⟩: ∃v0 v1 v2 v3 v4 v5 v6 v7,D7 b 0 A=[v0,v1,v2,v3,v4,v5,v6,v7]:=⟨_,_,_,_,_,_,_,_,rfl⟩;have h1:=XH b 0 A;rw[hO]at hS h1⊢;(repeat(refine jt ⟨?_⟩;refine hS.q ?_;intro _ hS));refine jt ⟨?_⟩;refine hS.st h1 rfl ?_;intro w5 hS;(repeat(refine jt ⟨?_⟩;refine hS.q ?_;intro _ hS));refine jt ⟨?_⟩;exact⟨rfl,hS.sub (((AS _ _).trans (AS _ _)).trans (AS _ _))⟩
 ·rw[show((l+1:Nat):Int)-1=(l:Int) by omega];have hMc: ∀{H:AH},(∀p∈L,p∈H)→Fg b (A++B) H:=λh=>⟨by
   obtain⟨n,bytes,ha,hn,hc,turn,hm⟩:=hM.tab;exact⟨n,bytes,ha,hn,hc,turn,h _ hm⟩,λp hp=>h p (hM.nodes p hp)⟩
  have hMH:=hMc (H:=(b5,Obj.cells ⟨D7 b (l+1) A⟩ FM (0,0))::(b4,.cells ⟨D2 λ_=> .pointer none⟩ FM (0,0))::(b3,.cells ⟨[AG x.k,.int .i64 x.s,.bool x.d,AG x.v]⟩ Aq (0,0))::L) (λp hp=>by simp[hp]);refine jq ⟨?_⟩;refine AL.loop (λ(i:List Av×Nat×Nat)=>[(0,ptr b),(3,ptr b3),(4,ptr b4),(5,ptr b5),(6,.pointer (some ⟨i.2.1,i.2.2,none⟩)),(7,.int .i64 (l:Int))])
   (λi w'=>(∃A2,A=i.1++A2)∧Fh b i.1 l i.2.1 i.2.2∧
    St w T0 ((b5,.cells ⟨D7 b (l+1) A⟩ FM (0,0))::(b4,.cells ⟨D2 λ_=> .pointer none⟩ FM (0,0))::(b3,.cells ⟨[AG x.k,.int .i64 x.s,.bool x.d,AG x.v]⟩ Aq (0,0))::L) w') (λi=>A.length-i.1.length) (A1,g,off)
   ⟨rfl,rfl,rfl,rfl,rfl,rfl,trivial⟩ ⟨⟨A2,hA2⟩,hp.down AA,hS⟩ ?_
  clear hS hA2 hno hp;rintro⟨A1,g,off⟩w5⟨⟨A2,hA2⟩,hp,hS⟩;simp only at hA2 hp hS⊢;have hAB:A++B=A1++(A2++B):=by rw[hA2,Aj]
  refine jq ⟨?_⟩;refine AL.draw AK mixed (λw'=>St w T0 ((b5,.cells ⟨D7 b (l+1) A⟩ FM (0,0))::(b4,.cells ⟨D2 λ_=> .pointer none⟩ FM (0,0))::(b3,.cells ⟨[AG x.k,.int .i64 x.s,.bool x.d,AG x.v]⟩ Aq (0,0))::L) w')
   [18,19,20] [0,1,2,3,4,5,6,7,8,9,10,11,12,13,14,15,16,17,18,19,20] AD hS.drew ?_
  have hS:=hS.drew;refine jr ⟨?_⟩;have hcell: ∀w',St w T0 ((b5,.cells ⟨D7 b (l+1) A⟩ FM (0,0))::(b4,.cells ⟨D2 λ_=> .pointer none⟩ FM (0,0))::(b3,.cells ⟨[AG x.k,.int .i64 x.s,.bool x.d,AG x.v]⟩ Aq (0,0))::L) w'→
    w'.cell? ⟨g,off+4+((l:Int)).toNat*1,none⟩=some (Bv l (A2++B)):=λw' hw=>by
   rw[show off+4+((l:Int)).toNat*1=off+(4+l) by omega];rw[hAB]at hMH;exact hMH.next hw AA hp
  refine RH hcell ?_;rcases W7 l A2 B with⟨C,z,D,h1,h2,h3,h4⟩|⟨h1,h2⟩
  ·rw[h4]at hcell⊢;have hz:A++B=(A1++C)++z::(D++B):=by rw[hAB,h1];simp
   refine jr ⟨?_⟩;refine RH hcell ?_;refine jr ⟨?_⟩;refine JZ (cs:=AU z.e) rfl (λw' hw j v hv=>by rw[hz]at hMH;rw[Cs];exact hMH.ent hw j v hv) ?_;refine jr ⟨?_⟩;refine(RO z.e x w5.drew).mono ?_;rintro _ w6⟨rfl,hS'⟩;have hS:=hS.call0 hS';refine jr ⟨?_⟩;refine jq ⟨?_⟩;refine Ax.pos ((MY _ _).2 (hA z (by rw[hA2,h1];simp))) ?_;refine jq ⟨?_⟩;refine K2 (hcell _ hS) ?_;refine jq ⟨?_⟩;exact⟨(A1++C++[z],z.b,0),⟨rfl,rfl,rfl,rfl,rfl,rfl,trivial⟩,⟨⟨D,by rw[hA2,h1];simp⟩,⟨.inr ⟨A1++C,z,rfl,rfl,rfl,h3⟩⟩,hS⟩,by rw[hA2,h1];simp;omega⟩
  ·have h2':=h1;rw[h2]at hcell⊢;have hlast:lastP (F8 b) l A= .pointer (some ⟨g,off,none⟩):=by rw[hA2,Oa,Ob _ _ h1,hp.lastP]
   rcases Ra l B with h3|⟨C,z,D,h3,h4⟩
   ·rw[h3]at hcell⊢;refine jr ⟨?_⟩;refine jq ⟨?_⟩;refine hS.stI (by rfl) (by have:(D7 b (l+1) A).length=8:=rfl;omega) ?_;intro w7 hS;have hS:=hS;rw[show 0+((l:Int)).toNat*1=l by omega,←hlast,XI b l A AA]at hS;refine jq ⟨?_⟩;exact⟨(l,A1,g,off),⟨rfl,rfl,rfl,rfl,rfl,rfl,trivial⟩,⟨AA,⟨A2,hA2,λy hy=> .inl (h2' y hy)⟩,hp,hS⟩,AB⟩
   ·rw[h4]at hcell⊢;have hz:A++B=(A++C)++z::D:=by rw[h3];simp
    refine jr ⟨?_⟩;refine RH hcell ?_;refine jr ⟨?_⟩;refine JZ (cs:=AU z.e) rfl (λw' hw j v hv=>by rw[hz]at hMH;rw[Cs];exact hMH.ent hw j v hv) ?_;refine jr ⟨?_⟩;refine(RO z.e x w5.drew).mono ?_;rintro _ w6⟨rfl,hS'⟩;have hS:=hS.call0 hS';refine jr ⟨?_⟩;refine jq ⟨?_⟩;refine Ax.neg (λh=>by rw[MY,hB z (by rw[h3];simp)]at h;cases h) ?_;refine jq ⟨?_⟩;refine hS.stI (by rfl) (by have:(D7 b (l+1) A).length=8:=rfl;omega) ?_
    intro w7 hS;have hS:=hS;rw[show 0+((l:Int)).toNat*1=l by omega,←hlast,XI b l A AA]at hS;refine jq ⟨?_⟩;exact⟨(l,A1,g,off),⟨rfl,rfl,rfl,rfl,rfl,rfl,trivial⟩,⟨AA,⟨A2,hA2,λy hy=> .inl (h2' y hy)⟩,hp,hS⟩,AB⟩
theorem Yl{e:TypeId}{sz:Nat}{a:Option Addr}{n cap:Nat}{xs:List Value}{L H:AH}{F:AH→AH}(hv:AT e sz a n cap xs L) [Chunk H L F]{w0:World}{T:List Nat}{g off:Nat}(ha:a=some ⟨g,off,none⟩){j i:Nat}{v:Value}(hx:xs[j]?=some v)(hi:i=off+j){K:Value→Prop}(hk:K v):
  FK (λw'=>St w0 T H w') ⟨g,i,none⟩ K:=⟨⟨v,λw' h=>by
   obtain⟨b,o,h1,h2,h3⟩:=(hv.arr h (T':=[]) AB) j v hx;rw[ha]at h1;simp only[Option.some.injEq,Addr.mk.injEq,and_true]at h1;obtain⟨rfl,rfl⟩:=h1;rw[hi];exact h3,hk⟩⟩
inductive Fy(b:Nat)(l:List AF)(adds:Nat):AH→Prop where
 |mk (ns:List Av) (hl:ns.map (·.e)=l) (hh: ∀x∈ns,1≤x.h∧x.h≤8) (ha:Option Addr) (hn hc:Nat) (hts:List Int) (Lh:AH) (hv:AT BP 1 ha hn hc (hts.map AY) Lh) (hr: ∀z∈hts,1≤z∧z≤8)
   (turn:Nat) (ht:turn≤adds):Fy b l adds ((b,.cells ⟨memC ns.length (An l) ns ha hn hc turn⟩ ET (0,0))::(EF ns++Lh))
theorem yV(h:Int):1≤1+IntKind.i64.wrap ((IntKind.u64.wrap h).tmod 8)∧1+IntKind.i64.wrap ((IntKind.u64.wrap h).tmod 8)≤8:=by
 obtain⟨m,h1,h2⟩: ∃m:Nat,IntKind.u64.wrap h=(m:Int)∧m<2 ^ 64:=by
  unfold IntKind.wrap;simp only[IntKind.signed,IntKind.bits];exact⟨(h % 2 ^ 64).toNat,by simp;omega,AA⟩
 have e:(m:Int).tmod 8=((m % 8:Nat):Int):=(Int.ofNat_tmod m 8).symm;have h3:IntKind.i64.wrap ((m % 8:Nat):Int)=((m % 8:Nat):Int):=IntWalk.i64_in _ AA;rw[h1,e,h3];omega
theorem S8{w:World}{a:Option Addr}{cap:Nat}{hs:List Int}(hA:Arr w [] a (hs.map AY))(hl:hs.length≤1099511627776):
  Cl Tryz.prog nI [.slice a hs.length cap] w λv w'=>∃b L,v=ptr b∧Fy b [] 0 L∧St w [] L w':=by
 have hS:=St.start w;refine fG rfl ?_;refine jq ⟨?_⟩;refine hS.al ?_;intro b w1 _ hS;refine jq ⟨?_⟩;refine AL.loop (λk:Nat=>[(3,ptr b),(8,.slice a hs.length cap),(9,.int .i64 hs.length),(10,.int .i64 k)])
  (λk w'=>k≤hs.length∧ ∃ha hc hts Lh,AT BP 1 ha k hc (hts.map AY) Lh∧(∀z∈hts,1≤z∧z≤8)∧St w [] ((b,.cells ⟨memC 0 0 [] ha k hc 0⟩ ET (0,0))::Lh) w') (λk=>hs.length-k) 0
  ⟨rfl,rfl,rfl,rfl,trivial⟩ ⟨Ag _,none,0,[],[],AT.nil,AB,hS⟩ ?_
 clear hS;rintro k w2⟨hk,ha,hc,hts,Lh,hv,hr,hS⟩;by_cases hkl:k<hs.length
 ·have hx:(hs.map AY)[k]?=some (AY hs[k]):=by simp[hkl]
  obtain⟨g,off,rfl, -, -⟩:=hA.get (j:=k) (by simpa using hkl);refine jq ⟨?_⟩;refine Arr.ldc (j:=k) hS hA hx AA ?_;unfold memC D2 at hS;(repeat(refine jt ⟨?_⟩;refine hS.q ?_;intro _ hS));refine jt ⟨?_⟩;refine CG.wr ?_;have htw:=yV hs[k];generalize IntKind.i64.wrap ((IntKind.u64.wrap hs[k]).tmod 8)=z at htw⊢;refine jq ⟨?_⟩;refine hS.al ?_;intro r w3 _ hS;refine jq ⟨?_⟩;refine St.app (sz:=1) (m:=1) AK rfl rfl rfl rfl hS hv (news:=[AY (1+z)]) rfl (by have:=hS.arr (b:=r) (T':=[]) AB;exact this) rfl (by show(_+_)*8≤_;omega) AA ?_
  intro a2 c2 L2 w4 hv2 hS;have hS:=hS.sub (AS _ _);(repeat(refine jt ⟨?_⟩;refine hS.q ?_;intro _ hS));refine jt ⟨?_⟩;refine⟨k+1,⟨rfl,rfl,rfl,rfl,trivial⟩,⟨AA,a2,c2,hts++[1+z],L2,by rw[A7];exact hv2,?_,hS⟩,AA⟩;intro y hy;rcases Bl.1 hy with hy|hy
  ·exact hr y hy
  ·simp at hy;omega
 ·refine jq ⟨?_⟩;obtain rfl:k=hs.length:=AA;refine jq ⟨?_⟩;exact⟨b,_,rfl,Fy.mk [] rfl AB ha _ hc hts Lh hv hr 0 (AV _),hS⟩
theorem S7{w:World}{b adds:Nat}{l:List AF}{L:AH}(hM:Fy b l adds L)(hh:Holds L w):Cl Tryz.prog nR [ptr b] w λv w'=>v= .int .i64 l.length∧St w (keys L) L w':=by
 have hS:=St.enter hh;obtain⟨ns,hl,hhs,ha,hn,hc,hts,Lh,hv,hr,turn,ht⟩:=hM;refine fP rfl ?_;unfold memC D2 at hS⊢;(repeat(refine jt ⟨?_⟩;refine hS.q ?_;intro _ hS));refine jt ⟨?_⟩;exact⟨by rw[←hl,BM],hS⟩
theorem sA{w:World}{b n adds:Nat}{bytes:Int}{ns:List Av}{ha:Option Addr}{hn hc:Nat}{hts:List Int}{Lh:AH}(hv:AT BP 1 ha hn hc (hts.map AY) Lh)(hr: ∀z∈hts,1≤z∧z≤8){turn:Nat}(ht:turn≤adds)(hb:adds≤4611686018427387904)
  (hh:Holds ((b,.cells ⟨memC n bytes ns ha hn hc turn⟩ ET (0,0))::Lh) w):
  Cl Tryz.prog nP [ptr b] w λv w'=>∃(h turn':Nat),v= .int .i64 h∧1≤h∧h≤8∧turn'≤adds+1∧St w (b::keys Lh) ((b,.cells ⟨memC n bytes ns ha hn hc turn'⟩ ET (0,0))::Lh) w':=by
 have hS:=St.enter hh;have hlen:=hv.len;refine fN rfl ?_;unfold memC D2 at hS⊢;by_cases h0:hn=0
 ·subst h0;(repeat(refine jt ⟨?_⟩;refine hS.q ?_;intro _ hS));refine jt ⟨?_⟩;exact⟨1,turn,rfl,AA,AA,AA,hS⟩
 ·(repeat(refine jt ⟨?_⟩;refine hS.q ?_;intro _ hS));refine jt ⟨?_⟩;have hlt:turn % hn<hts.length:=by
   have:=FP turn (show 0<hn by omega);rw[BM]at hlen;omega
  have hx:(hts.map AY)[turn % hn]?=some (AY hts[turn % hn]):=by simp[hlt]
  obtain⟨g,off,rfl, -, -⟩:=(hv.arr hS (T':=[]) AB).get (j:=turn % hn) (by simpa using hlt);refine AL.draw AK mixed (λw'=>St w _ _ w') [] [0,1,2,3,4,5,6,7,8,9,10,11,12,13,14,15,16] AD hS.drew ?_;have hS:=hS.drew;refine jr ⟨?_⟩;rw[show((turn:Int)).tmod (hn:Int)=((turn % hn:Nat):Int)from(Int.ofNat_tmod turn hn).symm];have hmod:=FP turn (show 0<hn by omega);generalize turn % hn=q at hlt hx hmod⊢;have hz:=hr hts[q] (Ca hlt)
  refine jr ⟨?_⟩;refine Yl hv rfl (j:=q) hx AA ?_;unfold AY;generalize hts[q]=z at hz;obtain⟨h,rfl⟩: ∃h:Nat,z=(h:Int):=⟨z.toNat,AA⟩;refine jr ⟨?_⟩;(repeat(refine jt ⟨?_⟩;refine hS.q ?_;intro _ hS));refine jt ⟨?_⟩;exact⟨h,turn+1,rfl,AA,AA,AA,hS⟩
theorem Wg{w:World}{b:Nat}{A R:List Av}{H:AH}(hM:Fg b (A++R) H)(hh:Holds H w)(hlen:(A++R).length≤1099511627776)(hh1: ∀x∈R,1≤x.h):
  Cl Tryz.prog nS [Bv 0 R] w λv w'=>∃a cap L,v= .slice a R.length cap∧AT Aq 4 a R.length cap (R.flatMap λx=>AU x.e) L∧St w [] L w':=by
 have hS:=St.start w;have hE:=St.enter hh;have hnx: ∀{x:Av}{r:List Av},1≤x.h→Bv 0 (x::r)=ptr x.b:=λh=>by show(if _ then _ else _)=_;rw[if_pos AA]
 refine fQ rfl ?_;refine jq ⟨?_⟩;refine AL.loop (λ(i:List Av×List Av×Option Addr×Nat)=>[(0,Bv 0 i.2.1),(3,.slice i.2.2.1 i.1.length i.2.2.2)])
  (λi w'=>i.1++i.2.1=R∧ ∃L,AT Aq 4 i.2.2.1 i.1.length i.2.2.2 (i.1.flatMap λx=>AU x.e) L∧St w [] L w') (λi=>i.2.1.length) ([],R,none,0)
  ⟨rfl,rfl,trivial⟩ ⟨rfl,[],AT.nil,hS⟩ ?_
 clear hS;rintro⟨P,Q,a,cap⟩w1⟨hPQ,L,hv,hS⟩;simp only at hPQ hv hS⊢;cases Q with
 |nil=>
  rw[BU]at hPQ;subst hPQ;refine jq ⟨?_⟩;exact⟨a,cap,L,rfl,hv,hS⟩
 |cons z Q=>
  have hz:1≤z.h:=hh1 z (by rw[←hPQ];simp);rw[hnx hz];have hM':Fg b ((A++P)++z::Q) H:=by rw[Aj,hPQ];exact hM
  have hent: ∀(j:Nat)(v:Value),(AU z.e)[j]?=some v→w1.cell? ⟨z.b,j,none⟩=some v:=λj v hj=>hS.oldCell AB (hM'.ent hE j v hj);refine jq ⟨?_⟩;refine IQ (cs:=[AG z.e.k,.int .i64 z.e.s,.bool z.e.d,AG z.e.v]) rfl (λj v hj=>by rw[Cs];exact hent j v hj) ?_;have hlP:P.length+(z::Q).length=R.length:=by rw[←hPQ];simp
  rw[AP]at hlen;simp only[Ai]at hlP;refine jq ⟨?_⟩;refine hS.al ?_;intro r w2 _ hS;refine jq ⟨?_⟩;refine St.app (sz:=4) (m:=1) AK rfl rfl rfl rfl hS hv (news:=AU z.e) rfl (by have:=hS.arr (b:=r) (T':=[]) AB;exact this) rfl (by show(_+_)*48≤_;omega) AA ?_;intro a2 c2 L2 w3 hv2 hS;have hS:=hS.sub (AS _ _);have hnext:w3.cell? ⟨z.b,0+(4+0),none⟩=some (Bv 0 Q):=by
   have hp:Fh b ((A++P)++[z]) 0 z.b 0:=⟨.inr ⟨A++P,z,rfl,rfl,rfl,AA⟩⟩;have hM2:Fg b (((A++P)++[z])++Q) H:=by rw[show((A++P)++[z])++Q=(A++P)++z::Q by simp];exact hM'
   exact hS.oldCell AB (hM2.next hE AA hp)
  refine jq ⟨?_⟩;refine K2 hnext ?_;refine jq ⟨?_⟩;exact⟨(P++[z],Q,a2,c2),⟨rfl,by rw[AP];rfl,trivial⟩,⟨by rw[←hPQ];simp,L2,by
   rw[Hn,AP];exact hv2,hS⟩,AB⟩
theorem Wf{w:World}{b:Nat}{A B:List Av}{L:AH}(hM:Fg b (A++B) L)(hh:Holds L w)(x:AF)(hA: ∀y∈A,CL y.e x=true)(hB: ∀y∈B,CL y.e x=false)(h1: ∀y∈A++B,1≤y.h):
  Cl Tryz.prog nO [ptr b,B9 x] w λv w'=>v=Bv 0 B∧St w (keys L) L w':=by
 have hS:=St.enter hh;generalize hT:keys L=T0 at hS⊢;have hspec:=λ{w:World}(hh:Holds L w)=>Tg hM hh x hA hB;unfold B9 AU at hspec⊢;refine fM rfl ?_;refine jq ⟨?_⟩;refine hS.al ?_;intro b3 w1 _ hS;(repeat(refine jt ⟨?_⟩;refine hS.q ?_;intro _ hS));refine jt ⟨?_⟩;refine(hspec (hS.part (L:=L))).mono ?_;rintro _ w2⟨rfl,hS'⟩;have hS:=hS.call (L:=L) hS';have hpos: ∃g off,Fh b A 0 g off:=by
  rcases J2 A with rfl|⟨A0,y,rfl⟩
  ·exact⟨b,2,Fh.head b 0⟩
  ·exact⟨y.b,0,⟨.inr ⟨A0,y,AB,rfl,rfl,by have:=h1 y AB;omega⟩⟩⟩
 obtain⟨g,off,hp⟩:=hpos;have hM2:Fg b (A++B) ((b3,.cells ⟨[AG x.k,.int .i64 x.s,.bool x.d,AG x.v]⟩ Aq (0,0))::L):=⟨by
  obtain⟨n,bytes,ha,hn,hc,turn,hm⟩:=hM.tab;exact⟨n,bytes,ha,hn,hc,turn,CJ _ hm⟩,λp hp=>CJ _ (hM.nodes p hp)⟩
 have hcell:=hM2.next hS (l:=0) AA hp;refine Q7 AK rfl rfl rfl rfl (cs:=D7 b 0 A) (j:=0) AC (v:=lastP (F8 b) 0 A) rfl ?_;rw[hp.lastP];refine jq ⟨?_⟩;refine K2 hcell ?_;refine jq ⟨?_⟩;exact⟨rfl,hS.sub (AS _ _)⟩
theorem Ny(k:AE)(t:Int): ∀(ns:List Av),∃A B,ns=A++B∧A.map (·.e)=CY k t (ns.map (·.e))∧B.map (·.e)=Br k t (ns.map (·.e))
 |[]=>⟨[],[],rfl,rfl,rfl⟩
 |x::ns=>by
  obtain⟨A,B,h1,h2,h3⟩:=Ny k t ns;by_cases h:EW x.e k t=true
  ·refine⟨x::A,B,by rw[h1];rfl,?_,?_⟩
   ·simp only[A4,CY,h,if_true,h2]
   ·simp only[A4,Br,h,if_true,h3]
  ·refine⟨[],x::ns,rfl,?_,?_⟩
   ·simp only[A4,CY,h,kC,if_false,Bool.false_eq_true]
   ·simp only[A4,Br,h,if_false,Bool.false_eq_true]
theorem QI{k:AE}{t:Int}{l:List AF}{A:List Av}(h:A.map (·.e)=CY k t l)(x:AF)(hk:x.k=k)(ht:x.s=t): ∀y∈A,CL y.e x=true:=λy hy=>by
 unfold CL;rw[hk,ht];exact NM k t l y.e (by rw[←h];exact CD hy)
theorem QJ{k:AE}{t:Int}{l:List AF}(hr:Az l){B:List Av}(h:B.map (·.e)=Br k t l)(x:AF)(hk:x.k=k)(ht:x.s=t): ∀y∈B,CL y.e x=false:=λy hy=>by
 unfold CL;rw[hk,ht];exact Ks hr y.e (by rw[←h];exact CD hy)
theorem Fy.in{b adds:Nat}{l:List AF}{L:AH}(h:Fy b l adds L): ∃ns:List Av,ns.map (·.e)=l∧(∀x∈ns,1≤x.h)∧Fg b ns L:=by
 obtain⟨ns,hl,hhs,ha,hn,hc,hts,Lh,hv,hr,turn,ht⟩:=h;exact⟨ns,hl,λx hx=>(hhs x hx).1,⟨_,_,_,_,_,_,CN⟩,λp hp=>CJ _ (EO _ hp)⟩
theorem Um(ns:List Av):(ns.flatMap λx=>AU x.e)=(ns.map (·.e)).flatMap AU:=by rw[List.flatMap_map]
theorem Za{w:World}{b adds:Nat}{l:List AF}{L:AH}(hM:Fy b l adds L)(hh:Holds L w)(hl:l.length≤1099511627776):
  Cl Tryz.prog nK [ptr b] w λv w'=>∃a cap L2,v= .slice a l.length cap∧AT Aq 4 a l.length cap (l.flatMap AU) L2∧St w [] L2 w':=by
 have hS:=St.enter hh;obtain⟨ns,hns,h1,hin⟩:=hM.in;have hcell:=Fg.next (A:=[]) (R:=ns) hin hS (l:=0) AA (Fh.head b 0);have hls:=λ{w:World}(hh:Holds L w)=>Wg (A:=[]) (R:=ns) hin hh (by rw[CU,←BM (f:=(·.e)),hns];exact hl) h1;have hlen:ns.length=l.length:=by rw[←hns,BM]
 rw[Um,hns,hlen]at hls;refine fI rfl ?_;refine jq ⟨?_⟩;refine K2 hcell ?_;refine jq ⟨?_⟩;refine(hls hh).mono ?_;rintro _ w1⟨a,cap,L2,rfl,hv,hS2⟩;refine jq ⟨?_⟩;exact⟨a,cap,L2,rfl,hv,hS2⟩
theorem Zb{w:World}{b adds:Nat}{l:List AF}{L:AH}(hM:Fy b l adds L)(hh:Holds L w)(hr:Az l)(hl:l.length≤1099511627776)(k:AE):
  Cl Tryz.prog nL [ptr b,AG k] w λv w'=>∃a cap L2,v= .slice a (Br k 9223372036854775807 l).length cap∧AT Aq 4 a (Br k 9223372036854775807 l).length cap ((Br k 9223372036854775807 l).flatMap AU) L2∧St w (keys L) (L2++L) w':=by
 obtain⟨ns,hns,h1,hin⟩:=hM.in;obtain⟨A,B,hab,hA,hB⟩:=Ny k 9223372036854775807 ns;rw[hns]at hA hB;rw[hab]at hin h1;have hlA:(A++B).length≤1099511627776:=by rw[←hab,←BM (f:=(·.e)),hns];exact hl
 have hls:=λ{w:World}(hh:Holds L w)=>Wg (A:=A) (R:=B) hin hh hlA (λx hx=>h1 x (FC _ hx));have hlen:B.length=(Br k 9223372036854775807 l).length:=by rw[←hB,BM]
 rw[Um,hB,hlen]at hls;have hfr:=Wf hin hh ⟨k,9223372036854775807,false,[]⟩ (QI hA _ rfl rfl) (QJ hr hB _ rfl rfl) h1;unfold B9 AU at hfr;refine fJ rfl ?_;refine jq ⟨?_⟩;refine hfr.mono ?_;rintro _ w1⟨rfl,hS⟩;refine jq ⟨?_⟩;refine(hls hS.holds).mono ?_;rintro _ w2⟨a,cap,L2,rfl,hv,hS2⟩;have hS:=hS.callNew hS2;refine jq ⟨?_⟩;exact⟨a,cap,L2,rfl,hv,hS⟩
def QT(o:Option AF):Value:= .tuple ⟨[B9 (o.getD ⟨[],0,false,[]⟩),.bool o.isSome]⟩
theorem Zc{w:World}{b adds:Nat}{l:List AF}{L:AH}(hM:Fy b l adds L)(hh:Holds L w)(hr:Az l)(k:AE)(t:Int):
  Cl Tryz.prog nM [ptr b,AG k,.int .i64 t] w λv w'=>v=QT (DH l k t)∧St w (keys L) L w':=by
 obtain⟨ns,hns,h1,hin⟩:=hM.in;obtain⟨A,B,hab,hA,hB⟩:=Ny k t ns;rw[hns]at hA hB;rw[hab]at hin h1;have hfr:=λ{w:World}(hh:Holds L w)=>Wf hin hh ⟨k,t,false,[]⟩ (QI hA _ rfl rfl) (QJ hr hB _ rfl rfl) h1;unfold B9 AU at hfr;have hS:=St.enter hh;generalize hT:keys L=T0 at hS⊢;unfold DH;rw[←hB];refine fK rfl ?_;refine jq ⟨?_⟩;refine hS.al ?_;intro b6 w1 _ hS;refine jq ⟨?_⟩;refine(hfr (hS.part (L:=L))).mono ?_
 rintro _ w2⟨rfl,hS'⟩;have hS:=hS.call (L:=L) hS';cases B with
 |nil=>
  (repeat(refine jt ⟨?_⟩;refine hS.q ?_;intro _ hS));refine jt ⟨?_⟩;exact⟨rfl,hS.sub (AS _ _)⟩
 |cons z B=>
  have hnx:Bv 0 (z::B)=ptr z.b:=by show(if _ then _ else _)=_;rw[if_pos (by have:=h1 z AB;omega)]
  rw[hnx];have hent: ∀(j:Nat)(v:Value),(AU z.e)[j]?=some v→w2.cell? ⟨z.b,j,none⟩=some v:=λj v hj=>by
   have hin2:Fg b (A++z::B) ((b6,.cells ⟨[AG [],.int .i64 0,.bool false,AG []]⟩ Aq (0,0))::L):=⟨by
    obtain⟨n,bytes,ha,hn,hc,turn,hm⟩:=hin.tab;exact⟨n,bytes,ha,hn,hc,turn,CJ _ hm⟩,λp hp=>CJ _ (hin.nodes p hp)⟩
   exact hin2.ent hS j v hj
  simp only[A4];refine jq ⟨?_⟩;refine K2 (v:=AG z.e.k) (hent 0 _ rfl) ?_;refine jq ⟨?_⟩;by_cases hk:z.e.k=k
  ·rw[if_pos hk];refine jq ⟨?_⟩;refine IQ (cs:=[AG z.e.k,.int .i64 z.e.s,.bool z.e.d,AG z.e.v]) rfl (λj v hj=>by rw[Cs];exact hent j v hj) ?_;(repeat(refine jt ⟨?_⟩;refine hS.q ?_;intro _ hS));refine jt ⟨?_⟩;exact⟨rfl,hS.sub (AS _ _)⟩
  ·rw[if_neg hk];(repeat(refine jt ⟨?_⟩;refine hS.q ?_;intro _ hS));refine jt ⟨?_⟩;exact⟨rfl,hS.sub (AS _ _)⟩
end Go.Proofs.YtkgibdhpijdbfaaGreatDoor
