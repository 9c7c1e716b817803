/- Texts of this claim, one behind the other. -/
import Derived.Test.YtkgibdhpijdbfaaGreatDoorZ13
import Derived.Shelf.SlIter.Nil
import Derived.Shelf.SortM.Plain
import Derived.Shelf.SortM.SortNone
import Derived.Ground.GgzProg
import Derived.Ground.SlgmProg
import Derived.Test.YtkgibdhpijdbfaaGreatDoorProg
import Derived.Test.YtkgibdhpijdbfaaGreatDoorZ2
set_option linter.unusedVariables false
set_option linter.unusedSimpArgs false
set_option maxHeartbeats 16000000
namespace Go.Proofs.YtkgibdhpijdbfaaGreatDoor
open Go Go.Eng Go.Proofs
def D5:List Av→List Av→AH
 |[],_=>[]
 |x::A,R=>(x.b,.cells ⟨DK x (A++R)⟩ HF (0,0))::D5 A R
theorem Mu: ∀(A R:List Av),EF (A++R)=D5 A R++EF R
 |[],_=>rfl
 |x::A,R=>by
  show(x.b,Obj.cells ⟨DK x (A++R)⟩ HF (0,0))::EF (A++R)=_;rw[Mu A R];rfl
theorem Ws: ∀(A B R:List Av),D5 (A++B) R=D5 A (B++R)++D5 B R
 |[],_,_=>rfl
 |x::A,B,R=>by
  show(x.b,Obj.cells ⟨DK x (A++B++R)⟩ HF (0,0))::D5 (A++B) R=_;rw[Ws A B R,Aj];rfl
theorem Jr{f g:Nat→Value}(h: ∀l,l<8→f l=g l):D2 f=D2 g:=by
 unfold D2;rw[h 0 AA,h 1 AA,h 2 AA,h 3 AA,h 4 AA,h 5 AA,h 6 AA,h 7 AA]
theorem uP{x:Av}{R S:List Av}(h: ∀l,l<8→F5 x.h R l=F5 x.h S l):DK x R=DK x S:=by
 unfold DK;rw[Jr h]
theorem Oi: ∀{A R S:List Av},(∀P x Q,A=P++x::Q→ ∀l,l<8→F5 x.h (Q++R) l=F5 x.h (Q++S) l)→D5 A R=D5 A S
 |[],_,_,_=>rfl
 |x::A,R,S,h=>by
  unfold D5;rw[uP (h [] x A rfl),Oi λP y Q e=>h (x::P) y Q (by rw[e];rfl)]
theorem RZ{l:Nat}: ∀{A:List Av},(∃y∈A,l<y.h)→ ∀R S,Bv l (A++R)=Bv l (A++S)
 |[],h,_,_=>by obtain⟨y,hy,_⟩:=h;cases hy
 |x::A,h,R,S=>by
  show(if l<x.h then _ else Bv l (A++R))=(if l<x.h then _ else Bv l (A++S));by_cases hx:l<x.h
  ·rw[if_pos hx,if_pos hx]
  ·rw[if_neg hx,if_neg hx];refine RZ ?_ R S;obtain⟨y,hy,h2⟩:=h;rcases As.1 hy with rfl|hy
   ·exact absurd h2 hx
   ·exact⟨y,hy,h2⟩
theorem Mz{l:Nat}: ∀{A:List Av},(∀y∈A,¬l<y.h)→ ∀R,Bv l (A++R)=Bv l R
 |[],_,_=>rfl
 |x::A,h,R=>by
  show(if l<x.h then _ else Bv l (A++R))=_;rw[if_neg (h x CN),Mz (λy hy=>h y (CJ _ hy)) R]
theorem I1(l:Nat): ∀(A:List Av){R S:List Av},Bv l R=Bv l S→Bv l (A++R)=Bv l (A++S)
 |[],_,_,h=>h
 |x::A,R,S,h=>by
  show(if l<x.h then _ else Bv l (A++R))=(if l<x.h then _ else Bv l (A++S));rw[I1 l A h]
def CX(b:Nat)(e:AF)(k:Nat):Av:=⟨b,e,k⟩
theorem Ol(b:Nat)(e:AF){l k:Nat}(h:l≠k)(B:List Av):Bv l (CX b e (k+1)::B)=Bv l (CX b e k::B):=by
 show(if l<k+1 then _ else _)=(if l<k then _ else _);by_cases hl:l<k
 ·rw[if_pos hl,if_pos AA];rfl
 ·rw[if_neg hl,if_neg AA]
theorem W4(b:Nat)(e:AF)(k:Nat)(B:List Av):Bv k (CX b e (k+1)::B)=ptr b:=by
 show(if k<k+1 then _ else _)=_;rw[if_pos AA];rfl
theorem W3(b:Nat)(e:AF)(k:Nat)(B:List Av):Bv k (CX b e k::B)=Bv k B:=by
 show(if k<k then _ else _)=_;rw[if_neg AA]
theorem W5(b:Nat)(e:AF)(l:Nat)(B:List Av):Bv l (CX b e 0::B)=Bv l B:=by
 show(if l<0 then _ else _)=_;rw[if_neg AA]
theorem QB(f:Nat→Value)(k:Nat)(hk:k<8)(v:Value):(D2 f).set k v=D2 λl=>if l=k then v else f l:=by
 apply List.ext_getElem?;intro j;rw[List.getElem?_set];by_cases hj:j<8
 ·rw[Im _ j hj,Im _ j hj];by_cases e:k=j
  ·subst e;rw[if_pos rfl,if_pos (by show k<8;exact hk),if_pos rfl]
  ·rw[if_neg e,if_neg (λh=>e h.symm)]
 ·rw[if_neg AA,List.getElem?_eq_none (by show 8≤j;omega),List.getElem?_eq_none (by show 8≤j;omega)]
theorem Wq(b:Nat)(e:AF)(k:Nat)(hk:k<8)(B:List Av):(DK (CX b e k) B).set (4+k) (Bv k B)=DK (CX b e (k+1)) B:=by
 unfold DK;have hl:(AU (CX b e k).e).length=4:=rfl;rw[IK _ _ (by rw[hl];omega),hl,show 4+k-4=k by omega,QB _ _ hk]
 congr 1
 refine Jr λl _=>?_;unfold F5;show(if l=k then _ else if l<k then _ else _)=(if l<k+1 then _ else _);by_cases e1:l=k
 ·subst e1;rw[if_pos rfl,if_pos AA]
 ·rw[if_neg e1];by_cases h:l<k
  ·rw[if_pos h,if_pos AA]
  ·rw[if_neg h,if_neg AA]
theorem wA{y:Av}{A2:List Av}{k:Nat}(hk:k<8)(hy:k<y.h)(hn: ∀z∈A2,¬k<z.h)(b:Nat)(e:AF)(B:List Av):
  (DK y (A2++CX b e k::B)).set (4+k) (ptr b)=DK y (A2++CX b e (k+1)::B):=by
 unfold DK;have hl:(AU y.e).length=4:=rfl;rw[IK _ _ (by rw[hl];omega),hl,show 4+k-4=k by omega,QB _ _ hk]
 congr 1
 refine Jr λl _=>?_;unfold F5;by_cases e1:l=k
 ·subst e1;rw[if_pos rfl,if_pos hy,Mz hn,W4]
 ·rw[if_neg e1,I1 l A2 (Ol b e e1 B)]
theorem r8{A:List Av}{k:Nat}(hk:k<8)(hn: ∀z∈A,¬k<z.h)(b:Nat)(e:AF)(B:List Av)(n bytes:Int)(ha:Option Addr)(hn' hc:Nat)(turn:Int):
  (memC n bytes (A++CX b e k::B) ha hn' hc turn).set (2+(4+k)) (ptr b)=memC n bytes (A++CX b e (k+1)::B) ha hn' hc turn:=by
 unfold memC;rw[Aj,Aj,IK _ _ (by simp;omega)];rw[List.set_append_left _ _ (by simp[D2];omega)]
 congr 1
 congr 1
 rw[show 2+(4+k)-_=k by simp;omega,QB _ _ hk];refine Jr λl _=>?_;by_cases e1:l=k
 ·subst e1;rw[if_pos rfl,Mz hn,W4]
 ·rw[if_neg e1,I1 l A (Ol b e e1 B)]
theorem tW{A:List Av}{k:Nat}(h: ∃y∈A,k<y.h)(b:Nat)(e:AF)(B:List Av)(n bytes:Int)(ha:Option Addr)(hn hc:Nat)(turn:Int):
  memC n bytes (A++CX b e k::B) ha hn hc turn=memC n bytes (A++CX b e (k+1)::B) ha hn hc turn:=by
 unfold memC
 congr 2
 refine Jr λl _=>?_;by_cases e1:l=k
 ·subst e1;exact RZ h _ _
 ·rw[I1 l A (Ol b e e1 B)]
theorem Wu{A:List Av}{k:Nat}(b:Nat)(e:AF)(B:List Av)(T:List Av)(h:(∀z∈A,¬k<z.h)∨ ∃y∈T,k<y.h):
  D5 A (T++CX b e k::B)=D5 A (T++CX b e (k+1)::B):=by
 refine Oi λP x Q hA l _=>?_;unfold F5;by_cases e1:l=k
 ·subst e1;rcases h with h|h
  ·rw[if_neg (h x (by rw[hA];simp)),if_neg (h x (by rw[hA];simp))]
  ·rw[←Aj,←Aj,RZ (A:=Q++T) (by obtain⟨y,hy,h2⟩:=h;exact⟨y,FC _ hy,h2⟩)]
 ·rw[I1 l Q (I1 l T (Ol b e e1 B))]
theorem Wt{A:List Av}{k:Nat}(b:Nat)(e:AF)(B:List Av)(h: ∀z∈A,¬k<z.h):D5 A (CX b e k::B)=D5 A (CX b e (k+1)::B):=Wu b e B [] (.inl h)
theorem UK(k:Nat): ∀(A:List Av),(∀z∈A,¬k<z.h)∨ ∃A0 y A2,A=A0++y::A2∧k<y.h∧ ∀z∈A2,¬k<z.h
 |[]=> .inl AB
 |x::A=>by
  rcases UK k A with h|⟨A0,y,A2,h1,h2,h3⟩
  ·by_cases hx:k<x.h
   ·exact .inr ⟨[],x,A,rfl,hx,h⟩
   ·left;intro z hz;rcases As.1 hz with rfl|hz
    ·exact hx
    ·exact h z hz
  ·exact .inr ⟨x::A0,y,A2,by rw[h1];rfl,h2,h3⟩
theorem W6(l:Nat)(A B:List Av)(z:Av)(e:AF):Bv l (A++z::B)=Bv l (A++{z with e:=e}::B):=I1 l A rfl
theorem uS(A B:List Av)(z:Av)(e:AF):D5 A (z::B)=D5 A ({z with e:=e}::B):=by
 refine Oi λP x Q _ l _=>?_;unfold F5;rw[W6 l Q B z e]
theorem tQ(n bytes:Int)(A B:List Av)(z:Av)(e:AF)(ha:Option Addr)(hn hc:Nat)(turn:Int):memC n bytes (A++z::B) ha hn hc turn=memC n bytes (A++{z with e:=e}::B) ha hn hc turn:=by
 unfold memC
 congr 2
 exact Jr λl _=>W6 l A B z e
theorem M6(b:Nat)(A:List Av)(l:Nat)(hl:l<8):(D7 b 0 A)[l]?=some (lastP (F8 b) l A):=by
 unfold D7;rw[Im _ l hl,if_pos (Ag _)]
theorem tR(n bytes:Int)(ns:List Av)(ha:Option Addr)(hn hc:Nat)(turn:Int)(k:Nat)(hk:k<8):(memC n bytes ns ha hn hc turn)[2+(4+k)]?=some (Bv k ns):=by
 unfold memC;rw[Aj,Dp (by simp;omega),Cn (by simp[D2];omega)];rw[show 2+(4+k)-_=k by simp;omega];exact Im _ k hk
theorem uQ(x:Av)(R:List Av)(k:Nat)(hk:k<8):(DK x R)[4+k]?=some (F5 x.h R k):=by
 unfold DK;rw[Dp (by simp[AU])];rw[show 4+k-(AU x.e).length=k by simp[AU]];exact Im _ k hk
theorem uT(b:Nat)(e:AF)(A B:List Av):D5 A B=D5 A (CX b e 0::B):=by
 refine Oi λP x Q _ l _=>?_;unfold F5;rw[I1 l Q (W5 b e l B).symm]
theorem tT(n bytes:Int)(b:Nat)(e:AF)(A B:List Av)(ha:Option Addr)(hn hc:Nat)(turn:Int):memC n bytes (A++B) ha hn hc turn=memC n bytes (A++CX b e 0::B) ha hn hc turn:=by
 unfold memC
 congr 2
 exact Jr λl _=>I1 l A (W5 b e l B).symm
theorem uR(b:Nat)(e:AF)(B:List Av):AU e++D2 (λ_=> .pointer none)=DK (CX b e 0) B:=rfl
theorem tS(n bytes:Int)(ns:List Av)(ha:Option Addr)(hn hc:Nat)(turn:Int):(memC n bytes ns ha hn hc turn).length=16:=rfl
theorem RT(x:Av)(R:List Av):(DK x R).length=12:=rfl
theorem u9(l:Nat)(B:List Av): ∃p,Bv l B= .pointer p:=by
 rcases Ra l B with h|⟨_,z,_,_,h⟩
 ·exact⟨_,h⟩
 ·exact⟨_,h⟩
def Fk(x:AF):AF:={x with v:=if x.d then []else x.v}
theorem ZZ{w:World}{b adds:Nat}{l:List AF}{L:AH}(hM:Fy b l adds L)(hh:Holds L w)(hr:Az l){g off c:Nat}{x:AF}(ha:Arr w (keys L) (some ⟨g,off,none⟩) (AU x))(hb1:An l+CS x≤1099511627776)(hb2:l.length≤1099511627776)(hb3:adds≤4611686018427387904):
  Cl Tryz.prog nJ [ptr b,.slice (some ⟨g,off,none⟩) 1 c] w λ_ w'=>∃L',Fy b (DS (Fk x) l) (adds+1) L'∧St w (keys L) L' w':=by
 have hS:=St.enter hh;obtain⟨ns,hl,hhs,ht,hn,hc,hts,Lh,hv,hhr,turn,htn⟩:=hM;obtain⟨A,B,hab,hA,hB⟩:=Ny x.k x.s ns;rw[hl]at hA hB;generalize hT:keys ((b,Obj.cells ⟨memC ns.length (An l) ns ht hn hc turn⟩ ET (0,0))::(EF ns++Lh))=T0 at hS ha⊢;subst hab;have hx0:(AU x).drop 0=AU x:=rfl;refine fH rfl ?_;refine jq ⟨?_⟩;refine AL.loop (λk:Nat=>[(0,ptr b),(10,.slice (some ⟨g,off,none⟩) 1 c),(11,.int .i64 1),(12,.int .i64 k)])
  (λk w'=>(k=0∧St w T0 ((b,.cells ⟨memC (A++B).length (An l) (A++B) ht hn hc turn⟩ ET (0,0))::(EF (A++B)++Lh)) w')∨(k=1∧ ∃L',Fy b (DS (Fk x) l) (adds+1) L'∧St w T0 L' w')) (λk=>1-k) 0
  ⟨rfl,rfl,rfl,rfl,trivial⟩ (.inl ⟨rfl,hS⟩) ?_
 clear hS;rintro k w1(⟨rfl,hS⟩|⟨rfl,L',hM',hS⟩)
 rotate_left
 ·refine jq ⟨?_⟩;exact⟨L',hM',hS⟩
 ·refine jq ⟨?_⟩;refine Arr.ldn hS ha rfl (k:=0) (l':=[AG x.k,.int .i64 x.s,.bool x.d,AG x.v]) rfl rfl ?_;refine jq ⟨?_⟩;refine hS.al ?_;intro b5 w2 _ hS;(repeat(refine ju ⟨?_⟩;refine hS.q ?_;intro _ hS));refine ju ⟨?_⟩;refine AL.join (λ_:Unit=>[(0,ptr b),(10,.slice (some ⟨g,off,none⟩) 1 c),(11,.int .i64 1),(12,.int .i64 (0:Nat)),(5,ptr b5)]) (λ_ w'=>St w T0 ((b5,.cells ⟨[AG x.k,.int .i64 x.s,.bool x.d,AG (Fk x).v]⟩ Aq (0,0))::(b,.cells ⟨memC (A++B).length (An l) (A++B) ht hn hc turn⟩ ET (0,0))::(EF (A++B)++Lh)) w') ?_ ?_
  ·have hS:=hS;(repeat(refine jt ⟨?_⟩;refine hS.q ?_;intro _ hS));refine jt ⟨?_⟩;refine Ax.bool (λhd=>?_) (λhd=>?_)
   ·have e:(Fk x).v=[]:=by unfold Fk;rw[hd];rfl
    rw[e];(repeat(refine jt ⟨?_⟩;refine hS.q ?_;intro _ hS));refine jt ⟨?_⟩;exact⟨(),⟨rfl,rfl,rfl,rfl,rfl,trivial⟩,hS⟩
   ·have e:(Fk x).v=x.v:=by unfold Fk;rw[hd];rfl
    rw[e];(repeat(refine jt ⟨?_⟩;refine hS.q ?_;intro _ hS));refine jt ⟨?_⟩;exact⟨(),⟨rfl,rfl,rfl,rfl,rfl,trivial⟩,hS⟩
  clear hS;rintro _ w3 hS;have hcv:(Fk x).v.length≤x.v.length:=by unfold Fk;simp only;split<;>simp
  have hck:(Fk x).k=x.k∧(Fk x).s=x.s∧(Fk x).d=x.d:=⟨rfl,rfl,rfl⟩;have hmr: ∀y∈A++B,1≤y.h:=λy hy=>(hhs y hy).1;have hah:=λ{w:World}(hM:Fg b (A++B) ((b,.cells ⟨memC (A++B).length (An l) (A++B) ht hn hc turn⟩ ET (0,0))::(EF (A++B)++Lh)))hh=>Tg (w:=w) hM hh (Fk x) (QI hA _ rfl rfl) (QJ hr hB _ rfl rfl);have hins:DS (Fk x) l=A.map (·.e)++Fk x::(match B.map (·.e)with|[]=>[]|y::r=>if y.k=x.k∧y.s=x.s then r else y::r):=by
   rw[J0,hA,hB];rfl
  have hin:Fg b (A++B) ((b,.cells ⟨memC (A++B).length (An l) (A++B) ht hn hc turn⟩ ET (0,0))::(EF (A++B)++Lh)):=⟨⟨_,_,_,_,_,_,CN⟩,λp hp=>CJ _ (EO _ hp)⟩;have hahs:=λ{w:World}hh=>hah (w:=w) hin hh;unfold B9 AU at hahs;simp only[hck.1,hck.2.1,hck.2.2]at hahs;have hxs:CS x=x.k.length+x.v.length:=rfl;generalize hcx:Fk x=y at hS hcv hck hins hahs⊢;generalize hyv:y.v=v at hS hcv hahs;have hey:AU y=[AG x.k,.int .i64 x.s,.bool x.d,AG v]:=by unfold AU;rw[hck.1,hck.2.1,hck.2.2,hyv]
  (repeat(refine jt ⟨?_⟩;refine hS.q ?_;intro _ hS));refine jt ⟨?_⟩;refine(hahs (hS.part (L:=(b,.cells ⟨memC (A++B).length (An l) (A++B) ht hn hc turn⟩ ET (0,0))::(EF (A++B)++Lh)))).mono ?_;rintro _ w4⟨rfl,hS'⟩;have hS:=hS.call (L:=(b,.cells ⟨memC (A++B).length (An l) (A++B) ht hn hc turn⟩ ET (0,0))::(EF (A++B)++Lh)) hS';refine jq ⟨?_⟩;refine hS.al ?_;intro b6 w5 _ hS;refine jq ⟨?_⟩;refine hS.st (XH b 0 A) rfl ?_
  intro w6 hS;have hS:St w T0 ((b6,.cells ⟨D7 b 0 A⟩ FM (0,0))::(b5,.cells ⟨[AG x.k,.int .i64 x.s,.bool x.d,AG v]⟩ Aq (0,0))::(b,.cells ⟨memC (A++B).length (An l) (A++B) ht hn hc turn⟩ ET (0,0))::(EF (A++B)++Lh)) w6:=hS;have hinH:Fg b (A++B) ((b6,.cells ⟨D7 b 0 A⟩ FM (0,0))::(b5,.cells ⟨[AG x.k,.int .i64 x.s,.bool x.d,AG v]⟩ Aq (0,0))::(b,.cells ⟨memC (A++B).length (An l) (A++B) ht hn hc turn⟩ ET (0,0))::(EF (A++B)++Lh)):=
   ⟨⟨_,_,_,_,_,_,CJ _ (CJ _ CN)⟩,λp hp=>CJ _ (CJ _ (hin.nodes p hp))⟩
  have hpos: ∃g off,Fh b A 0 g off:=by
   rcases J2 A with rfl|⟨A0,y,rfl⟩
   ·exact⟨b,2,Fh.head b 0⟩
   ·exact⟨y.b,0,⟨.inr ⟨A0,y,AB,rfl,rfl,by have:=hmr y AB;omega⟩⟩⟩
  obtain⟨g0,o0,hp0⟩:=hpos;(repeat(refine ju ⟨?_⟩;refine hS.q ?_;intro _ hS));refine ju ⟨?_⟩;refine AL.join (λ_:Unit=>[(0,ptr b),(10,.slice (some ⟨g,off,none⟩) 1 c),(11,.int .i64 1),(12,.int .i64 (0:Nat)),(5,ptr b5),(6,ptr b6)])
   (λ_ w'=>(∀z∈B.head?,¬GQ z.e y)∧St w T0 ((b6,.cells ⟨D7 b 0 A⟩ FM (0,0))::(b5,.cells ⟨[AG x.k,.int .i64 x.s,.bool x.d,AG v]⟩ Aq (0,0))::(b,.cells ⟨memC (A++B).length (An l) (A++B) ht hn hc turn⟩ ET (0,0))::(EF (A++B)++Lh)) w') ?_ ?_
  ·refine jq ⟨?_⟩;refine hS.ld (v:=lastP (F8 b) 0 A) (M6 b A 0 AA) ?_;rw[hp0.lastP];refine jq ⟨?_⟩;refine K2 (hinH.next hS (l:=0) AA hp0) ?_;cases B with
   |nil=>
    refine jq ⟨?_⟩;refine AL.draw AK mixed (λw'=>St w _ _ w') [8,9,10] [0,1,2,3,4,5,6,7,8,9,10] AD hS.drew ?_;have hS:=hS.drew;refine jr ⟨?_⟩;refine jq ⟨?_⟩;exact⟨(),⟨rfl,rfl,rfl,rfl,rfl,rfl,trivial⟩,AB,hS⟩
   |cons z B=>
    have hz1:1≤z.h:=hmr z AB;rw[show Bv 0 (z::B)=ptr z.b by show(if _ then _ else _)=_;rw[if_pos AA]];refine jq ⟨?_⟩;refine AL.draw AK mixed (λw'=>St w _ _ w') [8,9,10] [0,1,2,3,4,5,6,7,8,9,10] AD hS.drew ?_;have hS:=hS.drew;refine jr ⟨?_⟩;refine JZ (cs:=AU z.e) rfl (λw' hw j v hv=>by rw[Cs];exact hinH.ent hw j v hv) ?_;refine jr ⟨?_⟩;have hcmp:=λw=>RO z.e y w;unfold B9 at hcmp;rw[hey]at hcmp;refine(hcmp _).mono ?_
    rintro _ w7⟨rfl,hS'⟩;have hS:=hS.call0 hS';refine jr ⟨?_⟩;by_cases hsame:GQ z.e y
    ·rw[(QM _ _).2 hsame];refine jq ⟨?_⟩;have hzl:z.e∈l:=by rw[←hl];simp
     have hzs:=LV hzl;have hzz:CS z.e=z.e.k.length+z.e.v.length:=rfl;have hsz:An (DS y l)+z.e.v.length=An l+v.length:=by
      have e1:An l=An (A.map (·.e))+(CS z.e+An (B.map (·.e))):=by
       rw[←hl,A7,G9,A4];simp[An]
      have e2:An (DS y l)=An (A.map (·.e))+(CS y+An (B.map (·.e))):=by
       rw[hins,G9];simp only[A4,hsame.1,hsame.2,hck.1,hck.2.1,and_self,if_true];simp[An]
      have e3:CS y=y.k.length+y.v.length:=rfl;have e4:=congrArg List.length hsame.1;rw[hyv]at e3;omega
     have hN:EF (A++z::B)=D5 A (z::B)++((z.b,.cells ⟨DK z B⟩ HF (0,0))::EF B):=Mu A (z::B);rw[hN]at hS;refine AL.draw AK mixed (λw'=>St w _ _ w') [19] [0,1,2,3,4,5,6,7,8,9,10,11,12,13,14,15,16,17,18,19] AD hS.drew ?_;have hS:=hS.drew;refine jr ⟨?_⟩;refine hS.q ?_;intro w8 hS;(repeat(refine jt ⟨?_⟩;refine hS.q ?_;intro _ hS));refine jt ⟨?_⟩;have e5:DK {z with e:=y} B=AG x.k:: .int .i64 x.s:: .bool x.d::AG v::D2 (F5 z.h B):=by unfold DK;rw[hey];rfl
     have e6:(An l:Int)+((v.length:Int)-(z.e.v.length:Int))=((An (DS y l):Nat):Int):=AA;have hS2:St w T0 ((b6,.cells ⟨D7 b 0 A⟩ FM (0,0))::(b5,.cells ⟨[AG x.k,.int .i64 x.s,.bool x.d,AG v]⟩ Aq (0,0))::(b,.cells ⟨memC (A++z::B).length ((An l:Int)+((v.length:Int)-(z.e.v.length:Int))) (A++z::B) ht hn hc turn⟩ ET (0,0))::
      ((D5 A (z::B)++((z.b,.cells ⟨AG x.k:: .int .i64 x.s:: .bool x.d::AG v::D2 (F5 z.h B)⟩ HF (0,0))::EF B))++Lh)) _:=hS
     rw[e6,tQ _ _ A B z y,uS A B z y,←e5,show(A++z::B).length=(A++{z with e:=y}::B).length by simp]at hS2;have hS3:=hS2.sub ((AS _ _).trans (AS _ _));refine⟨1,⟨rfl,rfl,rfl,rfl,trivial⟩,.inr ⟨rfl,_,Fy.mk (A++{z with e:=y}::B) ?_ ?_ ht hn hc hts Lh hv hhr turn AA,?_⟩,AA⟩
     ·rw[hins];simp only[A7,A4,hsame.1,hsame.2,hck.1,hck.2.1,and_self,if_true]
     ·intro u hu;rcases Bl.1 hu with hu|hu
      ·exact hhs u (by simp[hu])
      ·rcases As.1 hu with rfl|hu
       ·exact hhs z AB
       ·exact hhs u (by simp[hu])
     ·rw[Mu];exact hS3
    ·have hne: ¬G3 z.e y=0:=λh=>hsame ((QM _ _).1 h);refine jq ⟨?_⟩;exact⟨(),⟨rfl,rfl,rfl,rfl,rfl,rfl,trivial⟩,by simpa using hsame,hS⟩
  ·clear hS;rintro _ w7⟨hns,hS⟩;have hS:=hS;(repeat(refine jt ⟨?_⟩;refine hS.q ?_;intro _ hS));refine jt ⟨?_⟩;refine hS.al ?_;intro b8 w8 _ hS;have hS:St w T0 ((b8,.cells ⟨AG x.k:: .int .i64 x.s:: .bool x.d::AG v::D2 (λ_=> .pointer none)⟩ HF (0,0))::(b6,.cells ⟨D7 b 0 A⟩ FM (0,0))::(b5,.cells ⟨[AG x.k,.int .i64 x.s,.bool x.d,AG v]⟩ Aq (0,0))::(((b,.cells ⟨memC (A++B).length (An l) (A++B) ht hn hc turn⟩ ET (0,0))::Lh)++EF (A++B))) w8:=
    St.perm hS (.cons _ (.cons _ (.cons _ (.cons _ Gp))))
   refine jq ⟨?_⟩;refine(sA hv hhr htn hb3 (hS.part (L:=(b,.cells ⟨memC (A++B).length (An l) (A++B) ht hn hc turn⟩ ET (0,0))::Lh))).mono ?_;rintro _ w9⟨h,turn',rfl,hh1,hh8,htn',hS'⟩;have hS:=hS.call (L:=(b,.cells ⟨memC (A++B).length (An l) (A++B) ht hn hc turn⟩ ET (0,0))::Lh) hS';refine jq ⟨?_⟩;have hS0:St w T0 ((b8,.cells ⟨DK (CX b8 y 0) B⟩ HF (0,0))::(b6,.cells ⟨D7 b 0 A⟩ FM (0,0))::(b5,.cells ⟨[AG x.k,.int .i64 x.s,.bool x.d,AG v]⟩ Aq (0,0))::
     (b,.cells ⟨memC (A++B).length (An l) (A++CX b8 y 0::B) ht hn hc turn'⟩ ET (0,0))::((D5 A (CX b8 y 0::B)++EF B)++Lh)) w9:=by
    rw[←uT,←Mu,←tT,←uR,hey];exact St.perm hS (.cons _ (.cons _ (.cons _ (.cons _ Gp))))
   clear hS;refine AL.loop (λk:Nat=>[(0,ptr b),(10,.slice (some ⟨g,off,none⟩) 1 c),(11,.int .i64 1),(12,.int .i64 (0:Nat)),(5,ptr b5),(6,ptr b6),(8,ptr b8),(66,.int .i64 h),(67,.int .i64 k)])
    (λk w'=>k≤h∧St w T0 ((b8,.cells ⟨DK (CX b8 y k) B⟩ HF (0,0))::(b6,.cells ⟨D7 b 0 A⟩ FM (0,0))::(b5,.cells ⟨[AG x.k,.int .i64 x.s,.bool x.d,AG v]⟩ Aq (0,0))::
     (b,.cells ⟨memC (A++B).length (An l) (A++CX b8 y k::B) ht hn hc turn'⟩ ET (0,0))::((D5 A (CX b8 y k::B)++EF B)++Lh)) w') (λk=>h-k) 0
    ⟨rfl,rfl,rfl,rfl,rfl,rfl,rfl,rfl,rfl,trivial⟩ ⟨Ag _,hS0⟩ ?_
   clear hS0;rintro k w10⟨hk,hS⟩;by_cases hkh:k<h
   ·have hk8:k<8:=AA;obtain⟨pv,hpv⟩:=u9 k B;rcases UK k A with hn0|⟨A0,y0,A2,hA0,hy0,hn0⟩
    ·have hlp:lastP (F8 b) k A= .pointer (some ⟨b,2,none⟩):=Ob _ _ hn0;have hnx:Bv k (A++CX b8 y k::B)=Bv k B:=by rw[Mz hn0,W3]
     (repeat(refine jt ⟨?_⟩;refine hS.q ?_;intro _ hS));refine jt ⟨?_⟩;refine AL.draw AK mixed (λw'=>St w _ _ w') [13] [0,1,2,3,4,5,6,7,8,9,10,11,12,13] AD hS.drew ?_;have hS:=hS.drew;refine jr ⟨?_⟩;refine hS.ldC (v:=lastP (F8 b) k A) (by rw[show 0+((k:Int)).toNat*1=k by omega];exact M6 b A k hk8) ?_;rw[hlp];refine jr ⟨?_⟩;refine hS.ldC (v:= .pointer pv) (by rw[show 2+4+((k:Int)).toNat*1=2+(4+k) by omega,tR _ _ _ _ _ _ _ k hk8,hnx,hpv]) ?_
     refine jr ⟨?_⟩;refine hS.stI (off:=0+4+((k:Int)).toNat*1) (l:=DK (CX b8 y k) B) (by rfl) (by rw[RT];omega) ?_;intro w11 hS;have hS:=hS;rw[show 0+4+((k:Int)).toNat*1=4+k by omega,←hpv,Wq b8 y k hk8 B]at hS;refine jq ⟨?_⟩;refine hS.ld (v:=lastP (F8 b) k A) (by rw[show 0+((k:Int)).toNat*1=k by omega];exact M6 b A k hk8) ?_;rw[hlp];refine jq ⟨?_⟩;refine hS.stI (off:=2+4+((k:Int)).toNat*1) (l:=memC (A++B).length (An l) (A++CX b8 y k::B) ht hn hc turn') (by rfl) (by rw[tS];omega) ?_
     intro w12 hS;have hS:=hS;rw[show 2+4+((k:Int)).toNat*1=2+(4+k) by omega,r8 hk8 hn0,Wt b8 y B hn0]at hS;refine jq ⟨?_⟩;exact⟨k+1,⟨rfl,rfl,rfl,rfl,rfl,rfl,rfl,rfl,rfl,trivial⟩,⟨AA,hS⟩,AA⟩
    ·have hlp:lastP (F8 b) k A= .pointer (some ⟨y0.b,0,none⟩):=by
      rw[hA0,Oa];show lastP (if k<y0.h then ptr y0.b else _) k A2=_;rw[if_pos hy0,Ob _ _ hn0]
     have hcl:F5 y0.h (A2++CX b8 y k::B) k=Bv k B:=by
      unfold F5;rw[if_pos hy0,Mz hn0,W3]
     have hNA: ∀R,D5 A R=D5 A0 (y0::A2++R)++((y0.b,.cells ⟨DK y0 (A2++R)⟩ HF (0,0))::D5 A2 R):=λR=>by rw[hA0,Ws];rfl
     have hS:=hS;rw[hNA]at hS;(repeat(refine jt ⟨?_⟩;refine hS.q ?_;intro _ hS));refine jt ⟨?_⟩;refine AL.draw AK mixed (λw'=>St w _ _ w') [13] [0,1,2,3,4,5,6,7,8,9,10,11,12,13] AD hS.drew ?_;have hS:=hS.drew;refine jr ⟨?_⟩;refine hS.ldC (v:=lastP (F8 b) k A) (by rw[show 0+((k:Int)).toNat*1=k by omega];exact M6 b A k hk8) ?_;rw[hlp];refine jr ⟨?_⟩;refine hS.ldC (v:= .pointer pv) (by rw[show 0+4+((k:Int)).toNat*1=4+k by omega,uQ _ _ k hk8,hcl,hpv]) ?_
     refine jr ⟨?_⟩;refine hS.stI (off:=0+4+((k:Int)).toNat*1) (l:=DK (CX b8 y k) B) (by rfl) (by rw[RT];omega) ?_;intro w11 hS;have hS:=hS;rw[show 0+4+((k:Int)).toNat*1=4+k by omega,←hpv,Wq b8 y k hk8 B]at hS;refine jq ⟨?_⟩;refine hS.ld (v:=lastP (F8 b) k A) (by rw[show 0+((k:Int)).toNat*1=k by omega];exact M6 b A k hk8) ?_;rw[hlp];refine jq ⟨?_⟩;refine hS.stI (off:=0+4+((k:Int)).toNat*1) (l:=DK y0 (A2++CX b8 y k::B)) (by rfl) (by rw[RT];omega) ?_
     intro w12 hS;have hS:=hS;rw[show 0+4+((k:Int)).toNat*1=4+k by omega,wA hk8 hy0 hn0,Wt b8 y B hn0,Wu (A:=A0) b8 y B (y0::A2) (.inr ⟨y0,CN,hy0⟩),tW ⟨y0,by rw[hA0];simp,hy0⟩]at hS;refine jq ⟨?_⟩;exact⟨k+1,⟨rfl,rfl,rfl,rfl,rfl,rfl,rfl,rfl,rfl,trivial⟩,⟨AA,by rw[hNA];exact hS⟩,AA⟩
   ·obtain rfl:k=h:=AA;have hll:(A++B).length=l.length:=by rw[←hl,BM]
    have hsz:An (DS y l)=An l+x.k.length+v.length:=by
     have e1:An l=An (A.map (·.e))+An (B.map (·.e)):=by rw[←hl,A7,G9]
     have e3:CS y=y.k.length+y.v.length:=rfl;have e2:An (DS y l)=An (A.map (·.e))+(CS y+An (B.map (·.e))):=by
      rw[hins,G9]
      congr 1
      cases B with
      |nil=>simp[An]
      |cons z B=>
       have:=hns z AB;simp only[A4];rw[if_neg (λh=>this ⟨h.1.trans hck.1.symm,h.2.trans hck.2.1.symm⟩)];simp[An]
     rw[hyv,hck.1]at e3;omega
    (repeat(refine jt ⟨?_⟩;refine hS.q ?_;intro _ hS));refine jt ⟨?_⟩;refine AL.draw AK mixed (λw'=>St w _ _ w') [16] [0,1,2,3,4,5,6,7,8,9,10,11,12,13,14,15,16] AD hS.drew ?_;have hS:=hS.drew;refine jr ⟨?_⟩;refine hS.q ?_;intro w11 hS;refine jq ⟨?_⟩;have e6:(An l:Int)+((x.k.length:Int)+(v.length:Int))=((An (DS y l):Nat):Int):=AA;have e7:(((A++B).length:Nat):Int)+1=(((A++CX b8 y k::B).length:Nat):Int):=by simp;omega
    have hS2:St w T0 ((b8,.cells ⟨DK (CX b8 y k) B⟩ HF (0,0))::(b6,.cells ⟨D7 b 0 A⟩ FM (0,0))::(b5,.cells ⟨[AG x.k,.int .i64 x.s,.bool x.d,AG v]⟩ Aq (0,0))::
     (b,.cells ⟨memC ((((A++B).length:Nat):Int)+1) ((An l:Int)+((x.k.length:Int)+(v.length:Int))) (A++CX b8 y k::B) ht hn hc turn'⟩ ET (0,0))::((D5 A (CX b8 y k::B)++EF B)++Lh)) w11:=hS
    rw[e6,e7]at hS2;have hS3:=hS2.sub (List.Sublist.cons_cons _ ((AS _ _).trans (AS _ _)));refine⟨1,⟨rfl,rfl,rfl,rfl,trivial⟩,.inr ⟨rfl,_,Fy.mk (A++CX b8 y k::B) ?_ ?_ ht hn hc hts Lh hv hhr turn' htn',?_⟩,AA⟩
    ·rw[hins,A7,A4]
     congr 1
     cases B with
     |nil=>rfl
     |cons z B=>
      have:=hns z AB;simp only[A4];rw[if_neg (λh=>this ⟨h.1.trans hck.1.symm,h.2.trans hck.2.1.symm⟩)]
      rfl
    ·intro u hu;rcases Bl.1 hu with hu|hu
     ·exact hhs u (by simp[hu])
     ·rcases As.1 hu with rfl|hu
      ·exact⟨hh1,hh8⟩
      ·exact hhs u (by simp[hu])
    ·rw[Mu];refine St.perm hS3 ?_;refine(List.Perm.swap _ _ _).trans (.cons _ ?_);rw[Aj,Aj];exact Dd.symm
end Go.Proofs.YtkgibdhpijdbfaaGreatDoor
namespace Go.Proofs
open Go.Shelf
def Tryz.keys150_ren:Go.Shelf.Ren:=⟨λ |7=>150|10=>187|n=>n,λ |23=>71|26=>9|3=>124|28=>255|0=>0|27=>254|33=>122|4=>4|n=>n,λ |n=>n⟩
theorem Tryz.keys150:Go.Proofs.SlLaysZ.n7 Tryz.prog Tryz.keys150_ren:={
 mixed:=AD
 f7:=⟨Tryz.f150.name,AC,Tryz.func150.trans (congrArg some AD)⟩
 f10:=⟨Tryz.f187.name,AC,Tryz.func187.trans (congrArg some AD)⟩
 t0:=Tryz.underlying0
 a0:=Tryz.isAgg0
 z0:=Tryz.sizeOf0
 v0:=Tryz.zeroValue0
 t4:=Tryz.underlying4
 a4:=Tryz.isAgg4
 z4:=Tryz.sizeOf4
 v4:=Tryz.zeroValue4
 t23:=Tryz.underlying71
 a23:=Tryz.isAgg71
 z23:=Tryz.sizeOf71
 v23:=Tryz.zeroValue71
 t26:=Tryz.underlying9
 a26:=Tryz.isAgg9
 z26:=Tryz.sizeOf9
 v26:=Tryz.zeroValue9
 t27:=Tryz.underlying254
 a27:=Tryz.isAgg254
 z27:=Tryz.sizeOf254
 v27:=Tryz.zeroValue254
 t28:=Tryz.underlying255
 a28:=Tryz.isAgg255
 z28:=Tryz.sizeOf255
 v28:=Tryz.zeroValue255
 t33:=Tryz.underlying122
 a33:=Tryz.isAgg122
 z33:=Tryz.sizeOf122
 v33:=Tryz.zeroValue122}
def Tryz.sorted149_ren:Go.Shelf.Ren:=⟨λ |6=>149|8=>185|9=>186|11=>216|13=>152|12=>217|23=>197|24=>198|14=>234|15=>235|16=>236|17=>237|18=>238|19=>239|20=>240|21=>241|22=>242|25=>253|26=>219|27=>220|28=>254|29=>255|30=>256|31=>260|n=>n,λ |26=>9|28=>255|24=>93|0=>0|3=>3|37=>155|48=>235|50=>159|4=>4|40=>293|39=>292|45=>117|5=>5|9=>9|51=>321|55=>324|57=>343|58=>344|33=>122|n=>n,λ |n=>n⟩
theorem Tryz.sorted149:Go.Proofs.SlLaysZ.n6 Tryz.prog Tryz.sorted149_ren:={
 mixed:=AD
 f6:=⟨Tryz.f149.name,AC,Tryz.func149.trans (congrArg some AD)⟩
 f8:=⟨Tryz.f185.name,AC,Tryz.func185.trans (congrArg some AD)⟩
 f11:=⟨Tryz.f216.name,AC,Tryz.func216.trans (congrArg some AD)⟩
 t0:=Tryz.underlying0
 a0:=Tryz.isAgg0
 z0:=Tryz.sizeOf0
 v0:=Tryz.zeroValue0
 t24:=Tryz.underlying93
 a24:=Tryz.isAgg93
 z24:=Tryz.sizeOf93
 v24:=Tryz.zeroValue93
 t26:=Tryz.underlying9
 a26:=Tryz.isAgg9
 z26:=Tryz.sizeOf9
 v26:=Tryz.zeroValue9
 t28:=Tryz.underlying255
 a28:=Tryz.isAgg255
 z28:=Tryz.sizeOf255
 v28:=Tryz.zeroValue255
 i26:=by kernel_rfl}
def Tryz.sort186_ren:Go.Shelf.Ren:=⟨λ |6=>186|8=>152|9=>217|19=>197|20=>198|21=>234|22=>235|23=>236|24=>237|25=>238|26=>239|27=>240|28=>241|29=>242|36=>253|31=>219|32=>220|37=>254|38=>255|39=>256|41=>260|n=>n,λ |27=>93|29=>9|3=>3|32=>155|26=>93|0=>0|44=>235|46=>159|4=>4|36=>293|35=>292|41=>117|5=>5|9=>9|53=>321|57=>324|63=>343|64=>344|n=>n,λ |n=>n⟩
theorem Tryz.sort186:Go.Proofs.SlLaysM.n6 Tryz.prog Tryz.sort186_ren:={
 mixed:=AD
 f6:=⟨Tryz.f186.name,AC,Tryz.func186.trans (congrArg some AD)⟩
 f8:=Tryz.func152.trans (congrArg some AD)
 f9:=⟨Tryz.f217.name,AC,Tryz.func217.trans (congrArg some AD)⟩
 f19:=Tryz.func197.trans (congrArg some AD)
 f20:=Tryz.func198.trans (congrArg some AD)
 f21:=⟨Tryz.f234.name,AC,Tryz.func234.trans (congrArg some AD)⟩
 f22:=⟨Tryz.f235.name,AC,Tryz.func235.trans (congrArg some AD)⟩
 f23:=⟨Tryz.f236.name,AC,Tryz.func236.trans (congrArg some AD)⟩
 f24:=⟨Tryz.f237.name,AC,Tryz.func237.trans (congrArg some AD)⟩
 f25:=⟨Tryz.f238.name,AC,Tryz.func238.trans (congrArg some AD)⟩
 f26:=⟨Tryz.f239.name,AC,Tryz.func239.trans (congrArg some AD)⟩
 f27:=⟨Tryz.f240.name,AC,Tryz.func240.trans (congrArg some AD)⟩
 f28:=⟨Tryz.f241.name,AC,Tryz.func241.trans (congrArg some AD)⟩
 f29:=⟨Tryz.f242.name,AC,Tryz.func242.trans (congrArg some AD)⟩
 f31:=Tryz.func219.trans (congrArg some AD)
 f32:=Tryz.func220.trans (congrArg some AD)
 f36:=⟨Tryz.f253.name,AC,Tryz.func253.trans (congrArg some AD)⟩
 f37:=⟨Tryz.f254.name,AC,Tryz.func254.trans (congrArg some AD)⟩
 f38:=⟨Tryz.f255.name,AC,Tryz.func255.trans (congrArg some AD)⟩
 f39:=⟨Tryz.f256.name,AC,Tryz.func256.trans (congrArg some AD)⟩
 f41:=⟨Tryz.f260.name,AC,Tryz.func260.trans (congrArg some AD)⟩
 t0:=Tryz.underlying0
 a0:=Tryz.isAgg0
 z0:=Tryz.sizeOf0
 v0:=Tryz.zeroValue0
 t3:=Tryz.underlying3
 a3:=Tryz.isAgg3
 z3:=Tryz.sizeOf3
 v3:=Tryz.zeroValue3
 t4:=Tryz.underlying4
 a4:=Tryz.isAgg4
 z4:=Tryz.sizeOf4
 v4:=Tryz.zeroValue4
 t5:=Tryz.underlying5
 a5:=Tryz.isAgg5
 z5:=Tryz.sizeOf5
 v5:=Tryz.zeroValue5
 t9:=Tryz.underlying9
 a9:=Tryz.isAgg9
 z9:=Tryz.sizeOf9
 v9:=Tryz.zeroValue9
 t26:=Tryz.underlying93
 a26:=Tryz.isAgg93
 z26:=Tryz.sizeOf93
 v26:=Tryz.zeroValue93
 t27:=Tryz.underlying93
 a27:=Tryz.isAgg93
 z27:=Tryz.sizeOf93
 v27:=Tryz.zeroValue93
 t29:=Tryz.underlying9
 a29:=Tryz.isAgg9
 z29:=Tryz.sizeOf9
 v29:=Tryz.zeroValue9
 t32:=Tryz.underlying155
 a32:=Tryz.isAgg155
 z32:=Tryz.sizeOf155
 v32:=Tryz.zeroValue155
 t35:=Tryz.underlying292
 a35:=Tryz.isAgg292
 z35:=Tryz.sizeOf292
 v35:=Tryz.zeroValue292
 t36:=Tryz.underlying293
 a36:=Tryz.isAgg293
 z36:=Tryz.sizeOf293
 v36:=Tryz.zeroValue293
 t41:=Tryz.underlying117
 a41:=Tryz.isAgg117
 z41:=Tryz.sizeOf117
 v41:=Tryz.zeroValue117
 t44:=Tryz.underlying235
 a44:=Tryz.isAgg235
 z44:=Tryz.sizeOf235
 v44:=Tryz.zeroValue235
 t46:=Tryz.underlying159
 a46:=Tryz.isAgg159
 z46:=Tryz.sizeOf159
 v46:=Tryz.zeroValue159
 t53:=Tryz.underlying321
 a53:=Tryz.isAgg321
 z53:=Tryz.sizeOf321
 v53:=Tryz.zeroValue321
 t57:=Tryz.underlying324
 a57:=Tryz.isAgg324
 z57:=Tryz.sizeOf324
 v57:=Tryz.zeroValue324
 t63:=Tryz.underlying343
 a63:=Tryz.isAgg343
 z63:=Tryz.sizeOf343
 v63:=Tryz.zeroValue343
 t64:=Tryz.underlying344
 a64:=Tryz.isAgg344
 z64:=Tryz.sizeOf344
 v64:=Tryz.zeroValue344}
open Go.RowKit Go.Maps Go.Sort
theorem Tryz.sorts149(m:Nat):AnyZ.SortsIn Tryz.prog Tryz.sorted149_ren Fence.wide m:=
 ⟨λblk off cap ss W hH hblk hsz=>callsIn_wide.2 (AnyM.slices_Sort_string Tryz.sort186 blk off cap ss W hH hblk hsz),
  λp cap W=>callsIn_wide.2 (AnyM.slices_Sort_string_none Tryz.sort186 p cap W)⟩
theorem Tryz.mapsKeys(mb:Option Nat)(W:World):CallsIn Fence.wide 5 Tryz.prog 150 #[.map mb] W λe w'=>e= .returned (.func (.func 187) #[] #[.pointer (some ⟨W.heap.size,0,none⟩)])∧w'=W.alloc (.cells #[.map mb] 71):=
 AnyZ.keys_in Tryz.keys150 Fence.wide 5 trivial rfl mb W
theorem Tryz.sortedKeys{H:Type}(b nn:Nat)(D0:DataW H)(R:Value→Option (DataW H×List MemPlace))(w:World)(hown:w.ownsMap Tryz.prog 9 R b nn D0)(hmax:Maps.size D0≤maxLen)(hbytes:Maps.size D0*16≤140737488355328):
  CallsIn Fence.wide 5 Tryz.prog 149 #[.func (.func 187) #[] #[.pointer (some ⟨w.heap.size,0,none⟩)]] (w.alloc (.cells #[.map (some b)] 71)) λe w'=>∃(v:Value)(ss:List (List UInt8)),e= .returned v∧ss.Perm (strKeys D0)∧
   w'.ownsRow (w.alloc (.cells #[.map (some b)] 71)).heap.size 9 1 v ss.length ((ss.mergeSort (λx y=>decide (x≤y))).map encStr)∧(v= .slice none 0 0↔ss=[])∧Below (w.alloc (.cells #[.map (some b)] 71)).heap.size (w.alloc (.cells #[.map (some b)] 71)) w':=by
 have hbl:=hown.lt;have hseq:SeqGives Fence.wide 2 Tryz.prog 187 #[.pointer (some ⟨w.heap.size,0,none⟩)] encStr (λss=>ss.Perm (strKeys D0)) (Maps.size D0) (w.alloc (.cells #[.map (some b)] 71)):=
  AnyZ.keys_gives (ρ:=Tryz.keys150_ren) {Tryz.keys150 with} Fence.wide _ trivial rfl AA w.heap.size b nn D0 _ AB AB (by
   obtain⟨es,clock,hb,Ft,hs,hD⟩:=hown;exact⟨es,clock,(Below.heap_alloc _ _ b hbl).trans hb,Ft,hs,hD⟩)
 exact AnyZ.sorted_in Tryz.sorted149 Fence.wide 5 trivial trivial trivial trivial rfl AA (Tryz.sorts149 _) (enters_of Tryz.func186 AD rfl) 187 #[.pointer (some ⟨w.heap.size,0,none⟩)] trivial (enters_of Tryz.func187 AD rfl) _ _ hmax hbytes _ hseq
theorem Tryz.callKeys: ∀(args:Array Value)(w:World),(callFunc 150 args).run Tryz.prog w= .ok (.enter 150 args) w:=Tryz.call150
theorem Tryz.callSorted: ∀(args:Array Value)(w:World),(callFunc 149 args).run Tryz.prog w= .ok (.enter 149 args) w:=Tryz.call149
end Go.Proofs
