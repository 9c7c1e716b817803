/- Texts of this claim, one behind the other. -/
import Derived.Test.YtkgibdhpijdbfaaGreatDoorZ2
import Derived.Test.YtkgibdhpijdbfaaGreatDoorZ6
import Derived.Test.YtkgibdhpijdbfaaGreatDoorZ3
set_option linter.unusedVariables false
set_option linter.unusedSimpArgs false
set_option maxHeartbeats 16000000
namespace Go.Proofs.YtkgibdhpijdbfaaGreatDoor
open Go Go.Eng Go.Proofs
theorem V4{w:World}{x:Int}:Cl Tryz.prog mG [.int .i64 x] w λv w'=>v= .bool false∧w=w':=by
 refine eB rfl ?_;refine jq ⟨?_⟩;simp only[decide_true,Bool.not_true];refine jq ⟨?_⟩;exact⟨rfl,rfl⟩
theorem Nx{w:World}{x y:Int}:Cl Tryz.prog mE [.int .i64 x,.int .i64 y] w λv w'=>v= .int .i64 (F6 x y)∧w=w':=by
 unfold F6;refine dY rfl ?_;refine jq ⟨?_⟩;refine V4.mono ?_;rintro _ _⟨rfl,rfl⟩;refine jq ⟨?_⟩;refine V4.mono ?_;rintro _ _⟨rfl,rfl⟩;by_cases h1:x<y
 ·rw[if_pos h1];refine jq ⟨?_⟩;exact⟨rfl,rfl⟩
 ·rw[if_neg h1];by_cases h2:y<x
  ·rw[if_pos h2];refine jq ⟨?_⟩;exact⟨rfl,rfl⟩
  ·rw[if_neg h2];refine jq ⟨?_⟩;exact⟨rfl,rfl⟩
theorem Rh{w:World}{g:Nat}{a b:Int}(hh:Holds [(g,.cells ⟨[.int .i64 a,.int .i64 b]⟩ BP (0,0))] w):
  Cl Tryz.prog mF [.slice (some ⟨g,0,none⟩) 2 2] w λv w'=>v= .int .i64 (if a=0 then b else a)∧St w [g] [(g,.cells ⟨[.int .i64 a,.int .i64 b]⟩ BP (0,0))] w':=by
 have hS:St w [g] [(g,.cells ⟨[.int .i64 a,.int .i64 b]⟩ BP (0,0))] w:=St.enter hh;refine dZ rfl ?_;refine jq ⟨?_⟩;refine AL.loop (λk:Nat=>[(3,.int .i64 0),(6,.slice (some ⟨g,0,none⟩) 2 2),(7,.int .i64 2),(8,.int .i64 k)])
  (λk w'=>(k≤2∧(0<k→a=0)∧(1<k→b=0))∧St w [g] [(g,.cells ⟨[.int .i64 a,.int .i64 b]⟩ BP (0,0))] w') (λk=>2-k) 0
  ⟨rfl,rfl,rfl,rfl,trivial⟩ ⟨⟨AA,nofun,nofun⟩,hS⟩ ?_
 clear hS;rintro k w1⟨⟨hk,h1,h2⟩,hS⟩
 match k,hk,h1,h2 with
 |0,hk,h1,h2=>
  (repeat(refine jt ⟨?_⟩;refine hS.q ?_;intro _ hS));refine jt ⟨?_⟩;by_cases ha:a=0
  ·(repeat(refine jt ⟨?_⟩;refine hS.q ?_;intro _ hS));refine jt ⟨?_⟩;exact⟨1,⟨rfl,rfl,rfl,rfl,trivial⟩,⟨⟨AA,λ_=>ha,nofun⟩,hS⟩,AA⟩
  ·rw[if_neg ha];(repeat(refine jt ⟨?_⟩;refine hS.q ?_;intro _ hS));refine jt ⟨?_⟩;exact⟨rfl,hS⟩
 |1,hk,h1,h2=>
  have ha:=h1 AA;rw[if_pos ha];(repeat(refine jt ⟨?_⟩;refine hS.q ?_;intro _ hS));refine jt ⟨?_⟩;by_cases hb:b=0
  ·(repeat(refine jt ⟨?_⟩;refine hS.q ?_;intro _ hS));refine jt ⟨?_⟩;exact⟨2,⟨rfl,rfl,rfl,rfl,trivial⟩,⟨⟨AA,λ_=>ha,λ_=>hb⟩,hS⟩,AA⟩
  ·(repeat(refine jt ⟨?_⟩;refine hS.q ?_;intro _ hS));refine jt ⟨?_⟩;exact⟨rfl,hS⟩
 |2,hk,h1,h2=>
  have ha:=h1 AA;have hb:=h2 AA;rw[if_pos ha];subst hb;(repeat(refine jt ⟨?_⟩;refine hS.q ?_;intro _ hS));refine jt ⟨?_⟩;exact⟨rfl,hS⟩
theorem wX(a b:AE)(w:World):(callFunc mP ⟨[AG a,AG b]⟩).run Tryz.prog w= .ok (.value (.int .i64 (Lib.compareBytes a b))) w:=by
 rw[run_callFunc_extern rO AD AD AD (e:=Extern.BytealgCompare.compare) AD];have:=Lib.run_compareString (P:=Tryz.prog) ⟨⟨a⟩⟩ ⟨⟨b⟩⟩ w;rw[show(Array.mk [AG a,AG b])= #[AG a,AG b]from rfl];rw[this]
 rfl
theorem Sm{w:World}(a b:AE):Cl Tryz.prog pR [AG a,AG b] w λv w'=>v= .int .i64 (Lib.compareBytes a b)∧St w [] [] w':=by
 have hS:=St.start w;refine jV rfl ?_;refine jq ⟨?_⟩;refine Cl.mono (P:=Tryz.prog) (R:=λv w'=>v= .int .i64 (Lib.compareBytes a b)∧St w [] [] w') ?_ ?_
 ·refine eI rfl ?_;refine jq ⟨?_⟩;refine Cl.val (wX a b w) ?_;refine jq ⟨?_⟩;exact⟨rfl,hS⟩
 ·rintro _ w3⟨rfl,hS⟩;refine jq ⟨?_⟩;exact⟨rfl,hS⟩
def B9(e:AF):Value:= .agg ⟨AU e⟩
theorem UT(x y:AF):(if Lib.compareBytes x.k y.k=0 then F6 y.s x.s else Lib.compareBytes x.k y.k)=G3 x y:=by
 unfold G3 F6;by_cases h:Lib.compareBytes x.k y.k=0
 ·simp[h]
 ·simp[h]
theorem RO(x y:AF)(w:World):Cl Tryz.prog nQ [B9 x,B9 y] w λv w'=>v= .int .i64 (G3 x y)∧St w [] [] w':=by
 have hS:=St.start w;unfold B9 AU;refine fO rfl ?_;refine jq ⟨?_⟩;refine hS.al ?_;intro b2 w2 _ hS;refine jq ⟨?_⟩;refine hS.al ?_;intro b3 w3 _ hS;refine jq ⟨?_⟩;refine AL.draw AK mixed (λw'=>St w [] [(b3,.cells ⟨[AG y.k,.int .i64 y.s,.bool y.d,AG y.v]⟩ Aq (0,0)),(b2,.cells ⟨[AG x.k,.int .i64 x.s,.bool x.d,AG x.v]⟩ Aq (0,0))] w') [11,12] [0,1,2,3,5,6,7,8,4,9,10,11,12] AD hS.drew ?_;have hS:=hS.drew
 generalize w3.drew=w4 at hS;refine jr ⟨?_⟩;refine(Sm x.k y.k).mono ?_;rintro _ w5⟨rfl,hS'⟩;have hS:=hS.call0 hS';refine Ae.mk hS ?_;refine jr ⟨?_⟩;refine Nx.mono ?_;rintro _ _⟨rfl,rfl⟩;refine Ae.mk hS ?_;refine jr ⟨?_⟩;refine hS.al ?_;intro g w6 _ hS;refine Ae.mk (hS.sub (AS _ _)) ?_;refine jr ⟨?_⟩;refine(Rh (hS.part (L:=[(g,.cells ⟨[.int .i64 (Lib.compareBytes x.k y.k),.int .i64 (F6 y.s x.s)]⟩ BP (0,0))]))).mono ?_
 rintro _ w7⟨rfl,hS'⟩;have hS:=hS.call (L:=[(g,.cells ⟨[.int .i64 (Lib.compareBytes x.k y.k),.int .i64 (F6 y.s x.s)]⟩ BP (0,0))]) hS';refine jr ⟨?_⟩;rw[UT];refine jq ⟨?_⟩;exact⟨rfl,hS.nil⟩
theorem Wd(x y:AF)(w:World):Cl Tryz.prog nW [B9 x,B9 y] w λv w'=>v= .int .i64 (G3 x y)∧St w [] [] w':=by
 have hS:=St.start w;unfold B9 AU;refine fV rfl ?_;refine jq ⟨?_⟩;refine hS.al ?_;intro b2 w2 _ hS;refine jq ⟨?_⟩;refine hS.al ?_;intro b3 w3 _ hS;refine jq ⟨?_⟩;refine AL.draw AK mixed (λw'=>St w [] [(b3,.cells ⟨[AG y.k,.int .i64 y.s,.bool y.d,AG y.v]⟩ Aq (0,0)),(b2,.cells ⟨[AG x.k,.int .i64 x.s,.bool x.d,AG x.v]⟩ Aq (0,0))] w') [11,12] [0,1,2,3,5,6,7,8,4,9,10,11,12] AD hS.drew ?_;have hS:=hS.drew
 generalize w3.drew=w4 at hS;refine jr ⟨?_⟩;refine(Sm x.k y.k).mono ?_;rintro _ w5⟨rfl,hS'⟩;have hS:=hS.call0 hS';refine Ae.mk hS ?_;refine jr ⟨?_⟩;refine Nx.mono ?_;rintro _ _⟨rfl,rfl⟩;refine Ae.mk hS ?_;refine jr ⟨?_⟩;refine hS.al ?_;intro g w6 _ hS;refine Ae.mk (hS.sub (AS _ _)) ?_;refine jr ⟨?_⟩;refine(Rh (hS.part (L:=[(g,.cells ⟨[.int .i64 (Lib.compareBytes x.k y.k),.int .i64 (F6 y.s x.s)]⟩ BP (0,0))]))).mono ?_
 rintro _ w7⟨rfl,hS'⟩;have hS:=hS.call (L:=[(g,.cells ⟨[.int .i64 (Lib.compareBytes x.k y.k),.int .i64 (F6 y.s x.s)]⟩ BP (0,0))]) hS';refine jr ⟨?_⟩;rw[UT];refine jq ⟨?_⟩;exact⟨rfl,hS.nil⟩
end Go.Proofs.YtkgibdhpijdbfaaGreatDoor
namespace Go.Proofs.YtkgibdhpijdbfaaGreatDoor
open Go Go.Eng Go.Proofs Go.Srt
theorem SC{w:World}{g cap len:Nat}{a b n:Int}{l P A Q B S:List AF}{tail:List Value}{F:Value}(hh:Holds [(g,.cells ⟨l.flatMap AU++tail⟩ Aq (0,0))] w)(hl:l=P++A++Q++B++S)(hAB:A.length=B.length)(hlL:l.length=len)(hlen:len≤16777216)(ha:a=P.length)(hb:b=P.length+A.length+Q.length)(hn:n=A.length):
  Cl Tryz.prog oZ [.slice (some ⟨g,0,none⟩) len cap,.int .i64 a,.int .i64 b,.int .i64 n,F] w λ_ w'=>St w [g] [(g,.cells ⟨(P++B++Q++A++S).flatMap AU++tail⟩ Aq (0,0))] w':=by
 have hS:St w [g] [(g,.cells ⟨l.flatMap AU++tail⟩ Aq (0,0))] w:=St.enter hh;have hll:l.length=P.length+A.length+Q.length+B.length+S.length:=by rw[hl];simp only[AP]
 refine gZ rfl ?_;refine jq ⟨?_⟩;refine AL.loop (λk:Nat=>[(0,.slice (some ⟨g,0,none⟩) len cap),(1,.int .i64 a),(2,.int .i64 b),(3,.int .i64 n),(10,.int .i64 k)])
  (λk w'=>k≤A.length∧St w [g] [(g,.cells ⟨(rg P A Q B S k).flatMap AU++tail⟩ Aq (0,0))] w') (λk=>A.length-k) 0
  ⟨rfl,rfl,rfl,rfl,rfl,trivial⟩ ⟨Ag _,by rw[Xu,←hl];exact hS⟩ ?_
 clear hS;rintro k w1⟨hk,hS⟩;have hrl:=Xs (P:=P) (Q:=Q) (S:=S) (k:=k) hAB;by_cases hkl:k<A.length
 ·have hi:P.length+k<(rg P A Q B S k).length:=AA;have hj:P.length+A.length+Q.length+k<(rg P A Q B S k).length:=AA;have hsw:=Xt hAB hkl hi hj rfl rfl;refine jq ⟨?_⟩;refine AL.draw AK mixed (λw'=>St w [g] [(g,.cells ⟨(rg P A Q B S k).flatMap AU++tail⟩ Aq (0,0))] w') [4,5,6,7,21,22,23] [4,5,6,7,0,1,2,3,8,9,10,11,12,13,14,15,16,17,18,19,20,21,22,23] AD hS.drew ?_;have hS:=hS.drew;refine jr ⟨?_⟩;refine St.ldEC (sz:=4) (λ_=>rfl) hS hj ?_ ?_
  ·omega
  refine jr ⟨?_⟩;refine St.ldEC (sz:=4) (λ_=>rfl) hS hi ?_ ?_
  ·omega
  refine jr ⟨?_⟩;refine St.stE (sz:=4) (λ_=>rfl) (λ_=>rfl) hS hi ?_ ?_
  ·omega
  intro w2 hS;refine jr ⟨?_⟩;refine St.stE (sz:=4) (λ_=>rfl) (λ_=>rfl) hS (k:=P.length+A.length+Q.length+k) (by rw[IN];exact hj) ?_ ?_
  ·omega
  intro w3 hS;simp only[hsw]at hS;refine jq ⟨?_⟩;exact⟨k+1,⟨rfl,rfl,rfl,rfl,rfl,trivial⟩,⟨AA,hS⟩,AA⟩
 ·refine jq ⟨?_⟩;rw[Xr hAB AA]at hS;exact hS
structure Zn where
 P:List AF
 U:List AF
 V:List AF
 S:List AF
theorem wR{w:World}{g cap len:Nat}{a m b:Int}{l P U V S:List AF}{tail:List Value}{F:Value}(hh:Holds [(g,.cells ⟨l.flatMap AU++tail⟩ Aq (0,0))] w)(hl:l=P++U++V++S)(hlL:l.length=len)(hlen:len≤16777216)(ha:a=P.length)(hm:m=P.length+U.length)(hb:b=P.length+U.length+V.length)(hU:0<U.length)(hV:0<V.length):
  Cl Tryz.prog oX [.slice (some ⟨g,0,none⟩) len cap,.int .i64 a,.int .i64 m,.int .i64 b,F] w λ_ w'=>St w [g] [(g,.cells ⟨(P++V++U++S).flatMap AU++tail⟩ Aq (0,0))] w':=by
 have hS:St w [g] [(g,.cells ⟨l.flatMap AU++tail⟩ Aq (0,0))] w:=St.enter hh;have hll:l.length=P.length+U.length+V.length+S.length:=by rw[hl];simp only[AP]
 refine gX rfl ?_;refine jq ⟨?_⟩;refine AL.loop (λx:Zn=>[(0,.slice (some ⟨g,0,none⟩) len cap),(2,.int .i64 m),(4,F),(10,.int .i64 x.U.length),(11,.int .i64 x.V.length)])
  (λx w'=>(P++V++U++S=x.P++x.V++x.U++x.S∧m=x.P.length+x.U.length∧0<x.U.length∧0<x.V.length)∧St w [g] [(g,.cells ⟨(x.P++x.U++x.V++x.S).flatMap AU++tail⟩ Aq (0,0))] w') (λx=>x.U.length+x.V.length) ⟨P,U,V,S⟩
  ⟨rfl,rfl,rfl,by show _=Value.int .i64 _;congr 1;simp only;omega,by show _=Value.int .i64 _;congr 1;simp only;omega,trivial⟩ ⟨⟨rfl,hm,hU,hV⟩,by rw[←hl];exact hS⟩ ?_
 clear hS;rintro⟨P1,U1,V1,S1⟩w1⟨⟨hT,hm1,hU1,hV1⟩,hS⟩;simp only at hT hm1 hU1 hV1 hS⊢;have hl1:(P1++U1++V1++S1).length=len:=by
  have:=congrArg List.length hT;simp only[AP]at this⊢;omega
 have hl2:(P1++U1++V1++S1).length=P1.length+U1.length+V1.length+S1.length:=by simp only[AP]
 by_cases hne:U1.length=V1.length
 ·refine jq ⟨?_⟩;refine(SC hS.holds (Q:=[]) (A:=U1) (B:=V1) (P:=P1) (S:=S1) (by rw[BU]) hne hl1 hlen AA (by simp only[Bo];omega) rfl).mono ?_;intro _ w2 hS';have hS:=hS.call1 hS';rw[BU,←hT]at hS;refine jq ⟨?_⟩;exact hS
 ·by_cases hgt:V1.length<U1.length
  ·obtain⟨X,Y,hXY,hX⟩: ∃X Y,U1=X++Y∧X.length=V1.length:=⟨U1.take V1.length,U1.drop V1.length,(CO _ _).symm,by rw[BR];omega⟩;have hY:U1.length=V1.length+Y.length:=by rw[hXY,AP,hX]
   refine jq ⟨?_⟩;refine(SC hS.holds (Q:=Y) (A:=X) (B:=V1) (P:=P1) (S:=S1) (by rw[hXY];simp only[Aj]) hX hl1 hlen AA AA AA).mono ?_;intro _ w2 hS';have hS:=hS.call1 hS';refine jq ⟨?_⟩;refine⟨⟨P1++V1,Y,X,S1⟩,⟨rfl,rfl,rfl,by show _=Value.int .i64 _;congr 1;simp only;omega,by show _=Value.int .i64 _;congr 1;simp only;omega,trivial⟩,⟨⟨by rw[hT,hXY];simp only[Aj],by simp only[AP];omega,by simp only;omega,by simp only;omega⟩,hS⟩,by simp only;omega⟩
  ·obtain⟨X,Y,hXY,hY⟩: ∃X Y,V1=X++Y∧Y.length=U1.length:=⟨V1.take (V1.length-U1.length),V1.drop (V1.length-U1.length),(CO _ _).symm,by rw[Do];omega⟩;have hX:V1.length=X.length+U1.length:=by rw[hXY,AP,hY]
   refine jq ⟨?_⟩;refine(SC hS.holds (Q:=X) (A:=U1) (B:=Y) (P:=P1) (S:=S1) (by rw[hXY];simp only[Aj]) hY.symm hl1 hlen AA AA rfl).mono ?_;intro _ w2 hS';have hS:=hS.call1 hS';refine jq ⟨?_⟩;refine⟨⟨P1,Y,X,U1++S1⟩,⟨rfl,rfl,rfl,by show _=Value.int .i64 _;congr 1;simp only;omega,by show _=Value.int .i64 _;congr 1;simp only;omega,trivial⟩,⟨⟨by rw[hT,hXY];simp only[Aj],by simp only;omega,by simp only;omega,by simp only;omega⟩,by simp only[Aj]at hS⊢;exact hS⟩,by simp only;omega⟩
end Go.Proofs.YtkgibdhpijdbfaaGreatDoor
namespace Go.Proofs.YtkgibdhpijdbfaaGreatDoor
open Go Go.Eng Go.Proofs
abbrev AO:=AE×AE
def BN(r:AO):List Value:=[AG r.1,.bool false,AG r.2]
theorem Re(r:AO):(BN r).length=3:=rfl
def EQ(r q:AO):Prop:=Op.bytesLess r.1 q.1=true
theorem Xl(l:List AO):(l.flatMap BN).length=3*l.length:=by
 induction l with
 |nil=>rfl
 |cons p ps ih=>rw[FA,AP,ih,Re,Ai];omega
theorem wJ(l:List AO)(k:Nat)(hk:k<l.length):((l.flatMap BN).drop (k*3)).take 3=BN l[k]:=by
 induction l generalizing k with
 |nil=>simp at hk
 |cons p ps ih=>
  cases k with
  |zero=>simp only[Nat.zero_mul,List.drop_zero,FA,JU];exact Gl (Re p)
  |succ k=>
   rw[FA,show(k+1)*3=(BN p).length+k*3 by rw[Re];omega,List.drop_length_add_append];exact ih k (by simpa using hk)
theorem LO(l:List AO)(k:Nat)(hk:k<l.length):(l.flatMap BN)[k*3]?=some (AG l[k].1):=by
 have h:=wJ l k hk;have h2:=congrArg (λx=>x[0]?) h;simp only[IM,It,Nat.add_zero]at h2;simpa[BN]using h2
end Go.Proofs.YtkgibdhpijdbfaaGreatDoor
