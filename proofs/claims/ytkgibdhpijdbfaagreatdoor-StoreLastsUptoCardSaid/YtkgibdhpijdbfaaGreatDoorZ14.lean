/- Texts of this claim, one behind the other. -/
import Derived.Test.YtkgibdhpijdbfaaGreatDoorZ8
import Derived.Test.YtkgibdhpijdbfaaGreatDoorZ2
import Derived.Test.YtkgibdhpijdbfaaGreatDoorZ4
import Derived.Test.YtkgibdhpijdbfaaGreatDoorZ5
import Derived.Test.YtkgibdhpijdbfaaGreatDoorZ9
import Derived.Test.YtkgibdhpijdbfaaGreatDoorZ11
import Derived.Test.YtkgibdhpijdbfaaGreatDoorZ3
import Derived.WideLaws
set_option linter.unusedVariables false
set_option linter.unusedSimpArgs false
set_option maxHeartbeats 16000000
namespace Go.Proofs.YtkgibdhpijdbfaaGreatDoor
open Go Go.Eng Go.Proofs Go.Srt
structure zR(β:Type)where
 cv:β→List Value
 lt:β→β→Bool
abbrev Af:=Int×Int
def Ad(f:Af):List Value:=[.int .i64 f.1,.int .i64 f.2]
def Fl(f:Af):Value:= .agg ⟨Ad f⟩
theorem SA{w:World}{g cap len:Nat}{a b n:Int}{l P A Q B S:List Af}{tail:List Value}{F:Value}(hh:Holds [(g,.cells ⟨l.flatMap Ad++tail⟩ BE (0,0))] w)(hl:l=P++A++Q++B++S)(hAB:A.length=B.length)(hlL:l.length=len)(hlen:len≤16777216)(ha:a=P.length)(hb:b=P.length+A.length+Q.length)(hn:n=A.length):
  Cl Tryz.prog o4 [.slice (some ⟨g,0,none⟩) len cap,.int .i64 a,.int .i64 b,.int .i64 n,F] w λ_ w'=>St w [g] [(g,.cells ⟨(P++B++Q++A++S).flatMap Ad++tail⟩ BE (0,0))] w':=by
 have hS:St w [g] [(g,.cells ⟨l.flatMap Ad++tail⟩ BE (0,0))] w:=St.enter hh;have hll:l.length=P.length+A.length+Q.length+B.length+S.length:=by rw[hl];simp only[AP]
 refine hZ rfl ?_;refine jq ⟨?_⟩;refine AM.loop (λk:Nat=>[(0,.slice (some ⟨g,0,none⟩) len cap),(1,.int .i64 a),(2,.int .i64 b),(3,.int .i64 n),(10,.int .i64 k)])
  (λk w'=>k≤A.length∧St w [g] [(g,.cells ⟨(rg P A Q B S k).flatMap Ad++tail⟩ BE (0,0))] w') (λk=>A.length-k) 0
  ⟨rfl,rfl,rfl,rfl,rfl,trivial⟩ ⟨Ag _,by rw[Xx,←hl];exact hS⟩ ?_
 clear hS;rintro k w1⟨hk,hS⟩;have hrl:=Xv (P:=P) (Q:=Q) (S:=S) (k:=k) hAB;by_cases hkl:k<A.length
 ·have hi:P.length+k<(rg P A Q B S k).length:=AA;have hj:P.length+A.length+Q.length+k<(rg P A Q B S k).length:=AA;have hsw:=Xw hAB hkl hi hj rfl rfl;refine jq ⟨?_⟩;refine AM.draw AK mixed (λw'=>St w [g] [(g,.cells ⟨(rg P A Q B S k).flatMap Ad++tail⟩ BE (0,0))] w') [4,5,6,7,21,22,23] [4,5,6,7,0,1,2,3,8,9,10,11,12,13,14,15,16,17,18,19,20,21,22,23] AD hS.drew ?_;have hS:=hS.drew;refine jr ⟨?_⟩;refine St.ldEC (sz:=2) (λ_=>rfl) hS hj ?_ ?_
  ·omega
  refine jr ⟨?_⟩;refine St.ldEC (sz:=2) (λ_=>rfl) hS hi ?_ ?_
  ·omega
  refine jr ⟨?_⟩;refine St.stE (sz:=2) (λ_=>rfl) (λ_=>rfl) hS hi ?_ ?_
  ·omega
  intro w2 hS;refine jr ⟨?_⟩;refine St.stE (sz:=2) (λ_=>rfl) (λ_=>rfl) hS (k:=P.length+A.length+Q.length+k) (by rw[Iv];exact hj) ?_ ?_
  ·omega
  intro w3 hS;simp only[hsw]at hS;refine jq ⟨?_⟩;exact⟨k+1,⟨rfl,rfl,rfl,rfl,rfl,trivial⟩,⟨AA,hS⟩,AA⟩
 ·refine jq ⟨?_⟩;rw[Xu hAB AA]at hS;exact hS
structure Zu where
 P:List Af
 U:List Af
 V:List Af
 S:List Af
theorem wS{w:World}{g cap len:Nat}{a m b:Int}{l P U V S:List Af}{tail:List Value}{F:Value}(hh:Holds [(g,.cells ⟨l.flatMap Ad++tail⟩ BE (0,0))] w)(hl:l=P++U++V++S)(hlL:l.length=len)(hlen:len≤16777216)(ha:a=P.length)(hm:m=P.length+U.length)(hb:b=P.length+U.length+V.length)(hU:0<U.length)(hV:0<V.length):
  Cl Tryz.prog oY [.slice (some ⟨g,0,none⟩) len cap,.int .i64 a,.int .i64 m,.int .i64 b,F] w λ_ w'=>St w [g] [(g,.cells ⟨(P++V++U++S).flatMap Ad++tail⟩ BE (0,0))] w':=by
 have hS:St w [g] [(g,.cells ⟨l.flatMap Ad++tail⟩ BE (0,0))] w:=St.enter hh;have hll:l.length=P.length+U.length+V.length+S.length:=by rw[hl];simp only[AP]
 refine g8 rfl ?_;refine jq ⟨?_⟩;refine AM.loop (λx:Zu=>[(0,.slice (some ⟨g,0,none⟩) len cap),(2,.int .i64 m),(4,F),(10,.int .i64 x.U.length),(11,.int .i64 x.V.length)])
  (λx w'=>(P++V++U++S=x.P++x.V++x.U++x.S∧m=x.P.length+x.U.length∧0<x.U.length∧0<x.V.length)∧St w [g] [(g,.cells ⟨(x.P++x.U++x.V++x.S).flatMap Ad++tail⟩ BE (0,0))] w') (λx=>x.U.length+x.V.length) ⟨P,U,V,S⟩
  ⟨rfl,rfl,rfl,by show _=Value.int .i64 _;congr 1;simp only;omega,by show _=Value.int .i64 _;congr 1;simp only;omega,trivial⟩ ⟨⟨rfl,hm,hU,hV⟩,by rw[←hl];exact hS⟩ ?_
 clear hS;rintro⟨P1,U1,V1,S1⟩w1⟨⟨hT,hm1,hU1,hV1⟩,hS⟩;simp only at hT hm1 hU1 hV1 hS⊢;have hl1:(P1++U1++V1++S1).length=len:=by
  have:=congrArg List.length hT;simp only[AP]at this⊢;omega
 have hl2:(P1++U1++V1++S1).length=P1.length+U1.length+V1.length+S1.length:=by simp only[AP]
 by_cases hne:U1.length=V1.length
 ·refine jq ⟨?_⟩;refine(SA hS.holds (Q:=[]) (A:=U1) (B:=V1) (P:=P1) (S:=S1) (by rw[BT]) hne hl1 hlen AA (by simp only[Bv];omega) rfl).mono ?_;intro _ w2 hS';have hS:=hS.call1 hS';rw[BT,←hT]at hS;refine jq ⟨?_⟩;exact hS
 ·by_cases hgt:V1.length<U1.length
  ·obtain⟨X,Y,hXY,hX⟩: ∃X Y,U1=X++Y∧X.length=V1.length:=⟨U1.take V1.length,U1.drop V1.length,(CN _ _).symm,by rw[Ba];omega⟩;have hY:U1.length=V1.length+Y.length:=by rw[hXY,AP,hX]
   refine jq ⟨?_⟩;refine(SA hS.holds (Q:=Y) (A:=X) (B:=V1) (P:=P1) (S:=S1) (by rw[hXY];simp only[Aj]) hX hl1 hlen AA AA AA).mono ?_;intro _ w2 hS';have hS:=hS.call1 hS';refine jq ⟨?_⟩;refine⟨⟨P1++V1,Y,X,S1⟩,⟨rfl,rfl,rfl,by show _=Value.int .i64 _;congr 1;simp only;omega,by show _=Value.int .i64 _;congr 1;simp only;omega,trivial⟩,⟨⟨by rw[hT,hXY];simp only[Aj],by simp only[AP];omega,by simp only;omega,by simp only;omega⟩,hS⟩,by simp only;omega⟩
  ·obtain⟨X,Y,hXY,hY⟩: ∃X Y,V1=X++Y∧Y.length=U1.length:=⟨V1.take (V1.length-U1.length),V1.drop (V1.length-U1.length),(CN _ _).symm,by rw[D3];omega⟩;have hX:V1.length=X.length+U1.length:=by rw[hXY,AP,hY]
   refine jq ⟨?_⟩;refine(SA hS.holds (Q:=X) (A:=U1) (B:=Y) (P:=P1) (S:=S1) (by rw[hXY];simp only[Aj]) hY.symm hl1 hlen AA AA rfl).mono ?_;intro _ w2 hS';have hS:=hS.call1 hS';refine jq ⟨?_⟩;refine⟨⟨P1,Y,X,U1++S1⟩,⟨rfl,rfl,rfl,by show _=Value.int .i64 _;congr 1;simp only;omega,by show _=Value.int .i64 _;congr 1;simp only;omega,trivial⟩,⟨⟨by rw[hT,hXY];simp only[Aj],by simp only;omega,by simp only;omega,by simp only;omega⟩,by simp only[Aj]at hS⊢;exact hS⟩,by simp only;omega⟩
structure ZV where
 M:List Af
 k:Nat
structure ZZ where
 U:List Af
 V:List Af
theorem V3{fc:FuncId}{cm:Af→Af→Int}(hO:Ord λx y=>decide (cm x y<0))(hcm: ∀(x y:Af)(w:World),Cl Tryz.prog fc [Fl x,Fl y] w λv w'=>v= .int .i64 (cm x y)∧St w [] [] w'){w:World}{g cap len:Nat}{a b:Int}{l P M S:List Af}{tail:List Value}(hh:Holds [(g,.cells ⟨l.flatMap Ad++tail⟩ BE (0,0))] w)(hl:l=P++M++S)(hlL:l.length=len)(hlen:len≤16777216)(ha:a=P.length)(hb:b=P.length+M.length):
  Cl Tryz.prog Uy [.slice (some ⟨g,0,none⟩) len cap,.int .i64 a,.int .i64 b,.func (.func fc) ⟨[]⟩ ⟨[]⟩] w λ_ w'=>∃M',M'.Perm M∧Srt (λx y=>decide (cm x y<0)) M'∧St w [g] [(g,.cells ⟨(P++M'++S).flatMap Ad++tail⟩ BE (0,0))] w':=by
 have hS:St w [g] [(g,.cells ⟨l.flatMap Ad++tail⟩ BE (0,0))] w:=St.enter hh;have hll:len=P.length+M.length+S.length:=by rw[←hlL,hl];simp only[AP]
 subst hl;refine Ue rfl ?_;refine jq ⟨?_⟩;refine AM.loop (λx:ZV=>[(0,.slice (some ⟨g,0,none⟩) len cap),(1,.int .i64 a),(2,.int .i64 b),(3,.func (.func fc) ⟨[]⟩ ⟨[]⟩),(8,.int .i64 (a+1+x.k))])
  (λx w'=>(x.M.Perm M∧(0<M.length→x.k+1≤M.length)∧Srt (λx y=>decide (cm x y<0)) (x.M.take (x.k+1)))∧St w [g] [(g,.cells ⟨(P++x.M++S).flatMap Ad++tail⟩ BE (0,0))] w') (λx=>M.length-x.k) ⟨M,0⟩
  ⟨rfl,rfl,rfl,rfl,by show _=Value.int .i64 _;congr 1;simp only;omega,trivial⟩ ⟨⟨List.Perm.refl _,by simp only;omega,by cases M with|nil=>exact Srt.nil|cons z M=>exact List.pairwise_singleton _ _⟩,hS⟩ ?_
 clear hS;rintro⟨M1,k⟩w1⟨⟨hp,hk,hs⟩,hS⟩;simp only at hp hk hs hS⊢;have hpl:=hp.length_eq;by_cases hkl:k+1<M.length
 ·obtain⟨B,x,R,hM1,hB, -⟩:=cut_at (l:=M1) (k:=k+1) AA;rw[hM1,Gm hB]at hs;subst hM1;refine jq ⟨?_⟩;refine AM.loop (λy:ZZ=>[(0,.slice (some ⟨g,0,none⟩) len cap),(1,.int .i64 a),(2,.int .i64 b),(3,.func (.func fc) ⟨[]⟩ ⟨[]⟩),(8,.int .i64 (a+1+k)),(9,.int .i64 (a+y.U.length))])
   (λy w'=>(y.U++y.V=B∧ ∀v∈y.V,decide (cm x v<0)=true)∧St w [g] [(g,.cells ⟨(P++(y.U++x::y.V++R)++S).flatMap Ad++tail⟩ BE (0,0))] w') (λy=>y.U.length) ⟨B,[]⟩
   ⟨rfl,rfl,rfl,rfl,rfl,by show _=Value.int .i64 _;congr 1;simp only;omega,trivial⟩ ⟨⟨AB,AB⟩,by simpa using hS⟩ ?_
  clear hS;rintro⟨U,V⟩w2⟨⟨hUV,hV⟩,hS⟩;simp only at hUV hV hS⊢;have hUl:U.length+V.length=k+1:=by rw[←hB,←hUV,AP]
  have hcl:(P++(U++x::V++R)++S).length=len:=by
   have:=hp.length_eq;simp only[AP,Ah]at this⊢;omega
  by_cases hU:U=[]
  ·subst hU;simp only[Bv];refine jq ⟨?_⟩;refine AM.draw AK mixed (λw'=>St w [g] [(g,.cells ⟨(P++([]++x::V++R)++S).flatMap Ad++tail⟩ BE (0,0))] w') [14,15,16] [0,1,2,3,4,5,6,7,8,9,10,11,12,13,14,15,16] AD hS.drew ?_;have hS:=hS.drew;refine jr ⟨?_⟩;refine⟨⟨x::V++R,k+1⟩,⟨rfl,rfl,rfl,rfl,by show _=Value.int .i64 _;congr 1;simp only;omega,trivial⟩,⟨⟨?_,by simp only;omega,?_⟩,by simpa using hS⟩,by simp only;omega⟩
   ·refine List.Perm.trans ?_ hp;rw[←hUV,Ca];simp only[D1];exact Dd.symm
   ·have e4:(x::V++R).take (k+1+1)=x::V:=Gm (by rw[Bv]at hUl;simp only[Ah];omega);simp only[e4];rw[←hUV]at hs;exact insert_sorted hO (U:=[]) hs hV nofun
  ·obtain⟨U',u,rfl⟩: ∃U' u,U=U'++[u]:=⟨U.dropLast,U.getLast hU,(List.dropLast_concat_getLast hU).symm⟩;rw[AP,D4]at hUl;have hUu:(U'++[u]).length=U'.length+1:=AB;rw[hUu];have e0:P++(U'++[u]++x::V++R)++S=(P++U')++u::x::(V++R++S):=AB;rw[e0]at hS;have hi:P.length+U'.length<((P++U')++u::x::(V++R++S)).length:=by simp only[AP,Ah];omega
   have hj:P.length+U'.length+1<((P++U')++u::x::(V++R++S)).length:=by simp only[AP,Ah];omega
   have e1:((P++U')++u::x::(V++R++S))[P.length+U'.length]=u:=IH _ _ _ _ _ (by rw[AP]);have e2:((P++U')++u::x::(V++R++S))[P.length+U'.length+1]=x:=Kz _ _ _ _ _ _ (by rw[AP]);have hsw:=PE (P++U') (V++R++S) u x (P.length+U'.length) (by rw[AP]);refine jq ⟨?_⟩;refine AM.draw AK mixed (λw'=>St w [g] [(g,.cells ⟨(P++U'++u::x::(V++R++S)).flatMap Ad++tail⟩ BE (0,0))] w') [14,15,16] [0,1,2,3,4,5,6,7,8,9,10,11,12,13,14,15,16] AD hS.drew ?_
   have hS:=hS.drew;refine jr ⟨?_⟩;refine St.ldEC (sz:=2) (cv:=Ad) (λ_=>rfl) hS hj ?_ ?_
   ·omega
   rw[e2];refine jr ⟨?_⟩;refine St.ldEC (sz:=2) (cv:=Ad) (λ_=>rfl) hS hi ?_ ?_
   ·omega
   rw[e1];refine jr ⟨?_⟩;refine(hcm x u _).mono ?_;rintro _ w3⟨rfl,hS'⟩;have hS:=hS.call0 hS';by_cases hlt:cm x u<0
   ·refine jq ⟨?_⟩;refine AM.draw AK mixed (λw'=>St w [g] [(g,.cells ⟨(P++U'++u::x::(V++R++S)).flatMap Ad++tail⟩ BE (0,0))] w') [2,3,4,15,16,17] [2,3,4,0,1,5,6,7,8,9,10,11,12,13,14,15,16,17] AD hS.drew ?_;have hS:=hS.drew;refine jr ⟨?_⟩;refine St.ldEC (sz:=2) (cv:=Ad) (λ_=>rfl) hS hi ?_ ?_
    ·omega
    rw[e1];refine jr ⟨?_⟩;refine St.ldEC (sz:=2) (cv:=Ad) (λ_=>rfl) hS hj ?_ ?_
    ·omega
    rw[e2];refine jr ⟨?_⟩;refine St.stE (sz:=2) (cv:=Ad) (λ_=>rfl) (λ_=>rfl) hS hj ?_ ?_
    ·omega
    intro w4 hS;refine jr ⟨?_⟩;refine St.stE (sz:=2) (cv:=Ad) (λ_=>rfl) (λ_=>rfl) hS (k:=P.length+U'.length) (by rw[Iv];exact hi) ?_ ?_
    ·omega
    intro w5 hS;rw[hsw]at hS;refine jq ⟨?_⟩;refine⟨⟨U',u::V⟩,⟨rfl,rfl,rfl,rfl,rfl,by show _=Value.int .i64 _;congr 1;simp only;omega,trivial⟩,⟨⟨by rw[←hUV];simp,?_⟩,?_⟩,by simp only;omega⟩
    ·intro v hv;rcases As.1 hv with rfl|hv
     ·exact decide_eq_true hlt
     ·exact hV v hv
    ·have e3:P++(U'++x::(u::V)++R)++S=P++U'++x::u::(V++R++S):=AB;simp only[e3];exact hS
   ·refine jq ⟨?_⟩;refine⟨⟨U'++[u]++x::V++R,k+1⟩,⟨rfl,rfl,rfl,rfl,by show _=Value.int .i64 _;congr 1;simp only;omega,trivial⟩,⟨⟨?_,by simp only;omega,?_⟩,?_⟩,by simp only;omega⟩
    ·refine List.Perm.trans ?_ hp;rw[←hUV];refine(List.Perm.append_right R (Dd)).trans ?_;simp only[D1];exact Dd.symm
    ·have e4:(U'++[u]++x::V++R).take (k+1+1)=U'++[u]++x::V:=Gm (by simp only[AP,Ah,Bv];omega);simp only[e4];rw[←hUV]at hs;exact insert_sorted hO hs hV λz hz=>(by rw[List.getLast?_concat,Option.some.injEq]at hz;subst hz;exact decide_eq_false hlt)
    ·rw[←e0]at hS;exact hS
 ·refine jq ⟨?_⟩;refine⟨M1,hp,?_,hS⟩;rw[HL AA]at hs;exact hs
theorem tZ{fc:FuncId}{cm:Af→Af→Int}(hO:Ord λx y=>decide (cm x y<0))(hcm: ∀(x y:Af)(w:World),Cl Tryz.prog fc [Fl x,Fl y] w λv w'=>v= .int .i64 (cm x y)∧St w [] [] w'){w:World}{g cap len:Nat}{a m b:Int}{l P B S:List Af}{x:Af}{tail:List Value}(hh:Holds [(g,.cells ⟨l.flatMap Ad++tail⟩ BE (0,0))] w)(hl:l=P++x::B++S)(hlL:l.length=len)(hlen:len≤16777216)(ha:a=P.length)(hm:m=P.length+1)(hb:b=P.length+1+B.length)(hB:Srt (λx y=>decide (cm x y<0)) B):
  Cl Tryz.prog Qa [.slice (some ⟨g,0,none⟩) len cap,.int .i64 a,.int .i64 m,.int .i64 b,.func (.func fc) ⟨[]⟩ ⟨[]⟩] w λ_ w'=>∃M',M'.Perm (x::B)∧Srt (λx y=>decide (cm x y<0)) M'∧St w [g] [(g,.cells ⟨(P++M'++S).flatMap Ad++tail⟩ BE (0,0))] w':=by
 have hS:St w [g] [(g,.cells ⟨l.flatMap Ad++tail⟩ BE (0,0))] w:=St.enter hh;have hll:len=P.length+1+B.length+S.length:=by rw[←hlL,hl];simp only[AP,Ah];omega
 subst hl;refine QT rfl ?_;refine jq ⟨?_⟩;refine AM.loop (λx:Nat×Nat=>[(0,.slice (some ⟨g,0,none⟩) len cap),(1,.int .i64 a),(2,.int .i64 m),(3,.int .i64 b),(4,.func (.func fc) ⟨[]⟩ ⟨[]⟩),(10,.int .i64 (m+x.1)),(11,.int .i64 (m+x.2))])
  (λz w'=>(z.1≤z.2∧z.2≤B.length∧(∀u,(B.take z.1).getLast?=some u→cm u x<0)∧(∀v,(B.drop z.2).head?=some v→ ¬cm v x<0))∧St w [g] [(g,.cells ⟨(P++x::B++S).flatMap Ad++tail⟩ BE (0,0))] w') (λz=>z.2-z.1) (0,B.length)
  ⟨rfl,rfl,rfl,rfl,rfl,by show _=Value.int .i64 _;congr 1;simp only;omega,by show _=Value.int .i64 _;congr 1;simp only;omega,trivial⟩ ⟨⟨Ag _,AW _,AB,AB⟩,hS⟩ ?_
 clear hS;rintro⟨i,j⟩w1⟨⟨hij,hj,h1,h2⟩,hS⟩;simp only at hij hj h1 h2 hS⊢;by_cases hlt:i<j
 ·refine jq ⟨?_⟩;obtain⟨h,hh⟩: ∃h,h=(i+j) / 2:=⟨_,rfl⟩;have hi:P.length+1+h<(P++x::B++S).length:=AA;have hjj:P.length<(P++x::B++S).length:=AA;have hhB:h<B.length:=AA;have e1:(P++x::B++S)[P.length+1+h]=B[h]:=by
   have e3:P++x::B++S=(P++[x])++B++S:=AB;have e4:(P++[x]).length=P.length+1:=AB;have e5:(P++x::B++S)[P.length+1+h]?=some B[h]:=by
    rw[e3,Aj,D2 AA,e4,show P.length+1+h-(P.length+1)=h by omega,Cq hhB,CB hhB]
   rw[CB hi,Option.some.injEq]at e5;exact e5
  have e2:(P++x::B++S)[P.length]=x:=by
   have e3:P++x::B++S=P++x::(B++S):=AB;have:=IH P (B++S) x P.length (by rw[←e3];exact hjj) rfl;simp only[e3];exact this
  refine CG.half (r:=m+h) AA AA ?_;refine jq ⟨?_⟩;refine AM.draw AK mixed (λw'=>St w [g] [(g,.cells ⟨(P++x::B++S).flatMap Ad++tail⟩ BE (0,0))] w') [9,10] [0,1,2,3,4,5,6,7,8,9,10] AD hS.drew ?_;have hS:=hS.drew;refine jr ⟨?_⟩;refine St.ldEC (sz:=2) (cv:=Ad) (λ_=>rfl) hS hi ?_ ?_
  ·omega
  rw[e1];refine jr ⟨?_⟩;refine St.ldEC (sz:=2) (cv:=Ad) (λ_=>rfl) hS hjj ?_ ?_
  ·omega
  rw[e2];refine jr ⟨?_⟩;refine(hcm B[h] x _).mono ?_;rintro _ w3⟨rfl,hS'⟩;have hS:=hS.call0 hS';by_cases hc:cm B[h] x<0
  ·refine jq ⟨?_⟩;refine⟨(h+1,j),⟨rfl,rfl,rfl,rfl,rfl,by show _=Value.int .i64 _;congr 1;simp only;omega,rfl,trivial⟩,⟨⟨by simp only;omega,hj,λu hu=>?_,h2⟩,hS⟩,by simp only;omega⟩;rw[PK hhB,Option.some.injEq]at hu;subst hu;exact hc
  ·refine jq ⟨?_⟩;refine⟨(i,h),⟨rfl,rfl,rfl,rfl,rfl,rfl,rfl,trivial⟩,⟨⟨by simp only;omega,by simp only;omega,h1,λu hu=>?_⟩,hS⟩,by simp only;omega⟩;rw[N8 hhB,Option.some.injEq]at hu;subst hu;exact hc
 ·have hij':i=j:=AA;subst hij';refine jq ⟨?_⟩;obtain⟨B1,B2,rfl,hB1⟩: ∃B1 B2,B=B1++B2∧B1.length=i:=⟨B.take i,B.drop i,(CN _ _).symm,by rw[Ba];omega⟩;rw[Gm hB1]at h1;rw[List.drop_left' hB1]at h2;rw[AP]at hj hb hll;refine AM.loop (λz:List Af×List Af=>[(0,.slice (some ⟨g,0,none⟩) len cap),(10,.int .i64 (m+i)),(13,.int .i64 (a+z.1.length))])
   (λz w'=>(z.1++z.2=B1)∧St w [g] [(g,.cells ⟨(P++z.1++x::(z.2++B2++S)).flatMap Ad++tail⟩ BE (0,0))] w') (λz=>z.2.length) ([],B1)
   ⟨rfl,rfl,by show _=Value.int .i64 _;congr 1;simp only[Bv];omega,trivial⟩ ⟨rfl,by simpa using hS⟩ ?_
  clear hS;rintro⟨V,W⟩w2⟨hVW,hS⟩;simp only at hVW hS⊢;have hVl:V.length+W.length=i:=by rw[←hB1,←hVW,AP]
  cases W with
  |nil=>
   rw[BT]at hVW;subst hVW;rw[Bv]at hVl;refine jq ⟨?_⟩;refine⟨V++x::B2,Dd,Vz hO hB (λu hu=>decide_eq_true (h1 u hu)) (λv hv=>decide_eq_false (h2 v hv)),by simpa using hS⟩
  |cons y W=>
   rw[Ah]at hVl;have hcl:(P++V++x::y::(W++B2++S)).length=len:=by
    simp only[AP,Ah];omega
   have hS:St w [g] [(g,.cells ⟨(P++V++x::y::(W++B2++S)).flatMap Ad++tail⟩ BE (0,0))] w2:=hS;have hi:P.length+V.length<(P++V++x::y::(W++B2++S)).length:=AA;have hjj:P.length+V.length+1<(P++V++x::y::(W++B2++S)).length:=AA;have e1:(P++V++x::y::(W++B2++S))[P.length+V.length]=x:=IH _ _ _ _ _ (by rw[AP]);have e2:(P++V++x::y::(W++B2++S))[P.length+V.length+1]=y:=Kz _ _ _ _ _ _ (by rw[AP]);have hsw:=YT (P++V) (W++B2++S) x y (P.length+V.length) (by rw[AP])
   refine jq ⟨?_⟩;refine AM.draw AK mixed (λw'=>St w [g] [(g,.cells ⟨(P++V++x::y::(W++B2++S)).flatMap Ad++tail⟩ BE (0,0))] w') [2,3,4,15,16,17] [2,3,4,0,1,5,6,7,8,9,10,11,12,13,14,15,16,17] AD hS.drew ?_;have hS:=hS.drew;refine jr ⟨?_⟩;refine St.ldEC (sz:=2) (cv:=Ad) (λ_=>rfl) hS hjj ?_ ?_
   ·omega
   rw[e2];refine jr ⟨?_⟩;refine St.ldEC (sz:=2) (cv:=Ad) (λ_=>rfl) hS hi ?_ ?_
   ·omega
   rw[e1];refine jr ⟨?_⟩;refine St.stE (sz:=2) (cv:=Ad) (λ_=>rfl) (λ_=>rfl) hS hi ?_ ?_
   ·omega
   intro w4 hS;refine jr ⟨?_⟩;refine St.stE (sz:=2) (cv:=Ad) (λ_=>rfl) (λ_=>rfl) hS (k:=P.length+V.length+1) (by rw[Iv];exact hjj) ?_ ?_
   ·omega
   intro w5 hS;rw[hsw]at hS;refine jq ⟨?_⟩;refine⟨(V++[y],W),⟨rfl,rfl,by show _=Value.int .i64 _;congr 1;simp only[AP,Ah,Bv];omega,trivial⟩,⟨by rw[←hVW];simp,?_⟩,by simp only[Ah];omega⟩;have e3:P++(V++[y])++x::(W++B2++S)=P++V++y::x::(W++B2++S):=AB;simp only[e3];exact hS
theorem t7{fc:FuncId}{cm:Af→Af→Int}(hO:Ord λx y=>decide (cm x y<0))(hcm: ∀(x y:Af)(w:World),Cl Tryz.prog fc [Fl x,Fl y] w λv w'=>v= .int .i64 (cm x y)∧St w [] [] w'){w:World}{g cap len:Nat}{a m b:Int}{l P A S:List Af}{y:Af}{tail:List Value}(hh:Holds [(g,.cells ⟨l.flatMap Ad++tail⟩ BE (0,0))] w)(hl:l=P++A++y::S)(hlL:l.length=len)(hlen:len≤16777216)(ha:a=P.length)(hm:m=P.length+A.length)(hb:b=P.length+A.length+1)(hA:Srt (λx y=>decide (cm x y<0)) A)(hA2:2≤A.length):
  Cl Tryz.prog Qa [.slice (some ⟨g,0,none⟩) len cap,.int .i64 a,.int .i64 m,.int .i64 b,.func (.func fc) ⟨[]⟩ ⟨[]⟩] w λ_ w'=>∃M',M'.Perm (A++[y])∧Srt (λx y=>decide (cm x y<0)) M'∧St w [g] [(g,.cells ⟨(P++M'++S).flatMap Ad++tail⟩ BE (0,0))] w':=by
 have hS:St w [g] [(g,.cells ⟨l.flatMap Ad++tail⟩ BE (0,0))] w:=St.enter hh;have hll:len=P.length+A.length+1+S.length:=by rw[←hlL,hl];simp only[AP,Ah];omega
 subst hl;refine QT rfl ?_;refine jq ⟨?_⟩;refine AM.loop (λx:Nat×Nat=>[(0,.slice (some ⟨g,0,none⟩) len cap),(1,.int .i64 a),(2,.int .i64 m),(3,.int .i64 b),(4,.func (.func fc) ⟨[]⟩ ⟨[]⟩),(14,.int .i64 (a+x.1)),(15,.int .i64 (a+x.2))])
  (λz w'=>(z.1≤z.2∧z.2≤A.length∧(∀u,(A.take z.1).getLast?=some u→ ¬cm y u<0)∧(∀v,(A.drop z.2).head?=some v→cm y v<0))∧St w [g] [(g,.cells ⟨(P++A++y::S).flatMap Ad++tail⟩ BE (0,0))] w') (λz=>z.2-z.1) (0,A.length)
  ⟨rfl,rfl,rfl,rfl,rfl,by show _=Value.int .i64 _;congr 1;simp only;omega,by show _=Value.int .i64 _;congr 1;simp only;omega,trivial⟩ ⟨⟨Ag _,AW _,AB,AB⟩,hS⟩ ?_
 clear hS;rintro⟨i,j⟩w1⟨⟨hij,hj,h1,h2⟩,hS⟩;simp only at hij hj h1 h2 hS⊢;by_cases hlt:i<j
 ·refine jq ⟨?_⟩;obtain⟨h,hh⟩: ∃h,h=(i+j) / 2:=⟨_,rfl⟩;have hi:P.length+A.length<(P++A++y::S).length:=AA;have hjj:P.length+h<(P++A++y::S).length:=AA;have hhA:h<A.length:=AA;have e1:(P++A++y::S)[P.length+A.length]=y:=IH _ _ _ _ _ (by rw[AP]);have e2:(P++A++y::S)[P.length+h]=A[h]:=by
   have e5:(P++A++y::S)[P.length+h]?=some A[h]:=by
    rw[Aj,D2 AA,show P.length+h-P.length=h by omega,Cq hhA,CB hhA]
   rw[CB hjj,Option.some.injEq]at e5;exact e5
  refine CG.half (r:=a+h) AA AA ?_;refine jq ⟨?_⟩;refine AM.draw AK mixed (λw'=>St w [g] [(g,.cells ⟨(P++A++y::S).flatMap Ad++tail⟩ BE (0,0))] w') [9,10,11] [0,1,2,3,4,5,6,7,8,9,10,11] AD hS.drew ?_;have hS:=hS.drew;refine jr ⟨?_⟩;refine St.ldEC (sz:=2) (cv:=Ad) (λ_=>rfl) hS hi ?_ ?_
  ·omega
  rw[e1];refine jr ⟨?_⟩;refine St.ldEC (sz:=2) (cv:=Ad) (λ_=>rfl) hS hjj ?_ ?_
  ·omega
  rw[e2];refine jr ⟨?_⟩;refine(hcm y A[h] _).mono ?_;rintro _ w3⟨rfl,hS'⟩;have hS:=hS.call0 hS';by_cases hc:cm y A[h]<0
  ·refine jq ⟨?_⟩;refine⟨(i,h),⟨rfl,rfl,rfl,rfl,rfl,rfl,rfl,trivial⟩,⟨⟨by simp only;omega,by simp only;omega,h1,λu hu=>?_⟩,hS⟩,by simp only;omega⟩;rw[N8 hhA,Option.some.injEq]at hu;subst hu;exact hc
  ·refine jq ⟨?_⟩;refine⟨(h+1,j),⟨rfl,rfl,rfl,rfl,rfl,by show _=Value.int .i64 _;congr 1;simp only;omega,rfl,trivial⟩,⟨⟨by simp only;omega,hj,λu hu=>?_,h2⟩,hS⟩,by simp only;omega⟩;rw[PK hhA,Option.some.injEq]at hu;subst hu;exact hc
 ·have hij':i=j:=AA;subst hij';refine jq ⟨?_⟩;obtain⟨A1,A2,rfl,hA1⟩: ∃A1 A2,A=A1++A2∧A1.length=i:=⟨A.take i,A.drop i,(CN _ _).symm,by rw[Ba];omega⟩;rw[Gm hA1]at h1;rw[List.drop_left' hA1]at h2;rw[AP]at hj hb hll hm;refine AM.loop (λz:List Af×List Af=>[(0,.slice (some ⟨g,0,none⟩) len cap),(14,.int .i64 (a+i)),(17,.int .i64 (a+i+z.1.length))])
   (λz w'=>(z.1++z.2=A2)∧St w [g] [(g,.cells ⟨(P++A1++z.1++y::(z.2++S)).flatMap Ad++tail⟩ BE (0,0))] w') (λz=>z.1.length) (A2,[])
   ⟨rfl,rfl,by show _=Value.int .i64 _;congr 1;simp only;omega,trivial⟩ ⟨AB,by simpa using hS⟩ ?_
  clear hS;rintro⟨V,W⟩w2⟨hVW,hS⟩;simp only at hVW hS⊢;have hVl:V.length+W.length=A2.length:=by rw[←hVW,AP]
  by_cases hV:V=[]
  ·subst hV;rw[Ca]at hVW;subst hVW;simp only[Bv];refine jq ⟨?_⟩;refine⟨A1++y::W,Dd.trans (List.perm_append_singleton y (A1++W)).symm,V0 hO hA (λu hu=>decide_eq_false (h1 u hu)) (λv hv=>decide_eq_true (h2 v hv)),by simpa using hS⟩
  ·obtain⟨V',x,rfl⟩: ∃V' x,V=V'++[x]:=⟨V.dropLast,V.getLast hV,(List.dropLast_concat_getLast hV).symm⟩;have hVx:(V'++[x]).length=V'.length+1:=AB;rw[hVx]at hVl⊢;have e0:P++A1++(V'++[x])++y::(W++S)=P++A1++V'++x::y::(W++S):=AB;rw[e0]at hS;have hcl:(P++A1++V'++x::y::(W++S)).length=len:=by
    simp only[AP,Ah];omega
   have hn:P.length+A1.length+V'.length=(P++A1++V').length:=by simp only[AP]
   have hi:P.length+A1.length+V'.length<(P++A1++V'++x::y::(W++S)).length:=AA;have hjj:P.length+A1.length+V'.length+1<(P++A1++V'++x::y::(W++S)).length:=AA;have e1:(P++A1++V'++x::y::(W++S))[P.length+A1.length+V'.length]=x:=IH _ _ _ _ _ hn;have e2:(P++A1++V'++x::y::(W++S))[P.length+A1.length+V'.length+1]=y:=Kz _ _ _ _ _ _ (by rw[hn]);have hsw:=PE (P++A1++V') (W++S) x y (P.length+A1.length+V'.length) hn
   refine jq ⟨?_⟩;refine AM.draw AK mixed (λw'=>St w [g] [(g,.cells ⟨(P++A1++V'++x::y::(W++S)).flatMap Ad++tail⟩ BE (0,0))] w') [2,3,4,15,16,17] [2,3,4,0,1,5,6,7,8,9,10,11,12,13,14,15,16,17] AD hS.drew ?_;have hS:=hS.drew;refine jr ⟨?_⟩;refine St.ldEC (sz:=2) (cv:=Ad) (λ_=>rfl) hS hi ?_ ?_
   ·omega
   rw[e1];refine jr ⟨?_⟩;refine St.ldEC (sz:=2) (cv:=Ad) (λ_=>rfl) hS hjj ?_ ?_
   ·omega
   rw[e2];refine jr ⟨?_⟩;refine St.stE (sz:=2) (cv:=Ad) (λ_=>rfl) (λ_=>rfl) hS hjj ?_ ?_
   ·omega
   intro w4 hS;refine jr ⟨?_⟩;refine St.stE (sz:=2) (cv:=Ad) (λ_=>rfl) (λ_=>rfl) hS (k:=P.length+A1.length+V'.length) (by rw[Iv];exact hi) ?_ ?_
   ·omega
   intro w5 hS;rw[hsw]at hS;refine jq ⟨?_⟩;refine⟨(V',x::W),⟨rfl,rfl,by show _=Value.int .i64 _;congr 1;simp only;omega,trivial⟩,⟨by rw[←hVW];simp,hS⟩,by simp only;omega⟩
set_option maxRecDepth 4000 in
theorem We{fc:FuncId}{cm:Af→Af→Int}(hO:Ord λx y=>decide (cm x y<0))(hcm: ∀(x y:Af)(w:World),Cl Tryz.prog fc [Fl x,Fl y] w λv w'=>v= .int .i64 (cm x y)∧St w [] [] w'){g cap len:Nat}{tail:List Value}(hlen:len≤16777216): ∀(N:Nat){w:World}{a m b:Int}{l P A B S:List Af},Holds [(g,.cells ⟨l.flatMap Ad++tail⟩ BE (0,0))] w→l=P++A++B++S→l.length=len→a=P.length→m=P.length+A.length→b=P.length+A.length+B.length→Srt (λx y=>decide (cm x y<0)) A→Srt (λx y=>decide (cm x y<0)) B→1≤A.length→1≤B.length→A.length+B.length≤N→
  Cl Tryz.prog Qa [.slice (some ⟨g,0,none⟩) len cap,.int .i64 a,.int .i64 m,.int .i64 b,.func (.func fc) ⟨[]⟩ ⟨[]⟩] w λ_ w'=>∃M',M'.Perm (A++B)∧Srt (λx y=>decide (cm x y<0)) M'∧St w [g] [(g,.cells ⟨(P++M'++S).flatMap Ad++tail⟩ BE (0,0))] w':=by
 intro N
 induction N with
 |zero=>intro w a m b l P A B S hh hl hlL ha hm hb hA hB hA1 hB1 hN;omega
 |succ N ih=>
 intro w a m b l P A B S hh hl hlL ha hm hb hA hB hA1 hB1 hN;by_cases c1:A.length=1
 ·obtain⟨x,rfl⟩:=K5.1 c1;rw[D4]at hm hb;exact tZ hO hcm hh (by rw[hl];simp) hlL hlen ha hm hb hB
 by_cases c2:B.length=1
 ·obtain⟨y,rfl⟩:=K5.1 c2;rw[D4]at hb;exact t7 hO hcm hh (by rw[hl];simp) hlL hlen ha hm hb hA AA
 have hS:St w [g] [(g,.cells ⟨l.flatMap Ad++tail⟩ BE (0,0))] w:=St.enter hh;have hll:len=P.length+A.length+B.length+S.length:=by rw[←hlL,hl];simp only[AP]
 have hat1: ∀c(hc:c<A.length)(h:P.length+c<(P++A++B++S).length),(P++A++B++S)[P.length+c]=A[c]:=by
  intro c hc h;have e5:(P++A++B++S)[P.length+c]?=some A[c]:=by
   rw[Aj,Aj,D2 AA,show P.length+c-P.length=c by omega,Cq hc,CB hc]
  rw[CB h,Option.some.injEq]at e5;exact e5
 have hat2: ∀c(hc:c<B.length)(h:P.length+A.length+c<(P++A++B++S).length),(P++A++B++S)[P.length+A.length+c]=B[c]:=by
  intro c hc h;have hPA:(P++A).length=P.length+A.length:=AP;have e5:(P++A++B++S)[P.length+A.length+c]?=some B[c]:=by
   rw[Aj (P++A),D2 AA,hPA,show P.length+A.length+c-(P.length+A.length)=c by omega,Cq hc,CB hc]
  rw[CB h,Option.some.injEq]at e5;exact e5
 subst hl;obtain⟨d,hd⟩: ∃d,d=(A.length+B.length) / 2:=⟨_,rfl⟩
 --the search:s0,r0 are its ends,counted from a
 obtain⟨s0,r0,hsr⟩: ∃s0 r0:Nat,(d<A.length→s0=d+A.length-(A.length+B.length)∧r0=d)∧(A.length≤d→s0=0∧r0=A.length):=by
  by_cases h:d<A.length
  ·exact⟨d+A.length-(A.length+B.length),d,λ_=>⟨rfl,rfl⟩,λh'=>absurd h' AA⟩
  ·exact⟨0,A.length,λh'=>absurd h' h,λ_=>⟨rfl,rfl⟩⟩
 refine QT rfl ?_;refine jq ⟨?_⟩;refine CG.half (r:=a+d) AA AA ?_;refine jq ⟨?_⟩;by_cases hdA:d<A.length
 all_goals
  have hs0:s0≤r0∧r0≤d∧r0≤A.length∧d-s0≤B.length:=AA;refine jq ⟨?_⟩;refine AM.loop (λz:Nat×Nat=>[(0,.slice (some ⟨g,0,none⟩) len cap),(1,.int .i64 a),(2,.int .i64 m),(3,.int .i64 b),(4,.func (.func fc) ⟨[]⟩ ⟨[]⟩),(18,.int .i64 (a+d)),(19,.int .i64 (a+d+m)),(20,.int .i64 (a+z.1)),(21,.int .i64 (a+z.2)),(22,.int .i64 (a+d+m-1))])
   (λz w'=>(s0≤z.1∧z.1≤z.2∧z.2≤r0∧Sk (λx y=>decide (cm x y<0)) A B d z.1 s0∧Sl (λx y=>decide (cm x y<0)) A B d z.2 r0)∧St w [g] [(g,.cells ⟨(P++A++B++S).flatMap Ad++tail⟩ BE (0,0))] w') (λz=>z.2-z.1) (s0,r0)
   ⟨rfl,rfl,rfl,rfl,rfl,rfl,rfl,by show _=Value.int .i64 _;congr 1;simp only;omega,by show _=Value.int .i64 _;congr 1;simp only;omega,rfl,trivial⟩ ⟨⟨AW _,hs0.1,AW _,.inl rfl,.inl rfl⟩,hS⟩ ?_
  clear hS;rintro⟨s,r⟩w1⟨⟨q1,q2,q3,E1,E2⟩,hS⟩;simp only at q1 q2 q3 E1 E2 hS⊢;by_cases hlt:s<r
  ·refine jq ⟨?_⟩;obtain⟨c,hc⟩: ∃c,c=(s+r) / 2:=⟨_,rfl⟩;have hcA:c<A.length:=AA;have hcB:d-1-c<B.length:=AA;have hi:P.length+A.length+(d-1-c)<(P++A++B++S).length:=AA;have hj:P.length+c<(P++A++B++S).length:=AA;have e1:=hat2 _ hcB hi;have e2:=hat1 _ hcA hj;refine CG.half (r:=a+c) AA AA ?_;refine jq ⟨?_⟩;refine AM.draw AK mixed (λw'=>St w [g] [(g,.cells ⟨(P++A++B++S).flatMap Ad++tail⟩ BE (0,0))] w') [11,12,13] [0,1,2,3,4,5,6,7,8,9,10,11,12,13] AD hS.drew ?_
   have hS:=hS.drew;refine jr ⟨?_⟩;refine St.ldEC (sz:=2) (cv:=Ad) (λ_=>rfl) hS hi ?_ ?_
   ·omega
   rw[e1];refine jr ⟨?_⟩;refine St.ldEC (sz:=2) (cv:=Ad) (λ_=>rfl) hS hj ?_ ?_
   ·omega
   rw[e2];refine jr ⟨?_⟩;refine(hcm B[d-1-c] A[c] _).mono ?_;rintro _ w3⟨rfl,hS'⟩;have hS:=hS.call0 hS';by_cases hcc:cm B[d-1-c] A[c]<0
   ·refine jq ⟨?_⟩;refine⟨(s,c),⟨rfl,rfl,rfl,rfl,rfl,rfl,rfl,rfl,rfl,rfl,trivial⟩,⟨⟨q1,by simp only;omega,by simp only;omega,E1,.inr ⟨A[c],B[d-1-c],CB hcA,?_,decide_eq_true hcc⟩⟩,hS⟩,by simp only;omega⟩;rw[show d-c-1=d-1-c by omega];exact CB hcB
   ·refine jq ⟨?_⟩;refine⟨(c+1,r),⟨rfl,rfl,rfl,rfl,rfl,rfl,rfl,by show _=Value.int .i64 _;congr 1;simp only;omega,rfl,rfl,trivial⟩,⟨⟨by simp only;omega,by simp only;omega,q3,.inr ⟨A[c],B[d-1-c],?_,?_,decide_eq_false hcc⟩,E2⟩,hS⟩,by simp only;omega⟩
    ·rw[Nat.add_sub_cancel];exact CB hcA
    ·rw[show d-(c+1)=d-1-c by omega];exact CB hcB
  ·have hsr':r=s:=AA;subst hsr';obtain⟨A1,A2,rfl,hA1'⟩: ∃A1 A2,A=A1++A2∧A1.length=r:=⟨A.take r,A.drop r,(CN _ _).symm,by rw[Ba];omega⟩;obtain⟨B1,B2,rfl,hB1'⟩: ∃B1 B2,B=B1++B2∧B1.length=d-r:=⟨B.take (d-r),B.drop (d-r),(CN _ _).symm,by rw[Ba];omega⟩;have k1: ∀x y,A1.getLast?=some x→B2.head?=some y→decide (cm y x<0)=false:=by
    intro x y hx hy;have hx0:0<A1.length:=by cases A1 with|nil=>cases hx|cons=>simp
    have hy0:0<B2.length:=by cases B2 with|nil=>cases hy|cons=>simp
    rw[AP]at hs0 hsr;rw[AP]at hs0 hsr;rcases E1 with h|⟨x',y',h1,h2,h3⟩
    ·omega
    ·rw[List.getLast?_eq_getElem?]at hx;rw[List.head?_eq_getElem?]at hy;rw[Cq AA,←hA1',hx,Option.some.injEq]at h1;rw[D2 AA,hB1',Nat.sub_self,hy,Option.some.injEq]at h2;subst h1 h2;exact h3
   have k2: ∀x y,B1.getLast?=some x→A2.head?=some y→decide (cm x y<0)=true:=by
    intro x y hx hy;have hx0:0<B1.length:=by cases B1 with|nil=>cases hx|cons=>simp
    have hy0:0<A2.length:=by cases A2 with|nil=>cases hy|cons=>simp
    rw[AP]at hs0 hsr;rw[AP]at hs0 hsr;rcases E2 with h|⟨x',y',h1,h2,h3⟩
    ·omega
    ·rw[List.getLast?_eq_getElem?]at hx;rw[List.head?_eq_getElem?]at hy;rw[D2 AA,hA1',Nat.sub_self,hy,Option.some.injEq]at h1;rw[Cq AA,←hB1',hx,Option.some.injEq]at h2;subst h1 h2;exact h3
   have hsp:=YN hO hA hB k1 k2;clear k1 k2 E1 E2 hat1 hat2;simp only[AP]at hm hb hll hN hd hA1 hB1 hs0 hdA c1 c2;clear hsr;have hlL2:(P++(A1++B1)++(A2++B2)++S).length=len:=by simp only[AP];omega
   have hn1:(P++A1).length=P.length+A1.length:=AP;rcases Iz A1.length with z1|z1<;>rcases Iz A2.length with z2|z2<;>rcases Iz B1.length with z3|z3<;>rcases Iz B2.length with z4|z4<;>try(exfalso;omega)
   all_goals
    refine jq ⟨?_⟩
    first
    |refine(wS hS.holds (P:=P++A1) (U:=A2) (V:=B1) (S:=B2++S) (by simp only[Aj]) hlL hlen AA AA AA z2 z3).mono ?_
     intro _ w2 hS';have hS:=hS.call1 hS';have e9:P++A1++B1++A2++(B2++S)=P++(A1++B1)++(A2++B2)++S:=by simp only[Aj]
     rw[e9]at hS;refine jq ⟨?_⟩
    |rw[Ws AA]at hS
    first
    |refine(ih hS.holds (P:=P) (A:=A1) (B:=B1) (S:=(A2++B2)++S) (by simp only[Aj]) hlL2 ha AA AA hA.left hB.left z1 z3 AA).mono ?_
     rintro _ w3⟨L1,p1,s1,hS'⟩;have hS:=hS.call1 hS';rw[←Aj (P++L1) (A2++B2) S]at hS;refine jq ⟨?_⟩
    |obtain⟨L1,p1,s1,eL⟩: ∃L1,L1.Perm (A1++B1)∧Srt (λx y=>decide (cm x y<0)) L1∧L1=A1++B1:=⟨_,List.Perm.refl _,XD AA hA hB,rfl⟩
     rw[←eL]at hS
    have hL1:=p1.length_eq;rw[AP]at hL1;have hlL3:(P++L1++(A2++B2)++S).length=len:=by simp only[AP];omega
    have hn2:(P++L1).length=P.length+L1.length:=AP
    first
    |refine(ih hS.holds (P:=P++L1) (A:=A2) (B:=B2) (S:=S) (by simp only[Aj]) hlL3 AA AA AA hA.right hB.right z2 z4 AA).mono ?_
     rintro _ w4⟨R1,p2,s2,hS'⟩;have hS:=hS.call1 hS';refine jq ⟨?_⟩
    |obtain⟨R1,p2,s2,eR⟩: ∃R1,R1.Perm (A2++B2)∧Srt (λx y=>decide (cm x y<0)) R1∧R1=A2++B2:=⟨_,List.Perm.refl _,XE AA hA hB,rfl⟩
     rw[←eR]at hS
    refine⟨L1++R1,Vu p1 p2,s1.app s2 λx hx y hy=>hsp x (p1.mem_iff.1 hx) y (p2.mem_iff.1 hy),?_⟩;rw[←Aj P L1 R1];exact hS
structure Z3 where
 bs:List (List Af)
 R:List Af
structure Z5 where
 l:List Af
 n:Nat
set_option maxRecDepth 4000 in
theorem xW{fc:FuncId}{cm:Af→Af→Int}(hO:Ord λx y=>decide (cm x y<0))(hcm: ∀(x y:Af)(w:World),Cl Tryz.prog fc [Fl x,Fl y] w λv w'=>v= .int .i64 (cm x y)∧St w [] [] w'){w:World}{g cap len:Nat}{l:List Af}{tail:List Value}(hh:Holds [(g,.cells ⟨l.flatMap Ad++tail⟩ BE (0,0))] w)(hlL:l.length=len)(hlen:len≤16777216):
  Cl Tryz.prog U0 [.slice (some ⟨g,0,none⟩) len cap,.int .i64 len,.func (.func fc) ⟨[]⟩ ⟨[]⟩] w λ_ w'=>∃l',l'.Perm l∧Srt (λx y=>decide (cm x y<0)) l'∧St w [g] [(g,.cells ⟨l'.flatMap Ad++tail⟩ BE (0,0))] w':=by
 have hS:St w [g] [(g,.cells ⟨l.flatMap Ad++tail⟩ BE (0,0))] w:=St.enter hh;refine Ug rfl ?_;refine jq ⟨?_⟩;refine AM.loop (λx:Z3=>[(0,.slice (some ⟨g,0,none⟩) len cap),(1,.int .i64 len),(2,.func (.func fc) ⟨[]⟩ ⟨[]⟩),(6,.int .i64 20),(7,.int .i64 x.bs.flatten.length),(8,.int .i64 (x.bs.flatten.length+20))])
  (λx w'=>((x.bs.flatten++x.R).Perm l∧GK (λx y=>decide (cm x y<0)) 20 x.bs)∧St w [g] [(g,.cells ⟨(x.bs.flatten++x.R).flatMap Ad++tail⟩ BE (0,0))] w') (λx=>x.R.length) ⟨[],l⟩
  ⟨rfl,rfl,rfl,rfl,rfl,rfl,trivial⟩ ⟨⟨List.Perm.refl _,nofun⟩,hS⟩ ?_
 clear hS;rintro⟨bs,R⟩w1⟨⟨hp,hf⟩,hS⟩;simp only at hp hf hS⊢;have hpl:=hp.length_eq;rw[AP]at hpl;generalize hbl:bs.flatten.length=q at hpl⊢;by_cases hle:20≤R.length
 ·obtain⟨X,R',rfl,hX⟩: ∃X R',R=X++R'∧X.length=20:=⟨R.take 20,R.drop 20,(CN _ _).symm,by rw[Ba];omega⟩;rw[AP]at hpl;refine jq ⟨?_⟩;refine(V3 hO hcm hS.holds (P:=bs.flatten) (M:=X) (S:=R') (by simp only[Aj]) (hp.length_eq.trans hlL) hlen AA AA).mono ?_;rintro _ w2⟨X',p1,s1,hS'⟩;have hS:=hS.call1 hS';have e1:(bs++[X']).flatten=bs.flatten++X':=AB;have hXl:=p1.length_eq;have e2:(bs++[X']).flatten.length=q+20:=by rw[e1,AP];omega
  refine jq ⟨?_⟩;refine⟨⟨bs++[X'],R'⟩,⟨rfl,rfl,rfl,rfl,by show _=Value.int .i64 _;congr 1;simp only;omega,by show _=Value.int .i64 _;congr 1;simp only;omega,trivial⟩,⟨⟨?_,hf.snoc AA s1⟩,?_⟩,by simp only[AP];omega⟩
  ·simp only[e1];refine List.Perm.trans ?_ hp;rw[Aj];exact(p1.append_right R').append_left _
  ·simp only[e1];exact hS
 ·refine jq ⟨?_⟩;refine(V3 hO hcm hS.holds (P:=bs.flatten) (M:=R) (S:=[]) (by rw[BT]) (hp.length_eq.trans hlL) hlen AA AA).mono ?_;rintro _ w2⟨R1,p1,s1,hS'⟩;have hS:=hS.call1 hS';rw[BT]at hS;have hRl:=p1.length_eq;have hp1:(bs.flatten++R1).Perm l:=(p1.append_left _).trans hp;have hc:Ke (λx y=>decide (cm x y<0)) 20 (bs.flatten++R1):=⟨bs,R1,rfl,hf,AA,s1⟩;generalize bs.flatten++R1=l1 at hS hc hp1;clear hRl p1 s1 hpl hbl hf hp hle
  refine jq ⟨?_⟩;refine AM.loop (λx:Z5=>[(0,.slice (some ⟨g,0,none⟩) len cap),(1,.int .i64 len),(2,.func (.func fc) ⟨[]⟩ ⟨[]⟩),(6,.int .i64 x.n)])
   (λx w'=>(x.l.Perm l∧Ke (λx y=>decide (cm x y<0)) x.n x.l∧1≤x.n)∧St w [g] [(g,.cells ⟨x.l.flatMap Ad++tail⟩ BE (0,0))] w') (λx=>len-x.n) ⟨l1,20⟩
   ⟨rfl,rfl,rfl,rfl,trivial⟩ ⟨⟨hp1,hc,by simp only;omega⟩,hS⟩ ?_
  clear hS hp1 hc;rintro⟨l2,n⟩w3⟨⟨hp,hc,hn⟩,hS⟩;simp only at hp hc hn hS⊢;have hpl:=hp.length_eq;by_cases hnl:n<len
  ·obtain⟨MZ,r,rfl,hf0,hr,hsr⟩:=hc;refine jq ⟨?_⟩;refine AM.loop (λx:List (List Af)×List (List Af)=>[(0,.slice (some ⟨g,0,none⟩) len cap),(1,.int .i64 len),(2,.func (.func fc) ⟨[]⟩ ⟨[]⟩),(6,.int .i64 n),(7,.int .i64 x.1.flatten.length),(8,.int .i64 (x.1.flatten.length+2*n))])
    (λx w'=>((x.1.flatten++x.2.flatten++r).Perm l∧GK (λx y=>decide (cm x y<0)) (2*n) x.1∧GK (λx y=>decide (cm x y<0)) n x.2)∧St w [g] [(g,.cells ⟨(x.1.flatten++x.2.flatten++r).flatMap Ad++tail⟩ BE (0,0))] w') (λx=>x.2.length) ([],MZ)
    ⟨rfl,rfl,rfl,rfl,rfl,by show _=Value.int .i64 _;congr 1;simp only[Gj,Bv];omega,trivial⟩ ⟨⟨hp,nofun,hf0⟩,hS⟩ ?_
   clear hS hf0 hp;rintro⟨b1,b2⟩w4⟨⟨hp,hf1,hf2⟩,hS⟩;simp only at hp hf1 hf2 hS⊢;have hpl2:=hp.length_eq;rw[AP,AP]at hpl2;have hlL4:=hp.length_eq.trans hlL;generalize hbl:b1.flatten.length=q at hpl2⊢
   match b2,hf2,hpl2,hp,hS,hlL4 with
   |x::y::rest,hf2,hpl2,hp,hS,hlL4=>
    have hx:=hf2.hd;have hy:=hf2.tl.hd;have hxy:(x::y::rest).flatten=x++(y++rest.flatten):=AB;rw[hxy]at hS hp hpl2 hlL4;rw[AP,AP]at hpl2;refine jq ⟨?_⟩;refine(We hO hcm hlen _ hS.holds (P:=b1.flatten) (A:=x) (B:=y) (S:=rest.flatten++r) (by simp only[Aj]) hlL4 AA AA AA hx.2 hy.2 AA AA (AW _)).mono ?_;rintro _ w5⟨M,p1,s1,hS'⟩;have hS:=hS.call1 hS';have e1:(b1++[M]).flatten=b1.flatten++M:=AB;have hMl:=p1.length_eq
    rw[AP]at hMl;have e2:(b1++[M]).flatten.length=q+2*n:=by rw[e1,AP];omega
    refine jq ⟨?_⟩;refine⟨(b1++[M],rest),⟨rfl,rfl,rfl,rfl,by show _=Value.int .i64 _;congr 1;simp only;omega,by show _=Value.int .i64 _;congr 1;simp only;omega,trivial⟩,⟨⟨?_,hf1.snoc AA s1,hf2.tl.tl⟩,?_⟩,by simp only[Ah];omega⟩
    ·simp only[e1];refine List.Perm.trans ?_ hp;rw[Aj,Aj,Aj b1.flatten];refine List.Perm.append_left _ ?_;refine(p1.append_right _).trans (List.Perm.of_eq ?_);simp only[Aj]
    ·simp only[e1];rw[Aj (b1.flatten++M)];exact hS
   |[x],hf2,hpl2,hp,hS,hlL4=>
    have hx:=hf2.hd;have hxy:[x].flatten=x:=AB;rw[hxy]at hS hp hpl2 hlL4;by_cases hr0:0<r.length
    ·refine jq ⟨?_⟩;refine(We hO hcm hlen _ hS.holds (P:=b1.flatten) (A:=x) (B:=r) (S:=[]) (by rw[BT]) hlL4 AA AA AA hx.2 hsr AA AA (AW _)).mono ?_;rintro _ w5⟨M,p1,s1,hS'⟩;have hS:=hS.call1 hS';rw[BT]at hS;have hMl:=p1.length_eq;rw[AP]at hMl;refine jq ⟨?_⟩;refine⟨⟨b1.flatten++M,n*2⟩,⟨rfl,rfl,rfl,rfl,trivial⟩,⟨⟨?_,⟨b1,M,rfl,by rw[Hs];exact hf1,by simp only;omega,s1⟩,by simp only;omega⟩,hS⟩,by simp only;omega⟩
     refine List.Perm.trans ?_ hp;rw[Aj];exact p1.append_left _
    ·refine jq ⟨?_⟩;have hr1:r=[]:=Hp.1 AA;rw[hr1,BT]at hS hp;refine⟨⟨b1.flatten++x,n*2⟩,⟨rfl,rfl,rfl,rfl,trivial⟩,⟨⟨hp,⟨b1,x,rfl,by rw[Hs];exact hf1,by simp only;omega,hx.2⟩,by simp only;omega⟩,hS⟩,by simp only;omega⟩
   |[],hf2,hpl2,hp,hS,hlL4=>
    rw[Gj,BT]at hS hp hlL4;rw[Gj,Bv]at hpl2;refine jq ⟨?_⟩;refine⟨⟨b1.flatten++r,n*2⟩,⟨rfl,rfl,rfl,rfl,trivial⟩,⟨⟨hp,⟨b1,r,rfl,by rw[Hs];exact hf1,by simp only;omega,hsr⟩,by simp only;omega⟩,hS⟩,by simp only;omega⟩
  ·refine jq ⟨?_⟩;refine⟨l2,hp,hc.all AA,hS⟩
theorem xQ{fc:FuncId}{cm:Af→Af→Int}(hO:Ord λx y=>decide (cm x y<0))(hcm: ∀(x y:Af)(w:World),Cl Tryz.prog fc [Fl x,Fl y] w λv w'=>v= .int .i64 (cm x y)∧St w [] [] w'){w:World}{g cap len:Nat}{l:List Af}{tail:List Value}(hh:Holds [(g,.cells ⟨l.flatMap Ad++tail⟩ BE (0,0))] w)(hlL:l.length=len)(hlen:len≤16777216):
  Cl Tryz.prog Uw [.slice (some ⟨g,0,none⟩) len cap,.func (.func fc) ⟨[]⟩ ⟨[]⟩] w λ_ w'=>∃l',l'.Perm l∧Srt (λx y=>decide (cm x y<0)) l'∧St w [g] [(g,.cells ⟨l'.flatMap Ad++tail⟩ BE (0,0))] w':=by
 refine Uc rfl ?_;refine jq ⟨?_⟩;refine(xW hO hcm hh hlL hlen).mono ?_;intro _ w' h;refine jq ⟨?_⟩;exact h
theorem sK{w:World}{F:Value}:Cl Tryz.prog Uy [.slice none 0 0,.int .i64 0,.int .i64 0,F] w λ_ w'=>St w [] [] w':=by
 have hS:=St.start w;refine Ue rfl ?_;refine jq ⟨?_⟩;refine AM.loop (λ_:Unit=>[(2,.int .i64 0),(8,.int .i64 1)]) (λ_ w'=>St w [] [] w') (λ_=>0) () ⟨rfl,rfl,trivial⟩ hS ?_;clear hS;intro _ w1 hS;refine jq ⟨?_⟩;exact hS
theorem xU{w:World}{F:Value}:Cl Tryz.prog U0 [.slice none 0 0,.int .i64 0,F] w λ_ w'=>St w [] [] w':=by
 have hS:=St.start w;refine Ug rfl ?_;refine jq ⟨?_⟩;refine AM.loop (λ_:Unit=>[(0,.slice none 0 0),(1,.int .i64 0),(2,F),(6,.int .i64 20),(7,.int .i64 0),(8,.int .i64 20)]) (λ_ w'=>St w [] [] w') (λ_=>0) () ⟨rfl,rfl,rfl,rfl,rfl,rfl,trivial⟩ hS ?_;clear hS;intro _ w1 hS;refine jq ⟨?_⟩;refine sK.mono ?_;intro _ w2 hS';have hS:=hS.call0 hS';refine jq ⟨?_⟩;refine AM.loop (λ_:Unit=>[(1,.int .i64 0),(6,.int .i64 20)]) (λ_ w'=>St w [] [] w') (λ_=>0) () ⟨rfl,rfl,trivial⟩ hS ?_
 clear hS;intro _ w3 hS;refine jq ⟨?_⟩;exact hS
theorem xO{w:World}{F:Value}:Cl Tryz.prog Uw [.slice none 0 0,F] w λ_ w'=>St w [] [] w':=by
 refine Uc rfl ?_;refine jq ⟨?_⟩;refine xU.mono ?_;intro _ w' h;refine jq ⟨?_⟩;exact h
def N1(a b:Af):Int:=if F6 a.1 b.1=0 then F6 a.2 b.2 else F6 a.1 b.1
def GA(a b:Af):Bool:=decide (N1 a b<0)
theorem Wa(a b:Af):GA a b=true↔a.1<b.1∨(a.1=b.1∧a.2<b.2):=by
 unfold GA N1 F6;rw[decide_eq_true_iff]
 repeat' split
 all_goals omega
theorem RL(a b:Af):GA a b=false↔b.1<a.1∨(a.1=b.1∧b.2≤a.2):=by
 have:=Wa a b;cases h:GA a b with
 |true=>rw[h]at this;have:=this.1 rfl;simp;omega
 |false=>rw[h]at this;simp at this⊢;omega
theorem XH:Ord GA:=by
 constructor
 ·intro x y h;rw[Wa]at h;rw[RL];omega
 ·intro x y z h1 h2;rw[RL]at*;omega
theorem bF(x y:Af)(h1:GA x y=false)(h2:GA y x=false):x=y:=by
 rw[RL]at h1 h2;exact Prod.ext AA AA
def Dj(l:List Af):List Af:=l.foldl (JX GA) []
theorem YK(l acc:List Af)(h:Srt GA acc):Srt GA (l.foldl (JX GA) acc)∧(l.foldl (JX GA) acc).Perm (acc++l):=by
 induction l generalizing acc with
 |nil=>exact⟨h,AB⟩
 |cons x l ih=>
  obtain⟨h1,h2⟩:=ih (JX GA acc x) (sI XH h x);refine⟨h1,h2.trans ?_⟩;refine((sH (lt:=GA) acc x).append_right l).trans ?_;rw[D1];exact Dd.symm
theorem YL(l:List Af):Srt GA (Dj l):=(YK l [] Srt.nil).1
theorem JB(l:List Af):(Dj l).Perm l:=by have:=(YK l [] Srt.nil).2;rwa[Ca]at this
theorem LZ(l:List Af):(Dj l).length=l.length:=(JB l).length_eq
theorem YJ{l m:List Af}(h1:m.Perm l)(h2:Srt GA m):m=Dj l:=YO bF h2 (YL l) (h1.trans (JB l).symm)
theorem R7{l m:List Af}(h:m.Perm l):Dj m=Dj l:=YJ ((JB m).trans h) (YL m)
theorem xM(l:List Af):Dj (Dj l)=Dj l:=R7 (JB l)
def Dw(l:List Af)(n:Int):Bool:=l.any λf=>f.2==n
theorem Vw{l m:List Af}(h:l.Perm m)(n:Int):Dw l n=Dw m n:=by
 unfold Dw;rw[Bool.eq_iff_iff,List.any_eq_true,List.any_eq_true];exact⟨λ⟨x,h1,h2⟩=>⟨x,h.mem_iff.1 h1,h2⟩,λ⟨x,h1,h2⟩=>⟨x,h.mem_iff.2 h1,h2⟩⟩
structure VM where
 files:List Af
 wal:Int
 next:Int
 seq:Int
structure EM where
 add:List Af
 del:List Int
 wal:Int
 next:Int
 seq:Int
def HQ(f:Af):Bool:= !(decide (f.2<1)||decide (f.1<0)||decide (1<f.1))
def LN(n:Int):Bool:= !decide (n<1)
def C6(e:EM):Bool:=e.add.all HQ&&e.del.all LN&&decide (0≤e.wal∧0≤e.next∧0≤e.seq)
def Gi(e:EM)(fs:List Af):Bool:=e.del.all λn=>decide (e.del.count n=1)&&Dw fs n
def EK(next:Int):List Af→List Af→Option (List Af)
 |fs,[]=>some fs
 |fs,f::r=>if next≤f.2∨Dw fs f.2=true then none else EK next (fs++[f]) r
def Eh(e:EM)(fs:List Af):List Af:=fs.filter λf=> !e.del.contains f.2
def GF(v:VM)(e:EM):Bool:=C6 e&&decide (v.next≤e.next)&&decide (v.seq≤e.seq)
def BN(v:VM)(e:EM):Option VM:=
 if GF v e&&Gi e v.files then(EK e.next (Eh e v.files) e.add).map λfs=>⟨Dj fs,e.wal,e.next,e.seq⟩else none
def Il:VM→List EM→Option VM
 |v,[]=>some v
 |v,e::r=>match BN v e with
  |none=>none
  |some v'=>Il v' r
def FR(v:VM):VM:={v with files:=Dj v.files}
theorem Tc(next:Int): ∀(r fs gs:List Af),fs.Perm gs→(EK next fs r=none∧EK next gs r=none)∨ ∃a b,EK next fs r=some a∧EK next gs r=some b∧a.Perm b
 |[],fs,gs,h=> .inr ⟨fs,gs,rfl,rfl,h⟩
 |f::r,fs,gs,h=>by
  unfold EK;rw[Vw h];by_cases hc:next≤f.2∨Dw gs f.2=true
  ·rw[if_pos hc,if_pos hc];exact .inl ⟨rfl,rfl⟩
  ·rw[if_neg hc,if_neg hc];exact Tc next r _ _ (h.append_right [f])
theorem bH(v:VM)(e:EM):BN (FR v) e=BN v e:=by
 unfold BN;have h1:Gi e (FR v).files=Gi e v.files:=by
  unfold Gi;simp only[FR,Vw (JB v.files)]
 have h2:GF (FR v) e=GF v e:=rfl;rw[h1,h2]
 split
 ·have h3:(Eh e (FR v).files).Perm (Eh e v.files):=(JB v.files).filter _;rcases Tc e.next e.add _ _ h3 with⟨e1,e2⟩|⟨a,b,e1,e2,hp⟩
  ·rw[e1,e2]
  ·rw[e1,e2];simp only[I1];rw[R7 hp]
 ·rfl
theorem Tb(next:Int): ∀(r fs a:List Af),EK next fs r=some a→a.length=fs.length+r.length
 |[],fs,a,h=>by cases h;rfl
 |f::r,fs,a,h=>by
  unfold EK at h
  split at h
  ·cases h
  ·have:=Tb next r _ _ h
   rw[AP,D4]at this;rw[Ah];omega
theorem Nv{v v':VM}{e:EM}(h:BN v e=some v'):v'.files.length≤v.files.length+e.add.length:=by
 unfold BN at h
 split at h
 ·cases ha:EK e.next (Eh e v.files) e.add with
  |none=>rw[ha]at h;cases h
  |some a=>
   rw[ha]at h;simp only[I1,Option.some.injEq]at h;subst h;have:=Tb _ _ _ _ ha;have h2:(Eh e v.files).length≤v.files.length:=K6 _ _;simp only[LZ];omega
 ·cases h
theorem bI{v v':VM}{e:EM}(h:BN v e=some v'):FR v'=v':=by
 unfold BN at h
 split at h
 ·cases ha:EK e.next (Eh e v.files) e.add with
  |none=>rw[ha]at h;cases h
  |some a=>
   rw[ha]at h;simp only[I1,Option.some.injEq]at h;subst h;simp only[FR,xM]
 ·cases h
def Ib(kvs:List (Int×Int))(l:List Int):Prop:=∀n,(Am n kvs).getD 0=(l.count n:Int)
theorem Ib.nil:Ib [] []:=λ_=>rfl
theorem Ib.step{kvs:List (Int×Int)}{l:List Int}(h:Ib kvs l)(n:Int):Ib (BV n ((Am n kvs).getD 0+1) kvs) (l++[n]):=by
 intro m;rw[G6,Hm];by_cases hm:n=m
 ·subst hm;rw[if_pos rfl,FA,h n];simp
 ·rw[if_neg (Ne.symm hm),h m,List.count_singleton];simp[hm]
theorem Vv(fs:List Af)(n:Int):((fs.map (·.2)).count n=0)↔Dw fs n=false:=by
 rw[List.count_eq_zero];unfold Dw;rw[List.any_eq_false];simp only[BU,not_exists,not_and,beq_iff_eq]
theorem dB{e:EM}{fs:List Af}(h1:e.del.Nodup)(h2: ∀n∈e.del,Dw fs n=true):Gi e fs=true:=by
 unfold Gi;rw[Db];intro n hn;rw[Bool.and_eq_true,decide_eq_true_iff];exact⟨by rw[h1.count,if_pos hn],h2 n hn⟩
theorem cZ{e:EM}{fs:List Af}{n:Int}(hn:n∈e.del)(hc:1<e.del.count n):Gi e fs=false:=by
 unfold Gi;rw[List.all_eq_false];exact⟨n,hn,by simp;omega⟩
theorem dA{e:EM}{fs:List Af}{n:Int}(hn:n∈e.del)(hc:Dw fs n=false):Gi e fs=false:=by
 unfold Gi;rw[List.all_eq_false];exact⟨n,hn,by simp[hc]⟩
theorem cQ(l:List Int)(k:Nat)(n:Int):(l.take k).count n≤l.count n:=(List.take_sublist k l).count_le n
theorem uV{l:List Int}{n:Int}(h:l.Nodup)(hc:(l++[n]).count n≤1):(l++[n]).Nodup:=by
 rw[Hm,List.count_singleton]at hc;simp only[beq_self_eq_true,if_true]at hc;rw[F8];refine⟨h,AB,λa ha b hb=>?_⟩;rw[Cm]at hb;subst hb;intro hab;subst hab;have:=List.count_pos_iff.2 ha;omega
theorem sV(e:EM)(l:List Af)(f:Af):Eh e (l++[f])=if e.del.count f.2=0 then Eh e l++[f]else Eh e l:=by
 unfold Eh;rw[J9];by_cases h:f.2∈e.del
 ·have:e.del.count f.2≠0:=by have:=List.count_pos_iff.2 h;omega
  rw[if_neg this];simp[h]
 ·rw[if_pos (List.count_eq_zero.2 h)];simp[h]
def He(es:List EM):Nat:=(es.map λe=>e.add.length).sum
theorem cG(x y:Af)(w:World):Cl Tryz.prog nB [Fl x,Fl y] w λv w'=>v= .int .i64 (N1 x y)∧St w [] [] w':=by
 have hS:=St.start w;unfold Fl Ad;refine fF rfl ?_;refine jq ⟨?_⟩;refine hS.al ?_;intro b2 w2 _ hS;refine jq ⟨?_⟩;refine hS.al ?_;intro b3 w3 _ hS;refine jq ⟨?_⟩;refine AM.draw AK mixed (λw'=>St w [] [(b3,.cells ⟨[.int .i64 y.1,.int .i64 y.2]⟩ BE (0,0)),(b2,.cells ⟨[.int .i64 x.1,.int .i64 x.2]⟩ BE (0,0))] w') [11,12] [0,1,2,3,5,6,7,8,4,9,10,11,12] AD hS.drew ?_;have hS:=hS.drew;generalize w3.drew=w4 at hS
 refine jr ⟨?_⟩;refine N2.mono ?_;rintro _ _⟨rfl,rfl⟩;refine Ae.mk hS ?_;refine jr ⟨?_⟩;refine N2.mono ?_;rintro _ _⟨rfl,rfl⟩;refine Ae.mk hS ?_;refine jr ⟨?_⟩;refine hS.al ?_;intro g w5 _ hS;refine Ae.mk (hS.sub (AS _ _)) ?_;refine jr ⟨?_⟩;refine(Rf (hS.part (L:=[(g,.cells ⟨[.int .i64 (F6 x.1 y.1),.int .i64 (F6 x.2 y.2)]⟩ BX (0,0))]))).mono ?_;rintro _ w6⟨rfl,hS'⟩;have hS:=hS.call (L:=[(g,.cells ⟨[.int .i64 (F6 x.1 y.1),.int .i64 (F6 x.2 y.2)]⟩ BX (0,0))]) hS'
 refine jr ⟨?_⟩;refine jq ⟨?_⟩;exact⟨rfl,hS.nil⟩
structure FZ(w:World)(a:Option Addr)(cap:Nat)(l:List Af):Prop where
 arr:Arr w [] a (l.flatMap Ad)
 cap:l.length≤cap
theorem FZ.keep{w0 w:World}{H:AH}(hS:St w0 [] H w){a:Option Addr}{cap:Nat}{l:List Af}(h:FZ w0 a cap l):FZ w a cap l:=⟨hS.arrOld h.arr,h.cap⟩
theorem FZ.nil(w:World):FZ w none 0 []:=⟨Arr.nil _ _ _,AW _⟩
theorem G3(l:List Af):(l.flatMap Ad).length=l.length*2:=Kw (cv:=Ad) (sz:=2) (λ_=>rfl) l
theorem qT(l:List Af):(l.flatMap Ad).all Value.oneCell'=true:=by
 induction l with
 |nil=>rfl
 |cons p ps ih=>rw[E9,List.all_append,ih];rfl
theorem VS(p q:List Af):(p++q).flatMap Ad=p.flatMap Ad++q.flatMap Ad:=Hn
theorem FZ.pos{w:World}{a:Option Addr}{cap:Nat}{l:List Af}(h:FZ w a cap l)(hl:0<l.length): ∃g off,a=some ⟨g,off,none⟩:=by
 have:=G3 l;obtain⟨g,off,hg, -, -⟩:=h.arr.get (j:=0) AA;exact⟨g,off,hg⟩
theorem Kt{w0 w:World}{T:List Nat}{H L:AH}{F:AH→AH}(hS:St w0 T H w) [hc:Chunk H L F]{a:Option Addr}{n cap:Nat}{l:List Af}(hv:AT BE 2 a n cap (l.flatMap Ad) L):FZ w a cap l:=by
 have h1:=G3 l;have h2:=hv.len;exact⟨hv.arr hS AB,by have:=hv.cap;omega⟩
theorem Se{w:World}{a:Option Addr}{cap:Nat}{l:List Af}(ha:FZ w a cap l)(hlen:l.length≤16777216):
  Cl Tryz.prog oM [.slice a l.length cap] w λv w'=>∃a' c' L,v= .slice a' l.length c'∧AT BE 2 a' l.length c' (l.flatMap Ad) L∧St w [] L w':=by
 have hS:=St.start w;refine gR rfl ?_;rcases a with _|p
 ·have hl:l=[]:=by
   cases l with
   |nil=>rfl
   |cons x l=>obtain⟨g,off,h⟩:=ha.pos AB;cases h
  subst hl;refine jq ⟨?_⟩;refine Kr AK rfl rfl ?_;refine jq ⟨?_⟩;exact⟨_,_,[],rfl,AT.nil,hS⟩
 ·refine jq ⟨?_⟩;refine Kr AK rfl rfl ?_;refine jq ⟨?_⟩;refine hS.al ?_;intro r w1 _ hS;have hv:AT BE 2 (some ⟨r,0,none⟩) 0 0 [] [(r,.cells ⟨[]⟩ BE (0,0))]:=AT.row r 0 0 [] [] rfl rfl (AW _);refine jq ⟨?_⟩;refine St.app (sz:=2) (m:=l.length) AK rfl rfl rfl rfl hS hv (news:=l.flatMap Ad) (G3 l) (hS.arrOld ha.arr) (qT l) (by show(_+_)*16≤_;omega) AA ?_;intro a1 c1 L1 w2 hv hS;rw[Ca,DR]at hv;rw[DR];refine jq ⟨?_⟩
  exact⟨a1,c1,L1,rfl,hv,hS⟩
theorem cF:Ord λx y=>decide (N1 x y<0):=XH
theorem YM{w:World}{a:Option Addr}{cap:Nat}{l:List Af}(ha:FZ w a cap l)(hlen:l.length≤16777216):
  Cl Tryz.prog nA [.slice a l.length cap] w λv w'=>∃a' c' L,v= .slice a' (Dj l).length c'∧AT BE 2 a' (Dj l).length c' ((Dj l).flatMap Ad) L∧St w [] L w':=by
 have hS:=St.start w;refine fE rfl ?_;refine jq ⟨?_⟩;refine(Se ha hlen).mono ?_;rintro _ w1⟨a1,c1,L,rfl,hv,hS'⟩;have hS:=hS';have hcl:=G3 l;rcases hv.inv with⟨rfl,hl0,rfl, -,rfl⟩|⟨g,tl,rfl, -,hc2,hc1,rfl⟩
 ·have hl:l=[]:=Hp.1 hl0;subst hl;refine jq ⟨?_⟩;refine xO.mono ?_;intro _ w2 hS';have hS:=hS.call0 hS';refine jq ⟨?_⟩;exact⟨none,0,[],rfl,AT.nil,hS⟩
 ·refine jq ⟨?_⟩;refine(xQ cF cG hS.holds rfl hlen).mono ?_;rintro _ w2⟨l',hp,hs,hS'⟩;have hS:=hS.call1 hS';have hl':=YJ hp hs;subst hl';have hv:AT BE 2 (some ⟨g,0,none⟩) (Dj l).length c1 ((Dj l).flatMap Ad) [(g,.cells ⟨(Dj l).flatMap Ad++tl⟩ BE (0,0))]:=by
   exact AT.row g _ c1 _ tl (G3 _) (by rw[G3,LZ];omega) (by rw[LZ];exact hc1)
  rw[←LZ l];refine jq ⟨?_⟩;exact⟨_,_,_,rfl,hv,hS⟩
structure HZ(w:World)(a b:Option Addr)(ca cb:Nat)(e:EM):Prop where
 add:FZ w a ca e.add
 del:Arr w [] b (e.del.map AY)
 dcap:e.del.length≤cb
 len:e.add.length+e.del.length≤16777216
 rng: -9223372036854775808≤e.wal∧e.wal≤9223372036854775807∧ -9223372036854775808≤e.next∧e.next≤9223372036854775807∧ -9223372036854775808≤e.seq∧e.seq≤9223372036854775807
theorem HZ.keep{w0 w:World}{H:AH}(hS:St w0 [] H w){a b:Option Addr}{ca cb:Nat}{e:EM}(h:HZ w0 a b ca cb e):HZ w a b ca cb e:=⟨h.add.keep hS,hS.arrOld h.del,h.dcap,h.len,h.rng⟩
def Du(a b:Option Addr)(ca cb:Nat)(e:EM):List Value:=[.slice a e.add.length ca,.slice b e.del.length cb,.int .i64 e.wal,.int .i64 e.next,.int .i64 e.seq]
theorem FZ.at{w:World}{a:Option Addr}{cap:Nat}{l:List Af}(_h:FZ w a cap l){k:Nat}(hk:k<l.length):((l.flatMap Ad).drop (k*2)).take 2=Ad l[k]:=by
 have:=Mn (cv:=Ad) (sz:=2) (λ_=>rfl) l [] k hk;rwa[BT]at this
theorem Rv{w:World}{a b:Option Addr}{ca cb:Nat}{e:EM}(he:HZ w a b ca cb e):
  Cl Tryz.prog m8 [.agg ⟨Du a b ca cb e⟩] w λv w'=>v= .bool (C6 e)∧St w [] [] w':=by
 have hS:=St.start w;have hl:=he.len;have hcl:=G3 e.add;unfold Du;refine fD rfl ?_;refine jq ⟨?_⟩;refine hS.al ?_;intro b1 w1 _ hS;(repeat(refine jt ⟨?_⟩;refine hS.q ?_;intro _ hS));refine jt ⟨?_⟩;refine AM.loop (λk:Nat=>[(1,ptr b1),(8,.slice a e.add.length ca),(9,.int .i64 e.add.length),(10,.int .i64 k)])
  (λk w'=>(k≤e.add.length∧(e.add.take k).all HQ=true)∧St w [] [(b1,.cells ⟨Du a b ca cb e⟩ Br (0,0))] w') (λk=>e.add.length-k) 0
  ⟨rfl,rfl,rfl,rfl,trivial⟩ ⟨⟨Ag _,rfl⟩,hS⟩ ?_
 clear hS;rintro k w2⟨⟨hk,hok⟩,hS⟩;by_cases hkl:k<e.add.length
 ·obtain⟨g,off,rfl⟩:=he.add.pos AA;have hat:=he.add.at hkl;have hsucc:=Bq hkl;have hmem:e.add[k]∈e.add:=CW hkl;generalize e.add[k]=f at hat hsucc hmem;refine jq ⟨?_⟩;refine Arr.ldn hS he.add.arr rfl (k:=k*2) hat rfl ?_;unfold Ad;refine jq ⟨?_⟩;refine hS.al ?_;intro b4 w3 _ hS;by_cases hf:HQ f=true
  ·have hf':=hf;simp only[HQ,Bool.not_eq_true',Bool.or_eq_false_iff,decide_eq_false_iff_not]at hf';obtain⟨⟨h1,h2⟩,h3⟩:=hf';(repeat(refine jt ⟨?_⟩;refine hS.q ?_;intro _ hS));refine jt ⟨?_⟩;refine⟨k+1,⟨rfl,rfl,rfl,rfl,trivial⟩,⟨⟨AA,?_⟩,hS.sub (AS _ _)⟩,AA⟩;rw[hsucc,List.all_append,hok];simp[hf]
  ·have hr:C6 e=false:=by
    have:e.add.all HQ=false:=by
     rw[List.all_eq_false];exact⟨f,hmem,hf⟩
    simp[C6,this]
   have hf':f.2<1∨f.1<0∨1<f.1:=by
    simp only[HQ,Bool.not_eq_true,Bool.not_eq_false',Bool.or_eq_true,decide_eq_true_iff]at hf;omega
   rw[hr];by_cases h1:f.2<1
   ·(repeat(refine jt ⟨?_⟩;refine hS.q ?_;intro _ hS));refine jt ⟨?_⟩;exact⟨rfl,hS.nil⟩
   ·by_cases h2:f.1<0
    ·(repeat(refine jt ⟨?_⟩;refine hS.q ?_;intro _ hS));refine jt ⟨?_⟩;exact⟨rfl,hS.nil⟩
    ·(repeat(refine jt ⟨?_⟩;refine hS.q ?_;intro _ hS));refine jt ⟨?_⟩;exact⟨rfl,hS.nil⟩
 ·have hke:k=e.add.length:=AA;rw[hke,Bz]at hok;unfold Du at hS;(repeat(refine jt ⟨?_⟩;refine hS.q ?_;intro _ hS));refine jt ⟨?_⟩;refine AM.loop (λk:Nat=>[(1,ptr b1),(29,.slice b e.del.length cb),(30,.int .i64 e.del.length),(31,.int .i64 k)])
   (λk w'=>(k≤e.del.length∧(e.del.take k).all LN=true)∧St w [] [(b1,.cells ⟨Du a b ca cb e⟩ Br (0,0))] w') (λk=>e.del.length-k) 0
   ⟨rfl,rfl,rfl,rfl,trivial⟩ ⟨⟨Ag _,rfl⟩,hS⟩ ?_
  clear hS;rintro k w2⟨⟨hk,hok2⟩,hS⟩;by_cases hkl:k<e.del.length
  ·have hx:(e.del.map AY)[k]?=some (AY e.del[k]):=by rw[Et,CB hkl];rfl
   obtain⟨g,off,rfl, -, -⟩:=he.del.get (j:=k) (by rw[BZ];exact hkl);have hsucc:=Bq hkl;have hmem:e.del[k]∈e.del:=CW hkl;generalize e.del[k]=n at hx hsucc hmem;by_cases hn:n<1
   ·have hr:C6 e=false:=by
     have:e.del.all LN=false:=by
      rw[List.all_eq_false];exact⟨n,hmem,by simp[LN,hn]⟩
     simp[C6,this]
    rw[hr];refine jq ⟨?_⟩;refine Arr.ldc hS he.del hx AB ?_;unfold AY;refine jq ⟨?_⟩;exact⟨rfl,hS.nil⟩
   ·refine jq ⟨?_⟩;refine Arr.ldc hS he.del hx AB ?_;unfold AY;refine jq ⟨?_⟩;refine⟨k+1,⟨rfl,rfl,rfl,rfl,trivial⟩,⟨⟨AA,?_⟩,hS⟩,AA⟩;rw[hsucc,List.all_append,hok2];simp[LN,hn]
  ·have hke:k=e.del.length:=AA;rw[hke,Bz]at hok2;have hr:C6 e=decide (0≤e.wal∧0≤e.next∧0≤e.seq):=by simp[C6,hok,hok2]
   rw[hr];unfold Du at hS;(repeat(refine jt ⟨?_⟩;refine hS.q ?_;intro _ hS));refine jt ⟨?_⟩;refine jq ⟨?_⟩;refine⟨?_,hS.nil⟩;rw[Value.bool.injEq,decide_eq_decide];unfold RO
   split<;>split<;>omega
theorem St.tl2{w0 w:World}{T:List Nat}{p q:Nat×Obj}{R:AH}(hS:St w0 T (p::q::R) w):St w0 T R w:=hS.sub ((AS _ _).trans (AS _ _))
theorem St.tl1{w0 w:World}{T:List Nat}{p:Nat×Obj}{R:AH}(hS:St w0 T (p::R) w):St w0 T R w:=hS.sub (AS _ _)
theorem St.midA{w0 w:World}{T:List Nat}{q:Nat×Obj}{L2 L R:AH}(hS:St w0 T (L2++q::(L++R)) w):St w0 T (L2++R) w:=hS.sub (List.Sublist.append_left ((Ai L R).trans (AS q _)) L2)
theorem wY{w:World}{b:Nat}{f:Af}(hf:Arr w [] (some ⟨b,0,none⟩) (Ad f))(x:Af):Cl Tryz.prog Ur [Fl x,ptr b] w λv w'=>v= .bool (x.2==f.2)∧St w [] [] w':=by
 have hS:=St.start w;unfold Fl Ad;refine fA rfl ?_;refine jq ⟨?_⟩;refine hS.al ?_;intro b2 w2 _ hS;(repeat(refine jt ⟨?_⟩;refine hS.q ?_;intro _ hS));refine jt ⟨?_⟩;refine Arr.ldc hS hf (j:=1) (v:= .int .i64 f.2) rfl rfl ?_;(repeat(refine jt ⟨?_⟩;refine hS.q ?_;intro _ hS));refine jt ⟨?_⟩;refine⟨?_,hS.nil⟩;rw[Value.bool.injEq];rfl
def MU(b:Nat):Value:= .func (.func Ur) ⟨[]⟩ ⟨[ptr b]⟩
theorem sF{w:World}{a:Option Addr}{cap b:Nat}{l:List Af}{f:Af}(ha:FZ w a cap l)(hf:Arr w [] (some ⟨b,0,none⟩) (Ad f))(hlen:l.length≤16777216):
  Cl Tryz.prog oU [.slice a l.length cap,MU b] w λv w'=>(∃n,v= .int .i64 n∧(0≤n↔Dw l f.2=true))∧St w [] [] w':=by
 have hS:=St.start w;have hcl:=G3 l;refine gZ rfl ?_;refine jq ⟨?_⟩;refine AM.loop (λk:Nat=>[(0,.slice a l.length cap),(1,MU b),(7,.int .i64 l.length),(8,.int .i64 k)])
  (λk w'=>(k≤l.length∧Dw (l.take k) f.2=false)∧St w [] [] w') (λk=>l.length-k) 0
  ⟨rfl,rfl,rfl,rfl,trivial⟩ ⟨⟨Ag _,rfl⟩,hS⟩ ?_
 clear hS;rintro k w1⟨⟨hk,hno⟩,hS⟩;by_cases hkl:k<l.length
 ·obtain⟨g,off,rfl⟩:=ha.pos AA;have hat:=ha.at hkl;have hsucc:=Bq hkl;have hmem:l[k]∈l:=CW hkl;generalize l[k]=x at hat hsucc hmem;unfold MU;refine jq ⟨?_⟩;refine Arr.ldn hS ha.arr rfl (k:=k*2) hat rfl ?_;refine jq ⟨?_⟩;refine(wY (hS.arrOld hf) x).mono ?_;rintro _ w2⟨rfl,hS'⟩;have hS:=hS.call0 hS';by_cases hx:x.2=f.2
  ·rw[beq_iff_eq.2 hx];refine jq ⟨?_⟩;refine⟨⟨_,rfl,?_⟩,hS⟩;have:Dw l f.2=true:=by
    unfold Dw;rw[List.any_eq_true];exact⟨x,hmem,beq_iff_eq.2 hx⟩
   rw[this];simp
  ·rw[beq_eq_false_iff_ne.2 hx];refine jq ⟨?_⟩;refine⟨k+1,⟨rfl,rfl,rfl,rfl,trivial⟩,⟨⟨AA,?_⟩,hS⟩,AA⟩;rw[hsucc];unfold Dw at hno⊢;rw[List.any_append,hno];simp[hx]
 ·have hke:k=l.length:=AA;rw[hke,Bz]at hno;refine jq ⟨?_⟩;refine⟨⟨_,rfl,?_⟩,hS⟩;rw[hno];simp
theorem cP{w:World}{a:Option Addr}{cap b:Nat}{l:List Af}{f:Af}(ha:FZ w a cap l)(hf:Arr w [] (some ⟨b,0,none⟩) (Ad f))(hlen:l.length≤16777216):
  Cl Tryz.prog oR [.slice a l.length cap,MU b] w λv w'=>v= .bool (Dw l f.2)∧St w [] [] w':=by
 refine gW rfl ?_;unfold MU;refine jq ⟨?_⟩;refine(sF ha hf hlen).mono ?_;rintro _ w1⟨⟨n,rfl,hn⟩,hS⟩;refine jq ⟨?_⟩;refine⟨?_,hS⟩;rw[Value.bool.injEq,Bool.eq_iff_iff,decide_eq_true_iff];exact hn
def C8(a:Option Addr)(ca:Nat)(v:VM):List Value:=[.slice a v.files.length ca,.int .i64 v.wal,.int .i64 v.next,.int .i64 v.seq]
structure Gz(w:World)(a:Option Addr)(ca:Nat)(v:VM):Prop where
 files:FZ w a ca v.files
 rng: -9223372036854775808≤v.wal∧v.wal≤9223372036854775807∧ -9223372036854775808≤v.next∧v.next≤9223372036854775807∧ -9223372036854775808≤v.seq∧v.seq≤9223372036854775807
def Cs:VM:=⟨[],0,0,0⟩
structure Ds(a:Option Addr)(ca:Nat)(v:VM)(L:AH):Prop where
 vec:AT BE 2 a v.files.length ca (v.files.flatMap Ad) L
 rng: -9223372036854775808≤v.wal∧v.wal≤9223372036854775807∧ -9223372036854775808≤v.next∧v.next≤9223372036854775807∧ -9223372036854775808≤v.seq∧v.seq≤9223372036854775807
theorem Ds.at{w0 w:World}{T:List Nat}{H L:AH}{F:AH→AH}{a:Option Addr}{ca:Nat}{v:VM}(h:Ds a ca v L)(hS:St w0 T H w) [hc:Chunk H L F]:Gz w a ca v:=⟨Kt hS h.vec,h.rng⟩
def PU(o:Option VM)(r:Value)(w w':World):Prop:=match o with
 |none=>r= .tuple ⟨[.agg ⟨C8 none 0 Cs⟩,.bool false]⟩∧St w [] [] w'
 |some v'=>∃a' c' L,r= .tuple ⟨[.agg ⟨C8 a' c' v'⟩,.bool true]⟩∧Ds a' c' v' L∧St w [] L w'
structure FI where
 fs:List Af
 k:Nat
 a:Option Addr
 c:Nat
set_option maxRecDepth 4000 in
theorem Tn{w:World}{a x y:Option Addr}{ca cx cy:Nat}{v:VM}{e:EM}(hv:Gz w a ca v)(he:HZ w x y cx cy e)(hlen:v.files.length+e.add.length≤16777216):
  Cl Tryz.prog mZ [.agg ⟨C8 a ca v⟩,.agg ⟨Du x y cx cy e⟩] w λr w'=>PU (BN v e) r w w':=by
 have hS:=St.start w;have hel:=he.len;have her:=he.rng;have hvr:=hv.rng;unfold C8 Du;refine eZ rfl ?_;refine jq ⟨?_⟩;refine hS.al ?_;intro b2 w1 _ hS;refine jq ⟨?_⟩;refine hS.al ?_;intro b3 w2 _ hS;refine jq ⟨?_⟩;refine hS.al ?_;intro b4 w3 _ hS;(repeat(refine jt ⟨?_⟩;refine hS.q ?_;intro _ hS));refine jt ⟨?_⟩;refine(Rv (he.keep hS)).mono ?_;rintro _ w4⟨rfl,hS'⟩;have hS:=hS.call0 hS';by_cases hr:C6 e=true
 ·rw[hr];by_cases hn:e.next<v.next
  ·have hnone:BN v e=none:=by
    unfold BN GF;rw[show decide (v.next≤e.next)=false from decide_eq_false AA];simp
   (repeat(refine jt ⟨?_⟩;refine hS.q ?_;intro _ hS));refine jt ⟨?_⟩;rw[hnone];exact⟨rfl,hS.nil⟩
  ·by_cases hs:e.seq<v.seq
   ·have hnone:BN v e=none:=by
     unfold BN GF;rw[show decide (v.seq≤e.seq)=false from decide_eq_false AA];simp
    (repeat(refine jt ⟨?_⟩;refine hS.q ?_;intro _ hS));refine jt ⟨?_⟩;rw[hnone];exact⟨rfl,hS.nil⟩
   ·have hst:GF v e=true:=by
     unfold GF;rw[hr,decide_eq_true (show v.next≤e.next by omega),decide_eq_true (show v.seq≤e.seq by omega)];rfl
    (repeat(refine jt ⟨?_⟩;refine hS.q ?_;intro _ hS));refine jt ⟨?_⟩;refine hS.al ?_;intro m6 w5 _ hS;(repeat(refine jt ⟨?_⟩;refine hS.q ?_;intro _ hS));refine jt ⟨?_⟩;refine hS.al ?_;intro m7 w6 _ hS;(repeat(refine jt ⟨?_⟩;refine hS.q ?_;intro _ hS));refine jt ⟨?_⟩;refine AM.loop (λk:Nat=>[(2,ptr b2),(3,ptr b3),(4,ptr b4),(6,.map (some m6)),(7,.map (some m7)),(38,.slice a v.files.length ca),(39,.int .i64 v.files.length),(40,.int .i64 k)])
     (λk w'=>k≤v.files.length∧ ∃es c kvs,MapC AY AY es c kvs∧Ib kvs ((v.files.take k).map (·.2))∧St w [] [(m7,.map #[] 0),(m6,.map es c),(b4,.cells ⟨[.slice none 0 0,.int .i64 0,.int .i64 0,.int .i64 0]⟩ Ec (0,0)),(b3,.cells ⟨[.slice x e.add.length cx,.slice y e.del.length cy,.int .i64 e.wal,.int .i64 e.next,.int .i64 e.seq]⟩ Br (0,0)),(b2,.cells ⟨[.slice a v.files.length ca,.int .i64 v.wal,.int .i64 v.next,.int .i64 v.seq]⟩ Ec (0,0))] w') (λk=>v.files.length-k) 0
     ⟨rfl,rfl,rfl,rfl,rfl,rfl,rfl,rfl,trivial⟩ ⟨Ag _, #[],0,[],⟨rfl,by simp[E3]⟩,Ib.nil,hS⟩ ?_
    clear hS;rintro k w7⟨hk,es,c,kvs,hm,hct,hS⟩;have hkc:=hct;by_cases hkl:k<v.files.length
    ·obtain⟨g,off,rfl⟩:=hv.files.pos AA;have hat:=hv.files.at hkl;have hsucc:=Bq hkl;generalize v.files[k]=f at hat hsucc;refine jq ⟨?_⟩;refine Arr.ldn hS hv.files.arr rfl (k:=k*2) hat rfl ?_;unfold Ad;refine jq ⟨?_⟩;refine hS.al ?_;intro b9 w8 _ hS;have hcn:=hct f.2;have hcl:((v.files.take k).map (·.2)).count f.2≤k:=by
      refine Au (List.count_le_length) ?_;rw[BZ,Ba];omega
     (repeat(refine jt ⟨?_⟩;refine hS.q ?_;intro _ hS));refine jt ⟨?_⟩;refine LA (kvs:=kvs) (λw'' hw'=>⟨es,c,by subst hw';exact hS.mem (b:=m6),hm.of⟩) ?_;generalize hz:(Am f.2 kvs).getD 0=z at hcn;(repeat(refine jt ⟨?_⟩;refine hS.q ?_;intro _ hS));refine jt ⟨?_⟩;refine St.mapSet AK Bn.i64 rfl rfl Em hS (v:=z+1) hm ?_;intro es2 c2 w9 hm2 hS;refine jq ⟨?_⟩;refine⟨k+1,⟨rfl,rfl,rfl,rfl,rfl,rfl,rfl,rfl,trivial⟩,⟨AA,es2,c2,_,hm2,?_,hS.sub (AS _ _)⟩,AA⟩
     rw[hsucc,A7,←hz];exact hct.step f.2
    ·have hke:k=v.files.length:=AA;rw[hke,Bz]at hct;(repeat(refine jt ⟨?_⟩;refine hS.q ?_;intro _ hS));refine jt ⟨?_⟩;clear hkc hke hkl hk;refine AM.loop (λk:Nat=>[(2,ptr b2),(3,ptr b3),(4,ptr b4),(6,.map (some m6)),(7,.map (some m7)),(51,.slice y e.del.length cy),(52,.int .i64 e.del.length),(53,.int .i64 k)])
      (λk w'=>(k≤e.del.length∧(e.del.take k).Nodup∧ ∀n∈e.del.take k,Dw v.files n=true)∧ ∃es7 c7 kv7,MapC AY AY es7 c7 kv7∧Ib kv7 (e.del.take k)∧St w [] [(m7,.map es7 c7),(m6,.map es c),(b4,.cells ⟨[.slice none 0 0,.int .i64 0,.int .i64 0,.int .i64 0]⟩ Ec (0,0)),(b3,.cells ⟨[.slice x e.add.length cx,.slice y e.del.length cy,.int .i64 e.wal,.int .i64 e.next,.int .i64 e.seq]⟩ Br (0,0)),(b2,.cells ⟨[.slice a v.files.length ca,.int .i64 v.wal,.int .i64 v.next,.int .i64 v.seq]⟩ Ec (0,0))] w') (λk=>e.del.length-k) 0
      ⟨rfl,rfl,rfl,rfl,rfl,rfl,rfl,rfl,trivial⟩ ⟨⟨Ag _,AB,AB⟩, #[],0,[],⟨rfl,by simp[E3]⟩,Ib.nil,hS⟩ ?_
     clear hS;rintro k w8⟨⟨hk,hnd,hhas⟩,es7,c7,kv7,hm7,hct7,hS⟩;by_cases hkl:k<e.del.length
     ·have hx:(e.del.map AY)[k]?=some (AY e.del[k]):=by rw[Et,CB hkl];rfl
      obtain⟨g,off,rfl, -, -⟩:=he.del.get (j:=k) (by rw[BZ];exact hkl);have hsucc:=Bq hkl;have hmem:e.del[k]∈e.del:=CW hkl;have hcle:=cQ e.del (k+1);generalize e.del[k]=n at hx hsucc hmem;have hct8:=hct7.step n;rw[←hsucc]at hct8;have hcn:=hct7 n;have hcl:(e.del.take k).count n≤k:=Au (List.count_le_length) (by rw[Ba];omega);have hc8:=hct8 n;rw[G6,if_pos rfl,FA]at hc8;have hc6:=hct n;have hfl:(v.files.map (·.2)).count n≤v.files.length:=Au List.count_le_length (by rw[BZ];exact AW _)
      generalize hz:(Am n kv7).getD 0=z at hcn hct8 hc8;generalize hz6:(Am n kvs).getD 0=z6 at hc6;refine jq ⟨?_⟩;refine Arr.ldc hS he.del hx AB ?_;unfold AY;refine jq ⟨?_⟩;refine LA (kvs:=kv7) (λw'' hw'=>⟨es7,c7,by subst hw';exact hS.mem (b:=m7),hm7.of⟩) ?_;rw[hz];(repeat(refine jt ⟨?_⟩;refine hS.q ?_;intro _ hS));refine jt ⟨?_⟩;refine St.mapSet AK Bn.i64 rfl rfl Em hS (v:=z+1) hm7 ?_;intro es2 c2 w9 hm2 hS
      refine jq ⟨?_⟩;refine LA (kvs:=BV n (z+1) kv7) (λw'' hw'=>⟨es2,c2,by subst hw';exact hS.mem (b:=m7),hm2.of⟩) ?_;rw[G6,if_pos rfl,FA];by_cases h1:1<z+1
      ·have hnone:BN v e=none:=by
        unfold BN;rw[cZ hmem (by have:=hcle n;omega)];simp
       (repeat(refine jt ⟨?_⟩;refine hS.q ?_;intro _ hS));refine jt ⟨?_⟩;rw[hnone];exact⟨rfl,hS.nil⟩
      ·refine jq ⟨?_⟩;refine LA (kvs:=kvs) (λw'' hw'=>⟨es,c,by subst hw';exact hS.mem (b:=m6),hm.of⟩) ?_;rw[hz6];by_cases h2:z6=0
       ·have hnone:BN v e=none:=by
         unfold BN;rw[dA hmem ((Vv _ _).1 AA)];simp
        (repeat(refine jt ⟨?_⟩;refine hS.q ?_;intro _ hS));refine jt ⟨?_⟩;rw[hnone];exact⟨rfl,hS.nil⟩
       ·(repeat(refine jt ⟨?_⟩;refine hS.q ?_;intro _ hS));refine jt ⟨?_⟩;refine⟨k+1,⟨rfl,rfl,rfl,rfl,rfl,rfl,rfl,rfl,trivial⟩,⟨⟨AA,?_,?_⟩,es2,c2,_,hm2,hct8,hS⟩,AA⟩
        ·rw[hsucc]at hc8⊢;exact uV hnd AA
        ·intro m hmm;rw[hsucc]at hmm;rcases Bk.1 hmm with hmm|hmm
         ·exact hhas m hmm
         ·rw[Cm]at hmm;subst hmm;cases hh:Dw v.files m with
          |true=>rfl
          |false=>have:=(Vv _ _).2 hh;omega
     ·have hke:k=e.del.length:=AA;rw[hke,Bz]at hct7 hnd hhas;have hdel:=dB hnd hhas;(repeat(refine jt ⟨?_⟩;refine hS.q ?_;intro _ hS));refine jt ⟨?_⟩;clear hke hkl hk hnd hhas;have hS:St w [] ([]++[(m7,.map es7 c7),(b4,.cells ⟨[.slice none 0 0,.int .i64 0,.int .i64 0,.int .i64 0]⟩ Ec (0,0)),(b3,.cells ⟨[.slice x e.add.length cx,.slice y e.del.length cy,.int .i64 e.wal,.int .i64 e.next,.int .i64 e.seq]⟩ Br (0,0)),(b2,.cells ⟨[.slice a v.files.length ca,.int .i64 v.wal,.int .i64 v.next,.int .i64 v.seq]⟩ Ec (0,0))]) w8:=hS.sub ((AS _ _).cons_cons _)
      refine AM.loop (λz:FI=>[(2,ptr b2),(3,ptr b3),(4,ptr b4),(7,.map (some m7)),(12,.slice z.a z.fs.length z.c),(74,.slice a v.files.length ca),(75,.int .i64 v.files.length),(76,.int .i64 z.k)])
       (λz w'=>(z.k≤v.files.length∧z.fs=Eh e (v.files.take z.k))∧ ∃L,AT BE 2 z.a z.fs.length z.c (z.fs.flatMap Ad) L∧St w [] (L++[(m7,.map es7 c7),(b4,.cells ⟨[.slice none 0 0,.int .i64 0,.int .i64 0,.int .i64 0]⟩ Ec (0,0)),(b3,.cells ⟨[.slice x e.add.length cx,.slice y e.del.length cy,.int .i64 e.wal,.int .i64 e.next,.int .i64 e.seq]⟩ Br (0,0)),(b2,.cells ⟨[.slice a v.files.length ca,.int .i64 v.wal,.int .i64 v.next,.int .i64 v.seq]⟩ Ec (0,0))]) w') (λz=>v.files.length-z.k) ⟨[],0,none,0⟩
       ⟨rfl,rfl,rfl,rfl,rfl,rfl,rfl,rfl,trivial⟩ ⟨⟨Ag _,rfl⟩,[],AT.nil,hS⟩ ?_
      clear hS;rintro⟨fs,k,a1,c1⟩w9⟨⟨hk,hfs⟩,L,hvec,hS⟩;simp only at hk hfs hvec hS⊢;have hfl:fs.length≤v.files.length:=by
       rw[hfs];exact Au (K6 _ _) (by rw[Ba];omega)
      by_cases hkl:k<v.files.length
      ·obtain⟨g,off,rfl⟩:=hv.files.pos AA;have hat:=hv.files.at hkl;have hsucc:=Bq hkl;generalize v.files[k]=f at hat hsucc;have hkf:=sV e (v.files.take k) f;rw[←hsucc,←hfs]at hkf;have hcn:=hct7 f.2;refine jq ⟨?_⟩;refine Arr.ldn hS hv.files.arr rfl (k:=k*2) hat rfl ?_;unfold Ad;refine jq ⟨?_⟩;refine hS.al ?_;intro b14 w10 _ hS;(repeat(refine jt ⟨?_⟩;refine hS.q ?_;intro _ hS));refine jt ⟨?_⟩;refine LA (kvs:=kv7) (λw'' hw'=>⟨es7,c7,by subst hw';exact hS.mem (b:=m7),hm7.of⟩) ?_
       by_cases hz:e.del.count f.2=0
       ·rw[if_pos hz]at hkf;rw[hcn,hz];(repeat(refine jt ⟨?_⟩;refine hS.q ?_;intro _ hS));refine jt ⟨?_⟩;refine hS.al ?_;intro r w11 _ hS;(repeat(refine jt ⟨?_⟩;refine hS.q ?_;intro _ hS));refine jt ⟨?_⟩;refine St.app (sz:=2) (m:=1) AK rfl rfl rfl rfl hS hvec (news:=Ad f) rfl (by have:=hS.arr (b:=r) (T':=[]) AB;exact this) rfl (by show(_+_)*16≤_;omega) AA ?_;intro a2 c2 L2 w12 hvec hS;have hS:=St.tl2 hS
        have e9:fs.flatMap Ad++Ad f=(fs++[f]).flatMap Ad:=AB;have e8:fs.length+1=(fs++[f]).length:=AB;rw[e9,e8]at hvec;rw[e8];(repeat(refine jt ⟨?_⟩;refine hS.q ?_;intro _ hS));refine jt ⟨?_⟩;exact⟨⟨fs++[f],k+1,a2,c2⟩,⟨rfl,rfl,rfl,rfl,rfl,rfl,rfl,rfl,trivial⟩,⟨⟨by simp only;omega,hkf.symm⟩,L2,hvec,hS⟩,by simp only;omega⟩
       ·rw[if_neg hz]at hkf;rw[hcn];(repeat(refine jt ⟨?_⟩;refine hS.q ?_;intro _ hS));refine jt ⟨?_⟩;exact⟨⟨fs,k+1,a1,c1⟩,⟨rfl,rfl,rfl,rfl,rfl,rfl,rfl,rfl,trivial⟩,⟨⟨by simp only;omega,hkf.symm⟩,L,hvec,hS.sub (AS _ _)⟩,by simp only;omega⟩
      ·have hke:k=v.files.length:=AA;rw[hke,Bz]at hfs;have hap:BN v e=(EK e.next fs e.add).map λfs=>⟨Dj fs,e.wal,e.next,e.seq⟩:=by
        unfold BN;rw[hst,hdel,hfs];rfl
       (repeat(refine jt ⟨?_⟩;refine hS.q ?_;intro _ hS));refine jt ⟨?_⟩;clear hke hkl hk hfs;refine AM.loop (λz:FI=>[(2,ptr b2),(3,ptr b3),(4,ptr b4),(12,.slice z.a z.fs.length z.c),(91,.slice x e.add.length cx),(92,.int .i64 e.add.length),(93,.int .i64 z.k)])
        (λz w'=>(z.k≤e.add.length∧z.fs.length≤v.files.length+z.k∧EK e.next z.fs (e.add.drop z.k)=EK e.next fs e.add)∧ ∃L,AT BE 2 z.a z.fs.length z.c (z.fs.flatMap Ad) L∧St w [] (L++[(m7,.map es7 c7),(b4,.cells ⟨[.slice none 0 0,.int .i64 0,.int .i64 0,.int .i64 0]⟩ Ec (0,0)),(b3,.cells ⟨[.slice x e.add.length cx,.slice y e.del.length cy,.int .i64 e.wal,.int .i64 e.next,.int .i64 e.seq]⟩ Br (0,0)),(b2,.cells ⟨[.slice a v.files.length ca,.int .i64 v.wal,.int .i64 v.next,.int .i64 v.seq]⟩ Ec (0,0))]) w') (λz=>e.add.length-z.k) ⟨fs,0,a1,c1⟩
        ⟨rfl,rfl,rfl,rfl,rfl,rfl,rfl,trivial⟩ ⟨⟨Ag _,hfl,rfl⟩,L,hvec,hS⟩ ?_
       clear hS hvec hfl;generalize hgo:EK e.next fs e.add=res at hap;clear hgo;rintro⟨fs,k,a1,c1⟩w9⟨⟨hk,hfl,hadd⟩,L,hvec,hS⟩;simp only at hk hfl hadd hvec hS⊢;by_cases hkl:k<e.add.length
       ·obtain⟨g,off,rfl⟩:=he.add.pos AA;have hat:=he.add.at hkl;rw[FM hkl]at hadd;generalize e.add[k]=f at hat hadd;unfold EK at hadd;refine jq ⟨?_⟩;refine Arr.ldn hS he.add.arr rfl (k:=k*2) hat rfl ?_;unfold Ad;refine jq ⟨?_⟩;refine hS.al ?_;intro b16 w10 _ hS;by_cases h1:e.next≤f.2
        ·rw[if_pos (.inl h1)]at hadd;have hnone:BN v e=none:=by rw[hap,←hadd];rfl
         (repeat(refine jt ⟨?_⟩;refine hS.q ?_;intro _ hS));refine jt ⟨?_⟩;rw[hnone];exact⟨rfl,hS.nil⟩
        ·(repeat(refine jt ⟨?_⟩;refine hS.q ?_;intro _ hS));refine jt ⟨?_⟩;refine Bm.of rfl ?_;(repeat(refine jt ⟨?_⟩;refine hS.q ?_;intro _ hS));refine jt ⟨?_⟩;refine(cP (f:=f) (Kt hS hvec) (by have:=hS.arr (b:=b16) (T':=[]) AB;exact this) AA).mono ?_;rintro _ w10⟨rfl,hS'⟩;have hS:=hS.call0 hS';by_cases h2:Dw fs f.2=true
         ·rw[if_pos (.inr h2)]at hadd;have hnone:BN v e=none:=by rw[hap,←hadd];rfl
          rw[h2];(repeat(refine jt ⟨?_⟩;refine hS.q ?_;intro _ hS));refine jt ⟨?_⟩;rw[hnone];exact⟨rfl,hS.nil⟩
         ·rw[if_neg (by rintro(h|h);exact h1 h;exact h2 h)]at hadd;rw[show Dw fs f.2=false by simpa using h2];(repeat(refine jt ⟨?_⟩;refine hS.q ?_;intro _ hS));refine jt ⟨?_⟩;refine hS.al ?_;intro r w11 _ hS;(repeat(refine jt ⟨?_⟩;refine hS.q ?_;intro _ hS));refine jt ⟨?_⟩;refine St.app (sz:=2) (m:=1) AK rfl rfl rfl rfl hS hvec (news:=Ad f) rfl (by have:=hS.arr (b:=r) (T':=[]) AB;exact this) rfl (by show(_+_)*16≤_;omega) AA ?_
          intro a2 c2 L2 w12 hvec hS;have hS:=St.tl2 hS;have e9:fs.flatMap Ad++Ad f=(fs++[f]).flatMap Ad:=AB;have e8:fs.length+1=(fs++[f]).length:=AB;rw[e9,e8]at hvec;rw[e8];(repeat(refine jt ⟨?_⟩;refine hS.q ?_;intro _ hS));refine jt ⟨?_⟩;exact⟨⟨fs++[f],k+1,a2,c2⟩,⟨rfl,rfl,rfl,rfl,rfl,rfl,rfl,trivial⟩,⟨⟨by simp only;omega,by simp only[AP,D4];omega,hadd⟩,L2,hvec,hS⟩,by simp only;omega⟩
       ·have hke:k=e.add.length:=AA;rw[hke,II]at hadd;have hsome:BN v e=some ⟨Dj fs,e.wal,e.next,e.seq⟩:=by rw[hap,←hadd];rfl
        rw[hsome];(repeat(refine jt ⟨?_⟩;refine hS.q ?_;intro _ hS));refine jt ⟨?_⟩;refine AM.draw AK mixed (λw'=>St w [] (L++[(m7,.map es7 c7),(b4,.cells ⟨[.slice none 0 0,.int .i64 0,.int .i64 0,.int .i64 0]⟩ Ec (0,0)),(b3,.cells ⟨[.slice x e.add.length cx,.slice y e.del.length cy,.int .i64 e.wal,.int .i64 e.next,.int .i64 e.seq]⟩ Br (0,0)),(b2,.cells ⟨[.slice a v.files.length ca,.int .i64 v.wal,.int .i64 v.next,.int .i64 v.seq]⟩ Ec (0,0))]) w') [9,10] [0,2,3,4,5,6,7,1,8,9,10] AD hS.drew ?_
        have hS:=hS.drew;generalize w9.drew=w10 at hS;refine jr ⟨?_⟩;refine(YM (Kt hS hvec) AA).mono ?_;rintro _ w11⟨a5,c5,L5,rfl,hv5,hS'⟩;have hS:=hS.callNew hS';refine Ae.mk (hS.sub (Ai _ _)) ?_;(repeat(refine jt ⟨?_⟩;refine hS.q ?_;intro _ hS));refine jt ⟨?_⟩;exact⟨a5,c5,L5,rfl,⟨hv5,her⟩,hS.sub (CD _ _)⟩
 ·have hr':C6 e=false:=by simpa using hr
  have hnone:BN v e=none:=by unfold BN GF;rw[hr'];simp
  rw[hr'];(repeat(refine jt ⟨?_⟩;refine hS.q ?_;intro _ hS));refine jt ⟨?_⟩;rw[hnone];exact⟨rfl,hS.nil⟩
end Go.Proofs.YtkgibdhpijdbfaaGreatDoor
namespace Go.Proofs.YtkgibdhpijdbfaaGreatDoor
open Go Go.Eng Go.Proofs Go.Srt
open Go.ChangeShapes Go.WideShapes Go.ChangeAt Go.RowKit
theorem Bo.addr{β:Type}{sz:Nat}{R:CS β}{W:World}{a:Option Addr}{n cap:Nat}{xs:List β}(h:Bo sz R W [.slice a n cap] xs)(hx:0<xs.length): ∃g off,a=some ⟨g,off,none⟩:=by
 obtain⟨b,off,cs,h1, -⟩:=h.at hx;exact⟨b,off,h1⟩
theorem Bo.cap{β:Type}{sz:Nat}{R:CS β}{W:World}{a:Option Addr}{n cap:Nat}{xs:List β}(h:Bo sz R W [.slice a n cap] xs):xs.length≤cap:=by
 obtain⟨a',cap',h1,h2, -⟩:=h.ex;have:cap=cap':=by simpa using(List.cons.inj h1).1|> λh=>(Value.slice.inj h).2.2
 omega
def Js:CS EM:=λW cs e=>∃a b ca cb,cs=Du a b ca cb e∧HZ W a b ca cb e
end Go.Proofs.YtkgibdhpijdbfaaGreatDoor
namespace Go.Proofs.YtkgibdhpijdbfaaGreatDoor
open Go Go.Eng Go.Proofs Go.Srt
theorem Js.keep{w0 w:World}{H:AH}(hS:St w0 [] H w)(cs:List Value)(e:EM)(h:Js w0 cs e):Js w cs e:=by
 obtain⟨a,b,ca,cb,h1,h2⟩:=h;exact⟨a,b,ca,cb,h1,h2.keep hS⟩
def PT(o:Option VM)(r:Value)(w w':World):Prop:=match o with
 |none=>r= .tuple ⟨[.agg ⟨C8 none 0 Cs⟩,.int .i64 11]⟩∧St w [] [] w'
 |some v'=>∃a' c' L,r= .tuple ⟨[.agg ⟨C8 a' c' v'⟩,.int .i64 0]⟩∧Ds a' c' v' L∧St w [] L w'
structure AI where
 v:VM
 a:Option Addr
 c:Nat
 k:Nat
theorem bA(es:List EM)(k:Nat)(hk:k<es.length):He (es.take (k+1))=He (es.take k)+es[k].add.length:=by
 unfold He;rw[Bq hk,A7,kD];simp
theorem aZ(es:List EM)(k:Nat):He (es.take k)≤He es:=by
 unfold He
 conv=>rhs;rw[←CN k es,A7,kD]
 omega
theorem PV{w:World}{a x:Option Addr}{ca cx:Nat}{v:VM}{es:List EM}(hv:Gz w a ca v)(he:Bo 5 Js w [.slice x es.length cx] es)(hlen:v.files.length+He es≤8388608)(hel:es.length≤8388608):
  Cl Tryz.prog mQ [.agg ⟨C8 a ca v⟩,.slice x es.length cx] w λr w'=>PT (Il (FR v) es) r w w':=by
 have hS:=St.start w;have hvr:=hv.rng;unfold C8;refine eN rfl ?_;refine jq ⟨?_⟩;refine hS.al ?_;intro b2 w1 _ hS;refine jq ⟨?_⟩;refine hS.al ?_;intro b4 w2 _ hS;(repeat(refine jt ⟨?_⟩;refine hS.q ?_;intro _ hS));refine jt ⟨?_⟩;refine(YM (hv.files.keep hS) AA).mono ?_;rintro _ w3⟨a1,c1,L1,rfl,hv1,hS'⟩;have hS:=hS.callNew hS';(repeat(refine jt ⟨?_⟩;refine hS.q ?_;intro _ hS));refine jt ⟨?_⟩;have hvv:Ds a1 c1 (FR v) L1:=⟨hv1,hvr⟩
 refine AM.loop (λz:AI=>[(2,ptr b2),(4,ptr b4),(14,.slice x es.length cx),(15,.int .i64 es.length),(16,.int .i64 z.k)])
  (λz w'=>(z.k≤es.length∧Il z.v (es.drop z.k)=Il (FR v) es∧z.v.files.length≤v.files.length+He (es.take z.k))∧ ∃L,Ds z.a z.c z.v L∧St w [] (L++[(b4,.cells ⟨[.slice none 0 0,.int .i64 0,.int .i64 0,.int .i64 0]⟩ Ec (0,0)),(b2,.cells ⟨[.slice z.a z.v.files.length z.c,.int .i64 z.v.wal,.int .i64 z.v.next,.int .i64 z.v.seq]⟩ Ec (0,0))]) w') (λz=>es.length-z.k) ⟨FR v,a1,c1,0⟩
  ⟨rfl,rfl,rfl,rfl,rfl,trivial⟩ ⟨⟨Ag _,rfl,by simp only[FR,LZ];omega⟩,L1,hvv,hS⟩ ?_
 clear hS hvv hv1;generalize Il (FR v) es=res;rintro⟨v1,a1,c1,k⟩w4⟨⟨hk,hall,hfl⟩,L,hvv,hS⟩;simp only at hk hall hfl hvv hS⊢;by_cases hkl:k<es.length
 ·have hsl:=bA es k hkl;have hle:=aZ es (k+1);rw[FM hkl]at hall;obtain⟨g,off,cs,rfl,hR,hld⟩:=Bo.ldn hS.nil he hkl;obtain⟨ea,eb,eca,ecb,rfl,heA⟩:=hR;generalize es[k]=e at hsl hall heA hld;unfold Du at hld;refine jq ⟨?_⟩;refine hld _ ?_;refine jq ⟨?_⟩;refine hS.al ?_;intro b7 w5 _ hS;(repeat(refine jt ⟨?_⟩;refine hS.q ?_;intro _ hS));refine jt ⟨?_⟩;refine(Tn (hvv.at hS) (heA.keep hS) AA).mono ?_;intro r w6 hpost
  unfold Il at hall;cases hap:BN v1 e with
  |none=>
   rw[hap]at hpost hall;obtain⟨rfl,hS'⟩:=hpost;have hS:=hS.call0 hS';simp only at hall;subst hall;unfold C8 Cs;(repeat(refine jt ⟨?_⟩;refine hS.q ?_;intro _ hS));refine jt ⟨?_⟩;refine hS.al ?_;intro b8 w7 _ hS;(repeat(refine jt ⟨?_⟩;refine hS.q ?_;intro _ hS));refine jt ⟨?_⟩;exact⟨rfl,hS.nil⟩
  |some v2=>
   rw[hap]at hpost hall;obtain⟨a2,c2,L2,rfl,hv2,hS'⟩:=hpost;have hS:=hS.callNew hS';simp only at hall;unfold C8;(repeat(refine jt ⟨?_⟩;refine hS.q ?_;intro _ hS));refine jt ⟨?_⟩;refine hS.al ?_;intro b8 w7 _ hS;(repeat(refine jt ⟨?_⟩;refine hS.q ?_;intro _ hS));refine jt ⟨?_⟩;have hln:=Nv hap;refine⟨⟨v2,a2,c2,k+1⟩,⟨rfl,rfl,rfl,rfl,rfl,trivial⟩,⟨⟨by simp only;omega,hall,by simp only;omega⟩,L2,hv2,?_⟩,by simp only;omega⟩
   exact St.midA (St.tl1 hS)
 ·have hke:k=es.length:=AA;rw[hke,II]at hall;unfold Il at hall;subst hall;(repeat(refine jt ⟨?_⟩;refine hS.q ?_;intro _ hS));refine jt ⟨?_⟩;exact⟨a1,c1,L,rfl,hvv,hS.sub (CD _ _)⟩
end Go.Proofs.YtkgibdhpijdbfaaGreatDoor
namespace Go.Eng
open Go
theorem uL{P:Program}{T0:BL}(hT:BR P T0){t:TypeId}{i:TI}(hi:tf T0 t=some i)(hk:i.k= .iface){x y:Operand}{u:TypeId}{v:Value}{K:Value→Prop}(hK:K (.bool true)):
  JJ P (do eqGuard .neq t x y (.iface u v) .nilIface;binOp .neq t (.iface u v) .nilIface) K:=by
 have h:=CZ hT hi;rw[hk]at h;obtain⟨ms,h⟩:=h;have h2:P.underlying t=some (.interface (P.methodsAt t)):=by simp[Program.methodsAt,h]
 refine⟨_,λw=>?_,hK⟩;rw[Sem.run_bind,O5 P .neq t x y _ _ w (by intro c h;cases h) (by intro h;cases h)];exact run_neq_held_nil w t u v h2
theorem uM{P:Program}{T0:BL}(hT:BR P T0){t:TypeId}{i:TI}(hi:tf T0 t=some i)(hk:i.k= .iface){x:Operand}{c:Value}{K:Value→Prop}(hK:K (.bool false)):
  JJ P (do eqGuard .neq t x (.const c) .nilIface .nilIface;binOp .neq t .nilIface .nilIface) K:=by
 have h:=CZ hT hi;rw[hk]at h;obtain⟨ms,h⟩:=h;have h2:P.underlying t=some (.interface (P.methodsAt t)):=by simp[Program.methodsAt,h]
 refine⟨_,λw=>?_,hK⟩;have h3:(eqGuard .neq t x (.const c) .nilIface .nilIface).run P w= .ok () w:=by simp[eqGuard]
 rw[Sem.run_bind,h3];exact run_neq_nil_nil w t h2
end Go.Eng
namespace Go.Proofs.YtkgibdhpijdbfaaGreatDoor
open Go Go.Eng Go.Proofs
theorem Nk{w:World}{a b:Option Addr}{ca cb:Nat}{l m:List Ac}(ha:Arr w [] a (l.flatMap A8))(hb:Arr w [] b (m.flatMap A8))(hl:l.length≤1099511627776)(hm:m.length≤1099511627776):
  Cl Tryz.prog qF [.slice a l.length ca,.slice b m.length cb] w λv w'=>v= .bool (decide (l=m))∧St w [] [] w':=by
 have hS:=St.start w;refine kS rfl ?_;by_cases hn:l.length=m.length
 ·refine jq ⟨?_⟩;refine AM.loop (λk:Nat=>[(0,.slice a l.length ca),(1,.slice b m.length cb),(12,.int .i64 l.length),(13,.int .i64 k)])
   (λk w'=>k≤l.length∧(∀i(h1:i<l.length)(h2:i<m.length),i<k→l[i]=m[i])∧St w [] [] w') (λk=>l.length-k) 0
   ⟨rfl,rfl,rfl,rfl,trivial⟩ ⟨Ag _,λi _ _ h=>AA,hS⟩ ?_
  clear hS;rintro k w1⟨hk,heq,hS⟩;by_cases hkl:k<l.length
  ·have hkm:k<m.length:=AA;have hcl:=I7 l;have hcm:=I7 m;obtain⟨g,off,rfl, -, -⟩:=ha.get (j:=k*3) AA;obtain⟨g',off',rfl, -, -⟩:=hb.get (j:=k*3) AA;have hat:=I6 l k hkl;have hbt:=I6 m k hkm;have hnext:l[k]=m[k]→ ∀i(h1:i<l.length)(h2:i<m.length),i<k+1→l[i]=m[i]:=λh i h1 h2 h3=>by
    by_cases hik:i=k
    ·subst hik;exact h
    ·exact heq i h1 h2 AA
   have hno: ¬l[k]=m[k]→ ¬l=m:=λh he=>h (by subst he;rfl);generalize l[k]=x at hat hnext hno;generalize m[k]=y at hbt hnext hno;refine jq ⟨?_⟩;refine AM.draw AK mixed (λw'=>St w [] [] w') [] [0,1,2,3,4,5,6,7,8] AD hS.drew ?_;have hS:=hS.drew;generalize w1.drew=w1 at hS;refine jr ⟨?_⟩;refine Arr.ldnC ha hat rfl rfl ?_;refine jr ⟨?_⟩;refine Arr.ldnC hb hbt rfl rfl ?_;refine jr ⟨?_⟩;refine uK (n:=3) AA AD (lS x y) ?_
   by_cases hE:x=y
   ·rw[decide_eq_true hE,Bool.not_true];refine jr ⟨?_⟩;exact⟨k+1,⟨rfl,rfl,rfl,rfl,trivial⟩,⟨AA,hnext hE,hS⟩,AA⟩
   ·rw[decide_eq_false hE,Bool.not_false];refine jr ⟨?_⟩;exact⟨by rw[decide_eq_false (hno hE)],hS⟩
  ·refine jq ⟨?_⟩;refine⟨?_,hS⟩;have:l=m:=lT hn λi h1 h2=>heq i h1 h2 AA;rw[decide_eq_true this]
 ·refine jq ⟨?_⟩;refine⟨?_,hS⟩;have: ¬l=m:=λh=>hn (by rw[h]);rw[decide_eq_false this]
end Go.Proofs.YtkgibdhpijdbfaaGreatDoor
