/- Texts of this claim, one behind the other. -/
import Derived.Test.YtkgibdhpijdbfaaGreatDoorZ11
set_option linter.unusedVariables false
set_option linter.unusedSimpArgs false
set_option maxHeartbeats 16000000
namespace Go.Proofs.YtkgibdhpijdbfaaGreatDoor
open Go Go.Eng Go.Proofs Go.Srt
structure ZN where
 M:List AF
 k:Nat
structure ZR where
 U:List AF
 V:List AF
theorem Vz{fc:FuncId}{cm:AF→AF→Int}(hO:Ord λx y=>decide (cm x y<0))(hcm: ∀(x y:AF)(w:World),Cl Tryz.prog fc [B9 x,B9 y] w λv w'=>v= .int .i64 (cm x y)∧St w [] [] w'){w:World}{g cap len:Nat}{a b:Int}{l P M S:List AF}{tail:List Value}(hh:Holds [(g,.cells ⟨l.flatMap AU++tail⟩ Aq (0,0))] w)(hl:l=P++M++S)(hlL:l.length=len)(hlen:len≤16777216)(ha:a=P.length)(hb:b=P.length+M.length):
  Cl Tryz.prog Uy [.slice (some ⟨g,0,none⟩) len cap,.int .i64 a,.int .i64 b,.func (.func fc) ⟨[]⟩ ⟨[]⟩] w λ_ w'=>∃M',M'.Perm M∧Srt (λx y=>decide (cm x y<0)) M'∧St w [g] [(g,.cells ⟨(P++M'++S).flatMap AU++tail⟩ Aq (0,0))] w':=by
 have hS:St w [g] [(g,.cells ⟨l.flatMap AU++tail⟩ Aq (0,0))] w:=St.enter hh;have hll:len=P.length+M.length+S.length:=by rw[←hlL,hl];simp only[AP]
 subst hl;refine Ue rfl ?_;refine jq ⟨?_⟩;refine AL.loop (λx:ZN=>[(0,.slice (some ⟨g,0,none⟩) len cap),(1,.int .i64 a),(2,.int .i64 b),(3,.func (.func fc) ⟨[]⟩ ⟨[]⟩),(8,.int .i64 (a+1+x.k))])
  (λx w'=>(x.M.Perm M∧(0<M.length→x.k+1≤M.length)∧Srt (λx y=>decide (cm x y<0)) (x.M.take (x.k+1)))∧St w [g] [(g,.cells ⟨(P++x.M++S).flatMap AU++tail⟩ Aq (0,0))] w') (λx=>M.length-x.k) ⟨M,0⟩
  ⟨rfl,rfl,rfl,rfl,by show _=Value.int .i64 _;congr 1;simp only;omega,trivial⟩ ⟨⟨List.Perm.refl _,by simp only;omega,by cases M with|nil=>exact Srt.nil|cons z M=>exact List.pairwise_singleton _ _⟩,hS⟩ ?_
 clear hS;rintro⟨M1,k⟩w1⟨⟨hp,hk,hs⟩,hS⟩;simp only at hp hk hs hS⊢;have hpl:=hp.length_eq;by_cases hkl:k+1<M.length
 ·obtain⟨B,x,R,hM1,hB, -⟩:=cut_at (l:=M1) (k:=k+1) AA;rw[hM1,Gl hB]at hs;subst hM1;refine jq ⟨?_⟩;refine AL.loop (λy:ZR=>[(0,.slice (some ⟨g,0,none⟩) len cap),(1,.int .i64 a),(2,.int .i64 b),(3,.func (.func fc) ⟨[]⟩ ⟨[]⟩),(8,.int .i64 (a+1+k)),(9,.int .i64 (a+y.U.length))])
   (λy w'=>(y.U++y.V=B∧ ∀v∈y.V,decide (cm x v<0)=true)∧St w [g] [(g,.cells ⟨(P++(y.U++x::y.V++R)++S).flatMap AU++tail⟩ Aq (0,0))] w') (λy=>y.U.length) ⟨B,[]⟩
   ⟨rfl,rfl,rfl,rfl,rfl,by show _=Value.int .i64 _;congr 1;simp only;omega,trivial⟩ ⟨⟨AB,AB⟩,by simpa using hS⟩ ?_
  clear hS;rintro⟨U,V⟩w2⟨⟨hUV,hV⟩,hS⟩;simp only at hUV hV hS⊢;have hUl:U.length+V.length=k+1:=by rw[←hB,←hUV,AP]
  have hcl:(P++(U++x::V++R)++S).length=len:=by
   have:=hp.length_eq;simp only[AP,Ai]at this⊢;omega
  by_cases hU:U=[]
  ·subst hU;simp only[Bo];refine jq ⟨?_⟩;refine AL.draw AK mixed (λw'=>St w [g] [(g,.cells ⟨(P++([]++x::V++R)++S).flatMap AU++tail⟩ Aq (0,0))] w') [14,15,16] [0,1,2,3,4,5,6,7,8,9,10,11,12,13,14,15,16] AD hS.drew ?_;have hS:=hS.drew;refine jr ⟨?_⟩;refine⟨⟨x::V++R,k+1⟩,⟨rfl,rfl,rfl,rfl,by show _=Value.int .i64 _;congr 1;simp only;omega,trivial⟩,⟨⟨?_,by simp only;omega,?_⟩,by simpa using hS⟩,by simp only;omega⟩
   ·refine List.Perm.trans ?_ hp;rw[←hUV,CU];simp only[D3];exact Dd.symm
   ·have e4:(x::V++R).take (k+1+1)=x::V:=Gl (by rw[Bo]at hUl;simp only[Ai];omega);simp only[e4];rw[←hUV]at hs;exact insert_sorted hO (U:=[]) hs hV nofun
  ·obtain⟨U',u,rfl⟩: ∃U' u,U=U'++[u]:=⟨U.dropLast,U.getLast hU,(List.dropLast_concat_getLast hU).symm⟩;rw[AP,D4]at hUl;have hUu:(U'++[u]).length=U'.length+1:=AB;rw[hUu];have e0:P++(U'++[u]++x::V++R)++S=(P++U')++u::x::(V++R++S):=AB;rw[e0]at hS;have hi:P.length+U'.length<((P++U')++u::x::(V++R++S)).length:=by simp only[AP,Ai];omega
   have hj:P.length+U'.length+1<((P++U')++u::x::(V++R++S)).length:=by simp only[AP,Ai];omega
   have e1:((P++U')++u::x::(V++R++S))[P.length+U'.length]=u:=II _ _ _ _ _ (by rw[AP]);have e2:((P++U')++u::x::(V++R++S))[P.length+U'.length+1]=x:=Kt _ _ _ _ _ _ (by rw[AP]);have hsw:=PB (P++U') (V++R++S) u x (P.length+U'.length) (by rw[AP]);refine jq ⟨?_⟩;refine AL.draw AK mixed (λw'=>St w [g] [(g,.cells ⟨(P++U'++u::x::(V++R++S)).flatMap AU++tail⟩ Aq (0,0))] w') [14,15,16] [0,1,2,3,4,5,6,7,8,9,10,11,12,13,14,15,16] AD hS.drew ?_
   have hS:=hS.drew;refine jr ⟨?_⟩;refine St.ldEC (sz:=4) (cv:=AU) (λ_=>rfl) hS hj ?_ ?_
   ·omega
   rw[e2];refine jr ⟨?_⟩;refine St.ldEC (sz:=4) (cv:=AU) (λ_=>rfl) hS hi ?_ ?_
   ·omega
   rw[e1];refine jr ⟨?_⟩;refine(hcm x u _).mono ?_;rintro _ w3⟨rfl,hS'⟩;have hS:=hS.call0 hS';by_cases hlt:cm x u<0
   ·refine jq ⟨?_⟩;refine AL.draw AK mixed (λw'=>St w [g] [(g,.cells ⟨(P++U'++u::x::(V++R++S)).flatMap AU++tail⟩ Aq (0,0))] w') [2,3,4,15,16,17] [2,3,4,0,1,5,6,7,8,9,10,11,12,13,14,15,16,17] AD hS.drew ?_;have hS:=hS.drew;refine jr ⟨?_⟩;refine St.ldEC (sz:=4) (cv:=AU) (λ_=>rfl) hS hi ?_ ?_
    ·omega
    rw[e1];refine jr ⟨?_⟩;refine St.ldEC (sz:=4) (cv:=AU) (λ_=>rfl) hS hj ?_ ?_
    ·omega
    rw[e2];refine jr ⟨?_⟩;refine St.stE (sz:=4) (cv:=AU) (λ_=>rfl) (λ_=>rfl) hS hj ?_ ?_
    ·omega
    intro w4 hS;refine jr ⟨?_⟩;refine St.stE (sz:=4) (cv:=AU) (λ_=>rfl) (λ_=>rfl) hS (k:=P.length+U'.length) (by rw[IN];exact hi) ?_ ?_
    ·omega
    intro w5 hS;rw[hsw]at hS;refine jq ⟨?_⟩;refine⟨⟨U',u::V⟩,⟨rfl,rfl,rfl,rfl,rfl,by show _=Value.int .i64 _;congr 1;simp only;omega,trivial⟩,⟨⟨by rw[←hUV];simp,?_⟩,?_⟩,by simp only;omega⟩
    ·intro v hv;rcases As.1 hv with rfl|hv
     ·exact decide_eq_true hlt
     ·exact hV v hv
    ·have e3:P++(U'++x::(u::V)++R)++S=P++U'++x::u::(V++R++S):=AB;simp only[e3];exact hS
   ·refine jq ⟨?_⟩;refine⟨⟨U'++[u]++x::V++R,k+1⟩,⟨rfl,rfl,rfl,rfl,by show _=Value.int .i64 _;congr 1;simp only;omega,trivial⟩,⟨⟨?_,by simp only;omega,?_⟩,?_⟩,by simp only;omega⟩
    ·refine List.Perm.trans ?_ hp;rw[←hUV];refine(List.Perm.append_right R (Dd)).trans ?_;simp only[D3];exact Dd.symm
    ·have e4:(U'++[u]++x::V++R).take (k+1+1)=U'++[u]++x::V:=Gl (by simp only[AP,Ai,Bo];omega);simp only[e4];rw[←hUV]at hs;exact insert_sorted hO hs hV λz hz=>(by rw[List.getLast?_concat,Option.some.injEq]at hz;subst hz;exact decide_eq_false hlt)
    ·rw[←e0]at hS;exact hS
 ·refine jq ⟨?_⟩;refine⟨M1,hp,?_,hS⟩;rw[HO AA]at hs;exact hs
theorem tX{fc:FuncId}{cm:AF→AF→Int}(hO:Ord λx y=>decide (cm x y<0))(hcm: ∀(x y:AF)(w:World),Cl Tryz.prog fc [B9 x,B9 y] w λv w'=>v= .int .i64 (cm x y)∧St w [] [] w'){w:World}{g cap len:Nat}{a m b:Int}{l P B S:List AF}{x:AF}{tail:List Value}(hh:Holds [(g,.cells ⟨l.flatMap AU++tail⟩ Aq (0,0))] w)(hl:l=P++x::B++S)(hlL:l.length=len)(hlen:len≤16777216)(ha:a=P.length)(hm:m=P.length+1)(hb:b=P.length+1+B.length)(hB:Srt (λx y=>decide (cm x y<0)) B):
  Cl Tryz.prog QY [.slice (some ⟨g,0,none⟩) len cap,.int .i64 a,.int .i64 m,.int .i64 b,.func (.func fc) ⟨[]⟩ ⟨[]⟩] w λ_ w'=>∃M',M'.Perm (x::B)∧Srt (λx y=>decide (cm x y<0)) M'∧St w [g] [(g,.cells ⟨(P++M'++S).flatMap AU++tail⟩ Aq (0,0))] w':=by
 have hS:St w [g] [(g,.cells ⟨l.flatMap AU++tail⟩ Aq (0,0))] w:=St.enter hh;have hll:len=P.length+1+B.length+S.length:=by rw[←hlL,hl];simp only[AP,Ai];omega
 subst hl;refine QR rfl ?_;refine jq ⟨?_⟩;refine AL.loop (λx:Nat×Nat=>[(0,.slice (some ⟨g,0,none⟩) len cap),(1,.int .i64 a),(2,.int .i64 m),(3,.int .i64 b),(4,.func (.func fc) ⟨[]⟩ ⟨[]⟩),(10,.int .i64 (m+x.1)),(11,.int .i64 (m+x.2))])
  (λz w'=>(z.1≤z.2∧z.2≤B.length∧(∀u,(B.take z.1).getLast?=some u→cm u x<0)∧(∀v,(B.drop z.2).head?=some v→ ¬cm v x<0))∧St w [g] [(g,.cells ⟨(P++x::B++S).flatMap AU++tail⟩ Aq (0,0))] w') (λz=>z.2-z.1) (0,B.length)
  ⟨rfl,rfl,rfl,rfl,rfl,by show _=Value.int .i64 _;congr 1;simp only;omega,by show _=Value.int .i64 _;congr 1;simp only;omega,trivial⟩ ⟨⟨Ag _,AV _,AB,AB⟩,hS⟩ ?_
 clear hS;rintro⟨i,j⟩w1⟨⟨hij,hj,h1,h2⟩,hS⟩;simp only at hij hj h1 h2 hS⊢;by_cases hlt:i<j
 ·refine jq ⟨?_⟩;obtain⟨h,hh⟩: ∃h,h=(i+j) / 2:=⟨_,rfl⟩;have hi:P.length+1+h<(P++x::B++S).length:=AA;have hjj:P.length<(P++x::B++S).length:=AA;have hhB:h<B.length:=AA;have e1:(P++x::B++S)[P.length+1+h]=B[h]:=by
   have e3:P++x::B++S=(P++[x])++B++S:=AB;have e4:(P++[x]).length=P.length+1:=AB;have e5:(P++x::B++S)[P.length+1+h]?=some B[h]:=by
    rw[e3,Aj,Dp AA,e4,show P.length+1+h-(P.length+1)=h by omega,Cn hhB,CB hhB]
   rw[CB hi,Option.some.injEq]at e5;exact e5
  have e2:(P++x::B++S)[P.length]=x:=by
   have e3:P++x::B++S=P++x::(B++S):=AB;have:=II P (B++S) x P.length (by rw[←e3];exact hjj) rfl;simp only[e3];exact this
  refine CG.half (r:=m+h) AA AA ?_;refine jq ⟨?_⟩;refine AL.draw AK mixed (λw'=>St w [g] [(g,.cells ⟨(P++x::B++S).flatMap AU++tail⟩ Aq (0,0))] w') [9,10] [0,1,2,3,4,5,6,7,8,9,10] AD hS.drew ?_;have hS:=hS.drew;refine jr ⟨?_⟩;refine St.ldEC (sz:=4) (cv:=AU) (λ_=>rfl) hS hi ?_ ?_
  ·omega
  rw[e1];refine jr ⟨?_⟩;refine St.ldEC (sz:=4) (cv:=AU) (λ_=>rfl) hS hjj ?_ ?_
  ·omega
  rw[e2];refine jr ⟨?_⟩;refine(hcm B[h] x _).mono ?_;rintro _ w3⟨rfl,hS'⟩;have hS:=hS.call0 hS';by_cases hc:cm B[h] x<0
  ·refine jq ⟨?_⟩;refine⟨(h+1,j),⟨rfl,rfl,rfl,rfl,rfl,by show _=Value.int .i64 _;congr 1;simp only;omega,rfl,trivial⟩,⟨⟨by simp only;omega,hj,λu hu=>?_,h2⟩,hS⟩,by simp only;omega⟩;rw[PG hhB,Option.some.injEq]at hu;subst hu;exact hc
  ·refine jq ⟨?_⟩;refine⟨(i,h),⟨rfl,rfl,rfl,rfl,rfl,rfl,rfl,trivial⟩,⟨⟨by simp only;omega,by simp only;omega,h1,λu hu=>?_⟩,hS⟩,by simp only;omega⟩;rw[N3 hhB,Option.some.injEq]at hu;subst hu;exact hc
 ·have hij':i=j:=AA;subst hij';refine jq ⟨?_⟩;obtain⟨B1,B2,rfl,hB1⟩: ∃B1 B2,B=B1++B2∧B1.length=i:=⟨B.take i,B.drop i,(CO _ _).symm,by rw[BR];omega⟩;rw[Gl hB1]at h1;rw[List.drop_left' hB1]at h2;rw[AP]at hj hb hll;refine AL.loop (λz:List AF×List AF=>[(0,.slice (some ⟨g,0,none⟩) len cap),(10,.int .i64 (m+i)),(13,.int .i64 (a+z.1.length))])
   (λz w'=>(z.1++z.2=B1)∧St w [g] [(g,.cells ⟨(P++z.1++x::(z.2++B2++S)).flatMap AU++tail⟩ Aq (0,0))] w') (λz=>z.2.length) ([],B1)
   ⟨rfl,rfl,by show _=Value.int .i64 _;congr 1;simp only[Bo];omega,trivial⟩ ⟨rfl,by simpa using hS⟩ ?_
  clear hS;rintro⟨V,W⟩w2⟨hVW,hS⟩;simp only at hVW hS⊢;have hVl:V.length+W.length=i:=by rw[←hB1,←hVW,AP]
  cases W with
  |nil=>
   rw[BU]at hVW;subst hVW;rw[Bo]at hVl;refine jq ⟨?_⟩;refine⟨V++x::B2,Dd,Vx hO hB (λu hu=>decide_eq_true (h1 u hu)) (λv hv=>decide_eq_false (h2 v hv)),by simpa using hS⟩
  |cons y W=>
   rw[Ai]at hVl;have hcl:(P++V++x::y::(W++B2++S)).length=len:=by
    simp only[AP,Ai];omega
   have hS:St w [g] [(g,.cells ⟨(P++V++x::y::(W++B2++S)).flatMap AU++tail⟩ Aq (0,0))] w2:=hS;have hi:P.length+V.length<(P++V++x::y::(W++B2++S)).length:=AA;have hjj:P.length+V.length+1<(P++V++x::y::(W++B2++S)).length:=AA;have e1:(P++V++x::y::(W++B2++S))[P.length+V.length]=x:=II _ _ _ _ _ (by rw[AP]);have e2:(P++V++x::y::(W++B2++S))[P.length+V.length+1]=y:=Kt _ _ _ _ _ _ (by rw[AP]);have hsw:=YN (P++V) (W++B2++S) x y (P.length+V.length) (by rw[AP])
   refine jq ⟨?_⟩;refine AL.draw AK mixed (λw'=>St w [g] [(g,.cells ⟨(P++V++x::y::(W++B2++S)).flatMap AU++tail⟩ Aq (0,0))] w') [2,3,4,15,16,17] [2,3,4,0,1,5,6,7,8,9,10,11,12,13,14,15,16,17] AD hS.drew ?_;have hS:=hS.drew;refine jr ⟨?_⟩;refine St.ldEC (sz:=4) (cv:=AU) (λ_=>rfl) hS hjj ?_ ?_
   ·omega
   rw[e2];refine jr ⟨?_⟩;refine St.ldEC (sz:=4) (cv:=AU) (λ_=>rfl) hS hi ?_ ?_
   ·omega
   rw[e1];refine jr ⟨?_⟩;refine St.stE (sz:=4) (cv:=AU) (λ_=>rfl) (λ_=>rfl) hS hi ?_ ?_
   ·omega
   intro w4 hS;refine jr ⟨?_⟩;refine St.stE (sz:=4) (cv:=AU) (λ_=>rfl) (λ_=>rfl) hS (k:=P.length+V.length+1) (by rw[IN];exact hjj) ?_ ?_
   ·omega
   intro w5 hS;rw[hsw]at hS;refine jq ⟨?_⟩;refine⟨(V++[y],W),⟨rfl,rfl,by show _=Value.int .i64 _;congr 1;simp only[AP,Ai,Bo];omega,trivial⟩,⟨by rw[←hVW];simp,?_⟩,by simp only[Ai];omega⟩;have e3:P++(V++[y])++x::(W++B2++S)=P++V++y::x::(W++B2++S):=AB;simp only[e3];exact hS
theorem tZ{fc:FuncId}{cm:AF→AF→Int}(hO:Ord λx y=>decide (cm x y<0))(hcm: ∀(x y:AF)(w:World),Cl Tryz.prog fc [B9 x,B9 y] w λv w'=>v= .int .i64 (cm x y)∧St w [] [] w'){w:World}{g cap len:Nat}{a m b:Int}{l P A S:List AF}{y:AF}{tail:List Value}(hh:Holds [(g,.cells ⟨l.flatMap AU++tail⟩ Aq (0,0))] w)(hl:l=P++A++y::S)(hlL:l.length=len)(hlen:len≤16777216)(ha:a=P.length)(hm:m=P.length+A.length)(hb:b=P.length+A.length+1)(hA:Srt (λx y=>decide (cm x y<0)) A)(hA2:2≤A.length):
  Cl Tryz.prog QY [.slice (some ⟨g,0,none⟩) len cap,.int .i64 a,.int .i64 m,.int .i64 b,.func (.func fc) ⟨[]⟩ ⟨[]⟩] w λ_ w'=>∃M',M'.Perm (A++[y])∧Srt (λx y=>decide (cm x y<0)) M'∧St w [g] [(g,.cells ⟨(P++M'++S).flatMap AU++tail⟩ Aq (0,0))] w':=by
 have hS:St w [g] [(g,.cells ⟨l.flatMap AU++tail⟩ Aq (0,0))] w:=St.enter hh;have hll:len=P.length+A.length+1+S.length:=by rw[←hlL,hl];simp only[AP,Ai];omega
 subst hl;refine QR rfl ?_;refine jq ⟨?_⟩;refine AL.loop (λx:Nat×Nat=>[(0,.slice (some ⟨g,0,none⟩) len cap),(1,.int .i64 a),(2,.int .i64 m),(3,.int .i64 b),(4,.func (.func fc) ⟨[]⟩ ⟨[]⟩),(14,.int .i64 (a+x.1)),(15,.int .i64 (a+x.2))])
  (λz w'=>(z.1≤z.2∧z.2≤A.length∧(∀u,(A.take z.1).getLast?=some u→ ¬cm y u<0)∧(∀v,(A.drop z.2).head?=some v→cm y v<0))∧St w [g] [(g,.cells ⟨(P++A++y::S).flatMap AU++tail⟩ Aq (0,0))] w') (λz=>z.2-z.1) (0,A.length)
  ⟨rfl,rfl,rfl,rfl,rfl,by show _=Value.int .i64 _;congr 1;simp only;omega,by show _=Value.int .i64 _;congr 1;simp only;omega,trivial⟩ ⟨⟨Ag _,AV _,AB,AB⟩,hS⟩ ?_
 clear hS;rintro⟨i,j⟩w1⟨⟨hij,hj,h1,h2⟩,hS⟩;simp only at hij hj h1 h2 hS⊢;by_cases hlt:i<j
 ·refine jq ⟨?_⟩;obtain⟨h,hh⟩: ∃h,h=(i+j) / 2:=⟨_,rfl⟩;have hi:P.length+A.length<(P++A++y::S).length:=AA;have hjj:P.length+h<(P++A++y::S).length:=AA;have hhA:h<A.length:=AA;have e1:(P++A++y::S)[P.length+A.length]=y:=II _ _ _ _ _ (by rw[AP]);have e2:(P++A++y::S)[P.length+h]=A[h]:=by
   have e5:(P++A++y::S)[P.length+h]?=some A[h]:=by
    rw[Aj,Dp AA,show P.length+h-P.length=h by omega,Cn hhA,CB hhA]
   rw[CB hjj,Option.some.injEq]at e5;exact e5
  refine CG.half (r:=a+h) AA AA ?_;refine jq ⟨?_⟩;refine AL.draw AK mixed (λw'=>St w [g] [(g,.cells ⟨(P++A++y::S).flatMap AU++tail⟩ Aq (0,0))] w') [9,10,11] [0,1,2,3,4,5,6,7,8,9,10,11] AD hS.drew ?_;have hS:=hS.drew;refine jr ⟨?_⟩;refine St.ldEC (sz:=4) (cv:=AU) (λ_=>rfl) hS hi ?_ ?_
  ·omega
  rw[e1];refine jr ⟨?_⟩;refine St.ldEC (sz:=4) (cv:=AU) (λ_=>rfl) hS hjj ?_ ?_
  ·omega
  rw[e2];refine jr ⟨?_⟩;refine(hcm y A[h] _).mono ?_;rintro _ w3⟨rfl,hS'⟩;have hS:=hS.call0 hS';by_cases hc:cm y A[h]<0
  ·refine jq ⟨?_⟩;refine⟨(i,h),⟨rfl,rfl,rfl,rfl,rfl,rfl,rfl,trivial⟩,⟨⟨by simp only;omega,by simp only;omega,h1,λu hu=>?_⟩,hS⟩,by simp only;omega⟩;rw[N3 hhA,Option.some.injEq]at hu;subst hu;exact hc
  ·refine jq ⟨?_⟩;refine⟨(h+1,j),⟨rfl,rfl,rfl,rfl,rfl,by show _=Value.int .i64 _;congr 1;simp only;omega,rfl,trivial⟩,⟨⟨by simp only;omega,hj,λu hu=>?_,h2⟩,hS⟩,by simp only;omega⟩;rw[PG hhA,Option.some.injEq]at hu;subst hu;exact hc
 ·have hij':i=j:=AA;subst hij';refine jq ⟨?_⟩;obtain⟨A1,A2,rfl,hA1⟩: ∃A1 A2,A=A1++A2∧A1.length=i:=⟨A.take i,A.drop i,(CO _ _).symm,by rw[BR];omega⟩;rw[Gl hA1]at h1;rw[List.drop_left' hA1]at h2;rw[AP]at hj hb hll hm;refine AL.loop (λz:List AF×List AF=>[(0,.slice (some ⟨g,0,none⟩) len cap),(14,.int .i64 (a+i)),(17,.int .i64 (a+i+z.1.length))])
   (λz w'=>(z.1++z.2=A2)∧St w [g] [(g,.cells ⟨(P++A1++z.1++y::(z.2++S)).flatMap AU++tail⟩ Aq (0,0))] w') (λz=>z.1.length) (A2,[])
   ⟨rfl,rfl,by show _=Value.int .i64 _;congr 1;simp only;omega,trivial⟩ ⟨AB,by simpa using hS⟩ ?_
  clear hS;rintro⟨V,W⟩w2⟨hVW,hS⟩;simp only at hVW hS⊢;have hVl:V.length+W.length=A2.length:=by rw[←hVW,AP]
  by_cases hV:V=[]
  ·subst hV;rw[CU]at hVW;subst hVW;simp only[Bo];refine jq ⟨?_⟩;refine⟨A1++y::W,Dd.trans (List.perm_append_singleton y (A1++W)).symm,Vy hO hA (λu hu=>decide_eq_false (h1 u hu)) (λv hv=>decide_eq_true (h2 v hv)),by simpa using hS⟩
  ·obtain⟨V',x,rfl⟩: ∃V' x,V=V'++[x]:=⟨V.dropLast,V.getLast hV,(List.dropLast_concat_getLast hV).symm⟩;have hVx:(V'++[x]).length=V'.length+1:=AB;rw[hVx]at hVl⊢;have e0:P++A1++(V'++[x])++y::(W++S)=P++A1++V'++x::y::(W++S):=AB;rw[e0]at hS;have hcl:(P++A1++V'++x::y::(W++S)).length=len:=by
    simp only[AP,Ai];omega
   have hn:P.length+A1.length+V'.length=(P++A1++V').length:=by simp only[AP]
   have hi:P.length+A1.length+V'.length<(P++A1++V'++x::y::(W++S)).length:=AA;have hjj:P.length+A1.length+V'.length+1<(P++A1++V'++x::y::(W++S)).length:=AA;have e1:(P++A1++V'++x::y::(W++S))[P.length+A1.length+V'.length]=x:=II _ _ _ _ _ hn;have e2:(P++A1++V'++x::y::(W++S))[P.length+A1.length+V'.length+1]=y:=Kt _ _ _ _ _ _ (by rw[hn]);have hsw:=PB (P++A1++V') (W++S) x y (P.length+A1.length+V'.length) hn
   refine jq ⟨?_⟩;refine AL.draw AK mixed (λw'=>St w [g] [(g,.cells ⟨(P++A1++V'++x::y::(W++S)).flatMap AU++tail⟩ Aq (0,0))] w') [2,3,4,15,16,17] [2,3,4,0,1,5,6,7,8,9,10,11,12,13,14,15,16,17] AD hS.drew ?_;have hS:=hS.drew;refine jr ⟨?_⟩;refine St.ldEC (sz:=4) (cv:=AU) (λ_=>rfl) hS hi ?_ ?_
   ·omega
   rw[e1];refine jr ⟨?_⟩;refine St.ldEC (sz:=4) (cv:=AU) (λ_=>rfl) hS hjj ?_ ?_
   ·omega
   rw[e2];refine jr ⟨?_⟩;refine St.stE (sz:=4) (cv:=AU) (λ_=>rfl) (λ_=>rfl) hS hjj ?_ ?_
   ·omega
   intro w4 hS;refine jr ⟨?_⟩;refine St.stE (sz:=4) (cv:=AU) (λ_=>rfl) (λ_=>rfl) hS (k:=P.length+A1.length+V'.length) (by rw[IN];exact hi) ?_ ?_
   ·omega
   intro w5 hS;rw[hsw]at hS;refine jq ⟨?_⟩;refine⟨(V',x::W),⟨rfl,rfl,by show _=Value.int .i64 _;congr 1;simp only;omega,trivial⟩,⟨by rw[←hVW];simp,hS⟩,by simp only;omega⟩
set_option maxRecDepth 4000 in
theorem Wb{fc:FuncId}{cm:AF→AF→Int}(hO:Ord λx y=>decide (cm x y<0))(hcm: ∀(x y:AF)(w:World),Cl Tryz.prog fc [B9 x,B9 y] w λv w'=>v= .int .i64 (cm x y)∧St w [] [] w'){g cap len:Nat}{tail:List Value}(hlen:len≤16777216): ∀(N:Nat){w:World}{a m b:Int}{l P A B S:List AF},Holds [(g,.cells ⟨l.flatMap AU++tail⟩ Aq (0,0))] w→l=P++A++B++S→l.length=len→a=P.length→m=P.length+A.length→b=P.length+A.length+B.length→Srt (λx y=>decide (cm x y<0)) A→Srt (λx y=>decide (cm x y<0)) B→1≤A.length→1≤B.length→A.length+B.length≤N→
  Cl Tryz.prog QY [.slice (some ⟨g,0,none⟩) len cap,.int .i64 a,.int .i64 m,.int .i64 b,.func (.func fc) ⟨[]⟩ ⟨[]⟩] w λ_ w'=>∃M',M'.Perm (A++B)∧Srt (λx y=>decide (cm x y<0)) M'∧St w [g] [(g,.cells ⟨(P++M'++S).flatMap AU++tail⟩ Aq (0,0))] w':=by
 intro N
 induction N with
 |zero=>intro w a m b l P A B S hh hl hlL ha hm hb hA hB hA1 hB1 hN;omega
 |succ N ih=>
 intro w a m b l P A B S hh hl hlL ha hm hb hA hB hA1 hB1 hN;by_cases c1:A.length=1
 ·obtain⟨x,rfl⟩:=Kz.1 c1;rw[D4]at hm hb;exact tX hO hcm hh (by rw[hl];simp) hlL hlen ha hm hb hB
 by_cases c2:B.length=1
 ·obtain⟨y,rfl⟩:=Kz.1 c2;rw[D4]at hb;exact tZ hO hcm hh (by rw[hl];simp) hlL hlen ha hm hb hA AA
 have hS:St w [g] [(g,.cells ⟨l.flatMap AU++tail⟩ Aq (0,0))] w:=St.enter hh;have hll:len=P.length+A.length+B.length+S.length:=by rw[←hlL,hl];simp only[AP]
 have hat1: ∀c(hc:c<A.length)(h:P.length+c<(P++A++B++S).length),(P++A++B++S)[P.length+c]=A[c]:=by
  intro c hc h;have e5:(P++A++B++S)[P.length+c]?=some A[c]:=by
   rw[Aj,Aj,Dp AA,show P.length+c-P.length=c by omega,Cn hc,CB hc]
  rw[CB h,Option.some.injEq]at e5;exact e5
 have hat2: ∀c(hc:c<B.length)(h:P.length+A.length+c<(P++A++B++S).length),(P++A++B++S)[P.length+A.length+c]=B[c]:=by
  intro c hc h;have hPA:(P++A).length=P.length+A.length:=AP;have e5:(P++A++B++S)[P.length+A.length+c]?=some B[c]:=by
   rw[Aj (P++A),Dp AA,hPA,show P.length+A.length+c-(P.length+A.length)=c by omega,Cn hc,CB hc]
  rw[CB h,Option.some.injEq]at e5;exact e5
 subst hl;obtain⟨d,hd⟩: ∃d,d=(A.length+B.length) / 2:=⟨_,rfl⟩
 --the search:s0,r0 are its ends,counted from a
 obtain⟨s0,r0,hsr⟩: ∃s0 r0:Nat,(d<A.length→s0=d+A.length-(A.length+B.length)∧r0=d)∧(A.length≤d→s0=0∧r0=A.length):=by
  by_cases h:d<A.length
  ·exact⟨d+A.length-(A.length+B.length),d,λ_=>⟨rfl,rfl⟩,λh'=>absurd h' AA⟩
  ·exact⟨0,A.length,λh'=>absurd h' h,λ_=>⟨rfl,rfl⟩⟩
 refine QR rfl ?_;refine jq ⟨?_⟩;refine CG.half (r:=a+d) AA AA ?_;refine jq ⟨?_⟩;by_cases hdA:d<A.length
 all_goals
  have hs0:s0≤r0∧r0≤d∧r0≤A.length∧d-s0≤B.length:=AA;refine jq ⟨?_⟩;refine AL.loop (λz:Nat×Nat=>[(0,.slice (some ⟨g,0,none⟩) len cap),(1,.int .i64 a),(2,.int .i64 m),(3,.int .i64 b),(4,.func (.func fc) ⟨[]⟩ ⟨[]⟩),(18,.int .i64 (a+d)),(19,.int .i64 (a+d+m)),(20,.int .i64 (a+z.1)),(21,.int .i64 (a+z.2)),(22,.int .i64 (a+d+m-1))])
   (λz w'=>(s0≤z.1∧z.1≤z.2∧z.2≤r0∧So (λx y=>decide (cm x y<0)) A B d z.1 s0∧Sp (λx y=>decide (cm x y<0)) A B d z.2 r0)∧St w [g] [(g,.cells ⟨(P++A++B++S).flatMap AU++tail⟩ Aq (0,0))] w') (λz=>z.2-z.1) (s0,r0)
   ⟨rfl,rfl,rfl,rfl,rfl,rfl,rfl,by show _=Value.int .i64 _;congr 1;simp only;omega,by show _=Value.int .i64 _;congr 1;simp only;omega,rfl,trivial⟩ ⟨⟨AV _,hs0.1,AV _,.inl rfl,.inl rfl⟩,hS⟩ ?_
  clear hS;rintro⟨s,r⟩w1⟨⟨q1,q2,q3,E1,E2⟩,hS⟩;simp only at q1 q2 q3 E1 E2 hS⊢;by_cases hlt:s<r
  ·refine jq ⟨?_⟩;obtain⟨c,hc⟩: ∃c,c=(s+r) / 2:=⟨_,rfl⟩;have hcA:c<A.length:=AA;have hcB:d-1-c<B.length:=AA;have hi:P.length+A.length+(d-1-c)<(P++A++B++S).length:=AA;have hj:P.length+c<(P++A++B++S).length:=AA;have e1:=hat2 _ hcB hi;have e2:=hat1 _ hcA hj;refine CG.half (r:=a+c) AA AA ?_;refine jq ⟨?_⟩;refine AL.draw AK mixed (λw'=>St w [g] [(g,.cells ⟨(P++A++B++S).flatMap AU++tail⟩ Aq (0,0))] w') [11,12,13] [0,1,2,3,4,5,6,7,8,9,10,11,12,13] AD hS.drew ?_
   have hS:=hS.drew;refine jr ⟨?_⟩;refine St.ldEC (sz:=4) (cv:=AU) (λ_=>rfl) hS hi ?_ ?_
   ·omega
   rw[e1];refine jr ⟨?_⟩;refine St.ldEC (sz:=4) (cv:=AU) (λ_=>rfl) hS hj ?_ ?_
   ·omega
   rw[e2];refine jr ⟨?_⟩;refine(hcm B[d-1-c] A[c] _).mono ?_;rintro _ w3⟨rfl,hS'⟩;have hS:=hS.call0 hS';by_cases hcc:cm B[d-1-c] A[c]<0
   ·refine jq ⟨?_⟩;refine⟨(s,c),⟨rfl,rfl,rfl,rfl,rfl,rfl,rfl,rfl,rfl,rfl,trivial⟩,⟨⟨q1,by simp only;omega,by simp only;omega,E1,.inr ⟨A[c],B[d-1-c],CB hcA,?_,decide_eq_true hcc⟩⟩,hS⟩,by simp only;omega⟩;rw[show d-c-1=d-1-c by omega];exact CB hcB
   ·refine jq ⟨?_⟩;refine⟨(c+1,r),⟨rfl,rfl,rfl,rfl,rfl,rfl,rfl,by show _=Value.int .i64 _;congr 1;simp only;omega,rfl,rfl,trivial⟩,⟨⟨by simp only;omega,by simp only;omega,q3,.inr ⟨A[c],B[d-1-c],?_,?_,decide_eq_false hcc⟩,E2⟩,hS⟩,by simp only;omega⟩
    ·rw[Nat.add_sub_cancel];exact CB hcA
    ·rw[show d-(c+1)=d-1-c by omega];exact CB hcB
  ·have hsr':r=s:=AA;subst hsr';obtain⟨A1,A2,rfl,hA1'⟩: ∃A1 A2,A=A1++A2∧A1.length=r:=⟨A.take r,A.drop r,(CO _ _).symm,by rw[BR];omega⟩;obtain⟨B1,B2,rfl,hB1'⟩: ∃B1 B2,B=B1++B2∧B1.length=d-r:=⟨B.take (d-r),B.drop (d-r),(CO _ _).symm,by rw[BR];omega⟩;have k1: ∀x y,A1.getLast?=some x→B2.head?=some y→decide (cm y x<0)=false:=by
    intro x y hx hy;have hx0:0<A1.length:=by cases A1 with|nil=>cases hx|cons=>simp
    have hy0:0<B2.length:=by cases B2 with|nil=>cases hy|cons=>simp
    rw[AP]at hs0 hsr;rw[AP]at hs0 hsr;rcases E1 with h|⟨x',y',h1,h2,h3⟩
    ·omega
    ·rw[List.getLast?_eq_getElem?]at hx;rw[List.head?_eq_getElem?]at hy;rw[Cn AA,←hA1',hx,Option.some.injEq]at h1;rw[Dp AA,hB1',Nat.sub_self,hy,Option.some.injEq]at h2;subst h1 h2;exact h3
   have k2: ∀x y,B1.getLast?=some x→A2.head?=some y→decide (cm x y<0)=true:=by
    intro x y hx hy;have hx0:0<B1.length:=by cases B1 with|nil=>cases hx|cons=>simp
    have hy0:0<A2.length:=by cases A2 with|nil=>cases hy|cons=>simp
    rw[AP]at hs0 hsr;rw[AP]at hs0 hsr;rcases E2 with h|⟨x',y',h1,h2,h3⟩
    ·omega
    ·rw[List.getLast?_eq_getElem?]at hx;rw[List.head?_eq_getElem?]at hy;rw[Dp AA,hA1',Nat.sub_self,hy,Option.some.injEq]at h1;rw[Cn AA,←hB1',hx,Option.some.injEq]at h2;subst h1 h2;exact h3
   have hsp:=YI hO hA hB k1 k2;clear k1 k2 E1 E2 hat1 hat2;simp only[AP]at hm hb hll hN hd hA1 hB1 hs0 hdA c1 c2;clear hsr;have hlL2:(P++(A1++B1)++(A2++B2)++S).length=len:=by simp only[AP];omega
   have hn1:(P++A1).length=P.length+A1.length:=AP;rcases Iv A1.length with z1|z1<;>rcases Iv A2.length with z2|z2<;>rcases Iv B1.length with z3|z3<;>rcases Iv B2.length with z4|z4<;>try(exfalso;omega)
   all_goals
    refine jq ⟨?_⟩
    first
    |refine(wR hS.holds (P:=P++A1) (U:=A2) (V:=B1) (S:=B2++S) (by simp only[Aj]) hlL hlen AA AA AA z2 z3).mono ?_
     intro _ w2 hS';have hS:=hS.call1 hS';have e9:P++A1++B1++A2++(B2++S)=P++(A1++B1)++(A2++B2)++S:=by simp only[Aj]
     rw[e9]at hS;refine jq ⟨?_⟩
    |rw[Wp AA]at hS
    first
    |refine(ih hS.holds (P:=P) (A:=A1) (B:=B1) (S:=(A2++B2)++S) (by simp only[Aj]) hlL2 ha AA AA hA.left hB.left z1 z3 AA).mono ?_
     rintro _ w3⟨L1,p1,s1,hS'⟩;have hS:=hS.call1 hS';rw[←Aj (P++L1) (A2++B2) S]at hS;refine jq ⟨?_⟩
    |obtain⟨L1,p1,s1,eL⟩: ∃L1,L1.Perm (A1++B1)∧Srt (λx y=>decide (cm x y<0)) L1∧L1=A1++B1:=⟨_,List.Perm.refl _,XA AA hA hB,rfl⟩
     rw[←eL]at hS
    have hL1:=p1.length_eq;rw[AP]at hL1;have hlL3:(P++L1++(A2++B2)++S).length=len:=by simp only[AP];omega
    have hn2:(P++L1).length=P.length+L1.length:=AP
    first
    |refine(ih hS.holds (P:=P++L1) (A:=A2) (B:=B2) (S:=S) (by simp only[Aj]) hlL3 AA AA AA hA.right hB.right z2 z4 AA).mono ?_
     rintro _ w4⟨R1,p2,s2,hS'⟩;have hS:=hS.call1 hS';refine jq ⟨?_⟩
    |obtain⟨R1,p2,s2,eR⟩: ∃R1,R1.Perm (A2++B2)∧Srt (λx y=>decide (cm x y<0)) R1∧R1=A2++B2:=⟨_,List.Perm.refl _,XB AA hA hB,rfl⟩
     rw[←eR]at hS
    refine⟨L1++R1,Vs p1 p2,s1.app s2 λx hx y hy=>hsp x (p1.mem_iff.1 hx) y (p2.mem_iff.1 hy),?_⟩;rw[←Aj P L1 R1];exact hS
structure Zw where
 bs:List (List AF)
 R:List AF
structure Zy where
 l:List AF
 n:Nat
set_option maxRecDepth 4000 in
theorem xY{fc:FuncId}{cm:AF→AF→Int}(hO:Ord λx y=>decide (cm x y<0))(hcm: ∀(x y:AF)(w:World),Cl Tryz.prog fc [B9 x,B9 y] w λv w'=>v= .int .i64 (cm x y)∧St w [] [] w'){w:World}{g cap len:Nat}{l:List AF}{tail:List Value}(hh:Holds [(g,.cells ⟨l.flatMap AU++tail⟩ Aq (0,0))] w)(hlL:l.length=len)(hlen:len≤16777216):
  Cl Tryz.prog U0 [.slice (some ⟨g,0,none⟩) len cap,.int .i64 len,.func (.func fc) ⟨[]⟩ ⟨[]⟩] w λ_ w'=>∃l',l'.Perm l∧Srt (λx y=>decide (cm x y<0)) l'∧St w [g] [(g,.cells ⟨l'.flatMap AU++tail⟩ Aq (0,0))] w':=by
 have hS:St w [g] [(g,.cells ⟨l.flatMap AU++tail⟩ Aq (0,0))] w:=St.enter hh;refine Ug rfl ?_;refine jq ⟨?_⟩;refine AL.loop (λx:Zw=>[(0,.slice (some ⟨g,0,none⟩) len cap),(1,.int .i64 len),(2,.func (.func fc) ⟨[]⟩ ⟨[]⟩),(6,.int .i64 20),(7,.int .i64 x.bs.flatten.length),(8,.int .i64 (x.bs.flatten.length+20))])
  (λx w'=>((x.bs.flatten++x.R).Perm l∧GL (λx y=>decide (cm x y<0)) 20 x.bs)∧St w [g] [(g,.cells ⟨(x.bs.flatten++x.R).flatMap AU++tail⟩ Aq (0,0))] w') (λx=>x.R.length) ⟨[],l⟩
  ⟨rfl,rfl,rfl,rfl,rfl,rfl,trivial⟩ ⟨⟨List.Perm.refl _,nofun⟩,hS⟩ ?_
 clear hS;rintro⟨bs,R⟩w1⟨⟨hp,hf⟩,hS⟩;simp only at hp hf hS⊢;have hpl:=hp.length_eq;rw[AP]at hpl;generalize hbl:bs.flatten.length=q at hpl⊢;by_cases hle:20≤R.length
 ·obtain⟨X,R',rfl,hX⟩: ∃X R',R=X++R'∧X.length=20:=⟨R.take 20,R.drop 20,(CO _ _).symm,by rw[BR];omega⟩;rw[AP]at hpl;refine jq ⟨?_⟩;refine(Vz hO hcm hS.holds (P:=bs.flatten) (M:=X) (S:=R') (by simp only[Aj]) (hp.length_eq.trans hlL) hlen AA AA).mono ?_;rintro _ w2⟨X',p1,s1,hS'⟩;have hS:=hS.call1 hS';have e1:(bs++[X']).flatten=bs.flatten++X':=AB;have hXl:=p1.length_eq;have e2:(bs++[X']).flatten.length=q+20:=by rw[e1,AP];omega
  refine jq ⟨?_⟩;refine⟨⟨bs++[X'],R'⟩,⟨rfl,rfl,rfl,rfl,by show _=Value.int .i64 _;congr 1;simp only;omega,by show _=Value.int .i64 _;congr 1;simp only;omega,trivial⟩,⟨⟨?_,hf.snoc AA s1⟩,?_⟩,by simp only[AP];omega⟩
  ·simp only[e1];refine List.Perm.trans ?_ hp;rw[Aj];exact(p1.append_right R').append_left _
  ·simp only[e1];exact hS
 ·refine jq ⟨?_⟩;refine(Vz hO hcm hS.holds (P:=bs.flatten) (M:=R) (S:=[]) (by rw[BU]) (hp.length_eq.trans hlL) hlen AA AA).mono ?_;rintro _ w2⟨R1,p1,s1,hS'⟩;have hS:=hS.call1 hS';rw[BU]at hS;have hRl:=p1.length_eq;have hp1:(bs.flatten++R1).Perm l:=(p1.append_left _).trans hp;have hc:KW (λx y=>decide (cm x y<0)) 20 (bs.flatten++R1):=⟨bs,R1,rfl,hf,AA,s1⟩;generalize bs.flatten++R1=l1 at hS hc hp1;clear hRl p1 s1 hpl hbl hf hp hle
  refine jq ⟨?_⟩;refine AL.loop (λx:Zy=>[(0,.slice (some ⟨g,0,none⟩) len cap),(1,.int .i64 len),(2,.func (.func fc) ⟨[]⟩ ⟨[]⟩),(6,.int .i64 x.n)])
   (λx w'=>(x.l.Perm l∧KW (λx y=>decide (cm x y<0)) x.n x.l∧1≤x.n)∧St w [g] [(g,.cells ⟨x.l.flatMap AU++tail⟩ Aq (0,0))] w') (λx=>len-x.n) ⟨l1,20⟩
   ⟨rfl,rfl,rfl,rfl,trivial⟩ ⟨⟨hp1,hc,by simp only;omega⟩,hS⟩ ?_
  clear hS hp1 hc;rintro⟨l2,n⟩w3⟨⟨hp,hc,hn⟩,hS⟩;simp only at hp hc hn hS⊢;have hpl:=hp.length_eq;by_cases hnl:n<len
  ·obtain⟨MV,r,rfl,hf0,hr,hsr⟩:=hc;refine jq ⟨?_⟩;refine AL.loop (λx:List (List AF)×List (List AF)=>[(0,.slice (some ⟨g,0,none⟩) len cap),(1,.int .i64 len),(2,.func (.func fc) ⟨[]⟩ ⟨[]⟩),(6,.int .i64 n),(7,.int .i64 x.1.flatten.length),(8,.int .i64 (x.1.flatten.length+2*n))])
    (λx w'=>((x.1.flatten++x.2.flatten++r).Perm l∧GL (λx y=>decide (cm x y<0)) (2*n) x.1∧GL (λx y=>decide (cm x y<0)) n x.2)∧St w [g] [(g,.cells ⟨(x.1.flatten++x.2.flatten++r).flatMap AU++tail⟩ Aq (0,0))] w') (λx=>x.2.length) ([],MV)
    ⟨rfl,rfl,rfl,rfl,rfl,by show _=Value.int .i64 _;congr 1;simp only[Gm,Bo];omega,trivial⟩ ⟨⟨hp,nofun,hf0⟩,hS⟩ ?_
   clear hS hf0 hp;rintro⟨b1,b2⟩w4⟨⟨hp,hf1,hf2⟩,hS⟩;simp only at hp hf1 hf2 hS⊢;have hpl2:=hp.length_eq;rw[AP,AP]at hpl2;have hlL4:=hp.length_eq.trans hlL;generalize hbl:b1.flatten.length=q at hpl2⊢
   match b2,hf2,hpl2,hp,hS,hlL4 with
   |x::y::rest,hf2,hpl2,hp,hS,hlL4=>
    have hx:=hf2.hd;have hy:=hf2.tl.hd;have hxy:(x::y::rest).flatten=x++(y++rest.flatten):=AB;rw[hxy]at hS hp hpl2 hlL4;rw[AP,AP]at hpl2;refine jq ⟨?_⟩;refine(Wb hO hcm hlen _ hS.holds (P:=b1.flatten) (A:=x) (B:=y) (S:=rest.flatten++r) (by simp only[Aj]) hlL4 AA AA AA hx.2 hy.2 AA AA (AV _)).mono ?_;rintro _ w5⟨M,p1,s1,hS'⟩;have hS:=hS.call1 hS';have e1:(b1++[M]).flatten=b1.flatten++M:=AB;have hMl:=p1.length_eq
    rw[AP]at hMl;have e2:(b1++[M]).flatten.length=q+2*n:=by rw[e1,AP];omega
    refine jq ⟨?_⟩;refine⟨(b1++[M],rest),⟨rfl,rfl,rfl,rfl,by show _=Value.int .i64 _;congr 1;simp only;omega,by show _=Value.int .i64 _;congr 1;simp only;omega,trivial⟩,⟨⟨?_,hf1.snoc AA s1,hf2.tl.tl⟩,?_⟩,by simp only[Ai];omega⟩
    ·simp only[e1];refine List.Perm.trans ?_ hp;rw[Aj,Aj,Aj b1.flatten];refine List.Perm.append_left _ ?_;refine(p1.append_right _).trans (List.Perm.of_eq ?_);simp only[Aj]
    ·simp only[e1];rw[Aj (b1.flatten++M)];exact hS
   |[x],hf2,hpl2,hp,hS,hlL4=>
    have hx:=hf2.hd;have hxy:[x].flatten=x:=AB;rw[hxy]at hS hp hpl2 hlL4;by_cases hr0:0<r.length
    ·refine jq ⟨?_⟩;refine(Wb hO hcm hlen _ hS.holds (P:=b1.flatten) (A:=x) (B:=r) (S:=[]) (by rw[BU]) hlL4 AA AA AA hx.2 hsr AA AA (AV _)).mono ?_;rintro _ w5⟨M,p1,s1,hS'⟩;have hS:=hS.call1 hS';rw[BU]at hS;have hMl:=p1.length_eq;rw[AP]at hMl;refine jq ⟨?_⟩;refine⟨⟨b1.flatten++M,n*2⟩,⟨rfl,rfl,rfl,rfl,trivial⟩,⟨⟨?_,⟨b1,M,rfl,by rw[HM];exact hf1,by simp only;omega,s1⟩,by simp only;omega⟩,hS⟩,by simp only;omega⟩
     refine List.Perm.trans ?_ hp;rw[Aj];exact p1.append_left _
    ·refine jq ⟨?_⟩;have hr1:r=[]:=Ho.1 AA;rw[hr1,BU]at hS hp;refine⟨⟨b1.flatten++x,n*2⟩,⟨rfl,rfl,rfl,rfl,trivial⟩,⟨⟨hp,⟨b1,x,rfl,by rw[HM];exact hf1,by simp only;omega,hx.2⟩,by simp only;omega⟩,hS⟩,by simp only;omega⟩
   |[],hf2,hpl2,hp,hS,hlL4=>
    rw[Gm,BU]at hS hp hlL4;rw[Gm,Bo]at hpl2;refine jq ⟨?_⟩;refine⟨⟨b1.flatten++r,n*2⟩,⟨rfl,rfl,rfl,rfl,trivial⟩,⟨⟨hp,⟨b1,r,rfl,by rw[HM];exact hf1,by simp only;omega,hsr⟩,by simp only;omega⟩,hS⟩,by simp only;omega⟩
  ·refine jq ⟨?_⟩;refine⟨l2,hp,hc.all AA,hS⟩
theorem xR{fc:FuncId}{cm:AF→AF→Int}(hO:Ord λx y=>decide (cm x y<0))(hcm: ∀(x y:AF)(w:World),Cl Tryz.prog fc [B9 x,B9 y] w λv w'=>v= .int .i64 (cm x y)∧St w [] [] w'){w:World}{g cap len:Nat}{l:List AF}{tail:List Value}(hh:Holds [(g,.cells ⟨l.flatMap AU++tail⟩ Aq (0,0))] w)(hlL:l.length=len)(hlen:len≤16777216):
  Cl Tryz.prog Uw [.slice (some ⟨g,0,none⟩) len cap,.func (.func fc) ⟨[]⟩ ⟨[]⟩] w λ_ w'=>∃l',l'.Perm l∧Srt (λx y=>decide (cm x y<0)) l'∧St w [g] [(g,.cells ⟨l'.flatMap AU++tail⟩ Aq (0,0))] w':=by
 refine Uc rfl ?_;refine jq ⟨?_⟩;refine(xY hO hcm hh hlL hlen).mono ?_;intro _ w' h;refine jq ⟨?_⟩;exact h
theorem sI{w:World}{F:Value}:Cl Tryz.prog Uy [.slice none 0 0,.int .i64 0,.int .i64 0,F] w λ_ w'=>St w [] [] w':=by
 have hS:=St.start w;refine Ue rfl ?_;refine jq ⟨?_⟩;refine AL.loop (λ_:Unit=>[(2,.int .i64 0),(8,.int .i64 1)]) (λ_ w'=>St w [] [] w') (λ_=>0) () ⟨rfl,rfl,trivial⟩ hS ?_;clear hS;intro _ w1 hS;refine jq ⟨?_⟩;exact hS
theorem xW{w:World}{F:Value}:Cl Tryz.prog U0 [.slice none 0 0,.int .i64 0,F] w λ_ w'=>St w [] [] w':=by
 have hS:=St.start w;refine Ug rfl ?_;refine jq ⟨?_⟩;refine AL.loop (λ_:Unit=>[(0,.slice none 0 0),(1,.int .i64 0),(2,F),(6,.int .i64 20),(7,.int .i64 0),(8,.int .i64 20)]) (λ_ w'=>St w [] [] w') (λ_=>0) () ⟨rfl,rfl,rfl,rfl,rfl,rfl,trivial⟩ hS ?_;clear hS;intro _ w1 hS;refine jq ⟨?_⟩;refine sI.mono ?_;intro _ w2 hS';have hS:=hS.call0 hS';refine jq ⟨?_⟩;refine AL.loop (λ_:Unit=>[(1,.int .i64 0),(6,.int .i64 20)]) (λ_ w'=>St w [] [] w') (λ_=>0) () ⟨rfl,rfl,trivial⟩ hS ?_
 clear hS;intro _ w3 hS;refine jq ⟨?_⟩;exact hS
theorem xP{w:World}{F:Value}:Cl Tryz.prog Uw [.slice none 0 0,F] w λ_ w'=>St w [] [] w':=by
 refine Uc rfl ?_;refine jq ⟨?_⟩;refine xW.mono ?_;intro _ w' h;refine jq ⟨?_⟩;exact h
end Go.Proofs.YtkgibdhpijdbfaaGreatDoor
