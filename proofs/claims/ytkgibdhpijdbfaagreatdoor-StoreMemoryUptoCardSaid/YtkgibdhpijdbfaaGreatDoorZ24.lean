/- Texts of this claim, one behind the other. -/
import Derived.Test.YtkgibdhpijdbfaaGreatDoorZ22
import Derived.Test.YtkgibdhpijdbfaaGreatDoorZ20
import Derived.Test.YtkgibdhpijdbfaaGreatDoorZ4
set_option linter.unusedVariables false
set_option linter.unusedSimpArgs false
set_option maxHeartbeats 16000000
namespace Go.Proofs.YtkgibdhpijdbfaaGreatDoor
open Go Go.Eng Go.Proofs Go.Srt
theorem NY{w:World}{a:Option Addr}{c:Nat}{xs:List Value}{ls:List (List AF)}(ha:Arr w [] a xs)(hL:EC w xs ls)(hl:ls.length≤1099511627776)(hn:ls.flatten.length≤16777216)(h1:C1 ls.flatten):
  Cl Tryz.prog nT [.slice a ls.length c] w λv w'=>∃r a' c' L,r.Perm ls.flatten∧Az r∧v= .slice a' r.length c'∧AT Aq 4 a' r.length c' (r.flatMap AU) L∧St w [] L w':=by
 refine fR rfl ?_;refine jq ⟨?_⟩;refine(Y0 ha hL hl hn).mono ?_;rintro _ w1⟨a1,c1,L,rfl,hv,hS⟩;have hcl:=Hi ls.flatten;rcases hv.inv with⟨rfl,hl0,rfl, -,rfl⟩|⟨g,tl,rfl, -,hc2,hc1,rfl⟩
 ·have hf:ls.flatten=[]:=Ho.1 hl0;rw[hf];refine jq ⟨?_⟩;refine xP.mono ?_;intro _ w2 hS';have hS:=hS.call0 hS';refine jq ⟨?_⟩;refine(Sl (l:=[]) (Arr.nil _ _ _) List.Pairwise.nil (Ag _)).mono ?_;rintro _ w3⟨rfl,hS'⟩;have hS:=hS.call0 hS';refine jq ⟨?_⟩;exact⟨[],none,0,[],List.Perm.refl _,List.Pairwise.nil,rfl,AT.nil,hS⟩
 ·refine jq ⟨?_⟩;refine(xR vP Wd hS.holds rfl hn).mono ?_;rintro _ w2⟨r,hp,hs,hS'⟩;have hS:=hS.call1 hS';have hr:Az r:=wP hs (h1.perm hp.symm);have hlen:=hp.length_eq;have hcr:=Hi r;have hv:AT Aq 4 (some ⟨g,0,none⟩) r.length c1 (r.flatMap AU) [(g,.cells ⟨r.flatMap AU++tl⟩ Aq (0,0))]:=
   AT.row g _ c1 _ tl hcr AA AA
  rw[←hlen];refine jq ⟨?_⟩;refine(Sl (hv.arr hS (T':=[]) AB) hr AA).mono ?_;rintro _ w3⟨rfl,hS'⟩;have hS:=hS.call0 hS';refine jq ⟨?_⟩;exact⟨r,_,_,_,hp,hr,rfl,hv,hS⟩
def RS(b:Nat):Value:= .func (.func Uu) ⟨[]⟩ ⟨[ptr b]⟩
theorem uM{w:World}{b:Nat}{t:Int}(hb:w.cell? ⟨b,0,none⟩=some (.int .i64 t))(x:AF):Cl Tryz.prog Uu [B9 x,ptr b] w λv w'=>v= .bool (decide (x.s≤t))∧St w [] [] w':=by
 have hS:=St.start w;unfold B9 AU;refine fY rfl ?_;refine jq ⟨?_⟩;refine hS.al ?_;intro b2 w2 _ hS;(repeat(refine jt ⟨?_⟩;refine hS.q ?_;intro _ hS));refine jt ⟨?_⟩;refine hS.ldOld AB hb ?_;refine jq ⟨?_⟩;exact⟨rfl,hS.nil⟩
def K5(t:Int)(g:List AF):Int:=match GC t g with|none=> -1|some i=>(i:Int)
theorem ZP{w:World}{a:Option Addr}{c b:Nat}{l:List AF}{t:Int}(ha:Arr w [] a (l.flatMap AU))(hb:w.cell? ⟨b,0,none⟩=some (.int .i64 t))(hl:l.length≤1099511627776):
  Cl Tryz.prog oT [.slice a l.length c,RS b] w λv w'=>v= .int .i64 (K5 t l)∧St w [] [] w':=by
 have hS:=St.start w;refine gV rfl ?_;refine jq ⟨?_⟩;refine AL.loop (λk:Nat=>[(0,.slice a l.length c),(1,RS b),(7,.int .i64 l.length),(8,.int .i64 k)])
  (λk w'=>(k≤l.length∧ ∀i(h:i<l.length),i<k→ ¬l[i].s≤t)∧St w [] [] w') (λk=>l.length-k) 0
  ⟨rfl,rfl,rfl,rfl,trivial⟩ ⟨⟨Ag _,λi _ h=>AA⟩,hS⟩ ?_
 clear hS;rintro k w1⟨⟨hk,hno⟩,hS⟩;by_cases hkl:k<l.length
 ·obtain⟨g,off,rfl,hx⟩:=FO ha hkl;have hfn:GC t l=some k↔l[k].s≤t:=by
   unfold GC;rw[Mo];constructor
   ·rintro⟨h,h1,_⟩;simpa using h1
   ·intro h1;exact⟨hkl,by simpa using h1,λj hj=>by simpa using hno j AA hj⟩
  have hsucc: ¬l[k].s≤t→ ∀i(h:i<l.length),i<k+1→ ¬l[i].s≤t:=λh i hi hik=>by
   by_cases e:i=k
   ·subst e;exact h
   ·exact hno i hi AA
  generalize hu:l[k]=u at hx hfn hsucc;unfold RS;refine jq ⟨?_⟩;refine IQ (cs:=[AG u.k,.int .i64 u.s,.bool u.d,AG u.v]) rfl (λj x hj=>hS.oldCell AB (by have:=hx j x hj;rw[show off+((k:Int)).toNat*4+j=off+k*4+j by omega];exact this)) ?_;refine jq ⟨?_⟩;refine(uM (hS.oldCell AB hb) u).mono ?_;rintro _ w2⟨rfl,hS'⟩;have hS:=hS.call0 hS';by_cases hut:u.s≤t
  ·unfold K5;rw[hfn.2 hut];refine jq ⟨?_⟩;exact⟨rfl,hS⟩
  ·refine jq ⟨?_⟩;exact⟨k+1,⟨rfl,rfl,rfl,rfl,trivial⟩,⟨⟨AA,hsucc hut⟩,hS⟩,AA⟩
 ·have hnone:GC t l=none:=by
   unfold GC;rw[List.findIdx?_eq_none_iff];intro x hx;obtain⟨i,hi,rfl⟩:=Hr.1 hx;simpa using hno i hi AA
  unfold K5;rw[hnone];refine jq ⟨?_⟩;exact⟨rfl,hS⟩
theorem Wl{w:World}{a:Option Addr}{c:Nat}{l:List AF}{t:Int}(ha:Arr w [] a (l.flatMap AU))(hl:l.length≤1099511627776):
  Cl Tryz.prog nY [.slice a l.length c,.int .i64 t] w λv w'=>v= .int .i64 (K5 t l)∧St w [] [] w':=by
 have hS:=St.start w;refine fX rfl ?_;refine jq ⟨?_⟩;refine hS.al ?_;intro b w1 _ hS;refine jq ⟨?_⟩;refine Bk.of rfl ?_;refine jq ⟨?_⟩;refine(ZP (hS.arrOld ha) (hS.cell (b:=b) rfl) hl).mono ?_;rintro _ w2⟨rfl,hS'⟩;have hS:=hS.call0 hS';refine jq ⟨?_⟩;exact⟨rfl,hS.nil⟩
theorem Vr: ∀(A:List AF)(x:AF)(B:List AF),(∀y∈A,y.k=x.k)→(∀y∈B.head?,y.k≠x.k)→BC (x::A++B)=(x::A)::BC B
 |[],x,[],_,_=>rfl
 |[],x,y::B,_,h=>by
  rw[D3,CU,Qx,if_neg (h y AB)]
 |z::A,x,B,ha,hb=>by
  have hz:=ha z CN;have ih:=Vr A z B (λy hy=>(ha y (CJ _ hy)).trans hz.symm) (λy hy=>by rw[hz];exact hb y hy);rw[D3,D3,Qx,if_pos hz,←D3,ih]
theorem Ml: ∀l,(BC l).length≤l.length
 |[]=>AV _
 |x::l=>by
  have ih:=Ml l;unfold BC
  split
  ·simp
  ·rename_i h;rw[h]at ih;simp only[Ai]at ih⊢;split<;>simp only[Ai]<;>omega
theorem EC.snoc{w:World}{a:Option Addr}{c:Nat}{l:List AF}{xs:List Value}{ls:List (List AF)}(h:EC w xs ls)(ha:Arr w [] a (l.flatMap AU))(hc:l.length≤c):EC w (xs++[.slice a l.length c]) (ls++[l]):=by
 induction h with
 |nil=>exact .cons ha hc .nil
 |cons ha' hc' _ ih=>exact .cons ha' hc' ih
theorem Ou{w:World}{T:List Nat}{g off c:Nat}{l:List AF}(ha:Arr w T (some ⟨g,off,none⟩) (l.flatMap AU))(hc:l.length≤c){p n:Nat}(hp:p+n≤l.length):
  Arr w T (CV g off p c 4) (((l.drop p).take n).flatMap AU):=by
 have e1:l.flatMap AU=(l.take p).flatMap AU++(l.drop p).flatMap AU:=by rw[←Hj,CO]
 rw[e1]at ha;have hlen:=Hi (l.take p);rw[BR,Nat.min_eq_left AA]at hlen;have h1:=ha.dropS (k:=p) (sz:=4) (cap:=c) hlen (λh=>by
  rcases Nat.lt_or_ge p l.length with h2|h2
  ·omega
  ·rw[List.drop_eq_nil_of_le h2]at h;exact absurd rfl h)
 rw[←CO n (l.drop p),Hj]at h1;exact Arr.take h1
theorem Vp{w:World}{a:Option Addr}{c:Nat}{l:List AF}(ha:Arr w [] a (l.flatMap AU))(hc:l.length≤c)(hl:l.length≤16777216):
  Cl Tryz.prog nX [.slice a l.length c] w λv w'=>∃a' c' xs L,v= .slice a' (BC l).length c'∧EC w xs (BC l)∧AT GR 1 a' (BC l).length c' xs L∧St w [] L w':=by
 have hS:=St.start w;have hgl:=Ml l;refine fW rfl ?_;refine jq ⟨?_⟩;refine AL.loop (λi:Nat×Nat×Nat×Option Addr×Nat=>[(0,.slice a l.length c),(3,.slice i.2.2.2.1 i.2.2.1 i.2.2.2.2),(4,.int .i64 i.2.1),(7,.int .i64 l.length),(8,.int .i64 i.1)])
  (λi w'=>i.1≤l.length∧i.2.1≤i.1∧(i.1=l.length→i.2.1=i.1)∧(∀j(hj:j<l.length)(hi:i.2.1<l.length),i.2.1≤j→j≤i.1→l[j].k=l[i.2.1].k)∧
   ∃gs xs L,gs++BC (l.drop i.2.1)=BC l∧gs.length=i.2.2.1∧EC w xs gs∧AT GR 1 i.2.2.2.1 i.2.2.1 i.2.2.2.2 xs L∧St w [] L w') (λi=>l.length-i.1) (0,0,0,none,0)
  ⟨rfl,rfl,rfl,rfl,rfl,trivial⟩ ⟨Ag _,AV _,λ_=>rfl,λj hj hi h1 h2=>(by have:j=0:=Nat.le_zero.1 h2;subst this;rfl),[],[],[],AB,rfl,.nil,AT.nil,hS⟩ ?_
 clear hS;rintro⟨k,p,n,a1,c1⟩w1⟨hk,hp,hend,hsame,gs,xs,L,hgs,hn,hL,hv,hS⟩;simp only at hk hp hend hsame hn hgs hv hS⊢;by_cases hkl:k<l.length
 ·obtain⟨g,off,rfl,hx⟩:=FO ha hkl;have hgl2:=congrArg List.length hgs;rw[AP]at hgl2;refine jq ⟨?_⟩;refine AL.draw AK mixed (λw'=>St w _ _ w') [] [0,1,2,3,4,5,6,7,8,9,10,11,12,13,14,15,16,17,18] AD hS.drew ?_;have hS:=hS.drew;have hpl:p<l.length:=AA;have hm:((l.drop p).take (k+1-p)).length=k+1-p:=by rw[BR,Do];omega
  have hLn:EC w (xs++[.slice (CV g off p c 4) (k+1-p) (c-p)]) (gs++[(l.drop p).take (k+1-p)]):=by
   have:=hL.snoc (Ou ha hc (p:=p) (n:=k+1-p) AA) (c:=c-p) (by rw[hm];omega);rw[hm]at this;exact this
  have hcut:(∀y∈(l.drop (k+1)).head?,y.k≠l[p].k)→(gs++[(l.drop p).take (k+1-p)])++BC (l.drop (k+1))=BC l:=λhy=>by
   rw[←hgs,Aj]
   congr 1
   have e1:l.drop p=(l.drop p).take (k+1-p)++l.drop (k+1):=by
    conv=>lhs;rw[←CO (k+1-p) (l.drop p),List.drop_drop,show p+(k+1-p)=k+1 by omega]
   have e2:(l.drop p).take (k+1-p)=l[p]::(l.drop (p+1)).take (k-p):=by
    rw[FQ hpl,show k+1-p=(k-p)+1 by omega,List.take_succ_cons]
   conv=>rhs;rw[e1,e2]
   rw[e2,Vr _ _ _ _ hy]
   ·rfl
   ·intro y hy;obtain⟨j,hj,rfl⟩:=Hr.1 hy;rw[BR,Do]at hj;rw[List.getElem_take,List.getElem_drop];exact hsame _ AA hpl AA AA
  by_cases hkn:k+1<l.length
  ·obtain⟨g',o',h1,hy⟩:=FO ha hkn;simp only[Option.some.injEq,Addr.mk.injEq,and_true]at h1;obtain⟨rfl,rfl⟩:=h1;have hkk:=hsame k hkl hpl hp (AV _);generalize hv2:l[k+1]=v at hy;generalize hu:l[k]=u at hx hkk;refine jr ⟨?_⟩;refine hS.ldOldC AB (by have:=hy 0 _ rfl;rw[show off+((k:Int)+1).toNat*4+0=off+(k+1)*4+0 by omega];exact this) ?_;refine jr ⟨?_⟩;refine hS.ldOldC AB (by have:=hx 0 _ rfl;rw[show off+((k:Int)).toNat*4+0=off+k*4+0 by omega];exact this) ?_
   refine jr ⟨?_⟩;have hd: ∀y∈(l.drop (k+1)).head?,y=v:=λy hy=>by
    rw[List.head?_drop,CB hkn,hv2]at hy;simpa using hy.symm
   by_cases hvu:v.k=u.k
   ·refine jq ⟨?_⟩;exact⟨(k+1,p,n,a1,c1),⟨rfl,rfl,rfl,rfl,rfl,trivial⟩,⟨AA,Nat.le_succ_of_le hp,λh=>absurd h (Nat.ne_of_lt hkn),λj hj hi h1 h2=>(by
     rcases Nat.lt_or_ge j (k+1)with h|h
     ·exact hsame j hj hi h1 (Nat.le_of_lt_succ h)
     ·have:j=k+1:=Nat.le_antisymm h2 h;subst this;exact(congrArg AF.k hv2).trans (hvu.trans hkk)),gs,xs,L,hgs,hn,hL,hv,hS⟩,by simp;omega⟩
   ·have hcat:=hcut (λy hy=>by rw[hd y hy,←hkk];exact hvu);refine jq ⟨?_⟩;refine hS.al ?_;intro b2 w2 _ hS;refine jq ⟨?_⟩;refine St.app (sz:=1) (m:=1) AK rfl rfl rfl rfl hS hv (news:=[.slice (CV g off p c 4) (k+1-p) (c-p)]) (by rfl) (by
     have:=hS.arr (b:=b2) (T':=[]) AB;rw[show((p:Int)).toNat=p by omega,show((k:Int)+1).toNat=k+1 by omega]at this;exact this) (by rfl) (by show(_+_)*24≤_;omega) AA ?_
    intro a4 c4 L4 w4 hv4 hS;refine jq ⟨?_⟩;exact⟨(k+1,k+1,n+1,a4,c4),⟨rfl,rfl,rfl,rfl,rfl,trivial⟩,⟨AA,AV _,λ_=>rfl,λj hj hi h1 h2=>(by have:j=k+1:=Nat.le_antisymm h2 h1;subst this;rfl),gs++[(l.drop p).take (k+1-p)],xs++[.slice (CV g off p c 4) (k+1-p) (c-p)],L4,hcat,by simp[hn],hLn,hv4,hS.sub (AS _ _)⟩,by simp;omega⟩
  ·have hcat:=hcut (by rw[List.drop_eq_nil_of_le AA];simp);refine jr ⟨?_⟩;refine jq ⟨?_⟩;refine hS.al ?_;intro b2 w2 _ hS;refine jq ⟨?_⟩;refine St.app (sz:=1) (m:=1) AK rfl rfl rfl rfl hS hv (news:=[.slice (CV g off p c 4) (k+1-p) (c-p)]) (by rfl) (by
    have:=hS.arr (b:=b2) (T':=[]) AB;rw[show((p:Int)).toNat=p by omega,show((k:Int)+1).toNat=k+1 by omega]at this;exact this) (by rfl) (by show(_+_)*24≤_;omega) AA ?_
   intro a4 c4 L4 w4 hv4 hS;refine jq ⟨?_⟩;exact⟨(k+1,k+1,n+1,a4,c4),⟨rfl,rfl,rfl,rfl,rfl,trivial⟩,⟨AA,AV _,λ_=>rfl,λj hj hi h1 h2=>(by have:j=k+1:=Nat.le_antisymm h2 h1;subst this;rfl),gs++[(l.drop p).take (k+1-p)],xs++[.slice (CV g off p c 4) (k+1-p) (c-p)],L4,hcat,by simp[hn],hLn,hv4,hS.sub (AS _ _)⟩,by simp;omega⟩
 ·obtain rfl:k=l.length:=AA;obtain rfl:=hend rfl;rw[IJ]at hgs;simp only[BC,BU]at hgs;subst hgs;subst hn;refine jq ⟨?_⟩;exact⟨a1,c1,xs,L,rfl,hL,hv,hS⟩
end Go.Proofs.YtkgibdhpijdbfaaGreatDoor
namespace Go.Eng
open Go
theorem xL{P:Program}{T0:BO}(hT:BX P T0){t e:TypeId}{sz:Nat}{i:TI}(hi:tf T0 t=some i)(hk:i.k= .slice e sz){C:World→Prop}{g off len cap:Nat}{kl kh km:IntKind}{l h m:Nat}(h1:l≤h)(h2:h≤m)(h3:m≤cap){K:Value→Prop}(hK:K (.slice (if m=l then some ⟨g,off,none⟩else some ⟨g,off+l*sz,none⟩) (h-l) (m-l))):
  Fz P (Instr.sliceAt t (.slice (some ⟨g,off,none⟩) len cap) (some (.int kl (l:Int))) (some (.int kh (h:Int))) (some (.int km (m:Int)))) C K:=by
 refine⟨⟨_,λw _=>?_,hK⟩⟩;have ht:=CZ hT hi;rw[hk]at ht;obtain⟨hu,hs⟩:=ht;have hel:P.elem t=e:=by simp[Program.elem,hu]
 have hu':P.underlying t=some (.slice (P.elem t)):=by rw[hel];exact hu
 cases hinf:P.info? e with
 |none=>rw[hinf]at hs;simp at hs
 |some inf=>
  rw[hinf]at hs;have hs1:inf.size=sz:=by simpa using hs
  rw[run_sliceAt_slice w t _ _ _ _ hu',run_slice_any w t _ _ _ hu'];simp[Instr.sliceBounds,run_sliceBound,hel,sizeOf,typeInfo,hinf,hs1,Result.andThen,sliced,Addr.add_eq,(by omega:(l:Int)≤h),(by omega:(h:Int)≤m),(by omega:(m:Int)≤cap)]
end Go.Eng
namespace Go.Proofs.YtkgibdhpijdbfaaGreatDoor
open Go Go.Eng Go.Proofs
theorem Sh{w:World}{a:Option Addr}{n c m:Nat}(hm:1≤m):
  Cl Tryz.prog oK [.slice a n c,.int .i64 m] w λv w'=>∃b2 b3,v= .func (.func Uv) ⟨[]⟩ ⟨[ptr b2,ptr b3]⟩∧St w [] [(b3,.cells ⟨[.int .i64 m]⟩ BP (0,0)),(b2,.cells ⟨[.slice a n c]⟩ GR (0,0))] w':=by
 have hS:=St.start w;refine gL rfl ?_;refine jq ⟨?_⟩;refine hS.al ?_;intro b2 w1 _ hS;refine jq ⟨?_⟩;refine hS.al ?_;intro b3 w2 _ hS;(repeat(refine jt ⟨?_⟩;refine hS.q ?_;intro _ hS));refine jt ⟨?_⟩;refine Bk.of rfl ?_;refine jq ⟨?_⟩;exact⟨b2,b3,rfl,hS⟩
theorem WL{Inv:World→Prop}{a:Addr}{v:Value}(h: ∀w,Inv w→w.cell? a=some v){K:Value→Prop}(hk:K v):FK (λw'=>Inv w') a K:=⟨⟨v,λw hw=>h w hw,hk⟩⟩
theorem Sg{w:World}{a:Option Addr}{g o c b2 b3 m l n:Nat}(hm:1≤m∧m≤1099511627776)(hn:n≤1099511627776)(hc:n≤c)(ha:0<n→a=some ⟨g,o,none⟩)(Inv:Nat→World→Prop)(Stop:World→Prop)
  (h2: ∀i w',Inv i w'→w'.cell? ⟨b2,0,none⟩=some (.slice a n c))(h3: ∀i w',Inv i w'→w'.cell? ⟨b3,0,none⟩=some (.int .i64 m))(hd: ∀i w',Inv i w'→Inv i w'.drew)
  (hy: ∀i w',i*m<n→Inv i w'→ ∀K:Value→World→Prop,(∀w2,Inv (i+1) w2→K (.bool true) w2)→(∀w2,Stop w2→K (.bool false) w2)→Kd Tryz.prog l [.slice (some ⟨g,o+i*m*4,none⟩) (min m (n-i*m)) (min m (n-i*m))] w' K)
  (h0:Inv 0 w):Cl Tryz.prog Uv [.func (.yield l) ⟨[]⟩ ⟨[]⟩,ptr b2,ptr b3] w λ_ w'=>(∃i,n≤i*m∧Inv i w')∨Stop w':=by
 refine gM rfl ?_;refine Ao.toW ?_;repeat(first|refine Ao.run AK ?_|((first|refine jA ?_ ?_|refine jB ?_ ?_|refine jC ?_ ?_|refine jD ?_ ?_);omega)|refine jE rfl ?_|refine jF (by first|omega|exact Bd AK rfl rfl|decide) ?_|(refine jG ?_;first|with_reducible (first|apply jH|apply jI|apply jJ|apply jK|apply jL)|refine jM AA ?_|refine jN AA ?_|with_reducible refine jM rfl ?_|refine jM (by first|assumption|decide) ?_|refine jN (by first|assumption|decide) ?_)|refine jO (λ_=>AD) ?_)
 refine Ao.loop (λi:Nat=>[(0,.func (.yield l) ⟨[]⟩ ⟨[]⟩),(1,ptr b2),(2,ptr b3),(4,.int .i64 ((i*m:Nat):Int))])
  (λi w'=>Inv i w') (λi=>n-i*m) 0 ⟨rfl,rfl,rfl,by rw[Nat.zero_mul];rfl,trivial⟩ h0 ?_
 intro i w1 hI;have hc2:=h2 i w1 hI;have hc3:=h3 i w1 hI;have hyi:=hy i w1.drew;have hsm:(i+1)*m=i*m+m:=by rw[HK,Nat.one_mul]
 generalize hp:i*m=p at hsm hyi⊢;repeat(first|refine Ao.run AK ?_|((first|refine jA ?_ ?_|refine jB ?_ ?_|refine jC ?_ ?_|refine jD ?_ ?_);omega)|refine jE rfl ?_|refine jF (by first|omega|exact Bd AK rfl rfl|decide) ?_|(refine jG ?_;first|with_reducible (first|apply jH|apply jI|apply jJ|apply jK|apply jL)|refine jM AA ?_|refine jN AA ?_|with_reducible refine jM rfl ?_|refine jM (by first|assumption|decide) ?_|refine jN (by first|assumption|decide) ?_)|refine jO (λ_=>AD) ?_)
 refine⟨⟨_,λ_ e=>by subst e;exact hc2,?_⟩⟩;repeat(first|refine Ao.run AK ?_|((first|refine jA ?_ ?_|refine jB ?_ ?_|refine jC ?_ ?_|refine jD ?_ ?_);omega)|refine jE rfl ?_|refine jF (by first|omega|exact Bd AK rfl rfl|decide) ?_|(refine jG ?_;first|with_reducible (first|apply jH|apply jI|apply jJ|apply jK|apply jL)|refine jM AA ?_|refine jN AA ?_|with_reducible refine jM rfl ?_|refine jM (by first|assumption|decide) ?_|refine jN (by first|assumption|decide) ?_)|refine jO (λ_=>AD) ?_)
 by_cases hpn:p<n
 ·obtain rfl:=ha AA;repeat(first|refine Ao.run AK ?_|((first|refine jA ?_ ?_|refine jB ?_ ?_|refine jC ?_ ?_|refine jD ?_ ?_);omega)|refine jE rfl ?_|refine jF (by first|omega|exact Bd AK rfl rfl|decide) ?_|(refine jG ?_;first|with_reducible (first|apply jH|apply jI|apply jJ|apply jK|apply jL)|refine jM AA ?_|refine jN AA ?_|with_reducible refine jM rfl ?_|refine jM (by first|assumption|decide) ?_|refine jN (by first|assumption|decide) ?_)|refine jO (λ_=>AD) ?_)
  refine Ao.draw AK mixed (λw'=>Inv i w') [] [0,1,2,3,4,5,6] AD (hd i w1 hI) ?_;have hI:=hd i w1 hI;refine WL (Inv:=Inv i) (h3 i) ?_;repeat(first|refine Ao.run AK ?_|((first|refine jA ?_ ?_|refine jB ?_ ?_|refine jC ?_ ?_|refine jD ?_ ?_);omega)|refine jE rfl ?_|refine jF (by first|omega|exact Bd AK rfl rfl|decide) ?_|(refine jG ?_;first|with_reducible (first|apply jH|apply jI|apply jJ|apply jK|apply jL)|refine jM AA ?_|refine jN AA ?_|with_reducible refine jM rfl ?_|refine jM (by first|assumption|decide) ?_|refine jN (by first|assumption|decide) ?_)|refine jO (λ_=>AD) ?_)
  refine WL (Inv:=Inv i) (h2 i) ?_;repeat(first|refine Ao.run AK ?_|((first|refine jA ?_ ?_|refine jB ?_ ?_|refine jC ?_ ?_|refine jD ?_ ?_);omega)|refine jE rfl ?_|refine jF (by first|omega|exact Bd AK rfl rfl|decide) ?_|(refine jG ?_;first|with_reducible (first|apply jH|apply jI|apply jJ|apply jK|apply jL)|refine jM AA ?_|refine jN AA ?_|with_reducible refine jM rfl ?_|refine jM (by first|assumption|decide) ?_|refine jN (by first|assumption|decide) ?_)|refine jO (λ_=>AD) ?_)
  refine⟨⟨_,λ_ e=>by subst e;exact h2 i _ hI,?_⟩⟩;have hmin:(if((n-((p:Int)).toNat:Nat):Int)<(m:Int)then((n-((p:Int)).toNat:Nat):Int)else(m:Int))=((min m (n-p):Nat):Int):=by split<;>omega
  rw[hmin];generalize hq:min m (n-p)=q at hyi;have hqb:q≤m∧q≤n-p:=AA;repeat(first|refine Ao.run AK ?_|((first|refine jA ?_ ?_|refine jB ?_ ?_|refine jC ?_ ?_|refine jD ?_ ?_);omega)|refine jE rfl ?_|refine jF (by first|omega|exact Bd AK rfl rfl|decide) ?_|(refine jG ?_;first|with_reducible (first|apply jH|apply jI|apply jJ|apply jK|apply jL)|refine jM AA ?_|refine jN AA ?_|with_reducible refine jM rfl ?_|refine jM (by first|assumption|decide) ?_|refine jN (by first|assumption|decide) ?_)|refine jO (λ_=>AD) ?_)
  rw[show(p:Int)+(q:Int)=((p+q:Nat):Int) by simp];refine xL AK rfl rfl AA (AV _) AA ?_;rw[if_neg AA,Nat.add_sub_cancel_left];repeat(first|refine Ao.run AK ?_|((first|refine jA ?_ ?_|refine jB ?_ ?_|refine jC ?_ ?_|refine jD ?_ ?_);omega)|refine jE rfl ?_|refine jF (by first|omega|exact Bd AK rfl rfl|decide) ?_|(refine jG ?_;first|with_reducible (first|apply jH|apply jI|apply jJ|apply jK|apply jL)|refine jM AA ?_|refine jN AA ?_|with_reducible refine jM rfl ?_|refine jM (by first|assumption|decide) ?_|refine jN (by first|assumption|decide) ?_)|refine jO (λ_=>AD) ?_)
  refine hyi hpn hI _ (λw2 hI2=>?_) (λw2 hst=>?_)
  rotate_left
  ·repeat(first|refine Ao.run AK ?_|((first|refine jA ?_ ?_|refine jB ?_ ?_|refine jC ?_ ?_|refine jD ?_ ?_);omega)|refine jE rfl ?_|refine jF (by first|omega|exact Bd AK rfl rfl|decide) ?_|(refine jG ?_;first|with_reducible (first|apply jH|apply jI|apply jJ|apply jK|apply jL)|refine jM AA ?_|refine jN AA ?_|with_reducible refine jM rfl ?_|refine jM (by first|assumption|decide) ?_|refine jN (by first|assumption|decide) ?_)|refine jO (λ_=>AD) ?_)
   exact .inr hst
  repeat(first|refine Ao.run AK ?_|((first|refine jA ?_ ?_|refine jB ?_ ?_|refine jC ?_ ?_|refine jD ?_ ?_);omega)|refine jE rfl ?_|refine jF (by first|omega|exact Bd AK rfl rfl|decide) ?_|(refine jG ?_;first|with_reducible (first|apply jH|apply jI|apply jJ|apply jK|apply jL)|refine jM AA ?_|refine jN AA ?_|with_reducible refine jM rfl ?_|refine jM (by first|assumption|decide) ?_|refine jN (by first|assumption|decide) ?_)|refine jO (λ_=>AD) ?_)
  refine⟨⟨_,λ_ e=>by subst e;exact h3 (i+1) _ hI2,?_⟩⟩;repeat(first|refine Ao.run AK ?_|((first|refine jA ?_ ?_|refine jB ?_ ?_|refine jC ?_ ?_|refine jD ?_ ?_);omega)|refine jE rfl ?_|refine jF (by first|omega|exact Bd AK rfl rfl|decide) ?_|(refine jG ?_;first|with_reducible (first|apply jH|apply jI|apply jJ|apply jK|apply jL)|refine jM AA ?_|refine jN AA ?_|with_reducible refine jM rfl ?_|refine jM (by first|assumption|decide) ?_|refine jN (by first|assumption|decide) ?_)|refine jO (λ_=>AD) ?_)
  exact⟨i+1,⟨rfl,rfl,rfl,by rw[hsm];rfl,trivial⟩,hI2,by rw[hsm];omega⟩
 ·repeat(first|refine Ao.run AK ?_|((first|refine jA ?_ ?_|refine jB ?_ ?_|refine jC ?_ ?_|refine jD ?_ ?_);omega)|refine jE rfl ?_|refine jF (by first|omega|exact Bd AK rfl rfl|decide) ?_|(refine jG ?_;first|with_reducible (first|apply jH|apply jI|apply jJ|apply jK|apply jL)|refine jM AA ?_|refine jN AA ?_|with_reducible refine jM rfl ?_|refine jM (by first|assumption|decide) ?_|refine jN (by first|assumption|decide) ?_)|refine jO (λ_=>AD) ?_)
  exact .inl ⟨i,AA,hI⟩
end Go.Proofs.YtkgibdhpijdbfaaGreatDoor
