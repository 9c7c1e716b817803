/- Texts of this claim, one behind the other. -/
import Derived.Test.YtkgibdhpijdbfaaGreatDoorZ17
import Derived.Test.YtkgibdhpijdbfaaGreatDoorZ12
import Derived.Test.YtkgibdhpijdbfaaGreatDoorZ16
import Derived.Test.YtkgibdhpijdbfaaGreatDoorZ11
import Derived.Test.YtkgibdhpijdbfaaGreatDoorZ2
set_option linter.unusedVariables false
set_option linter.unusedSimpArgs false
set_option maxHeartbeats 16000000
namespace Go.Proofs.YtkgibdhpijdbfaaGreatDoor
open Go Go.Eng
theorem MC{z:Int}(h:CA z):Eb z<18446744073709551616:=by
 unfold CA at h;unfold Eb;split<;>omega
theorem XC{z:Int}(h:Eb z<18446744073709551616):CA z:=by
 unfold Eb at h;unfold CA;split at h<;>omega
theorem Wy(m:Nat)(r:AE)(h:m<18446744073709551616):CP (Ak m++r)=(m,0,r):=by
 unfold CP;rw[(Jg _ m r).2 ⟨rfl,h⟩]
theorem sL(z:Int)(r:AE)(h:CA z):Da (Bg z++r)=(z,0,r):=by
 unfold Da Bg;rw[Wy _ _ (MC h),Yq]
theorem W0{t:AE}(h:(CP t).2.1=0):t=Ak (CP t).1++(CP t).2.2:=by
 unfold CP at h⊢;cases e:Hw t with
 |none=>rw[e]at h;cases h
 |some x=>obtain⟨m,r⟩:=x;exact((Jg t m r).1 e).1
theorem Wz(t:AE):(CP t).2.1=0∨(CP t).2.1=1:=by
 unfold CP;cases Hw t with
 |none=>exact .inr rfl
 |some x=>exact .inl rfl
theorem Q7{t:AE}(h:(Da t).2.1=0):t=Bg (Da t).1++(Da t).2.2∧CA (Da t).1:=by
 have h1:=W0 h;have h2:=LI t;unfold Da Bg;simp only;rw[Sa];exact⟨h1,XC (by rw[Sa];exact h2)⟩
theorem sM(t:AE):(Da t).2.1=0∨(Da t).2.1=1:=Wz t
theorem K3(t:AE):(Da t).2.2.length≤t.length:=LH t
theorem V5{t:AE}(h:(Da t).2.1=0):(Da t).2.2.length+1≤t.length:=by
 have h1:=congrArg List.length (Q7 h).1;have h2:=LG (Eb (Da t).1);rw[AP]at h1;unfold Bg at h1;omega
structure RB where
 t:AE
 bad:Bool
def BK(s:RB):Int×RB:=((Da s.t).1,⟨(Da s.t).2.2,s.bad||decide ((Da s.t).2.1≠0)⟩)
def CQ(s:RB):Nat×RB:=((CP s.t).1,⟨(CP s.t).2.2,s.bad||decide ((CP s.t).2.1≠0)⟩)
def Df:Nat→RB×List Int→RB×List Int
 |0,x=>x
 |n+1,(s,l)=>if s.bad=true then(s,l)else Df n ((BK s).2,l++[(BK s).1])
theorem LU{s:RB}(h:(BK s).2.bad=false):s.bad=false∧s.t=Bg (BK s).1++(BK s).2.t∧CA (BK s).1:=by
 unfold BK at h⊢;simp only[Bool.or_eq_false_iff,decide_eq_false_iff_not,Decidable.not_not]at h;exact⟨h.1,(Q7 h.2).1,(Q7 h.2).2⟩
theorem Xc{s:RB}(h:(CQ s).2.bad=false):s.bad=false∧s.t=Ak (CQ s).1++(CQ s).2.t:=by
 unfold CQ at h⊢;simp only[Bool.or_eq_false_iff,decide_eq_false_iff_not,Decidable.not_not]at h;exact⟨h.1,W0 h.2⟩
theorem LS(z:Int)(r:AE)(h:CA z):BK ⟨Bg z++r,false⟩=(z,⟨r,false⟩):=by
 unfold BK;simp only[sL z r h];rfl
theorem Xb(m:Nat)(r:AE)(h:m<18446744073709551616):CQ ⟨Ak m++r,false⟩=(m,⟨r,false⟩):=by
 unfold CQ;simp only[Wy m r h];rfl
theorem Rq: ∀(n:Nat)(s:RB)(l:List Int),(Df n (s,l)).1.bad=false→s.bad=false
 |0,s,l,h=>h
 |n+1,s,l,h=>by
  cases hb:s.bad with
  |false=>rfl
  |true=>unfold Df at h;rw[if_pos hb]at h;rw[hb]at h;exact h
theorem Xi: ∀(n:Nat)(s:RB)(l:List Int),(Df n (s,l)).1.bad=false→ ∃m,m.length=n∧(Df n (s,l)).2=l++m∧s.t=Ci m++(Df n (s,l)).1.t∧ ∀z∈m,CA z
 |0,s,l,h=>⟨[],rfl,(BT l).symm,rfl,AB⟩
 |n+1,s,l,h=>by
  have hb:=Rq (n+1) s l h;unfold Df at h⊢;rw[if_neg (by rw[hb];nofun)]at h⊢;obtain⟨m,h1,h2,h3,h4⟩:=Xi n _ _ h;have hb2:=Rq n _ _ h;obtain⟨-,e1,r1⟩:=LU hb2;refine⟨(BK s).1::m,by simp[h1],by rw[h2];simp,?_,?_⟩
  ·conv=>lhs;rw[e1]
   rw[h3];simp only[Ci,A4,Dc,Aj]
  ·intro f hf;rcases As.1 hf with rfl|hf
   ·exact r1
   ·exact h4 f hf
theorem Xh: ∀(m:List Int)(r:AE)(l:List Int),(∀z∈m,CA z)→Df m.length (⟨Ci m++r,false⟩,l)=(⟨r,false⟩,l++m)
 |[],r,l,_=>by simp[Df,Ci]
 |f::m,r,l,h=>by
  have hf:=h f AB;rw[Ah];unfold Df;rw[if_neg nofun];have e:Ci (f::m)++r=Bg f++(Ci m++r):=by simp[Ci]
  rw[e];simp only[LS _ _ hf];rw[Xh m r _ λg hg=>h g (by simp[hg])];simp
end Go.Proofs.YtkgibdhpijdbfaaGreatDoor
namespace Go.Proofs.YtkgibdhpijdbfaaGreatDoor
open Go Go.Eng Go.Proofs
/-! ### A frame is read back-/
theorem RU(n:Nat)(l:List UInt8)(hn:n<4294967296):Co (B6 n++l)=n:=by
 have:Co (B6 n++l)=Co (B6 n):=rfl;rw[this,uX n hn]
theorem VU(pre p rest:AE)(hp:p.length≤65536):B7 (pre++(Dm p++rest)) pre.length=(p,pre.length+(8+p.length),0):=by
 have hd:(pre++(Dm p++rest)).drop pre.length=B6 p.length++(B6 (Fj [B6 p.length,p])++(p++rest)):=by
  rw[List.drop_left];simp[Dm]
 have hc:=(UI [B6 p.length,p]).2;unfold B7;rw[hd,RU _ _ AA];have h4:(B6 p.length++(B6 (Fj [B6 p.length,p])++(p++rest))).take 4=B6 p.length:=rfl;have h5:(B6 p.length++(B6 (Fj [B6 p.length,p])++(p++rest))).drop 4=B6 (Fj [B6 p.length,p])++(p++rest):=rfl;have h6:((B6 p.length++(B6 (Fj [B6 p.length,p])++(p++rest))).take (8+p.length)).drop 8=p:=by
  rw[List.drop_take];have:(B6 p.length++(B6 (Fj [B6 p.length,p])++(p++rest))).drop 8=p++rest:=rfl;rw[this,show 8+p.length-8=p.length by omega,List.take_left]
 rw[h4,h5,h6,RU _ _ hc,if_neg,if_neg,if_pos rfl]
 ·simp;omega
 ·simp[B6];omega
 ·simp[Dm,B6]
theorem Qm(t:AE)(k:Nat)(h:t.length<k+8):B7 t k=([],0,1):=by
 unfold B7;rw[if_pos h]
theorem Ry(tail:AE)(k:Nat): ∀(ps:List AE)(pre:AE)(fuel:Nat),Bb ps=true→ps.length<fuel→(B7 (pre++(AQ ps++tail)) (pre.length+(AQ ps).length)).2.2≠0→
  JA (pre++(AQ ps++tail)) fuel pre.length=(ps,pre.length+(AQ ps).length)
 |[],pre,fuel+1,_,_,h=>by
  simp only[JA];have:(B7 (pre++(AQ []++tail)) pre.length).2.2≠0:=h;rw[if_pos this];rfl
 |p::ps,pre,fuel+1,hok,hf,h=>by
  simp only[Bb,List.all_cons,Bool.and_eq_true,decide_eq_true_eq]at hok;have e1:pre++(AQ (p::ps)++tail)=pre++(Dm p++(AQ ps++tail)):=by simp[AQ]
  have e2:(AQ (p::ps)).length=8+p.length+(AQ ps).length:=by simp[AQ,Mp];omega
  have e3:pre++(AQ (p::ps)++tail)=(pre++Dm p)++(AQ ps++tail):=by rw[e1];simp
  have e4:(pre++Dm p).length=pre.length+(8+p.length):=by simp[Mp];omega
  simp only[JA];rw[e2,e3]at h;have ih:=Ry tail k ps (pre++Dm p) fuel (by simpa[Bb]using hok.2) (by simp at hf;omega) (by rw[e4,show pre.length+(8+p.length)+(AQ ps).length=pre.length+(8+p.length+(AQ ps).length) by omega];exact h);have e5:B7 (pre++(AQ (p::ps)++tail)) pre.length=(p,pre.length+(8+p.length),0):=by rw[e1];exact VU _ _ _ hok.1
  rw[e5];simp only[ne_eq,not_true_eq_false,if_false];rw[e3,←e4,ih,e4,e2];simp;omega
theorem IX(ps:List AE)(h:Bb ps=true):DU (AQ ps)=(ps,(AQ ps).length):=by
 have h0:(B7 ([]++(AQ ps++[])) (([]:AE).length+(AQ ps).length)).2.2≠0:=by
  rw[Qm _ _ AB];simp
 have h1:=Ry [] 0 ps [] ((AQ ps).length+1) h (by have:=Dr ps;omega) h0;simpa[DU]using h1
theorem NK(ps qs:List AE):AQ (ps++qs)=AQ ps++AQ qs:=by simp[AQ]
structure Ie(l:List AF):Prop where
 seq:Hc l
 sz:An l≤1099511627776
theorem Ie.part{a b c:List AF}(h:Ie (a++(b++c))):Ie b:=⟨λx hx=>h.seq x (by simp[hx]),by have:=h.sz;rw[G9,G9]at this;omega⟩
theorem OF: ∀(l:List AF)(last:AE),Ie l→last.length≤1099511627776→(Dv last l).length≤60*l.length+An l
 |[],_,_,_=>by simp[Dv]
 |x::l,last,h,hl=>by
  have e:An (x::l)=CR x+An l:=by simp[An]
  have hz:=h.sz;rw[e]at hz;have hx:CR x=x.k.length+x.v.length:=rfl;have h1:=lM last x AA AA hl (h.seq x CM);have h2:=OF l x.k ⟨λy hy=>h.seq y (CH _ hy),AA⟩ AA;rw[Dv,AP,e,Ah];omega
theorem Sm{w:World}{a:Option Addr}{c:Nat}{l:List AF}(ha:Arr w [] a (l.flatMap AU))(hr:Az l)(hf:Kg l)(hfit:Ie l)(hn:l.length≤1099511627):
  Cl Tryz.prog lW [.slice a l.length c] w λv w'=>v= .tuple ⟨[AG (E7 l),.int .i64 0]⟩∧St w [] [] w':=by
 have hS:=St.start w;refine dQ rfl ?_;refine jq ⟨?_⟩;refine MM.mono ?_;rintro _ w1⟨pb,L,rfl,hW,hS'⟩;have hS:=hS.callNew hS';rw[BT]at hS;refine jq ⟨?_⟩;refine hS.al ?_;intro wb w2 _ hS;(repeat(refine jt ⟨?_⟩;refine hS.q ?_;intro _ hS));refine jt ⟨?_⟩;refine hS.al ?_;intro b5 w3 _ hS;(repeat(refine jt ⟨?_⟩;refine hS.q ?_;intro _ hS));refine jt ⟨?_⟩;have hn10:=EO l.length AA;refine Cl.mono (Ge hW (hS.part (L:=L)) (ns:=[l.length]) (hS.arr (b:=b5) (Cu hS)) (by intro m hm;simp only[Cm]at hm;subst hm;omega) AB AB) ?_
 rintro _ w4⟨L1,hW,hS'⟩;have hS:=hS.call (L:=L) hS';have hS:=hS.sub (AS _ _);rw[show []++([l.length].map Ak).flatten=Ak l.length by simp]at hW;(repeat(refine jt ⟨?_⟩;refine hS.q ?_;intro _ hS));refine jt ⟨?_⟩;refine AM.loop (λi:Nat=>[(0,.slice a l.length c),(4,ptr wb),(19,.slice a l.length c),(20,.int .i64 l.length),(21,.int .i64 i)])
  (λi w'=>i≤l.length∧ ∃L,DK pb (Ak l.length++Dv [] (l.take i)) L∧St w [] ((wb,.cells ⟨[ptr pb,AG (CF [] (l.take i))]⟩ Gf (0,0))::L) w') (λi=>l.length-i) 0
  ⟨rfl,rfl,rfl,rfl,rfl,trivial⟩ ⟨Ag _,L1,by simpa[Dv]using hW,hS⟩ ?_
 clear hS hS' hW;rintro i w5⟨hi,L,hW,hS⟩;by_cases hil:i<l.length
 ·obtain⟨g,off,rfl,hx⟩:=FL ha hil;have hsucc:=Bq hil;have hfx:=hf l[i] (CW hil);have hsx:=hfit.seq l[i] (CW hil);have hzx:=Lj (CW hil);have hzx2:CR l[i]=l[i].k.length+l[i].v.length:=rfl;have hsz:=hfit.sz;have hft:Ie (l.take i):=⟨λy hy=>hfit.seq y (HJ hy),by have:=YY l i;omega⟩;have hel:=OF (l.take i) [] hft AB;have htl:(l.take i).length=i:=by rw[Ba];omega
  have hst:=YY l i;rw[htl]at hel;have hlk:(CF [] (l.take i)).length≤1099511627776:=by
   unfold CF
   split
   ·simp
   ·rename_i y hy;have:=Lj (HJ (K7 hy));have h2:CR y=y.k.length+y.v.length:=rfl;omega
  have hfin: ∀(L':AH)(w':World),DK pb (Ak l.length++Dv [] (l.take i)++GU (CF [] (l.take i)) l[i]) L'→St w [] ((wb,.cells ⟨[ptr pb,AG l[i].k]⟩ Gf (0,0))::L') w'→
    i+1≤l.length∧ ∃L,DK pb (Ak l.length++Dv [] (l.take (i+1))) L∧St w [] ((wb,.cells ⟨[ptr pb,AG (CF [] (l.take (i+1)))]⟩ Gf (0,0))::L) w':=by
   intro L' w' h1 h2;refine⟨hil,L',?_,?_⟩
   ·rw[hsucc,Uk,←Aj];exact h1
   ·rw[hsucc,RA];exact h2
  have hris: ∀(hp:0<i),CK l[i-1] l[i]=true:=λhp=>Jb.1 hr (i-1) i AA hil AA;have hpv: ∀(hp:0<i),∀(j:Nat)(v:Value),(AU l[i-1])[j]?=some v→w.cell? ⟨g,off+(i-1)*4+j,none⟩=some v:=λhp=>by
   obtain⟨g',o',h1,hy⟩:=FL ha (show i-1<l.length by omega);simp only[Option.some.injEq,Addr.mk.injEq,and_true]at h1;obtain⟨rfl,rfl⟩:=h1;exact hy
  generalize hu:l[i]=u at hx hfx hsx hzx hzx2 hfin hris;have hent:=λ(w:World)(pb' wb':Nat)(bs last:AE)(L:AH)(h1:DK pb' bs L)=>lP (w:=w) (wb:=wb') (x:=u) (last:=last) h1;obtain⟨uk,us,ud,uv⟩:=u;simp only at hfx hsx hzx2;unfold B9 AU at hent;simp only at hent;cases ud with
  |true=>
   obtain rfl:uv=[]:=hfx rfl;refine jq ⟨?_⟩;refine IP (cs:=[AG uk,.int .i64 us,.bool true,AG []]) rfl (λj x hj=>hS.oldCell AB (by have:=hx j x hj;rw[show off+((i:Int)).toNat*4+j=off+i*4+j by omega];exact this)) ?_;refine jq ⟨?_⟩;refine hS.al ?_;intro b6 w6 _ hS;(repeat(refine jt ⟨?_⟩;refine hS.q ?_;intro _ hS));refine jt ⟨?_⟩;by_cases h0:0<i
   ·have hris:=hris h0;have hpv:=hpv h0;generalize l[i-1]=v at hris hpv;have hrs:=λw=>Rw v ⟨uk,us,true,[]⟩ w;unfold B9 AU at hrs;rw[hris]at hrs;refine AM.draw AK mixed (λw'=>St w _ _ w') [] [0,1,2,3,4,5,6,7,8,9,10,11,12,13,14,15,16,17,18,19,20] AD hS.drew ?_;have hS:=hS.drew;refine jr ⟨?_⟩;refine Jf (cs:=[AG v.k,.int .i64 v.s,.bool v.d,AG v.v]) rfl (λw' hw j x hj=>hw.oldCell AB (by have:=hpv j x hj;rw[show off+((i:Int)-1).toNat*4+j=off+(i-1)*4+j by omega];exact this)) ?_
    refine jr ⟨?_⟩;refine(hrs _).mono ?_;rintro _ w7⟨rfl,hS'⟩;have hS:=hS.call0 hS';refine Ae.mk hS ?_;refine jr ⟨?_⟩;(repeat(refine jt ⟨?_⟩;refine hS.q ?_;intro _ hS));refine jt ⟨?_⟩;refine(hent _ _ _ _ _ _ hW (hS.part (L:=(wb,.cells ⟨[ptr pb,AG (CF [] (l.take i))]⟩ Gf (0,0))::L)) AA (by first|omega|simp) hlk hsx (by rw[AP];omega)).mono ?_;rintro _ w8⟨L8,hW8,hS'⟩;have hS:=hS.call (L:=(wb,.cells ⟨[ptr pb,AG (CF [] (l.take i))]⟩ Gf (0,0))::L) hS'
    refine jq ⟨?_⟩;exact⟨i+1,⟨rfl,rfl,rfl,rfl,rfl,trivial⟩,hfin L8 w8 hW8 (hS.sub (AS _ _)),AA⟩
   ·refine AM.draw AK mixed (λw'=>St w _ _ w') [] [0,1,2,3,4,5,6,7,8,9,10,11,12,13,14,15,16,17,18,19,20] AD hS.drew ?_;have hS:=hS.drew;refine jr ⟨?_⟩;(repeat(refine jt ⟨?_⟩;refine hS.q ?_;intro _ hS));refine jt ⟨?_⟩;refine(hent _ _ _ _ _ _ hW (hS.part (L:=(wb,.cells ⟨[ptr pb,AG (CF [] (l.take i))]⟩ Gf (0,0))::L)) AA (by first|omega|simp) hlk hsx (by rw[AP];omega)).mono ?_;rintro _ w8⟨L8,hW8,hS'⟩;have hS:=hS.call (L:=(wb,.cells ⟨[ptr pb,AG (CF [] (l.take i))]⟩ Gf (0,0))::L) hS'
    refine jq ⟨?_⟩;exact⟨i+1,⟨rfl,rfl,rfl,rfl,rfl,trivial⟩,hfin L8 w8 hW8 (hS.sub (AS _ _)),AA⟩
  |false=>
   refine jq ⟨?_⟩;refine IP (cs:=[AG uk,.int .i64 us,.bool false,AG uv]) rfl (λj x hj=>hS.oldCell AB (by have:=hx j x hj;rw[show off+((i:Int)).toNat*4+j=off+i*4+j by omega];exact this)) ?_;refine jq ⟨?_⟩;refine hS.al ?_;intro b6 w6 _ hS;(repeat(refine jt ⟨?_⟩;refine hS.q ?_;intro _ hS));refine jt ⟨?_⟩;by_cases h0:0<i
   ·have hris:=hris h0;have hpv:=hpv h0;generalize l[i-1]=v at hris hpv;have hrs:=λw=>Rw v ⟨uk,us,false,uv⟩ w;unfold B9 AU at hrs;rw[hris]at hrs;refine AM.draw AK mixed (λw'=>St w _ _ w') [] [0,1,2,3,4,5,6,7,8,9,10,11,12,13,14,15,16,17,18,19,20] AD hS.drew ?_;have hS:=hS.drew;refine jr ⟨?_⟩;refine Jf (cs:=[AG v.k,.int .i64 v.s,.bool v.d,AG v.v]) rfl (λw' hw j x hj=>hw.oldCell AB (by have:=hpv j x hj;rw[show off+((i:Int)-1).toNat*4+j=off+(i-1)*4+j by omega];exact this)) ?_
    refine jr ⟨?_⟩;refine(hrs _).mono ?_;rintro _ w7⟨rfl,hS'⟩;have hS:=hS.call0 hS';refine Ae.mk hS ?_;refine jr ⟨?_⟩;(repeat(refine jt ⟨?_⟩;refine hS.q ?_;intro _ hS));refine jt ⟨?_⟩;refine(hent _ _ _ _ _ _ hW (hS.part (L:=(wb,.cells ⟨[ptr pb,AG (CF [] (l.take i))]⟩ Gf (0,0))::L)) AA (by first|omega|simp) hlk hsx (by rw[AP];omega)).mono ?_;rintro _ w8⟨L8,hW8,hS'⟩;have hS:=hS.call (L:=(wb,.cells ⟨[ptr pb,AG (CF [] (l.take i))]⟩ Gf (0,0))::L) hS'
    refine jq ⟨?_⟩;exact⟨i+1,⟨rfl,rfl,rfl,rfl,rfl,trivial⟩,hfin L8 w8 hW8 (hS.sub (AS _ _)),AA⟩
   ·refine AM.draw AK mixed (λw'=>St w _ _ w') [] [0,1,2,3,4,5,6,7,8,9,10,11,12,13,14,15,16,17,18,19,20] AD hS.drew ?_;have hS:=hS.drew;refine jr ⟨?_⟩;(repeat(refine jt ⟨?_⟩;refine hS.q ?_;intro _ hS));refine jt ⟨?_⟩;refine(hent _ _ _ _ _ _ hW (hS.part (L:=(wb,.cells ⟨[ptr pb,AG (CF [] (l.take i))]⟩ Gf (0,0))::L)) AA (by first|omega|simp) hlk hsx (by rw[AP];omega)).mono ?_;rintro _ w8⟨L8,hW8,hS'⟩;have hS:=hS.call (L:=(wb,.cells ⟨[ptr pb,AG (CF [] (l.take i))]⟩ Gf (0,0))::L) hS'
    refine jq ⟨?_⟩;exact⟨i+1,⟨rfl,rfl,rfl,rfl,rfl,trivial⟩,hfin L8 w8 hW8 (hS.sub (AS _ _)),AA⟩
 ·obtain rfl:i=l.length:=AA;rw[Bz]at hW;(repeat(refine jt ⟨?_⟩;refine hS.q ?_;intro _ hS));refine jt ⟨?_⟩;refine Cl.mono (ME hW (hS.part (L:=L))) ?_;rintro _ w6⟨rfl,hS'⟩;have hS:=hS.call (L:=L) hS';refine jq ⟨?_⟩;exact⟨rfl,hS.nil⟩
structure B8(l:List AF):Prop where
 len:l.length≤64
 rise:Az l
 fine:Kg l
 seqs:Hc l
 sz: ∀x∈l,CR x≤4096
def B5(l:List AF):AE:=AQ (EB l)
theorem PG(n:Nat): ∀m:List AF,(∀x∈m,CR x≤n)→An m≤n*m.length
 |[],_=>by simp[An]
 |x::m,h=>by
  rw[SB,Ah];have:=h x CM;have:=PG n m λy hy=>h y (CH _ hy);rw[Nat.mul_succ];omega
theorem B8.szs{l:List AF}(h:B8 l):An l≤262144:=by
 have:=PG 4096 l h.sz;have:=h.len;omega
theorem B8.fit{l:List AF}(h:B8 l):Ie l:=⟨h.seqs,by have:=h.szs;omega⟩
theorem B8.sub{l m:List AF}(h:B8 l)(hs:m.Sublist l):B8 m:=
 ⟨Au hs.length_le h.len,h.rise.sublist hs,λx hx=>h.fine x (hs.mem hx),λx hx=>h.seqs x (hs.mem hx),λx hx=>h.sz x (hs.mem hx)⟩
theorem B8.piece{l:List AF}(h:B8 l)(i:Nat):B8 ((l.drop (i*8)).take 8):=h.sub ((List.take_sublist _ _).trans (List.drop_sublist _ _))
theorem B8.ok{l:List AF}(h:B8 l):Bb (EB l)=true:=by
 unfold Bb;rw[Db];intro p hp;exact decide_eq_true (Yb h.len h.seqs h.sz p hp)
theorem B8.cnt{l:List AF}(h:B8 l):(AR 8 l).length≤8:=by
 rw[Jj];have:=h.len;omega
theorem B8.pcnt{l:List AF}(h:B8 l):(EB l).length≤11:=by
 have:=h.cnt;simp only[EB,AP,BZ,Ah,Bv];omega
theorem R8(n:Nat): ∀ps:List AE,(∀p∈ps,p.length≤n)→BG ps≤n*ps.length
 |[],_=>by simp[BG]
 |p::ps,h=>by
  have h1:=h p CM;have h2:=R8 n ps λq hq=>h q (CH _ hq);simp only[BG,A4,HK,Ah]at h2⊢;rw[Nat.mul_succ];omega
theorem B8.sum{l:List AF}(h:B8 l):BG (EB l)≤720896:=by
 have h1:=R8 65536 (EB l) (Yb h.len h.seqs h.sz);have h2:=h.pcnt;omega
theorem B8.bytes{l:List AF}(h:B8 l):(B5 l).length≤1048576:=by
 have h1:=h.sum;have h2:=h.pcnt;unfold B5;rw[Dr];omega
theorem B8.idx{l:List AF}(h:B8 l)(i:Nat):(DZ ((AR 8 l).take i) (AR 8 l).length).1.length≤1048576∧(DZ ((AR 8 l).take i) (AR 8 l).length).2≤1048576:=by
 have h0:=h.cnt;have h1:=h.szs;have h2:=h.len;have hf:((AR 8 l).take i).flatten.Sublist l:=by
  rcases Nat.le_total i (AR 8 l).length with hi|hi
  ·rw[Oz AA l i hi];exact List.take_sublist _ _
  ·rw[HL hi,KM AA];exact List.Sublist.refl _
 have hs:=h.sub hf;have h3:=hs.szs;have h4:=hs.len;have h5:((AR 8 l).take i).length≤8:=by rw[Ba];omega
 have:=Q5 ((AR 8 l).take i) (AR 8 l).length AA hs.seqs AA;omega
theorem B8.block{l:List AF}(h:B8 l):(E7 l).length≤1048576:=by
 have h1:=h.szs;have h2:=h.len;have:=P8 (l:=l) h.seqs AA AA;omega
theorem sY{c:List AF}(h:0<c.length):CF [] c=(c[c.length-1]'AA).k:=by
 unfold CF;rw[List.getLast?_eq_getElem?,CB AA]
theorem uF{l:List AF}(h:B8 l): ∀k∈Cb l,k.length≤4096:=by
 intro k hk;obtain⟨x,hx,rfl⟩:=uE l k hk;have:=h.sz x hx;unfold CR at this;omega
theorem Tu(ks:List AE)(h:ks.length≤64):(Dt ks).length≤65536:=by
 cases ks with
 |nil=>simp[Dt]
 |cons k ks=>
  have e:Dt (k::ks)=(Gh (k::ks)).map UInt8.ofNat:=rfl;rw[e,BZ,P9];simp at h;simp;omega
theorem dN{args:List Value}{w:World}{R:Value→World→Prop}(hlen:Nat.ble args.length 59=true)(h:EF Tryz.prog 59 (Tryz.f96.body.getD .skip) (LX NR [.cell 8 56,.cell 9 61,.cell 10 33] R) (HG 0 args) w):Cl Tryz.prog 96 args w R:=
 Cl.enterX AK Tryz.call96 Tryz.func96 Tryz.ntmps96 rfl Tryz.results96 hlen h
theorem dO{args:List Value}{w:World}{R:Value→World→Prop}(hlen:Nat.ble args.length 87=true)(h:EF Tryz.prog 87 (Tryz.f130.body.getD .skip) (LX NR [.tmp 2,.tmp 3] R) (HG 0 args) w):Cl Tryz.prog 130 args w R:=
 Cl.enterX AK Tryz.call130 Tryz.func130 Tryz.ntmps130 rfl Tryz.results130 hlen h
theorem dM{args:List Value}{w:World}{R:Value→World→Prop}(hlen:Nat.ble args.length 13=true)(h:EF Tryz.prog 13 (Tryz.f144.body.getD .skip) (LX NR [.tmp 4] R) (HG 0 args) w):Cl Tryz.prog 144 args w R:=
 Cl.enterX AK Tryz.call144 Tryz.func144 Tryz.ntmps144 rfl Tryz.results144 hlen h
theorem bZ: ∀(args:Array Value)(w:World),(callFunc 145 args).run Tryz.prog w= .ok (.enter 145 args) w:=Tryz.call145
theorem T1: ∀(args:Array Value)(w:World),(callFunc 182 args).run Tryz.prog w= .ok (.enter 182 args) w:=Tryz.call182
def Lu(t:AE):AE×Int×AE:=match PM t with
 |some (s,r)=>(s,0,r)
 |none=>([],1,t)
theorem Ni{w:World}{b:Nat}{t:AE}(hh:Holds [(b,A6 t)] w)(ht:t.length≤70368744177664):
  Cl Tryz.prog oD [ptr b] w λv w'=>v= .tuple ⟨[AG (Lu t).1,.int .i64 (Lu t).2.1]⟩∧St w [b] [(b,A6 (Lu t).2.2)] w':=by
 have hS:St w [b] [(b,A6 t)] w:=St.enter hh;refine gI rfl ?_;(repeat(refine jt ⟨?_⟩;refine hS.q ?_;intro _ hS));refine jt ⟨?_⟩;refine Cl.mono (JK hh ht) ?_;rintro _ w1⟨rfl,hS1⟩;have hlt:=LI t;have hln:=LH t;unfold Lu PM;cases h:Hw t with
 |none=>
  have hn:CP t=(0,1,t):=by unfold CP;rw[h]
  rw[hn]at hS1⊢;simp only at hS1⊢;have hS:=hS1;(repeat(refine jt ⟨?_⟩;refine hS.q ?_;intro _ hS));refine jt ⟨?_⟩;exact⟨rfl,hS⟩
 |some x=>
  obtain⟨m,r⟩:=x;have hn:CP t=(m,0,r):=by unfold CP;rw[h]
  rw[hn]at hS1 hlt hln⊢;simp only at hS1 hlt hln⊢;have hS:=hS1;by_cases hm:r.length<m
  ·rw[if_pos hm];(repeat(refine jt ⟨?_⟩;refine hS.q ?_;intro _ hS));refine jt ⟨?_⟩;exact⟨rfl,hS⟩
  ·rw[if_neg hm];(repeat(refine jt ⟨?_⟩;refine hS.q ?_;intro _ hS));refine jt ⟨?_⟩;exact⟨rfl,hS⟩
end Go.Proofs.YtkgibdhpijdbfaaGreatDoor
