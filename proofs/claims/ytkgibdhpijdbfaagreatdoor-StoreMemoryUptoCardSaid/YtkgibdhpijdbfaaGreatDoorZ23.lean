/- Texts of this claim, one behind the other. -/
import Derived.Test.YtkgibdhpijdbfaaGreatDoorZ12
import Derived.Test.YtkgibdhpijdbfaaGreatDoorZ20
import Derived.Test.YtkgibdhpijdbfaaGreatDoorZ18
import Derived.Test.YtkgibdhpijdbfaaGreatDoorZ16
import Derived.Test.YtkgibdhpijdbfaaGreatDoorZ22
import Derived.Test.YtkgibdhpijdbfaaGreatDoorZ13
set_option linter.unusedVariables false
set_option linter.unusedSimpArgs false
set_option maxHeartbeats 16000000
namespace Go.Proofs.YtkgibdhpijdbfaaGreatDoor
open Go Go.Eng
theorem Lk{z:Int}(h:CA z):Ed z<18446744073709551616:=by
 unfold CA at h;unfold Ed;split<;>omega
theorem W9{z:Int}(h:Ed z<18446744073709551616):CA z:=by
 unfold Ed at h;unfold CA;split at h<;>omega
theorem Ww(m:Nat)(r:AE)(h:m<18446744073709551616):CQ (Ak m++r)=(m,0,r):=by
 unfold CQ;rw[(Ja _ m r).2 ⟨rfl,h⟩]
theorem sK(z:Int)(r:AE)(h:CA z):Db (Bh z++r)=(z,0,r):=by
 unfold Db Bh;rw[Ww _ _ (Lk h),Yk]
theorem Wy{t:AE}(h:(CQ t).2.1=0):t=Ak (CQ t).1++(CQ t).2.2:=by
 unfold CQ at h⊢;cases e:Hv t with
 |none=>rw[e]at h;cases h
 |some x=>obtain⟨m,r⟩:=x;exact((Ja t m r).1 e).1
theorem Wx(t:AE):(CQ t).2.1=0∨(CQ t).2.1=1:=by
 unfold CQ;cases Hv t with
 |none=>exact .inr rfl
 |some x=>exact .inl rfl
theorem Q8{t:AE}(h:(Db t).2.1=0):t=Bh (Db t).1++(Db t).2.2∧CA (Db t).1:=by
 have h1:=Wy h;have h2:=K9 t;unfold Db Bh;simp only;rw[Sd];exact⟨h1,W9 (by rw[Sd];exact h2)⟩
theorem sL(t:AE):(Db t).2.1=0∨(Db t).2.1=1:=Wx t
theorem Kx(t:AE):(Db t).2.2.length≤t.length:=K8 t
theorem V3{t:AE}(h:(Db t).2.1=0):(Db t).2.2.length+1≤t.length:=by
 have h1:=congrArg List.length (Q8 h).1;have h2:=K7 (Ed (Db t).1);rw[AP]at h1;unfold Bh at h1;omega
structure RB where
 t:AE
 bad:Bool
def BL(s:RB):Int×RB:=((Db s.t).1,⟨(Db s.t).2.2,s.bad||decide ((Db s.t).2.1≠0)⟩)
def CR(s:RB):Nat×RB:=((CQ s.t).1,⟨(CQ s.t).2.2,s.bad||decide ((CQ s.t).2.1≠0)⟩)
def Df:Nat→RB×List Int→RB×List Int
 |0,x=>x
 |n+1,(s,l)=>if s.bad=true then(s,l)else Df n ((BL s).2,l++[(BL s).1])
theorem LL{s:RB}(h:(BL s).2.bad=false):s.bad=false∧s.t=Bh (BL s).1++(BL s).2.t∧CA (BL s).1:=by
 unfold BL at h⊢;simp only[Bool.or_eq_false_iff,decide_eq_false_iff_not,Decidable.not_not]at h;exact⟨h.1,(Q8 h.2).1,(Q8 h.2).2⟩
theorem XZ{s:RB}(h:(CR s).2.bad=false):s.bad=false∧s.t=Ak (CR s).1++(CR s).2.t:=by
 unfold CR at h⊢;simp only[Bool.or_eq_false_iff,decide_eq_false_iff_not,Decidable.not_not]at h;exact⟨h.1,Wy h.2⟩
theorem LK(z:Int)(r:AE)(h:CA z):BL ⟨Bh z++r,false⟩=(z,⟨r,false⟩):=by
 unfold BL;simp only[sK z r h];rfl
theorem XY(m:Nat)(r:AE)(h:m<18446744073709551616):CR ⟨Ak m++r,false⟩=(m,⟨r,false⟩):=by
 unfold CR;simp only[Ww m r h];rfl
theorem Rs: ∀(n:Nat)(s:RB)(l:List Int),(Df n (s,l)).1.bad=false→s.bad=false
 |0,s,l,h=>h
 |n+1,s,l,h=>by
  cases hb:s.bad with
  |false=>rfl
  |true=>unfold Df at h;rw[if_pos hb]at h;rw[hb]at h;exact h
theorem Xf: ∀(n:Nat)(s:RB)(l:List Int),(Df n (s,l)).1.bad=false→ ∃m,m.length=n∧(Df n (s,l)).2=l++m∧s.t=Ci m++(Df n (s,l)).1.t∧ ∀z∈m,CA z
 |0,s,l,h=>⟨[],rfl,(BU l).symm,rfl,AB⟩
 |n+1,s,l,h=>by
  have hb:=Rs (n+1) s l h;unfold Df at h⊢;rw[if_neg (by rw[hb];nofun)]at h⊢;obtain⟨m,h1,h2,h3,h4⟩:=Xf n _ _ h;have hb2:=Rs n _ _ h;obtain⟨-,e1,r1⟩:=LL hb2;refine⟨(BL s).1::m,by simp[h1],by rw[h2];simp,?_,?_⟩
  ·conv=>lhs;rw[e1]
   rw[h3];simp only[Ci,A4,Dc,Aj]
  ·intro f hf;rcases As.1 hf with rfl|hf
   ·exact r1
   ·exact h4 f hf
theorem Xe: ∀(m:List Int)(r:AE)(l:List Int),(∀z∈m,CA z)→Df m.length (⟨Ci m++r,false⟩,l)=(⟨r,false⟩,l++m)
 |[],r,l,_=>by simp[Df,Ci]
 |f::m,r,l,h=>by
  have hf:=h f AB;rw[Ai];unfold Df;rw[if_neg nofun];have e:Ci (f::m)++r=Bh f++(Ci m++r):=by simp[Ci]
  rw[e];simp only[LK _ _ hf];rw[Xe m r _ λg hg=>h g (by simp[hg])];simp
end Go.Proofs.YtkgibdhpijdbfaaGreatDoor
namespace Go.Proofs.YtkgibdhpijdbfaaGreatDoor
open Go Go.Eng Go.Proofs
theorem lL(last:AE)(x:AF)(hk:x.k.length≤1099511627776)(hv:x.v.length≤1099511627776)(hl:last.length≤1099511627776)(hs:CA x.s):(GU last x).length≤60+x.k.length+x.v.length:=by
 have h1:=NE last x.k;have h2:=EP (Dh last x.k) AA;have h3:=EP (x.k.drop (Dh last x.k)).length (by rw[Do];omega);have h4:=EP x.v.length AA;have h5:=EP 0 AA;have h6:=EP 1 AA;have h7:=OU [x.s] (λz hz=>by simp only[Cm]at hz;subst hz;exact hs);have h8:(Bh x.s).length≤10:=by simpa[Ci]using h7
 unfold GU Be;rw[Do]at h3
 split<;>simp only[AP,Do]<;>omega
theorem lO{w:World}{wb pb:Nat}{bs last:AE}{L:AH}{x:AF}(hW:DO pb bs L)(hh:Holds ((wb,.cells ⟨[ptr pb,AG last]⟩ Gi (0,0))::L) w)
  (hk:x.k.length≤1099511627776)(hv:x.v.length≤1099511627776)(hl:last.length≤1099511627776)(hs:CA x.s)(hb:bs.length≤70368744177664):
  Cl Tryz.prog l9 [ptr wb,B9 x] w λ_ w'=>∃L',DO pb (bs++GU last x) L'∧St w (wb::keys L) ((wb,.cells ⟨[ptr pb,AG x.k]⟩ Gi (0,0))::L') w':=by
 have hS:=St.enter hh;have hsh:=NE last x.k;have hn10:=EP (Dh last x.k) AA;unfold GU;generalize hT:keys ((wb,Obj.cells ⟨[ptr pb,AG last]⟩ Gi (0,0))::L)=T0 at hS;have hT':wb::keys L=T0:=hT;rw[hT'];unfold B9 AU;refine dS rfl ?_;refine jq ⟨?_⟩;refine hS.al ?_;intro b3 w1 _ hS;refine jq ⟨?_⟩;refine AL.draw AK mixed (λw'=>St w _ _ w') [6,7] [0,1,2,3,4,5,6,7] AD hS.drew ?_;have hS:=hS.drew;refine jr ⟨?_⟩
 refine(TO last x.k hl hk _).mono ?_;rintro _ w2⟨rfl,hS'⟩;have hS:=hS.call0 hS';generalize Dh last x.k=n at hsh hn10⊢;refine jr ⟨?_⟩;(repeat(refine jt ⟨?_⟩;refine hS.q ?_;intro _ hS));refine jt ⟨?_⟩;refine hS.al ?_;intro b5 w3 _ hS;(repeat(refine jt ⟨?_⟩;refine hS.q ?_;intro _ hS));refine jt ⟨?_⟩;refine Cl.mono (Gg hW (hS.part (L:=L)) (ns:=[n]) (hS.arr (b:=b5) (Cp hS)) (by intro m hm;simp only[Cm]at hm;subst hm;omega) AB (by simp;omega)) ?_
 rintro _ w4⟨L1,hW,hS'⟩;have hS:=hS.call (L:=L) hS';have hS:=hS.sub (AS _ _);rw[show([n].map Ak).flatten=Ak n by simp]at hW;(repeat(refine jt ⟨?_⟩;refine hS.q ?_;intro _ hS));refine jt ⟨?_⟩;refine AL.draw AK mixed (λw'=>St w _ _ w') [9] [0,1,2,3,4,5,6,7,8,9] AD hS.drew ?_;have hS:=hS.drew;refine jr ⟨?_⟩;rw[show((n:Int)).toNat=n by omega];refine hS.al ?_;intro b6 w5 _ hS;refine Ae.mk (hS.sub (AS _ _)) ?_
 refine jr ⟨?_⟩;have hdl:(x.k.drop n).length=x.k.length-n:=Do;refine Cl.mono (MO hW (hS.part (L:=L1)) (ss:=[x.k.drop n]) (hS.arr (b:=b6) (Cp hS)) (by simp[BG];omega)) ?_;rintro _ w6⟨L2,hW,hS'⟩;have hS:=hS.call (L:=L1) hS';have hS:=hS.sub (AS _ _);rw[show E3 [x.k.drop n]=Be (x.k.drop n) by simp[E3]]at hW;refine jr ⟨?_⟩;(repeat(refine jt ⟨?_⟩;refine hS.q ?_;intro _ hS));refine jt ⟨?_⟩;refine AL.draw AK mixed (λw'=>St w _ _ w') [7] [0,1,2,3,4,5,6,7] AD hS.drew ?_
 have hS:=hS.drew;refine jr ⟨?_⟩;refine hS.al ?_;intro b7 w7 _ hS;refine Ae.mk (hS.sub (AS _ _)) ?_;refine jr ⟨?_⟩;have htl:(Be (x.k.drop n)).length≤10+x.k.length:=by
  have:=EP (x.k.length-n) AA;unfold Be;rw[AP,hdl];omega
 refine Cl.mono (MF hW (hS.part (L:=L2)) (zs:=[x.s]) (hS.arr (b:=b7) (Cp hS)) (λz hz=>by simp only[Cm]at hz;subst hz;exact hs) AB (by simp only[AP,Ai,Bo];omega)) ?_;rintro _ w8⟨L3,hW,hS'⟩;have hS:=hS.call (L:=L2) hS';have hS:=hS.sub (AS _ _);have hil:=OU [x.s] (λz hz=>by simp only[Cm]at hz;subst hz;exact hs);simp only[Ai,Bo]at hil;rw[show Ci [x.s]=Bh x.s by simp[Ci]]at hW hil;refine jr ⟨?_⟩;cases hd:x.d with
 |true=>
  rw[hd]at hS;(repeat(refine jt ⟨?_⟩;refine hS.q ?_;intro _ hS));refine jt ⟨?_⟩;refine hS.al ?_;intro b8 w9 _ hS;(repeat(refine jt ⟨?_⟩;refine hS.q ?_;intro _ hS));refine jt ⟨?_⟩;refine Cl.mono (Gg hW (hS.part (L:=L3)) (ns:=[1]) (hS.arr (b:=b8) (Cp hS)) (by intro m hm;simp only[Cm]at hm;subst hm;omega) AB (by simp only[AP,Ai,Bo];omega)) ?_;rintro _ w10⟨L4,hW,hS'⟩;have hS:=hS.call (L:=L3) hS';have hS:=hS.sub (AS _ _)
  rw[show([1].map Ak).flatten=Ak 1 by simp]at hW;(repeat(refine jt ⟨?_⟩;refine hS.q ?_;intro _ hS));refine jt ⟨?_⟩;refine⟨L4,?_,hS.sub (AS _ _)⟩;simpa using hW
 |false=>
  rw[hd]at hS;(repeat(refine jt ⟨?_⟩;refine hS.q ?_;intro _ hS));refine jt ⟨?_⟩;refine hS.al ?_;intro b8 w9 _ hS;(repeat(refine jt ⟨?_⟩;refine hS.q ?_;intro _ hS));refine jt ⟨?_⟩;refine Cl.mono (Gg hW (hS.part (L:=L3)) (ns:=[0]) (hS.arr (b:=b8) (Cp hS)) (by intro m hm;simp only[Cm]at hm;subst hm;omega) AB (by simp only[AP,Ai,Bo];omega)) ?_;rintro _ w10⟨L4,hW,hS'⟩;have hS:=hS.call (L:=L3) hS';have hS:=hS.sub (AS _ _)
  have hz0:=EP 0 AA;rw[show([0].map Ak).flatten=Ak 0 by simp]at hW;(repeat(refine jt ⟨?_⟩;refine hS.q ?_;intro _ hS));refine jt ⟨?_⟩;refine AL.draw AK mixed (λw'=>St w _ _ w') [7] [0,1,2,3,4,5,6,7] AD hS.drew ?_;have hS:=hS.drew;refine jr ⟨?_⟩;refine hS.al ?_;intro b9 w11 _ hS;refine Ae.mk (hS.sub (AS _ _)) ?_;refine jr ⟨?_⟩;refine Cl.mono (MO hW (hS.part (L:=L4)) (ss:=[x.v]) (hS.arr (b:=b9) (Cp hS)) (by simp only[AP,Ai,Bo,BG,A4,kC,HL,List.sum_nil];omega)) ?_
  rintro _ w12⟨L5,hW,hS'⟩;have hS:=hS.call (L:=L4) hS';have hS:=hS.sub (AS _ _);rw[show E3 [x.v]=Be x.v by simp[E3]]at hW;refine jr ⟨?_⟩;(repeat(refine jt ⟨?_⟩;refine hS.q ?_;intro _ hS));refine jt ⟨?_⟩;refine⟨L5,?_,hS.sub (AS _ _)⟩;simpa using hW
structure If(l:List AF):Prop where
 seq:Hf l
 sz:An l≤1099511627776
theorem If.part{a b c:List AF}(h:If (a++(b++c))):If b:=⟨λx hx=>h.seq x (by simp[hx]),by have:=h.sz;rw[G9,G9]at this;omega⟩
theorem OA: ∀(l:List AF)(last:AE),If l→last.length≤1099511627776→(Dw last l).length≤60*l.length+An l
 |[],_,_,_=>by simp[Dw]
 |x::l,last,h,hl=>by
  have e:An (x::l)=CS x+An l:=by simp[An]
  have hz:=h.sz;rw[e]at hz;have hx:CS x=x.k.length+x.v.length:=rfl;have h1:=lL last x AA AA hl (h.seq x CN);have h2:=OA l x.k ⟨λy hy=>h.seq y (CJ _ hy),AA⟩ AA;rw[Dw,AP,e,Ai];omega
theorem Sq{w:World}{a:Option Addr}{c:Nat}{l:List AF}(ha:Arr w [] a (l.flatMap AU))(hr:Az l)(hf:KY l)(hfit:If l)(hn:l.length≤1099511627):
  Cl Tryz.prog lV [.slice a l.length c] w λv w'=>v= .tuple ⟨[AG (E8 l),.int .i64 0]⟩∧St w [] [] w':=by
 have hS:=St.start w;refine dM rfl ?_;refine jq ⟨?_⟩;refine MH.mono ?_;rintro _ w1⟨pb,L,rfl,hW,hS'⟩;have hS:=hS.callNew hS';rw[BU]at hS;refine jq ⟨?_⟩;refine hS.al ?_;intro wb w2 _ hS;(repeat(refine jt ⟨?_⟩;refine hS.q ?_;intro _ hS));refine jt ⟨?_⟩;refine hS.al ?_;intro b5 w3 _ hS;(repeat(refine jt ⟨?_⟩;refine hS.q ?_;intro _ hS));refine jt ⟨?_⟩;have hn10:=EP l.length AA;refine Cl.mono (Gg hW (hS.part (L:=L)) (ns:=[l.length]) (hS.arr (b:=b5) (Cp hS)) (by intro m hm;simp only[Cm]at hm;subst hm;omega) AB AB) ?_
 rintro _ w4⟨L1,hW,hS'⟩;have hS:=hS.call (L:=L) hS';have hS:=hS.sub (AS _ _);rw[show []++([l.length].map Ak).flatten=Ak l.length by simp]at hW;(repeat(refine jt ⟨?_⟩;refine hS.q ?_;intro _ hS));refine jt ⟨?_⟩;refine AL.loop (λi:Nat=>[(0,.slice a l.length c),(4,ptr wb),(19,.slice a l.length c),(20,.int .i64 l.length),(21,.int .i64 i)])
  (λi w'=>i≤l.length∧ ∃L,DO pb (Ak l.length++Dw [] (l.take i)) L∧St w [] ((wb,.cells ⟨[ptr pb,AG (CF [] (l.take i))]⟩ Gi (0,0))::L) w') (λi=>l.length-i) 0
  ⟨rfl,rfl,rfl,rfl,rfl,trivial⟩ ⟨Ag _,L1,by simpa[Dw]using hW,hS⟩ ?_
 clear hS hS' hW;rintro i w5⟨hi,L,hW,hS⟩;by_cases hil:i<l.length
 ·obtain⟨g,off,rfl,hx⟩:=FO ha hil;have hsucc:=Bs hil;have hfx:=hf l[i] (Ca hil);have hsx:=hfit.seq l[i] (Ca hil);have hzx:=LV (Ca hil);have hzx2:CS l[i]=l[i].k.length+l[i].v.length:=rfl;have hsz:=hfit.sz;have hft:If (l.take i):=⟨λy hy=>hfit.seq y (HN hy),by have:=YS l i;omega⟩;have hel:=OA (l.take i) [] hft AB;have htl:(l.take i).length=i:=by rw[BR];omega
  have hst:=YS l i;rw[htl]at hel;have hlk:(CF [] (l.take i)).length≤1099511627776:=by
   unfold CF
   split
   ·simp
   ·rename_i y hy;have:=LV (HN (K0 hy));have h2:CS y=y.k.length+y.v.length:=rfl;omega
  have hfin: ∀(L':AH)(w':World),DO pb (Ak l.length++Dw [] (l.take i)++GU (CF [] (l.take i)) l[i]) L'→St w [] ((wb,.cells ⟨[ptr pb,AG l[i].k]⟩ Gi (0,0))::L') w'→
    i+1≤l.length∧ ∃L,DO pb (Ak l.length++Dw [] (l.take (i+1))) L∧St w [] ((wb,.cells ⟨[ptr pb,AG (CF [] (l.take (i+1)))]⟩ Gi (0,0))::L) w':=by
   intro L' w' h1 h2;refine⟨hil,L',?_,?_⟩
   ·rw[hsucc,Ul,←Aj];exact h1
   ·rw[hsucc,RC];exact h2
  have hris: ∀(hp:0<i),CL l[i-1] l[i]=true:=λhp=>JV.1 hr (i-1) i AA hil AA;have hpv: ∀(hp:0<i),∀(j:Nat)(v:Value),(AU l[i-1])[j]?=some v→w.cell? ⟨g,off+(i-1)*4+j,none⟩=some v:=λhp=>by
   obtain⟨g',o',h1,hy⟩:=FO ha (show i-1<l.length by omega);simp only[Option.some.injEq,Addr.mk.injEq,and_true]at h1;obtain⟨rfl,rfl⟩:=h1;exact hy
  generalize hu:l[i]=u at hx hfx hsx hzx hzx2 hfin hris;have hent:=λ(w:World)(pb' wb':Nat)(bs last:AE)(L:AH)(h1:DO pb' bs L)=>lO (w:=w) (wb:=wb') (x:=u) (last:=last) h1;obtain⟨uk,us,ud,uv⟩:=u;simp only at hfx hsx hzx2;unfold B9 AU at hent;simp only at hent;cases ud with
  |true=>
   obtain rfl:uv=[]:=hfx rfl;refine jq ⟨?_⟩;refine IQ (cs:=[AG uk,.int .i64 us,.bool true,AG []]) rfl (λj x hj=>hS.oldCell AB (by have:=hx j x hj;rw[show off+((i:Int)).toNat*4+j=off+i*4+j by omega];exact this)) ?_;refine jq ⟨?_⟩;refine hS.al ?_;intro b6 w6 _ hS;(repeat(refine jt ⟨?_⟩;refine hS.q ?_;intro _ hS));refine jt ⟨?_⟩;by_cases h0:0<i
   ·have hris:=hris h0;have hpv:=hpv h0;generalize l[i-1]=v at hris hpv;have hrs:=λw=>Ry v ⟨uk,us,true,[]⟩ w;unfold B9 AU at hrs;rw[hris]at hrs;refine AL.draw AK mixed (λw'=>St w _ _ w') [] [0,1,2,3,4,5,6,7,8,9,10,11,12,13,14,15,16,17,18,19,20] AD hS.drew ?_;have hS:=hS.drew;refine jr ⟨?_⟩;refine JZ (cs:=[AG v.k,.int .i64 v.s,.bool v.d,AG v.v]) rfl (λw' hw j x hj=>hw.oldCell AB (by have:=hpv j x hj;rw[show off+((i:Int)-1).toNat*4+j=off+(i-1)*4+j by omega];exact this)) ?_
    refine jr ⟨?_⟩;refine(hrs _).mono ?_;rintro _ w7⟨rfl,hS'⟩;have hS:=hS.call0 hS';refine Ae.mk hS ?_;refine jr ⟨?_⟩;(repeat(refine jt ⟨?_⟩;refine hS.q ?_;intro _ hS));refine jt ⟨?_⟩;refine(hent _ _ _ _ _ _ hW (hS.part (L:=(wb,.cells ⟨[ptr pb,AG (CF [] (l.take i))]⟩ Gi (0,0))::L)) AA (by first|omega|simp) hlk hsx (by rw[AP];omega)).mono ?_;rintro _ w8⟨L8,hW8,hS'⟩;have hS:=hS.call (L:=(wb,.cells ⟨[ptr pb,AG (CF [] (l.take i))]⟩ Gi (0,0))::L) hS'
    refine jq ⟨?_⟩;exact⟨i+1,⟨rfl,rfl,rfl,rfl,rfl,trivial⟩,hfin L8 w8 hW8 (hS.sub (AS _ _)),AA⟩
   ·refine AL.draw AK mixed (λw'=>St w _ _ w') [] [0,1,2,3,4,5,6,7,8,9,10,11,12,13,14,15,16,17,18,19,20] AD hS.drew ?_;have hS:=hS.drew;refine jr ⟨?_⟩;(repeat(refine jt ⟨?_⟩;refine hS.q ?_;intro _ hS));refine jt ⟨?_⟩;refine(hent _ _ _ _ _ _ hW (hS.part (L:=(wb,.cells ⟨[ptr pb,AG (CF [] (l.take i))]⟩ Gi (0,0))::L)) AA (by first|omega|simp) hlk hsx (by rw[AP];omega)).mono ?_;rintro _ w8⟨L8,hW8,hS'⟩;have hS:=hS.call (L:=(wb,.cells ⟨[ptr pb,AG (CF [] (l.take i))]⟩ Gi (0,0))::L) hS'
    refine jq ⟨?_⟩;exact⟨i+1,⟨rfl,rfl,rfl,rfl,rfl,trivial⟩,hfin L8 w8 hW8 (hS.sub (AS _ _)),AA⟩
  |false=>
   refine jq ⟨?_⟩;refine IQ (cs:=[AG uk,.int .i64 us,.bool false,AG uv]) rfl (λj x hj=>hS.oldCell AB (by have:=hx j x hj;rw[show off+((i:Int)).toNat*4+j=off+i*4+j by omega];exact this)) ?_;refine jq ⟨?_⟩;refine hS.al ?_;intro b6 w6 _ hS;(repeat(refine jt ⟨?_⟩;refine hS.q ?_;intro _ hS));refine jt ⟨?_⟩;by_cases h0:0<i
   ·have hris:=hris h0;have hpv:=hpv h0;generalize l[i-1]=v at hris hpv;have hrs:=λw=>Ry v ⟨uk,us,false,uv⟩ w;unfold B9 AU at hrs;rw[hris]at hrs;refine AL.draw AK mixed (λw'=>St w _ _ w') [] [0,1,2,3,4,5,6,7,8,9,10,11,12,13,14,15,16,17,18,19,20] AD hS.drew ?_;have hS:=hS.drew;refine jr ⟨?_⟩;refine JZ (cs:=[AG v.k,.int .i64 v.s,.bool v.d,AG v.v]) rfl (λw' hw j x hj=>hw.oldCell AB (by have:=hpv j x hj;rw[show off+((i:Int)-1).toNat*4+j=off+(i-1)*4+j by omega];exact this)) ?_
    refine jr ⟨?_⟩;refine(hrs _).mono ?_;rintro _ w7⟨rfl,hS'⟩;have hS:=hS.call0 hS';refine Ae.mk hS ?_;refine jr ⟨?_⟩;(repeat(refine jt ⟨?_⟩;refine hS.q ?_;intro _ hS));refine jt ⟨?_⟩;refine(hent _ _ _ _ _ _ hW (hS.part (L:=(wb,.cells ⟨[ptr pb,AG (CF [] (l.take i))]⟩ Gi (0,0))::L)) AA (by first|omega|simp) hlk hsx (by rw[AP];omega)).mono ?_;rintro _ w8⟨L8,hW8,hS'⟩;have hS:=hS.call (L:=(wb,.cells ⟨[ptr pb,AG (CF [] (l.take i))]⟩ Gi (0,0))::L) hS'
    refine jq ⟨?_⟩;exact⟨i+1,⟨rfl,rfl,rfl,rfl,rfl,trivial⟩,hfin L8 w8 hW8 (hS.sub (AS _ _)),AA⟩
   ·refine AL.draw AK mixed (λw'=>St w _ _ w') [] [0,1,2,3,4,5,6,7,8,9,10,11,12,13,14,15,16,17,18,19,20] AD hS.drew ?_;have hS:=hS.drew;refine jr ⟨?_⟩;(repeat(refine jt ⟨?_⟩;refine hS.q ?_;intro _ hS));refine jt ⟨?_⟩;refine(hent _ _ _ _ _ _ hW (hS.part (L:=(wb,.cells ⟨[ptr pb,AG (CF [] (l.take i))]⟩ Gi (0,0))::L)) AA (by first|omega|simp) hlk hsx (by rw[AP];omega)).mono ?_;rintro _ w8⟨L8,hW8,hS'⟩;have hS:=hS.call (L:=(wb,.cells ⟨[ptr pb,AG (CF [] (l.take i))]⟩ Gi (0,0))::L) hS'
    refine jq ⟨?_⟩;exact⟨i+1,⟨rfl,rfl,rfl,rfl,rfl,trivial⟩,hfin L8 w8 hW8 (hS.sub (AS _ _)),AA⟩
 ·obtain rfl:i=l.length:=AA;rw[Bz]at hW;(repeat(refine jt ⟨?_⟩;refine hS.q ?_;intro _ hS));refine jt ⟨?_⟩;refine Cl.mono (Lz hW (hS.part (L:=L))) ?_;rintro _ w6⟨rfl,hS'⟩;have hS:=hS.call (L:=L) hS';refine jq ⟨?_⟩;exact⟨rfl,hS.nil⟩
structure B8(l:List AF):Prop where
 len:l.length≤64
 rise:Az l
 fine:KY l
 seqs:Hf l
 sz: ∀x∈l,CS x≤4096
def B5(l:List AF):AE:=AQ (EA l)
theorem NK(n:Nat): ∀m:List AF,(∀x∈m,CS x≤n)→An m≤n*m.length
 |[],_=>by simp[An]
 |x::m,h=>by
  rw[SE,Ai];have:=h x CN;have:=NK n m λy hy=>h y (CJ _ hy);rw[Nat.mul_succ];omega
theorem B8.szs{l:List AF}(h:B8 l):An l≤262144:=by
 have:=NK 4096 l h.sz;have:=h.len;omega
theorem B8.fit{l:List AF}(h:B8 l):If l:=⟨h.seqs,by have:=h.szs;omega⟩
theorem B8.sub{l m:List AF}(h:B8 l)(hs:m.Sublist l):B8 m:=
 ⟨Au hs.length_le h.len,h.rise.sublist hs,λx hx=>h.fine x (hs.mem hx),λx hx=>h.seqs x (hs.mem hx),λx hx=>h.sz x (hs.mem hx)⟩
theorem B8.piece{l:List AF}(h:B8 l)(i:Nat):B8 ((l.drop (i*8)).take 8):=h.sub ((List.take_sublist _ _).trans (List.drop_sublist _ _))
theorem B8.ok{l:List AF}(h:B8 l):Bc (EA l)=true:=by
 unfold Bc;rw[C8];intro p hp;exact decide_eq_true (YV h.len h.seqs h.sz p hp)
theorem B8.cnt{l:List AF}(h:B8 l):(AR 8 l).length≤8:=by
 rw[Jd];have:=h.len;omega
theorem B8.pcnt{l:List AF}(h:B8 l):(EA l).length≤11:=by
 have:=h.cnt;simp only[EA,AP,BM,Ai,Bo];omega
theorem SB(n:Nat): ∀ps:List AE,(∀p∈ps,p.length≤n)→BG ps≤n*ps.length
 |[],_=>by simp[BG]
 |p::ps,h=>by
  have h1:=h p CN;have h2:=SB n ps λq hq=>h q (CJ _ hq);simp only[BG,A4,HL,Ai]at h2⊢;rw[Nat.mul_succ];omega
theorem B8.sum{l:List AF}(h:B8 l):BG (EA l)≤720896:=by
 have h1:=SB 65536 (EA l) (YV h.len h.seqs h.sz);have h2:=h.pcnt;omega
theorem B8.bytes{l:List AF}(h:B8 l):(B5 l).length≤1048576:=by
 have h1:=h.sum;have h2:=h.pcnt;unfold B5;rw[Ds];omega
theorem B8.idx{l:List AF}(h:B8 l)(i:Nat):(Da ((AR 8 l).take i) (AR 8 l).length).1.length≤1048576∧(Da ((AR 8 l).take i) (AR 8 l).length).2≤1048576:=by
 have h0:=h.cnt;have h1:=h.szs;have h2:=h.len;have hf:((AR 8 l).take i).flatten.Sublist l:=by
  rcases Nat.le_total i (AR 8 l).length with hi|hi
  ·rw[Ox AA l i hi];exact List.take_sublist _ _
  ·rw[HO hi,KD AA];exact List.Sublist.refl _
 have hs:=h.sub hf;have h3:=hs.szs;have h4:=hs.len;have h5:((AR 8 l).take i).length≤8:=by rw[BR];omega
 have:=Q5 ((AR 8 l).take i) (AR 8 l).length AA hs.seqs AA;omega
theorem B8.block{l:List AF}(h:B8 l):(E8 l).length≤1048576:=by
 have h1:=h.szs;have h2:=h.len;have:=P7 (l:=l) h.seqs AA AA;omega
theorem sX{c:List AF}(h:0<c.length):CF [] c=(c[c.length-1]'AA).k:=by
 unfold CF;rw[List.getLast?_eq_getElem?,CB AA]
theorem uE{l:List AF}(h:B8 l): ∀k∈Cb l,k.length≤4096:=by
 intro k hk;obtain⟨x,hx,rfl⟩:=uD l k hk;have:=h.sz x hx;unfold CS at this;omega
theorem Tw(ks:List AE)(h:ks.length≤64):(Du ks).length≤65536:=by
 cases ks with
 |nil=>simp[Du]
 |cons k ks=>
  have e:Du (k::ks)=(Gj (k::ks)).map UInt8.ofNat:=rfl;rw[e,BM,P8];simp at h;simp;omega
end Go.Proofs.YtkgibdhpijdbfaaGreatDoor
