/- Texts of this claim, one behind the other. -/
import Derived.Test.YtkgibdhpijdbfaaGreatDoorZ34
import Derived.Test.YtkgibdhpijdbfaaGreatDoorZ27
import Derived.Test.YtkgibdhpijdbfaaGreatDoorZ37
import Derived.Test.YtkgibdhpijdbfaaGreatDoorZ20
import Derived.Test.YtkgibdhpijdbfaaGreatDoorZ19
set_option linter.unusedVariables false
set_option linter.unusedSimpArgs false
set_option maxHeartbeats 16000000
namespace Go.Proofs.YtkgibdhpijdbfaaGreatDoor
open Go Go.Eng Go.Proofs
theorem vM{ops:List Ac}{k:Nat}(hk:k<ops.length):DU (ops.drop k)=I2 ops[k]++DU (ops.drop (k+1)):=by
 unfold DU;rw[FQ hk,A4,Dc]
theorem YD(ops:List Ac)(k:Nat):Ap (ops.drop k)≤Ap ops:=by
 have:Ap ops=Ap (ops.take k)+Ap (ops.drop k):=by
  unfold Ap;rw[←IL,←A7,CO]
 omega
set_option maxRecDepth 4000 in
theorem Z0{w:World}{seq:Int}{ops:List Ac}(hq:CA seq)(hsz:Ap ops≤1099511627776):
  Cl Tryz.prog pG [AG (B0 seq ops)] w λv w'=>∃a c L,v= .tuple ⟨[.int .i64 seq,.slice a ops.length c,.int .i64 0]⟩∧AT Bn 3 a ops.length c ((ops.map EN).flatMap A8) L∧St w [] L w':=by
 have hS:=St.start w;have hcnt:=KI ops;have hpl:=M8 seq ops hq hsz;have hil:(Bh seq).length≤10:=EP _ (Lk hq);have hnl:=DL (n:=ops.length) AA;have hol:=M5 ops hsz;refine iX rfl ?_;refine jq ⟨?_⟩;refine Pc.mono ?_;rintro _ w1⟨rb,rfl,hS'⟩;have hS:=hS.callNew hS';rw[BU]at hS;refine jq ⟨?_⟩;refine Cl.mono (Pe (hS.part (L:=[(rb,A6 (B0 seq ops))])) AA) ?_;unfold B0;rw[V2 hq];rintro _ w2⟨rfl,hS'⟩;have hS:=hS.call (L:=[(rb,A6 (B0 seq ops))]) hS'
 refine jq ⟨?_⟩;refine Cl.mono (JH (hS.part (L:=[(rb,A6 (Ak ops.length++DU ops))])) (by simp only[AP];omega)) ?_;rw[Mx AA];rintro _ w3⟨rfl,hS'⟩;have hS:=hS.call (L:=[(rb,A6 (Ak ops.length++DU ops))]) hS';refine jq ⟨?_⟩;refine AL.loop (λi:Nat×Option Addr×Nat=>[(5,ptr rb),(6,.int .i64 seq),(7,.int .i64 0),(8,.int .u64 ops.length),(9,.int .i64 0),(10,.slice i.2.1 i.1 i.2.2),(11,.int .u64 i.1)])
  (λi w'=>i.1≤ops.length∧ ∃L,AT Bn 3 i.2.1 i.1 i.2.2 (((ops.take i.1).map EN).flatMap A8) L∧St w [] (L++[(rb,A6 (DU (ops.drop i.1)))]) w') (λi=>ops.length-i.1) (0,none,0)
  ⟨rfl,rfl,rfl,rfl,rfl,rfl,rfl,trivial⟩ ⟨Ag _,[],AT.nil,hS⟩ ?_
 clear hS hS';rintro⟨k,a,c⟩w4⟨hk,L,hv,hS⟩;simp only at hk hv hS⊢;by_cases hkl:k<ops.length
 ·have hdrop:=vM hkl;have hsucc:((ops.take (k+1)).map EN).flatMap A8=((ops.take k).map EN).flatMap A8++A8 (EN ops[k]):=by
   rw[Bs hkl,A7,Hn];simp
  have hoz:=PC (Ca hkl);have hdl:=M5 (ops.drop k) (by have:=YD ops k;omega);have hdz:=YD ops k;rw[Do]at hdl;rw[hdrop]at hS hdl;generalize ops[k]=o at hdrop hsucc hoz hS hdl;obtain⟨ok,od,ov⟩:=o;unfold D9 at hoz;unfold I2 at hS hdl;simp only at hoz hS hdl;rw[Aj]at hS hdl;rw[AP]at hdl;(repeat(refine jt ⟨?_⟩;refine hS.q ?_;intro _ hS));refine jt ⟨?_⟩;refine hS.al ?_;intro b12 w5 _ hS;(repeat(refine jt ⟨?_⟩;refine hS.q ?_;intro _ hS));refine jt ⟨?_⟩
  cases od with
  |true=>
   rw[if_pos rfl]at hS hdl;refine Cl.mono (Nc (hS.part (L:=[(rb,A6 (Be ok++(Ak 1++DU (ops.drop (k+1)))))])) (by simp only[AP]at*;omega)) ?_;rw[PH AA];rintro _ w6⟨rfl,hS'⟩;have hS:=hS.call (L:=[(rb,A6 (Be ok++(Ak 1++DU (ops.drop (k+1)))))]) hS';(repeat(refine jt ⟨?_⟩;refine hS.q ?_;intro _ hS));refine jt ⟨?_⟩;refine Cl.mono (JH (hS.part (L:=[(rb,A6 (Ak 1++DU (ops.drop (k+1))))])) (by simp only[AP]at*;omega)) ?_
   rw[Mx AA];rintro _ w7⟨rfl,hS'⟩;have hS:=hS.call (L:=[(rb,A6 (Ak 1++DU (ops.drop (k+1))))]) hS';(repeat(refine jt ⟨?_⟩;refine hS.q ?_;intro _ hS));refine jt ⟨?_⟩;refine hS.al ?_;intro b71 w20 _ hS;(repeat(refine jt ⟨?_⟩;refine hS.q ?_;intro _ hS));refine jt ⟨?_⟩;refine St.app (sz:=3) (m:=1) AK rfl rfl rfl rfl hS hv (news:=A8 (EN (ok,true,ov))) rfl (by have:=hS.arr (b:=b71) (T':=[]) AB;exact this) rfl (by show(_+_)*40≤_;omega) AA ?_
   intro a2 c2 L2 w21 hv hS;have hS:=hS.sub (AS _ _);(repeat(refine jt ⟨?_⟩;refine hS.q ?_;intro _ hS));refine jt ⟨?_⟩;refine⟨(k+1,a2,c2),⟨rfl,rfl,rfl,rfl,rfl,rfl,rfl,trivial⟩,⟨hkl,L2,?_,hS.sub ?_⟩,by simp only;omega⟩
   ·rw[hsucc];exact hv
   ·exact AS _ _
  |false=>
   rw[if_neg AB,Aj]at hS;rw[if_neg AB]at hdl;simp only[AP]at hdl;refine Cl.mono (Nc (hS.part (L:=[(rb,A6 (Be ok++(Ak 0++(Be ov++DU (ops.drop (k+1))))))])) (by simp only[AP]at*;omega)) ?_;rw[PH AA];rintro _ w6⟨rfl,hS'⟩;have hS:=hS.call (L:=[(rb,A6 (Be ok++(Ak 0++(Be ov++DU (ops.drop (k+1))))))]) hS';(repeat(refine jt ⟨?_⟩;refine hS.q ?_;intro _ hS));refine jt ⟨?_⟩;refine Cl.mono (JH (hS.part (L:=[(rb,A6 (Ak 0++(Be ov++DU (ops.drop (k+1)))))])) (by simp only[AP]at*;omega)) ?_
   rw[Mx AA];rintro _ w7⟨rfl,hS'⟩;have hS:=hS.call (L:=[(rb,A6 (Ak 0++(Be ov++DU (ops.drop (k+1)))))]) hS';(repeat(refine jt ⟨?_⟩;refine hS.q ?_;intro _ hS));refine jt ⟨?_⟩;refine Cl.mono (Nc (hS.part (L:=[(rb,A6 (Be ov++DU (ops.drop (k+1))))])) (by simp only[AP]at*;omega)) ?_;rw[PH AA];rintro _ w8⟨rfl,hS'⟩;have hS:=hS.call (L:=[(rb,A6 (Be ov++DU (ops.drop (k+1))))]) hS';(repeat(refine jt ⟨?_⟩;refine hS.q ?_;intro _ hS));refine jt ⟨?_⟩
   refine hS.al ?_;intro b71 w20 _ hS;(repeat(refine jt ⟨?_⟩;refine hS.q ?_;intro _ hS));refine jt ⟨?_⟩;refine St.app (sz:=3) (m:=1) AK rfl rfl rfl rfl hS hv (news:=A8 (EN (ok,false,ov))) rfl (by have:=hS.arr (b:=b71) (T':=[]) AB;exact this) rfl (by show(_+_)*40≤_;omega) AA ?_;intro a2 c2 L2 w21 hv hS;have hS:=hS.sub (AS _ _);(repeat(refine jt ⟨?_⟩;refine hS.q ?_;intro _ hS));refine jt ⟨?_⟩;refine⟨(k+1,a2,c2),⟨rfl,rfl,rfl,rfl,rfl,rfl,rfl,trivial⟩,⟨hkl,L2,?_,hS.sub ?_⟩,by simp only;omega⟩
   ·rw[hsucc];exact hv
   ·exact AS _ _
 ·obtain rfl:k=ops.length:=AA;rw[Bz]at hv;rw[IJ]at hS;(repeat(refine jt ⟨?_⟩;refine hS.q ?_;intro _ hS));refine jt ⟨?_⟩;refine Cl.mono (Pd (hS.part (L:=[(rb,A6 (DU []))]))) ?_;rintro _ w5⟨rfl,hS'⟩;have hS:=hS.call0 hS';have hnil:(decide (DU []=[]))=true:=rfl;rw[hnil];(repeat(refine jt ⟨?_⟩;refine hS.q ?_;intro _ hS));refine jt ⟨?_⟩;exact⟨a,c,L,rfl,hv,hS.sub (CC _ _)⟩
theorem DR(p q:List AO):(p++q).flatMap BN=p.flatMap BN++q.flatMap BN:=Hn
theorem Ey(l:List AO):(l.flatMap BN).all Value.oneCell'=true:=by
 induction l with
 |nil=>rfl
 |cons p ps ih=>rw[FA,List.all_append,ih];rfl
theorem CP(p q:List AO):p.length+q.length=(p++q).length:=AB
theorem Dg(l:List AO):(l.flatMap BN).length=l.length*3:=by rw[Xl];omega
theorem Zj{w:World}{a:Option Addr}{cap:Nat}{l p q:List AO}{o:Ac}(hpq:l=p++q)(hp: ∀r∈p,Op.bytesLess r.1 o.1=true)(hq: ∀r∈q,Op.bytesLess r.1 o.1=false)
  (ha:Arr w [] a (l.flatMap BN))(hA:a=none∨ ∃g off,a=some ⟨g,off,none⟩)(hcap:l.length≤cap)(hlen:l.length≤16777216):
  Cl Tryz.prog qE [.slice a l.length cap,.agg ⟨A8 o⟩] w λv w'=>∃a' c' L,v= .slice a' (p++Em o++Ec o.1 q).length c'∧AT Bn 3 a' (p++Em o++Ec o.1 q).length c' ((p++Em o++Ec o.1 q).flatMap BN) L∧St w [] L w':=by
 have hS:=St.start w;have hll:l.length=p.length+q.length:=by rw[hpq,AP]
 have hpl:p.length≤l.length:=AA;have hcl:=Xl l;unfold A8;refine kQ rfl ?_;refine jq ⟨?_⟩;refine hS.al ?_;intro b3 w1 _ hS;refine jq ⟨?_⟩;refine AL.loop (λi:Nat=>[(0,.slice a l.length cap),(3,ptr b3),(5,.int .i64 i)])
  (λi w'=>p.length≤i∧i≤l.length∧St w [] [(b3,.cells ⟨A8 o⟩ Bn (0,0))] w') (λi=>i) l.length
  ⟨rfl,rfl,rfl,trivial⟩ ⟨hpl,AV _,hS⟩ ?_
 clear hS;rintro i w2⟨hi,hil,hS⟩;by_cases hip:p.length<i
 ·have hi1:i-1<l.length:=AA;obtain⟨g,off,rfl, -, -⟩:=ha.get (j:=(i-1)*3) AA;have hk:=LO l (i-1) hi1;have hge:Op.bytesLess l[i-1].1 o.1=false:=by
   refine hq _ ?_;subst hpq;rw[List.getElem_append_right AA];exact Ca _
  generalize l[i-1]=x at hk hge;refine jq ⟨?_⟩;refine AL.draw AK mixed (λw'=>St w [] [(b3,.cells ⟨A8 o⟩ Bn (0,0))] w') [] [0,1,2,3,4,5,6,7,8,9,10,11,12] AD hS.drew ?_;have hS:=hS.drew;generalize w2.drew=w2 at hS;unfold A8 at hS;refine jr ⟨?_⟩;rw[show((i:Int)-1)=((i-1:Nat):Int) by omega];refine jr ⟨?_⟩;refine Arr.ldcC ha hk AB ?_;refine jr ⟨?_⟩;rw[hge,Bool.not_false];refine jr ⟨?_⟩;exact⟨i-1,⟨rfl,rfl,by show _=(_:Value);rw[show((i:Int)-1)=((i-1:Nat):Int) by omega],trivial⟩,⟨AA,AA,hS⟩,AA⟩
 ·have hie:i=p.length:=AA;subst hie;obtain⟨k,d,u⟩:=o;rcases hA with rfl|⟨g,off,rfl⟩
  ·have hl0:l=[]:=by
    cases l with
    |nil=>rfl
    |cons x l=>obtain⟨g,off,h⟩:=bD ha;cases h
   rw[hl0]at hpq;have hp0:p=[]:=(List.append_eq_nil_iff.1 hpq.symm).1;have hq0:q=[]:=(List.append_eq_nil_iff.1 hpq.symm).2;subst hl0 hp0 hq0;have hpz:([]:List AO).length=0:=rfl;refine jq ⟨?_⟩;refine AL.draw AK mixed (λw'=>St w [] [(b3,.cells ⟨A8 (k,d,u)⟩ Bn (0,0))] w') [] [0,1,2,3,4,5,6,7,8,9,10,11,12] AD hS.drew ?_;have hS:=hS.drew;generalize w2.drew=w2 at hS;unfold A8 at hS;refine jr ⟨?_⟩;have hv:AT Bn 3 none ([]:List AO).length 0 (([]:List AO).flatMap BN) []:=AT.nil
   have hS:St w [] ([]++[(b3,.cells ⟨[AG k,.bool d,AG u]⟩ Bn (0,0))]) w2:=hS;(repeat(refine jt ⟨?_⟩;refine hS.q ?_;intro _ hS));refine jt ⟨?_⟩;refine St.app (sz:=3) (m:=(([]:List AO)).length) AK rfl rfl rfl rfl hS hv (news:=(([]:List AO)).flatMap BN) (Dg _) (Arr.nil _ _ _) (Ey _) (by show(_+_)*40≤_;(try simp);(try omega)) (by(try simp);(try omega)) ?_;intro a1 c1 L1 w3 hv hS;rw[←DR,CP]at hv;rw[CP ([]) (([]:List AO))]
   rw[CU]at hv;rw[CU];(repeat(refine jt ⟨?_⟩;refine hS.q ?_;intro _ hS));refine jt ⟨?_⟩;cases d with
   |true=>
    (repeat(refine jt ⟨?_⟩;refine hS.q ?_;intro _ hS));refine jt ⟨?_⟩;refine AL.draw AK mixed (λw'=>St w [] (L1++[(b3,.cells ⟨[AG k,.bool true,AG u]⟩ Bn (0,0))]) w') [] [0,1,2,3,4,5,6,7,8,9,10,11,12,13] AD hS.drew ?_;have hS:=hS.drew;generalize w3.drew=w3 at hS;refine jr ⟨?_⟩;refine St.app (sz:=3) (m:=(([]:List AO)).length) AK rfl rfl rfl rfl hS hv (news:=(([]:List AO)).flatMap BN) (Dg _) (Arr.nil _ _ _) (Ey _) (by show(_+_)*40≤_;(try simp);(try omega)) (by(try simp);(try omega)) ?_
    intro a1 c1 L1 w3 hv hS;rw[←DR,CP]at hv;rw[CP (([]:List AO)) (([]:List AO))];(repeat(refine jt ⟨?_⟩;refine hS.q ?_;intro _ hS));refine jt ⟨?_⟩;exact⟨a1,c1,L1,rfl,hv,hS.sub (CC _ _)⟩
   |false=>
    (repeat(refine jt ⟨?_⟩;refine hS.q ?_;intro _ hS));refine jt ⟨?_⟩;refine hS.al ?_;intro r w4 _ hS;(repeat(refine jt ⟨?_⟩;refine hS.q ?_;intro _ hS));refine jt ⟨?_⟩;refine St.app (sz:=3) (m:=([(k,u)]).length) AK rfl rfl rfl rfl hS hv (news:=([(k,u)]).flatMap BN) (Dg _) (by have:=hS.arr (b:=r) (T':=[]) AB;exact this) (Ey _) (by show(_+_)*40≤_;(try simp);(try omega)) (by(try simp);(try omega)) ?_
    intro a1 c1 L1 w3 hv hS;rw[←DR,CP]at hv;rw[CP ([]) ([(k,u)])];have hS:St w [] (L1++[(b3,.cells ⟨[AG k,.bool false,AG u]⟩ Bn (0,0))]) w3:=hS.sub (AS _ _);(repeat(refine jt ⟨?_⟩;refine hS.q ?_;intro _ hS));refine jt ⟨?_⟩;refine AL.draw AK mixed (λw'=>St w [] (L1++[(b3,.cells ⟨[AG k,.bool false,AG u]⟩ Bn (0,0))]) w') [] [0,1,2,3,4,5,6,7,8,9,10,11,12,13] AD hS.drew ?_;have hS:=hS.drew;generalize w3.drew=w3 at hS
    refine jr ⟨?_⟩;refine St.app (sz:=3) (m:=(([]:List AO)).length) AK rfl rfl rfl rfl hS hv (news:=(([]:List AO)).flatMap BN) (Dg _) (Arr.nil _ _ _) (Ey _) (by show(_+_)*40≤_;(try simp);(try omega)) (by(try simp);(try omega)) ?_;intro a1 c1 L1 w3 hv hS;rw[←DR,CP]at hv;rw[CP ([]++[(k,u)]) (([]:List AO))];(repeat(refine jt ⟨?_⟩;refine hS.q ?_;intro _ hS));refine jt ⟨?_⟩;exact⟨a1,c1,L1,rfl,hv,hS.sub (CC _ _)⟩
  ·have hap:Arr w [] (some ⟨g,off,none⟩) (p.flatMap BN):=by rw[hpq,DR]at ha;exact Arr.take ha
   by_cases hp0:p=[]
   ·have hpz:p.length=0:=by rw[hp0];rfl
    refine jq ⟨?_⟩;refine AL.draw AK mixed (λw'=>St w [] [(b3,.cells ⟨A8 (k,d,u)⟩ Bn (0,0))] w') [] [0,1,2,3,4,5,6,7,8,9,10,11,12] AD hS.drew ?_;have hS:=hS.drew;generalize w2.drew=w2 at hS;unfold A8 at hS;refine jr ⟨?_⟩;have hv:AT Bn 3 none ([]:List AO).length 0 (([]:List AO).flatMap BN) []:=AT.nil;have hS:St w [] ([]++[(b3,.cells ⟨[AG k,.bool d,AG u]⟩ Bn (0,0))]) w2:=hS;(repeat(refine jt ⟨?_⟩;refine hS.q ?_;intro _ hS));refine jt ⟨?_⟩
    refine St.app (sz:=3) (m:=(p).length) AK rfl rfl rfl rfl hS hv (news:=(p).flatMap BN) (Dg _) (hS.arrOld hap) (Ey _) (by show(_+_)*40≤_;(try simp);(try omega)) (by(try simp);(try omega)) ?_;intro a1 c1 L1 w3 hv hS;rw[←DR,CP]at hv;rw[CP ([]) (p)];rw[CU]at hv;rw[CU];(repeat(refine jt ⟨?_⟩;refine hS.q ?_;intro _ hS));refine jt ⟨?_⟩;cases d with
    |true=>
     (repeat(refine jt ⟨?_⟩;refine hS.q ?_;intro _ hS));refine jt ⟨?_⟩;rw[show p++Em (k,true,u)=p by simp[Em]];cases q with
     |nil=>
      have hlp:l.length=p.length:=by simpa using hll
      refine AL.draw AK mixed (λw'=>St w [] (L1++[(b3,.cells ⟨[AG k,.bool true,AG u]⟩ Bn (0,0))]) w') [] [0,1,2,3,4,5,6,7,8,9,10,11,12,13] AD hS.drew ?_;have hS:=hS.drew;generalize w3.drew=w3 at hS;refine jr ⟨?_⟩;rw[show l.length-((p.length:Nat):Int).toNat=([]:List AO).length by simp;omega];refine St.app (sz:=3) (m:=(([]:List AO)).length) AK rfl rfl rfl rfl hS hv (news:=(([]:List AO)).flatMap BN) (Dg _) (Arr.nil _ _ _) (Ey _) (by show(_+_)*40≤_;(try simp);(try omega)) (by(try simp);(try omega)) ?_
      intro a1 c1 L1 w3 hv hS;rw[←DR,CP]at hv;rw[CP (p) (([]:List AO))];(repeat(refine jt ⟨?_⟩;refine hS.q ?_;intro _ hS));refine jt ⟨?_⟩;exact⟨a1,c1,L1,rfl,hv,hS.sub (CC _ _)⟩
     |cons x q=>
      have hlp:l.length=p.length+(q.length+1):=by simpa using hll
      have haq:Arr w [] (CV g off p.length cap 3) ((x::q).flatMap BN):=by
       rw[hpq,DR]at ha;exact Arr.dropS (k:=p.length) ha (Dg _) λ_=>AA
      have haq':Arr w [] (CV g off (p.length+1) cap 3) (q.flatMap BN):=by
       rw[hpq,show p++x::q=(p++[x])++q by simp,DR]at ha;refine Arr.dropS (k:=p.length+1) ha (by rw[Dg];simp) λh=>?_;cases q with
       |nil=>exact absurd rfl h
       |cons y q=>simp at hlp;omega
      have hkx:(l.flatMap BN)[p.length*3]?=some (AG x.1):=by
       have:=LO l p.length AA;rw[this];subst hpq;simp
      by_cases hxk:x.1=k
      ·refine AL.draw AK mixed (λw'=>St w [] (L1++[(b3,.cells ⟨[AG k,.bool true,AG u]⟩ Bn (0,0))]) w') [] [0,1,2,3,4,5,6,7,8,9,10,11,12,13] AD hS.drew ?_;have hS:=hS.drew;generalize w3.drew=w3 at hS;refine jr ⟨?_⟩;refine Arr.ldcC ha hkx AB ?_;refine jr ⟨?_⟩;rw[show Ec k (x::q)=q by rw[HW,if_pos hxk]];rw[show l.length-((p.length:Nat)+1:Int).toNat=q.length by omega];rw[show((p.length:Nat)+1:Int).toNat=p.length+1 by omega]
       refine St.app (sz:=3) (m:=(q).length) AK rfl rfl rfl rfl hS hv (news:=(q).flatMap BN) (Dg _) (hS.arrOld haq') (Ey _) (by show(_+_)*40≤_;(try simp);(try omega)) (by(try simp);(try omega)) ?_;intro a1 c1 L1 w3 hv hS;rw[←DR,CP]at hv;rw[CP (p) (q)];(repeat(refine jt ⟨?_⟩;refine hS.q ?_;intro _ hS));refine jt ⟨?_⟩;exact⟨a1,c1,L1,rfl,hv,hS.sub (CC _ _)⟩
      ·refine AL.draw AK mixed (λw'=>St w [] (L1++[(b3,.cells ⟨[AG k,.bool true,AG u]⟩ Bn (0,0))]) w') [] [0,1,2,3,4,5,6,7,8,9,10,11,12,13] AD hS.drew ?_;have hS:=hS.drew;generalize w3.drew=w3 at hS;refine jr ⟨?_⟩;refine Arr.ldcC ha hkx AB ?_;refine jr ⟨?_⟩;rw[show Ec k (x::q)=x::q by rw[HW,if_neg hxk]];rw[show l.length-((p.length:Nat):Int).toNat=(x::q).length by simp;omega];refine St.app (sz:=3) (m:=(x::q).length) AK rfl rfl rfl rfl hS hv (news:=(x::q).flatMap BN) (Dg _) (hS.arrOld haq) (Ey _) (by show(_+_)*40≤_;(try simp);(try omega)) (by(try simp);(try omega)) ?_
       intro a1 c1 L1 w3 hv hS;rw[←DR,CP]at hv;rw[CP (p) (x::q)];(repeat(refine jt ⟨?_⟩;refine hS.q ?_;intro _ hS));refine jt ⟨?_⟩;exact⟨a1,c1,L1,rfl,hv,hS.sub (CC _ _)⟩
    |false=>
     (repeat(refine jt ⟨?_⟩;refine hS.q ?_;intro _ hS));refine jt ⟨?_⟩;refine hS.al ?_;intro r w4 _ hS;(repeat(refine jt ⟨?_⟩;refine hS.q ?_;intro _ hS));refine jt ⟨?_⟩;refine St.app (sz:=3) (m:=([(k,u)]).length) AK rfl rfl rfl rfl hS hv (news:=([(k,u)]).flatMap BN) (Dg _) (by have:=hS.arr (b:=r) (T':=[]) AB;exact this) (Ey _) (by show(_+_)*40≤_;(try simp);(try omega)) (by(try simp);(try omega)) ?_
     intro a1 c1 L1 w3 hv hS;rw[←DR,CP]at hv;rw[CP (p) ([(k,u)])];have hS:St w [] (L1++[(b3,.cells ⟨[AG k,.bool false,AG u]⟩ Bn (0,0))]) w3:=hS.sub (AS _ _);(repeat(refine jt ⟨?_⟩;refine hS.q ?_;intro _ hS));refine jt ⟨?_⟩;rw[show p++Em (k,false,u)=p++[(k,u)] by simp[Em]];cases q with
     |nil=>
      have hlp:l.length=p.length:=by simpa using hll
      refine AL.draw AK mixed (λw'=>St w [] (L1++[(b3,.cells ⟨[AG k,.bool false,AG u]⟩ Bn (0,0))]) w') [] [0,1,2,3,4,5,6,7,8,9,10,11,12,13] AD hS.drew ?_;have hS:=hS.drew;generalize w3.drew=w3 at hS;refine jr ⟨?_⟩;rw[show l.length-((p.length:Nat):Int).toNat=([]:List AO).length by simp;omega];refine St.app (sz:=3) (m:=(([]:List AO)).length) AK rfl rfl rfl rfl hS hv (news:=(([]:List AO)).flatMap BN) (Dg _) (Arr.nil _ _ _) (Ey _) (by show(_+_)*40≤_;(try simp);(try omega)) (by(try simp);(try omega)) ?_
      intro a1 c1 L1 w3 hv hS;rw[←DR,CP]at hv;rw[CP (p++[(k,u)]) (([]:List AO))];(repeat(refine jt ⟨?_⟩;refine hS.q ?_;intro _ hS));refine jt ⟨?_⟩;exact⟨a1,c1,L1,rfl,hv,hS.sub (CC _ _)⟩
     |cons x q=>
      have hlp:l.length=p.length+(q.length+1):=by simpa using hll
      have haq:Arr w [] (CV g off p.length cap 3) ((x::q).flatMap BN):=by
       rw[hpq,DR]at ha;exact Arr.dropS (k:=p.length) ha (Dg _) λ_=>AA
      have haq':Arr w [] (CV g off (p.length+1) cap 3) (q.flatMap BN):=by
       rw[hpq,show p++x::q=(p++[x])++q by simp,DR]at ha;refine Arr.dropS (k:=p.length+1) ha (by rw[Dg];simp) λh=>?_;cases q with
       |nil=>exact absurd rfl h
       |cons y q=>simp at hlp;omega
      have hkx:(l.flatMap BN)[p.length*3]?=some (AG x.1):=by
       have:=LO l p.length AA;rw[this];subst hpq;simp
      by_cases hxk:x.1=k
      ·refine AL.draw AK mixed (λw'=>St w [] (L1++[(b3,.cells ⟨[AG k,.bool false,AG u]⟩ Bn (0,0))]) w') [] [0,1,2,3,4,5,6,7,8,9,10,11,12,13] AD hS.drew ?_;have hS:=hS.drew;generalize w3.drew=w3 at hS;refine jr ⟨?_⟩;refine Arr.ldcC ha hkx AB ?_;refine jr ⟨?_⟩;rw[show Ec k (x::q)=q by rw[HW,if_pos hxk]];rw[show l.length-((p.length:Nat)+1:Int).toNat=q.length by omega];rw[show((p.length:Nat)+1:Int).toNat=p.length+1 by omega]
       refine St.app (sz:=3) (m:=(q).length) AK rfl rfl rfl rfl hS hv (news:=(q).flatMap BN) (Dg _) (hS.arrOld haq') (Ey _) (by show(_+_)*40≤_;(try simp);(try omega)) (by(try simp);(try omega)) ?_;intro a1 c1 L1 w3 hv hS;rw[←DR,CP]at hv;rw[CP (p++[(k,u)]) (q)];(repeat(refine jt ⟨?_⟩;refine hS.q ?_;intro _ hS));refine jt ⟨?_⟩;exact⟨a1,c1,L1,rfl,hv,hS.sub (CC _ _)⟩
      ·refine AL.draw AK mixed (λw'=>St w [] (L1++[(b3,.cells ⟨[AG k,.bool false,AG u]⟩ Bn (0,0))]) w') [] [0,1,2,3,4,5,6,7,8,9,10,11,12,13] AD hS.drew ?_;have hS:=hS.drew;generalize w3.drew=w3 at hS;refine jr ⟨?_⟩;refine Arr.ldcC ha hkx AB ?_;refine jr ⟨?_⟩;rw[show Ec k (x::q)=x::q by rw[HW,if_neg hxk]];rw[show l.length-((p.length:Nat):Int).toNat=(x::q).length by simp;omega];refine St.app (sz:=3) (m:=(x::q).length) AK rfl rfl rfl rfl hS hv (news:=(x::q).flatMap BN) (Dg _) (hS.arrOld haq) (Ey _) (by show(_+_)*40≤_;(try simp);(try omega)) (by(try simp);(try omega)) ?_
       intro a1 c1 L1 w3 hv hS;rw[←DR,CP]at hv;rw[CP (p++[(k,u)]) (x::q)];(repeat(refine jt ⟨?_⟩;refine hS.q ?_;intro _ hS));refine jt ⟨?_⟩;exact⟨a1,c1,L1,rfl,hv,hS.sub (CC _ _)⟩
   ·have hpz:0<p.length:=J5.2 hp0;have hk0:=LO l (p.length-1) AA;have hlt:Op.bytesLess l[p.length-1].1 k=true:=by
     refine hp _ ?_;subst hpq;rw[List.getElem_append_left AA];exact Ca _
    generalize l[p.length-1]=y at hk0 hlt;refine jq ⟨?_⟩;refine AL.draw AK mixed (λw'=>St w [] [(b3,.cells ⟨A8 (k,d,u)⟩ Bn (0,0))] w') [] [0,1,2,3,4,5,6,7,8,9,10,11,12] AD hS.drew ?_;have hS:=hS.drew;generalize w2.drew=w2 at hS;unfold A8 at hS;refine jr ⟨?_⟩;rw[show((p.length:Int)-1)=((p.length-1:Nat):Int) by omega];refine jr ⟨?_⟩;refine Arr.ldcC ha hk0 AB ?_;refine jr ⟨?_⟩;rw[hlt,Bool.not_true];refine jr ⟨?_⟩
    have hv:AT Bn 3 none ([]:List AO).length 0 (([]:List AO).flatMap BN) []:=AT.nil;have hS:St w [] ([]++[(b3,.cells ⟨[AG k,.bool d,AG u]⟩ Bn (0,0))]) w2:=hS;(repeat(refine jt ⟨?_⟩;refine hS.q ?_;intro _ hS));refine jt ⟨?_⟩;refine St.app (sz:=3) (m:=(p).length) AK rfl rfl rfl rfl hS hv (news:=(p).flatMap BN) (Dg _) (hS.arrOld hap) (Ey _) (by show(_+_)*40≤_;(try simp);(try omega)) (by(try simp);(try omega)) ?_
    intro a1 c1 L1 w3 hv hS;rw[←DR,CP]at hv;rw[CP ([]) (p)];rw[CU]at hv;rw[CU];(repeat(refine jt ⟨?_⟩;refine hS.q ?_;intro _ hS));refine jt ⟨?_⟩;cases d with
    |true=>
     (repeat(refine jt ⟨?_⟩;refine hS.q ?_;intro _ hS));refine jt ⟨?_⟩;rw[show p++Em (k,true,u)=p by simp[Em]];cases q with
     |nil=>
      have hlp:l.length=p.length:=by simpa using hll
      refine AL.draw AK mixed (λw'=>St w [] (L1++[(b3,.cells ⟨[AG k,.bool true,AG u]⟩ Bn (0,0))]) w') [] [0,1,2,3,4,5,6,7,8,9,10,11,12,13] AD hS.drew ?_;have hS:=hS.drew;generalize w3.drew=w3 at hS;refine jr ⟨?_⟩;rw[show l.length-((p.length:Nat):Int).toNat=([]:List AO).length by simp;omega];refine St.app (sz:=3) (m:=(([]:List AO)).length) AK rfl rfl rfl rfl hS hv (news:=(([]:List AO)).flatMap BN) (Dg _) (Arr.nil _ _ _) (Ey _) (by show(_+_)*40≤_;(try simp);(try omega)) (by(try simp);(try omega)) ?_
      intro a1 c1 L1 w3 hv hS;rw[←DR,CP]at hv;rw[CP (p) (([]:List AO))];(repeat(refine jt ⟨?_⟩;refine hS.q ?_;intro _ hS));refine jt ⟨?_⟩;exact⟨a1,c1,L1,rfl,hv,hS.sub (CC _ _)⟩
     |cons x q=>
      have hlp:l.length=p.length+(q.length+1):=by simpa using hll
      have haq:Arr w [] (CV g off p.length cap 3) ((x::q).flatMap BN):=by
       rw[hpq,DR]at ha;exact Arr.dropS (k:=p.length) ha (Dg _) λ_=>AA
      have haq':Arr w [] (CV g off (p.length+1) cap 3) (q.flatMap BN):=by
       rw[hpq,show p++x::q=(p++[x])++q by simp,DR]at ha;refine Arr.dropS (k:=p.length+1) ha (by rw[Dg];simp) λh=>?_;cases q with
       |nil=>exact absurd rfl h
       |cons y q=>simp at hlp;omega
      have hkx:(l.flatMap BN)[p.length*3]?=some (AG x.1):=by
       have:=LO l p.length AA;rw[this];subst hpq;simp
      by_cases hxk:x.1=k
      ·refine AL.draw AK mixed (λw'=>St w [] (L1++[(b3,.cells ⟨[AG k,.bool true,AG u]⟩ Bn (0,0))]) w') [] [0,1,2,3,4,5,6,7,8,9,10,11,12,13] AD hS.drew ?_;have hS:=hS.drew;generalize w3.drew=w3 at hS;refine jr ⟨?_⟩;refine Arr.ldcC ha hkx AB ?_;refine jr ⟨?_⟩;rw[show Ec k (x::q)=q by rw[HW,if_pos hxk]];rw[show l.length-((p.length:Nat)+1:Int).toNat=q.length by omega];rw[show((p.length:Nat)+1:Int).toNat=p.length+1 by omega]
       refine St.app (sz:=3) (m:=(q).length) AK rfl rfl rfl rfl hS hv (news:=(q).flatMap BN) (Dg _) (hS.arrOld haq') (Ey _) (by show(_+_)*40≤_;(try simp);(try omega)) (by(try simp);(try omega)) ?_;intro a1 c1 L1 w3 hv hS;rw[←DR,CP]at hv;rw[CP (p) (q)];(repeat(refine jt ⟨?_⟩;refine hS.q ?_;intro _ hS));refine jt ⟨?_⟩;exact⟨a1,c1,L1,rfl,hv,hS.sub (CC _ _)⟩
      ·refine AL.draw AK mixed (λw'=>St w [] (L1++[(b3,.cells ⟨[AG k,.bool true,AG u]⟩ Bn (0,0))]) w') [] [0,1,2,3,4,5,6,7,8,9,10,11,12,13] AD hS.drew ?_;have hS:=hS.drew;generalize w3.drew=w3 at hS;refine jr ⟨?_⟩;refine Arr.ldcC ha hkx AB ?_;refine jr ⟨?_⟩;rw[show Ec k (x::q)=x::q by rw[HW,if_neg hxk]];rw[show l.length-((p.length:Nat):Int).toNat=(x::q).length by simp;omega];refine St.app (sz:=3) (m:=(x::q).length) AK rfl rfl rfl rfl hS hv (news:=(x::q).flatMap BN) (Dg _) (hS.arrOld haq) (Ey _) (by show(_+_)*40≤_;(try simp);(try omega)) (by(try simp);(try omega)) ?_
       intro a1 c1 L1 w3 hv hS;rw[←DR,CP]at hv;rw[CP (p) (x::q)];(repeat(refine jt ⟨?_⟩;refine hS.q ?_;intro _ hS));refine jt ⟨?_⟩;exact⟨a1,c1,L1,rfl,hv,hS.sub (CC _ _)⟩
    |false=>
     (repeat(refine jt ⟨?_⟩;refine hS.q ?_;intro _ hS));refine jt ⟨?_⟩;refine hS.al ?_;intro r w4 _ hS;(repeat(refine jt ⟨?_⟩;refine hS.q ?_;intro _ hS));refine jt ⟨?_⟩;refine St.app (sz:=3) (m:=([(k,u)]).length) AK rfl rfl rfl rfl hS hv (news:=([(k,u)]).flatMap BN) (Dg _) (by have:=hS.arr (b:=r) (T':=[]) AB;exact this) (Ey _) (by show(_+_)*40≤_;(try simp);(try omega)) (by(try simp);(try omega)) ?_
     intro a1 c1 L1 w3 hv hS;rw[←DR,CP]at hv;rw[CP (p) ([(k,u)])];have hS:St w [] (L1++[(b3,.cells ⟨[AG k,.bool false,AG u]⟩ Bn (0,0))]) w3:=hS.sub (AS _ _);(repeat(refine jt ⟨?_⟩;refine hS.q ?_;intro _ hS));refine jt ⟨?_⟩;rw[show p++Em (k,false,u)=p++[(k,u)] by simp[Em]];cases q with
     |nil=>
      have hlp:l.length=p.length:=by simpa using hll
      refine AL.draw AK mixed (λw'=>St w [] (L1++[(b3,.cells ⟨[AG k,.bool false,AG u]⟩ Bn (0,0))]) w') [] [0,1,2,3,4,5,6,7,8,9,10,11,12,13] AD hS.drew ?_;have hS:=hS.drew;generalize w3.drew=w3 at hS;refine jr ⟨?_⟩;rw[show l.length-((p.length:Nat):Int).toNat=([]:List AO).length by simp;omega];refine St.app (sz:=3) (m:=(([]:List AO)).length) AK rfl rfl rfl rfl hS hv (news:=(([]:List AO)).flatMap BN) (Dg _) (Arr.nil _ _ _) (Ey _) (by show(_+_)*40≤_;(try simp);(try omega)) (by(try simp);(try omega)) ?_
      intro a1 c1 L1 w3 hv hS;rw[←DR,CP]at hv;rw[CP (p++[(k,u)]) (([]:List AO))];(repeat(refine jt ⟨?_⟩;refine hS.q ?_;intro _ hS));refine jt ⟨?_⟩;exact⟨a1,c1,L1,rfl,hv,hS.sub (CC _ _)⟩
     |cons x q=>
      have hlp:l.length=p.length+(q.length+1):=by simpa using hll
      have haq:Arr w [] (CV g off p.length cap 3) ((x::q).flatMap BN):=by
       rw[hpq,DR]at ha;exact Arr.dropS (k:=p.length) ha (Dg _) λ_=>AA
      have haq':Arr w [] (CV g off (p.length+1) cap 3) (q.flatMap BN):=by
       rw[hpq,show p++x::q=(p++[x])++q by simp,DR]at ha;refine Arr.dropS (k:=p.length+1) ha (by rw[Dg];simp) λh=>?_;cases q with
       |nil=>exact absurd rfl h
       |cons y q=>simp at hlp;omega
      have hkx:(l.flatMap BN)[p.length*3]?=some (AG x.1):=by
       have:=LO l p.length AA;rw[this];subst hpq;simp
      by_cases hxk:x.1=k
      ·refine AL.draw AK mixed (λw'=>St w [] (L1++[(b3,.cells ⟨[AG k,.bool false,AG u]⟩ Bn (0,0))]) w') [] [0,1,2,3,4,5,6,7,8,9,10,11,12,13] AD hS.drew ?_;have hS:=hS.drew;generalize w3.drew=w3 at hS;refine jr ⟨?_⟩;refine Arr.ldcC ha hkx AB ?_;refine jr ⟨?_⟩;rw[show Ec k (x::q)=q by rw[HW,if_pos hxk]];rw[show l.length-((p.length:Nat)+1:Int).toNat=q.length by omega];rw[show((p.length:Nat)+1:Int).toNat=p.length+1 by omega]
       refine St.app (sz:=3) (m:=(q).length) AK rfl rfl rfl rfl hS hv (news:=(q).flatMap BN) (Dg _) (hS.arrOld haq') (Ey _) (by show(_+_)*40≤_;(try simp);(try omega)) (by(try simp);(try omega)) ?_;intro a1 c1 L1 w3 hv hS;rw[←DR,CP]at hv;rw[CP (p++[(k,u)]) (q)];(repeat(refine jt ⟨?_⟩;refine hS.q ?_;intro _ hS));refine jt ⟨?_⟩;exact⟨a1,c1,L1,rfl,hv,hS.sub (CC _ _)⟩
      ·refine AL.draw AK mixed (λw'=>St w [] (L1++[(b3,.cells ⟨[AG k,.bool false,AG u]⟩ Bn (0,0))]) w') [] [0,1,2,3,4,5,6,7,8,9,10,11,12,13] AD hS.drew ?_;have hS:=hS.drew;generalize w3.drew=w3 at hS;refine jr ⟨?_⟩;refine Arr.ldcC ha hkx AB ?_;refine jr ⟨?_⟩;rw[show Ec k (x::q)=x::q by rw[HW,if_neg hxk]];rw[show l.length-((p.length:Nat):Int).toNat=(x::q).length by simp;omega];refine St.app (sz:=3) (m:=(x::q).length) AK rfl rfl rfl rfl hS hv (news:=(x::q).flatMap BN) (Dg _) (hS.arrOld haq) (Ey _) (by show(_+_)*40≤_;(try simp);(try omega)) (by(try simp);(try omega)) ?_
       intro a1 c1 L1 w3 hv hS;rw[←DR,CP]at hv;rw[CP (p++[(k,u)]) (x::q)];(repeat(refine jt ⟨?_⟩;refine hS.q ?_;intro _ hS));refine jt ⟨?_⟩;exact⟨a1,c1,L1,rfl,hv,hS.sub (CC _ _)⟩
structure Pf(w:World)(a:Option Addr)(cap:Nat)(l:List AO):Prop where
 arr:Arr w [] a (l.flatMap BN)
 addr:a=none∨ ∃g off,a=some ⟨g,off,none⟩
 cap:l.length≤cap
 sorted:l.Pairwise EQ
theorem Pf.keep{w0 w:World}{H:AH}(hS:St w0 [] H w){a:Option Addr}{cap:Nat}{l:List AO}(h:Pf w0 a cap l):Pf w a cap l:=⟨hS.arrOld h.arr,h.addr,h.cap,h.sorted⟩
structure WI where
 l:List AO
 k:Nat
 a:Option Addr
 c:Nat
def Es(P:AH)(a:Option Addr)(xs:List Value):Prop:=∀w,Holds P w→Arr w [] a xs
theorem Es.nil(P:AH):Es P none []:=λ_ _=>Arr.nil _ _ _
theorem sB{P Q:AH}{w:World}(h:Holds P w)(hs:Q.Sublist P):Holds Q w:=⟨λp hp=>h.own p (hs.subset hp),h.nd.sublist (hs.map _)⟩
theorem Es.more{P Q:AH}{a:Option Addr}{xs:List Value}(h:Es P a xs)(hs:P.Sublist Q):Es Q a xs:=λw hw=>h w (sB hw hs)
theorem Es.vec{e:TypeId}{sz:Nat}{a:Option Addr}{n c:Nat}{xs:List Value}{L:AH}(h:AT e sz a n c xs L)(P:AH):Es (L++P) a xs:=λw hw=>h.arr (St.enter hw) AB
theorem Es.in{P H:AH}{a:Option Addr}{xs:List Value}(h:Es P a xs){w0 w:World}{T:List Nat}{F:AH→AH}(hS:St w0 T H w) [hc:Chunk H P F]:Arr w [] a xs:=h w (hS.part (L:=P))
theorem sC{P L:AH}{w w':World}(hP:Holds P w)(hS:St w [] L w'):Holds (L++P) w':=((St.enter hP).callNew hS).holds
structure aO where
 l:List AO
 k:Nat
 a:Option Addr
 c:Nat
theorem Pt{w:World}{P:AH}(hP:Holds P w){a b:Option Addr}{ca cb:Nat}{l:List AO}{os:List Ac}(ha:Es P a (l.flatMap BN))(had:a=none∨ ∃g off,a=some ⟨g,off,none⟩)(hcp:l.length≤ca)(hso:l.Pairwise EQ)(hb:Arr w [] b (os.flatMap A8))(hlen:l.length+os.length≤8388608):
  Cl Tryz.prog qG [.slice a l.length ca,.slice b os.length cb] w λv w'=>∃a' c' L',v= .slice a' (Cf l os).length c'∧Es (L'++P) a' ((Cf l os).flatMap BN)∧(a'=none∨ ∃g off,a'=some ⟨g,off,none⟩)∧(Cf l os).length≤c'∧(Cf l os).Pairwise EQ∧St w [] L' w':=by
 have hS:=St.start w;refine kT rfl ?_;refine jq ⟨?_⟩;refine AL.loop (λx:aO=>[(0,.slice x.a x.l.length x.c),(7,.slice b os.length cb),(8,.int .i64 os.length),(9,.int .i64 x.k)])
  (λx w'=>x.k≤os.length∧x.l=Cf l (os.take x.k)∧ ∃L',Es (L'++P) x.a (x.l.flatMap BN)∧(x.a=none∨ ∃g off,x.a=some ⟨g,off,none⟩)∧x.l.length≤x.c∧x.l.Pairwise EQ∧St w [] L' w') (λx=>os.length-x.k) ⟨l,0,a,ca⟩
  ⟨rfl,rfl,rfl,rfl,trivial⟩ ⟨Ag _,by simp[Cf],[],ha,had,hcp,hso,hS⟩ ?_
 clear hS;rintro⟨m,k,a1,c1⟩w1⟨hk,hm,L1,hla,hlad,hlc,hls,hS⟩;simp only at hk hm hla hlad hlc hls hS⊢;by_cases hkl:k<os.length
 ·have hcl:=HU os;obtain⟨g,off,rfl, -, -⟩:=hb.get (j:=k*3) AA;have hat:=I3 os k hkl;have hsucc:=zL l os k hkl;have hml:m.length≤l.length+os.length:=by
   have:=Ys l (os.take k);rw[BR]at this;rw[hm];omega
  generalize os[k]=o at hat hsucc;have hb1:=hS.arrOld hb;have hS0:=hS;have hh1:=sC hP hS;clear hS;have hS:=St.start w1;refine jq ⟨?_⟩;refine Arr.ldn hS hb1 rfl (k:=k*3) hat rfl ?_;unfold A8;refine jq ⟨?_⟩;refine hS.al ?_;intro b6 w2 _ hS;(repeat(refine jt ⟨?_⟩;refine hS.q ?_;intro _ hS));refine jt ⟨?_⟩;rename_i w3;refine Cl.mono (Zj (o:=o) (Nt m o.1).symm (Pz m o.1) (P0 hls o.1) (hS.arrOld (hla _ hh1)) hlad hlc AA) ?_
  rintro _ w4⟨a4,c4,L4,rfl,hv4,hS'⟩;have hS:=hS.callNew hS';rw[show Fj m o.1++Em o++Ec o.1 (Eu m o.1)=G8 m o from rfl]at hv4;rw[show Fj m o.1++Em o++Ec o.1 (Eu m o.1)=G8 m o from rfl];refine jq ⟨?_⟩;have hS4:St w1 [] L4 w4:=hS.sub (CC _ _);exact⟨⟨G8 m o,k+1,a4,c4⟩,⟨rfl,rfl,rfl,rfl,trivial⟩,⟨by simp only;omega,by simp only;rw[hsucc,hm],L4,Es.vec hv4 P,zA hv4,hv4.cap,XV hls o,(hS0.callNew hS4).sub (CC _ _)⟩,by simp only;omega⟩
 ·have hke:k=os.length:=AA;subst hke;rw[Bz]at hm;refine jq ⟨?_⟩;rw[←hm];exact⟨a1,c1,L1,rfl,hla,hlad,hlc,hls,hS⟩
end Go.Proofs.YtkgibdhpijdbfaaGreatDoor
