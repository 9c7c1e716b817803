/- Texts of this claim, one behind the other. -/
import Derived.Test.YtkgibdhpijdbfaaGreatDoorZ12
import Derived.Test.YtkgibdhpijdbfaaGreatDoorZ9
import Derived.Test.YtkgibdhpijdbfaaGreatDoorZ13
import Derived.Test.YtkgibdhpijdbfaaGreatDoorZ2
import Derived.Test.YtkgibdhpijdbfaaGreatDoorZ4
import Derived.Test.YtkgibdhpijdbfaaGreatDoorZ8
import Derived.Test.YtkgibdhpijdbfaaGreatDoorZ6
set_option linter.unusedVariables false
set_option linter.unusedSimpArgs false
set_option maxHeartbeats 16000000
namespace Go.Proofs.YtkgibdhpijdbfaaGreatDoor
open Go Go.Eng Go.Proofs
def A9(m:AJ)(name:AE):Int×AJ:=
 if(BA m name).2≠0 then((BA m name).2,m)
 else(if(acted m).off then 7 else 0,if DN m=1 then acted m else{acted m with files:=Cn name m.files})
theorem PZ{w:World}{b:Nat}{m:AJ}{L:AH}(hF:BI b m L)(hh:Holds L w)(name:AE)(h1:m.armed+1≤9223372036854775807)(h2:m.acts+1≤9223372036854775807):
  Cl Tryz.prog VK [ptr b,AG name] w λv w'=>v= .int .i64 (A9 m name).1∧ ∃L',BI b (A9 m name).2 L'∧St w (keys L) L' w':=by
 refine kX rfl ?_;unfold A9;refine jq ⟨?_⟩;refine(Mm hF hh name).mono ?_;rintro _ w1⟨rfl,hS⟩;generalize BA m name=y;obtain⟨x,e⟩:=y;refine jq ⟨?_⟩;refine hS.al ?_;intro r w2 _ hS;(repeat(refine jt ⟨?_⟩;refine hS.q ?_;intro _ hS));refine jt ⟨?_⟩;by_cases he:e=0
 ·subst he;rw[if_neg AB];refine jq ⟨?_⟩;refine(Ns hF (hS.part (L:=L)) h1 h2).mono ?_;rintro _ w3⟨rfl,L1,hF1,hS'⟩;have hS:=hS.call (L:=L) hS';generalize keys L=T0 at hS⊢;by_cases h4:DN m=1
  ·rw[if_pos h4];refine jq ⟨?_⟩;refine(J0 hF1 (hS.part (L:=L1))).mono ?_;rintro _ w6⟨rfl,hS'⟩;have hS:=hS.call (L:=L1) hS';refine jq ⟨?_⟩;exact⟨rfl,_,hF1,hS.sub (AS _ _)⟩
  ·rw[if_neg h4];obtain⟨mf1,es1,c1,hes1,ft1,Lf1,hf1⟩:=hF1;generalize hac:(acted m).off=off1 at hS⊢;(repeat(refine jt ⟨?_⟩;refine hS.q ?_;intro _ hS));refine jt ⟨?_⟩;refine St.mapDel AK Bn.str rfl rfl JD hS hes1 ?_;intro es2 c2 w5 hes2 hS;have hS:=hS.sub (AS _ _);refine jq ⟨?_⟩;have hF2:=BI.mk (b:=b) (m:={acted m with files:=Cn name m.files}) mf1 es2 c2 hes2 ft1 Lf1 hf1;subst hac;refine(J0 hF2 hS.holds).mono ?_
   rintro _ w6⟨rfl,hS'⟩;have hS:=hS.call hS';refine jq ⟨?_⟩;exact⟨rfl,_,hF2,hS⟩
 ·rw[if_pos he];refine jq ⟨?_⟩;exact⟨rfl,L,hF,hS.sub (AS _ _)⟩
def DU(t:List UInt8):List (List UInt8)×Nat:=JA t (t.length+1) 0
theorem TF{w:World}(t:List UInt8)(ht:t.length≤1099511627776):
  Cl Tryz.prog mI [AG t] w λv w'=>∃a cap L,v= .tuple ⟨[.slice a (DU t).1.length cap,.int .i64 (DU t).2]⟩∧AT C0 1 a (DU t).1.length cap ((DU t).1.map AG) L∧St w [] L w':=by
 have hS:=St.start w;refine eG rfl ?_;refine jq ⟨?_⟩;refine AM.loop (λ(x:Nat×List (List UInt8)×Option Addr×Nat)=>[(0,AG t),(4,.slice x.2.2.1 x.2.1.length x.2.2.2),(5,.int .i64 x.1)])
  (λx w'=>x.1≤t.length∧x.2.1.length*8≤x.1∧DU t=(x.2.1++(JA t (t.length+1-x.2.1.length) x.1).1,(JA t (t.length+1-x.2.1.length) x.1).2)∧ ∃L,AT C0 1 x.2.2.1 x.2.1.length x.2.2.2 (x.2.1.map AG) L∧St w [] L w') (λx=>t.length-x.1) (0,[],none,0)
  ⟨rfl,rfl,rfl,trivial⟩ ⟨Ag _,Ag _,by simp[DU],[],AT.nil,hS⟩ ?_
 rintro⟨k,ps,a,cap⟩w1⟨hk,hk8,hsc,L,hv,hS⟩;simp only at hk hk8 hsc hv⊢;have hfu:t.length+1-ps.length=(t.length-ps.length)+1:=AA;rw[hfu]at hsc;simp only[JA]at hsc;refine jq ⟨?_⟩;refine(Sn t k AA hk).mono ?_;rintro _ w2⟨rfl,hS'⟩;have hS:=hS.call0 hS';have hnx:=Qn t k;generalize B7 t k=y at hnx hsc⊢;obtain⟨p,e,er⟩:=y;simp only at hnx hsc⊢;by_cases h0:er=0
 ·subst h0;obtain⟨n1,n2,n3,n4⟩:=hnx rfl;rw[if_neg AB]at hsc;refine jq ⟨?_⟩;refine hS.al ?_;intro b2 w3 _ hS;refine St.app (sz:=1) AK rfl rfl rfl rfl hS hv (news:=[AG p]) rfl (hS.arr (b:=b2) AB) rfl (by show(_+_)*16≤_;omega) AA ?_;intro a' cap' L' w4 hv' hS;have hS:=hS.sub (AS _ _);refine jq ⟨?_⟩;refine⟨(e,ps++[p],a',cap'),⟨rfl,?_,rfl,trivial⟩,⟨n2,by simp;omega,?_,L',by simpa using hv',hS⟩,by simp only;omega⟩
  ·show _=(_:Value);simp
  ·simp only[AP,Ah,Bv];rw[show t.length+1-(ps.length+(0+1))=t.length-ps.length by omega,hsc];simp
 ·rw[if_pos h0]at hsc;refine jq ⟨?_⟩;refine⟨a,cap,L,?_,?_,hS⟩
  ·rw[hsc];simp
  ·rw[hsc];simpa using hv
abbrev A6(t:AE):Obj:= .cells ⟨[AG t]⟩ DM (0,0)
def CP(t:AE):Nat×Int×AE:=match Hw t with
 |some (m,r)=>(m,0,r)
 |none=>(0,1,t)
theorem tJ(n c k:Nat)(hn:n<2 ^ (7*k))(hc:c<256)(hk:k≤9)(h9:k=9→c≤1):
  HS .u64 (n:Int) (IntKind.u64.wrap (F3 .u8 (c:Int) 127*2 ^ (7*k)))=((n+c % 128*2 ^ (7*k):Nat):Int)∧n+c % 128*2 ^ (7*k)<18446744073709551616:=by
 have e1:F3 .u8 (c:Int) 127=((c % 128:Nat):Int):=by
  have h:=Nu .u8 rfl c 127 hc AC;rw[show((127:Nat):Int)=127 from rfl]at h;rw[h,show(127:Nat)=2 ^ 7-1 by rfl,Mu]
 have hb:n+c % 128*2 ^ (7*k)<18446744073709551616:=by
  have hm:c % 128<128:=FO _ AA;by_cases h:k=9
  ·subst h;have:=h9 rfl;have h1:c % 128≤1:=AA;have h2:c % 128*2 ^ (7*9)≤1*2 ^ (7*9):=Gp _ h1;omega
  ·have h3:2 ^ (7*k)≤2 ^ (7*8):=Nat.pow_le_pow_right AA AA;have h4:c % 128*2 ^ (7*k)≤127*2 ^ (7*k):=Gp _ AA;omega
 refine⟨?_,hb⟩;have e2:((c % 128:Nat):Int)*2 ^ (7*k)=((c % 128*2 ^ (7*k):Nat):Int):=AB;have e3:c % 128*2 ^ (7*k) % 2 ^ IntKind.u64.bits=c % 128*2 ^ (7*k):=Dx (show c % 128*2 ^ (7*k)<18446744073709551616 by omega);rw[e1,e2,FY .u64 rfl,e3,LP .u64 rfl _ _ (show n<18446744073709551616 by omega) (show _<18446744073709551616 by omega),Nat.or_comm,Oq _ _ _ hn,Nat.add_comm]
def M3(t:AE)(k n:Nat):Prop:=k≤10∧k≤t.length∧n<2 ^ (7*k)∧FD 0 t=match FD k (t.drop k)with
 |some (m,r)=>some (n+m*2 ^ (7*k),r)
 |none=>none
theorem Om{t:AE}{k n:Nat}(h:M3 t k n)(hf:FD k (t.drop k)=none):CP t=(0,1,t):=by
 unfold CP Hw;rw[h.2.2.2,hf]
theorem u5{t:AE}{k:Nat}(hk: ¬(k<10∧k<t.length)):FD k (t.drop k)=none:=by
 cases h:t.drop k with
 |nil=>rfl
 |cons c u=>
  have:k<t.length:=by
   have:=congrArg List.length h;simp at this;omega
  unfold FD;rw[if_pos AA]
theorem M5{t:AE}{k:Nat}(hk:k<t.length):FD k (t.drop k)=if 9<k∨(k=9∧1<t[k].toNat)∨(0<k∧t[k].toNat=0)then none
  else if t[k].toNat<128 then some (t[k].toNat,t.drop (k+1))
  else match FD (k+1) (t.drop (k+1))with
   |some (m,r)=>some (t[k].toNat % 128+128*m,r)
   |none=>none:=by
 rw[FM hk,FD]
 all_goals rfl
theorem RW{t:AE}{k n:Nat}(h:M3 t k n)(hk:k<t.length)(h1: ¬(9<k∨(k=9∧1<t[k].toNat)∨(0<k∧t[k].toNat=0)))(h2:t[k].toNat<128):
  CP t=(n+t[k].toNat % 128*2 ^ (7*k),0,t.drop (k+1)):=by
 unfold CP Hw;rw[h.2.2.2,M5 hk,if_neg h1,if_pos h2,Dx h2]
theorem RX{t:AE}{k n:Nat}(h:M3 t k n)(hk:k<t.length)(h1: ¬(9<k∨(k=9∧1<t[k].toNat)∨(0<k∧t[k].toNat=0)))(h2: ¬t[k].toNat<128):
  M3 t (k+1) (n+t[k].toNat % 128*2 ^ (7*k)):=by
 obtain⟨h3,h4,h5,h6⟩:=h;refine⟨AA,AA,?_,?_⟩
 ·rw[show 7*(k+1)=7*k+7 by omega,Nat.pow_add];have h4:t[k].toNat % 128*2 ^ (7*k)≤127*2 ^ (7*k):=Gp _ AA;generalize 2 ^ (7*k)=P at*;omega
 ·rw[h6,M5 hk,if_neg h1,if_neg h2];cases FD (k+1) (t.drop (k+1))with
  |none=>rfl
  |some x=>
   obtain⟨m,r⟩:=x;simp only[Option.some.injEq,Prod.mk.injEq,and_true];rw[show 7*(k+1)=7*k+7 by omega,Nat.pow_add,HM,Gn]
   congr 2
   rw[show 2 ^ (7*k)*2 ^ 7=128*2 ^ (7*k) by omega,Hs 128 m,Nat.mul_assoc]
theorem RK(n c k:Nat)(hn:n<2 ^ (7*k))(hc:c<256)(hk:k≤9)(h9:k=9→c≤1):
  HS .u64 (n:Int) (IntKind.u64.wrap (IntKind.u64.wrap (F3 .u8 (c:Int) 127)*2 ^ min (7*(k:Int)).toNat IntKind.u64.bits))=((n+c % 128*2 ^ (7*k):Nat):Int):=by
 have h:=(tJ n c k hn hc hk h9).1;have e1:F3 .u8 (c:Int) 127=((c % 128:Nat):Int):=by
  have h:=Nu .u8 rfl c 127 hc AC;rw[show((127:Nat):Int)=127 from rfl]at h;rw[h,show(127:Nat)=2 ^ 7-1 by rfl,Mu]
 have e2:IntKind.u64.wrap (((c % 128:Nat):Nat):Int)=((c % 128:Nat):Int):=by
  rw[FY .u64 rfl];congr 1;exact Dx (by show _<18446744073709551616;omega)
 have e3:min (7*(k:Int)).toNat IntKind.u64.bits=7*k:=by show min _ 64=_;omega
 rw[e1]at h⊢;rw[e2,e3];exact h
theorem JK{w:World}{b:Nat}{t:AE}(hh:Holds [(b,A6 t)] w)(ht:t.length≤70368744177664):
  Cl Tryz.prog oC [ptr b] w λv w'=>v= .tuple ⟨[.int .u64 (CP t).1,.int .i64 (CP t).2.1]⟩∧St w [b] [(b,A6 (CP t).2.2)] w':=by
 have hS:St w [b] [(b,A6 t)] w:=St.enter hh;refine gH rfl ?_;refine jq ⟨?_⟩;refine AM.loop (λx:Nat×Nat=>[(0,ptr b),(4,.int .u64 x.2),(5,.int .i64 x.1)])
  (λx w'=>M3 t x.1 x.2∧St w [b] [(b,A6 t)] w') (λx=>10-x.1) (0,0)
  ⟨rfl,rfl,rfl,trivial⟩ ⟨⟨AA,AA,AB,by simp only[List.drop_zero];cases FD 0 t<;>simp⟩,hS⟩ ?_
 rintro⟨k,n⟩w1⟨hJ,hS⟩;simp only at hJ hS⊢;have hkk:=hJ.1;have hkl:=hJ.2.1;by_cases hk:k<10∧k<t.length
 ·obtain⟨hk10,hkt⟩:=hk;have hmin:((k:Int)<min 10 (t.length:Int)):=AA;(repeat(refine jt ⟨?_⟩;refine hS.q ?_;intro _ hS));refine jt ⟨?_⟩;obtain⟨c,hc⟩: ∃c,c=t.getD ((k:Int)).toNat 0:=⟨_,rfl⟩;have hct:c=t[k]:=by rw[hc];simp[hkt]
  rw[←hc];have hclt:=c.toNat_lt;by_cases h9:k=9
  ·by_cases h1:1<c.toNat
   ·(repeat(refine jt ⟨?_⟩;refine hS.q ?_;intro _ hS));refine jt ⟨?_⟩;rw[Om hJ (by rw[M5 hkt,if_pos (by rw[←hct];omega)])];exact⟨rfl,hS⟩
   ·by_cases hz:c.toNat=0
    ·(repeat(refine jt ⟨?_⟩;refine hS.q ?_;intro _ hS));refine jt ⟨?_⟩;rw[Om hJ (by rw[M5 hkt,if_pos (by rw[←hct];omega)])];exact⟨rfl,hS⟩
    ·have hl7:=RK n c.toNat k hJ.2.2.1 c.toNat_lt AA AA;have hnb: ¬(9<k∨(k=9∧1<t[k].toNat)∨(0<k∧t[k].toNat=0)):=by rw[←hct];omega
     have ek:((k:Int)+1).toNat=k+1:=AA;by_cases h128:c.toNat<128
     ·have hdn:=RW hJ hkt hnb (by rw[←hct];exact h128);rw[←hct]at hdn;(repeat(refine jt ⟨?_⟩;refine hS.q ?_;intro _ hS));refine jt ⟨?_⟩;rw[hdn];rw[ek]at hS;exact⟨congrArg (λz=>Value.tuple ⟨[.int .u64 z,.int .i64 0]⟩) hl7,hS⟩
     ·have hnx:=RX hJ hkt hnb (by rw[←hct];exact h128);rw[←hct]at hnx
      first
      |(exfalso;omega)
      |((repeat(refine jt ⟨?_⟩;refine hS.q ?_;intro _ hS));refine jt ⟨?_⟩
        exact⟨(k+1,n+c.toNat % 128*2 ^ (7*k)),⟨rfl,congrArg (Value.int .u64) hl7,rfl,trivial⟩,⟨hnx,hS⟩,by simp only;omega⟩)
  ·by_cases h0:0<k
   ·by_cases hz:c.toNat=0
    ·(repeat(refine jt ⟨?_⟩;refine hS.q ?_;intro _ hS));refine jt ⟨?_⟩;rw[Om hJ (by rw[M5 hkt,if_pos (by rw[←hct];omega)])];exact⟨rfl,hS⟩
    ·have hl7:=RK n c.toNat k hJ.2.2.1 c.toNat_lt AA AA;have hnb: ¬(9<k∨(k=9∧1<t[k].toNat)∨(0<k∧t[k].toNat=0)):=by rw[←hct];omega
     have ek:((k:Int)+1).toNat=k+1:=AA;by_cases h128:c.toNat<128
     ·have hdn:=RW hJ hkt hnb (by rw[←hct];exact h128);rw[←hct]at hdn;(repeat(refine jt ⟨?_⟩;refine hS.q ?_;intro _ hS));refine jt ⟨?_⟩;rw[hdn];rw[ek]at hS;exact⟨congrArg (λz=>Value.tuple ⟨[.int .u64 z,.int .i64 0]⟩) hl7,hS⟩
     ·have hnx:=RX hJ hkt hnb (by rw[←hct];exact h128);rw[←hct]at hnx
      first
      |(exfalso;omega)
      |((repeat(refine jt ⟨?_⟩;refine hS.q ?_;intro _ hS));refine jt ⟨?_⟩
        exact⟨(k+1,n+c.toNat % 128*2 ^ (7*k)),⟨rfl,congrArg (Value.int .u64) hl7,rfl,trivial⟩,⟨hnx,hS⟩,by simp only;omega⟩)
   ·have hl7:=RK n c.toNat k hJ.2.2.1 c.toNat_lt AA AA;have hnb: ¬(9<k∨(k=9∧1<t[k].toNat)∨(0<k∧t[k].toNat=0)):=by rw[←hct];omega
    have ek:((k:Int)+1).toNat=k+1:=AA;by_cases h128:c.toNat<128
    ·have hdn:=RW hJ hkt hnb (by rw[←hct];exact h128);rw[←hct]at hdn;(repeat(refine jt ⟨?_⟩;refine hS.q ?_;intro _ hS));refine jt ⟨?_⟩;rw[hdn];rw[ek]at hS;exact⟨congrArg (λz=>Value.tuple ⟨[.int .u64 z,.int .i64 0]⟩) hl7,hS⟩
    ·have hnx:=RX hJ hkt hnb (by rw[←hct];exact h128);rw[←hct]at hnx
     first
     |(exfalso;omega)
     |((repeat(refine jt ⟨?_⟩;refine hS.q ?_;intro _ hS));refine jt ⟨?_⟩
       exact⟨(k+1,n+c.toNat % 128*2 ^ (7*k)),⟨rfl,congrArg (Value.int .u64) hl7,rfl,trivial⟩,⟨hnx,hS⟩,by simp only;omega⟩)
 ·have hmin: ¬((k:Int)<min 10 (t.length:Int)):=AA;(repeat(refine jt ⟨?_⟩;refine hS.q ?_;intro _ hS));refine jt ⟨?_⟩;rw[Om hJ (u5 hk)];exact⟨rfl,hS⟩
def Da(t:AE):Int×Int×AE:=(KV (CP t).1,(CP t).2)
theorem LI(t:AE):(CP t).1<18446744073709551616:=by
 unfold CP;cases h:Hw t with
 |none=>show 0<18446744073709551616;omega
 |some x=>obtain⟨m,r⟩:=x;exact((Jg t m r).1 h).2
theorem LH(t:AE):(CP t).2.2.length≤t.length:=by
 unfold CP;cases h:Hw t with
 |none=>exact AW _
 |some x=>
  obtain⟨m,r⟩:=x;have:=congrArg List.length ((Jg t m r).1 h).1;simp only[AP]at this;show r.length≤t.length;omega
theorem yZ(u:Nat)(h:u<18446744073709551616):Gv .i64 ((u / 2:Nat):Int) (0-((u % 2:Nat):Int))=KV u:=by
 show IntKind.i64.wrap (((BitVec.ofInt 64 ((u / 2:Nat):Int) ^^^ BitVec.ofInt 64 (0-((u % 2:Nat):Int))).toNat:Nat):Int)=_;have e1:BitVec.ofInt 64 ((u / 2:Nat):Int)=BitVec.ofNat 64 (u / 2):=BitVec.ofInt_natCast ..;unfold KV;by_cases h2:u % 2=0
 ·rw[if_pos h2,h2];have e2:BitVec.ofInt 64 (0-((0:Nat):Int))=0#64:=AC;rw[e1,e2,BitVec.xor_zero,BitVec.toNat_ofNat,Dx AA];unfold IntKind.wrap;simp only[IntKind.signed,IntKind.bits];simp;omega
 ·rw[if_neg h2,show u % 2=1 by omega];have e2:BitVec.ofInt 64 (0-((1:Nat):Int))=BitVec.allOnes 64:=AC;rw[e1,e2,BitVec.xor_allOnes,BitVec.toNat_not,BitVec.toNat_ofNat,Dx AA];unfold IntKind.wrap;simp only[IntKind.signed,IntKind.bits];simp;omega
theorem Pg{w:World}{b:Nat}{t:AE}(hh:Holds [(b,A6 t)] w)(ht:t.length≤70368744177664):
  Cl Tryz.prog oB [ptr b] w λv w'=>v= .tuple ⟨[.int .i64 (Da t).1,.int .i64 (Da t).2.1]⟩∧St w [b] [(b,A6 (Da t).2.2)] w':=by
 refine gG rfl ?_;refine jq ⟨?_⟩;refine Cl.mono (JK hh ht) ?_;rintro _ w1⟨rfl,hS⟩;unfold Da;have hlt:=LI t;generalize CP t=x at hS hlt⊢;obtain⟨u,e,r⟩:=x;simp only at hS hlt⊢;have e1:(u:Int).fdiv (2 ^ min (Int.toNat 1) IntKind.u64.bits)=((u / 2:Nat):Int):=by
  show(u:Int).fdiv (2 ^ 1)=_;rw[Io]
 have e2:F3 .u64 (u:Int) 1=((u % 2:Nat):Int):=by
  have h:=Nu .u64 rfl u 1 hlt AC;rw[show((1:Nat):Int)=1 from rfl]at h;rw[h,show(1:Nat)=2 ^ 1-1 by rfl,Mu]
 have hz:=yZ u hlt;refine jq ⟨?_⟩;rw[e1];refine jq ⟨?_⟩;rw[e2];refine jq ⟨?_⟩;exact⟨congrArg (λz=>Value.tuple ⟨[.int .i64 z,.int .i64 e]⟩) hz,hS⟩
theorem Pf{w:World}{b:Nat}{t:AE}(hh:Holds [(b,A6 t)] w):
  Cl Tryz.prog oA [ptr b] w λv w'=>v= .bool (decide (t=[]))∧St w [] [] w':=by
 have hS:St w [b] [(b,A6 t)] w:=St.enter hh;refine gF rfl ?_;(repeat(refine jt ⟨?_⟩;refine hS.q ?_;intro _ hS));refine jt ⟨?_⟩;exact⟨rfl,St.start w⟩
theorem Pe{w:World}{t:AE}:Cl Tryz.prog n9 [AG t] w λv w'=>∃b,v=ptr b∧St w [] [(b,A6 t)] w':=by
 have hS:=St.start w;refine gE rfl ?_;refine jq ⟨?_⟩;refine hS.al ?_;intro b w1 _ hS;refine jq ⟨?_⟩;exact⟨b,rfl,hS⟩
def GC(t:Int)(g:List AF):Option Nat:=g.findIdx? λx=>decide (x.s≤t)
def De(g:List AF)(seen:List Int)(i:Nat):Bool:=decide (i=0)||seen.any λn=>decide (GC n g=some i)
def Dp(p:Nat→Bool):Nat→List AF→List AF
 |_,[]=>[]
 |i,x::l=>if p i then x::Dp p (i+1) l else Dp p (i+1) l
theorem WG(p:Nat→Bool): ∀(l:List AF)(i:Nat)(x:AF),Dp p i (l++[x])=Dp p i l++if p (i+l.length)then [x]else []
 |[],i,x=>by simp only[Ca,Dp,Bv,Nat.add_zero]
 |y::l,i,x=>by
  simp only[D1,Dp,WG p l (i+1) x,Ah,show i+1+l.length=i+(l.length+1) by omega]
  split<;>rfl
theorem K8(p:Nat→Bool): ∀(l:List AF)(i:Nat),(Dp p i l).Sublist l
 |[],_=>List.Sublist.slnil
 |x::l,i=>by
  unfold Dp
  split
  ·exact(K8 p l (i+1)).cons_cons x
  ·exact(K8 p l (i+1)).cons x
theorem WF(p:Nat→Bool): ∀(l:List AF)(i j:Nat)(x:AF),l[j]?=some x→p (i+j)=true→x∈Dp p i l
 |[],_,_,_,h,_=>by simp at h
 |y::l,i,0,x,h,hp=>by
  simp at h;subst h;unfold Dp;rw[if_pos (by simpa using hp)];exact CM
 |y::l,i,j+1,x,h,hp=>by
  have h1:=WF p l (i+1) j x (by simpa using h) (by rw[show i+1+j=i+(j+1) by omega];exact hp);unfold Dp
  split
  ·exact CH _ h1
  ·exact h1
def IE(l:List AF):List AF:=(l.reverse.dropWhile λx=>x.d).reverse
theorem dD(l:List AF)(x:AF):IE (l++[x])=if x.d then IE l else l++[x]:=by
 unfold IE;rw[List.reverse_append,List.reverse_singleton,List.singleton_append,List.dropWhile_cons]
 split
 ·rfl
 ·simp
theorem UR(l:List AF): ∃D,l=IE l++D∧ ∀x∈D,x.d=true:=by
 refine⟨(l.reverse.takeWhile λx=>x.d).reverse,?_,λx hx=>?_⟩
 ·unfold IE;rw[←List.reverse_append,List.takeWhile_append_dropWhile,List.reverse_reverse]
 ·have h:=List.all_takeWhile (p:=λx:AF=>x.d) (l:=l.reverse);exact Db.1 h x (List.mem_reverse.1 hx)
def E0(seen:List Int)(g:List AF):List AF:=IE (Dp (De g seen) 0 g)
def BD(seen:List Int)(l:List AF):List AF:=(BC l).flatMap (E0 seen)
theorem KS(seen:List Int)(g:List AF):(E0 seen g).Sublist g:=by
 obtain⟨D,h1,_⟩:=UR (Dp (De g seen) 0 g);have h2:=K8 (De g seen) g 0;rw[h1]at h2;exact(CD _ _).trans h2
theorem Yt{g h:List AF}(hr:Az g)(hs:h.Sublist g){k:AE}{t:Int}(hin: ∀x,Cy g k t x→x∈h)(x:AF):Cy g k t x↔Cy h k t x:=by
 constructor
 ·intro hx;exact⟨hin x hx,hx.key,hx.le,λy hy=>hx.top y (hs.subset hy)⟩
 ·intro hx
  --the group's own newest is in h
  have hxg:x∈g:=hs.subset hx.mem;by_cases hlook: ∃z,Cy g k t z
  ·obtain⟨z,hz⟩:=hlook;have hzh:Cy h k t z:=⟨hin z hz,hz.key,hz.le,λy hy=>hz.top y (hs.subset hy)⟩;have:x=z:=hx.uniq (Az.one (hr.sublist hs)) hzh;rw[this];exact hz
  ·exfalso
   --some newest exists
   have: ∀(n:Nat)(x:AF),x∈g→x.k=k→x.s≤t→(t-x.s).toNat≤n→ ∃z,Cy g k t z:=by
    intro n
    induction n with
    |zero=>
     intro x h1 h2 h3 h4;exact⟨x,h1,h2,h3,λy _ _ h5=>AA⟩
    |succ n ih=>
     intro x h1 h2 h3 h4;by_cases hb: ∃y∈g,y.k=k∧y.s≤t∧x.s<y.s
     ·obtain⟨y,h5,h6,h7,h8⟩:=hb;exact ih y h5 h6 h7 AA
     ·exact⟨x,h1,h2,h3,λy h5 h6 h7=>Int.not_lt.1 λh8=>hb ⟨y,h5,h6,h7,h8⟩⟩
   exact hlook (this _ x hxg hx.key hx.le (AW _))
theorem yS{g:List AF}(hr:Az g){k:AE}(hk: ∀x∈g,x.k=k)(seen:List Int){t:Int}(ht:t∈seen∨ ∀x∈g,x.s≤t)(v:AE):Ep g t k v↔Ep (E0 seen g) t k v:=by
 have hkept:=K8 (De g seen) g 0;have hin: ∀x,Cy g k t x→x∈Dp (De g seen) 0 g:=by
  intro x hx;have hn:=(RQ hr hk t x).2 hx;obtain⟨h1,pa,pb,h2,h3⟩:=List.find?_eq_some_iff_append.1 hn;have hget:g[pa.length]?=some x:=by rw[h2];simp
  refine WF _ g 0 pa.length x hget ?_;unfold De;rw[DR,Bool.or_eq_true];rcases ht with ht|ht
  ·right;refine List.any_eq_true.2 ⟨t,ht,?_⟩;rw[decide_eq_true_eq];unfold GC;rw[Mt];have hlt:pa.length<g.length:=(Fm.1 hget).1;refine⟨hlt,?_,λj hj=>?_⟩
   ·rw[(Fm.1 hget).2];exact h1
   ·have:g[j]=pa[j]:=by simp only[h2];rw[List.getElem_append_left hj]
    rw[this];simpa using h3 pa[j] (CW hj)
  ·left;cases pa with
   |nil=>rfl
   |cons y pa=>
    have h4:=h3 y CM;simp only[Bool.not_eq_eq_eq_not,Bool.not_true,decide_eq_false_iff_not]at h4;exact absurd (ht y (by rw[h2];simp)) h4
 obtain⟨D,h1,h2⟩:=UR (Dp (De g seen) 0 g);have hrk:=hr.sublist hkept;have hvk:Ep g t k v↔Ep (Dp (De g seen) 0 g) t k v:=
  ⟨λ⟨x,h,h3⟩=>⟨x,(Yt hr hkept hin x).1 h,h3⟩,λ⟨x,h,h3⟩=>⟨x,(Yt hr hkept hin x).2 h,h3⟩⟩
 rw[hvk];show _↔Ep (IE (Dp (De g seen) 0 g)) t k v;have hkk: ∀x∈Dp (De g seen) 0 g,x.k=k:=λx hx=>hk x (hkept.subset hx);generalize Dp (De g seen) 0 g=K at h1 hrk hkk⊢;generalize IE K=h at h1⊢;subst h1;constructor
 ·rintro⟨x,hx,hd,hv⟩;refine⟨x,⟨?_,hx.key,hx.le,λy hy=>hx.top y (Eg _ hy)⟩,hd,hv⟩;rcases Bk.1 hx.mem with hm|hm
  ·exact hm
  ·rw[h2 x hm]at hd;cases hd
 ·rintro⟨x,hx,hd,hv⟩;refine⟨x,⟨Eg _ hx.mem,hx.key,hx.le,λy hy he hyt=>?_⟩,hd,hv⟩;rcases Bk.1 hy with hm|hm
  ·exact hx.top y hm he hyt
  ·have h4:=(GW.1 hrk).2.2 x hx.mem y hm;rw[In]at h4;rcases h4 with h4|h4
   ·rw[hx.key,he,F4]at h4;cases h4
   ·omega
theorem WV{gs:List (List AF)}(hp:gs.Pairwise λg h=>∀x∈g,∀y∈h,Op.bytesLess x.k y.k=true)(k:AE)(t:Int)(x:AF):Cy gs.flatten k t x↔ ∃g∈gs,Cy g k t x:=by
 constructor
 ·intro hx;obtain⟨g,hg,hxg⟩:=Iw.1 hx.mem;exact⟨g,hg,hxg,hx.key,hx.le,λy hy=>hx.top y (Iw.2 ⟨g,hg,hy⟩)⟩
 ·rintro⟨g,hg,hx⟩;refine⟨Iw.2 ⟨g,hg,hx.mem⟩,hx.key,hx.le,λy hy he hyt=>hx.top y ?_ he hyt⟩;obtain⟨h,hh,hyh⟩:=Iw.1 hy;obtain⟨i,hi,rfl⟩:=Hq.1 hg;obtain⟨j,hj,rfl⟩:=Hq.1 hh;have irr: ∀{a b:AF},a.k=b.k→Op.bytesLess a.k b.k=true→False:=λe h=>by rw[e,F4]at h;cases h
  rcases Nat.lt_trichotomy i j with h|h|h
  ·exact(irr (hx.key.trans he.symm) (Jb.1 hp i j hi hj h x hx.mem y hyh)).elim
  ·subst h;exact hyh
  ·exact(irr (he.trans hx.key.symm) (Jb.1 hp j i hj hi h y hyh x hx.mem)).elim
theorem SO{l:List AF}(hr:Az l)(seen:List Int):Az (BD seen l):=by
 have hs:(BD seen l).Sublist l:=by
  conv=>rhs;rw[←Iq l]
  unfold BD;rw[List.flatMap_def]
  induction BC l with
  |nil=>exact List.Sublist.slnil
  |cons g gs ih=>simp only[A4,Dc];exact(KS seen g).append ih
 exact hr.sublist hs
theorem SP{l:List AF}(seen:List Int): ∀x∈BD seen l,x∈l:=by
 intro x hx;obtain⟨g,hg,hxg⟩:=List.mem_flatMap.1 hx;exact Mr.2 ⟨g,hg,(KS seen g).subset hxg⟩
theorem Ym{l:List AF}(hr:Az l)(seen:List Int){t:Int}(ht:t∈seen∨ ∀x∈l,x.s≤t)(k v:AE):Ep l t k v↔Ep (BD seen l) t k v:=by
 have hp:=OS hr;have hp2:((BC l).map (E0 seen)).Pairwise λg h=>∀x∈g,∀y∈h,Op.bytesLess x.k y.k=true:=by
  rw[List.pairwise_map];exact hp.imp λ{g h}hgh x hx y hy=>hgh x ((KS seen g).subset hx) y ((KS seen h).subset hy)
 have e1: ∀x,Cy l k t x↔ ∃g∈BC l,Cy g k t x:=λx=>by
  conv=>lhs;rw[←Iq l]
  exact WV hp k t x
 have e2: ∀x,Cy (BD seen l) k t x↔ ∃g∈BC l,Cy (E0 seen g) k t x:=λx=>by
  unfold BD;rw[List.flatMap_def,WV hp2 k t x];constructor
  ·rintro⟨g,hg,h⟩;obtain⟨a,ha,rfl⟩:=BU.1 hg;exact⟨a,ha,h⟩
  ·rintro⟨a,ha,h⟩;exact⟨_,CC ha,h⟩
 have key: ∀g∈BC l,(Ep g t k v↔Ep (E0 seen g) t k v):=by
  intro g hg;obtain⟨k',hk'⟩:=Q3 hg;by_cases hkk:k'=k
  ·subst hkk;refine yS (Q0 hr hg) hk' seen ?_ v;rcases ht with ht|ht
   ·exact .inl ht
   ·exact .inr λx hx=>ht x (Mr.2 ⟨g,hg,hx⟩)
  ·constructor
   ·rintro⟨x,hx,_⟩;exact absurd ((hk' x hx.mem).symm.trans hx.key) hkk
   ·rintro⟨x,hx,_⟩;exact absurd ((hk' x ((KS seen g).subset hx.mem)).symm.trans hx.key) hkk
 constructor
 ·rintro⟨x,hx,h2⟩;obtain⟨g,hg,hxg⟩:=(e1 x).1 hx;obtain⟨y,hy,h3⟩:=(key g hg).1 ⟨x,hxg,h2⟩;exact⟨y,(e2 y).2 ⟨g,hg,hy⟩,h3⟩
 ·rintro⟨x,hx,h2⟩;obtain⟨g,hg,hxg⟩:=(e2 x).1 hx;obtain⟨y,hy,h3⟩:=(key g hg).2 ⟨x,hxg,h2⟩;exact⟨y,(e1 y).2 ⟨g,hg,hy⟩,h3⟩
end Go.Proofs.YtkgibdhpijdbfaaGreatDoor
namespace Go.Proofs.YtkgibdhpijdbfaaGreatDoor
open Go Go.Eng Go.Proofs Go.Sort
open Go.RowKit (Below)
theorem Xl{P:Program}{k:TypeId}(hk:P.underlying k=some (.int .i64)){x:MapEntry}{s:Int}(hx:x.key=AY s)(hs: -9223372036854775808≤s∧s≤9223372036854775807):Go.WideElems.rd P k Gr x=some (.int .i64 s,.nil):=by
 have hw:(Lit.int .i64 s).wf=true:=by
  unfold Lit.wf;rw[Bool.and_eq_true];exact⟨decide_eq_true hs.1,decide_eq_true hs.2⟩
 have h1:=Go.Maps.keyOf_int_mk hk hw;unfold Go.WideElems.rd;rw[hx];show(keyOf P k (.int .i64 s)).bind _=_;rw[h1];rfl
theorem vS{α:Type}{P:Program}{k:TypeId}(hk:P.underlying k=some (.int .i64)){w:World}{m:Nat}{es:Array MapEntry}{c:Nat}(hm:w.heap[m]?=some (.map es c)){val:α→Value}{kvs:List (Int×α)}(h:MapC AY val es c kvs)
  (hl:kvs.length≤maxLen)(hs: ∀x∈kvs, -9223372036854775808≤x.1∧x.1≤9223372036854775807):
  ∃D:DataW Unit,w.ownsMap P k Gr m kvs.length D∧(Go.intKeys D).Perm (kvs.map (·.1))∧Maps.size D=kvs.length:=by
 have hkeys:=h.of.keys Bn.i64;have hlen:es.size=kvs.length:=by have:=congrArg List.length hkeys;simpa using this
 have hr: ∀x∈es.toList,∃s:Int,x.key=AY s∧(-9223372036854775808≤s∧s≤9223372036854775807):=by
  intro x hx;have:x.key∈es.toList.map (·.key):=CC hx;rw[hkeys]at this;obtain⟨y,hy,hye⟩:=BU.1 this;exact⟨y.1,hye.symm,hs y hy⟩
 have hmap:(es.toList.map (Go.WideElems.rg P k Gr)).map (λp=>Go.intOf p.1)=kvs.map (·.1):=by
  have e1:(es.toList.map (Go.WideElems.rg P k Gr)).map (λp=>AY (Go.intOf p.1))=es.toList.map (·.key):=by
   rw[Fo];apply KC;intro x hx;obtain⟨s,hxs,hss⟩:=hr x hx;simp only[Function.comp_def,Go.WideElems.rg,Xl hk hxs hss,FA,Go.intOf,hxs]
  rw[hkeys]at e1;have inj: ∀l1 l2:List Int,l1.map AY=l2.map AY→l1=l2:=by
   intro l1
   induction l1 with
   |nil=>intro l2 h;cases l2 with|nil=>rfl|cons=>simp at h
   |cons a l1 ih=>
    intro l2 h;cases l2 with
    |nil=>simp at h
    |cons b l2=>
     simp only[A4,List.cons.injEq]at h;rw[Bn.i64.inj h.1,ih l2 h.2]
  apply inj;simp only[Fo,Function.comp_def]at e1⊢;exact e1
 refine⟨_,⟨es,c,hm,⟨AA,h.st,λx hx=>?_⟩,AA,rfl⟩,?_,?_⟩
 ·obtain⟨s,hxs,hss⟩:=hr x hx;exact⟨_,Xl hk hxs hss⟩
 ·show((List.foldr DataW.insert [] (es.toList.map (Go.WideElems.rg P k Gr))).map λp=>Go.intOf p.1).Perm _;rw[←hmap];exact(Go.WideShapes.sorted_perm _).map _
 ·show(List.foldr DataW.insert [] (es.toList.map (Go.WideElems.rg P k Gr))).length=_;rw[(Go.WideShapes.sorted_perm _).length_eq];simp[hlen]
abbrev keysI(b:Nat):Value:= .func (.func nE) #[] #[.pointer (some ⟨b,0,none⟩)]
theorem sX(mb:Option Nat)(w:World):Cl Tryz.prog nD [.map mb] w λv w'=>v=keysI w.heap.size∧w'=w.alloc (.cells #[.map mb] IA):=by
 refine .inl ⟨Tryz.callKeysI _ _,Calls.mono (callsIn_wide.1 (Tryz.mapsKeysI mb w)) ?_⟩;rintro e w'⟨rfl,rfl⟩;exact⟨_,rfl,rfl,rfl⟩
theorem xS{α:Type}{w:World}{m:Nat}{es:Array MapEntry}{c:Nat}(hm:w.heap[m]?=some (.map es c)){val:α→Value}{kvs:List (Int×α)}(h:MapC AY val es c kvs)(hl:kvs.length≤1099511627776)(hs: ∀x∈kvs, -9223372036854775808≤x.1∧x.1≤9223372036854775807):
  Cl Tryz.prog oV [keysI w.heap.size] (w.alloc (.cells #[.map (some m)] IA)) λv w'=>∃(ns:List Int)(a:Option Addr)(cap:Nat)(Lv:AH),ns.Perm (kvs.map (·.1))∧v= .slice a ns.length cap∧AT BX 1 a ns.length cap (ns.map AY) Lv∧
   St (w.alloc (.cells #[.map (some m)] IA)) [] Lv w':=by
 have hmx:1099511627776≤maxLen:=AC;obtain⟨D,ho,hp,hsz⟩:=vS (k:=BX) Em hm h AA hs;refine .inl ⟨Tryz.callSortedI _ _,Calls.mono (callsIn_wide.1 (Tryz.sortedKeysI m kvs.length D Gr w ho (by rw[hsz];omega) (by rw[hsz];omega))) ?_⟩;rintro e w'⟨v,ss,rfl,hS,hrow, -,hb⟩;have hl2:(ss.mergeSort (λx y=>decide (x≤y))).length=ss.length:=(List.mergeSort_perm ss _).length_eq;rw[←hl2]at hrow;obtain⟨a,cap,Lv,rfl,hv,hst⟩:=Ys hrow hb
 exact⟨_,rfl,_,a,cap,Lv,((List.mergeSort_perm ss _).trans hS).trans hp,rfl,hv,hst⟩
end Go.Proofs.YtkgibdhpijdbfaaGreatDoor
