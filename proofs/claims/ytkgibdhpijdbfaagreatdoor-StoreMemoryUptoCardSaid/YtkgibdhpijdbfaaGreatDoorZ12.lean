/- Texts of this claim, one behind the other. -/
import Derived.Test.YtkgibdhpijdbfaaGreatDoorZ9
import Derived.Test.YtkgibdhpijdbfaaGreatDoorZ5
import Derived.Test.YtkgibdhpijdbfaaGreatDoorZ2
import Derived.Test.YtkgibdhpijdbfaaGreatDoorZ3
import Derived.Test.YtkgibdhpijdbfaaGreatDoorZ8
set_option linter.unusedVariables false
set_option linter.unusedSimpArgs false
set_option maxHeartbeats 16000000
namespace Go.Proofs.YtkgibdhpijdbfaaGreatDoor
open Go Go.Eng Go.Proofs
theorem XT(c:UInt8): ∀(l:AE)(acc:Nat),Lib.parseUint10 acc (l++[c])=match Lib.parseUint10 acc l with
  |.ok a=>Lib.parseUint10 a [c]
  |e=>e
 |[],acc=>by rw[CU];rfl
 |x::l,acc=>by
  rw[D3];unfold Lib.parseUint10
  split
  ·split
   ·rfl
   ·split
    ·rfl
    ·exact XT c l _
  ·rfl
theorem QK(n:Nat)(h:n<10):(UInt8.ofNat (48+n)).toNat=48+n:=by
 rw[UInt8.toNat_ofNat'];omega
theorem XU(u:Nat)(h:u<18446744073709551616):Lib.parseUint10 0 (Lib.decDigits u)= .ok u:=by
 induction u using Nat.strongRecOn with
 |_ u ih=>
  rw[Lib.decDigits]
  split
  ·next h1=>
   have:=QK u h1;unfold Lib.parseUint10;rw[this,if_pos AA,if_neg AA,if_neg AA];unfold Lib.parseUint10
   congr 1;omega
  ·next h1=>
   have:=QK (u % 10) AA;rw[XT,ih (u / 10) AA AA];show Lib.parseUint10 (u / 10) [UInt8.ofNat (48+u % 10)]=_;unfold Lib.parseUint10;rw[this,if_pos AA,if_neg AA,if_neg AA];unfold Lib.parseUint10
   congr 1;omega
theorem UL(u:Nat): ∃c r,Lib.decDigits u=c::r∧48≤c.toNat∧c.toNat≤57:=by
 induction u using Nat.strongRecOn with
 |_ u ih=>
  rw[Lib.decDigits]
  split
  ·next h1=>
   have:=QK u h1;exact⟨_,[],rfl,AA,AA⟩
  ·next h1=>
   obtain⟨c,r,h2,h3,h4⟩:=ih (u / 10) AA;rw[h2];exact⟨c,_,rfl,h3,h4⟩
theorem MT{n:Int}(h0: -9223372036854775808≤n)(h1:n≤9223372036854775807):Lib.atoiAll (Lib.itoa n)= .ok n:=by
 unfold Lib.itoa
 split
 ·next h=>
  obtain⟨c,r,h2, -, -⟩:=UL n.natAbs;have hp:Lib.parseMag (Lib.decDigits n.natAbs)= .ok n.natAbs:=by
   unfold Lib.parseMag;rw[if_neg (by rw[h2];simp),XU _ AA]
  unfold Lib.atoiAll;have e:(45:UInt8).toNat=45:=rfl;simp only[e,or_true,if_true,hp];rw[if_neg AB,if_neg AA]
  congr 1;omega
 ·next h=>
  obtain⟨c,r,h2,h3,h4⟩:=UL n.toNat;have hp:Lib.parseMag (c::r)= .ok n.toNat:=by
   rw[←h2];unfold Lib.parseMag;rw[if_neg (by rw[h2];simp),XU _ AA]
  rw[h2];unfold Lib.atoiAll;simp only;rw[if_neg AA,hp];simp only;rw[if_neg AA,if_neg AA,if_neg AA]
  congr 1;omega
theorem Ky{n m:Int}(h0: -9223372036854775808≤n∧n≤9223372036854775807)(h1: -9223372036854775808≤m∧m≤9223372036854775807)(h:Lib.itoa n=Lib.itoa m):n=m:=by
 have e1:=MT h0.1 h0.2;rw[h,MT h1.1 h1.2]at e1;exact(Lib.NumEnd.ok.inj e1).symm
def JT(c:UInt8):Bool:=c==116||c==119||c==109
def EE(c:UInt8)(r:AE)(n:Int):Bool:=decide (1≤n)&&decide (Lib.itoa n=r)&&JT c
def Ej:AE→UInt8×Int×Bool
 |[]=>(0,0,false)
 |c::r=>match Lib.atoiAll r with
  |.ok n=>if EE c r n then(c,n,true)else(0,0,false)
  |_=>(0,0,false)
def Jc(t:AE):Value:= .tuple ⟨[.int .u8 (Ej t).1.toNat,.int .i64 (Ej t).2.1,.bool (Ej t).2.2]⟩
theorem XK(c:UInt8)(r:AE):Ej (c::r)=match Lib.atoiAll r with
  |.ok n=>if EE c r n then(c,n,true)else(0,0,false)
  |_=>(0,0,false):=rfl
theorem XL{c:UInt8}{r:AE}{n:Int}(hn: -9223372036854775808≤n∧n≤9223372036854775807)(h:Lib.atoiAll r= .ok n∨ ∀m,Lib.atoiAll r≠ .ok m):Ej (c::r)=if EE c r n then(c,n,true)else(0,0,false):=by
 rw[XK];rcases h with h|h
 ·rw[h]
 ·have hne:Lib.itoa n≠r:=λe=>h n (by rw[←e];exact MT hn.1 hn.2);have hf:EE c r n=false:=by unfold EE;rw[decide_eq_false hne];simp
  rw[hf];cases h2:Lib.atoiAll r
  ·exact absurd h2 (h _)
  ·rfl
  ·rfl
theorem Ot{c:UInt8}{n:Int}(hc:JT c=true)(hn: -9223372036854775808≤n∧n≤9223372036854775807):Ej (c::Lib.itoa n)=if 1≤n then(c,n,true)else(0,0,false):=by
 rw[XL hn (.inl (MT hn.1 hn.2))];unfold EE;rw[hc];by_cases h:1≤n<;>simp[h]
end Go.Proofs.YtkgibdhpijdbfaaGreatDoor
namespace Go.Proofs.YtkgibdhpijdbfaaGreatDoor
open Go Go.Eng
def FF:Nat→AE→Option (Nat×AE)
 |_,[]=>none
 |k,c::u=>if 9<k∨(k=9∧1<c.toNat)∨(0<k∧c.toNat=0)then none
  else if c.toNat<128 then some (c.toNat,u)
  else match FF (k+1) u with
   |some (m,r)=>some (c.toNat % 128+128*m,r)
   |none=>none
theorem Yi(c:UInt8):UInt8.ofNat c.toNat=c:=AB
theorem Wz: ∀(u:AE)(k m:Nat)(r:AE),FF k u=some (m,r)→u=Ak m++r∧(0<k→0<m)∧k≤9∧m<2 ^ (64-7*k)
 |[],k,m,r,h=>by simp[FF]at h
 |c::u,k,m,r,h=>by
  have hc:=c.toNat_lt;rw[FF]at h
  split at h
  ·cases h
  ·rename_i h1
   split at h
   ·rename_i h2;simp only[Option.some.injEq,Prod.mk.injEq]at h;obtain⟨rfl,rfl⟩:=h;refine⟨by rw[KA h2,Yi];rfl,AA,AA,?_⟩;by_cases hk:k=9
    ·subst hk;show _<2;omega
    ·exact Nat.lt_of_lt_of_le h2 (Nat.pow_le_pow_right (n:=2) (i:=7) AA AA)
   ·rename_i h2
    split at h
    ·rename_i m' r' h3;simp only[Option.some.injEq,Prod.mk.injEq]at h;obtain⟨rfl,rfl⟩:=h;obtain⟨h4,h5,h6,h7⟩:=Wz u (k+1) m' r' h3;have h8:=h5 AA;refine⟨?_,AA,AA,?_⟩
     ·rw[K6 AA,h4,show(c.toNat % 128+128*m') % 128+128=c.toNat by omega,show(c.toNat % 128+128*m') / 128=m' by omega,Yi]
      rfl
     ·rw[show 64-7*k=(64-7*(k+1))+7 by omega,Nat.pow_add];generalize 2 ^ (64-7*(k+1))=P at*;omega
    ·cases h
theorem u0: ∀(j m k:Nat)(r:AE),m<2 ^ (64-7*k)→k+j=9→(0<k→0<m)→FF k (Ak m++r)=some (m,r):=by
 intro j
 induction j with
 |zero=>
  intro m k r hm hk h0;obtain rfl:k=9:=AA;have hm:m<2:=hm;rw[KA AA];simp only[D3,CU,FF];have e:(UInt8.ofNat m).toNat=m:=by simp;omega
  rw[e,if_neg AA,if_pos AA]
 |succ j ih=>
  intro m k r hm hk h0;by_cases h:m<128
  ·rw[KA h];simp only[D3,CU,FF];have e:(UInt8.ofNat m).toNat=m:=by simp;omega
   rw[e,if_neg AA,if_pos AA]
  ·rw[K6 h];simp only[D3,FF];have e:(UInt8.ofNat (m % 128+128)).toNat=m % 128+128:=by simp;omega
   rw[e,if_neg AA,if_neg AA,ih (m / 128) (k+1) r ?_ AA AA]
   ·simp only[Option.some.injEq,Prod.mk.injEq,and_true];omega
   ·rw[show 64-7*k=(64-7*(k+1))+7 by omega,Nat.pow_add]at hm;generalize 2 ^ (64-7*(k+1))=P at*;omega
def Hv(t:AE):Option (Nat×AE):=FF 0 t
theorem Ja(t:AE)(m:Nat)(r:AE):Hv t=some (m,r)↔t=Ak m++r∧m<18446744073709551616:=by
 constructor
 ·intro h;obtain⟨h1, -, -,h2⟩:=Wz t 0 m r h;exact⟨h1,h2⟩
 ·rintro⟨rfl,h⟩;exact u0 9 m 0 r h rfl AA
def KM(u:Nat):Int:=if u % 2=0 then(u / 2:Nat)else-((u / 2:Nat):Int)-1
theorem Yk(z:Int):KM (Ed z)=z:=by
 unfold KM Ed;split<;>split<;>omega
theorem Sd(u:Nat):Ed (KM u)=u:=by
 unfold KM Ed;split<;>split<;>omega
def PI(t:AE):Option (AE×AE):=match Hv t with
 |some (m,r)=>if r.length<m then none else some (r.take m,r.drop m)
 |none=>none
theorem yP(t s r:AE):PI t=some (s,r)↔t=Be s++r∧s.length<18446744073709551616:=by
 unfold PI Be;cases h:Hv t with
 |none=>
  simp only[false_iff,reduceCtorEq];intro hh;rw[(Ja t s.length (s++r)).2 ⟨by rw[hh.1,Aj],hh.2⟩]at h;cases h
 |some x=>
  obtain⟨m,r'⟩:=x;obtain⟨h1,h2⟩:=(Ja t m r').1 h;simp only;constructor
  ·intro hh
   split at hh
   ·cases hh
   ·simp only[Option.some.injEq,Prod.mk.injEq]at hh;obtain⟨rfl,rfl⟩:=hh;have e:(r'.take m).length=m:=by simp;omega
    rw[e,Aj,CO];exact⟨h1,h2⟩
  ·rintro⟨h3,h4⟩;rw[(Ja t s.length (s++r)).2 ⟨by rw[h3,Aj],h4⟩]at h;simp only[Option.some.injEq,Prod.mk.injEq]at h;obtain⟨rfl,rfl⟩:=h;rw[if_neg AB,List.take_left,List.drop_left]
end Go.Proofs.YtkgibdhpijdbfaaGreatDoor
namespace Go.Proofs.YtkgibdhpijdbfaaGreatDoor
open Go Go.Eng Go.Proofs
abbrev A6(t:AE):Obj:= .cells ⟨[AG t]⟩ DQ (0,0)
def CQ(t:AE):Nat×Int×AE:=match Hv t with
 |some (m,r)=>(m,0,r)
 |none=>(0,1,t)
theorem tI(n c k:Nat)(hn:n<2 ^ (7*k))(hc:c<256)(hk:k≤9)(h9:k=9→c≤1):
  HV .u64 (n:Int) (IntKind.u64.wrap (F3 .u8 (c:Int) 127*2 ^ (7*k)))=((n+c % 128*2 ^ (7*k):Nat):Int)∧n+c % 128*2 ^ (7*k)<18446744073709551616:=by
 have e1:F3 .u8 (c:Int) 127=((c % 128:Nat):Int):=by
  have h:=Np .u8 rfl c 127 hc AC;rw[show((127:Nat):Int)=127 from rfl]at h;rw[h,show(127:Nat)=2 ^ 7-1 by rfl,Mp]
 have hb:n+c % 128*2 ^ (7*k)<18446744073709551616:=by
  have hm:c % 128<128:=FP _ AA;by_cases h:k=9
  ·subst h;have:=h9 rfl;have h1:c % 128≤1:=AA;have h2:c % 128*2 ^ (7*9)≤1*2 ^ (7*9):=GY _ h1;omega
  ·have h3:2 ^ (7*k)≤2 ^ (7*8):=Nat.pow_le_pow_right AA AA;have h4:c % 128*2 ^ (7*k)≤127*2 ^ (7*k):=GY _ AA;omega
 refine⟨?_,hb⟩;have e2:((c % 128:Nat):Int)*2 ^ (7*k)=((c % 128*2 ^ (7*k):Nat):Int):=AB;have e3:c % 128*2 ^ (7*k) % 2 ^ IntKind.u64.bits=c % 128*2 ^ (7*k):=Dy (show c % 128*2 ^ (7*k)<18446744073709551616 by omega);rw[e1,e2,Fc .u64 rfl,e3,LH .u64 rfl _ _ (show n<18446744073709551616 by omega) (show _<18446744073709551616 by omega),Nat.or_comm,On _ _ _ hn,Nat.add_comm]
def Mw(t:AE)(k n:Nat):Prop:=k≤10∧k≤t.length∧n<2 ^ (7*k)∧FF 0 t=match FF k (t.drop k)with
 |some (m,r)=>some (n+m*2 ^ (7*k),r)
 |none=>none
theorem Oj{t:AE}{k n:Nat}(h:Mw t k n)(hf:FF k (t.drop k)=none):CQ t=(0,1,t):=by
 unfold CQ Hv;rw[h.2.2.2,hf]
theorem u5{t:AE}{k:Nat}(hk: ¬(k<10∧k<t.length)):FF k (t.drop k)=none:=by
 cases h:t.drop k with
 |nil=>rfl
 |cons c u=>
  have:k<t.length:=by
   have:=congrArg List.length h;simp at this;omega
  unfold FF;rw[if_pos AA]
theorem My{t:AE}{k:Nat}(hk:k<t.length):FF k (t.drop k)=if 9<k∨(k=9∧1<t[k].toNat)∨(0<k∧t[k].toNat=0)then none
  else if t[k].toNat<128 then some (t[k].toNat,t.drop (k+1))
  else match FF (k+1) (t.drop (k+1))with
   |some (m,r)=>some (t[k].toNat % 128+128*m,r)
   |none=>none:=by
 rw[FQ hk,FF]
 all_goals rfl
theorem RX{t:AE}{k n:Nat}(h:Mw t k n)(hk:k<t.length)(h1: ¬(9<k∨(k=9∧1<t[k].toNat)∨(0<k∧t[k].toNat=0)))(h2:t[k].toNat<128):
  CQ t=(n+t[k].toNat % 128*2 ^ (7*k),0,t.drop (k+1)):=by
 unfold CQ Hv;rw[h.2.2.2,My hk,if_neg h1,if_pos h2,Dy h2]
theorem RY{t:AE}{k n:Nat}(h:Mw t k n)(hk:k<t.length)(h1: ¬(9<k∨(k=9∧1<t[k].toNat)∨(0<k∧t[k].toNat=0)))(h2: ¬t[k].toNat<128):
  Mw t (k+1) (n+t[k].toNat % 128*2 ^ (7*k)):=by
 obtain⟨h3,h4,h5,h6⟩:=h;refine⟨AA,AA,?_,?_⟩
 ·rw[show 7*(k+1)=7*k+7 by omega,Nat.pow_add];have h4:t[k].toNat % 128*2 ^ (7*k)≤127*2 ^ (7*k):=GY _ AA;generalize 2 ^ (7*k)=P at*;omega
 ·rw[h6,My hk,if_neg h1,if_neg h2];cases FF (k+1) (t.drop (k+1))with
  |none=>rfl
  |some x=>
   obtain⟨m,r⟩:=x;simp only[Option.some.injEq,Prod.mk.injEq,and_true];rw[show 7*(k+1)=7*k+7 by omega,Nat.pow_add,HK,Gq]
   congr 2
   rw[show 2 ^ (7*k)*2 ^ 7=128*2 ^ (7*k) by omega,HM 128 m,Nat.mul_assoc]
theorem RL(n c k:Nat)(hn:n<2 ^ (7*k))(hc:c<256)(hk:k≤9)(h9:k=9→c≤1):
  HV .u64 (n:Int) (IntKind.u64.wrap (IntKind.u64.wrap (F3 .u8 (c:Int) 127)*2 ^ min (7*(k:Int)).toNat IntKind.u64.bits))=((n+c % 128*2 ^ (7*k):Nat):Int):=by
 have h:=(tI n c k hn hc hk h9).1;have e1:F3 .u8 (c:Int) 127=((c % 128:Nat):Int):=by
  have h:=Np .u8 rfl c 127 hc AC;rw[show((127:Nat):Int)=127 from rfl]at h;rw[h,show(127:Nat)=2 ^ 7-1 by rfl,Mp]
 have e2:IntKind.u64.wrap (((c % 128:Nat):Nat):Int)=((c % 128:Nat):Int):=by
  rw[Fc .u64 rfl];congr 1;exact Dy (by show _<18446744073709551616;omega)
 have e3:min (7*(k:Int)).toNat IntKind.u64.bits=7*k:=by show min _ 64=_;omega
 rw[e1]at h⊢;rw[e2,e3];exact h
theorem JH{w:World}{b:Nat}{t:AE}(hh:Holds [(b,A6 t)] w)(ht:t.length≤70368744177664):
  Cl Tryz.prog oC [ptr b] w λv w'=>v= .tuple ⟨[.int .u64 (CQ t).1,.int .i64 (CQ t).2.1]⟩∧St w [b] [(b,A6 (CQ t).2.2)] w':=by
 have hS:St w [b] [(b,A6 t)] w:=St.enter hh;refine gE rfl ?_;refine jq ⟨?_⟩;refine AL.loop (λx:Nat×Nat=>[(0,ptr b),(4,.int .u64 x.2),(5,.int .i64 x.1)])
  (λx w'=>Mw t x.1 x.2∧St w [b] [(b,A6 t)] w') (λx=>10-x.1) (0,0)
  ⟨rfl,rfl,rfl,trivial⟩ ⟨⟨AA,AA,AB,by simp only[List.drop_zero];cases FF 0 t<;>simp⟩,hS⟩ ?_
 rintro⟨k,n⟩w1⟨hJ,hS⟩;simp only at hJ hS⊢;have hkk:=hJ.1;have hkl:=hJ.2.1;by_cases hk:k<10∧k<t.length
 ·obtain⟨hk10,hkt⟩:=hk;have hmin:((k:Int)<min 10 (t.length:Int)):=AA;(repeat(refine jt ⟨?_⟩;refine hS.q ?_;intro _ hS));refine jt ⟨?_⟩;obtain⟨c,hc⟩: ∃c,c=t.getD ((k:Int)).toNat 0:=⟨_,rfl⟩;have hct:c=t[k]:=by rw[hc];simp[hkt]
  rw[←hc];have hclt:=c.toNat_lt;by_cases h9:k=9
  ·by_cases h1:1<c.toNat
   ·(repeat(refine jt ⟨?_⟩;refine hS.q ?_;intro _ hS));refine jt ⟨?_⟩;rw[Oj hJ (by rw[My hkt,if_pos (by rw[←hct];omega)])];exact⟨rfl,hS⟩
   ·by_cases hz:c.toNat=0
    ·(repeat(refine jt ⟨?_⟩;refine hS.q ?_;intro _ hS));refine jt ⟨?_⟩;rw[Oj hJ (by rw[My hkt,if_pos (by rw[←hct];omega)])];exact⟨rfl,hS⟩
    ·have hl7:=RL n c.toNat k hJ.2.2.1 c.toNat_lt AA AA;have hnb: ¬(9<k∨(k=9∧1<t[k].toNat)∨(0<k∧t[k].toNat=0)):=by rw[←hct];omega
     have ek:((k:Int)+1).toNat=k+1:=AA;by_cases h128:c.toNat<128
     ·have hdn:=RX hJ hkt hnb (by rw[←hct];exact h128);rw[←hct]at hdn;(repeat(refine jt ⟨?_⟩;refine hS.q ?_;intro _ hS));refine jt ⟨?_⟩;rw[hdn];rw[ek]at hS;exact⟨congrArg (λz=>Value.tuple ⟨[.int .u64 z,.int .i64 0]⟩) hl7,hS⟩
     ·have hnx:=RY hJ hkt hnb (by rw[←hct];exact h128);rw[←hct]at hnx
      first
      |(exfalso;omega)
      |((repeat(refine jt ⟨?_⟩;refine hS.q ?_;intro _ hS));refine jt ⟨?_⟩
        exact⟨(k+1,n+c.toNat % 128*2 ^ (7*k)),⟨rfl,congrArg (Value.int .u64) hl7,rfl,trivial⟩,⟨hnx,hS⟩,by simp only;omega⟩)
  ·by_cases h0:0<k
   ·by_cases hz:c.toNat=0
    ·(repeat(refine jt ⟨?_⟩;refine hS.q ?_;intro _ hS));refine jt ⟨?_⟩;rw[Oj hJ (by rw[My hkt,if_pos (by rw[←hct];omega)])];exact⟨rfl,hS⟩
    ·have hl7:=RL n c.toNat k hJ.2.2.1 c.toNat_lt AA AA;have hnb: ¬(9<k∨(k=9∧1<t[k].toNat)∨(0<k∧t[k].toNat=0)):=by rw[←hct];omega
     have ek:((k:Int)+1).toNat=k+1:=AA;by_cases h128:c.toNat<128
     ·have hdn:=RX hJ hkt hnb (by rw[←hct];exact h128);rw[←hct]at hdn;(repeat(refine jt ⟨?_⟩;refine hS.q ?_;intro _ hS));refine jt ⟨?_⟩;rw[hdn];rw[ek]at hS;exact⟨congrArg (λz=>Value.tuple ⟨[.int .u64 z,.int .i64 0]⟩) hl7,hS⟩
     ·have hnx:=RY hJ hkt hnb (by rw[←hct];exact h128);rw[←hct]at hnx
      first
      |(exfalso;omega)
      |((repeat(refine jt ⟨?_⟩;refine hS.q ?_;intro _ hS));refine jt ⟨?_⟩
        exact⟨(k+1,n+c.toNat % 128*2 ^ (7*k)),⟨rfl,congrArg (Value.int .u64) hl7,rfl,trivial⟩,⟨hnx,hS⟩,by simp only;omega⟩)
   ·have hl7:=RL n c.toNat k hJ.2.2.1 c.toNat_lt AA AA;have hnb: ¬(9<k∨(k=9∧1<t[k].toNat)∨(0<k∧t[k].toNat=0)):=by rw[←hct];omega
    have ek:((k:Int)+1).toNat=k+1:=AA;by_cases h128:c.toNat<128
    ·have hdn:=RX hJ hkt hnb (by rw[←hct];exact h128);rw[←hct]at hdn;(repeat(refine jt ⟨?_⟩;refine hS.q ?_;intro _ hS));refine jt ⟨?_⟩;rw[hdn];rw[ek]at hS;exact⟨congrArg (λz=>Value.tuple ⟨[.int .u64 z,.int .i64 0]⟩) hl7,hS⟩
    ·have hnx:=RY hJ hkt hnb (by rw[←hct];exact h128);rw[←hct]at hnx
     first
     |(exfalso;omega)
     |((repeat(refine jt ⟨?_⟩;refine hS.q ?_;intro _ hS));refine jt ⟨?_⟩
       exact⟨(k+1,n+c.toNat % 128*2 ^ (7*k)),⟨rfl,congrArg (Value.int .u64) hl7,rfl,trivial⟩,⟨hnx,hS⟩,by simp only;omega⟩)
 ·have hmin: ¬((k:Int)<min 10 (t.length:Int)):=AA;(repeat(refine jt ⟨?_⟩;refine hS.q ?_;intro _ hS));refine jt ⟨?_⟩;rw[Oj hJ (u5 hk)];exact⟨rfl,hS⟩
def Db(t:AE):Int×Int×AE:=(KM (CQ t).1,(CQ t).2)
theorem K9(t:AE):(CQ t).1<18446744073709551616:=by
 unfold CQ;cases h:Hv t with
 |none=>show 0<18446744073709551616;omega
 |some x=>obtain⟨m,r⟩:=x;exact((Ja t m r).1 h).2
theorem K8(t:AE):(CQ t).2.2.length≤t.length:=by
 unfold CQ;cases h:Hv t with
 |none=>exact AV _
 |some x=>
  obtain⟨m,r⟩:=x;have:=congrArg List.length ((Ja t m r).1 h).1;simp only[AP]at this;show r.length≤t.length;omega
theorem y8(u:Nat)(h:u<18446744073709551616):Gv .i64 ((u / 2:Nat):Int) (0-((u % 2:Nat):Int))=KM u:=by
 show IntKind.i64.wrap (((BitVec.ofInt 64 ((u / 2:Nat):Int) ^^^ BitVec.ofInt 64 (0-((u % 2:Nat):Int))).toNat:Nat):Int)=_;have e1:BitVec.ofInt 64 ((u / 2:Nat):Int)=BitVec.ofNat 64 (u / 2):=BitVec.ofInt_natCast ..;unfold KM;by_cases h2:u % 2=0
 ·rw[if_pos h2,h2];have e2:BitVec.ofInt 64 (0-((0:Nat):Int))=0#64:=AC;rw[e1,e2,BitVec.xor_zero,BitVec.toNat_ofNat,Dy AA];unfold IntKind.wrap;simp only[IntKind.signed,IntKind.bits];simp;omega
 ·rw[if_neg h2,show u % 2=1 by omega];have e2:BitVec.ofInt 64 (0-((1:Nat):Int))=BitVec.allOnes 64:=AC;rw[e1,e2,BitVec.xor_allOnes,BitVec.toNat_not,BitVec.toNat_ofNat,Dy AA];unfold IntKind.wrap;simp only[IntKind.signed,IntKind.bits];simp;omega
theorem Pe{w:World}{b:Nat}{t:AE}(hh:Holds [(b,A6 t)] w)(ht:t.length≤70368744177664):
  Cl Tryz.prog oB [ptr b] w λv w'=>v= .tuple ⟨[.int .i64 (Db t).1,.int .i64 (Db t).2.1]⟩∧St w [b] [(b,A6 (Db t).2.2)] w':=by
 refine gD rfl ?_;refine jq ⟨?_⟩;refine Cl.mono (JH hh ht) ?_;rintro _ w1⟨rfl,hS⟩;unfold Db;have hlt:=K9 t;generalize CQ t=x at hS hlt⊢;obtain⟨u,e,r⟩:=x;simp only at hS hlt⊢;have e1:(u:Int).fdiv (2 ^ min (Int.toNat 1) IntKind.u64.bits)=((u / 2:Nat):Int):=by
  show(u:Int).fdiv (2 ^ 1)=_;rw[Io]
 have e2:F3 .u64 (u:Int) 1=((u % 2:Nat):Int):=by
  have h:=Np .u64 rfl u 1 hlt AC;rw[show((1:Nat):Int)=1 from rfl]at h;rw[h,show(1:Nat)=2 ^ 1-1 by rfl,Mp]
 have hz:=y8 u hlt;refine jq ⟨?_⟩;rw[e1];refine jq ⟨?_⟩;rw[e2];refine jq ⟨?_⟩;exact⟨congrArg (λz=>Value.tuple ⟨[.int .i64 z,.int .i64 e]⟩) hz,hS⟩
theorem Pd{w:World}{b:Nat}{t:AE}(hh:Holds [(b,A6 t)] w):
  Cl Tryz.prog oA [ptr b] w λv w'=>v= .bool (decide (t=[]))∧St w [] [] w':=by
 have hS:St w [b] [(b,A6 t)] w:=St.enter hh;refine gC rfl ?_;(repeat(refine jt ⟨?_⟩;refine hS.q ?_;intro _ hS));refine jt ⟨?_⟩;exact⟨rfl,St.start w⟩
theorem Pc{w:World}{t:AE}:Cl Tryz.prog n9 [AG t] w λv w'=>∃b,v=ptr b∧St w [] [(b,A6 t)] w':=by
 have hS:=St.start w;refine gB rfl ?_;refine jq ⟨?_⟩;refine hS.al ?_;intro b w1 _ hS;refine jq ⟨?_⟩;exact⟨b,rfl,hS⟩
def GB(out:List AE)(x:AF):List AE:=if out.getLast?=some x.k then out else out++[x.k]
def Cb(l:List AF):List AE:=l.foldl GB []
theorem uF{out:List AE}{x:AF}{k:AE}(h:k∈out):k∈GB out x:=by
 unfold GB;split
 ·exact h
 ·exact EO _ h
theorem uH(out:List AE)(x:AF):x.k∈GB out x:=by
 unfold GB;split
 ·rename_i h;exact K0 h
 ·simp
theorem VY: ∀(l:List AF){out:List AE}{k:AE},k∈out→k∈l.foldl GB out
 |[],_,_,h=>h
 |_::l,_,_,h=>VY l (uF h)
theorem VZ: ∀(l:List AF){out:List AE}{x:AF},x∈l→x.k∈l.foldl GB out
 |y::l,out,x,h=>by
  rw[HJ];rcases As.1 h with rfl|h
  ·exact VY l (uH _ _)
  ·exact VZ l h
theorem uB{l:List AF}{x:AF}(h:x∈l):x.k∈Cb l:=VZ l h
theorem uC(l:List AF)(x:AF):Cb (l++[x])=GB (Cb l) x:=by simp[Cb]
theorem uG(out:List AE)(x:AF):(GB out x).length≤out.length+1:=by unfold GB;split<;>simp
theorem Og(l:List AF):(Cb l).length≤l.length:=by
 have: ∀(l:List AF)(out:List AE),(l.foldl GB out).length≤out.length+l.length:=by
  intro l
  induction l with
  |nil=>intro out;simp
  |cons x l ih=>intro out;rw[HJ];have:=ih (GB out x);have:=uG out x;simp only[Ai];omega
 have:=this l [];simpa[Cb]using this
theorem uD(l:List AF): ∀k∈Cb l,∃x∈l,x.k=k:=by
 have: ∀(l:List AF)(out:List AE),∀k∈l.foldl GB out,k∈out∨ ∃x∈l,x.k=k:=by
  intro l
  induction l with
  |nil=>intro out k h;exact .inl h
  |cons x l ih=>
   intro out k h;rw[HJ]at h;rcases ih _ k h with h|⟨y,hy,h⟩
   ·unfold GB at h
    split at h
    ·exact .inl h
    ·rcases Bl.1 h with h|h
     ·exact .inl h
     ·simp at h;exact .inr ⟨x,CN,h.symm⟩
   ·exact .inr ⟨y,CJ _ hy,h⟩
 intro k h;rcases this l [] k h with h|h
 ·cases h
 ·exact h
def Kw(s:AE×Nat)(c:List AF):AE×Nat:=(s.1++(Be (CF [] c)++Ak s.2),s.2+8+(E8 c).length)
def Da(cs:List (List AF))(n:Nat):AE×Nat:=cs.foldl Kw (Ak n,0)
theorem OR(cs:List (List AF))(c:List AF)(n:Nat):Da (cs++[c]) n=Kw (Da cs n) c:=by simp[Da]
def Jz(l:List AF):AE×Nat:=Da (AR 8 l) (AR 8 l).length
def Mt:AE:=[84,82,77,49]
def EA(l:List AF):List AE:=(AR 8 l).map E8++[(Jz l).1,Du (Cb l),Mt++(Ak (Jz l).2++Ak l.length)]
/-! ## Lengths-/
theorem DL{n:Nat}(h:n<18446744073709551616):(Ak n).length≤10:=RW 9 n (Nat.lt_of_lt_of_le h AC)
theorem zS{z:Int}(h: -9223372036854775808≤z∧z≤9223372036854775807):Ed z<18446744073709551616:=by unfold Ed;split<;>omega
theorem lM(last:AE)(x:AF)(hs: -9223372036854775808≤x.s∧x.s≤9223372036854775807)(hz:CS x<1099511627776):(GU last x).length≤CS x+50:=by
 have h1:=NE last x.k;have hz':=hz;unfold CS at hz'⊢;have h2:=DL (n:=Dh last x.k) AA;have h3:=DL (n:=(x.k.drop (Dh last x.k)).length) (by rw[Do];omega);have h4:=DL (zS hs);have h5:=DL (n:=x.v.length) AA;have h6:=DL (n:=0) AA;have h7:=DL (n:=1) AA;unfold GU Be Bh
 split
 ·simp only[AP,Do]at h3⊢;omega
 ·simp only[AP,Do]at h3⊢;omega
theorem SE(x:AF)(l:List AF):An (x::l)=CS x+An l:=by simp[An]
theorem Uk: ∀(l:List AF)(last:AE),Hf l→An l<1099511627776→(Dw last l).length≤An l+50*l.length
 |[],_,_,_=>by simp[Dw]
 |x::l,last,hs,hz=>by
  rw[SE]at hz⊢;have h1:=lM last x (hs x CN) AA;have h2:=Uk l x.k (λy hy=>hs y (CJ _ hy)) AA;simp only[Dw,AP,Ai];omega
theorem P7{l:List AF}(hs:Hf l)(hz:An l<1099511627776)(hl:l.length<1099511627776):(E8 l).length≤An l+50*l.length+10:=by
 have h1:=Uk l [] hs hz;have h2:=DL (n:=l.length) AA;unfold E8;simp only[AP];omega
theorem sY(c:List AF):(CF [] c).length≤An c:=by
 unfold CF
 split
 ·simp
 ·rename_i x h;have:=LV (K0 h);unfold CS at this;omega
theorem Q5: ∀(cs:List (List AF))(n:Nat),n<1099511627776→Hf cs.flatten→An cs.flatten+60*cs.flatten.length+60*cs.length<1099511627776→
  (Da cs n).1.length≤10+20*cs.length+An cs.flatten∧(Da cs n).2≤An cs.flatten+50*cs.flatten.length+18*cs.length:=by
 intro cs n hn;have key: ∀(r:Nat)(cs:List (List AF)),cs.length=r→Hf cs.flatten→An cs.flatten+60*cs.flatten.length+60*cs.length<1099511627776→
  (Da cs n).1.length≤10+20*cs.length+An cs.flatten∧(Da cs n).2≤An cs.flatten+50*cs.flatten.length+18*cs.length:=by
  intro r
  induction r with
  |zero=>
   intro cs h0 _ _;have:=Is h0;subst this;have:=DL (n:=n) AA;simp[Da];omega
  |succ r ih=>
   intro cs hr hs hz;rcases J2 cs with rfl|⟨ds,c,rfl⟩
   ·simp at hr
   ·rw[List.concat_eq_append]at*;rw[GW,List.flatten_singleton]at hs hz⊢;rw[G9,AP,AP,D4]at hz;have h1:=ih ds (by simpa using hr) (λx hx=>hs x (EO _ hx)) AA;have h2:=P7 (l:=c) (λx hx=>hs x (FC _ hx)) AA AA;have h3:=sY c;have h4:=DL (n:=(CF [] c).length) AA;have h5:=DL (n:=(Da ds n).2) AA;rw[OR,G9,AP,AP,D4];unfold Kw Be;simp only[AP];omega
 exact key cs.length cs rfl
theorem YV{l:List AF}(hl:l.length≤64)(hs:Hf l)(hz: ∀x∈l,CS x≤4096): ∀p∈EA l,p.length≤65536:=by
 have hsum: ∀m:List AF,(∀x∈m,CS x≤4096)→An m≤4096*m.length:=by
  intro m
  induction m with
  |nil=>intro _;simp[An]
  |cons x m ih=>intro h;rw[SE,Ai];have:=h x CN;have:=ih λy hy=>h y (CJ _ hy);omega
 have hfl:=KD (show 0<8 by omega) l;have hpl:=Jd 8 l;have hszl:=hsum l hz;have hi:=Q5 (AR 8 l) (AR 8 l).length AA (by rw[hfl];exact hs) (by rw[hfl];omega);rw[hfl]at hi;have hsl:(Da (AR 8 l) (AR 8 l).length).1.length≤65536:=by
  --the last keys of eight AR
  have: ∀(cs:List (List AF))(n:Nat),n<1099511627776→(∀c∈cs,∀x∈c,CS x≤4096)→(∀d,d<+:cs→(Da d n).2<18446744073709551616)→(Da cs n).1.length≤10+4116*cs.length:=by
   intro cs n hn;have key: ∀(r:Nat)(cs:List (List AF)),cs.length=r→(∀c∈cs,∀x∈c,CS x≤4096)→(∀d,d<+:cs→(Da d n).2<18446744073709551616)→(Da cs n).1.length≤10+4116*cs.length:=by
    intro r
    induction r with
    |zero=>
     intro cs h0 _ _;have:=Is h0;subst this;have:=DL (n:=n) AA;simpa[Da]using this
    |succ r ih=>
     intro cs hr hs hd;rcases J2 cs with rfl|⟨ds,c,rfl⟩
     ·simp at hr
     ·rw[List.concat_eq_append]at*;have h1:=ih ds (by simpa using hr) (λc hc=>hs c (EO _ hc)) (λd h=>hd d (h.trans (List.prefix_append _ _)));have h2:=hd ds (List.prefix_append _ _);have h3:(CF [] c).length≤4096:=by
       unfold CF
       split
       ·simp
       ·rename_i x h;have:=hs c AB x (K0 h);unfold CS at this;omega
      have h4:=DL (n:=(CF [] c).length) AA;have h5:=DL h2;rw[OR,AP,D4];unfold Kw Be;simp only[AP];omega
   exact key cs.length cs rfl
  have h8:=this (AR 8 l) (AR 8 l).length AA (λc hc x hx=>hz x (by
   obtain⟨_,_,a,b,e⟩:=KE (show 0<8 by omega) hc;rw[e];simp[hx])) (λd hd=>by
    obtain⟨e,he⟩:=hd;have hdl:d.flatten.length≤l.length∧An d.flatten≤An l∧d.length≤(AR 8 l).length:=by
     have h1:l=d.flatten++e.flatten:=by rw[←GW,he,hfl]
     have h2:=congrArg List.length h1;have h3:=congrArg An h1;rw[G9]at h3;rw[AP]at h2;have h4:=congrArg List.length he;rw[AP]at h4;omega
    have:=(Q5 d (AR 8 l).length AA (λx hx=>hs x (by
     rw[←hfl,←he,GW];exact EO _ hx)) AA).2
    omega)
  omega
 intro p hp;unfold EA at hp;rcases Bl.1 hp with hp|hp
 ·obtain⟨c,hc,rfl⟩:=BV.1 hp;obtain⟨_,h2,a,b,e⟩:=KE (show 0<8 by omega) hc;have hcz: ∀x∈c,CS x≤4096:=λx hx=>hz x (by rw[e];simp[hx]);have h3:=hsum c hcz;have h4:=P7 (l:=c) (λx hx=>hs x (by rw[e];simp[hx])) AA AA;omega
 ·simp only[As,List.not_mem_nil,or_false]at hp;rcases hp with rfl|rfl|rfl
  ·exact hsl
  ·cases hk:Cb l with
   |nil=>simp[Du]
   |cons k ks=>
    have h1:=Og l;have e:Du (k::ks)=(Gj (k::ks)).map UInt8.ofNat:=rfl;rw[e,BM,P8,←hk];omega
  ·have h1:=hi.2;have h2:=DL (n:=(Jz l).2) (by unfold Jz;omega);have h3:=DL (n:=l.length) AA;simp only[AP];show 4+_≤_;omega
end Go.Proofs.YtkgibdhpijdbfaaGreatDoor
