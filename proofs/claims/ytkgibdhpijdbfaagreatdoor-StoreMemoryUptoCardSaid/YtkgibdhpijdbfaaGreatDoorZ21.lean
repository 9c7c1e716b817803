/- Texts of this claim, one behind the other. -/
import Derived.Test.YtkgibdhpijdbfaaGreatDoorZ3
import Derived.Test.YtkgibdhpijdbfaaGreatDoorZ18
import Derived.Test.YtkgibdhpijdbfaaGreatDoorZ6
import Derived.Test.YtkgibdhpijdbfaaGreatDoorZ2
set_option linter.unusedVariables false
set_option linter.unusedSimpArgs false
set_option maxHeartbeats 16000000
namespace Go.Proofs.YtkgibdhpijdbfaaGreatDoor
open Go Go.Eng Go.Proofs
@[irreducible] def stepB (h : Nat) (c : UInt8) : Nat := ((h ^^^ c.toNat) * 1099511628211) % 18446744073709551616
theorem yE(h:Nat)(c:UInt8):stepB h c<18446744073709551616:=by unfold stepB;exact FP _ AA
theorem rY(k:AE):k.foldl stepB 14695981039346656037=EY k:=by
 unfold EY
 congr 1
 funext h c
 unfold stepB
 rfl
theorem Hx:(2:Nat) ^ IntKind.u64.bits=18446744073709551616:=AC
theorem uA(x:Nat):(x:Int)*1099511628211=((x*1099511628211:Nat):Int):=AB
theorem zJ(x:Nat):IntKind.u64.wrap ((x*1099511628211:Nat):Int)=((x*1099511628211 % 18446744073709551616:Nat):Int):=by
 rw[←Hx];exact Fc .u64 rfl _
theorem zP(h:Nat)(hh:h<18446744073709551616)(c:UInt8):Gv .u64 (h:Int) (IntKind.u64.wrap (c.toNat:Int))=((h ^^^ c.toNat:Nat):Int):=by
 have hc:=c.toNat_lt;have h1:c.toNat<2 ^ IntKind.u64.bits:=by rw[Hx];omega
 have h2:h<2 ^ IntKind.u64.bits:=by rw[Hx];exact hh
 have e:IntKind.u64.wrap (c.toNat:Int)=((c.toNat:Nat):Int):=by rw[Fc .u64 rfl,Dy h1]
 rw[e];exact Sc .u64 rfl _ _ h2 h1
theorem rZ(h:Nat)(hh:h<18446744073709551616)(c:UInt8):IntKind.u64.wrap (Gv .u64 (h:Int) (IntKind.u64.wrap (c.toNat:Int))*1099511628211)=(stepB h c:Int):=by
 unfold stepB;exact(congrArg (λz=>IntKind.u64.wrap (z*1099511628211)) (zP h hh c)).trans ((congrArg IntKind.u64.wrap (uA _)).trans (zJ _))
theorem ZM(k:AE)(hk:k.length≤1099511627776)(w:World):Cl Tryz.prog mB [AG k] w λv w'=>v= .int .u64 (EY k)∧St w [] [] w':=by
 have hS:=St.start w;refine dV rfl ?_;refine jq ⟨?_⟩;refine AL.loop (λi:Nat=>[(0,AG k),(3,.int .u64 (((k.take i).foldl stepB 14695981039346656037:Nat):Int)),(6,.int .i64 k.length),(7,.int .i64 i)])
  (λi w'=>i≤k.length∧(k.take i).foldl stepB 14695981039346656037<18446744073709551616∧St w [] [] w') (λi=>k.length-i) 0
  ⟨rfl,rfl,rfl,rfl,trivial⟩ ⟨Ag _,AB,hS⟩ ?_
 clear hS;rintro i w1⟨hi,hlt,hS⟩;by_cases hil:i<k.length
 ·have hsucc:(k.take (i+1)).foldl stepB 14695981039346656037=stepB ((k.take i).foldl stepB 14695981039346656037) k[i]:=by
   rw[Bs hil,Hq,HJ,List.foldl_nil]
  generalize(k.take i).foldl stepB 14695981039346656037=h at hlt hsucc;have hget:k.getD ((i:Int)).toNat 0=k[i]:=by rw[Gn,show((i:Int)).toNat=i by omega,CB hil];rfl
  generalize k[i]=c at hget hsucc;refine jq ⟨?_⟩;rw[hget,rZ h hlt c];refine jq ⟨?_⟩;exact⟨i+1,⟨rfl,by rw[hsucc];rfl,rfl,rfl,trivial⟩,⟨hil,by rw[hsucc];exact yE _ _,hS⟩,AA⟩
 ·obtain rfl:i=k.length:=AA;rw[Bz,rY];refine jq ⟨?_⟩;exact⟨rfl,hS⟩
def IV(k:AE)(m i:Nat):List Value:=(List.range 4).map λj=>AY (if j<i then(BW k m j:Int)else 0)
theorem XF(k:AE)(m i j:Nat)(h:j<4):(IV k m i)[j]?=some (AY (if j<i then(BW k m j:Int)else 0)):=by
 unfold IV;rw[Ex,List.getElem?_range h];rfl
theorem vR(k:AE)(m i:Nat)(h:i<4):(IV k m i).set i (AY (BW k m i))=IV k m (i+1):=by
 apply List.ext_getElem?;intro j;rw[List.getElem?_set];by_cases hj:j<4
 ·rw[XF _ _ _ _ hj,XF _ _ _ _ hj];by_cases e:i=j
  ·subst e;rw[if_pos rfl,if_pos (by simp[IV];omega),if_pos AA]
  ·rw[if_neg e]
   congr 2
   by_cases h1:j<i
   ·rw[if_pos h1,if_pos AA]
   ·rw[if_neg h1,if_neg AA]
 ·rw[if_neg AA];simp[IV,hj]
theorem vQ(k:AE)(m:Nat):IV k m 4=[.int .i64 (BW k m 0),.int .i64 (BW k m 1),.int .i64 (BW k m 2),.int .i64 (BW k m 3)]:=rfl
theorem wB(a b i m:Nat)(ha:a<4294967296)(hb:b<4294967296)(hi:i<4):(IntKind.u64.wrap ((a:Int)+IntKind.u64.wrap ((i:Int)*(b:Int)))).tmod (m:Int)=(((a+i*b) % m:Nat):Int):=by
 have h1:i*b≤3*4294967295:=Nat.mul_le_mul AA AA;rw[show(i:Int)*(b:Int)=((i*b:Nat):Int) by simp,Fc .u64 rfl,Hx,Dy AA,show(a:Int)+((i*b:Nat):Int)=((a+i*b:Nat):Int) by simp,Fc .u64 rfl,Hx,Dy AA];exact(Int.ofNat_tmod _ _).symm
theorem XS(k:AE)(hk:k.length≤1099511627776)(m:Nat)(hm:0<m∧m≤1125899906842624)(w:World):Cl Tryz.prog mD [AG k,.int .i64 m] w λv w'=>v= .agg ⟨[.int .i64 (BW k m 0),.int .i64 (BW k m 1),.int .i64 (BW k m 2),.int .i64 (BW k m 3)]⟩∧St w [] [] w':=by
 have hS:=St.start w;refine dX rfl ?_;refine jq ⟨?_⟩;refine hS.al ?_;intro b4 w1 _ hS;refine jq ⟨?_⟩;refine(ZM k hk _).mono ?_;rintro _ w2⟨rfl,hS'⟩;have hS:=hS.call0 hS';have hh:=rX k;refine jq ⟨?_⟩;refine hS.al ?_;intro b8 w3 _ hS;refine jq ⟨?_⟩;have e1:F3 .u64 (EY k:Int) 4294967295=((EY k % 4294967296:Nat):Int):=by
  have:=Np .u64 rfl (EY k) 4294967295 (by rw[Hx];exact hh) (by rw[Hx];omega);rw[show(4294967295:Int)=((4294967295:Nat):Int)from rfl,this]
  congr 1
  exact Mp (EY k) 32
 have e2:HV .u64 ((EY k:Int).fdiv (2 ^ (min (32:Int).toNat IntKind.u64.bits))) 1=((EY k / 4294967296 ||| 1:Nat):Int):=by
  rw[show min (32:Int).toNat IntKind.u64.bits=32 from rfl,Io,show(1:Int)=((1:Nat):Int)from rfl];exact LH .u64 rfl (EY k / 2 ^ 32) 1 (by rw[Hx];omega) (by rw[Hx];omega)
 have hb:(EY k / 4294967296 ||| 1)<2 ^ 32:=Nat.or_lt_two_pow AA AA;have ha:EY k % 4294967296<4294967296:=FP _ AA;refine AL.loop (λi:Nat=>[(1,.int .i64 m),(4,ptr b4),(6,.int .u64 ((EY k % 4294967296:Nat):Int)),(7,.int .u64 ((EY k / 4294967296 ||| 1:Nat):Int)),(8,ptr b8),(17,.int .i64 i)])
  (λi w'=>i≤4∧St w [] [(b8,.cells ⟨IV k m i⟩ TW (0,0)),(b4,.cells ⟨[.int .i64 0,.int .i64 0,.int .i64 0,.int .i64 0]⟩ TW (0,0))] w') (λi=>4-i) 0
  ⟨rfl,rfl,by rw[←e1];rfl,by rw[←e2];rfl,rfl,rfl,trivial⟩ ⟨AA,hS⟩ ?_
 clear hS;rintro i w4⟨hi,hS⟩;have hpe:=λh=>wB (EY k % 4294967296) (EY k / 4294967296 ||| 1) i m ha hb h;have hlt:BW k m i<m:=FP _ hm.1
 change∀h,_=((BW k m i:Nat):Int)at hpe
 by_cases hi4:i<4
 ·refine jq ⟨?_⟩;rw[hpe hi4];refine jq ⟨?_⟩;refine hS.stI (off:=0+((i:Int)).toNat*1) (l:=IV k m i) (by rfl) (by simp[IV];omega) ?_;intro w5 hS;rw[show 0+((i:Int)).toNat*1=i by omega,show Value.int .i64 (BW k m i:Int)=AY (BW k m i)from rfl,vR k m i hi4]at hS;refine jq ⟨?_⟩;exact⟨i+1,⟨rfl,rfl,rfl,rfl,rfl,rfl,trivial⟩,⟨hi4,hS⟩,AA⟩
 ·obtain rfl:i=4:=AA;rw[vQ]at hS;(repeat(refine jt ⟨?_⟩;refine hS.q ?_;intro _ hS));refine jt ⟨?_⟩;exact⟨rfl,hS.sub AB⟩
def KL(n:Nat):Value:= .int .u8 n
theorem Ti(p:Nat)(hp:p<4611686018427387904):F3 .i64 (p:Int) 7=((p % 8:Nat):Int):=by
 unfold F3;have e:(BitVec.ofInt IntKind.i64.bits (p:Int) &&& BitVec.ofInt IntKind.i64.bits 7).toNat=p % 8:=by
  rw[BitVec.toNat_and];have h1:(BitVec.ofInt IntKind.i64.bits (p:Int)).toNat=p:=by
   rw[BitVec.ofInt_natCast,BitVec.toNat_ofNat];exact Dy (show p<2 ^ 64 by omega)
  have h2:(BitVec.ofInt IntKind.i64.bits 7).toNat=7:=AC;rw[h1,h2];exact Mp p 3
 rw[e];have h8:p % 8<8:=FP _ AA;generalize p % 8=q at h8;have key: ∀i:Fin 8,IntKind.i64.wrap ((i.val:Nat):Int)=((i.val:Nat):Int):=by decide+kernel
 exact key ⟨q,h8⟩
theorem YB(p:Nat):(p:Int).fdiv (2 ^ (min (3:Int).toNat IntKind.i64.bits))=((p / 8:Nat):Int):=by
 rw[show min (3:Int).toNat IntKind.i64.bits=3 from rfl,Io]
theorem bM(q:Nat)(hq:q<8):IntKind.u8.wrap (1*2 ^ (min ((q:Nat):Int).toNat IntKind.u8.bits))=((2 ^ q:Nat):Int):=by
 have key: ∀i:Fin 8,IntKind.u8.wrap (1*2 ^ (min ((i.val:Nat):Int).toNat IntKind.u8.bits))=((2 ^ i.val:Nat):Int):=by decide+kernel
 exact key ⟨q,hq⟩
theorem Yw{w:World}{a:Option Addr}{c:Nat}{keys:List AE}(ha:Arr w [] a (keys.map AG))(hn:keys.length≤16777216)(hk: ∀k∈keys,k.length≤1099511627776):
  Cl Tryz.prog mA [.slice a keys.length c] w λv w'=>v=AG (Du keys)∧St w [] [] w':=by
 have hS:=St.start w;refine dU rfl ?_;cases hke:keys with
 |nil=>
  subst hke;refine jq ⟨?_⟩;exact⟨rfl,hS⟩
 |cons k0 ks=>
  rw[←hke];have h0:0<keys.length:=by rw[hke];simp
  have hbl:Du keys=(Gj keys).map UInt8.ofNat:=by rw[hke];rfl
  clear hke;refine jq ⟨?_⟩;rw[show(10*(keys.length:Int)+7).tdiv 8=(((10*keys.length+7) / 8:Nat):Int) by rw[Int.tdiv_eq_ediv_of_nonneg AA];omega];have hnb:0<(10*keys.length+7) / 8:=AA;have hnb2:(10*keys.length+7) / 8≤33554432:=AA;have hbn:Gj keys=keys.foldl HZ (List.replicate ((10*keys.length+7) / 8) 0):=rfl;generalize(10*keys.length+7) / 8=nb at hnb hnb2 hbn⊢;refine jq ⟨?_⟩;refine St.mkN AK (e:=GS) rfl rfl rfl (.int .u8 0) rfl rfl AC hS nb AA ?_
  intro b w1 hS;refine jq ⟨?_⟩;refine AL.loop (λi:Nat=>[(3,.slice (some ⟨b,0,none⟩) nb nb),(17,.slice a keys.length c),(18,.int .i64 keys.length),(19,.int .i64 i)])
   (λi w'=>i≤keys.length∧ ∃bits:List Nat,bits=(keys.take i).foldl HZ (List.replicate nb 0)∧bits.length=nb∧(∀x∈bits,x<256)∧St w [] [(b,.cells ⟨bits.map KL⟩ GS (0,0))] w') (λi=>keys.length-i) 0
   ⟨rfl,rfl,rfl,rfl,trivial⟩ ⟨Ag _,List.replicate nb 0,AB,AB,λx hx=>by rw[(List.mem_replicate.1 hx).2];omega,by rw[List.map_replicate];exact hS⟩ ?_
  clear hS;rintro i w2⟨hi,bits,hbits,hbl2,hb256,hS⟩;by_cases hil:i<keys.length
  ·have hx:(keys.map AG)[i]?=some (AG keys[i]):=by rw[Ex,CB hil];rfl
   obtain⟨g,off,rfl, -, -⟩:=ha.get (j:=i) (by rw[BM];exact hil);have hkl:=hk keys[i] (Ca hil);have hsucc:(keys.take (i+1)).foldl HZ (List.replicate nb 0)=HZ bits keys[i]:=by
    rw[Bs hil,Hq,HJ,List.foldl_nil,←hbits]
   generalize keys[i]=k at hx hkl hsucc;refine jq ⟨?_⟩;refine Arr.ldc hS ha hx AB ?_;refine jq ⟨?_⟩;rw[show 8*(nb:Int)=((8*nb:Nat):Int) by omega];refine(XS k hkl (8*nb) AA _).mono ?_;rintro _ w3⟨rfl,hS'⟩;have hS:=hS.call0 hS';have hpr:LI k (8*bits.length)=[BW k (8*nb) 0,BW k (8*nb) 1,BW k (8*nb) 2,BW k (8*nb) 3]:=by rw[hbl2];rfl
   have hsucc:(keys.take (i+1)).foldl HZ (List.replicate nb 0)=(LI k (8*bits.length)).foldl Fu bits:=hsucc;rw[hpr]at hsucc;have hp: ∀j,BW k (8*nb) j<8*nb:=λj=>FP _ AA;refine jq ⟨?_⟩;refine AL.loop (λj:Nat=>[(3,.slice (some ⟨b,0,none⟩) nb nb),(17,.slice (some ⟨g,off,none⟩) keys.length c),(18,.int .i64 keys.length),(19,.int .i64 i),(27,.agg ⟨[.int .i64 (BW k (8*nb) 0),.int .i64 (BW k (8*nb) 1),.int .i64 (BW k (8*nb) 2),.int .i64 (BW k (8*nb) 3)]⟩),(28,.int .i64 j)])
    (λj w'=>j≤4∧ ∃bs:List Nat,bs=([BW k (8*nb) 0,BW k (8*nb) 1,BW k (8*nb) 2,BW k (8*nb) 3].take j).foldl Fu bits∧bs.length=nb∧(∀x∈bs,x<256)∧St w [] [(b,.cells ⟨bs.map KL⟩ GS (0,0))] w') (λj=>4-j) 0
    ⟨rfl,rfl,rfl,rfl,rfl,rfl,trivial⟩ ⟨AA,bits,rfl,hbl2,hb256,hS⟩ ?_
   clear hS hS';rintro j w4⟨hj,bs,hbs,hbsl,hbs256,hS⟩;by_cases hj4:j<4
   ·have hfin: ∀(j':Nat)(w5:World),j'=j+1→St w [] [(b,.cells ⟨(bs.map KL).set (BW k (8*nb) j / 8) (KL (bs.getD (BW k (8*nb) j / 8) 0 ||| 2 ^ (BW k (8*nb) j % 8)))⟩ GS (0,0))] w5→
      j'≤4∧ ∃bs:List Nat,bs=([BW k (8*nb) 0,BW k (8*nb) 1,BW k (8*nb) 2,BW k (8*nb) 3].take j').foldl Fu bits∧bs.length=nb∧(∀x∈bs,x<256)∧St w [] [(b,.cells ⟨bs.map KL⟩ GS (0,0))] w5:=by
     rintro _ w5 rfl hS;refine⟨hj4,Fu bs (BW k (8*nb) j),?_,by rw[R7];exact hbsl,X8 hbs256 _,?_⟩
     ·rw[hbs]
      match j,hj4 with
      |0,_|1,_|2,_|3,_=>rfl
     ·unfold Fu;rw[List.map_set];exact hS
    have hpj:=hp j;have hgp:([Value.int .i64 (BW k (8*nb) 0),.int .i64 (BW k (8*nb) 1),.int .i64 (BW k (8*nb) 2),.int .i64 (BW k (8*nb) 3)])[j]?=some (.int .i64 (BW k (8*nb) j)):=by
     match j,hj4 with
     |0,_|1,_|2,_|3,_=>rfl
    generalize BW k (8*nb) j=p at hpj hfin hgp;have hp8:p / 8<nb:=AA;have hgd:bs[p / 8]?=some (bs.getD (p / 8) 0):=by rw[Gn,CB AA];rfl
    have hb256:bs.getD (p / 8) 0<256:=hbs256 _ (List.mem_of_getElem? hgd);have h28:2 ^ (p % 8)<2 ^ IntKind.u8.bits:=Nat.pow_lt_pow_right AA (FP _ AC);refine jq ⟨?_⟩;refine Q7 AK rfl rfl rfl rfl hj4 hgp ?_;refine jq ⟨?_⟩;rw[YB];refine jq ⟨?_⟩;refine hS.ld (v:= .int .u8 (bs.getD (p / 8) 0:Nat)) (by rw[show 0+(((p / 8:Nat):Int)).toNat*1=p / 8 by omega,Ex,hgd];rfl) ?_;refine jq ⟨?_⟩;rw[Ti p AA,Fc .u64 rfl,Hx,Dy AA]
    have hq8:p % 8<8:=FP _ AA;refine jq ⟨?_⟩;rw[bM (p % 8) hq8];refine jq ⟨?_⟩;rw[LH .u8 rfl (bs.getD (p / 8) 0) (2 ^ (p % 8)) hb256 h28];refine jq ⟨?_⟩;refine hS.stI (off:=0+(((p / 8:Nat):Int)).toNat*1) (l:=bs.map KL) (by rfl) (by rw[BM];omega) ?_;intro w5 hS;rw[show 0+(((p / 8:Nat):Int)).toNat*1=p / 8 by omega]at hS;refine jq ⟨?_⟩;exact⟨j+1,⟨rfl,rfl,rfl,rfl,rfl,rfl,trivial⟩,hfin _ _ rfl hS,AA⟩
   ·obtain rfl:j=4:=AA;refine jq ⟨?_⟩;exact⟨i+1,⟨rfl,rfl,rfl,rfl,trivial⟩,⟨hil,bs,by show bs=(keys.take (i+1)).foldl HZ _;rw[hsucc];exact hbs,hbsl,hbs256,hS⟩,AA⟩
  ·obtain rfl:i=keys.length:=AA;rw[Bz]at hbits;have e1:(Du keys).map Eg=bits.map KL:=by
    rw[hbl,hbn,←hbits,Fp];refine List.map_congr_left λx hx=>?_;have:=hb256 x hx;show Value.int .u8 ((UInt8.ofNat x).toNat:Int)=Value.int .u8 (x:Int);rw[UInt8.toNat_ofNat',Dy AA]
   refine jq ⟨?_⟩;refine SP AK rfl rfl rfl rfl rfl rfl (T:=[]) (bs:=Du keys) (by rw[←BM (f:=Eg),e1,BM];exact hbl2) (λw' hw'=>by subst hw';rw[e1];exact hS.arr (b:=b) (T':=[]) AB) ?_;refine jq ⟨?_⟩;exact⟨rfl,hS.nil⟩
theorem bL(x q:Nat)(hx:x<256)(_hq:q<8):F3 .u8 ((x:Int).fdiv (2 ^ (min ((q:Nat):Int).toNat IntKind.u8.bits))) 1=if x.testBit q then 1 else 0:=by
 have key: ∀(i:Fin 256)(j:Fin 8),F3 .u8 (((i.val:Nat):Int).fdiv (2 ^ (min ((j.val:Nat):Int).toNat IntKind.u8.bits))) 1=if i.val.testBit j.val then 1 else 0:=by decide+kernel
 exact key ⟨x,hx⟩ ⟨q,_hq⟩
theorem Ze(f k:AE)(hf:f.length≤1099511627776)(hk:k.length≤1099511627776)(w:World):Cl Tryz.prog mC [AG f,AG k] w λv w'=>v= .bool (IU f k)∧St w [] [] w':=by
 have hS:=St.start w;refine dW rfl ?_;by_cases h0:f=[]
 ·subst h0;refine jq ⟨?_⟩;exact⟨rfl,hS⟩
 ·have hpos:0<f.length:=J5.2 h0;refine jq ⟨?_⟩;rw[show 8*(f.length:Int)=((8*f.length:Nat):Int) by omega];refine(XS k hk (8*f.length) AA _).mono ?_;rintro _ w3⟨rfl,hS'⟩;have hS:=hS.call0 hS';have hp: ∀j,BW k (8*f.length) j<8*f.length:=λj=>FP _ AA;have hmay:IU f k=(List.range 4).all λj=>E7 (f.map UInt8.toNat) (BW k (8*f.length) j):=by
   unfold IU LI;rw[decide_eq_false h0,List.all_map]
   rfl
  refine jq ⟨?_⟩;refine AL.loop (λj:Nat=>[(0,AG f),(13,.agg ⟨[.int .i64 (BW k (8*f.length) 0),.int .i64 (BW k (8*f.length) 1),.int .i64 (BW k (8*f.length) 2),.int .i64 (BW k (8*f.length) 3)]⟩),(14,.int .i64 j)])
   (λj w'=>(j≤4∧ ∀i,i<j→E7 (f.map UInt8.toNat) (BW k (8*f.length) i)=true)∧St w [] [] w') (λj=>4-j) 0
   ⟨rfl,rfl,rfl,trivial⟩ ⟨⟨AA,λi h=>AA⟩,hS⟩ ?_
  clear hS hS';rintro j w4⟨⟨hj,hall⟩,hS⟩;by_cases hj4:j<4
  ·have hpj:=hp j;have hgp:([Value.int .i64 (BW k (8*f.length) 0),.int .i64 (BW k (8*f.length) 1),.int .i64 (BW k (8*f.length) 2),.int .i64 (BW k (8*f.length) 3)])[j]?=some (.int .i64 (BW k (8*f.length) j)):=by
    match j,hj4 with
    |0,_|1,_|2,_|3,_=>rfl
   have hno:E7 (f.map UInt8.toNat) (BW k (8*f.length) j)=false→IU f k=false:=λh=>by
    rw[hmay,List.all_eq_false];exact⟨j,List.mem_range.2 hj4,by rw[h];simp⟩
   have hyes:E7 (f.map UInt8.toNat) (BW k (8*f.length) j)=true→ ∀i,i<j+1→E7 (f.map UInt8.toNat) (BW k (8*f.length) i)=true:=λh i hi=>by
    by_cases e:i=j
    ·subst e;exact h
    ·exact hall i AA
   generalize BW k (8*f.length) j=p at hpj hgp hno hyes;have hp8:p / 8<f.length:=AA;have hbit:E7 (f.map UInt8.toNat) p=((f.getD (p / 8) 0).toNat).testBit (p % 8):=by
    unfold E7;rw[Gn,Gn,Ex,CB hp8]
    rfl
   rw[hbit]at hno hyes;refine jq ⟨?_⟩;refine Q7 AK rfl rfl rfl rfl hj4 hgp ?_;refine jq ⟨?_⟩;rw[YB];refine jq ⟨?_⟩;rw[Ti p AA,Fc .u64 rfl,Hx,Dy AA,show((((p / 8:Nat):Int))).toNat=p / 8 by omega];have hq8:p % 8<8:=FP _ AA;refine jq ⟨?_⟩;rw[bL _ _ (UInt8.toNat_lt _) hq8];cases htb:((f.getD (p / 8) 0).toNat).testBit (p % 8)with
   |true=>
    rw[if_pos rfl];refine jq ⟨?_⟩;exact⟨j+1,⟨rfl,rfl,rfl,trivial⟩,⟨⟨AA,hyes htb⟩,hS⟩,AA⟩
   |false=>
    rw[if_neg AB];refine jq ⟨?_⟩;exact⟨by rw[hno htb],hS⟩
  ·obtain rfl:j=4:=AA;have hy:IU f k=true:=by
    rw[hmay,C8]
    exactλi hi=>hall i (List.mem_range.1 hi)
   rw[hy];refine jq ⟨?_⟩;exact⟨rfl,hS⟩
end Go.Proofs.YtkgibdhpijdbfaaGreatDoor
