/- Texts of this claim, one behind the other. -/
import Derived.Test.YtkgibdhpijdbfaaGreatDoorZ6
import Derived.Test.YtkgibdhpijdbfaaGreatDoorZ4
import Derived.Test.YtkgibdhpijdbfaaGreatDoorZ9
import Derived.Test.YtkgibdhpijdbfaaGreatDoorZ5
import Derived.Test.YtkgibdhpijdbfaaGreatDoorZ2
import Derived.Test.YtkgibdhpijdbfaaGreatDoorZ12
set_option linter.unusedVariables false
set_option linter.unusedSimpArgs false
set_option maxHeartbeats 16000000
namespace Go.Proofs.YtkgibdhpijdbfaaGreatDoor
open Go Go.Eng Go.Proofs
@[irreducible] def stepB (h : Nat) (c : UInt8) : Nat := ((h ^^^ c.toNat) * 1099511628211) % 18446744073709551616
theorem yA(h:Nat)(c:UInt8):stepB h c<18446744073709551616:=by unfold stepB;exact FO _ AA
theorem rY(k:AE):k.foldl stepB 14695981039346656037=EX k:=by
 unfold EX
 congr 1
 funext h c
 unfold stepB
 rfl
theorem Hy:(2:Nat) ^ IntKind.u64.bits=18446744073709551616:=AC
theorem uB(x:Nat):(x:Int)*1099511628211=((x*1099511628211:Nat):Int):=AB
theorem zF(x:Nat):IntKind.u64.wrap ((x*1099511628211:Nat):Int)=((x*1099511628211 % 18446744073709551616:Nat):Int):=by
 rw[←Hy];exact FY .u64 rfl _
theorem zL(h:Nat)(hh:h<18446744073709551616)(c:UInt8):Gv .u64 (h:Int) (IntKind.u64.wrap (c.toNat:Int))=((h ^^^ c.toNat:Nat):Int):=by
 have hc:=c.toNat_lt;have h1:c.toNat<2 ^ IntKind.u64.bits:=by rw[Hy];omega
 have h2:h<2 ^ IntKind.u64.bits:=by rw[Hy];exact hh
 have e:IntKind.u64.wrap (c.toNat:Int)=((c.toNat:Nat):Int):=by rw[FY .u64 rfl,Dx h1]
 rw[e];exact SZ .u64 rfl _ _ h2 h1
theorem rZ(h:Nat)(hh:h<18446744073709551616)(c:UInt8):IntKind.u64.wrap (Gv .u64 (h:Int) (IntKind.u64.wrap (c.toNat:Int))*1099511628211)=(stepB h c:Int):=by
 unfold stepB;exact(congrArg (λz=>IntKind.u64.wrap (z*1099511628211)) (zL h hh c)).trans ((congrArg IntKind.u64.wrap (uB _)).trans (zF _))
theorem ZT(k:AE)(hk:k.length≤1099511627776)(w:World):Cl Tryz.prog mB [AG k] w λv w'=>v= .int .u64 (EX k)∧St w [] [] w':=by
 have hS:=St.start w;refine dZ rfl ?_;refine jq ⟨?_⟩;refine AM.loop (λi:Nat=>[(0,AG k),(3,.int .u64 (((k.take i).foldl stepB 14695981039346656037:Nat):Int)),(6,.int .i64 k.length),(7,.int .i64 i)])
  (λi w'=>i≤k.length∧(k.take i).foldl stepB 14695981039346656037<18446744073709551616∧St w [] [] w') (λi=>k.length-i) 0
  ⟨rfl,rfl,rfl,rfl,trivial⟩ ⟨Ag _,AB,hS⟩ ?_
 clear hS;rintro i w1⟨hi,hlt,hS⟩;by_cases hil:i<k.length
 ·have hsucc:(k.take (i+1)).foldl stepB 14695981039346656037=stepB ((k.take i).foldl stepB 14695981039346656037) k[i]:=by
   rw[Bq hil,Ho,HI,List.foldl_nil]
  generalize(k.take i).foldl stepB 14695981039346656037=h at hlt hsucc;have hget:k.getD ((i:Int)).toNat 0=k[i]:=by rw[Gk,show((i:Int)).toNat=i by omega,CB hil];rfl
  generalize k[i]=c at hget hsucc;refine jq ⟨?_⟩;rw[hget,rZ h hlt c];refine jq ⟨?_⟩;exact⟨i+1,⟨rfl,by rw[hsucc];rfl,rfl,rfl,trivial⟩,⟨hil,by rw[hsucc];exact yA _ _,hS⟩,AA⟩
 ·obtain rfl:i=k.length:=AA;rw[Bz,rY];refine jq ⟨?_⟩;exact⟨rfl,hS⟩
def IU(k:AE)(m i:Nat):List Value:=(List.range 4).map λj=>AY (if j<i then(BQ k m j:Int)else 0)
theorem XI(k:AE)(m i j:Nat)(h:j<4):(IU k m i)[j]?=some (AY (if j<i then(BQ k m j:Int)else 0)):=by
 unfold IU;rw[Et,List.getElem?_range h];rfl
theorem vR(k:AE)(m i:Nat)(h:i<4):(IU k m i).set i (AY (BQ k m i))=IU k m (i+1):=by
 apply List.ext_getElem?;intro j;rw[List.getElem?_set];by_cases hj:j<4
 ·rw[XI _ _ _ _ hj,XI _ _ _ _ hj];by_cases e:i=j
  ·subst e;rw[if_pos rfl,if_pos (by simp[IU];omega),if_pos AA]
  ·rw[if_neg e]
   congr 2
   by_cases h1:j<i
   ·rw[if_pos h1,if_pos AA]
   ·rw[if_neg h1,if_neg AA]
 ·rw[if_neg AA];simp[IU,hj]
theorem vQ(k:AE)(m:Nat):IU k m 4=[.int .i64 (BQ k m 0),.int .i64 (BQ k m 1),.int .i64 (BQ k m 2),.int .i64 (BQ k m 3)]:=rfl
theorem wB(a b i m:Nat)(ha:a<4294967296)(hb:b<4294967296)(hi:i<4):(IntKind.u64.wrap ((a:Int)+IntKind.u64.wrap ((i:Int)*(b:Int)))).tmod (m:Int)=(((a+i*b) % m:Nat):Int):=by
 have h1:i*b≤3*4294967295:=Nat.mul_le_mul AA AA;rw[show(i:Int)*(b:Int)=((i*b:Nat):Int) by simp,FY .u64 rfl,Hy,Dx AA,show(a:Int)+((i*b:Nat):Int)=((a+i*b:Nat):Int) by simp,FY .u64 rfl,Hy,Dx AA];exact(Int.ofNat_tmod _ _).symm
theorem XV(k:AE)(hk:k.length≤1099511627776)(m:Nat)(hm:0<m∧m≤1125899906842624)(w:World):Cl Tryz.prog mD [AG k,.int .i64 m] w λv w'=>v= .agg ⟨[.int .i64 (BQ k m 0),.int .i64 (BQ k m 1),.int .i64 (BQ k m 2),.int .i64 (BQ k m 3)]⟩∧St w [] [] w':=by
 have hS:=St.start w;refine eB rfl ?_;refine jq ⟨?_⟩;refine hS.al ?_;intro b4 w1 _ hS;refine jq ⟨?_⟩;refine(ZT k hk _).mono ?_;rintro _ w2⟨rfl,hS'⟩;have hS:=hS.call0 hS';have hh:=rX k;refine jq ⟨?_⟩;refine hS.al ?_;intro b8 w3 _ hS;refine jq ⟨?_⟩;have e1:F3 .u64 (EX k:Int) 4294967295=((EX k % 4294967296:Nat):Int):=by
  have:=Nu .u64 rfl (EX k) 4294967295 (by rw[Hy];exact hh) (by rw[Hy];omega);rw[show(4294967295:Int)=((4294967295:Nat):Int)from rfl,this]
  congr 1
  exact Mu (EX k) 32
 have e2:HS .u64 ((EX k:Int).fdiv (2 ^ (min (32:Int).toNat IntKind.u64.bits))) 1=((EX k / 4294967296 ||| 1:Nat):Int):=by
  rw[show min (32:Int).toNat IntKind.u64.bits=32 from rfl,Io,show(1:Int)=((1:Nat):Int)from rfl];exact LP .u64 rfl (EX k / 2 ^ 32) 1 (by rw[Hy];omega) (by rw[Hy];omega)
 have hb:(EX k / 4294967296 ||| 1)<2 ^ 32:=Nat.or_lt_two_pow AA AA;have ha:EX k % 4294967296<4294967296:=FO _ AA;refine AM.loop (λi:Nat=>[(1,.int .i64 m),(4,ptr b4),(6,.int .u64 ((EX k % 4294967296:Nat):Int)),(7,.int .u64 ((EX k / 4294967296 ||| 1:Nat):Int)),(8,ptr b8),(17,.int .i64 i)])
  (λi w'=>i≤4∧St w [] [(b8,.cells ⟨IU k m i⟩ TS (0,0)),(b4,.cells ⟨[.int .i64 0,.int .i64 0,.int .i64 0,.int .i64 0]⟩ TS (0,0))] w') (λi=>4-i) 0
  ⟨rfl,rfl,by rw[←e1];rfl,by rw[←e2];rfl,rfl,rfl,trivial⟩ ⟨AA,hS⟩ ?_
 clear hS;rintro i w4⟨hi,hS⟩;have hpe:=λh=>wB (EX k % 4294967296) (EX k / 4294967296 ||| 1) i m ha hb h;have hlt:BQ k m i<m:=FO _ hm.1
 change∀h,_=((BQ k m i:Nat):Int)at hpe
 by_cases hi4:i<4
 ·refine jq ⟨?_⟩;rw[hpe hi4];refine jq ⟨?_⟩;refine hS.stI (off:=0+((i:Int)).toNat*1) (l:=IU k m i) (by rfl) (by simp[IU];omega) ?_;intro w5 hS;rw[show 0+((i:Int)).toNat*1=i by omega,show Value.int .i64 (BQ k m i:Int)=AY (BQ k m i)from rfl,vR k m i hi4]at hS;refine jq ⟨?_⟩;exact⟨i+1,⟨rfl,rfl,rfl,rfl,rfl,rfl,trivial⟩,⟨hi4,hS⟩,AA⟩
 ·obtain rfl:i=4:=AA;rw[vQ]at hS;(repeat(refine jt ⟨?_⟩;refine hS.q ?_;intro _ hS));refine jt ⟨?_⟩;exact⟨rfl,hS.sub AB⟩
def KU(n:Nat):Value:= .int .u8 n
theorem Tf(p:Nat)(hp:p<4611686018427387904):F3 .i64 (p:Int) 7=((p % 8:Nat):Int):=by
 unfold F3;have e:(BitVec.ofInt IntKind.i64.bits (p:Int) &&& BitVec.ofInt IntKind.i64.bits 7).toNat=p % 8:=by
  rw[BitVec.toNat_and];have h1:(BitVec.ofInt IntKind.i64.bits (p:Int)).toNat=p:=by
   rw[BitVec.ofInt_natCast,BitVec.toNat_ofNat];exact Dx (show p<2 ^ 64 by omega)
  have h2:(BitVec.ofInt IntKind.i64.bits 7).toNat=7:=AC;rw[h1,h2];exact Mu p 3
 rw[e];have h8:p % 8<8:=FO _ AA;generalize p % 8=q at h8;have key: ∀i:Fin 8,IntKind.i64.wrap ((i.val:Nat):Int)=((i.val:Nat):Int):=by decide+kernel
 exact key ⟨q,h8⟩
theorem YG(p:Nat):(p:Int).fdiv (2 ^ (min (3:Int).toNat IntKind.i64.bits))=((p / 8:Nat):Int):=by
 rw[show min (3:Int).toNat IntKind.i64.bits=3 from rfl,Io]
theorem bS(q:Nat)(hq:q<8):IntKind.u8.wrap (1*2 ^ (min ((q:Nat):Int).toNat IntKind.u8.bits))=((2 ^ q:Nat):Int):=by
 have key: ∀i:Fin 8,IntKind.u8.wrap (1*2 ^ (min ((i.val:Nat):Int).toNat IntKind.u8.bits))=((2 ^ i.val:Nat):Int):=by decide+kernel
 exact key ⟨q,hq⟩
theorem Y2{w:World}{a:Option Addr}{c:Nat}{keys:List AE}(ha:Arr w [] a (keys.map AG))(hn:keys.length≤16777216)(hk: ∀k∈keys,k.length≤1099511627776):
  Cl Tryz.prog mA [.slice a keys.length c] w λv w'=>v=AG (Dt keys)∧St w [] [] w':=by
 have hS:=St.start w;refine dY rfl ?_;cases hke:keys with
 |nil=>
  subst hke;refine jq ⟨?_⟩;exact⟨rfl,hS⟩
 |cons k0 ks=>
  rw[←hke];have h0:0<keys.length:=by rw[hke];simp
  have hbl:Dt keys=(Gh keys).map UInt8.ofNat:=by rw[hke];rfl
  clear hke;refine jq ⟨?_⟩;rw[show(10*(keys.length:Int)+7).tdiv 8=(((10*keys.length+7) / 8:Nat):Int) by rw[Int.tdiv_eq_ediv_of_nonneg AA];omega];have hnb:0<(10*keys.length+7) / 8:=AA;have hnb2:(10*keys.length+7) / 8≤33554432:=AA;have hbn:Gh keys=keys.foldl HW (List.replicate ((10*keys.length+7) / 8) 0):=rfl;generalize(10*keys.length+7) / 8=nb at hnb hnb2 hbn⊢;refine jq ⟨?_⟩;refine St.mkN AK (e:=GS) rfl rfl rfl (.int .u8 0) rfl rfl AC hS nb AA ?_
  intro b w1 hS;refine jq ⟨?_⟩;refine AM.loop (λi:Nat=>[(3,.slice (some ⟨b,0,none⟩) nb nb),(17,.slice a keys.length c),(18,.int .i64 keys.length),(19,.int .i64 i)])
   (λi w'=>i≤keys.length∧ ∃bits:List Nat,bits=(keys.take i).foldl HW (List.replicate nb 0)∧bits.length=nb∧(∀x∈bits,x<256)∧St w [] [(b,.cells ⟨bits.map KU⟩ GS (0,0))] w') (λi=>keys.length-i) 0
   ⟨rfl,rfl,rfl,rfl,trivial⟩ ⟨Ag _,List.replicate nb 0,AB,AB,λx hx=>by rw[(List.mem_replicate.1 hx).2];omega,by rw[List.map_replicate];exact hS⟩ ?_
  clear hS;rintro i w2⟨hi,bits,hbits,hbl2,hb256,hS⟩;by_cases hil:i<keys.length
  ·have hx:(keys.map AG)[i]?=some (AG keys[i]):=by rw[Et,CB hil];rfl
   obtain⟨g,off,rfl, -, -⟩:=ha.get (j:=i) (by rw[BZ];exact hil);have hkl:=hk keys[i] (CW hil);have hsucc:(keys.take (i+1)).foldl HW (List.replicate nb 0)=HW bits keys[i]:=by
    rw[Bq hil,Ho,HI,List.foldl_nil,←hbits]
   generalize keys[i]=k at hx hkl hsucc;refine jq ⟨?_⟩;refine Arr.ldc hS ha hx AB ?_;refine jq ⟨?_⟩;rw[show 8*(nb:Int)=((8*nb:Nat):Int) by omega];refine(XV k hkl (8*nb) AA _).mono ?_;rintro _ w3⟨rfl,hS'⟩;have hS:=hS.call0 hS';have hpr:LQ k (8*bits.length)=[BQ k (8*nb) 0,BQ k (8*nb) 1,BQ k (8*nb) 2,BQ k (8*nb) 3]:=by rw[hbl2];rfl
   have hsucc:(keys.take (i+1)).foldl HW (List.replicate nb 0)=(LQ k (8*bits.length)).foldl Fu bits:=hsucc;rw[hpr]at hsucc;have hp: ∀j,BQ k (8*nb) j<8*nb:=λj=>FO _ AA;refine jq ⟨?_⟩;refine AM.loop (λj:Nat=>[(3,.slice (some ⟨b,0,none⟩) nb nb),(17,.slice (some ⟨g,off,none⟩) keys.length c),(18,.int .i64 keys.length),(19,.int .i64 i),(27,.agg ⟨[.int .i64 (BQ k (8*nb) 0),.int .i64 (BQ k (8*nb) 1),.int .i64 (BQ k (8*nb) 2),.int .i64 (BQ k (8*nb) 3)]⟩),(28,.int .i64 j)])
    (λj w'=>j≤4∧ ∃bs:List Nat,bs=([BQ k (8*nb) 0,BQ k (8*nb) 1,BQ k (8*nb) 2,BQ k (8*nb) 3].take j).foldl Fu bits∧bs.length=nb∧(∀x∈bs,x<256)∧St w [] [(b,.cells ⟨bs.map KU⟩ GS (0,0))] w') (λj=>4-j) 0
    ⟨rfl,rfl,rfl,rfl,rfl,rfl,trivial⟩ ⟨AA,bits,rfl,hbl2,hb256,hS⟩ ?_
   clear hS hS';rintro j w4⟨hj,bs,hbs,hbsl,hbs256,hS⟩;by_cases hj4:j<4
   ·have hfin: ∀(j':Nat)(w5:World),j'=j+1→St w [] [(b,.cells ⟨(bs.map KU).set (BQ k (8*nb) j / 8) (KU (bs.getD (BQ k (8*nb) j / 8) 0 ||| 2 ^ (BQ k (8*nb) j % 8)))⟩ GS (0,0))] w5→
      j'≤4∧ ∃bs:List Nat,bs=([BQ k (8*nb) 0,BQ k (8*nb) 1,BQ k (8*nb) 2,BQ k (8*nb) 3].take j').foldl Fu bits∧bs.length=nb∧(∀x∈bs,x<256)∧St w [] [(b,.cells ⟨bs.map KU⟩ GS (0,0))] w5:=by
     rintro _ w5 rfl hS;refine⟨hj4,Fu bs (BQ k (8*nb) j),?_,by rw[R4];exact hbsl,YD hbs256 _,?_⟩
     ·rw[hbs]
      match j,hj4 with
      |0,_|1,_|2,_|3,_=>rfl
     ·unfold Fu;rw[List.map_set];exact hS
    have hpj:=hp j;have hgp:([Value.int .i64 (BQ k (8*nb) 0),.int .i64 (BQ k (8*nb) 1),.int .i64 (BQ k (8*nb) 2),.int .i64 (BQ k (8*nb) 3)])[j]?=some (.int .i64 (BQ k (8*nb) j)):=by
     match j,hj4 with
     |0,_|1,_|2,_|3,_=>rfl
    generalize BQ k (8*nb) j=p at hpj hfin hgp;have hp8:p / 8<nb:=AA;have hgd:bs[p / 8]?=some (bs.getD (p / 8) 0):=by rw[Gk,CB AA];rfl
    have hb256:bs.getD (p / 8) 0<256:=hbs256 _ (List.mem_of_getElem? hgd);have h28:2 ^ (p % 8)<2 ^ IntKind.u8.bits:=Nat.pow_lt_pow_right AA (FO _ AC);refine jq ⟨?_⟩;refine Q6 AK rfl rfl rfl rfl hj4 hgp ?_;refine jq ⟨?_⟩;rw[YG];refine jq ⟨?_⟩;refine hS.ld (v:= .int .u8 (bs.getD (p / 8) 0:Nat)) (by rw[show 0+(((p / 8:Nat):Int)).toNat*1=p / 8 by omega,Et,hgd];rfl) ?_;refine jq ⟨?_⟩;rw[Tf p AA,FY .u64 rfl,Hy,Dx AA]
    have hq8:p % 8<8:=FO _ AA;refine jq ⟨?_⟩;rw[bS (p % 8) hq8];refine jq ⟨?_⟩;rw[LP .u8 rfl (bs.getD (p / 8) 0) (2 ^ (p % 8)) hb256 h28];refine jq ⟨?_⟩;refine hS.stI (off:=0+(((p / 8:Nat):Int)).toNat*1) (l:=bs.map KU) (by rfl) (by rw[BZ];omega) ?_;intro w5 hS;rw[show 0+(((p / 8:Nat):Int)).toNat*1=p / 8 by omega]at hS;refine jq ⟨?_⟩;exact⟨j+1,⟨rfl,rfl,rfl,rfl,rfl,rfl,trivial⟩,hfin _ _ rfl hS,AA⟩
   ·obtain rfl:j=4:=AA;refine jq ⟨?_⟩;exact⟨i+1,⟨rfl,rfl,rfl,rfl,trivial⟩,⟨hil,bs,by show bs=(keys.take (i+1)).foldl HW _;rw[hsucc];exact hbs,hbsl,hbs256,hS⟩,AA⟩
  ·obtain rfl:i=keys.length:=AA;rw[Bz]at hbits;have e1:(Dt keys).map Ee=bits.map KU:=by
    rw[hbl,hbn,←hbits,Fo];refine KC λx hx=>?_;have:=hb256 x hx;show Value.int .u8 ((UInt8.ofNat x).toNat:Int)=Value.int .u8 (x:Int);rw[UInt8.toNat_ofNat',Dx AA]
   refine jq ⟨?_⟩;refine SK AK rfl rfl rfl rfl rfl rfl (T:=[]) (bs:=Dt keys) (by rw[←BZ (f:=Ee),e1,BZ];exact hbl2) (λw' hw'=>by subst hw';rw[e1];exact hS.arr (b:=b) (T':=[]) AB) ?_;refine jq ⟨?_⟩;exact⟨rfl,hS.nil⟩
theorem bR(x q:Nat)(hx:x<256)(_hq:q<8):F3 .u8 ((x:Int).fdiv (2 ^ (min ((q:Nat):Int).toNat IntKind.u8.bits))) 1=if x.testBit q then 1 else 0:=by
 have key: ∀(i:Fin 256)(j:Fin 8),F3 .u8 (((i.val:Nat):Int).fdiv (2 ^ (min ((j.val:Nat):Int).toNat IntKind.u8.bits))) 1=if i.val.testBit j.val then 1 else 0:=by decide+kernel
 exact key ⟨x,hx⟩ ⟨q,_hq⟩
theorem Zl(f k:AE)(hf:f.length≤1099511627776)(hk:k.length≤1099511627776)(w:World):Cl Tryz.prog mC [AG f,AG k] w λv w'=>v= .bool (IT f k)∧St w [] [] w':=by
 have hS:=St.start w;refine eA rfl ?_;by_cases h0:f=[]
 ·subst h0;refine jq ⟨?_⟩;exact⟨rfl,hS⟩
 ·have hpos:0<f.length:=KB.2 h0;refine jq ⟨?_⟩;rw[show 8*(f.length:Int)=((8*f.length:Nat):Int) by omega];refine(XV k hk (8*f.length) AA _).mono ?_;rintro _ w3⟨rfl,hS'⟩;have hS:=hS.call0 hS';have hp: ∀j,BQ k (8*f.length) j<8*f.length:=λj=>FO _ AA;have hmay:IT f k=(List.range 4).all λj=>E6 (f.map UInt8.toNat) (BQ k (8*f.length) j):=by
   unfold IT LQ;rw[decide_eq_false h0,List.all_map]
   rfl
  refine jq ⟨?_⟩;refine AM.loop (λj:Nat=>[(0,AG f),(13,.agg ⟨[.int .i64 (BQ k (8*f.length) 0),.int .i64 (BQ k (8*f.length) 1),.int .i64 (BQ k (8*f.length) 2),.int .i64 (BQ k (8*f.length) 3)]⟩),(14,.int .i64 j)])
   (λj w'=>(j≤4∧ ∀i,i<j→E6 (f.map UInt8.toNat) (BQ k (8*f.length) i)=true)∧St w [] [] w') (λj=>4-j) 0
   ⟨rfl,rfl,rfl,trivial⟩ ⟨⟨AA,λi h=>AA⟩,hS⟩ ?_
  clear hS hS';rintro j w4⟨⟨hj,hall⟩,hS⟩;by_cases hj4:j<4
  ·have hpj:=hp j;have hgp:([Value.int .i64 (BQ k (8*f.length) 0),.int .i64 (BQ k (8*f.length) 1),.int .i64 (BQ k (8*f.length) 2),.int .i64 (BQ k (8*f.length) 3)])[j]?=some (.int .i64 (BQ k (8*f.length) j)):=by
    match j,hj4 with
    |0,_|1,_|2,_|3,_=>rfl
   have hno:E6 (f.map UInt8.toNat) (BQ k (8*f.length) j)=false→IT f k=false:=λh=>by
    rw[hmay,List.all_eq_false];exact⟨j,List.mem_range.2 hj4,by rw[h];simp⟩
   have hyes:E6 (f.map UInt8.toNat) (BQ k (8*f.length) j)=true→ ∀i,i<j+1→E6 (f.map UInt8.toNat) (BQ k (8*f.length) i)=true:=λh i hi=>by
    by_cases e:i=j
    ·subst e;exact h
    ·exact hall i AA
   generalize BQ k (8*f.length) j=p at hpj hgp hno hyes;have hp8:p / 8<f.length:=AA;have hbit:E6 (f.map UInt8.toNat) p=((f.getD (p / 8) 0).toNat).testBit (p % 8):=by
    unfold E6;rw[Gk,Gk,Et,CB hp8]
    rfl
   rw[hbit]at hno hyes;refine jq ⟨?_⟩;refine Q6 AK rfl rfl rfl rfl hj4 hgp ?_;refine jq ⟨?_⟩;rw[YG];refine jq ⟨?_⟩;rw[Tf p AA,FY .u64 rfl,Hy,Dx AA,show((((p / 8:Nat):Int))).toNat=p / 8 by omega];have hq8:p % 8<8:=FO _ AA;refine jq ⟨?_⟩;rw[bR _ _ (UInt8.toNat_lt _) hq8];cases htb:((f.getD (p / 8) 0).toNat).testBit (p % 8)with
   |true=>
    rw[if_pos rfl];refine jq ⟨?_⟩;exact⟨j+1,⟨rfl,rfl,rfl,trivial⟩,⟨⟨AA,hyes htb⟩,hS⟩,AA⟩
   |false=>
    rw[if_neg AB];refine jq ⟨?_⟩;exact⟨by rw[hno htb],hS⟩
  ·obtain rfl:j=4:=AA;have hy:IT f k=true:=by
    rw[hmay,Db]
    exactλi hi=>hall i (List.mem_range.1 hi)
   rw[hy];refine jq ⟨?_⟩;exact⟨rfl,hS⟩
def E8(files:List (AE×(AE×Nat)))(n:AE):AE×Nat:=(Am n files).getD ([],0)
def HN(x:AE×Nat)(cuts:List Int)(k:Nat):Nat:=if k<cuts.length then min (cuts.getD k 0).toNat (x.1.length-x.2)else 0
def ID(x:AE×Nat)(j:Nat):AE×Nat:=(x.1.take (x.2+j),x.2+j)
def ET(files:List (AE×(AE×Nat)))(ns:List AE)(cuts:List Int):Nat→List (AE×(AE×Nat))
 |0=>[]
 |k+1=>BV (ns.getD k []) (ID (E8 files (ns.getD k [])) (HN (E8 files (ns.getD k [])) cuts k)) (ET files ns cuts k)
theorem Q8(x:AE×Nat)(cuts:List Int)(k:Nat):HN x cuts k≤x.1.length-x.2:=by
 unfold HN;split<;>omega
theorem Y8{w:World}{b:Nat}{m:AJ}{L:AH}(hF:BI b m L)(hh:Holds L w){a:Option Addr}{cap:Nat}{cuts:List Int}(ha:Arr w (keys L) a (cuts.map AY))(hcl:cuts.length≤1099511627776)
  (hl:m.files.length≤1099511627776)(hs: ∀x∈m.files,x.1.length≤maxLen)(hsy: ∀n,(E8 m.files n).2≤(E8 m.files n).1.length)(htl: ∀n,(E8 m.files n).1.length≤1099511627776):
  Cl Tryz.prog VJ [ptr b,.slice a cuts.length cap] w λv w'=>∃(ns:List AE)(g:Nat)(Lg:AH),ns.Perm (m.files.map (·.1))∧v=ptr g∧BI g ⟨ET m.files ns cuts ns.length,[],0,0,false⟩ Lg∧St w (keys L) (Lg++L) w':=by
 have hS:=St.enter hh;refine kW rfl ?_;refine jq ⟨?_⟩;refine Pc.mono ?_;rintro _ w1⟨g,Lg,rfl,hg,hFg,hS'⟩;have hS:=hS.callNew hS';refine jq ⟨?_⟩;refine(VW hF (hS.part (L:=L)) hl hs).mono ?_;rintro _ w2⟨ns,an,capn,Lv,hp,rfl,hv,hS'⟩;have hS:=hS.call (L:=L) hS';have hnl:ns.length=m.files.length:=by have:=hp.length_eq;simpa using this
 generalize hT:keys L=T0 at hS ha⊢;obtain⟨mf,es,c,hes,ft,Lf,hf⟩:=hF;refine jq ⟨?_⟩;refine AM.loop (λk:Nat=>[(0,ptr b),(1,.slice a cuts.length cap),(5,ptr g),(13,.slice an ns.length capn),(14,.int .i64 ns.length),(15,.int .i64 k)])
  (λk w'=>k≤ns.length∧ ∃Lg,BI g ⟨ET m.files ns cuts k,[],0,0,false⟩ Lg∧St w T0 (Lg++(Lv++(b,.cells ⟨[.map ft,.int .i64 m.armed,.int .i64 m.acts,.bool m.off,.map (some mf)]⟩ C1 (0,0))::(mf,.map es c)::Lf)) w') (λk=>ns.length-k) 0
  ⟨rfl,rfl,rfl,rfl,rfl,rfl,trivial⟩ ⟨Ag _,Lg,hFg,hS⟩ ?_
 rintro k w3⟨hk,Lg,hFg,hS⟩;by_cases hkl:k<ns.length
 ·obtain⟨gv,lv,rfl,hvx,hvl,hvn,rfl⟩: ∃g l,an=some ⟨g,0,none⟩∧(ns.map AG).length=ns.length*1∧(ns.map AG).length+l.length=capn*1∧ns.length≤capn∧Lv=[(g,.cells ⟨ns.map AG++l⟩ C0 (0,0))]:=by
   rcases hv.inv with⟨_,h,_⟩|h
   ·omega
   ·exact h
  obtain⟨mg,eg,cg,heg,fg,Lfg,hfg⟩:=hFg;have hS:St w T0 (((g,.cells ⟨[.map fg,.int .i64 (0:Nat),.int .i64 (0:Nat),.bool false,.map (some mg)]⟩ C1 (0,0))::(mg,.map eg cg)::Lfg)++((gv,.cells ⟨ns.map AG++lv⟩ C0 (0,0))::(b,.cells ⟨[.map ft,.int .i64 m.armed,.int .i64 m.acts,.bool m.off,.map (some mf)]⟩ C1 (0,0))::(mf,.map es c)::Lf)) w3:=hS;refine jq ⟨?_⟩;refine hS.ld (v:=AG ns[k]) (by simp[List.getElem?_append,hkl]) ?_
  have hgd:ns.getD k []=ns[k]:=by simp[hkl]
  (repeat(refine jt ⟨?_⟩;refine hS.q ?_;intro _ hS));refine jt ⟨?_⟩;refine WY (λw' hw'=>⟨es,c,by subst hw';exact hS.mem (b:=mf),hes.of⟩) ?_;have hx1:=hsy ns[k];have hx2:=htl ns[k];have hkp:=Q8 (E8 m.files ns[k]) cuts k;have hcf:ET m.files ns cuts (k+1)=BV ns[k] (ID (E8 m.files ns[k]) (HN (E8 m.files ns[k]) cuts k)) (ET m.files ns cuts k):=by
   simp only[ET,hgd]
  rw[show(Am ns[k] m.files).getD ([],0)=E8 m.files ns[k]from rfl];generalize E8 m.files ns[k]=x at hx1 hx2 hkp hcf⊢;obtain⟨t,s⟩:=x;simp only at hx1 hx2 hkp;refine hS.al ?_;intro r w4 _ hS;(repeat(refine jt ⟨?_⟩;refine hS.q ?_;intro _ hS));refine jt ⟨?_⟩;have hS:St w T0 ((r,.cells ⟨[AG t,.int .i64 s]⟩ Jx (0,0))::(((g,.cells ⟨[.map fg,.int .i64 (0:Nat),.int .i64 (0:Nat),.bool false,.map (some mg)]⟩ C1 (0,0))::(mg,.map eg cg)::Lfg)++((gv,.cells ⟨ns.map AG++lv⟩ C0 (0,0))::(b,.cells ⟨[.map ft,.int .i64 m.armed,.int .i64 m.acts,.bool m.off,.map (some mf)]⟩ C1 (0,0))::(mf,.map es c)::Lf))) _:=hS
  by_cases hkc:k<cuts.length
  ·obtain⟨bc,offc,rfl,hbc,hcc⟩:=ha.get (j:=k) (by simp;omega);simp only[G4]at hcc;refine jq ⟨?_⟩;refine AM.draw AK mixed (λw'=>St w T0 ((r,.cells ⟨[AG t,.int .i64 s]⟩ Jx (0,0))::(((g,.cells ⟨[.map fg,.int .i64 (0:Nat),.int .i64 (0:Nat),.bool false,.map (some mg)]⟩ C1 (0,0))::(mg,.map eg cg)::Lfg)++((gv,.cells ⟨ns.map AG++lv⟩ C0 (0,0))::(b,.cells ⟨[.map ft,.int .i64 m.armed,.int .i64 m.acts,.bool m.off,.map (some mf)]⟩ C1 (0,0))::(mf,.map es c)::Lf))) w')
    [] [0,1,2,3,4,5,6,7,8,9,10,11,12] AD hS.drew ?_
   have hS:=hS.drew;refine jr ⟨?_⟩;refine hS.ldOldC hbc (by simpa using hcc) ?_;refine jr ⟨?_⟩;generalize hz:(if(t.length:Int)-s<(if cuts[k]<0 then 0 else cuts[k])then(t.length:Int)-s else(if cuts[k]<0 then 0 else cuts[k]))=z;have hze:z=(HN (t,s) cuts k:Int):=by
    rw[←hz];unfold HN;rw[if_pos hkc];have:cuts.getD k 0=cuts[k]:=by simp[hkc]
    rw[this];simp only
    split<;>split<;>omega
   subst hze;generalize HN (t,s) cuts k=j at hkp hcf⊢;(repeat(refine jt ⟨?_⟩;refine hS.q ?_;intro _ hS));refine jt ⟨?_⟩;refine AM.draw AK mixed (λw'=>St w T0 ((r,.cells ⟨[AG t,.int .i64 s]⟩ Jx (0,0))::(((g,.cells ⟨[.map fg,.int .i64 (0:Nat),.int .i64 (0:Nat),.bool false,.map (some mg)]⟩ C1 (0,0))::(mg,.map eg cg)::Lfg)++((gv,.cells ⟨ns.map AG++lv⟩ C0 (0,0))::(b,.cells ⟨[.map ft,.int .i64 m.armed,.int .i64 m.acts,.bool m.off,.map (some mf)]⟩ C1 (0,0))::(mf,.map es c)::Lf))) w')
    [11] [0,1,2,3,4,5,6,7,8,9,10,11] AD hS.drew ?_
   have hS:=hS.drew;refine jr ⟨?_⟩;refine St.mapSet AK Bn.str rfl rfl JD hS (v:=ID (t,s) j) heg ?_;intro es2 c2 w6 hes2 hS;have hS:=hS.sub (AS _ _);refine jq ⟨?_⟩;refine⟨k+1,⟨rfl,rfl,rfl,rfl,rfl,rfl,trivial⟩,⟨AA,_,BI.mk (m:=⟨ET m.files ns cuts (k+1),[],0,0,false⟩) mg es2 c2 (by rw[hcf];exact hes2) fg Lfg hfg,hS⟩,AA⟩
  ·have hke:HN (t,s) cuts k=0:=by unfold HN;rw[if_neg hkc]
   rw[hke]at hcf;(repeat(refine jt ⟨?_⟩;refine hS.q ?_;intro _ hS));refine jt ⟨?_⟩;refine AM.draw AK mixed (λw'=>St w T0 ((r,.cells ⟨[AG t,.int .i64 s]⟩ Jx (0,0))::(((g,.cells ⟨[.map fg,.int .i64 (0:Nat),.int .i64 (0:Nat),.bool false,.map (some mg)]⟩ C1 (0,0))::(mg,.map eg cg)::Lfg)++((gv,.cells ⟨ns.map AG++lv⟩ C0 (0,0))::(b,.cells ⟨[.map ft,.int .i64 m.armed,.int .i64 m.acts,.bool m.off,.map (some mf)]⟩ C1 (0,0))::(mf,.map es c)::Lf))) w')
    [11] [0,1,2,3,4,5,6,7,8,9,10,11] AD hS.drew ?_
   have hS:=hS.drew;refine jr ⟨?_⟩;refine St.mapSet AK Bn.str rfl rfl JD hS (v:=ID (t,s) 0) heg ?_;intro es2 c2 w6 hes2 hS;have hS:=hS.sub (AS _ _);refine jq ⟨?_⟩;refine⟨k+1,⟨rfl,rfl,rfl,rfl,rfl,rfl,trivial⟩,⟨AA,_,BI.mk (m:=⟨ET m.files ns cuts (k+1),[],0,0,false⟩) mg es2 c2 (by rw[hcf];exact hes2) fg Lfg hfg,hS⟩,AA⟩
 ·have hke:k=ns.length:=AA;subst hke;refine jq ⟨?_⟩;exact⟨ns,g,Lg,hp,rfl,hFg,hS.sub (List.Sublist.append (List.Sublist.refl _) (Ai _ _))⟩
end Go.Proofs.YtkgibdhpijdbfaaGreatDoor
