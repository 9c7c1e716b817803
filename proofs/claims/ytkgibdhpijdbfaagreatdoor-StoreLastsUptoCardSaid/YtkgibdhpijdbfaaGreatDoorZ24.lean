/- Texts of this claim, one behind the other. -/
import Derived.Test.YtkgibdhpijdbfaaGreatDoorZ6
import Derived.Test.YtkgibdhpijdbfaaGreatDoorZ19
import Derived.Test.YtkgibdhpijdbfaaGreatDoorZ9
import Derived.Test.YtkgibdhpijdbfaaGreatDoorZ12
set_option linter.unusedVariables false
set_option linter.unusedSimpArgs false
set_option maxHeartbeats 16000000
namespace Go.Proofs.YtkgibdhpijdbfaaGreatDoor
open Go Go.Eng Go.Proofs
theorem XW(c:UInt8): ∀(l:AE)(acc:Nat),Lib.parseUint10 acc (l++[c])=match Lib.parseUint10 acc l with
  |.ok a=>Lib.parseUint10 a [c]
  |e=>e
 |[],acc=>by rw[Ca];rfl
 |x::l,acc=>by
  rw[D1];unfold Lib.parseUint10
  split
  ·split
   ·rfl
   ·split
    ·rfl
    ·exact XW c l _
  ·rfl
theorem QL(n:Nat)(h:n<10):(UInt8.ofNat (48+n)).toNat=48+n:=by
 rw[UInt8.toNat_ofNat'];omega
theorem XX(u:Nat)(h:u<18446744073709551616):Lib.parseUint10 0 (Lib.decDigits u)= .ok u:=by
 induction u using Nat.strongRecOn with
 |_ u ih=>
  rw[Lib.decDigits]
  split
  ·next h1=>
   have:=QL u h1;unfold Lib.parseUint10;rw[this,if_pos AA,if_neg AA,if_neg AA];unfold Lib.parseUint10
   congr 1;omega
  ·next h1=>
   have:=QL (u % 10) AA;rw[XW,ih (u / 10) AA AA];show Lib.parseUint10 (u / 10) [UInt8.ofNat (48+u % 10)]=_;unfold Lib.parseUint10;rw[this,if_pos AA,if_neg AA,if_neg AA];unfold Lib.parseUint10
   congr 1;omega
theorem UK(u:Nat): ∃c r,Lib.decDigits u=c::r∧48≤c.toNat∧c.toNat≤57:=by
 induction u using Nat.strongRecOn with
 |_ u ih=>
  rw[Lib.decDigits]
  split
  ·next h1=>
   have:=QL u h1;exact⟨_,[],rfl,AA,AA⟩
  ·next h1=>
   obtain⟨c,r,h2,h3,h4⟩:=ih (u / 10) AA;rw[h2];exact⟨c,_,rfl,h3,h4⟩
theorem MX{n:Int}(h0: -9223372036854775808≤n)(h1:n≤9223372036854775807):Lib.atoiAll (Lib.itoa n)= .ok n:=by
 unfold Lib.itoa
 split
 ·next h=>
  obtain⟨c,r,h2, -, -⟩:=UK n.natAbs;have hp:Lib.parseMag (Lib.decDigits n.natAbs)= .ok n.natAbs:=by
   unfold Lib.parseMag;rw[if_neg (by rw[h2];simp),XX _ AA]
  unfold Lib.atoiAll;have e:(45:UInt8).toNat=45:=rfl;simp only[e,or_true,if_true,hp];rw[if_neg AB,if_neg AA]
  congr 1;omega
 ·next h=>
  obtain⟨c,r,h2,h3,h4⟩:=UK n.toNat;have hp:Lib.parseMag (c::r)= .ok n.toNat:=by
   rw[←h2];unfold Lib.parseMag;rw[if_neg (by rw[h2];simp),XX _ AA]
  rw[h2];unfold Lib.atoiAll;simp only;rw[if_neg AA,hp];simp only;rw[if_neg AA,if_neg AA,if_neg AA]
  congr 1;omega
theorem K4{n m:Int}(h0: -9223372036854775808≤n∧n≤9223372036854775807)(h1: -9223372036854775808≤m∧m≤9223372036854775807)(h:Lib.itoa n=Lib.itoa m):n=m:=by
 have e1:=MX h0.1 h0.2;rw[h,MX h1.1 h1.2]at e1;exact(Lib.NumEnd.ok.inj e1).symm
def JY(c:UInt8):Bool:=c==116||c==119||c==109
def EG(c:UInt8)(r:AE)(n:Int):Bool:=decide (1≤n)&&decide (Lib.itoa n=r)&&JY c
def Ei:AE→UInt8×Int×Bool
 |[]=>(0,0,false)
 |c::r=>match Lib.atoiAll r with
  |.ok n=>if EG c r n then(c,n,true)else(0,0,false)
  |_=>(0,0,false)
def Ji(t:AE):Value:= .tuple ⟨[.int .u8 (Ei t).1.toNat,.int .i64 (Ei t).2.1,.bool (Ei t).2.2]⟩
theorem XN(c:UInt8)(r:AE):Ei (c::r)=match Lib.atoiAll r with
  |.ok n=>if EG c r n then(c,n,true)else(0,0,false)
  |_=>(0,0,false):=rfl
theorem XO{c:UInt8}{r:AE}{n:Int}(hn: -9223372036854775808≤n∧n≤9223372036854775807)(h:Lib.atoiAll r= .ok n∨ ∀m,Lib.atoiAll r≠ .ok m):Ei (c::r)=if EG c r n then(c,n,true)else(0,0,false):=by
 rw[XN];rcases h with h|h
 ·rw[h]
 ·have hne:Lib.itoa n≠r:=λe=>h n (by rw[←e];exact MX hn.1 hn.2);have hf:EG c r n=false:=by unfold EG;rw[decide_eq_false hne];simp
  rw[hf];cases h2:Lib.atoiAll r
  ·exact absurd h2 (h _)
  ·rfl
  ·rfl
theorem Ov{c:UInt8}{n:Int}(hc:JY c=true)(hn: -9223372036854775808≤n∧n≤9223372036854775807):Ei (c::Lib.itoa n)=if 1≤n then(c,n,true)else(0,0,false):=by
 rw[XO hn (.inl (MX hn.1 hn.2))];unfold EG;rw[hc];by_cases h:1≤n<;>simp[h]
end Go.Proofs.YtkgibdhpijdbfaaGreatDoor
namespace Go.Proofs.YtkgibdhpijdbfaaGreatDoor
open Go Go.Eng Go.Proofs Go.Srt
theorem ED.old{w w':World}{H:AH}(hS:St w [] H w'){xs:List Value}{ls:List (List AF)}(h:ED w xs ls):ED w' xs ls:=by
 induction h with
 |nil=>exact .nil
 |cons ha hc _ ih=>exact .cons (hS.arrOld ha) hc ih
theorem xC(t:Int)(g:List AF):(Ex t g).length≤1:=by
 unfold Ex
 split
 ·simp
 ·split<;>simp
theorem uO{t:Int}{g:List AF}:(GC t g=none→Ex t g=[])∧ ∀i(h:i<g.length),GC t g=some i→Ex t g=if g[i].d then []else [g[i]]:=by
 constructor
 ·intro h;unfold GC at h;unfold Ex LB;rw[List.findIdx?_eq_none_iff]at h;rw[List.find?_eq_none.2 (λx hx=>by have:=h x hx;simpa using this)]
 ·intro i hi h;unfold GC at h;obtain⟨_,h1,h2⟩:=Mt.1 h;unfold Ex LB;have h3:g=g.take i++g[i]::g.drop (i+1):=by rw[←FM hi,CN]
  have:g.find? (λx=>decide (x.s≤t))=some g[i]:=by
   rw[List.find?_eq_some_iff_append];refine⟨h1,_,_,h3,λa ha=>?_⟩;obtain⟨j,hj,rfl⟩:=Hq.1 ha;rw[Ba]at hj;rw[List.getElem_take];have:=h2 j AA;simpa using this
  rw[this]
theorem xD(t:Int)(gs:List (List AF))(k:Nat):((gs.take k).flatMap (Ex t)).length≤k:=by
 induction k generalizing gs with
 |zero=>simp
 |succ k ih=>
  cases gs with
  |nil=>simp
  |cons g gs=>
   have:=ih gs;have:=xC t g;simp only[KD,E9,AP];omega
theorem aV{w:World}{a:Option Addr}{c:Nat}{l:List AF}{t:Int}(ha:Arr w [] a (l.flatMap AU))(hc:l.length≤c)(hn:l.length≤16777216)(h1:Cz l):
  Cl Tryz.prog nV [.slice a l.length c,.int .i64 t] w λv w'=>∃r a' c' L,r.Perm l∧Az r∧v= .slice a' (FE t r).length c'∧AT Ap 4 a' (FE t r).length c' ((FE t r).flatMap AU) L∧St w [] L w':=by
 have hS:=St.start w;refine fX rfl ?_;refine jq ⟨?_⟩;refine hS.al ?_;intro b w1 _ hS;refine jq ⟨?_⟩;have hL:ED w1 [.slice a l.length c] [l]:= .cons (hS.arrOld ha) hc .nil;refine(Ng (ls:=[l]) (hS.arr (b:=b) (T':=[]) AB) hL AB (by simpa using hn) (by simpa using h1)).mono ?_;rintro _ w2⟨r,a2,c2,L2,hp,hr,rfl,hv2,hS2⟩;rw[List.flatten_singleton]at hp;have hlen:=hp.length_eq;have hS:=hS.callNew hS2;have hgl:=Mq r
 refine jq ⟨?_⟩;refine(Vr (hv2.arr hS2 (T':=[]) AB) hv2.cap AA).mono ?_;rintro _ w3⟨a3,c3,xs,L3,rfl,hL3,hv3,hS3⟩;have hL4:=hL3.old hS3;have ha3:Arr w3 [] a3 xs:=hv3.arr hS3 (T':=[]) AB;have hxl:=hL4.len;have hS0:=hS.callNew hS3;clear hS hS2 hS3 hv3 hL3 hL hv2;have hS:=St.start w3;refine jq ⟨?_⟩;refine AM.loop (λi:Nat×Option Addr×Nat=>[(1,.int .i64 t),(5,.slice i.2.1 (((BC r).take i.1).flatMap (Ex t)).length i.2.2),(12,.slice a3 (BC r).length c3),(13,.int .i64 (BC r).length),(14,.int .i64 i.1)])
  (λi w'=>i.1≤(BC r).length∧ ∃L,AT Ap 4 i.2.1 (((BC r).take i.1).flatMap (Ex t)).length i.2.2 ((((BC r).take i.1).flatMap (Ex t)).flatMap AU) L∧St w3 [] L w') (λi=>(BC r).length-i.1) (0,none,0)
  ⟨rfl,rfl,rfl,rfl,rfl,trivial⟩ ⟨Ag _,[],AT.nil,hS⟩ ?_
 clear hS;rintro⟨k,a4,c4⟩w4⟨hk,L,hv,hS⟩;simp only at hk hv hS⊢;by_cases hkl:k<(BC r).length
 ·obtain⟨a5,c5,hx,ha5,hc5⟩:=hL4.get k hkl;obtain⟨g,off,rfl, -, -⟩:=ha3.get (j:=k) AA;have hgr:((BC r)[k]).length≤r.length:=by
   have:=(List.sublist_flatten_of_mem (CW hkl)).length_le;rw[Iq]at this;exact this
  have htk:=xD t (BC r) k;have hsucc:((BC r).take (k+1)).flatMap (Ex t)=((BC r).take k).flatMap (Ex t)++Ex t (BC r)[k]:=by
   rw[Bq hkl,Hn];simp
  refine jq ⟨?_⟩;refine Arr.ldc (j:=k) hS ha3 hx AA ?_;refine jq ⟨?_⟩;refine(Wn (hS.arrOld ha5) AA).mono ?_;rintro _ w5⟨rfl,hS'⟩;have hS:=hS.call0 hS';have hsee:=uO (t:=t) (g:=(BC r)[k]);generalize(BC r)[k]=q at ha5 hc5 hgr hsucc hsee⊢;unfold LC;cases hni:GC t q with
  |none=>
   have hs:=hsee.1 hni;rw[hs,BT]at hsucc;simp only;refine jq ⟨?_⟩;exact⟨(k+1,a4,c4),⟨rfl,by rw[hsucc];rfl,rfl,rfl,rfl,trivial⟩,⟨hkl,L,by rw[hsucc];exact hv,hS⟩,by simp;omega⟩
  |some i=>
   have hil:i<q.length:=(Mt.1 hni).1;have hs:=hsee.2 i hil hni;obtain⟨g5,o5,rfl,hx5⟩:=FL ha5 hil;generalize q[i]=u at hs hx5;simp only;refine jq ⟨?_⟩;refine hS.ldOld AB (by have:=hx5 2 _ rfl;rw[show o5+((i:Int)).toNat*4+2=o5+i*4+2 by omega];exact this) ?_;cases hd:u.d with
   |true=>
    rw[hs,if_pos hd,BT]at hsucc;refine jq ⟨?_⟩;exact⟨(k+1,a4,c4),⟨rfl,by rw[hsucc];rfl,rfl,rfl,rfl,trivial⟩,⟨hkl,L,by rw[hsucc];exact hv,hS⟩,by simp;omega⟩
   |false=>
    rw[hs,hd,if_neg AB]at hsucc;refine jq ⟨?_⟩;refine IP (cs:=[AG u.k,.int .i64 u.s,.bool u.d,AG u.v]) rfl (λj x hj=>hS.oldCell AB (by have:=hx5 j x hj;rw[show o5+((i:Int)).toNat*4+j=o5+i*4+j by omega];exact this)) ?_;refine jq ⟨?_⟩;refine hS.al ?_;intro b6 w6 _ hS;refine jq ⟨?_⟩;refine St.app (sz:=4) (m:=1) AK rfl rfl rfl rfl hS hv (news:=AU u) (by rfl) (hS.arr (b:=b6) (T':=[]) AB) (by rfl) (by show(_+_)*48≤_;omega) AA ?_
    intro a7 c7 L7 w7 hv7 hS;refine jq ⟨?_⟩;exact⟨(k+1,a7,c7),⟨rfl,by rw[hsucc,AP];rfl,rfl,rfl,rfl,trivial⟩,⟨hkl,L7,by rw[hsucc,AP,Hh];exact hv7,hS.sub (AS _ _)⟩,by simp;omega⟩
 ·obtain rfl:k=(BC r).length:=AA;rw[Bz]at hv⊢;refine jq ⟨?_⟩;exact⟨r,a4,c4,L,hp,hr,rfl,hv,(hS0.callNew hS).sub (CD _ _)⟩
theorem V9(g:List AF)(seen:List Int)(n:Int)(i:Nat):De g (seen++[n]) i=(De g seen i||decide (GC n g=some i)):=by
 unfold De;rw[List.any_append,←Bool.or_assoc];simp
def H6(g:List AF)(seen:List Int)(kvs:List (Int×Int)):Prop:=∀i:Nat,(Am (i:Int) kvs).getD 0=if De g seen i then 1 else 0
theorem H6.start(g:List AF):H6 g [] (BV 0 1 []):=λi=>by
 rw[G6];unfold De;by_cases h:i=0
 ·subst h;simp
 ·rw[if_neg AA];simp[h,Am]
theorem H6.none{g:List AF}{seen:List Int}{kvs:List (Int×Int)}(h:H6 g seen kvs){n:Int}(hn:GC n g=none):H6 g (seen++[n]) kvs:=λi=>by
 rw[V9,hn,h i];simp
theorem H6.some{g:List AF}{seen:List Int}{kvs:List (Int×Int)}(h:H6 g seen kvs){n:Int}{j:Nat}(hn:GC n g= .some j):H6 g (seen++[n]) (BV (j:Int) 1 kvs):=λi=>by
 rw[V9,hn,G6];by_cases e:i=j
 ·subst e;simp
 ·rw[if_neg AA,h i];have: ¬j=i:=λh=>e h.symm;simp[this]
theorem yT{w:World}{a b:Option Addr}{c d:Nat}{g:List AF}{seen:List Int}(ha:Arr w [] a (g.flatMap AU))(hg:g.length≤16777216)(hb:Arr w [] b (seen.map AY))(hs:seen.length≤1099511627776):
  Cl Tryz.prog nZ [.slice a g.length c,.bool true,.slice b seen.length d] w λv w'=>∃a' c' L,v= .slice a' (E0 seen g).length c'∧AT Ap 4 a' (E0 seen g).length c' ((E0 seen g).flatMap AU) L∧St w [] L w':=by
 have hS:=St.start w;refine gC rfl ?_;refine jq ⟨?_⟩;refine hS.al ?_;intro m w1 _ hS;refine jq ⟨?_⟩;refine St.mapSet (val:=AY) (v:=1) (k:=0) (kvs:=[]) AK Bn.i64 rfl rfl Em hS (es:= #[]) ⟨rfl,by simp[E3]⟩ ?_;intro es1 cl1 w2 hm1 hS;refine jq ⟨?_⟩;refine AM.loop (λk:Nat=>[(0,.slice a g.length c),(1,.bool true),(7,.map (some m)),(16,.slice b seen.length d),(17,.int .i64 seen.length),(18,.int .i64 k)])
  (λk w'=>k≤seen.length∧ ∃es cl kvs,MapC AY AY es cl kvs∧H6 g (seen.take k) kvs∧St w [] [(m,.map es cl)] w') (λk=>seen.length-k) 0
  ⟨rfl,rfl,rfl,rfl,rfl,rfl,trivial⟩ ⟨Ag _,es1,cl1,_,hm1,H6.start g,hS⟩ ?_
 clear hS hm1;rintro k w3⟨hk,es,cl,kvs,hm,hkeep,hS⟩;by_cases hkl:k<seen.length
 ·have hx:(seen.map AY)[k]?=some (AY seen[k]):=by rw[Et,CB hkl];rfl
  obtain⟨q,off,rfl, -, -⟩:=hb.get (j:=k) (by rw[BZ];exact hkl);have hsucc:=Bq hkl;generalize seen[k]=n at hx hsucc;refine jq ⟨?_⟩;refine Arr.ldc hS hb hx AB ?_;unfold AY;refine jq ⟨?_⟩;refine(Wn (hS.arrOld ha) AA).mono ?_;rintro _ w4⟨rfl,hS'⟩;have hS:=hS.call0 hS';unfold LC;cases hni:GC n g with
  |none=>
   simp only;refine jq ⟨?_⟩;exact⟨k+1,⟨rfl,rfl,rfl,rfl,rfl,rfl,trivial⟩,⟨hkl,es,cl,kvs,hm,by rw[hsucc];exact hkeep.none hni,hS⟩,AA⟩
  |some i=>
   have hil:i<g.length:=(Mt.1 hni).1;simp only;refine jq ⟨?_⟩;refine St.mapSet (val:=AY) (v:=1) AK Bn.i64 rfl rfl Em hS hm ?_;intro es2 cl2 w5 hm2 hS;refine jq ⟨?_⟩;exact⟨k+1,⟨rfl,rfl,rfl,rfl,rfl,rfl,trivial⟩,⟨hkl,es2,cl2,_,hm2,by rw[hsucc];exact hkeep.some hni,hS⟩,AA⟩
 ·obtain rfl:k=seen.length:=AA;rw[Bz]at hkeep;clear hk hkl;refine jq ⟨?_⟩;refine AM.loop (λi:Nat×Option Addr×Nat=>[(1,.bool true),(7,.map (some m)),(11,.slice i.2.1 (Dp (De g seen) 0 (g.take i.1)).length i.2.2),(30,.slice a g.length c),(31,.int .i64 g.length),(32,.int .i64 i.1)])
   (λi w'=>i.1≤g.length∧ ∃L,AT Ap 4 i.2.1 (Dp (De g seen) 0 (g.take i.1)).length i.2.2 ((Dp (De g seen) 0 (g.take i.1)).flatMap AU) L∧St w [] (L++[(m,.map es cl)]) w') (λi=>g.length-i.1) (0,none,0)
   ⟨rfl,rfl,rfl,rfl,rfl,rfl,trivial⟩ ⟨Ag _,[],AT.nil,hS⟩ ?_
  clear hS;rintro⟨k,a2,c2⟩w4⟨hk,L,hv,hS⟩;simp only at hk hv hS⊢;by_cases hkl:k<g.length
  ·obtain⟨q,off,rfl,hx⟩:=FL ha hkl;have hkk:=hkeep k;have hlen:(Dp (De g seen) 0 (g.take k)).length≤k:=by
    have:=(K8 (De g seen) (g.take k) 0).length_le;rw[Ba]at this;omega
   have hsucc:Dp (De g seen) 0 (g.take (k+1))=Dp (De g seen) 0 (g.take k)++if De g seen k then [g[k]]else []:=by
    rw[Bq hkl,WG,Ba,IM AA,DR]
   generalize g[k]=u at hx hsucc;refine jq ⟨?_⟩;refine IP (cs:=[AG u.k,.int .i64 u.s,.bool u.d,AG u.v]) rfl (λj x hj=>hS.oldCell AB (by have:=hx j x hj;rw[show off+((k:Int)).toNat*4+j=off+k*4+j by omega];exact this)) ?_;refine jq ⟨?_⟩;refine hS.al ?_;intro b3 w5 _ hS;(repeat(refine jt ⟨?_⟩;refine hS.q ?_;intro _ hS));refine jt ⟨?_⟩;refine LA (kvs:=kvs) (λw'' hw'=>⟨es,cl,by subst hw';exact hS.mem (b:=m),hm.of⟩) ?_
   rw[hkk];cases hb:De g seen k with
   |false=>
    rw[hb]at hsucc;simp only[Bool.false_eq_true,if_false,BT]at hsucc⊢;refine jq ⟨?_⟩;exact⟨(k+1,a2,c2),⟨rfl,rfl,by rw[hsucc];rfl,rfl,rfl,rfl,trivial⟩,⟨hkl,L,by rw[hsucc];exact hv,hS.sub (AS _ _)⟩,by simp;omega⟩
   |true=>
    rw[hb]at hsucc;simp only[if_true]at hsucc⊢;(repeat(refine jt ⟨?_⟩;refine hS.q ?_;intro _ hS));refine jt ⟨?_⟩;refine hS.al ?_;intro b6 w6 _ hS;refine jq ⟨?_⟩;refine St.app (sz:=4) (m:=1) AK rfl rfl rfl rfl hS hv (news:=AU u) (by rfl) (hS.arr (b:=b6) (T':=[]) AB) (by rfl) (by show(_+_)*48≤_;omega) AA ?_;intro a7 c7 L7 w7 hv7 hS;refine jq ⟨?_⟩;exact⟨(k+1,a7,c7),⟨rfl,rfl,by rw[hsucc,AP];rfl,rfl,rfl,rfl,trivial⟩,⟨hkl,L7,by rw[hsucc,AP,Hh];exact hv7,hS.sub ((AS _ _).trans (AS _ _))⟩,by simp;omega⟩
  ·obtain rfl:k=g.length:=AA;rw[Bz]at hv⊢;clear hk hkl;have hlen:(Dp (De g seen) 0 g).length≤g.length:=(K8 (De g seen) g 0).length_le;unfold E0;generalize Dp (De g seen) 0 g=K at hv hlen⊢;refine jq ⟨?_⟩;refine AM.loop (λP:List AF=>[(1,.bool true),(11,.slice a2 P.length c2)])
    (λP w'=>IE P=IE K∧P.length≤g.length∧ ∃L,AT Ap 4 a2 P.length c2 (P.flatMap AU) L∧St w [] L w') (λP=>P.length) K
    ⟨rfl,rfl,trivial⟩ ⟨rfl,hlen,L,hv,hS.sub (CD _ _)⟩ ?_
   clear hS hv hlen;rintro P w5⟨hP,hlen,L,hv,hS⟩;rcases J8 P with rfl|⟨Q,x,rfl⟩
   ·refine jq ⟨?_⟩;rw[←hP];exact⟨a2,c2,L,rfl,hv,hS⟩
   ·rw[List.concat_eq_append]at hP hlen hv⊢;rw[dD]at hP;have hlx:(Q++[x]).length=Q.length+1:=AB;have hq4:=Hg Q;rcases hv.inv with⟨-,h0, -, -, -⟩|⟨q,tl,rfl,hx4,hx5,hx6,rfl⟩
    ·omega
    ·rw[hlx]at hlen hx6;have hcell: ∀j v,(AU x)[j]?=some v→((Q++[x]).flatMap AU++tl)[Q.length*4+j]?=some v:=λj v hj=>by
      rw[Hh,Aj,D2 AA,show Q.length*4+j-(Q.flatMap AU).length=j by omega];simp only[E9,List.flatMap_nil,BT];rw[Cq (Fm.1 hj).1];exact hj
     rw[hlx];(repeat(refine jt ⟨?_⟩;refine hS.q ?_;intro _ hS));refine jt ⟨?_⟩;refine hS.ld (v:= .bool x.d) (by have:=hcell 2 _ rfl;rw[show 0+(((Q.length+1:Nat):Int)-1).toNat*4+2=Q.length*4+2 by omega];exact this) ?_;cases hd:x.d with
     |true=>
      rw[if_pos hd]at hP;(repeat(refine jt ⟨?_⟩;refine hS.q ?_;intro _ hS));refine jt ⟨?_⟩;refine⟨Q,⟨rfl,by rw[show(((Q.length+1:Nat):Int)-1).toNat=Q.length by omega];rfl,trivial⟩,⟨hP,AA,_,AT.row q Q.length c2 (Q.flatMap AU) (AU x++tl) hq4 ?_ AA,?_⟩,AA⟩
      ·rw[AP,show(AU x).length=4 from rfl];rw[hx4,hlx]at hx5;omega
      ·rw[Hh,Aj]at hS;simpa using hS
     |false=>
      rw[if_neg (by rw[hd];simp)]at hP;(repeat(refine jt ⟨?_⟩;refine hS.q ?_;intro _ hS));refine jt ⟨?_⟩;rw[←hP];exact⟨_,c2,_,by rw[hlx],hv,hS⟩
theorem yU(seen:List Int)(gs:List (List AF))(k:Nat):((gs.take k).flatMap (E0 seen)).length≤gs.flatten.length:=by
 induction k generalizing gs with
 |zero=>simp
 |succ k ih=>
  cases gs with
  |nil=>simp
  |cons g gs=>
   have h1:=ih gs;have h2:=(KS seen g).length_le;rw[KD,E9,Dc,AP,AP];omega
theorem aQ{w:World}{a b:Option Addr}{c d:Nat}{l:List AF}{seen:List Int}(ha:Arr w [] a (l.flatMap AU))(hc:l.length≤c)(hn:l.length≤16777216)(h1:Cz l)(hb:Arr w [] b (seen.map AY))(hs:seen.length≤1099511627776):
  Cl Tryz.prog nU [.slice a l.length c,.bool true,.slice b seen.length d] w λv w'=>∃r a' c' L,r.Perm l∧Az r∧v= .slice a' (BD seen r).length c'∧AT Ap 4 a' (BD seen r).length c' ((BD seen r).flatMap AU) L∧St w [] L w':=by
 have hS:=St.start w;refine fW rfl ?_;refine jq ⟨?_⟩;refine hS.al ?_;intro b1 w1 _ hS;refine jq ⟨?_⟩;have hL:ED w1 [.slice a l.length c] [l]:= .cons (hS.arrOld ha) hc .nil;refine(Ng (ls:=[l]) (hS.arr (b:=b1) (T':=[]) AB) hL AB (by simpa using hn) (by simpa using h1)).mono ?_;rintro _ w2⟨r,a2,c2,L2,hp,hr,rfl,hv2,hS2⟩;rw[List.flatten_singleton]at hp;have hlen:=hp.length_eq;have hS:=hS.callNew hS2;have hgl:=Mq r
 refine jq ⟨?_⟩;refine(Vr (hv2.arr hS2 (T':=[]) AB) hv2.cap AA).mono ?_;rintro _ w3⟨a3,c3,xs,L3,rfl,hL3,hv3,hS3⟩;have hL4:=hL3.old hS3;have ha3:Arr w3 [] a3 xs:=hv3.arr hS3 (T':=[]) AB;have hxl:=hL4.len;have hS0:=hS.callNew hS3;have hb3:=hS0.arrOld hb;clear hS hS2 hS3 hv3 hL3 hL hv2;have hS:=St.start w3;refine jq ⟨?_⟩;refine AM.loop (λi:Nat×Option Addr×Nat=>[(1,.bool true),(2,.slice b seen.length d),(7,.slice i.2.1 (((BC r).take i.1).flatMap (E0 seen)).length i.2.2),(13,.slice a3 (BC r).length c3),(14,.int .i64 (BC r).length),(15,.int .i64 i.1)])
  (λi w'=>i.1≤(BC r).length∧ ∃L,AT Ap 4 i.2.1 (((BC r).take i.1).flatMap (E0 seen)).length i.2.2 ((((BC r).take i.1).flatMap (E0 seen)).flatMap AU) L∧St w3 [] L w') (λi=>(BC r).length-i.1) (0,none,0)
  ⟨rfl,rfl,rfl,rfl,rfl,rfl,trivial⟩ ⟨Ag _,[],AT.nil,hS⟩ ?_
 clear hS;rintro⟨k,a4,c4⟩w4⟨hk,L,hv,hS⟩;simp only at hk hv hS⊢;by_cases hkl:k<(BC r).length
 ·obtain⟨a5,c5,hx,ha5,hc5⟩:=hL4.get k hkl;obtain⟨g,off,rfl, -, -⟩:=ha3.get (j:=k) AA;have hgr:((BC r)[k]).length≤r.length:=by
   have:=(List.sublist_flatten_of_mem (CW hkl)).length_le;rw[Iq]at this;exact this
  have htk:=yU seen (BC r) (k+1);rw[Iq]at htk;have hsucc:((BC r).take (k+1)).flatMap (E0 seen)=((BC r).take k).flatMap (E0 seen)++E0 seen (BC r)[k]:=by
   rw[Bq hkl,Hn];simp
  rw[hsucc,AP]at htk;generalize(BC r)[k]=q at hx ha5 hc5 hgr hsucc htk;refine jq ⟨?_⟩;refine Arr.ldc (j:=k) hS ha3 hx AA ?_;refine jq ⟨?_⟩;refine(yT (hS.arrOld ha5) AA (hS.arrOld hb3) hs).mono ?_;rintro _ w5⟨a6,c6,L6,rfl,hv6,hS6⟩;have ha6:=hv6.arr hS6 (T':=[]) AB;have hS:St w3 [] (L++L6) w5:=(hS.callNew hS6).perm Gl;refine jq ⟨?_⟩;refine St.app (sz:=4) (m:=(E0 seen q).length) AK rfl rfl rfl rfl hS hv (news:=(E0 seen q).flatMap AU) (Hg _) (hv6.arr hS (T':=[]) AB) (OG _) (by show(_+_)*48≤_;omega) AA ?_
  intro a7 c7 L7 w7 hv7 hS;refine jq ⟨?_⟩;exact⟨(k+1,a7,c7),⟨rfl,rfl,by rw[hsucc,AP];rfl,rfl,rfl,rfl,trivial⟩,⟨hkl,L7,by rw[hsucc,AP,Hh];exact hv7,hS.sub (CD _ _)⟩,by simp;omega⟩
 ·obtain rfl:k=(BC r).length:=AA;rw[Bz]at hv⊢;refine jq ⟨?_⟩;exact⟨r,a4,c4,L,hp,hr,rfl,hv,(hS0.callNew hS).sub (CD _ _)⟩
end Go.Proofs.YtkgibdhpijdbfaaGreatDoor
namespace Go.Proofs.YtkgibdhpijdbfaaGreatDoor
open Go Go.Eng Go.Proofs
def Gg(fs:List (Int×Int)):Nat→List (Int×Int)
 |0=>[]
 |k+1=>if(fs.getD k (0,0)).2<1∨3<(fs.getD k (0,0)).2∨(Am (fs.getD k (0,0)).1 (Gg fs k)).getD 0≠0 then Gg fs k else BV (fs.getD k (0,0)).1 (fs.getD k (0,0)).2 (Gg fs k)
def Hj(fs:List (Int×Int)):List Value:=fs.flatMap λx=>[AY x.1,AY x.2]
theorem qP(fs:List (Int×Int))(k:Nat)(hk:k<fs.length):(Hj fs)[k*2]?=some (AY fs[k].1)∧(Hj fs)[k*2+1]?=some (AY fs[k].2):=by
 induction fs generalizing k with
 |nil=>simp at hk
 |cons x r ih=>
  cases k with
  |zero=>simp[Hj]
  |succ k=>
   have h:=ih k (by simpa using hk);have e:Hj (x::r)=AY x.1::AY x.2::Hj r:=by simp[Hj]
   rw[e,show(k+1)*2=k*2+2 by omega];simpa using h
theorem s8{w0 w:World}{T:List Nat}{H:AH}(hS:St w0 T H w){b off:Nat}(hb:b∉T){u v:Value}(h0:w0.cell? ⟨b,off,none⟩=some u)(h1:w0.cell? ⟨b,off+1,none⟩=some v){K:List Value→Prop}(hk:K [u,v]):
  GM (λw'=>w=w') 2 b off K:=by
 refine⟨⟨[u,v],rfl,λ_ e j x hj=>?_,hk⟩⟩;subst e
 match j,hj with
 |0,hj=>simp at hj;subst hj;exact hS.oldCell (a:=⟨b,off,none⟩) hb h0
 |1,hj=>simp at hj;subst hj;exact hS.oldCell (a:=⟨b,off+1,none⟩) hb h1
theorem NW{w:World}{b:Nat}{m:AJ}{L:AH}(hF:BI b m L)(hh:Holds L w){a:Option Addr}{cap:Nat}{fs:List (Int×Int)}(ha:Arr w (keys L) a (Hj fs))(hl:fs.length≤1099511627776):
  Cl Tryz.prog VP [ptr b,.slice a fs.length cap] w λ_ w'=>∃L',BI b {m with fates:=Gg fs fs.length,armed:=0} L'∧St w (keys L) L' w':=by
 have hS:=St.enter hh;generalize hT:keys L=T0 at hS ha⊢;obtain⟨mf,es,c,hes,ft,Lf,hf⟩:=hF;refine lG rfl ?_;(repeat(refine jt ⟨?_⟩;refine hS.q ?_;intro _ hS));refine jt ⟨?_⟩;refine hS.al ?_;intro fm w1 _ hS;(repeat(refine jt ⟨?_⟩;refine hS.q ?_;intro _ hS));refine jt ⟨?_⟩;have hS:St w T0 ((fm,.map #[] 0)::(b,.cells ⟨[.map (some fm),.int .i64 (0:Nat),.int .i64 m.acts,.bool m.off,.map (some mf)]⟩ C1 (0,0))::(mf,.map es c)::[]) _:=hS.sub (((List.nil_sublist Lf).cons_cons _).cons_cons _ |>.cons_cons _)
 refine AM.loop (λk:Nat=>[(0,ptr b),(13,.slice a fs.length cap),(14,.int .i64 fs.length),(15,.int .i64 k)])
  (λk w'=>k≤fs.length∧ ∃es' c',MapC AY AY es' c' (Gg fs k)∧St w T0 ((fm,.map es' c')::(b,.cells ⟨[.map (some fm),.int .i64 (0:Nat),.int .i64 m.acts,.bool m.off,.map (some mf)]⟩ C1 (0,0))::(mf,.map es c)::[]) w') (λk=>fs.length-k) 0
  ⟨rfl,rfl,rfl,rfl,trivial⟩ ⟨Ag _, #[],0,⟨rfl,by simp[E3]⟩,hS⟩ ?_
 rintro k w3⟨hk,es',c',hm,hS⟩;by_cases hkl:k<fs.length
 ·obtain⟨hc0,hc1⟩:=qP fs k hkl;obtain⟨bc,offc,rfl,hbc,hck0⟩:=ha _ _ hc0;obtain⟨bc',offc',heq, -,hck1⟩:=ha _ _ hc1;obtain⟨rfl,rfl⟩:bc=bc'∧offc=offc':=by simpa using heq
  have hak:Gg fs (k+1)=if fs[k].2<1∨3<fs[k].2∨(Am fs[k].1 (Gg fs k)).getD 0≠0 then Gg fs k else BV fs[k].1 fs[k].2 (Gg fs k):=by
   have:fs.getD k (0,0)=fs[k]:=by simp[hkl]
   simp only[Gg,this]
  generalize Gg fs k=A at hm hak;generalize hA':Gg fs (k+1)=A' at hak;generalize fs[k]=x at hck0 hck1 hak;obtain⟨p,kd⟩:=x;simp only at hck0 hck1 hak;refine jq ⟨?_⟩;refine s8 hS hbc hck0 hck1 ?_;refine jq ⟨?_⟩;refine hS.al ?_;intro r w4 _ hS;(repeat(refine jt ⟨?_⟩;refine hS.q ?_;intro _ hS));refine jt ⟨?_⟩;have hS:St w T0 ((r,.cells ⟨[AY p,AY kd]⟩ MP (0,0))::(fm,.map es' c')::(b,.cells ⟨[.map (some fm),.int .i64 (0:Nat),.int .i64 m.acts,.bool m.off,.map (some mf)]⟩ C1 (0,0))::(mf,.map es c)::[]) _:=hS
  refine AM.draw AK mixed (λw'=>St w T0 ((r,.cells ⟨[AY p,AY kd]⟩ MP (0,0))::(fm,.map es' c')::(b,.cells ⟨[.map (some fm),.int .i64 (0:Nat),.int .i64 m.acts,.bool m.off,.map (some mf)]⟩ C1 (0,0))::(mf,.map es c)::[]) w')
   [] [0,1,2,3,4,5,6,7,8,9,10,11,12,13,14,15,16,17] AD hS.drew ?_
  have hS:=hS.drew;by_cases h1:kd<1
  ·refine jr ⟨?_⟩;refine⟨k+1,⟨rfl,rfl,rfl,rfl,trivial⟩,⟨AA,es',c',by rw[hA',hak,if_pos (.inl h1)];exact hm,hS.sub (AS _ _)⟩,AA⟩
  ·by_cases h3:3<kd
   ·refine jr ⟨?_⟩;refine⟨k+1,⟨rfl,rfl,rfl,rfl,trivial⟩,⟨AA,es',c',by rw[hA',hak,if_pos (.inr (.inl h3))];exact hm,hS.sub (AS _ _)⟩,AA⟩
   ·refine jr ⟨?_⟩;have hlk: ∀{K:Value→Prop},K (.int .i64 ((Am p A).getD 0))→Fz Tryz.prog (Instr.lookup Nq (.map (some fm)) (AY p) false) (λw'=>St w T0 ((r,.cells ⟨[AY p,AY kd]⟩ MP (0,0))::(fm,.map es' c')::(b,.cells ⟨[.map (some fm),.int .i64 (0:Nat),.int .i64 m.acts,.bool m.off,.map (some mf)]⟩ C1 (0,0))::(mf,.map es c)::[]) w') K:=by
     intro K hK;refine IS AK Bn.i64 rfl rfl Em rfl (kvs:=A) (λw' hw'=>⟨es',c',hw'.mem (b:=fm),hm.of⟩) ?_;have:((Am p A).map AY).getD (.int .i64 0)= .int .i64 ((Am p A).getD 0):=by
      cases Am p A<;>rfl
     rw[←this]at hK;exact hK
    refine hlk ?_;generalize hz:(Am p A).getD 0=z at hak;refine jr ⟨?_⟩;refine Ax.dec (λh=>?_) (λh=>?_)
    ·refine jq ⟨?_⟩;refine AM.draw AK mixed (λw'=>St w T0 ((r,.cells ⟨[AY p,AY kd]⟩ MP (0,0))::(fm,.map es' c')::(b,.cells ⟨[.map (some fm),.int .i64 (0:Nat),.int .i64 m.acts,.bool m.off,.map (some mf)]⟩ C1 (0,0))::(mf,.map es c)::[]) w')
      [8] [0,1,2,3,4,5,6,7,8] AD hS.drew ?_
     have hS:=hS.drew;refine jr ⟨?_⟩;refine St.mapSet AK Bn.i64 rfl rfl Em hS (v:=kd) hm ?_;intro es2 c2 w6 hm2 hS;have hS:=hS.sub (AS _ _);refine jq ⟨?_⟩;refine⟨k+1,⟨rfl,rfl,rfl,rfl,trivial⟩,⟨AA,es2,c2,?_,hS⟩,AA⟩;rw[hA',hak,if_neg (by rintro(h|h|h)<;>omega)];exact hm2
    ·refine jq ⟨?_⟩;refine⟨k+1,⟨rfl,rfl,rfl,rfl,trivial⟩,⟨AA,es',c',by rw[hA',hak,if_pos (.inr (.inr h))];exact hm,hS.sub (AS _ _)⟩,AA⟩
 ·have hke:k=fs.length:=AA;subst hke;refine jq ⟨?_⟩;exact⟨_,BI.mk (m:={m with fates:=Gg fs fs.length,armed:=0}) mf es c hes (some fm) _ (JH.made fm es' c' _ hm),hS.perm ((List.Perm.swap _ _ _).trans ((List.Perm.swap _ _ _).cons _))⟩
end Go.Proofs.YtkgibdhpijdbfaaGreatDoor
