/- Texts of this claim, one behind the other. -/
import Derived.Test.YtkgibdhpijdbfaaGreatDoorZ5
import Derived.Test.YtkgibdhpijdbfaaGreatDoorZ2
import Derived.Test.YtkgibdhpijdbfaaGreatDoorZ3
import Derived.Laws.IdiomStrings
import Derived.Shelf.SlIterI.Nil
import Derived.Shelf.SortM.Plain
import Derived.Shelf.SortM.SortNone
import Derived.Ground.GgzProg
import Derived.Ground.SlgmProg
import Derived.Test.YtkgibdhpijdbfaaGreatDoorProg
set_option linter.unusedVariables false
set_option linter.unusedSimpArgs false
set_option maxHeartbeats 16000000
namespace Go.Proofs.YtkgibdhpijdbfaaGreatDoor
open Go Go.Eng Go.Proofs
def B7(t:List UInt8)(k:Nat):List UInt8×Nat×Int:=
 if t.length<k+8 then([],0,1)
 else if 65536<Cq (t.drop k)∨(t.drop k).length<Cq (t.drop k)+8 then([],0,1)
 else if Fl [(t.drop k).take 4,((t.drop k).take (8+Cq (t.drop k))).drop 8]=Cq ((t.drop k).drop 4)then(((t.drop k).take (8+Cq (t.drop k))).drop 8,k+8+Cq (t.drop k),0)
 else([],0,1)
theorem Sr{w:World}(t:List UInt8)(k:Nat)(ht:t.length≤140737488355328)(hk:k≤t.length):
  Cl Tryz.prog mH [AG t,.int .i64 k] w λv w'=>v= .tuple ⟨[AG (B7 t k).1,.int .i64 (B7 t k).2.1,.int .i64 (B7 t k).2.2]⟩∧St w [] [] w':=by
 have hS:=St.start w;refine eC rfl ?_;unfold B7;by_cases h1:t.length<k+8
 ·rw[if_pos h1];refine jq ⟨?_⟩;exact⟨rfl,hS⟩
 ·rw[if_neg h1];refine jq ⟨?_⟩;refine(W0 (t.drop k) (by simp;omega)).mono ?_;rintro _ w1⟨rfl,hS'⟩;have hS:=hS.call0 hS';have hrl:(t.drop k).length=t.length-k:=AB;rw[show List.drop (k:Int).toNat t=t.drop k from rfl];generalize t.drop k=rest at hrl⊢;have hn:=uZ rest;generalize Cq rest=n at hn⊢;by_cases h2:65536<n
  ·rw[if_pos (.inl h2)];refine jq ⟨?_⟩;exact⟨rfl,hS⟩
  ·refine jq ⟨?_⟩;by_cases h3:rest.length<n+8
   ·rw[if_pos (.inr h3)];refine jq ⟨?_⟩;exact⟨rfl,hS⟩
   ·rw[if_neg AA];refine jq ⟨?_⟩;refine AL.draw AK mixed (λw'=>St w [] [] w') [7,8] [0,1,2,5,6,3,4,7,8] AD hS.drew ?_;have hS:=hS.drew;refine jq ⟨?_⟩;refine hS.al ?_;intro b2 w2 _ hS;refine Ae.mk hS.nil ?_;refine(TT (ps:=[rest.take 4,(rest.take (8+n)).drop 8]) AB (by simp;omega) (hS.arr (b:=b2) AB)).mono ?_;rintro _ w3⟨rfl,hS'⟩;have hS:=(hS.call0 hS').nil;refine Ae.mk hS ?_;refine(W0 (rest.drop 4) (by simp;omega)).mono ?_
    rintro _ w4⟨rfl,hS'⟩;have hS:=hS.call0 hS';by_cases h5:Fl [rest.take 4,(rest.take (8+n)).drop 8]=Cq (rest.drop 4)
    ·rw[if_pos h5];refine jq ⟨?_⟩;exact⟨rfl,hS⟩
    ·rw[if_neg h5];refine jq ⟨?_⟩;exact⟨rfl,hS⟩
def I7(t:List UInt8):Nat→Nat→List (List UInt8)×Nat
 |0,k=>([],k)
 |fuel+1,k=>if(B7 t k).2.2≠0 then([],k)else((B7 t k).1::(I7 t fuel (B7 t k).2.1).1,(I7 t fuel (B7 t k).2.1).2)
theorem Qn(t:List UInt8)(k:Nat)(h:(B7 t k).2.2=0):k+8≤(B7 t k).2.1∧(B7 t k).2.1≤t.length∧(B7 t k).2.1=k+8+(B7 t k).1.length∧(B7 t k).1.length≤65536:=by
 unfold B7 at h⊢
 split at h
 ·simp at h
 ·rename_i h1;rw[if_neg h1]
  split at h
  ·simp at h
  ·rename_i h2;rw[if_neg h2]
   split at h
   ·rename_i h3;rw[if_pos h3];simp only[Do,BR]at*;omega
   ·simp at h
theorem St.toBytes{P:Program}{T0:BO}(hT:BX P T0){t u e:TypeId}{i iu ie:TI}(hi:tf T0 t=some i)(hk:i.k= .slice e 1)(hiu:tf T0 u=some iu)(hku:iu.k= .str)(hie:tf T0 e=some ie)(hke:ie.k= .int .u8)
  {w0 w:World}{T:List Nat}{H:AH}(hS:St w0 T H w){s:AE}{K:Value→World→Prop}
  (h: ∀b c z fz w',s.length≤c∧s.length≤fz.1→St w0 T ((b,.cells ⟨s.map Eg++z⟩ e fz)::H) w'→K (.slice (some ⟨b,0,none⟩) s.length c) w'):Bk P (convert u t (AG s)) w K:=by
 have h1:=CZ hT hiu;rw[hku]at h1;have h2:=CZ hT hi;rw[hk]at h2;have h3:=CZ hT hie;rw[hke]at h3;have hge:=grownCap_ge w s.length 0 e;have e1:bytesRow ⟨⟨s⟩⟩ (grownCap w s.length 0 e)=⟨s.map Eg++List.replicate (grownCap w s.length 0 e-s.length) (.int .u8 0)⟩:=by
  apply Array.ext';simp[bytesRow];rfl
 have hrun:(convert u t (AG s)).run P w= .ok (.slice (some ⟨w.heap.size,0,none⟩) s.length (grownCap w s.length 0 e))
   (w.drew.alloc (.cells (bytesRow ⟨⟨s⟩⟩ (grownCap w s.length 0 e)) e ((bytesRow ⟨⟨s⟩⟩ (grownCap w s.length 0 e)).size,(bytesRow ⟨⟨s⟩⟩ (grownCap w s.length 0 e)).size+1))):=run_bytes_of_string w u t e ⟨⟨s⟩⟩ h1 h2.1 h3
 rw[e1]at hrun;exact Bk.of hrun (h _ _ _ _ _ ⟨hge,AB⟩ (hS.drew.alloc _))
inductive DO(b:Nat)(bs:AE):AH→Prop where
 |mk (a:Option Addr) (cap:Nat) (L:AH) (hv:AT GS 1 a bs.length cap (bs.map Eg) L):DO b bs ((b,.cells ⟨[.int .i64 bs.length,.slice a bs.length cap]⟩ aH (0,0))::L)
theorem MH{w:World}:Cl Tryz.prog n8 [] w λv w'=>∃b L,v=ptr b∧DO b [] L∧St w [] L w':=by
 have hS:=St.start w;refine gA rfl ?_;refine jq ⟨?_⟩;refine hS.al ?_;intro b w1 _ hS;refine jq ⟨?_⟩;exact⟨b,_,rfl,DO.mk none 0 [] AT.nil,hS⟩
set_option maxRecDepth 8000 in
theorem Pv{w:World}{b:Nat}{bs:AE}{L:AH}(hW:DO b bs L)(hh:Holds L w){a:Option Addr}{cap:Nat}{xs:AE}(ha:Arr w (keys L) a (xs.map Eg))(hlen:bs.length+xs.length≤140737488355328):
  Cl Tryz.prog oI [ptr b,.slice a xs.length cap] w λ_ w'=>∃L',DO b (bs++xs) L'∧St w (keys L) L' w':=by
 have hS:=St.enter hh;generalize hT:keys L=T0 at hS ha⊢;obtain⟨a0,c0,L0,hv⟩:=hW;refine gK rfl ?_;(repeat(refine jt ⟨?_⟩;refine hS.q ?_;intro _ hS));refine jt ⟨?_⟩;refine St.app (sz:=1) (m:=xs.length) AK rfl rfl rfl rfl hS hv (news:=xs.map Eg) AB ((hS.arrOld ha).sub AB) (by simp[Eg,Value.oneCell']) (by show(_+_)*1≤_;omega) AA ?_;intro a' c' L' w' hv' hS;have hl:(bs++xs).length=bs.length+xs.length:=AP
 rw[←hl,←A7]at hv';rw[←hl];(repeat(refine jt ⟨?_⟩;refine hS.q ?_;intro _ hS));refine jt ⟨?_⟩;refine⟨_,DO.mk a' c' L' hv',?_⟩;rw[show(((bs++xs).length:Nat):Int)=(bs.length:Int)+(xs.length:Int) by rw[hl];omega];exact hS
def SU(n:Nat):Value:= .int .u64 n
theorem vO(m:Nat):HV .u8 (IntKind.u8.wrap (m:Int)) 128=(((UInt8.ofNat (m % 128+128)).toNat:Nat):Int):=by
 have e1:IntKind.u8.wrap (m:Int)=((m % 256:Nat):Int):=Fc .u8 rfl m;rw[e1];have h:=FP m (show 0<256 by omega);have e2:m % 128=m % 256 % 128:=AA;rw[e2];generalize m % 256=r at h;have key: ∀r:Fin 256,HV .u8 ((r.val:Nat):Int) 128=(((UInt8.ofNat (r.val % 128+128)).toNat:Nat):Int):=by decide+kernel
 exact key ⟨r,h⟩
theorem u7(ns:List Nat)(k:Nat)(hk:k<ns.length):((ns.take (k+1)).map Ak).flatten=((ns.take k).map Ak).flatten++Ak ns[k]:=by
 rw[Bs hk,A7,GW,A4,kC,Dc,Gm,BU]
theorem EP(n:Nat)(h:n<18446744073709551616):(Ak n).length≤10:=RW 9 n (Nat.lt_of_lt_of_le h AC)
theorem u6(ns:List Nat)(h: ∀n∈ns,n<18446744073709551616):((ns.map Ak).flatten).length≤10*ns.length:=by
 induction ns with
 |nil=>simp
 |cons n r ih=>
  have h1:=EP n (h n AB);have h2:=ih (λm hm=>h m (CJ _ hm));simp only[A4,Dc,AP,Ai];omega
theorem bR(m:Nat)(h:m<256):Eg (UInt8.ofNat m)= .int .u8 (m:Int):=by
 have:(UInt8.ofNat m).toNat=m:=by simp;omega
 unfold Eg;rw[this]
theorem Gg{w:World}{b:Nat}{bs:AE}{L:AH}(hW:DO b bs L)(hh:Holds L w){a:Option Addr}{cap:Nat}{ns:List Nat}(ha:Arr w (keys L) a (ns.map SU))(hn: ∀n∈ns,n<18446744073709551616)(_hl:ns.length≤1099511627776)(hlen:bs.length+10*ns.length≤140737488355328):
  Cl Tryz.prog oG [ptr b,.slice a ns.length cap] w λ_ w'=>∃L',DO b (bs++(ns.map Ak).flatten) L'∧St w (keys L) L' w':=by
 have hS:=St.enter hh;generalize hT:keys L=T0 at hS ha⊢;refine gI rfl ?_;refine jq ⟨?_⟩;refine AL.loop (λk:Nat=>[(0,ptr b),(6,.slice a ns.length cap),(7,.int .i64 ns.length),(8,.int .i64 k)])
  (λk w'=>k≤ns.length∧ ∃L',DO b (bs++((ns.take k).map Ak).flatten) L'∧St w T0 L' w') (λk=>ns.length-k) 0
  ⟨rfl,rfl,rfl,rfl,trivial⟩ ⟨Ag _,L,by simpa using hW,hS⟩ ?_
 rintro k w1⟨hk,L1,hW1,hS⟩;by_cases hkl:k<ns.length
 ·obtain⟨b',off',rfl,hbT,hck⟩:=ha.get (j:=k) (by simp;omega);simp only[G5]at hck;have hs:=u7 ns k hkl;have hnk:=hn ns[k] (Ca hkl);have hln:=u6 (ns.take k) (λn h=>hn n (HN h));have hlt:(ns.take k).length=k:=by simp;omega
  have h10:=EP _ hnk;refine jq ⟨?_⟩;refine hS.ldOld hbT (by simpa using hck) ?_;refine jq ⟨?_⟩;refine AL.loop (λx:Nat×AE=>[(0,ptr b),(5,SU x.1),(6,.slice (some ⟨b',off',none⟩) ns.length cap),(7,.int .i64 ns.length),(8,.int .i64 k)])
   (λx w'=>x.2++Ak x.1=Ak ns[k]∧ ∃L',DO b (bs++((ns.take k).map Ak).flatten++x.2) L'∧St w T0 L' w') (λx=>x.1) (ns[k],[])
   ⟨rfl,rfl,rfl,rfl,rfl,trivial⟩ ⟨rfl,L1,by simpa using hW1,hS⟩ ?_
  rintro⟨m,p⟩w2⟨hp,L2,hW2,hS⟩;simp only at hp hW2⊢;have hpl:=congrArg List.length hp;rw[AP]at hpl;have hpos:=K7 m;by_cases hm:m<128
  ·rw[KA hm]at hp;refine jq ⟨?_⟩;refine hS.al ?_;intro r w3 _ hS;refine jq ⟨?_⟩;refine Cl.mono (Pv hW2 (hS.part (L:=L2)) (xs:=[UInt8.ofNat m]) (by rw[A4,bR m AA];exact hS.arr (b:=r) (Mv hS)) (by rw[AP,AP,D4];omega)) ?_;rintro _ w4⟨L3,hW3,hS'⟩;have hS:=(hS.call (L:=L2) hS').sub (AS _ _);refine jq ⟨?_⟩;refine⟨k+1,⟨rfl,rfl,rfl,rfl,trivial⟩,⟨AA,L3,?_,hS⟩,AA⟩;rw[hs,←hp,←Aj,←Aj];exact hW3
  ·rw[K6 hm]at hp;have hpos2:=K7 (m / 128);rw[K6 hm,Ai]at hpl;refine jq ⟨?_⟩;refine hS.al ?_;intro r w3 _ hS;refine jq ⟨?_⟩;refine Cl.mono (Pv hW2 (hS.part (L:=L2)) (xs:=[UInt8.ofNat (m % 128+128)]) (by have:=hS.arr (b:=r) (Mv hS);rw[vO]at this;exact this) (by rw[AP,AP,D4];omega)) ?_;rintro _ w4⟨L3,hW3,hS'⟩;have hS:=(hS.call (L:=L2) hS').sub (AS _ _);refine jq ⟨?_⟩;refine⟨(m / 128,p++[UInt8.ofNat (m % 128+128)]),⟨rfl,?_,rfl,rfl,rfl,trivial⟩,⟨by simpa using hp,L3,by rw[←Aj];exact hW3,hS⟩,by simp only;omega⟩
   show Value.int .u64 ((m:Int).fdiv (2 ^ 7))=SU (m / 128);rw[Io];rfl
 ·have hke:k=ns.length:=AA;subst hke;rw[Bz]at hW1;refine jq ⟨?_⟩;exact⟨L1,hW1,hS⟩
theorem Yt(z:Int)(h1: -9223372036854775808≤z)(h2:z≤9223372036854775807):
  Gv .u64 (IntKind.u64.wrap (IntKind.u64.wrap z*2 ^ 1)) (IntKind.u64.wrap (z.fdiv (2 ^ 63)))=(Ed z:Int)∧Ed z<18446744073709551616:=by
 unfold Ed;by_cases h0:0≤z
 ·rw[if_pos h0];obtain⟨n,rfl⟩:=Int.eq_ofNat_of_zero_le h0;have e0:((n:Nat):Int).toNat=n:=Int.toNat_natCast n;have e1:IntKind.u64.wrap ((n:Nat):Int)=(n:Int):=by rw[Fc .u64 rfl];congr 1;exact Dy (by show n<18446744073709551616;omega)
  have e2:IntKind.u64.wrap ((n:Int)*2 ^ 1)=((2*n:Nat):Int):=by
   rw[show((n:Nat):Int)*2 ^ 1=((2*n:Nat):Int) by omega,Fc .u64 rfl];congr 1;exact Dy (by show 2*n<18446744073709551616;omega)
  have e3:((n:Nat):Int).fdiv (2 ^ 63)=((0:Nat):Int):=by
   rw[Io];congr 1;exact Nat.div_eq_of_lt AA
  have e4:IntKind.u64.wrap ((0:Nat):Int)=((0:Nat):Int):=by rw[Fc .u64 rfl];rfl
  rw[e0,e1,e2,e3,e4,Sc .u64 rfl _ _ (by show 2*n<18446744073709551616;omega) AC,Nat.xor_zero];exact⟨rfl,AA⟩
 ·rw[if_neg h0];obtain⟨n,hn⟩: ∃n:Nat,z= -(n:Int)-1:=⟨(-(z+1)).toNat,AA⟩;subst hn;have hn9:n<9223372036854775808:=AA;have e0:(-(-(n:Int)-1+1)).toNat=n:=AA;have e1:IntKind.u64.wrap (-(n:Int)-1)=((18446744073709551615-n:Nat):Int):=by
   unfold IntKind.wrap;simp only[IntKind.signed,IntKind.bits];simp;omega
  have e2:IntKind.u64.wrap (((18446744073709551615-n:Nat):Int)*2 ^ 1)=((18446744073709551614-2*n:Nat):Int):=by
   rw[show((18446744073709551615-n:Nat):Int)*2 ^ 1=((2*(18446744073709551615-n):Nat):Int) by omega,Fc .u64 rfl];congr 1;show 2*(18446744073709551615-n) % 18446744073709551616=_;omega
  have e3:(-(n:Int)-1).fdiv (2 ^ 63)= -1:=by
   rw[Int.fdiv_eq_ediv_of_nonneg _ AC];omega
  have e4:IntKind.u64.wrap (-1)=((18446744073709551615:Nat):Int):=AC;rw[e0,e1,e2,e3,e4,Sc .u64 rfl _ _ (by show _<18446744073709551616;omega) AC];have e5:(18446744073709551614-2*n) ^^^ 18446744073709551615=2*n+1:=by
   have h1:(BitVec.ofNat 64 (18446744073709551614-2*n) ^^^ BitVec.allOnes 64).toNat=(18446744073709551614-2*n) ^^^ 18446744073709551615:=by
    rw[BitVec.toNat_xor,BitVec.toNat_allOnes,BitVec.toNat_ofNat,Dy AA]
   rw[←h1,BitVec.xor_allOnes,BitVec.toNat_not,BitVec.toNat_ofNat,Dy AA];omega
  rw[e5];exact⟨rfl,AA⟩
theorem sO(zs:List Int)(k:Nat)(hk:k<zs.length):Ci (zs.take (k+1))=Ci (zs.take k)++Bh zs[k]:=by
 unfold Ci;rw[Bs hk,A7,GW,A4,kC,Dc,Gm,BU]
def CA(z:Int):Prop:= -9223372036854775808≤z∧z≤9223372036854775807
theorem OU(zs:List Int)(h: ∀z∈zs,CA z):(Ci zs).length≤10*zs.length:=by
 induction zs with
 |nil=>simp[Ci]
 |cons z r ih=>
  have h1:=EP (Ed z) (Yt z (h z AB).1 (h z AB).2).2;have h2:=ih (λm hm=>h m (CJ _ hm));simp only[Ci,A4,Dc,AP,Ai,Bh]at h2⊢;omega
theorem MF{w:World}{b:Nat}{bs:AE}{L:AH}(hW:DO b bs L)(hh:Holds L w){a:Option Addr}{cap:Nat}{zs:List Int}(ha:Arr w (keys L) a (zs.map AY))(hn: ∀z∈zs,CA z)(_hl:zs.length≤1099511627776)(hlen:bs.length+10*zs.length≤140737488355328):
  Cl Tryz.prog oF [ptr b,.slice a zs.length cap] w λ_ w'=>∃L',DO b (bs++Ci zs) L'∧St w (keys L) L' w':=by
 have hS:=St.enter hh;generalize hT:keys L=T0 at hS ha⊢;refine gH rfl ?_;refine jq ⟨?_⟩;refine AL.loop (λk:Nat=>[(0,ptr b),(6,.slice a zs.length cap),(7,.int .i64 zs.length),(8,.int .i64 k)])
  (λk w'=>k≤zs.length∧ ∃L',DO b (bs++Ci (zs.take k)) L'∧St w T0 L' w') (λk=>zs.length-k) 0
  ⟨rfl,rfl,rfl,rfl,trivial⟩ ⟨Ag _,L,by simpa[Ci]using hW,hS⟩ ?_
 rintro k w1⟨hk,L1,hW1,hS⟩;by_cases hkl:k<zs.length
 ·obtain⟨b',off',rfl,hbT,hck⟩:=ha.get (j:=k) (by simp;omega);simp only[G5]at hck;have hs:=sO zs k hkl;obtain⟨hr1,hr2⟩:=hn zs[k] (Ca hkl);obtain⟨hz1,hz2⟩:=Yt zs[k] hr1 hr2;have hln:=OU (zs.take k) (λn h=>hn n (HN h));have hlt:(zs.take k).length=k:=by simp;omega
  refine jq ⟨?_⟩;refine hS.ldOld hbT (by simpa using hck) ?_;refine jq ⟨?_⟩;refine hS.al ?_;intro r w3 _ hS;refine jq ⟨?_⟩;refine Cl.mono (Gg hW1 (hS.part (L:=L1)) (ns:=[Ed zs[k]]) (by have:=hS.arr (b:=r) (Mv hS);rw[show min (Int.toNat 1) IntKind.u64.bits=1 from rfl,show min (Int.toNat 63) IntKind.i64.bits=63 from rfl,hz1]at this;exact this) (by simpa using hz2) AB (by rw[AP,D4];omega)) ?_;rintro _ w4⟨L3,hW3,hS'⟩
  have hS:=(hS.call (L:=L1) hS').sub (AS _ _);refine jq ⟨?_⟩;refine⟨k+1,⟨rfl,rfl,rfl,rfl,trivial⟩,⟨AA,L3,?_,hS⟩,AA⟩;rw[hs,←Aj];simpa[Bh]using hW3
 ·have hke:k=zs.length:=AA;subst hke;rw[Bz]at hW1;refine jq ⟨?_⟩;exact⟨L1,hW1,hS⟩
theorem Lz{w:World}{b:Nat}{bs:AE}{L:AH}(hW:DO b bs L)(hh:Holds L w):Cl Tryz.prog oE [ptr b] w λv w'=>v=AG bs∧St w (keys L) L w':=by
 have hS:=St.enter hh;generalize hT:keys L=T0 at hS⊢;obtain⟨a0,c0,L0,hv⟩:=hW;refine gG rfl ?_;(repeat(refine jt ⟨?_⟩;refine hS.q ?_;intro _ hS));refine jt ⟨?_⟩;refine SP (T:=[]) AK rfl rfl rfl rfl rfl rfl (bs:=bs) rfl (λw' hw'=>by subst hw';exact hv.arr hS AB) ?_;refine jq ⟨?_⟩;exact⟨rfl,hS⟩
end Go.Proofs.YtkgibdhpijdbfaaGreatDoor
namespace Go.Proofs
open Go.Shelf
def Tryz.keysI_ren:Go.Shelf.Ren:=⟨λ |7=>64|10=>111|n=>n,λ |23=>61|26=>3|3=>137|28=>135|0=>0|27=>134|33=>201|4=>4|n=>n,λ |n=>n⟩
theorem Tryz.keysI:Go.Proofs.SlLaysZI.n7 Tryz.prog Tryz.keysI_ren:={
 mixed:=AD
 f7:=⟨Tryz.f64.name,AC,Tryz.func64.trans (congrArg some AD)⟩
 f10:=⟨Tryz.f111.name,AC,Tryz.func111.trans (congrArg some AD)⟩
 t0:=Tryz.underlying0
 a0:=Tryz.isAgg0
 z0:=Tryz.sizeOf0
 v0:=Tryz.zeroValue0
 t4:=Tryz.underlying4
 a4:=Tryz.isAgg4
 z4:=Tryz.sizeOf4
 v4:=Tryz.zeroValue4
 t23:=Tryz.underlying61
 a23:=Tryz.isAgg61
 z23:=Tryz.sizeOf61
 v23:=Tryz.zeroValue61
 t26:=Tryz.underlying3
 a26:=Tryz.isAgg3
 z26:=Tryz.sizeOf3
 v26:=Tryz.zeroValue3
 t27:=Tryz.underlying134
 a27:=Tryz.isAgg134
 z27:=Tryz.sizeOf134
 v27:=Tryz.zeroValue134
 t28:=Tryz.underlying135
 a28:=Tryz.isAgg135
 z28:=Tryz.sizeOf135
 v28:=Tryz.zeroValue135
 t33:=Tryz.underlying201
 a33:=Tryz.isAgg201
 z33:=Tryz.sizeOf201
 v33:=Tryz.zeroValue201}
def Tryz.sortedI_ren:Go.Shelf.Ren:=⟨λ |6=>63|8=>101|9=>110|11=>144|13=>152|12=>151|23=>197|24=>198|14=>188|15=>189|16=>190|17=>191|18=>192|19=>193|20=>194|21=>195|22=>196|25=>218|26=>219|27=>220|28=>221|29=>222|30=>202|31=>243|n=>n,λ |26=>3|28=>135|24=>22|0=>0|3=>3|37=>155|48=>235|50=>159|4=>4|40=>293|39=>292|45=>117|5=>5|9=>9|51=>321|55=>324|57=>343|58=>344|33=>201|n=>n,λ |n=>n⟩
theorem Tryz.sortedI:Go.Proofs.SlLaysZI.n6 Tryz.prog Tryz.sortedI_ren:={
 mixed:=AD
 f6:=⟨Tryz.f63.name,AC,Tryz.func63.trans (congrArg some AD)⟩
 f8:=⟨Tryz.f101.name,AC,Tryz.func101.trans (congrArg some AD)⟩
 f11:=⟨Tryz.f144.name,AC,Tryz.func144.trans (congrArg some AD)⟩
 t0:=Tryz.underlying0
 a0:=Tryz.isAgg0
 z0:=Tryz.sizeOf0
 v0:=Tryz.zeroValue0
 t24:=Tryz.underlying22
 a24:=Tryz.isAgg22
 z24:=Tryz.sizeOf22
 v24:=Tryz.zeroValue22
 t26:=Tryz.underlying3
 a26:=Tryz.isAgg3
 z26:=Tryz.sizeOf3
 v26:=Tryz.zeroValue3
 t28:=Tryz.underlying135
 a28:=Tryz.isAgg135
 z28:=Tryz.sizeOf135
 v28:=Tryz.zeroValue135
 i26:=by kernel_rfl}
def Tryz.sortI_ren:Go.Shelf.Ren:=⟨λ |5=>110|8=>152|7=>151|19=>197|20=>198|10=>188|11=>189|12=>190|13=>191|14=>192|15=>193|16=>194|17=>195|18=>196|30=>218|31=>219|32=>220|33=>221|34=>222|35=>202|40=>243|n=>n,λ |23=>22|25=>3|3=>3|32=>155|22=>22|0=>0|44=>235|46=>159|4=>4|36=>293|35=>292|41=>117|5=>5|9=>9|53=>321|57=>324|63=>343|64=>344|n=>n,λ |n=>n⟩
theorem Tryz.sortI:Go.Proofs.SlLaysM.n5 Tryz.prog Tryz.sortI_ren:={
 mixed:=AD
 f5:=⟨Tryz.f110.name,AC,Tryz.func110.trans (congrArg some AD)⟩
 f7:=⟨Tryz.f151.name,AC,Tryz.func151.trans (congrArg some AD)⟩
 f8:=Tryz.func152.trans (congrArg some AD)
 f10:=⟨Tryz.f188.name,AC,Tryz.func188.trans (congrArg some AD)⟩
 f11:=⟨Tryz.f189.name,AC,Tryz.func189.trans (congrArg some AD)⟩
 f12:=⟨Tryz.f190.name,AC,Tryz.func190.trans (congrArg some AD)⟩
 f13:=⟨Tryz.f191.name,AC,Tryz.func191.trans (congrArg some AD)⟩
 f14:=⟨Tryz.f192.name,AC,Tryz.func192.trans (congrArg some AD)⟩
 f15:=⟨Tryz.f193.name,AC,Tryz.func193.trans (congrArg some AD)⟩
 f16:=⟨Tryz.f194.name,AC,Tryz.func194.trans (congrArg some AD)⟩
 f17:=⟨Tryz.f195.name,AC,Tryz.func195.trans (congrArg some AD)⟩
 f18:=⟨Tryz.f196.name,AC,Tryz.func196.trans (congrArg some AD)⟩
 f19:=Tryz.func197.trans (congrArg some AD)
 f20:=Tryz.func198.trans (congrArg some AD)
 f30:=⟨Tryz.f218.name,AC,Tryz.func218.trans (congrArg some AD)⟩
 f31:=Tryz.func219.trans (congrArg some AD)
 f32:=Tryz.func220.trans (congrArg some AD)
 f33:=⟨Tryz.f221.name,AC,Tryz.func221.trans (congrArg some AD)⟩
 f34:=⟨Tryz.f222.name,AC,Tryz.func222.trans (congrArg some AD)⟩
 f35:=⟨Tryz.f202.name,AC,Tryz.func202.trans (congrArg some AD)⟩
 f40:=⟨Tryz.f243.name,AC,Tryz.func243.trans (congrArg some AD)⟩
 t0:=Tryz.underlying0
 a0:=Tryz.isAgg0
 z0:=Tryz.sizeOf0
 v0:=Tryz.zeroValue0
 t3:=Tryz.underlying3
 a3:=Tryz.isAgg3
 z3:=Tryz.sizeOf3
 v3:=Tryz.zeroValue3
 t4:=Tryz.underlying4
 a4:=Tryz.isAgg4
 z4:=Tryz.sizeOf4
 v4:=Tryz.zeroValue4
 t5:=Tryz.underlying5
 a5:=Tryz.isAgg5
 z5:=Tryz.sizeOf5
 v5:=Tryz.zeroValue5
 t9:=Tryz.underlying9
 a9:=Tryz.isAgg9
 z9:=Tryz.sizeOf9
 v9:=Tryz.zeroValue9
 t22:=Tryz.underlying22
 a22:=Tryz.isAgg22
 z22:=Tryz.sizeOf22
 v22:=Tryz.zeroValue22
 t23:=Tryz.underlying22
 a23:=Tryz.isAgg22
 z23:=Tryz.sizeOf22
 v23:=Tryz.zeroValue22
 t25:=Tryz.underlying3
 a25:=Tryz.isAgg3
 z25:=Tryz.sizeOf3
 v25:=Tryz.zeroValue3
 t32:=Tryz.underlying155
 a32:=Tryz.isAgg155
 z32:=Tryz.sizeOf155
 v32:=Tryz.zeroValue155
 t35:=Tryz.underlying292
 a35:=Tryz.isAgg292
 z35:=Tryz.sizeOf292
 v35:=Tryz.zeroValue292
 t36:=Tryz.underlying293
 a36:=Tryz.isAgg293
 z36:=Tryz.sizeOf293
 v36:=Tryz.zeroValue293
 t41:=Tryz.underlying117
 a41:=Tryz.isAgg117
 z41:=Tryz.sizeOf117
 v41:=Tryz.zeroValue117
 t44:=Tryz.underlying235
 a44:=Tryz.isAgg235
 z44:=Tryz.sizeOf235
 v44:=Tryz.zeroValue235
 t46:=Tryz.underlying159
 a46:=Tryz.isAgg159
 z46:=Tryz.sizeOf159
 v46:=Tryz.zeroValue159
 t53:=Tryz.underlying321
 a53:=Tryz.isAgg321
 z53:=Tryz.sizeOf321
 v53:=Tryz.zeroValue321
 t57:=Tryz.underlying324
 a57:=Tryz.isAgg324
 z57:=Tryz.sizeOf324
 v57:=Tryz.zeroValue324
 t63:=Tryz.underlying343
 a63:=Tryz.isAgg343
 z63:=Tryz.sizeOf343
 v63:=Tryz.zeroValue343
 t64:=Tryz.underlying344
 a64:=Tryz.isAgg344
 z64:=Tryz.sizeOf344
 v64:=Tryz.zeroValue344}
open Go.RowKit Go.Maps Go.Sort
theorem Tryz.sortsI(m:Nat):AnyZI.SortsIn Tryz.prog Tryz.sortedI_ren Fence.wide m:=
 ⟨λblk off cap ss W hH hblk hsz=>callsIn_wide.2 (AnyM.slices_Sort_int Tryz.sortI blk off cap ss W hH hblk hsz),
  λp cap W=>callsIn_wide.2 (AnyM.slices_Sort_int_none Tryz.sortI p cap W)⟩
theorem Tryz.mapsKeysI(mb:Option Nat)(W:World):CallsIn Fence.wide 5 Tryz.prog 64 #[.map mb] W λe w'=>e= .returned (.func (.func 111) #[] #[.pointer (some ⟨W.heap.size,0,none⟩)])∧w'=W.alloc (.cells #[.map mb] 61):=
 AnyZI.keys_in Tryz.keysI Fence.wide 5 trivial rfl mb W
theorem Tryz.sortedKeysI{H:Type}(b nn:Nat)(D0:DataW H)(R:Value→Option (DataW H×List MemPlace))(w:World)(hown:w.ownsMap Tryz.prog 3 R b nn D0)(hmax:Maps.size D0≤maxLen)(hbytes:Maps.size D0*8≤140737488355328):
  CallsIn Fence.wide 5 Tryz.prog 63 #[.func (.func 111) #[] #[.pointer (some ⟨w.heap.size,0,none⟩)]] (w.alloc (.cells #[.map (some b)] 61)) λe w'=>∃(v:Value)(ss:List Int),e= .returned v∧ss.Perm (intKeys D0)∧
   w'.ownsRow (w.alloc (.cells #[.map (some b)] 61)).heap.size 3 1 v ss.length ((ss.mergeSort (λx y=>decide (x≤y))).map encZ)∧(v= .slice none 0 0↔ss=[])∧Below (w.alloc (.cells #[.map (some b)] 61)).heap.size (w.alloc (.cells #[.map (some b)] 61)) w':=by
 have hbl:=hown.lt;have hseq:SeqGives Fence.wide 2 Tryz.prog 111 #[.pointer (some ⟨w.heap.size,0,none⟩)] encZ (λss=>ss.Perm (intKeys D0)) (Maps.size D0) (w.alloc (.cells #[.map (some b)] 61)):=
  AnyZI.keys_gives (ρ:=Tryz.keysI_ren) {Tryz.keysI with} Fence.wide _ trivial rfl AA w.heap.size b nn D0 _ AB AB (by
   obtain⟨es,clock,hb,Ft,hs,hD⟩:=hown;exact⟨es,clock,(Below.heap_alloc _ _ b hbl).trans hb,Ft,hs,hD⟩)
 exact AnyZI.sorted_in Tryz.sortedI Fence.wide 5 trivial trivial trivial trivial rfl AA (Tryz.sortsI _) (enters_of Tryz.func110 AD rfl) 111 #[.pointer (some ⟨w.heap.size,0,none⟩)] trivial (enters_of Tryz.func111 AD rfl) _ _ hmax hbytes _ hseq
theorem Tryz.callKeysI: ∀(args:Array Value)(w:World),(callFunc 64 args).run Tryz.prog w= .ok (.enter 64 args) w:=Tryz.call64
theorem Tryz.callSortedI: ∀(args:Array Value)(w:World),(callFunc 63 args).run Tryz.prog w= .ok (.enter 63 args) w:=Tryz.call63
end Go.Proofs
namespace Go.Eng
open Go
inductive F2(e:TypeId):Option Addr→Nat→Nat→List Value→AH→Prop where
 |nil:F2 e none 0 0 [] []
 |row (g:Nat) (pre xs l post:List Value) (n cap:Nat) (fz:Nat×Nat) (hf:fz.2≤pre.length∨(pre++(xs++(l++post))).length≤fz.1) (hx:xs.length=n) (hl:xs.length+l.length=cap):F2 e (some ⟨g,pre.length,none⟩) n cap xs [(g,.cells ⟨pre++(xs++(l++post))⟩ e fz)]
theorem F2.of{e:TypeId}{a:Option Addr}{n cap:Nat}{xs:List Value}{L:AH}(h:AT e 1 a n cap xs L):F2 e a n cap xs L:=by
 cases h with
 |nil=>exact .nil
 |row g n cap xs l hx hl hn=>
  have:=F2.row (e:=e) g [] xs l [] n cap (0,0) (.inl (Ag _)) AA AA;simpa using this
theorem F2.len{e:TypeId}{a:Option Addr}{n cap:Nat}{xs:List Value}{L:AH}(h:F2 e a n cap xs L):xs.length=n∧n≤cap:=by
 cases h with
 |nil=>exact⟨rfl,AV _⟩
 |row g pre xs l post n cap fz hf hx hl=>exact⟨hx,AA⟩
theorem F2.pos{e:TypeId}{a:Option Addr}{n cap:Nat}{xs:List Value}{L:AH}(h:F2 e a n cap xs L)(hn:0<n): ∃b off,a=some ⟨b,off,none⟩:=by
 cases h with
 |nil=>omega
 |row g pre xs l post n cap fz hf hx hl=>exact⟨g,_,rfl⟩
theorem F2.arr{e:TypeId}{a:Option Addr}{n cap:Nat}{xs:List Value}{L:AH}(h:F2 e a n cap xs L){w0 w:World}{T T':List Nat}{H:AH}{F:AH→AH}(hS:St w0 T H w) [hc:Chunk H L F]
  (hT: ∀b∈keys L,b∉T'):Arr w T' a xs:=by
 cases h with
 |nil=>exact Arr.nil _ _ _
 |row g pre xs l post n cap fz hf hx hl=>
  intro j x hj;have hm:=hS.part (L:=[(g,Obj.cells ⟨pre++(xs++(l++post))⟩ e fz)]).own _ (Cm.2 rfl);refine⟨g,pre.length,rfl,hT g (by simp[keys]),?_⟩;have hlt:j<xs.length:=(FR.1 hj).1;simp only[World.cell?,hm];simp only[Iy,Bool.false_eq_true,if_false];rw[show(Array.mk (pre++(xs++(l++post))))[pre.length+j]?=(pre++(xs++(l++post)))[pre.length+j]? by simp,Dp AA,show pre.length+j-pre.length=j by omega,Cn hlt]
  exact hj
theorem F2.drop{e:TypeId}{b off n cap k:Nat}{xs:List Value}{L:AH}(h:F2 e (some ⟨b,off,none⟩) n cap xs L)(hk:k≤n):F2 e (CV b off k cap 1) (n-k) (cap-k) (xs.drop k) L:=by
 cases h with
 |row g pre xs l post n cap fz hf hx hl=>
  unfold CV
  split
  ·rename_i hc;have h1:l=[]:=Is AA;have h2:xs.drop k=[]:=List.drop_eq_nil_iff.2 AA;have:=F2.row (e:=e) b pre [] [] (xs++(l++post)) 0 0 fz hf rfl rfl;rw[h2,show n-k=0 by omega,show cap-k=0 by omega];simpa using this
  ·have e2:pre++xs.take k++(xs.drop k++(l++post))=pre++(xs++(l++post)):=by
    rw[Aj,←Aj (xs.take k),CO]
   have:=F2.row (e:=e) b (pre++xs.take k) (xs.drop k) l post (n-k) (cap-k) fz (by
    rw[e2];rcases hf with hf|hf
    ·exact .inl (by rw[AP];omega)
    ·exact .inr hf) (by simp;omega) (by simp;omega)
   have e1:(pre++xs.take k).length=pre.length+k*1:=by simp;omega
   rw[e1,e2]at this;exact this
section
variable {P : Program} {T0 : BO}
end
end Go.Eng
