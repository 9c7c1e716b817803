/- Texts of this claim, one behind the other. -/
import Derived.Test.YtkgibdhpijdbfaaGreatDoorZ9
import Derived.Test.YtkgibdhpijdbfaaGreatDoorZ6
import Derived.Test.YtkgibdhpijdbfaaGreatDoorZ11
import Derived.Test.YtkgibdhpijdbfaaGreatDoorZ5
import Derived.Test.YtkgibdhpijdbfaaGreatDoorZ10
import Derived.Test.YtkgibdhpijdbfaaGreatDoorZ13
set_option linter.unusedVariables false
set_option linter.unusedSimpArgs false
set_option maxHeartbeats 16000000
namespace Go.Proofs.YtkgibdhpijdbfaaGreatDoor
open Go Go.Eng Go.Proofs
def GB(out:List AE)(x:AF):List AE:=if out.getLast?=some x.k then out else out++[x.k]
def Cb(l:List AF):List AE:=l.foldl GB []
theorem uG{out:List AE}{x:AF}{k:AE}(h:k∈out):k∈GB out x:=by
 unfold GB;split
 ·exact h
 ·exact Eg _ h
theorem uI(out:List AE)(x:AF):x.k∈GB out x:=by
 unfold GB;split
 ·rename_i h;exact K7 h
 ·simp
theorem Va: ∀(l:List AF){out:List AE}{k:AE},k∈out→k∈l.foldl GB out
 |[],_,_,h=>h
 |_::l,_,_,h=>Va l (uG h)
theorem Vb: ∀(l:List AF){out:List AE}{x:AF},x∈l→x.k∈l.foldl GB out
 |y::l,out,x,h=>by
  rw[HI];rcases As.1 h with rfl|h
  ·exact Va l (uI _ _)
  ·exact Vb l h
theorem uC{l:List AF}{x:AF}(h:x∈l):x.k∈Cb l:=Vb l h
theorem uD(l:List AF)(x:AF):Cb (l++[x])=GB (Cb l) x:=by simp[Cb]
theorem uH(out:List AE)(x:AF):(GB out x).length≤out.length+1:=by unfold GB;split<;>simp
theorem Oi(l:List AF):(Cb l).length≤l.length:=by
 have: ∀(l:List AF)(out:List AE),(l.foldl GB out).length≤out.length+l.length:=by
  intro l
  induction l with
  |nil=>intro out;simp
  |cons x l ih=>intro out;rw[HI];have:=ih (GB out x);have:=uH out x;simp only[Ah];omega
 have:=this l [];simpa[Cb]using this
theorem uE(l:List AF): ∀k∈Cb l,∃x∈l,x.k=k:=by
 have: ∀(l:List AF)(out:List AE),∀k∈l.foldl GB out,k∈out∨ ∃x∈l,x.k=k:=by
  intro l
  induction l with
  |nil=>intro out k h;exact .inl h
  |cons x l ih=>
   intro out k h;rw[HI]at h;rcases ih _ k h with h|⟨y,hy,h⟩
   ·unfold GB at h
    split at h
    ·exact .inl h
    ·rcases Bk.1 h with h|h
     ·exact .inl h
     ·simp at h;exact .inr ⟨x,CM,h.symm⟩
   ·exact .inr ⟨y,CH _ hy,h⟩
 intro k h;rcases this l [] k h with h|h
 ·cases h
 ·exact h
def K2(s:AE×Nat)(c:List AF):AE×Nat:=(s.1++(Bd (CF [] c)++Ak s.2),s.2+8+(E7 c).length)
def DZ(cs:List (List AF))(n:Nat):AE×Nat:=cs.foldl K2 (Ak n,0)
theorem OT(cs:List (List AF))(c:List AF)(n:Nat):DZ (cs++[c]) n=K2 (DZ cs n) c:=by simp[DZ]
def J5(l:List AF):AE×Nat:=DZ (AR 8 l) (AR 8 l).length
def My:AE:=[84,82,77,49]
def EB(l:List AF):List AE:=(AR 8 l).map E7++[(J5 l).1,Dt (Cb l),My++(Ak (J5 l).2++Ak l.length)]
/-! ## Lengths-/
theorem DI{n:Nat}(h:n<18446744073709551616):(Ak n).length≤10:=RV 9 n (Nat.lt_of_lt_of_le h AC)
theorem zO{z:Int}(h: -9223372036854775808≤z∧z≤9223372036854775807):Eb z<18446744073709551616:=by unfold Eb;split<;>omega
theorem lN(last:AE)(x:AF)(hs: -9223372036854775808≤x.s∧x.s≤9223372036854775807)(hz:CR x<1099511627776):(GU last x).length≤CR x+50:=by
 have h1:=NL last x.k;have hz':=hz;unfold CR at hz'⊢;have h2:=DI (n:=Di last x.k) AA;have h3:=DI (n:=(x.k.drop (Di last x.k)).length) (by rw[D3];omega);have h4:=DI (zO hs);have h5:=DI (n:=x.v.length) AA;have h6:=DI (n:=0) AA;have h7:=DI (n:=1) AA;unfold GU Bd Bg
 split
 ·simp only[AP,D3]at h3⊢;omega
 ·simp only[AP,D3]at h3⊢;omega
theorem SB(x:AF)(l:List AF):An (x::l)=CR x+An l:=by simp[An]
theorem Uj: ∀(l:List AF)(last:AE),Hc l→An l<1099511627776→(Dv last l).length≤An l+50*l.length
 |[],_,_,_=>by simp[Dv]
 |x::l,last,hs,hz=>by
  rw[SB]at hz⊢;have h1:=lN last x (hs x CM) AA;have h2:=Uj l x.k (λy hy=>hs y (CH _ hy)) AA;simp only[Dv,AP,Ah];omega
theorem P8{l:List AF}(hs:Hc l)(hz:An l<1099511627776)(hl:l.length<1099511627776):(E7 l).length≤An l+50*l.length+10:=by
 have h1:=Uj l [] hs hz;have h2:=DI (n:=l.length) AA;unfold E7;simp only[AP];omega
theorem sZ(c:List AF):(CF [] c).length≤An c:=by
 unfold CF
 split
 ·simp
 ·rename_i x h;have:=Lj (K7 h);unfold CR at this;omega
theorem Q5: ∀(cs:List (List AF))(n:Nat),n<1099511627776→Hc cs.flatten→An cs.flatten+60*cs.flatten.length+60*cs.length<1099511627776→
  (DZ cs n).1.length≤10+20*cs.length+An cs.flatten∧(DZ cs n).2≤An cs.flatten+50*cs.flatten.length+18*cs.length:=by
 intro cs n hn;have key: ∀(r:Nat)(cs:List (List AF)),cs.length=r→Hc cs.flatten→An cs.flatten+60*cs.flatten.length+60*cs.length<1099511627776→
  (DZ cs n).1.length≤10+20*cs.length+An cs.flatten∧(DZ cs n).2≤An cs.flatten+50*cs.flatten.length+18*cs.length:=by
  intro r
  induction r with
  |zero=>
   intro cs h0 _ _;have:=It h0;subst this;have:=DI (n:=n) AA;simp[DZ];omega
  |succ r ih=>
   intro cs hr hs hz;rcases J8 cs with rfl|⟨ds,c,rfl⟩
   ·simp at hr
   ·rw[List.concat_eq_append]at*;rw[kC,List.flatten_singleton]at hs hz⊢;rw[G9,AP,AP,D4]at hz;have h1:=ih ds (by simpa using hr) (λx hx=>hs x (Eg _ hx)) AA;have h2:=P8 (l:=c) (λx hx=>hs x (FN _ hx)) AA AA;have h3:=sZ c;have h4:=DI (n:=(CF [] c).length) AA;have h5:=DI (n:=(DZ ds n).2) AA;rw[OT,G9,AP,AP,D4];unfold K2 Bd;simp only[AP];omega
 exact key cs.length cs rfl
theorem Yb{l:List AF}(hl:l.length≤64)(hs:Hc l)(hz: ∀x∈l,CR x≤4096): ∀p∈EB l,p.length≤65536:=by
 have hsum: ∀m:List AF,(∀x∈m,CR x≤4096)→An m≤4096*m.length:=by
  intro m
  induction m with
  |nil=>intro _;simp[An]
  |cons x m ih=>intro h;rw[SB,Ah];have:=h x CM;have:=ih λy hy=>h y (CH _ hy);omega
 have hfl:=KM (show 0<8 by omega) l;have hpl:=Jj 8 l;have hszl:=hsum l hz;have hi:=Q5 (AR 8 l) (AR 8 l).length AA (by rw[hfl];exact hs) (by rw[hfl];omega);rw[hfl]at hi;have hsl:(DZ (AR 8 l) (AR 8 l).length).1.length≤65536:=by
  --the last keys of eight AR
  have: ∀(cs:List (List AF))(n:Nat),n<1099511627776→(∀c∈cs,∀x∈c,CR x≤4096)→(∀d,d<+:cs→(DZ d n).2<18446744073709551616)→(DZ cs n).1.length≤10+4116*cs.length:=by
   intro cs n hn;have key: ∀(r:Nat)(cs:List (List AF)),cs.length=r→(∀c∈cs,∀x∈c,CR x≤4096)→(∀d,d<+:cs→(DZ d n).2<18446744073709551616)→(DZ cs n).1.length≤10+4116*cs.length:=by
    intro r
    induction r with
    |zero=>
     intro cs h0 _ _;have:=It h0;subst this;have:=DI (n:=n) AA;simpa[DZ]using this
    |succ r ih=>
     intro cs hr hs hd;rcases J8 cs with rfl|⟨ds,c,rfl⟩
     ·simp at hr
     ·rw[List.concat_eq_append]at*;have h1:=ih ds (by simpa using hr) (λc hc=>hs c (Eg _ hc)) (λd h=>hd d (h.trans (List.prefix_append _ _)));have h2:=hd ds (List.prefix_append _ _);have h3:(CF [] c).length≤4096:=by
       unfold CF
       split
       ·simp
       ·rename_i x h;have:=hs c AB x (K7 h);unfold CR at this;omega
      have h4:=DI (n:=(CF [] c).length) AA;have h5:=DI h2;rw[OT,AP,D4];unfold K2 Bd;simp only[AP];omega
   exact key cs.length cs rfl
  have h8:=this (AR 8 l) (AR 8 l).length AA (λc hc x hx=>hz x (by
   obtain⟨_,_,a,b,e⟩:=KN (show 0<8 by omega) hc;rw[e];simp[hx])) (λd hd=>by
    obtain⟨e,he⟩:=hd;have hdl:d.flatten.length≤l.length∧An d.flatten≤An l∧d.length≤(AR 8 l).length:=by
     have h1:l=d.flatten++e.flatten:=by rw[←kC,he,hfl]
     have h2:=congrArg List.length h1;have h3:=congrArg An h1;rw[G9]at h3;rw[AP]at h2;have h4:=congrArg List.length he;rw[AP]at h4;omega
    have:=(Q5 d (AR 8 l).length AA (λx hx=>hs x (by
     rw[←hfl,←he,kC];exact Eg _ hx)) AA).2
    omega)
  omega
 intro p hp;unfold EB at hp;rcases Bk.1 hp with hp|hp
 ·obtain⟨c,hc,rfl⟩:=BU.1 hp;obtain⟨_,h2,a,b,e⟩:=KN (show 0<8 by omega) hc;have hcz: ∀x∈c,CR x≤4096:=λx hx=>hz x (by rw[e];simp[hx]);have h3:=hsum c hcz;have h4:=P8 (l:=c) (λx hx=>hs x (by rw[e];simp[hx])) AA AA;omega
 ·simp only[As,List.not_mem_nil,or_false]at hp;rcases hp with rfl|rfl|rfl
  ·exact hsl
  ·cases hk:Cb l with
   |nil=>simp[Dt]
   |cons k ks=>
    have h1:=Oi l;have e:Dt (k::ks)=(Gh (k::ks)).map UInt8.ofNat:=rfl;rw[e,BZ,P9,←hk];omega
  ·have h1:=hi.2;have h2:=DI (n:=(J5 l).2) (by unfold J5;omega);have h3:=DI (n:=l.length) AA;simp only[AP];show 4+_≤_;omega
theorem Yr{e:TypeId}{sz:Nat}{a:Option Addr}{n cap:Nat}{xs:List Value}{L H:AH}{F:AH→AH}(hv:AT e sz a n cap xs L) [Chunk H L F]{w0:World}{T:List Nat}{g off:Nat}(ha:a=some ⟨g,off,none⟩){j i:Nat}{v:Value}(hx:xs[j]?=some v)(hi:i=off+j){K:Value→Prop}(hk:K v):
  FG (λw'=>St w0 T H w') ⟨g,i,none⟩ K:=⟨⟨v,λw' h=>by
   obtain⟨b,o,h1,h2,h3⟩:=(hv.arr h (T':=[]) AB) j v hx;rw[ha]at h1;simp only[Option.some.injEq,Addr.mk.injEq,and_true]at h1;obtain⟨rfl,rfl⟩:=h1;rw[hi];exact h3,hk⟩⟩
inductive Fy(b:Nat)(l:List AF)(adds:Nat):AH→Prop where
 |mk (ns:List Ar) (hl:ns.map (·.e)=l) (hh: ∀x∈ns,1≤x.h∧x.h≤8) (ha:Option Addr) (hn hc:Nat) (hts:List Int) (Lh:AH) (hv:AT BX 1 ha hn hc (hts.map AY) Lh) (hr: ∀z∈hts,1≤z∧z≤8)
   (turn:Nat) (ht:turn≤adds):Fy b l adds ((b,.cells ⟨memC ns.length (An l) ns ha hn hc turn⟩ ES (0,0))::(EH ns++Lh))
theorem yR(h:Int):1≤1+IntKind.i64.wrap ((IntKind.u64.wrap h).tmod 8)∧1+IntKind.i64.wrap ((IntKind.u64.wrap h).tmod 8)≤8:=by
 obtain⟨m,h1,h2⟩: ∃m:Nat,IntKind.u64.wrap h=(m:Int)∧m<2 ^ 64:=by
  unfold IntKind.wrap;simp only[IntKind.signed,IntKind.bits];exact⟨(h % 2 ^ 64).toNat,by simp;omega,AA⟩
 have e:(m:Int).tmod 8=((m % 8:Nat):Int):=(Int.ofNat_tmod m 8).symm;have h3:IntKind.i64.wrap ((m % 8:Nat):Int)=((m % 8:Nat):Int):=IntWalk.i64_in _ AA;rw[h1,e,h3];omega
theorem S5{w:World}{a:Option Addr}{cap:Nat}{hs:List Int}(hA:Arr w [] a (hs.map AY))(hl:hs.length≤1099511627776):
  Cl Tryz.prog nI [.slice a hs.length cap] w λv w'=>∃b L,v=ptr b∧Fy b [] 0 L∧St w [] L w':=by
 have hS:=St.start w;refine fJ rfl ?_;refine jq ⟨?_⟩;refine hS.al ?_;intro b w1 _ hS;refine jq ⟨?_⟩;refine AM.loop (λk:Nat=>[(3,ptr b),(8,.slice a hs.length cap),(9,.int .i64 hs.length),(10,.int .i64 k)])
  (λk w'=>k≤hs.length∧ ∃ha hc hts Lh,AT BX 1 ha k hc (hts.map AY) Lh∧(∀z∈hts,1≤z∧z≤8)∧St w [] ((b,.cells ⟨memC 0 0 [] ha k hc 0⟩ ES (0,0))::Lh) w') (λk=>hs.length-k) 0
  ⟨rfl,rfl,rfl,rfl,trivial⟩ ⟨Ag _,none,0,[],[],AT.nil,AB,hS⟩ ?_
 clear hS;rintro k w2⟨hk,ha,hc,hts,Lh,hv,hr,hS⟩;by_cases hkl:k<hs.length
 ·have hx:(hs.map AY)[k]?=some (AY hs[k]):=by simp[hkl]
  obtain⟨g,off,rfl, -, -⟩:=hA.get (j:=k) (by simpa using hkl);refine jq ⟨?_⟩;refine Arr.ldc (j:=k) hS hA hx AA ?_;unfold memC Dz at hS;(repeat(refine jt ⟨?_⟩;refine hS.q ?_;intro _ hS));refine jt ⟨?_⟩;refine CG.wr ?_;have htw:=yR hs[k];generalize IntKind.i64.wrap ((IntKind.u64.wrap hs[k]).tmod 8)=z at htw⊢;refine jq ⟨?_⟩;refine hS.al ?_;intro r w3 _ hS;refine jq ⟨?_⟩;refine St.app (sz:=1) (m:=1) AK rfl rfl rfl rfl hS hv (news:=[AY (1+z)]) rfl (by have:=hS.arr (b:=r) (T':=[]) AB;exact this) rfl (by show(_+_)*8≤_;omega) AA ?_
  intro a2 c2 L2 w4 hv2 hS;have hS:=hS.sub (AS _ _);(repeat(refine jt ⟨?_⟩;refine hS.q ?_;intro _ hS));refine jt ⟨?_⟩;refine⟨k+1,⟨rfl,rfl,rfl,rfl,trivial⟩,⟨AA,a2,c2,hts++[1+z],L2,by rw[A7];exact hv2,?_,hS⟩,AA⟩;intro y hy;rcases Bk.1 hy with hy|hy
  ·exact hr y hy
  ·simp at hy;omega
 ·refine jq ⟨?_⟩;obtain rfl:k=hs.length:=AA;refine jq ⟨?_⟩;exact⟨b,_,rfl,Fy.mk [] rfl AB ha _ hc hts Lh hv hr 0 (AW _),hS⟩
theorem S4{w:World}{b adds:Nat}{l:List AF}{L:AH}(hM:Fy b l adds L)(hh:Holds L w):Cl Tryz.prog nR [ptr b] w λv w'=>v= .int .i64 l.length∧St w (keys L) L w':=by
 have hS:=St.enter hh;obtain⟨ns,hl,hhs,ha,hn,hc,hts,Lh,hv,hr,turn,ht⟩:=hM;refine fS rfl ?_;unfold memC Dz at hS⊢;(repeat(refine jt ⟨?_⟩;refine hS.q ?_;intro _ hS));refine jt ⟨?_⟩;exact⟨by rw[←hl,BZ],hS⟩
theorem sA{w:World}{b n adds:Nat}{bytes:Int}{ns:List Ar}{ha:Option Addr}{hn hc:Nat}{hts:List Int}{Lh:AH}(hv:AT BX 1 ha hn hc (hts.map AY) Lh)(hr: ∀z∈hts,1≤z∧z≤8){turn:Nat}(ht:turn≤adds)(hb:adds≤4611686018427387904)
  (hh:Holds ((b,.cells ⟨memC n bytes ns ha hn hc turn⟩ ES (0,0))::Lh) w):
  Cl Tryz.prog nP [ptr b] w λv w'=>∃(h turn':Nat),v= .int .i64 h∧1≤h∧h≤8∧turn'≤adds+1∧St w (b::keys Lh) ((b,.cells ⟨memC n bytes ns ha hn hc turn'⟩ ES (0,0))::Lh) w':=by
 have hS:=St.enter hh;have hlen:=hv.len;refine fQ rfl ?_;unfold memC Dz at hS⊢;by_cases h0:hn=0
 ·subst h0;(repeat(refine jt ⟨?_⟩;refine hS.q ?_;intro _ hS));refine jt ⟨?_⟩;exact⟨1,turn,rfl,AA,AA,AA,hS⟩
 ·(repeat(refine jt ⟨?_⟩;refine hS.q ?_;intro _ hS));refine jt ⟨?_⟩;have hlt:turn % hn<hts.length:=by
   have:=FO turn (show 0<hn by omega);rw[BZ]at hlen;omega
  have hx:(hts.map AY)[turn % hn]?=some (AY hts[turn % hn]):=by simp[hlt]
  obtain⟨g,off,rfl, -, -⟩:=(hv.arr hS (T':=[]) AB).get (j:=turn % hn) (by simpa using hlt);refine AM.draw AK mixed (λw'=>St w _ _ w') [] [0,1,2,3,4,5,6,7,8,9,10,11,12,13,14,15,16] AD hS.drew ?_;have hS:=hS.drew;refine jr ⟨?_⟩;rw[show((turn:Int)).tmod (hn:Int)=((turn % hn:Nat):Int)from(Int.ofNat_tmod turn hn).symm];have hmod:=FO turn (show 0<hn by omega);generalize turn % hn=q at hlt hx hmod⊢;have hz:=hr hts[q] (CW hlt)
  refine jr ⟨?_⟩;refine Yr hv rfl (j:=q) hx AA ?_;unfold AY;generalize hts[q]=z at hz;obtain⟨h,rfl⟩: ∃h:Nat,z=(h:Int):=⟨z.toNat,AA⟩;refine jr ⟨?_⟩;(repeat(refine jt ⟨?_⟩;refine hS.q ?_;intro _ hS));refine jt ⟨?_⟩;exact⟨h,turn+1,rfl,AA,AA,AA,hS⟩
theorem Wi{w:World}{b:Nat}{A R:List Ar}{H:AH}(hM:Fe b (A++R) H)(hh:Holds H w)(hlen:(A++R).length≤1099511627776)(hh1: ∀x∈R,1≤x.h):
  Cl Tryz.prog nS [Bt 0 R] w λv w'=>∃a cap L,v= .slice a R.length cap∧AT Ap 4 a R.length cap (R.flatMap λx=>AU x.e) L∧St w [] L w':=by
 have hS:=St.start w;have hE:=St.enter hh;have hnx: ∀{x:Ar}{r:List Ar},1≤x.h→Bt 0 (x::r)=ptr x.b:=λh=>by show(if _ then _ else _)=_;rw[if_pos AA]
 refine fT rfl ?_;refine jq ⟨?_⟩;refine AM.loop (λ(i:List Ar×List Ar×Option Addr×Nat)=>[(0,Bt 0 i.2.1),(3,.slice i.2.2.1 i.1.length i.2.2.2)])
  (λi w'=>i.1++i.2.1=R∧ ∃L,AT Ap 4 i.2.2.1 i.1.length i.2.2.2 (i.1.flatMap λx=>AU x.e) L∧St w [] L w') (λi=>i.2.1.length) ([],R,none,0)
  ⟨rfl,rfl,trivial⟩ ⟨rfl,[],AT.nil,hS⟩ ?_
 clear hS;rintro⟨P,Q,a,cap⟩w1⟨hPQ,L,hv,hS⟩;simp only at hPQ hv hS⊢;cases Q with
 |nil=>
  rw[BT]at hPQ;subst hPQ;refine jq ⟨?_⟩;exact⟨a,cap,L,rfl,hv,hS⟩
 |cons z Q=>
  have hz:1≤z.h:=hh1 z (by rw[←hPQ];simp);rw[hnx hz];have hM':Fe b ((A++P)++z::Q) H:=by rw[Aj,hPQ];exact hM
  have hent: ∀(j:Nat)(v:Value),(AU z.e)[j]?=some v→w1.cell? ⟨z.b,j,none⟩=some v:=λj v hj=>hS.oldCell AB (hM'.ent hE j v hj);refine jq ⟨?_⟩;refine IP (cs:=[AG z.e.k,.int .i64 z.e.s,.bool z.e.d,AG z.e.v]) rfl (λj v hj=>by rw[DR];exact hent j v hj) ?_;have hlP:P.length+(z::Q).length=R.length:=by rw[←hPQ];simp
  rw[AP]at hlen;simp only[Ah]at hlP;refine jq ⟨?_⟩;refine hS.al ?_;intro r w2 _ hS;refine jq ⟨?_⟩;refine St.app (sz:=4) (m:=1) AK rfl rfl rfl rfl hS hv (news:=AU z.e) rfl (by have:=hS.arr (b:=r) (T':=[]) AB;exact this) rfl (by show(_+_)*48≤_;omega) AA ?_;intro a2 c2 L2 w3 hv2 hS;have hS:=hS.sub (AS _ _);have hnext:w3.cell? ⟨z.b,0+(4+0),none⟩=some (Bt 0 Q):=by
   have hp:Ff b ((A++P)++[z]) 0 z.b 0:=⟨.inr ⟨A++P,z,rfl,rfl,rfl,AA⟩⟩;have hM2:Fe b (((A++P)++[z])++Q) H:=by rw[show((A++P)++[z])++Q=(A++P)++z::Q by simp];exact hM'
   exact hS.oldCell AB (hM2.next hE AA hp)
  refine jq ⟨?_⟩;refine K9 hnext ?_;refine jq ⟨?_⟩;exact⟨(P++[z],Q,a2,c2),⟨rfl,by rw[AP];rfl,trivial⟩,⟨by rw[←hPQ];simp,L2,by
   rw[Hn,AP];exact hv2,hS⟩,AB⟩
theorem Wh{w:World}{b:Nat}{A B:List Ar}{L:AH}(hM:Fe b (A++B) L)(hh:Holds L w)(x:AF)(hA: ∀y∈A,CK y.e x=true)(hB: ∀y∈B,CK y.e x=false)(h1: ∀y∈A++B,1≤y.h):
  Cl Tryz.prog nO [ptr b,B9 x] w λv w'=>v=Bt 0 B∧St w (keys L) L w':=by
 have hS:=St.enter hh;generalize hT:keys L=T0 at hS⊢;have hspec:=λ{w:World}(hh:Holds L w)=>Td hM hh x hA hB;unfold B9 AU at hspec⊢;refine fP rfl ?_;refine jq ⟨?_⟩;refine hS.al ?_;intro b3 w1 _ hS;(repeat(refine jt ⟨?_⟩;refine hS.q ?_;intro _ hS));refine jt ⟨?_⟩;refine(hspec (hS.part (L:=L))).mono ?_;rintro _ w2⟨rfl,hS'⟩;have hS:=hS.call (L:=L) hS';have hpos: ∃g off,Ff b A 0 g off:=by
  rcases J8 A with rfl|⟨A0,y,rfl⟩
  ·exact⟨b,2,Ff.head b 0⟩
  ·exact⟨y.b,0,⟨.inr ⟨A0,y,AB,rfl,rfl,by have:=h1 y AB;omega⟩⟩⟩
 obtain⟨g,off,hp⟩:=hpos;have hM2:Fe b (A++B) ((b3,.cells ⟨[AG x.k,.int .i64 x.s,.bool x.d,AG x.v]⟩ Ap (0,0))::L):=⟨by
  obtain⟨n,bytes,ha,hn,hc,turn,hm⟩:=hM.tab;exact⟨n,bytes,ha,hn,hc,turn,CH _ hm⟩,λp hp=>CH _ (hM.nodes p hp)⟩
 have hcell:=hM2.next hS (l:=0) AA hp;refine Q6 AK rfl rfl rfl rfl (cs:=D8 b 0 A) (j:=0) AC (v:=lastP (F7 b) 0 A) rfl ?_;rw[hp.lastP];refine jq ⟨?_⟩;refine K9 hcell ?_;refine jq ⟨?_⟩;exact⟨rfl,hS.sub (AS _ _)⟩
theorem N3(k:AE)(t:Int): ∀(ns:List Ar),∃A B,ns=A++B∧A.map (·.e)=CY k t (ns.map (·.e))∧B.map (·.e)=Bp k t (ns.map (·.e))
 |[]=>⟨[],[],rfl,rfl,rfl⟩
 |x::ns=>by
  obtain⟨A,B,h1,h2,h3⟩:=N3 k t ns;by_cases h:EV x.e k t=true
  ·refine⟨x::A,B,by rw[h1];rfl,?_,?_⟩
   ·simp only[A4,CY,h,if_true,h2]
   ·simp only[A4,Bp,h,if_true,h3]
  ·refine⟨[],x::ns,rfl,?_,?_⟩
   ·simp only[A4,CY,h,GV,if_false,Bool.false_eq_true]
   ·simp only[A4,Bp,h,if_false,Bool.false_eq_true]
theorem QJ{k:AE}{t:Int}{l:List AF}{A:List Ar}(h:A.map (·.e)=CY k t l)(x:AF)(hk:x.k=k)(ht:x.s=t): ∀y∈A,CK y.e x=true:=λy hy=>by
 unfold CK;rw[hk,ht];exact NS k t l y.e (by rw[←h];exact CC hy)
theorem QK{k:AE}{t:Int}{l:List AF}(hr:Az l){B:List Ar}(h:B.map (·.e)=Bp k t l)(x:AF)(hk:x.k=k)(ht:x.s=t): ∀y∈B,CK y.e x=false:=λy hy=>by
 unfold CK;rw[hk,ht];exact Ky hr y.e (by rw[←h];exact CC hy)
theorem Fy.in{b adds:Nat}{l:List AF}{L:AH}(h:Fy b l adds L): ∃ns:List Ar,ns.map (·.e)=l∧(∀x∈ns,1≤x.h)∧Fe b ns L:=by
 obtain⟨ns,hl,hhs,ha,hn,hc,hts,Lh,hv,hr,turn,ht⟩:=h;exact⟨ns,hl,λx hx=>(hhs x hx).1,⟨_,_,_,_,_,_,CM⟩,λp hp=>CH _ (Eg _ hp)⟩
theorem Ul(ns:List Ar):(ns.flatMap λx=>AU x.e)=(ns.map (·.e)).flatMap AU:=by rw[List.flatMap_map]
theorem Zh{w:World}{b adds:Nat}{l:List AF}{L:AH}(hM:Fy b l adds L)(hh:Holds L w)(hl:l.length≤1099511627776):
  Cl Tryz.prog nK [ptr b] w λv w'=>∃a cap L2,v= .slice a l.length cap∧AT Ap 4 a l.length cap (l.flatMap AU) L2∧St w [] L2 w':=by
 have hS:=St.enter hh;obtain⟨ns,hns,h1,hin⟩:=hM.in;have hcell:=Fe.next (A:=[]) (R:=ns) hin hS (l:=0) AA (Ff.head b 0);have hls:=λ{w:World}(hh:Holds L w)=>Wi (A:=[]) (R:=ns) hin hh (by rw[Ca,←BZ (f:=(·.e)),hns];exact hl) h1;have hlen:ns.length=l.length:=by rw[←hns,BZ]
 rw[Ul,hns,hlen]at hls;refine fL rfl ?_;refine jq ⟨?_⟩;refine K9 hcell ?_;refine jq ⟨?_⟩;refine(hls hh).mono ?_;rintro _ w1⟨a,cap,L2,rfl,hv,hS2⟩;refine jq ⟨?_⟩;exact⟨a,cap,L2,rfl,hv,hS2⟩
theorem Zi{w:World}{b adds:Nat}{l:List AF}{L:AH}(hM:Fy b l adds L)(hh:Holds L w)(hr:Az l)(hl:l.length≤1099511627776)(k:AE):
  Cl Tryz.prog nL [ptr b,AG k] w λv w'=>∃a cap L2,v= .slice a (Bp k 9223372036854775807 l).length cap∧AT Ap 4 a (Bp k 9223372036854775807 l).length cap ((Bp k 9223372036854775807 l).flatMap AU) L2∧St w (keys L) (L2++L) w':=by
 obtain⟨ns,hns,h1,hin⟩:=hM.in;obtain⟨A,B,hab,hA,hB⟩:=N3 k 9223372036854775807 ns;rw[hns]at hA hB;rw[hab]at hin h1;have hlA:(A++B).length≤1099511627776:=by rw[←hab,←BZ (f:=(·.e)),hns];exact hl
 have hls:=λ{w:World}(hh:Holds L w)=>Wi (A:=A) (R:=B) hin hh hlA (λx hx=>h1 x (FN _ hx));have hlen:B.length=(Bp k 9223372036854775807 l).length:=by rw[←hB,BZ]
 rw[Ul,hB,hlen]at hls;have hfr:=Wh hin hh ⟨k,9223372036854775807,false,[]⟩ (QJ hA _ rfl rfl) (QK hr hB _ rfl rfl) h1;unfold B9 AU at hfr;refine fM rfl ?_;refine jq ⟨?_⟩;refine hfr.mono ?_;rintro _ w1⟨rfl,hS⟩;refine jq ⟨?_⟩;refine(hls hS.holds).mono ?_;rintro _ w2⟨a,cap,L2,rfl,hv,hS2⟩;have hS:=hS.callNew hS2;refine jq ⟨?_⟩;exact⟨a,cap,L2,rfl,hv,hS⟩
def QU(o:Option AF):Value:= .tuple ⟨[B9 (o.getD ⟨[],0,false,[]⟩),.bool o.isSome]⟩
theorem Zj{w:World}{b adds:Nat}{l:List AF}{L:AH}(hM:Fy b l adds L)(hh:Holds L w)(hr:Az l)(k:AE)(t:Int):
  Cl Tryz.prog nM [ptr b,AG k,.int .i64 t] w λv w'=>v=QU (DE l k t)∧St w (keys L) L w':=by
 obtain⟨ns,hns,h1,hin⟩:=hM.in;obtain⟨A,B,hab,hA,hB⟩:=N3 k t ns;rw[hns]at hA hB;rw[hab]at hin h1;have hfr:=λ{w:World}(hh:Holds L w)=>Wh hin hh ⟨k,t,false,[]⟩ (QJ hA _ rfl rfl) (QK hr hB _ rfl rfl) h1;unfold B9 AU at hfr;have hS:=St.enter hh;generalize hT:keys L=T0 at hS⊢;unfold DE;rw[←hB];refine fN rfl ?_;refine jq ⟨?_⟩;refine hS.al ?_;intro b6 w1 _ hS;refine jq ⟨?_⟩;refine(hfr (hS.part (L:=L))).mono ?_
 rintro _ w2⟨rfl,hS'⟩;have hS:=hS.call (L:=L) hS';cases B with
 |nil=>
  (repeat(refine jt ⟨?_⟩;refine hS.q ?_;intro _ hS));refine jt ⟨?_⟩;exact⟨rfl,hS.sub (AS _ _)⟩
 |cons z B=>
  have hnx:Bt 0 (z::B)=ptr z.b:=by show(if _ then _ else _)=_;rw[if_pos (by have:=h1 z AB;omega)]
  rw[hnx];have hent: ∀(j:Nat)(v:Value),(AU z.e)[j]?=some v→w2.cell? ⟨z.b,j,none⟩=some v:=λj v hj=>by
   have hin2:Fe b (A++z::B) ((b6,.cells ⟨[AG [],.int .i64 0,.bool false,AG []]⟩ Ap (0,0))::L):=⟨by
    obtain⟨n,bytes,ha,hn,hc,turn,hm⟩:=hin.tab;exact⟨n,bytes,ha,hn,hc,turn,CH _ hm⟩,λp hp=>CH _ (hin.nodes p hp)⟩
   exact hin2.ent hS j v hj
  simp only[A4];refine jq ⟨?_⟩;refine K9 (v:=AG z.e.k) (hent 0 _ rfl) ?_;refine jq ⟨?_⟩;by_cases hk:z.e.k=k
  ·rw[if_pos hk];refine jq ⟨?_⟩;refine IP (cs:=[AG z.e.k,.int .i64 z.e.s,.bool z.e.d,AG z.e.v]) rfl (λj v hj=>by rw[DR];exact hent j v hj) ?_;(repeat(refine jt ⟨?_⟩;refine hS.q ?_;intro _ hS));refine jt ⟨?_⟩;exact⟨rfl,hS.sub (AS _ _)⟩
  ·rw[if_neg hk];(repeat(refine jt ⟨?_⟩;refine hS.q ?_;intro _ hS));refine jt ⟨?_⟩;exact⟨rfl,hS.sub (AS _ _)⟩
end Go.Proofs.YtkgibdhpijdbfaaGreatDoor
namespace Go.Eng
open Go
section
variable {P : Program} {T0 : BL}
theorem St.appZ(hT:BR P T0){t u e ty:TypeId}{sz:Nat}{i ie:TI}{k0 k1:IntKind}(hi:tf T0 t=some i)(hk:i.k= .slice e sz)(hie:tf T0 e=some ie)(hz:ie.zero.cells.size=sz)(hu:P.underlying u=some (.int k0)){w0 w:World}{T:List Nat}{H:AH}(hS:St w0 T H w)
  {m:Nat}(hm:0<m)(hlen:m*ie.bytes≤140737488355328)(hm2:m≤9223372036854775807){K:Value→World→Prop}
  (h: ∀g cap' L' w',AT e sz (some ⟨g,0,none⟩) 0 cap' [] L'→m≤cap'→St w0 T (L'++H) w'→K (.slice (some ⟨g,0,none⟩) m cap') w'):
  Bm P (Builtin.append_ ⟨[t,u]⟩ ty ⟨[.slice none 0 0,.int k1 (m:Int)]⟩) w K:=by
 have ht:=CZ hT hi;rw[hk]at ht;obtain⟨ht,hes⟩:=ht;obtain⟨inf,hinf,hzz,hs1,hby⟩:=OU hT hie;have hsz:inf.size=sz:=by rw[hinf]at hes;simpa using hes
 have hw:IntKind.i64.wrap (m:Int)=(m:Int):=IntWalk.i64_in _ AA;have h2: ¬((m:Int)<0):=AA;have h3: ¬(9223372036854775807<(m:Int)):=AA;have h4: ¬(281474976710656<Builtin.nextslicecap m 0*inf.bytes):=by rw[nextslicecap_zero AA,hby];omega
 have h5: ¬(281474976710656<(m:Int)*(inf.bytes:Int)):=by
  rw[hby];have:((m*ie.bytes:Nat):Int)≤((140737488355328:Nat):Int):=Int.ofNat_le.2 hlen;rw[Int.natCast_mul]at this;omega
 have hge:=grownCap_ge w m 0 e;have hlz:([]:List Value).length+((Builtin.zeroCells ie.zero.cells m).toList++(Builtin.zeroCells ie.zero.cells (grownCap w m 0 e-m)).toList).length=grownCap w m 0 e*sz:=by
  rw[AP,PR,PR,hz,←HM,Bv,DR];congr 1;omega
 have hS2:St w0 T ([(w.heap.size,Obj.cells ⟨[]++((Builtin.zeroCells ie.zero.cells m).toList++(Builtin.zeroCells ie.zero.cells (grownCap w m 0 e-m)).toList)⟩ e (0,0))]++H) (w.drew.alloc (.cells ⟨[]++((Builtin.zeroCells ie.zero.cells m).toList++(Builtin.zeroCells ie.zero.cells (grownCap w m 0 e-m)).toList)⟩ e (0,0))):=(hS.drew).alloc _;refine Bm.of (v:= .slice (some ⟨w.heap.size,0,none⟩) m (grownCap w m 0 e)) ?_ (h _ _ _ _ (AT.row w.heap.size 0 _ [] _ AB hlz (Ag _)) hge hS2)
 have hm0:m≠0:=AA;simp[Builtin.append_,run_underlying ht,run_underlying hu,sizeOf,typeInfo,zeroValue,hinf,hzz,hsz,asInt,asIntOf,hw,h2,h3,h4,h5,hm0,Question.forced,run_firstCells_none,newRow,grownCap];by_cases h0:m*sz=0
 ·have e0:(Builtin.zeroCells ie.zero.cells m).toList=[]:=It (by rw[PR,hz];exact h0);rw[if_pos h0,e0];simp
 ·rw[if_neg h0]
  congr 3
  apply Array.ext';simp
end
end Go.Eng
namespace Go.Proofs.YtkgibdhpijdbfaaGreatDoor
open Go Go.Eng Go.Proofs Go.Srt
inductive ED(w:World):List Value→List (List AF)→Prop where
 |nil:ED w [] []
 |cons {a:Option Addr} {c:Nat} {l:List AF} {xs:List Value} {ls:List (List AF)} (ha:Arr w [] a (l.flatMap AU)) (hc:l.length≤c) (h:ED w xs ls):ED w (.slice a l.length c::xs) (l::ls)
theorem ED.len{w:World}{xs:List Value}{ls:List (List AF)}(h:ED w xs ls):xs.length=ls.length:=by
 induction h with
 |nil=>rfl
 |cons _ _ _ ih=>simp[ih]
theorem ED.get{w:World}{xs:List Value}{ls:List (List AF)}(h:ED w xs ls): ∀(k:Nat)(hk:k<ls.length),∃a c,xs[k]?=some (.slice a ls[k].length c)∧Arr w [] a (ls[k].flatMap AU)∧ls[k].length≤c:=by
 induction h with
 |nil=>intro k hk;simp at hk
 |cons ha hc h ih=>
  intro k hk;cases k with
  |zero=>exact⟨_,_,rfl,ha,hc⟩
  |succ k=>obtain⟨a,c,h1,h2⟩:=ih k (by simpa using hk);exact⟨a,c,by simpa using h1,by simpa using h2⟩
theorem Hg(l:List AF):(l.flatMap AU).length=l.length*4:=Kw (cv:=AU) (sz:=4) (λ_=>rfl) l
theorem OG(l:List AF):(l.flatMap AU).all Value.oneCell'=true:=by
 induction l with
 |nil=>rfl
 |cons p ps ih=>rw[E9,List.all_append,ih];rfl
theorem lR(l:List AF)(k:Nat)(hk:k<l.length):((l.flatMap AU).drop (k*4)).take 4=AU l[k]:=by
 induction l generalizing k with
 |nil=>simp at hk
 |cons p ps ih=>
  cases k with
  |zero=>simp only[Nat.zero_mul,List.drop_zero,E9,Ja];exact Gm rfl
  |succ k=>
   rw[E9,show(k+1)*4=(AU p).length+k*4 by show _=4+_;omega,List.drop_length_add_append];exact ih k (by simpa using hk)
theorem Hh(p q:List AF):(p++q).flatMap AU=p.flatMap AU++q.flatMap AU:=Hn
theorem vP:Ord λx y:AF=>decide (G2 x y<0)where
 asym x y h:=by
  simp only[decide_eq_true_eq,decide_eq_false_iff_not,Me]at h⊢;rw[dL h];simp
 trans x y z h1 h2:=by
  simp only[decide_eq_false_iff_not,Me,Bool.not_eq_true]at h1 h2⊢;cases h3:CK z x with
  |false=>rfl
  |true=>
   rcases QR y z with h|h|h
   ·have:=Mh h h3;rw[h1]at this;cases this
   ·rw[(OD h).1,h3]at h1;cases h1
   ·rw[h2]at h;cases h
theorem wP{l:List AF}(hs:Srt (λx y:AF=>decide (G2 x y<0)) l)(h1:Cz l):Az l:=by
 have h:=List.Pairwise.and hs h1;refine h.imp λ{a b}hab=>?_;simp only[decide_eq_false_iff_not,Me,Bool.not_eq_true]at hab;rcases QR a b with h|h|h
 ·exact h
 ·exact absurd h hab.2
 ·rw[hab.1]at h;cases h
theorem t8(x y:AF)(w:World):Cl Tryz.prog QY [B9 x,B9 y] w λv w'=>v= .bool (decide (G2 x y=0))∧St w [] [] w':=by
 have hS:=St.start w;have hc:=λw=>Wf x y w;unfold B9 AU at hc⊢;refine fV rfl ?_;refine jq ⟨?_⟩;refine hS.al ?_;intro b2 w2 _ hS;refine jq ⟨?_⟩;refine hS.al ?_;intro b3 w3 _ hS;(repeat(refine jt ⟨?_⟩;refine hS.q ?_;intro _ hS));refine jt ⟨?_⟩;refine(hc _).mono ?_;rintro _ w4⟨rfl,hS'⟩;have hS:=hS.call0 hS';refine jq ⟨?_⟩;exact⟨rfl,hS.nil⟩
theorem ZS{w:World}(m:Nat)(hm:m≤1099511627776):
  Cl Tryz.prog oS [.slice none 0 0,.int .i64 m] w λv w'=>∃a c L,v= .slice a 0 c∧AT Ap 4 a 0 c [] L∧St w [] L w':=by
 have hS:=St.start w;refine gX rfl ?_;by_cases h0:m=0
 ·subst h0;refine jq ⟨?_⟩;exact⟨none,0,[],rfl,AT.nil,hS⟩
 ·refine jq ⟨?_⟩;refine St.appZ (k1:= .i64) (sz:=4) AK rfl rfl rfl rfl (CZ AK (t:=BX) rfl) hS (m:=m) AA (by show _*48≤_;omega) AA ?_;intro g c L w1 hv hc hS;rw[BT]at hS;refine jq ⟨?_⟩;exact⟨_,c,L,rfl,hv,hS⟩
theorem Y6{w:World}{a:Option Addr}{c:Nat}{xs:List Value}{ls:List (List AF)}(ha:Arr w [] a xs)(hL:ED w xs ls)(hl:ls.length≤1099511627776)(hn:ls.flatten.length≤16777216):
  Cl Tryz.prog oQ [.slice a ls.length c] w λv w'=>∃a' c' L,v= .slice a' ls.flatten.length c'∧AT Ap 4 a' ls.flatten.length c' (ls.flatten.flatMap AU) L∧St w [] L w':=by
 have hS:=St.start w;have hlx:=hL.len;have htake: ∀k,k≤ls.length→(ls.take k).flatten.length≤ls.flatten.length:=λk _=>by
  have:=congrArg List.length (kC (L₁:=ls.take k) (L₂:=ls.drop k));rw[CN,AP]at this;omega
 have hsucc: ∀k(hk:k<ls.length),(ls.take (k+1)).flatten=(ls.take k).flatten++ls[k]:=λk hk=>by
  rw[Bq hk,kC];simp
 refine gV rfl ?_;refine jq ⟨?_⟩;refine AM.loop (λk:Nat=>[(0,.slice a ls.length c),(3,.int .i64 (ls.take k).flatten.length),(9,.slice a ls.length c),(10,.int .i64 ls.length),(11,.int .i64 k)])
  (λk w'=>k≤ls.length∧St w [] [] w') (λk=>ls.length-k) 0
  ⟨rfl,rfl,rfl,rfl,rfl,trivial⟩ ⟨Ag _,hS⟩ ?_
 clear hS;rintro k w1⟨hk,hS⟩;by_cases hkl:k<ls.length
 ·obtain⟨a1,c1,hx,ha1,hc1⟩:=hL.get k hkl;have h1:=htake (k+1) AA;have h2:=htake k AA;have h3:=hsucc k hkl;rw[h3,AP]at h1;obtain⟨g,off,rfl, -, -⟩:=ha.get (j:=k) AA;refine jq ⟨?_⟩;refine Arr.ldc (j:=k) hS ha hx AA ?_;refine jq ⟨?_⟩;exact⟨k+1,⟨rfl,by rw[h3,AP];rfl,rfl,rfl,rfl,trivial⟩,⟨AA,hS⟩,AA⟩
 ·obtain rfl:k=ls.length:=AA;rw[Bz];refine jq ⟨?_⟩;refine(ZS ls.flatten.length AA).mono ?_;rintro _ w2⟨a2,c2,L2,rfl,hv2,hS2⟩;have hS:=hS.callNew hS2;rw[BT]at hS;refine jq ⟨?_⟩;refine AM.loop (λi:Nat×Option Addr×Nat=>[(0,.slice a ls.length c),(6,.slice i.2.1 (ls.take i.1).flatten.length i.2.2),(25,.slice a ls.length c),(26,.int .i64 ls.length),(27,.int .i64 i.1)])
   (λi w'=>i.1≤ls.length∧ ∃L,AT Ap 4 i.2.1 (ls.take i.1).flatten.length i.2.2 ((ls.take i.1).flatten.flatMap AU) L∧St w [] L w') (λi=>ls.length-i.1) (0,a2,c2)
   ⟨rfl,rfl,rfl,rfl,rfl,trivial⟩ ⟨Ag _,L2,hv2,hS⟩ ?_
  clear hS hk hkl;rintro⟨k,a3,c3⟩w3⟨hk,L3,hv,hS⟩;simp only at hk hv hS⊢;by_cases hkl:k<ls.length
  ·obtain⟨a1,c1,hx,ha1,hc1⟩:=hL.get k hkl;have h1:=htake (k+1) AA;have h3:=hsucc k hkl;rw[h3,AP]at h1;obtain⟨g,off,rfl, -, -⟩:=ha.get (j:=k) AA;refine jq ⟨?_⟩;refine Arr.ldc (j:=k) hS ha hx AA ?_;refine jq ⟨?_⟩;refine St.app (sz:=4) (m:=ls[k].length) AK rfl rfl rfl rfl hS hv (news:=ls[k].flatMap AU) (Hg _) (hS.arrOld ha1) (OG _) (by show(_+_)*48≤_;omega) AA ?_;intro a4 c4 L4 w4 hv4 hS;refine jq ⟨?_⟩
   exact⟨(k+1,a4,c4),⟨rfl,by rw[h3,AP];rfl,rfl,rfl,rfl,trivial⟩,⟨AA,L4,by rw[h3,AP,Hh];exact hv4,hS⟩,by simp;omega⟩
  ·obtain rfl:k=ls.length:=AA;rw[Bz]at hv⊢;refine jq ⟨?_⟩;exact⟨a3,c3,L3,rfl,hv,hS⟩
theorem FL{w:World}{T:List Nat}{a:Option Addr}{l:List AF}(ha:Arr w T a (l.flatMap AU)){k:Nat}(hk:k<l.length): ∃g off,a=some ⟨g,off,none⟩∧ ∀(j:Nat)(v:Value),(AU l[k])[j]?=some v→w.cell? ⟨g,off+k*4+j,none⟩=some v:=by
 have hlen:=Hg l;obtain⟨g,off,hg, -, -⟩:=ha.get (j:=k*4) AA;refine⟨g,off,hg,λj v hj=>?_⟩;have hj4:j<4:=(Fm.1 hj).1;have hx:(l.flatMap AU)[k*4+j]?=some v:=by
  rw[←lR l k hk,IJ,if_pos hj4,Iu]at hj;exact hj
 obtain⟨g',o',h1,_,h3⟩:=ha _ v hx;rw[hg]at h1;simp only[Option.some.injEq,Addr.mk.injEq,and_true]at h1;obtain⟨rfl,rfl⟩:=h1;rw[Gn];exact h3
theorem Sh{w:World}{a:Option Addr}{c:Nat}{l:List AF}(ha:Arr w [] a (l.flatMap AU))(hr:Az l)(hl:l.length≤1099511627776):
  Cl Tryz.prog oP [.slice a l.length c,.func (.func QY) ⟨[]⟩ ⟨[]⟩] w λv w'=>v= .slice a l.length c∧St w [] [] w':=by
 have hS:=St.start w;refine gU rfl ?_;by_cases h2:l.length<2
 ·refine jq ⟨?_⟩;exact⟨rfl,hS⟩
 ·refine jq ⟨?_⟩;refine AM.loop (λk:Nat=>[(0,.slice a l.length c),(1,.func (.func QY) ⟨[]⟩ ⟨[]⟩),(4,.slice none 0 0),(5,.int .i64 k)])
   (λk w'=>1≤k∧k≤l.length∧St w [] [] w') (λk=>l.length-k) 1
   ⟨rfl,rfl,rfl,rfl,trivial⟩ ⟨AW _,AA,hS⟩ ?_
  clear hS;rintro k w1⟨hk1,hk,hS⟩;by_cases hkl:k<l.length
  ·obtain⟨g,off,rfl,hx⟩:=FL ha hkl;obtain⟨g',o',h1,hy⟩:=FL ha (show k-1<l.length by omega);simp only[Option.some.injEq,Addr.mk.injEq,and_true]at h1;obtain⟨rfl,rfl⟩:=h1;have hne: ¬G2 l[k] l[k-1]=0:=λh=>by
    have h3:=(QN _ _).1 h;have h4:=Jb.1 hr (k-1) k AA hkl AA;rw[(OD h3.symm).1,QQ]at h4;cases h4
   have hcm:=λw=>t8 l[k] l[k-1] w;generalize hu:l[k]=u at hx hne hcm;generalize hv:l[k-1]=v at hy hne hcm;unfold B9 AU at hcm;refine jq ⟨?_⟩;refine AM.draw AK mixed (λw'=>St w _ _ w') [10] [0,1,2,3,4,5,6,7,8,9,10] AD hS.drew ?_;have hS:=hS.drew;refine jr ⟨?_⟩;refine Jf (cs:=[AG u.k,.int .i64 u.s,.bool u.d,AG u.v]) rfl (λw' hw j x hj=>hw.oldCell AB (by have:=hx j x hj;rw[show off+((k:Int)).toNat*4+j=off+k*4+j by omega];exact this)) ?_
   refine jr ⟨?_⟩;refine Jf (cs:=[AG v.k,.int .i64 v.s,.bool v.d,AG v.v]) rfl (λw' hw j x hj=>hw.oldCell AB (by have:=hy j x hj;rw[show off+((k:Int)-1).toNat*4+j=off+(k-1)*4+j by omega];exact this)) ?_;refine jr ⟨?_⟩;refine(hcm _).mono ?_;rintro _ w2⟨rfl,hS'⟩;have hS:=hS.call0 hS';refine jr ⟨?_⟩;refine jq ⟨?_⟩;exact⟨k+1,⟨rfl,rfl,rfl,rfl,trivial⟩,⟨AA,AA,hS⟩,AA⟩
  ·refine jq ⟨?_⟩;exact⟨rfl,hS⟩
end Go.Proofs.YtkgibdhpijdbfaaGreatDoor
namespace Go.Proofs.YtkgibdhpijdbfaaGreatDoor
open Go Go.Eng Go.Proofs
def D6:List Ar→List Ar→AH
 |[],_=>[]
 |x::A,R=>(x.b,.cells ⟨DH x (A++R)⟩ HF (0,0))::D6 A R
theorem Mz: ∀(A R:List Ar),EH (A++R)=D6 A R++EH R
 |[],_=>rfl
 |x::A,R=>by
  show(x.b,Obj.cells ⟨DH x (A++R)⟩ HF (0,0))::EH (A++R)=_;rw[Mz A R];rfl
theorem Wu: ∀(A B R:List Ar),D6 (A++B) R=D6 A (B++R)++D6 B R
 |[],_,_=>rfl
 |x::A,B,R=>by
  show(x.b,Obj.cells ⟨DH x (A++B++R)⟩ HF (0,0))::D6 (A++B) R=_;rw[Wu A B R,Aj];rfl
theorem Jy{f g:Nat→Value}(h: ∀l,l<8→f l=g l):Dz f=Dz g:=by
 unfold Dz;rw[h 0 AA,h 1 AA,h 2 AA,h 3 AA,h 4 AA,h 5 AA,h 6 AA,h 7 AA]
theorem uQ{x:Ar}{R S:List Ar}(h: ∀l,l<8→F5 x.h R l=F5 x.h S l):DH x R=DH x S:=by
 unfold DH;rw[Jy h]
theorem Ol: ∀{A R S:List Ar},(∀P x Q,A=P++x::Q→ ∀l,l<8→F5 x.h (Q++R) l=F5 x.h (Q++S) l)→D6 A R=D6 A S
 |[],_,_,_=>rfl
 |x::A,R,S,h=>by
  unfold D6;rw[uQ (h [] x A rfl),Ol λP y Q e=>h (x::P) y Q (by rw[e];rfl)]
theorem RY{l:Nat}: ∀{A:List Ar},(∃y∈A,l<y.h)→ ∀R S,Bt l (A++R)=Bt l (A++S)
 |[],h,_,_=>by obtain⟨y,hy,_⟩:=h;cases hy
 |x::A,h,R,S=>by
  show(if l<x.h then _ else Bt l (A++R))=(if l<x.h then _ else Bt l (A++S));by_cases hx:l<x.h
  ·rw[if_pos hx,if_pos hx]
  ·rw[if_neg hx,if_neg hx];refine RY ?_ R S;obtain⟨y,hy,h2⟩:=h;rcases As.1 hy with rfl|hy
   ·exact absurd h2 hx
   ·exact⟨y,hy,h2⟩
theorem M6{l:Nat}: ∀{A:List Ar},(∀y∈A,¬l<y.h)→ ∀R,Bt l (A++R)=Bt l R
 |[],_,_=>rfl
 |x::A,h,R=>by
  show(if l<x.h then _ else Bt l (A++R))=_;rw[if_neg (h x CM),M6 (λy hy=>h y (CH _ hy)) R]
theorem I4(l:Nat): ∀(A:List Ar){R S:List Ar},Bt l R=Bt l S→Bt l (A++R)=Bt l (A++S)
 |[],_,_,h=>h
 |x::A,R,S,h=>by
  show(if l<x.h then _ else Bt l (A++R))=(if l<x.h then _ else Bt l (A++S));rw[I4 l A h]
def CX(b:Nat)(e:AF)(k:Nat):Ar:=⟨b,e,k⟩
theorem On(b:Nat)(e:AF){l k:Nat}(h:l≠k)(B:List Ar):Bt l (CX b e (k+1)::B)=Bt l (CX b e k::B):=by
 show(if l<k+1 then _ else _)=(if l<k then _ else _);by_cases hl:l<k
 ·rw[if_pos hl,if_pos AA];rfl
 ·rw[if_neg hl,if_neg AA]
theorem W6(b:Nat)(e:AF)(k:Nat)(B:List Ar):Bt k (CX b e (k+1)::B)=ptr b:=by
 show(if k<k+1 then _ else _)=_;rw[if_pos AA];rfl
theorem W5(b:Nat)(e:AF)(k:Nat)(B:List Ar):Bt k (CX b e k::B)=Bt k B:=by
 show(if k<k then _ else _)=_;rw[if_neg AA]
theorem W7(b:Nat)(e:AF)(l:Nat)(B:List Ar):Bt l (CX b e 0::B)=Bt l B:=by
 show(if l<0 then _ else _)=_;rw[if_neg AA]
theorem QC(f:Nat→Value)(k:Nat)(hk:k<8)(v:Value):(Dz f).set k v=Dz λl=>if l=k then v else f l:=by
 apply List.ext_getElem?;intro j;rw[List.getElem?_set];by_cases hj:j<8
 ·rw[Im _ j hj,Im _ j hj];by_cases e:k=j
  ·subst e;rw[if_pos rfl,if_pos (by show k<8;exact hk),if_pos rfl]
  ·rw[if_neg e,if_neg (λh=>e h.symm)]
 ·rw[if_neg AA,JZ (by show 8≤j;omega),JZ (by show 8≤j;omega)]
theorem Wt(b:Nat)(e:AF)(k:Nat)(hk:k<8)(B:List Ar):(DH (CX b e k) B).set (4+k) (Bt k B)=DH (CX b e (k+1)) B:=by
 unfold DH;have hl:(AU (CX b e k).e).length=4:=rfl;rw[IK _ _ (by rw[hl];omega),hl,show 4+k-4=k by omega,QC _ _ hk]
 congr 1
 refine Jy λl _=>?_;unfold F5;show(if l=k then _ else if l<k then _ else _)=(if l<k+1 then _ else _);by_cases e1:l=k
 ·subst e1;rw[if_pos rfl,if_pos AA]
 ·rw[if_neg e1];by_cases h:l<k
  ·rw[if_pos h,if_pos AA]
  ·rw[if_neg h,if_neg AA]
theorem wA{y:Ar}{A2:List Ar}{k:Nat}(hk:k<8)(hy:k<y.h)(hn: ∀z∈A2,¬k<z.h)(b:Nat)(e:AF)(B:List Ar):
  (DH y (A2++CX b e k::B)).set (4+k) (ptr b)=DH y (A2++CX b e (k+1)::B):=by
 unfold DH;have hl:(AU y.e).length=4:=rfl;rw[IK _ _ (by rw[hl];omega),hl,show 4+k-4=k by omega,QC _ _ hk]
 congr 1
 refine Jy λl _=>?_;unfold F5;by_cases e1:l=k
 ·subst e1;rw[if_pos rfl,if_pos hy,M6 hn,W6]
 ·rw[if_neg e1,I4 l A2 (On b e e1 B)]
theorem r8{A:List Ar}{k:Nat}(hk:k<8)(hn: ∀z∈A,¬k<z.h)(b:Nat)(e:AF)(B:List Ar)(n bytes:Int)(ha:Option Addr)(hn' hc:Nat)(turn:Int):
  (memC n bytes (A++CX b e k::B) ha hn' hc turn).set (2+(4+k)) (ptr b)=memC n bytes (A++CX b e (k+1)::B) ha hn' hc turn:=by
 unfold memC;rw[Aj,Aj,IK _ _ (by simp;omega)];rw[List.set_append_left _ _ (by simp[Dz];omega)]
 congr 1
 congr 1
 rw[show 2+(4+k)-_=k by simp;omega,QC _ _ hk];refine Jy λl _=>?_;by_cases e1:l=k
 ·subst e1;rw[if_pos rfl,M6 hn,W6]
 ·rw[if_neg e1,I4 l A (On b e e1 B)]
theorem tX{A:List Ar}{k:Nat}(h: ∃y∈A,k<y.h)(b:Nat)(e:AF)(B:List Ar)(n bytes:Int)(ha:Option Addr)(hn hc:Nat)(turn:Int):
  memC n bytes (A++CX b e k::B) ha hn hc turn=memC n bytes (A++CX b e (k+1)::B) ha hn hc turn:=by
 unfold memC
 congr 2
 refine Jy λl _=>?_;by_cases e1:l=k
 ·subst e1;exact RY h _ _
 ·rw[I4 l A (On b e e1 B)]
theorem Ww{A:List Ar}{k:Nat}(b:Nat)(e:AF)(B:List Ar)(T:List Ar)(h:(∀z∈A,¬k<z.h)∨ ∃y∈T,k<y.h):
  D6 A (T++CX b e k::B)=D6 A (T++CX b e (k+1)::B):=by
 refine Ol λP x Q hA l _=>?_;unfold F5;by_cases e1:l=k
 ·subst e1;rcases h with h|h
  ·rw[if_neg (h x (by rw[hA];simp)),if_neg (h x (by rw[hA];simp))]
  ·rw[←Aj,←Aj,RY (A:=Q++T) (by obtain⟨y,hy,h2⟩:=h;exact⟨y,FN _ hy,h2⟩)]
 ·rw[I4 l Q (I4 l T (On b e e1 B))]
theorem Wv{A:List Ar}{k:Nat}(b:Nat)(e:AF)(B:List Ar)(h: ∀z∈A,¬k<z.h):D6 A (CX b e k::B)=D6 A (CX b e (k+1)::B):=Ww b e B [] (.inl h)
theorem UJ(k:Nat): ∀(A:List Ar),(∀z∈A,¬k<z.h)∨ ∃A0 y A2,A=A0++y::A2∧k<y.h∧ ∀z∈A2,¬k<z.h
 |[]=> .inl AB
 |x::A=>by
  rcases UJ k A with h|⟨A0,y,A2,h1,h2,h3⟩
  ·by_cases hx:k<x.h
   ·exact .inr ⟨[],x,A,rfl,hx,h⟩
   ·left;intro z hz;rcases As.1 hz with rfl|hz
    ·exact hx
    ·exact h z hz
  ·exact .inr ⟨x::A0,y,A2,by rw[h1];rfl,h2,h3⟩
theorem W8(l:Nat)(A B:List Ar)(z:Ar)(e:AF):Bt l (A++z::B)=Bt l (A++{z with e:=e}::B):=I4 l A rfl
theorem uT(A B:List Ar)(z:Ar)(e:AF):D6 A (z::B)=D6 A ({z with e:=e}::B):=by
 refine Ol λP x Q _ l _=>?_;unfold F5;rw[W8 l Q B z e]
theorem tR(n bytes:Int)(A B:List Ar)(z:Ar)(e:AF)(ha:Option Addr)(hn hc:Nat)(turn:Int):memC n bytes (A++z::B) ha hn hc turn=memC n bytes (A++{z with e:=e}::B) ha hn hc turn:=by
 unfold memC
 congr 2
 exact Jy λl _=>W8 l A B z e
theorem NB(b:Nat)(A:List Ar)(l:Nat)(hl:l<8):(D8 b 0 A)[l]?=some (lastP (F7 b) l A):=by
 unfold D8;rw[Im _ l hl,if_pos (Ag _)]
theorem tS(n bytes:Int)(ns:List Ar)(ha:Option Addr)(hn hc:Nat)(turn:Int)(k:Nat)(hk:k<8):(memC n bytes ns ha hn hc turn)[2+(4+k)]?=some (Bt k ns):=by
 unfold memC;rw[Aj,D2 (by simp;omega),Cq (by simp[Dz];omega)];rw[show 2+(4+k)-_=k by simp;omega];exact Im _ k hk
theorem uR(x:Ar)(R:List Ar)(k:Nat)(hk:k<8):(DH x R)[4+k]?=some (F5 x.h R k):=by
 unfold DH;rw[D2 (by simp[AU])];rw[show 4+k-(AU x.e).length=k by simp[AU]];exact Im _ k hk
theorem uU(b:Nat)(e:AF)(A B:List Ar):D6 A B=D6 A (CX b e 0::B):=by
 refine Ol λP x Q _ l _=>?_;unfold F5;rw[I4 l Q (W7 b e l B).symm]
theorem tU(n bytes:Int)(b:Nat)(e:AF)(A B:List Ar)(ha:Option Addr)(hn hc:Nat)(turn:Int):memC n bytes (A++B) ha hn hc turn=memC n bytes (A++CX b e 0::B) ha hn hc turn:=by
 unfold memC
 congr 2
 exact Jy λl _=>I4 l A (W7 b e l B).symm
theorem uS(b:Nat)(e:AF)(B:List Ar):AU e++Dz (λ_=> .pointer none)=DH (CX b e 0) B:=rfl
theorem tT(n bytes:Int)(ns:List Ar)(ha:Option Addr)(hn hc:Nat)(turn:Int):(memC n bytes ns ha hn hc turn).length=16:=rfl
theorem RS(x:Ar)(R:List Ar):(DH x R).length=12:=rfl
theorem u9(l:Nat)(B:List Ar): ∃p,Bt l B= .pointer p:=by
 rcases RZ l B with h|⟨_,z,_,_,h⟩
 ·exact⟨_,h⟩
 ·exact⟨_,h⟩
end Go.Proofs.YtkgibdhpijdbfaaGreatDoor
