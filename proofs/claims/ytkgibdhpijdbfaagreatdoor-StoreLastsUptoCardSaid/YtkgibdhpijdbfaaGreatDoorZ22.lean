/- Texts of this claim, one behind the other. -/
import Derived.Test.YtkgibdhpijdbfaaGreatDoorZ19
import Derived.Test.YtkgibdhpijdbfaaGreatDoorZ16
import Derived.Test.YtkgibdhpijdbfaaGreatDoorZ9
import Derived.Test.YtkgibdhpijdbfaaGreatDoorZ18
set_option linter.unusedVariables false
set_option linter.unusedSimpArgs false
set_option maxHeartbeats 16000000
namespace Go.Proofs.YtkgibdhpijdbfaaGreatDoor
open Go Go.Eng Go.Proofs
theorem Y0{w:World}{tb:Nat}{l:List AF}{a:Option Addr}{c nb:Nat}(hT:Fg w tb l a c nb)(hl:l.length≤16777216):
  Cl Tryz.prog pV [ptr tb] w λv w'=>∃a' c' L,v= .slice a' l.length c'∧AT Ap 4 a' l.length c' (l.flatMap AU) L∧St w [] L w':=by
 have hS:=St.start w;obtain⟨g2,o2,e2, -,hc2⟩:=hT.cells 2 _ rfl;simp only[Option.some.injEq,Addr.mk.injEq,and_true]at e2;obtain⟨rfl,rfl⟩:=e2;refine jZ rfl ?_;refine jq ⟨?_⟩;refine hS.ldOld AB (by simpa using hc2) ?_;refine jq ⟨?_⟩;refine(PX (hS.arrOld hT.ents) hl).mono ?_;rintro _ w1⟨a',c',L,rfl,hv,hS'⟩;have hS:=hS.callNew hS';rw[BT]at hS;refine jq ⟨?_⟩;exact⟨a',c',L,rfl,hv,hS⟩
theorem SN(k:AE)(s:Int)(l:List AF):l.drop (CY k s l).length=Bp k s l:=by
 conv=>lhs;rw[←GG k s l]
 rw[List.drop_left' (by rw[GG])]
theorem ZF{w:World}{tb:Nat}{l:List AF}{a:Option Addr}{c nb:Nat}{k:AE}(hT:Fg w tb l a c nb)(hr:Az l)(hl:l.length≤16777216):
  Cl Tryz.prog pW [ptr tb,AG k] w λv w'=>∃a' c' L,v= .slice a' (Bp k 9223372036854775807 l).length c'∧AT Ap 4 a' (Bp k 9223372036854775807 l).length c' ((Bp k 9223372036854775807 l).flatMap AU) L∧St w [] L w':=by
 have hS:=St.start w;obtain⟨g2,o2,e2, -,hc2⟩:=hT.cells 2 _ rfl;simp only[Option.some.injEq,Addr.mk.injEq,and_true]at e2;obtain⟨rfl,rfl⟩:=e2;have hle:=SJ k 9223372036854775807 l;refine j0 rfl ?_;refine jq ⟨?_⟩;refine AM.draw AK mixed (λw'=>St w _ _ w') [8,9] [0,1,2,3,4,5,6,7,8,9] AD hS.drew ?_;have hS:=hS.drew;refine jr ⟨?_⟩;refine hS.ldOldC AB (by simpa using hc2) ?_;refine jr ⟨?_⟩;refine(XR (s:=9223372036854775807) ⟨hS.arrOld hT.cells,hS.arrOld hT.ents,hT.cap,hT.addr⟩ hr AA).mono ?_
 rintro _ w1⟨rfl,hS'⟩;have hS:=hS.call0 hS';refine Ae.mk hS ?_;have hdr:=SN k 9223372036854775807 l;have hlen:=congrArg List.length (GG k 9223372036854775807 l);rw[AP]at hlen;have hcap:=hT.cap;have hents:=hT.ents;rcases hT.addr with rfl|⟨g,rfl⟩
 ·have hl0:l=[]:=by
   cases l with
   |nil=>rfl
   |cons x l=>obtain⟨g,off,h, -⟩:=hents.get (j:=0) (by rw[Hg,Ah];omega);cases h
  subst hl0;refine jr ⟨?_⟩;refine(PX (l:=[]) (Arr.nil _ _ _) (Ag _)).mono ?_;rintro _ w2⟨a',c',L,rfl,hv,hS'⟩;have hS:=hS.callNew hS';rw[BT]at hS;refine jr ⟨?_⟩;refine jq ⟨?_⟩;exact⟨a',c',L,rfl,hv,hS⟩
 ·have hpart:=Ow (hS.arrOld hents) hcap (p:=(CY k 9223372036854775807 l).length) (n:=l.length-(CY k 9223372036854775807 l).length) AA;rw[hdr,HL AA]at hpart;generalize(CY k 9223372036854775807 l).length=m at hlen hle hpart;generalize Bp k 9223372036854775807 l=F at hlen hpart⊢;refine jr ⟨?_⟩;rw[show((m:Int)).toNat=m by omega,show l.length-m=F.length by omega];refine(PX (c:=c-m) hpart AA).mono ?_;rintro _ w2⟨a',c',L,rfl,hv,hS'⟩
  have hS:=hS.callNew hS';rw[BT]at hS;refine jr ⟨?_⟩;refine jq ⟨?_⟩;exact⟨a',c',L,rfl,hv,hS⟩
theorem tN{l:List AF}{k:AE}{s:Int}(h:IT (Dt (Cb l)) k=false):DE l k s=none:=by
 unfold DE;cases hf:Bp k s l with
 |nil=>rfl
 |cons x r=>
  simp only
  split
  ·rename_i hx;have hm:x∈l:=by rw[←GG k s l,hf];simp
   rw[←hx,tO (uC hm)]at h;cases h
  ·rfl
theorem rR{l:List AF}{k:AE}{s:Int}(h:(CY k s l).length=l.length):DE l k s=none:=by
 have e:=SN k s l;rw[h,II]at e;unfold DE;rw[←e]
theorem rQ{l:List AF}{k:AE}{s:Int}(h:(CY k s l).length<l.length):DE l k s=if l[(CY k s l).length].k=k then some l[(CY k s l).length]else none:=by
 have e:=SN k s l;rw[FM h]at e;unfold DE;rw[←e]
theorem ZQ{w:World}{tb:Nat}{l:List AF}{a:Option Addr}{c nb:Nat}{k:AE}{s:Int}(hT:Fg w tb l a c nb)(hr:Az l)(hl:l.length≤16777216)(hk:k.length≤1099511627776)(hb:(Dt (Cb l)).length≤1099511627776):
  Cl Tryz.prog pX [ptr tb,AG k,.int .i64 s] w λv w'=>v=QU (DE l k s)∧St w [] [] w':=by
 have hS:=St.start w;obtain⟨g2,o2,e2, -,hc2⟩:=hT.cells 2 _ rfl;simp only[Option.some.injEq,Addr.mk.injEq,and_true]at e2;obtain⟨rfl,rfl⟩:=e2;have hle:=SJ k s l;refine j5 rfl ?_;refine jq ⟨?_⟩;refine hS.al ?_;intro b6 w1 _ hS;refine jq ⟨?_⟩;refine(Zk (Fg.old hS hT) hk hb).mono ?_;rintro _ w2⟨rfl,hS'⟩;have hS:=hS.call0 hS';cases hm:IT (Dt (Cb l)) k with
 |false=>
  rw[tN hm];(repeat(refine jt ⟨?_⟩;refine hS.q ?_;intro _ hS));refine jt ⟨?_⟩;exact⟨rfl,hS.nil⟩
 |true=>
  refine jq ⟨?_⟩;refine(XR (Fg.old hS hT) hr AA).mono ?_;rintro _ w3⟨rfl,hS'⟩;have hS:=hS.call0 hS';by_cases he:(CY k s l).length=l.length
  ·rw[rR he];(repeat(refine jt ⟨?_⟩;refine hS.q ?_;intro _ hS));refine jt ⟨?_⟩;refine hS.ldOld AB (by simpa using hc2) ?_;(repeat(refine jt ⟨?_⟩;refine hS.q ?_;intro _ hS));refine jt ⟨?_⟩;exact⟨rfl,hS.nil⟩
  ·have hlt:(CY k s l).length<l.length:=AA;rw[rQ hlt];obtain⟨g,off,rfl,hx⟩:=FL hT.ents hlt;generalize(CY k s l).length=m at hlt hx he⊢;generalize hu:l[m]=u at hx⊢;(repeat(refine jt ⟨?_⟩;refine hS.q ?_;intro _ hS));refine jt ⟨?_⟩;refine hS.ldOld AB (by simpa using hc2) ?_;(repeat(refine jt ⟨?_⟩;refine hS.q ?_;intro _ hS));refine jt ⟨?_⟩;refine hS.ldOld AB (by simpa using hc2) ?_;(repeat(refine jt ⟨?_⟩;refine hS.q ?_;intro _ hS));refine jt ⟨?_⟩
   refine hS.ldOld AB (by have:=hx 0 _ rfl;rw[show off+((m:Int)).toNat*4+0=off+m*4+0 by omega];exact this) ?_;by_cases hku:u.k=k
   ·rw[if_pos hku];(repeat(refine jt ⟨?_⟩;refine hS.q ?_;intro _ hS));refine jt ⟨?_⟩;refine hS.ldOld AB (by simpa using hc2) ?_;(repeat(refine jt ⟨?_⟩;refine hS.q ?_;intro _ hS));refine jt ⟨?_⟩;refine IP (cs:=[AG u.k,.int .i64 u.s,.bool u.d,AG u.v]) rfl (λj x hj=>hS.oldCell AB (by have:=hx j x hj;rw[show off+((m:Int)).toNat*4+j=off+m*4+j by omega];exact this)) ?_;(repeat(refine jt ⟨?_⟩;refine hS.q ?_;intro _ hS));refine jt ⟨?_⟩
    exact⟨rfl,hS.nil⟩
   ·rw[if_neg hku];(repeat(refine jt ⟨?_⟩;refine hS.q ?_;intro _ hS));refine jt ⟨?_⟩;exact⟨rfl,hS.nil⟩
theorem M4{n:Nat}(hn:n<18446744073709551616)(r:AE):CP (Ak n++r)=(n,0,r):=by
 unfold CP;rw[(Jg _ n r).2 ⟨rfl,hn⟩]
theorem PL{s:AE}(hn:s.length<18446744073709551616)(r:AE):Lu (Bd s++r)=(s,0,r):=by
 unfold Lu;rw[(yL _ s r).2 ⟨rfl,hn⟩]
abbrev EL(rb:Nat)(last:AE):Obj:= .cells ⟨[ptr rb,AG last,.bool false]⟩ aN (0,0)
theorem Nz{w:World}{b rb n:Nat}{last r:AE}(hh:Holds [(b,EL rb last),(rb,A6 (Ak n++r))] w)(hn:n<18446744073709551616)(ht:(Ak n++r).length≤70368744177664):
  Cl Tryz.prog lZ [ptr b] w λv w'=>v= .int .u64 n∧St w [b,rb] [(b,EL rb last),(rb,A6 r)] w':=by
 have hS:=St.enter hh;refine dU rfl ?_;(repeat(refine jt ⟨?_⟩;refine hS.q ?_;intro _ hS));refine jt ⟨?_⟩;refine(JK (hS.part (L:=[(rb,A6 (Ak n++r))])) ht).mono ?_;rintro _ w1⟨rfl,hS'⟩;have hS:=hS.call (L:=[(rb,A6 (Ak n++r))]) hS';rw[M4 hn]at hS⊢;(repeat(refine jt ⟨?_⟩;refine hS.q ?_;intro _ hS));refine jt ⟨?_⟩;exact⟨rfl,hS⟩
theorem Tv{w:World}{b rb:Nat}{last s r:AE}(hh:Holds [(b,EL rb last),(rb,A6 (Bd s++r))] w)(ht:(Bd s++r).length≤70368744177664):
  Cl Tryz.prog l6 [ptr b] w λv w'=>v=AG s∧St w [b,rb] [(b,EL rb last),(rb,A6 r)] w':=by
 have hS:=St.enter hh;have hsl:s.length<18446744073709551616:=by
  unfold Bd at ht;simp only[AP]at ht;omega
 refine dV rfl ?_;(repeat(refine jt ⟨?_⟩;refine hS.q ?_;intro _ hS));refine jt ⟨?_⟩;refine(Ni (hS.part (L:=[(rb,A6 (Bd s++r))])) ht).mono ?_;rintro _ w1⟨rfl,hS'⟩;have hS:=hS.call (L:=[(rb,A6 (Bd s++r))]) hS';rw[PL hsl]at hS⊢;(repeat(refine jt ⟨?_⟩;refine hS.q ?_;intro _ hS));refine jt ⟨?_⟩;exact⟨rfl,hS⟩
theorem zN{z:Int}(h:CA z):Eb z<18446744073709551616:=by unfold CA at h;unfold Eb;split<;>omega
theorem V4{z:Int}(hz:CA z)(r:AE):Da (Bg z++r)=(z,0,r):=by
 unfold Da Bg;rw[M4 (zN hz)];simp only[Yq]
set_option maxRecDepth 8000 in
theorem bO{w:World}{b rb:Nat}{last r:AE}{x:AF}(hh:Holds [(b,EL rb last),(rb,A6 (GU last x++r))] w)(hk:x.k.length≤1099511627776)(hl:last.length≤1099511627776)(hs:CA x.s)(hf:x.d=true→x.v=[])(ht:(GU last x++r).length≤70368744177664):
  Cl Tryz.prog lY [ptr b] w λv w'=>v=B9 x∧St w [b,rb] [(b,EL rb x.k),(rb,A6 r)] w':=by
 have hS:=St.enter hh;have hsh:=NL last x.k;have hjoin:=xI last x.k;have hshs:=TM last x.k hl hk;unfold GU at hS ht;simp only[Aj]at hS ht;generalize hn:Di last x.k=n at hS ht hsh hjoin hshs;generalize hT:keys [(b,EL rb last),(rb,A6 (Ak n++(Bd (x.k.drop n)++(Bg x.s++((if x.d then Ak 1 else Ak 0++Bd x.v)++r)))))]=T0 at hS;have hT':[b,rb]=T0:=hT;rw[hT'];generalize hR:(if x.d then Ak 1 else Ak 0++Bd x.v)++r=R1 at hS ht
 have hl1:(Bd (x.k.drop n)++(Bg x.s++R1)).length≤70368744177664:=by rw[AP]at ht;omega
 have hl2:(Bg x.s++R1).length≤70368744177664:=by rw[AP]at hl1;omega
 have hl3:R1.length≤70368744177664:=by rw[AP]at hl2;omega
 refine dS rfl ?_;(repeat(refine jt ⟨?_⟩;refine hS.q ?_;intro _ hS));refine jt ⟨?_⟩;refine hS.al ?_;intro b2 w1 _ hS;have hS:St w T0 ([(b,EL rb last),(rb,A6 (Ak n++(Bd (x.k.drop n)++(Bg x.s++R1))))]++[(b2,.cells ⟨[AG [],.int .i64 0,.bool false,AG []]⟩ Ap (0,0))]) w1:=St.perm hS (Gl (l₁:=[_]));(repeat(refine jt ⟨?_⟩;refine hS.q ?_;intro _ hS));refine jt ⟨?_⟩;refine(Nz (hS.part (L:=[(b,EL rb last),(rb,A6 (Ak n++(Bd (x.k.drop n)++(Bg x.s++R1))))])) AA ht).mono ?_
 rintro _ w2⟨rfl,hS'⟩;have hS:=hS.call (L:=[(b,EL rb last),(rb,A6 (Ak n++(Bd (x.k.drop n)++(Bg x.s++R1))))]) hS';(repeat(refine jt ⟨?_⟩;refine hS.q ?_;intro _ hS));refine jt ⟨?_⟩;refine(Tv (hS.part (L:=[(b,EL rb last),(rb,A6 (Bd (x.k.drop n)++(Bg x.s++R1)))])) hl1).mono ?_;rintro _ w3⟨rfl,hS'⟩;have hS:=hS.call (L:=[(b,EL rb last),(rb,A6 (Bd (x.k.drop n)++(Bg x.s++R1)))]) hS';(repeat(refine jt ⟨?_⟩;refine hS.q ?_;intro _ hS));refine jt ⟨?_⟩
 refine(Pg (hS.part (L:=[(rb,A6 (Bg x.s++R1))])) hl2).mono ?_;rintro _ w4⟨rfl,hS'⟩;have hS:=hS.call (L:=[(rb,A6 (Bg x.s++R1))]) hS';rw[V4 hs]at hS⊢;(repeat(refine jt ⟨?_⟩;refine hS.q ?_;intro _ hS));refine jt ⟨?_⟩;cases hd:x.d with
 |true=>
  rw[hd,if_pos rfl]at hR;subst hR;refine(Nz (hS.part (L:=[(b,EL rb last),(rb,A6 (Ak 1++r))])) AA hl3).mono ?_;rintro _ w5⟨rfl,hS'⟩;have hS:=hS.call (L:=[(b,EL rb last),(rb,A6 (Ak 1++r))]) hS';(repeat(refine jt ⟨?_⟩;refine hS.q ?_;intro _ hS));refine jt ⟨?_⟩;rw[show((n:Int)).toNat=n by omega];(repeat(refine jt ⟨?_⟩;refine hS.q ?_;intro _ hS));refine jt ⟨?_⟩;refine Ae.mk (by rw[Ba,D3];omega) ?_;rw[hjoin]
  (repeat(refine jt ⟨?_⟩;refine hS.q ?_;intro _ hS));refine jt ⟨?_⟩;refine hS.al ?_;intro b8 w6 _ hS;(repeat(refine jt ⟨?_⟩;refine hS.q ?_;intro _ hS));refine jt ⟨?_⟩;refine AM.draw AK mixed (λw'=>St w _ _ w') [13] [0,1,2,3,4,5,6,8,9,7,10,11,12,13] AD hS.drew ?_;have hS:=hS.drew;refine jr ⟨?_⟩;refine(hshs _).mono ?_;rintro _ w7⟨rfl,hS'⟩;have hS:=hS.call0 hS';refine Ae.mk hS ?_;refine jr ⟨?_⟩;(repeat(refine jt ⟨?_⟩;refine hS.q ?_;intro _ hS));refine jt ⟨?_⟩
  simp only[decide_true,Bool.not_true]at hS;refine⟨by simp[B9,AU,hd,hf hd],hS.sub ?_⟩;exact(CD [(b,_),(rb,_)] _).trans (AS _ _)
 |false=>
  rw[hd,if_neg AB,Aj]at hR;subst hR;refine(Nz (hS.part (L:=[(b,EL rb last),(rb,A6 (Ak 0++(Bd x.v++r)))])) AA hl3).mono ?_;rintro _ w5⟨rfl,hS'⟩;have hS:=hS.call (L:=[(b,EL rb last),(rb,A6 (Ak 0++(Bd x.v++r)))]) hS';(repeat(refine jt ⟨?_⟩;refine hS.q ?_;intro _ hS));refine jt ⟨?_⟩;rw[show((n:Int)).toNat=n by omega];(repeat(refine jt ⟨?_⟩;refine hS.q ?_;intro _ hS));refine jt ⟨?_⟩;refine Ae.mk (by rw[Ba,D3];omega) ?_
  rw[hjoin];(repeat(refine jt ⟨?_⟩;refine hS.q ?_;intro _ hS));refine jt ⟨?_⟩;refine hS.al ?_;intro b8 w6 _ hS;(repeat(refine jt ⟨?_⟩;refine hS.q ?_;intro _ hS));refine jt ⟨?_⟩;refine AM.draw AK mixed (λw'=>St w _ _ w') [13] [0,1,2,3,4,5,6,8,9,7,10,11,12,13] AD hS.drew ?_;have hS:=hS.drew;refine jr ⟨?_⟩;refine(hshs _).mono ?_;rintro _ w7⟨rfl,hS'⟩;have hS:=hS.call0 hS';refine Ae.mk hS ?_;refine jr ⟨?_⟩
  (repeat(refine jt ⟨?_⟩;refine hS.q ?_;intro _ hS));refine jt ⟨?_⟩;simp only[decide_true,Bool.not_true]at hS;refine(Tv (hS.part (L:=[(b,EL rb last),(rb,A6 (Bd x.v++r))])) (by rw[AP]at hl3;omega)).mono ?_;rintro _ w8⟨rfl,hS'⟩;have hS:=hS.call (L:=[(b,EL rb last),(rb,A6 (Bd x.v++r))]) hS';(repeat(refine jt ⟨?_⟩;refine hS.q ?_;intro _ hS));refine jt ⟨?_⟩;refine⟨by simp[B9,AU,hd],hS.sub ?_⟩;exact(CD [(b,_),(rb,_)] _).trans (AS _ _)
theorem lQ{l:List AF}{i:Nat}(h:i<l.length):Dv (CF [] (l.take i)) (l.drop i)=GU (CF [] (l.take i)) l[i]++Dv (CF [] (l.take (i+1))) (l.drop (i+1)):=by
 rw[FM h,Dv,Bq h,RA]
set_option maxRecDepth 8000 in
theorem Y9{w:World}{l:List AF}(hr:Az l)(hf:Kg l)(hfit:Ie l)(hn:l.length≤16777216):
  Cl Tryz.prog lV [AG (E7 l)] w λv w'=>∃a c L,v= .tuple ⟨[.slice a l.length c,.int .i64 0]⟩∧AT Ap 4 a l.length c (l.flatMap AU) L∧St w [] L w':=by
 have hS:=St.start w;have hn10:=EO l.length AA;have hsz:=hfit.sz;have hel:=OF l [] hfit AB;have hbl:(E7 l).length≤70368744177664:=by unfold E7;rw[AP];omega
 refine dP rfl ?_;refine jq ⟨?_⟩;refine Pe.mono ?_;rintro _ w1⟨rb,rfl,hS'⟩;have hS:=hS.callNew hS';rw[BT]at hS;refine jq ⟨?_⟩;refine hS.al ?_;intro b w2 _ hS;refine jq ⟨?_⟩;unfold E7 at hS hbl;refine(Nz (hS.part (L:=[(b,EL rb []),(rb,A6 (Ak l.length++Dv [] l))])) AA hbl).mono ?_;rintro _ w3⟨rfl,hS'⟩;have hS:=hS.call (L:=[(b,EL rb []),(rb,A6 (Ak l.length++Dv [] l))]) hS';refine jq ⟨?_⟩;refine AM.loop (λi:Nat×Option Addr×Nat=>[(4,ptr b),(5,.int .u64 l.length),(6,.slice i.2.1 i.1 i.2.2),(7,.int .u64 i.1)])
  (λi w'=>i.1≤l.length∧ ∃L,AT Ap 4 i.2.1 i.1 i.2.2 ((l.take i.1).flatMap AU) L∧St w [] (L++[(b,EL rb (CF [] (l.take i.1))),(rb,A6 (Dv (CF [] (l.take i.1)) (l.drop i.1)))]) w') (λi=>l.length-i.1) (0,none,0)
  ⟨rfl,rfl,rfl,rfl,trivial⟩ ⟨Ag _,[],AT.nil,hS⟩ ?_
 clear hS hS';rintro⟨i,a,c⟩w5⟨hi,L,hv,hS⟩;simp only at hi hv hS⊢;by_cases hil:i<l.length
 ·have hent:=lQ hil;have hsucc:=Bq hil;have hfx:=hf l[i] (CW hil);have hsx:=hfit.seq l[i] (CW hil);have hzx:=Lj (CW hil);have hzx2:CR l[i]=l[i].k.length+l[i].v.length:=rfl;have htl:(l.take i).length=i:=by rw[Ba];omega
  have hlk:(CF [] (l.take i)).length≤1099511627776:=by
   unfold CF
   split
   ·simp
   ·rename_i y hy;have:=Lj (HJ (K7 hy));have h2:CR y=y.k.length+y.v.length:=rfl;omega
  have hfd:Ie (l.drop i):=⟨λy hy=>hfit.seq y (List.mem_of_mem_drop hy),by
   have:=G9 (l.take i) (l.drop i);rw[CN]at this;omega⟩
  have hbd:=OF (l.drop i) (CF [] (l.take i)) hfd hlk;rw[D3]at hbd;have hbd2:=hfd.sz;rw[hent]at hS hbd;have hlk2:CF [] (l.take (i+1))=l[i].k:=by rw[hsucc,RA]
  have hris: ∀(hp:0<i),CK l[i-1] l[i]=true:=λhp=>Jb.1 hr (i-1) i AA hil AA;have hpv: ∀(hp:0<i),(l.take i)[i-1]'AA=l[i-1]:=λhp=>by rw[List.getElem_take]
  generalize hu:l[i]=u at hfx hsx hzx hzx2 hris hS hbd hsucc hlk2;(repeat(refine jt ⟨?_⟩;refine hS.q ?_;intro _ hS));refine jt ⟨?_⟩;refine(bO (hS.part (L:=[(b,EL rb (CF [] (l.take i))),(rb,A6 (GU (CF [] (l.take i)) u++Dv (CF [] (l.take (i+1))) (l.drop (i+1))))])) AA hlk hsx hfx AA).mono ?_;rintro _ w6⟨rfl,hS'⟩;have hS:=hS.call (L:=[(b,EL rb (CF [] (l.take i))),(rb,A6 (GU (CF [] (l.take i)) u++Dv (CF [] (l.take (i+1))) (l.drop (i+1))))]) hS'
  rw[show B9 u= .agg ⟨[AG u.k,.int .i64 u.s,.bool u.d,AG u.v]⟩from rfl];refine jq ⟨?_⟩;refine hS.al ?_;intro b8 w7 _ hS;(repeat(refine jt ⟨?_⟩;refine hS.q ?_;intro _ hS));refine jt ⟨?_⟩;by_cases h0:0<i
  ·have hris:=hris h0;have hpv:=hpv h0;generalize l[i-1]=v at hris hpv;have hrs:=λw=>Rw v u w;unfold B9 AU at hrs;rw[hris]at hrs;rcases hv.inv with⟨-,h1, -, -, -⟩|⟨g,tl,rfl,hx4,hx5,hx6,hLe⟩
   ·omega
   refine AM.draw AK mixed (λw'=>St w _ _ w') [21] [0,1,2,3,4,5,6,7,8,9,10,11,12,13,14,15,16,17,18,19,20,21] AD hS.drew ?_;have hS:=hS.drew;refine jr ⟨?_⟩;refine Jf (cs:=[AG v.k,.int .i64 v.s,.bool v.d,AG v.v]) rfl (λw' hw j x hj=>by
    obtain⟨g',o',h1,h2⟩:=FL (hv.arr hw (T':=[]) AB) (k:=i-1) AA;simp only[Option.some.injEq,Addr.mk.injEq,and_true]at h1;obtain⟨rfl,rfl⟩:=h1;have:=h2 j x (by rw[hpv];exact hj);rw[show 0+((i:Int)-1).toNat*4+j=0+(i-1)*4+j by omega];exact this) ?_
   refine jr ⟨?_⟩;refine(hrs _).mono ?_;rintro _ w8⟨rfl,hS'⟩;have hS:=hS.call0 hS';refine Ae.mk hS ?_;refine jr ⟨?_⟩;(repeat(refine jt ⟨?_⟩;refine hS.q ?_;intro _ hS));refine jt ⟨?_⟩;refine hS.al ?_;intro b9 w8 _ hS;(repeat(refine jt ⟨?_⟩;refine hS.q ?_;intro _ hS));refine jt ⟨?_⟩
   try simp only[Bool.not_true]at hS
   refine St.app (sz:=4) (m:=1) AK rfl rfl rfl rfl hS hv (news:=AU u) (by rfl) (hS.arr (b:=b9) (T':=[]) AB) (by rfl) (by show(_+_)*48≤_;omega) AA ?_;intro a4 c4 L4 w9 hv4 hS;(repeat(refine jt ⟨?_⟩;refine hS.q ?_;intro _ hS));refine jt ⟨?_⟩;refine⟨(i+1,a4,c4),⟨rfl,rfl,rfl,rfl,trivial⟩,⟨hil,L4,by rw[hsucc,Hh];exact hv4,?_⟩,by simp;omega⟩;rw[hlk2]at hS⊢;exact hS.sub ((AS _ _).trans (AS _ _))
  ·refine AM.draw AK mixed (λw'=>St w _ _ w') [21] [0,1,2,3,4,5,6,7,8,9,10,11,12,13,14,15,16,17,18,19,20,21] AD hS.drew ?_;have hS:=hS.drew;refine jr ⟨?_⟩;(repeat(refine jt ⟨?_⟩;refine hS.q ?_;intro _ hS));refine jt ⟨?_⟩;refine hS.al ?_;intro b9 w8 _ hS;(repeat(refine jt ⟨?_⟩;refine hS.q ?_;intro _ hS));refine jt ⟨?_⟩
   try simp only[Bool.not_true]at hS
   refine St.app (sz:=4) (m:=1) AK rfl rfl rfl rfl hS hv (news:=AU u) (by rfl) (hS.arr (b:=b9) (T':=[]) AB) (by rfl) (by show(_+_)*48≤_;omega) AA ?_;intro a4 c4 L4 w9 hv4 hS;(repeat(refine jt ⟨?_⟩;refine hS.q ?_;intro _ hS));refine jt ⟨?_⟩;refine⟨(i+1,a4,c4),⟨rfl,rfl,rfl,rfl,trivial⟩,⟨hil,L4,by rw[hsucc,Hh];exact hv4,?_⟩,by simp;omega⟩;rw[hlk2]at hS⊢;exact hS.sub ((AS _ _).trans (AS _ _))
 ·obtain rfl:i=l.length:=AA;rw[Bz]at hv;rw[II]at hS;simp only[Dv]at hS;(repeat(refine jt ⟨?_⟩;refine hS.q ?_;intro _ hS));refine jt ⟨?_⟩;refine(Pf (hS.part (L:=[(rb,A6 [])]))).mono ?_;rintro _ w6⟨rfl,hS'⟩;have hS:=hS.call0 hS';(repeat(refine jt ⟨?_⟩;refine hS.q ?_;intro _ hS));refine jt ⟨?_⟩;exact⟨a,c,L,rfl,hv,hS.sub (CD _ _)⟩
def Fi(x:AF):AF:={x with v:=if x.d then []else x.v}
theorem Zg{w:World}{b adds:Nat}{l:List AF}{L:AH}(hM:Fy b l adds L)(hh:Holds L w)(hr:Az l){g off c:Nat}{x:AF}(ha:Arr w (keys L) (some ⟨g,off,none⟩) (AU x))(hb1:An l+CR x≤1099511627776)(hb2:l.length≤1099511627776)(hb3:adds≤4611686018427387904):
  Cl Tryz.prog nJ [ptr b,.slice (some ⟨g,off,none⟩) 1 c] w λ_ w'=>∃L',Fy b (DP (Fi x) l) (adds+1) L'∧St w (keys L) L' w':=by
 have hS:=St.enter hh;obtain⟨ns,hl,hhs,ht,hn,hc,hts,Lh,hv,hhr,turn,htn⟩:=hM;obtain⟨A,B,hab,hA,hB⟩:=N3 x.k x.s ns;rw[hl]at hA hB;generalize hT:keys ((b,Obj.cells ⟨memC ns.length (An l) ns ht hn hc turn⟩ ES (0,0))::(EH ns++Lh))=T0 at hS ha⊢;subst hab;have hx0:(AU x).drop 0=AU x:=rfl;refine fK rfl ?_;refine jq ⟨?_⟩;refine AM.loop (λk:Nat=>[(0,ptr b),(10,.slice (some ⟨g,off,none⟩) 1 c),(11,.int .i64 1),(12,.int .i64 k)])
  (λk w'=>(k=0∧St w T0 ((b,.cells ⟨memC (A++B).length (An l) (A++B) ht hn hc turn⟩ ES (0,0))::(EH (A++B)++Lh)) w')∨(k=1∧ ∃L',Fy b (DP (Fi x) l) (adds+1) L'∧St w T0 L' w')) (λk=>1-k) 0
  ⟨rfl,rfl,rfl,rfl,trivial⟩ (.inl ⟨rfl,hS⟩) ?_
 clear hS;rintro k w1(⟨rfl,hS⟩|⟨rfl,L',hM',hS⟩)
 rotate_left
 ·refine jq ⟨?_⟩;exact⟨L',hM',hS⟩
 ·refine jq ⟨?_⟩;refine Arr.ldn hS ha rfl (k:=0) (l':=[AG x.k,.int .i64 x.s,.bool x.d,AG x.v]) rfl rfl ?_;refine jq ⟨?_⟩;refine hS.al ?_;intro b5 w2 _ hS;(repeat(refine ju ⟨?_⟩;refine hS.q ?_;intro _ hS));refine ju ⟨?_⟩;refine AM.join (λ_:Unit=>[(0,ptr b),(10,.slice (some ⟨g,off,none⟩) 1 c),(11,.int .i64 1),(12,.int .i64 (0:Nat)),(5,ptr b5)]) (λ_ w'=>St w T0 ((b5,.cells ⟨[AG x.k,.int .i64 x.s,.bool x.d,AG (Fi x).v]⟩ Ap (0,0))::(b,.cells ⟨memC (A++B).length (An l) (A++B) ht hn hc turn⟩ ES (0,0))::(EH (A++B)++Lh)) w') ?_ ?_
  ·have hS:=hS;(repeat(refine jt ⟨?_⟩;refine hS.q ?_;intro _ hS));refine jt ⟨?_⟩;refine Ax.bool (λhd=>?_) (λhd=>?_)
   ·have e:(Fi x).v=[]:=by unfold Fi;rw[hd];rfl
    rw[e];(repeat(refine jt ⟨?_⟩;refine hS.q ?_;intro _ hS));refine jt ⟨?_⟩;exact⟨(),⟨rfl,rfl,rfl,rfl,rfl,trivial⟩,hS⟩
   ·have e:(Fi x).v=x.v:=by unfold Fi;rw[hd];rfl
    rw[e];(repeat(refine jt ⟨?_⟩;refine hS.q ?_;intro _ hS));refine jt ⟨?_⟩;exact⟨(),⟨rfl,rfl,rfl,rfl,rfl,trivial⟩,hS⟩
  clear hS;rintro _ w3 hS;have hcv:(Fi x).v.length≤x.v.length:=by unfold Fi;simp only;split<;>simp
  have hck:(Fi x).k=x.k∧(Fi x).s=x.s∧(Fi x).d=x.d:=⟨rfl,rfl,rfl⟩;have hmr: ∀y∈A++B,1≤y.h:=λy hy=>(hhs y hy).1;have hah:=λ{w:World}(hM:Fe b (A++B) ((b,.cells ⟨memC (A++B).length (An l) (A++B) ht hn hc turn⟩ ES (0,0))::(EH (A++B)++Lh)))hh=>Td (w:=w) hM hh (Fi x) (QJ hA _ rfl rfl) (QK hr hB _ rfl rfl);have hins:DP (Fi x) l=A.map (·.e)++Fi x::(match B.map (·.e)with|[]=>[]|y::r=>if y.k=x.k∧y.s=x.s then r else y::r):=by
   rw[J6,hA,hB];rfl
  have hin:Fe b (A++B) ((b,.cells ⟨memC (A++B).length (An l) (A++B) ht hn hc turn⟩ ES (0,0))::(EH (A++B)++Lh)):=⟨⟨_,_,_,_,_,_,CM⟩,λp hp=>CH _ (Eg _ hp)⟩;have hahs:=λ{w:World}hh=>hah (w:=w) hin hh;unfold B9 AU at hahs;simp only[hck.1,hck.2.1,hck.2.2]at hahs;have hxs:CR x=x.k.length+x.v.length:=rfl;generalize hcx:Fi x=y at hS hcv hck hins hahs⊢;generalize hyv:y.v=v at hS hcv hahs;have hey:AU y=[AG x.k,.int .i64 x.s,.bool x.d,AG v]:=by unfold AU;rw[hck.1,hck.2.1,hck.2.2,hyv]
  (repeat(refine jt ⟨?_⟩;refine hS.q ?_;intro _ hS));refine jt ⟨?_⟩;refine(hahs (hS.part (L:=(b,.cells ⟨memC (A++B).length (An l) (A++B) ht hn hc turn⟩ ES (0,0))::(EH (A++B)++Lh)))).mono ?_;rintro _ w4⟨rfl,hS'⟩;have hS:=hS.call (L:=(b,.cells ⟨memC (A++B).length (An l) (A++B) ht hn hc turn⟩ ES (0,0))::(EH (A++B)++Lh)) hS';refine jq ⟨?_⟩;refine hS.al ?_;intro b6 w5 _ hS;refine jq ⟨?_⟩;refine hS.st (XK b 0 A) rfl ?_
  intro w6 hS;have hS:St w T0 ((b6,.cells ⟨D8 b 0 A⟩ FJ (0,0))::(b5,.cells ⟨[AG x.k,.int .i64 x.s,.bool x.d,AG v]⟩ Ap (0,0))::(b,.cells ⟨memC (A++B).length (An l) (A++B) ht hn hc turn⟩ ES (0,0))::(EH (A++B)++Lh)) w6:=hS;have hinH:Fe b (A++B) ((b6,.cells ⟨D8 b 0 A⟩ FJ (0,0))::(b5,.cells ⟨[AG x.k,.int .i64 x.s,.bool x.d,AG v]⟩ Ap (0,0))::(b,.cells ⟨memC (A++B).length (An l) (A++B) ht hn hc turn⟩ ES (0,0))::(EH (A++B)++Lh)):=
   ⟨⟨_,_,_,_,_,_,CH _ (CH _ CM)⟩,λp hp=>CH _ (CH _ (hin.nodes p hp))⟩
  have hpos: ∃g off,Ff b A 0 g off:=by
   rcases J8 A with rfl|⟨A0,y,rfl⟩
   ·exact⟨b,2,Ff.head b 0⟩
   ·exact⟨y.b,0,⟨.inr ⟨A0,y,AB,rfl,rfl,by have:=hmr y AB;omega⟩⟩⟩
  obtain⟨g0,o0,hp0⟩:=hpos;(repeat(refine ju ⟨?_⟩;refine hS.q ?_;intro _ hS));refine ju ⟨?_⟩;refine AM.join (λ_:Unit=>[(0,ptr b),(10,.slice (some ⟨g,off,none⟩) 1 c),(11,.int .i64 1),(12,.int .i64 (0:Nat)),(5,ptr b5),(6,ptr b6)])
   (λ_ w'=>(∀z∈B.head?,¬GQ z.e y)∧St w T0 ((b6,.cells ⟨D8 b 0 A⟩ FJ (0,0))::(b5,.cells ⟨[AG x.k,.int .i64 x.s,.bool x.d,AG v]⟩ Ap (0,0))::(b,.cells ⟨memC (A++B).length (An l) (A++B) ht hn hc turn⟩ ES (0,0))::(EH (A++B)++Lh)) w') ?_ ?_
  ·refine jq ⟨?_⟩;refine hS.ld (v:=lastP (F7 b) 0 A) (NB b A 0 AA) ?_;rw[hp0.lastP];refine jq ⟨?_⟩;refine K9 (hinH.next hS (l:=0) AA hp0) ?_;cases B with
   |nil=>
    refine jq ⟨?_⟩;refine AM.draw AK mixed (λw'=>St w _ _ w') [8,9,10] [0,1,2,3,4,5,6,7,8,9,10] AD hS.drew ?_;have hS:=hS.drew;refine jr ⟨?_⟩;refine jq ⟨?_⟩;exact⟨(),⟨rfl,rfl,rfl,rfl,rfl,rfl,trivial⟩,AB,hS⟩
   |cons z B=>
    have hz1:1≤z.h:=hmr z AB;rw[show Bt 0 (z::B)=ptr z.b by show(if _ then _ else _)=_;rw[if_pos AA]];refine jq ⟨?_⟩;refine AM.draw AK mixed (λw'=>St w _ _ w') [8,9,10] [0,1,2,3,4,5,6,7,8,9,10] AD hS.drew ?_;have hS:=hS.drew;refine jr ⟨?_⟩;refine Jf (cs:=AU z.e) rfl (λw' hw j v hv=>by rw[DR];exact hinH.ent hw j v hv) ?_;refine jr ⟨?_⟩;have hcmp:=λw=>RN z.e y w;unfold B9 at hcmp;rw[hey]at hcmp;refine(hcmp _).mono ?_
    rintro _ w7⟨rfl,hS'⟩;have hS:=hS.call0 hS';refine jr ⟨?_⟩;by_cases hsame:GQ z.e y
    ·rw[(QN _ _).2 hsame];refine jq ⟨?_⟩;have hzl:z.e∈l:=by rw[←hl];simp
     have hzs:=Lj hzl;have hzz:CR z.e=z.e.k.length+z.e.v.length:=rfl;have hsz:An (DP y l)+z.e.v.length=An l+v.length:=by
      have e1:An l=An (A.map (·.e))+(CR z.e+An (B.map (·.e))):=by
       rw[←hl,A7,G9,A4];simp[An]
      have e2:An (DP y l)=An (A.map (·.e))+(CR y+An (B.map (·.e))):=by
       rw[hins,G9];simp only[A4,hsame.1,hsame.2,hck.1,hck.2.1,and_self,if_true];simp[An]
      have e3:CR y=y.k.length+y.v.length:=rfl;have e4:=congrArg List.length hsame.1;rw[hyv]at e3;omega
     have hN:EH (A++z::B)=D6 A (z::B)++((z.b,.cells ⟨DH z B⟩ HF (0,0))::EH B):=Mz A (z::B);rw[hN]at hS;refine AM.draw AK mixed (λw'=>St w _ _ w') [19] [0,1,2,3,4,5,6,7,8,9,10,11,12,13,14,15,16,17,18,19] AD hS.drew ?_;have hS:=hS.drew;refine jr ⟨?_⟩;refine hS.q ?_;intro w8 hS;(repeat(refine jt ⟨?_⟩;refine hS.q ?_;intro _ hS));refine jt ⟨?_⟩;have e5:DH {z with e:=y} B=AG x.k:: .int .i64 x.s:: .bool x.d::AG v::Dz (F5 z.h B):=by unfold DH;rw[hey];rfl
     have e6:(An l:Int)+((v.length:Int)-(z.e.v.length:Int))=((An (DP y l):Nat):Int):=AA;have hS2:St w T0 ((b6,.cells ⟨D8 b 0 A⟩ FJ (0,0))::(b5,.cells ⟨[AG x.k,.int .i64 x.s,.bool x.d,AG v]⟩ Ap (0,0))::(b,.cells ⟨memC (A++z::B).length ((An l:Int)+((v.length:Int)-(z.e.v.length:Int))) (A++z::B) ht hn hc turn⟩ ES (0,0))::
      ((D6 A (z::B)++((z.b,.cells ⟨AG x.k:: .int .i64 x.s:: .bool x.d::AG v::Dz (F5 z.h B)⟩ HF (0,0))::EH B))++Lh)) _:=hS
     rw[e6,tR _ _ A B z y,uT A B z y,←e5,show(A++z::B).length=(A++{z with e:=y}::B).length by simp]at hS2;have hS3:=hS2.sub ((AS _ _).trans (AS _ _));refine⟨1,⟨rfl,rfl,rfl,rfl,trivial⟩,.inr ⟨rfl,_,Fy.mk (A++{z with e:=y}::B) ?_ ?_ ht hn hc hts Lh hv hhr turn AA,?_⟩,AA⟩
     ·rw[hins];simp only[A7,A4,hsame.1,hsame.2,hck.1,hck.2.1,and_self,if_true]
     ·intro u hu;rcases Bk.1 hu with hu|hu
      ·exact hhs u (by simp[hu])
      ·rcases As.1 hu with rfl|hu
       ·exact hhs z AB
       ·exact hhs u (by simp[hu])
     ·rw[Mz];exact hS3
    ·have hne: ¬G2 z.e y=0:=λh=>hsame ((QN _ _).1 h);refine jq ⟨?_⟩;exact⟨(),⟨rfl,rfl,rfl,rfl,rfl,rfl,trivial⟩,by simpa using hsame,hS⟩
  ·clear hS;rintro _ w7⟨hns,hS⟩;have hS:=hS;(repeat(refine jt ⟨?_⟩;refine hS.q ?_;intro _ hS));refine jt ⟨?_⟩;refine hS.al ?_;intro b8 w8 _ hS;have hS:St w T0 ((b8,.cells ⟨AG x.k:: .int .i64 x.s:: .bool x.d::AG v::Dz (λ_=> .pointer none)⟩ HF (0,0))::(b6,.cells ⟨D8 b 0 A⟩ FJ (0,0))::(b5,.cells ⟨[AG x.k,.int .i64 x.s,.bool x.d,AG v]⟩ Ap (0,0))::(((b,.cells ⟨memC (A++B).length (An l) (A++B) ht hn hc turn⟩ ES (0,0))::Lh)++EH (A++B))) w8:=
    St.perm hS (.cons _ (.cons _ (.cons _ (.cons _ Gl))))
   refine jq ⟨?_⟩;refine(sA hv hhr htn hb3 (hS.part (L:=(b,.cells ⟨memC (A++B).length (An l) (A++B) ht hn hc turn⟩ ES (0,0))::Lh))).mono ?_;rintro _ w9⟨h,turn',rfl,hh1,hh8,htn',hS'⟩;have hS:=hS.call (L:=(b,.cells ⟨memC (A++B).length (An l) (A++B) ht hn hc turn⟩ ES (0,0))::Lh) hS';refine jq ⟨?_⟩;have hS0:St w T0 ((b8,.cells ⟨DH (CX b8 y 0) B⟩ HF (0,0))::(b6,.cells ⟨D8 b 0 A⟩ FJ (0,0))::(b5,.cells ⟨[AG x.k,.int .i64 x.s,.bool x.d,AG v]⟩ Ap (0,0))::
     (b,.cells ⟨memC (A++B).length (An l) (A++CX b8 y 0::B) ht hn hc turn'⟩ ES (0,0))::((D6 A (CX b8 y 0::B)++EH B)++Lh)) w9:=by
    rw[←uU,←Mz,←tU,←uS,hey];exact St.perm hS (.cons _ (.cons _ (.cons _ (.cons _ Gl))))
   clear hS;refine AM.loop (λk:Nat=>[(0,ptr b),(10,.slice (some ⟨g,off,none⟩) 1 c),(11,.int .i64 1),(12,.int .i64 (0:Nat)),(5,ptr b5),(6,ptr b6),(8,ptr b8),(66,.int .i64 h),(67,.int .i64 k)])
    (λk w'=>k≤h∧St w T0 ((b8,.cells ⟨DH (CX b8 y k) B⟩ HF (0,0))::(b6,.cells ⟨D8 b 0 A⟩ FJ (0,0))::(b5,.cells ⟨[AG x.k,.int .i64 x.s,.bool x.d,AG v]⟩ Ap (0,0))::
     (b,.cells ⟨memC (A++B).length (An l) (A++CX b8 y k::B) ht hn hc turn'⟩ ES (0,0))::((D6 A (CX b8 y k::B)++EH B)++Lh)) w') (λk=>h-k) 0
    ⟨rfl,rfl,rfl,rfl,rfl,rfl,rfl,rfl,rfl,trivial⟩ ⟨Ag _,hS0⟩ ?_
   clear hS0;rintro k w10⟨hk,hS⟩;by_cases hkh:k<h
   ·have hk8:k<8:=AA;obtain⟨pv,hpv⟩:=u9 k B;rcases UJ k A with hn0|⟨A0,y0,A2,hA0,hy0,hn0⟩
    ·have hlp:lastP (F7 b) k A= .pointer (some ⟨b,2,none⟩):=Od _ _ hn0;have hnx:Bt k (A++CX b8 y k::B)=Bt k B:=by rw[M6 hn0,W5]
     (repeat(refine jt ⟨?_⟩;refine hS.q ?_;intro _ hS));refine jt ⟨?_⟩;refine AM.draw AK mixed (λw'=>St w _ _ w') [13] [0,1,2,3,4,5,6,7,8,9,10,11,12,13] AD hS.drew ?_;have hS:=hS.drew;refine jr ⟨?_⟩;refine hS.ldC (v:=lastP (F7 b) k A) (by rw[show 0+((k:Int)).toNat*1=k by omega];exact NB b A k hk8) ?_;rw[hlp];refine jr ⟨?_⟩;refine hS.ldC (v:= .pointer pv) (by rw[show 2+4+((k:Int)).toNat*1=2+(4+k) by omega,tS _ _ _ _ _ _ _ k hk8,hnx,hpv]) ?_
     refine jr ⟨?_⟩;refine hS.stI (off:=0+4+((k:Int)).toNat*1) (l:=DH (CX b8 y k) B) (by rfl) (by rw[RS];omega) ?_;intro w11 hS;have hS:=hS;rw[show 0+4+((k:Int)).toNat*1=4+k by omega,←hpv,Wt b8 y k hk8 B]at hS;refine jq ⟨?_⟩;refine hS.ld (v:=lastP (F7 b) k A) (by rw[show 0+((k:Int)).toNat*1=k by omega];exact NB b A k hk8) ?_;rw[hlp];refine jq ⟨?_⟩;refine hS.stI (off:=2+4+((k:Int)).toNat*1) (l:=memC (A++B).length (An l) (A++CX b8 y k::B) ht hn hc turn') (by rfl) (by rw[tT];omega) ?_
     intro w12 hS;have hS:=hS;rw[show 2+4+((k:Int)).toNat*1=2+(4+k) by omega,r8 hk8 hn0,Wv b8 y B hn0]at hS;refine jq ⟨?_⟩;exact⟨k+1,⟨rfl,rfl,rfl,rfl,rfl,rfl,rfl,rfl,rfl,trivial⟩,⟨AA,hS⟩,AA⟩
    ·have hlp:lastP (F7 b) k A= .pointer (some ⟨y0.b,0,none⟩):=by
      rw[hA0,Oc];show lastP (if k<y0.h then ptr y0.b else _) k A2=_;rw[if_pos hy0,Od _ _ hn0]
     have hcl:F5 y0.h (A2++CX b8 y k::B) k=Bt k B:=by
      unfold F5;rw[if_pos hy0,M6 hn0,W5]
     have hNA: ∀R,D6 A R=D6 A0 (y0::A2++R)++((y0.b,.cells ⟨DH y0 (A2++R)⟩ HF (0,0))::D6 A2 R):=λR=>by rw[hA0,Wu];rfl
     have hS:=hS;rw[hNA]at hS;(repeat(refine jt ⟨?_⟩;refine hS.q ?_;intro _ hS));refine jt ⟨?_⟩;refine AM.draw AK mixed (λw'=>St w _ _ w') [13] [0,1,2,3,4,5,6,7,8,9,10,11,12,13] AD hS.drew ?_;have hS:=hS.drew;refine jr ⟨?_⟩;refine hS.ldC (v:=lastP (F7 b) k A) (by rw[show 0+((k:Int)).toNat*1=k by omega];exact NB b A k hk8) ?_;rw[hlp];refine jr ⟨?_⟩;refine hS.ldC (v:= .pointer pv) (by rw[show 0+4+((k:Int)).toNat*1=4+k by omega,uR _ _ k hk8,hcl,hpv]) ?_
     refine jr ⟨?_⟩;refine hS.stI (off:=0+4+((k:Int)).toNat*1) (l:=DH (CX b8 y k) B) (by rfl) (by rw[RS];omega) ?_;intro w11 hS;have hS:=hS;rw[show 0+4+((k:Int)).toNat*1=4+k by omega,←hpv,Wt b8 y k hk8 B]at hS;refine jq ⟨?_⟩;refine hS.ld (v:=lastP (F7 b) k A) (by rw[show 0+((k:Int)).toNat*1=k by omega];exact NB b A k hk8) ?_;rw[hlp];refine jq ⟨?_⟩;refine hS.stI (off:=0+4+((k:Int)).toNat*1) (l:=DH y0 (A2++CX b8 y k::B)) (by rfl) (by rw[RS];omega) ?_
     intro w12 hS;have hS:=hS;rw[show 0+4+((k:Int)).toNat*1=4+k by omega,wA hk8 hy0 hn0,Wv b8 y B hn0,Ww (A:=A0) b8 y B (y0::A2) (.inr ⟨y0,CM,hy0⟩),tX ⟨y0,by rw[hA0];simp,hy0⟩]at hS;refine jq ⟨?_⟩;exact⟨k+1,⟨rfl,rfl,rfl,rfl,rfl,rfl,rfl,rfl,rfl,trivial⟩,⟨AA,by rw[hNA];exact hS⟩,AA⟩
   ·obtain rfl:k=h:=AA;have hll:(A++B).length=l.length:=by rw[←hl,BZ]
    have hsz:An (DP y l)=An l+x.k.length+v.length:=by
     have e1:An l=An (A.map (·.e))+An (B.map (·.e)):=by rw[←hl,A7,G9]
     have e3:CR y=y.k.length+y.v.length:=rfl;have e2:An (DP y l)=An (A.map (·.e))+(CR y+An (B.map (·.e))):=by
      rw[hins,G9]
      congr 1
      cases B with
      |nil=>simp[An]
      |cons z B=>
       have:=hns z AB;simp only[A4];rw[if_neg (λh=>this ⟨h.1.trans hck.1.symm,h.2.trans hck.2.1.symm⟩)];simp[An]
     rw[hyv,hck.1]at e3;omega
    (repeat(refine jt ⟨?_⟩;refine hS.q ?_;intro _ hS));refine jt ⟨?_⟩;refine AM.draw AK mixed (λw'=>St w _ _ w') [16] [0,1,2,3,4,5,6,7,8,9,10,11,12,13,14,15,16] AD hS.drew ?_;have hS:=hS.drew;refine jr ⟨?_⟩;refine hS.q ?_;intro w11 hS;refine jq ⟨?_⟩;have e6:(An l:Int)+((x.k.length:Int)+(v.length:Int))=((An (DP y l):Nat):Int):=AA;have e7:(((A++B).length:Nat):Int)+1=(((A++CX b8 y k::B).length:Nat):Int):=by simp;omega
    have hS2:St w T0 ((b8,.cells ⟨DH (CX b8 y k) B⟩ HF (0,0))::(b6,.cells ⟨D8 b 0 A⟩ FJ (0,0))::(b5,.cells ⟨[AG x.k,.int .i64 x.s,.bool x.d,AG v]⟩ Ap (0,0))::
     (b,.cells ⟨memC ((((A++B).length:Nat):Int)+1) ((An l:Int)+((x.k.length:Int)+(v.length:Int))) (A++CX b8 y k::B) ht hn hc turn'⟩ ES (0,0))::((D6 A (CX b8 y k::B)++EH B)++Lh)) w11:=hS
    rw[e6,e7]at hS2;have hS3:=hS2.sub (List.Sublist.cons_cons _ ((AS _ _).trans (AS _ _)));refine⟨1,⟨rfl,rfl,rfl,rfl,trivial⟩,.inr ⟨rfl,_,Fy.mk (A++CX b8 y k::B) ?_ ?_ ht hn hc hts Lh hv hhr turn' htn',?_⟩,AA⟩
    ·rw[hins,A7,A4]
     congr 1
     cases B with
     |nil=>rfl
     |cons z B=>
      have:=hns z AB;simp only[A4];rw[if_neg (λh=>this ⟨h.1.trans hck.1.symm,h.2.trans hck.2.1.symm⟩)]
      rfl
    ·intro u hu;rcases Bk.1 hu with hu|hu
     ·exact hhs u (by simp[hu])
     ·rcases As.1 hu with rfl|hu
      ·exact⟨hh1,hh8⟩
      ·exact hhs u (by simp[hu])
    ·rw[Mz];refine St.perm hS3 ?_;refine(List.Perm.swap _ _ _).trans (.cons _ ?_);rw[Aj,Aj];exact Dd.symm
end Go.Proofs.YtkgibdhpijdbfaaGreatDoor
