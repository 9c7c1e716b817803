/- Texts of this claim, one behind the other. -/
import Derived.Test.YtkgibdhpijdbfaaGreatDoorZ27
import Derived.Test.YtkgibdhpijdbfaaGreatDoorZ17
import Derived.Test.YtkgibdhpijdbfaaGreatDoorZ24
set_option linter.unusedVariables false
set_option linter.unusedSimpArgs false
set_option maxHeartbeats 16000000
namespace Go.Proofs.YtkgibdhpijdbfaaGreatDoor
open Go Go.Eng Go.Proofs
inductive Gy:List Value→List (List AF)→AH→Prop where
 |nil:Gy [] [] []
 |cons {a:Option Addr} {c:Nat} {l:List AF} {L:AH} {xs:List Value} {ls:List (List AF)} {M:AH} (hv:AT Ap 4 a l.length c (l.flatMap AU) L) (h:Gy xs ls M):Gy (.slice a l.length c::xs) (l::ls) (L++M)
theorem Gy.at{xs:List Value}{ls:List (List AF)}{L:AH}(h:Gy xs ls L){w:World}(hh:Holds L w):ED w xs ls:=by
 induction h with
 |nil=>exact .nil
 |cons hv _ ih=>exact .cons (hv.arr (St.enter hh) AB) hv.cap (ih hh.right)
theorem Gy.snoc{xs:List Value}{ls:List (List AF)}{M:AH}(h:Gy xs ls M){a:Option Addr}{c:Nat}{l:List AF}{L:AH}(hv:AT Ap 4 a l.length c (l.flatMap AU) L):Gy (xs++[.slice a l.length c]) (ls++[l]) (M++L):=by
 induction h with
 |nil=>have:=Gy.cons hv .nil;rwa[BT]at this
 |cons hv' _ ih=>rw[Aj];exact .cons hv' ih
theorem Gy.len{xs:List Value}{ls:List (List AF)}{L:AH}(h:Gy xs ls L):xs.length=ls.length:=by
 induction h with
 |nil=>rfl
 |cons _ _ ih=>simp[ih]
theorem yD{α:Type}(x y z:α)(A B C D N M R:List α):(x::y::z::(A++(B++(C++(D++(M++R)))))).Sublist (x::y::z::(A++(B++(C++(D++((N++M)++R)))))):=
 .cons_cons _ (.cons_cons _ (.cons_cons _ ((List.Sublist.refl A).append ((List.Sublist.refl B).append ((List.Sublist.refl C).append ((List.Sublist.refl D).append ((Ai N M).append (List.Sublist.refl R))))))))
theorem yK{α:Type}{p:α→Bool}{l:List α}{j:Nat}(hj:j≤l.length)(h1: ∀i(h:i<j),p (l[i]'AA)=true)(h2: ∀h:j<l.length,p l[j]=false):l.takeWhile p=l.take j:=by
 induction l generalizing j with
 |nil=>simp at hj;subst hj;rfl
 |cons x l ih=>
  cases j with
  |zero=>
   have:=h2 AB;simp only[Ja]at this;rw[List.takeWhile_cons_of_neg (by simp[this])];rfl
  |succ j=>
   have h0:=h1 0 AA;simp only[Ja]at h0;rw[List.takeWhile_cons_of_pos h0,KD,ih (j:=j) (by simpa using hj) (λi h=>by have:=h1 (i+1) AA;simpa using this) (λh=>by have:=h2 (by simpa using h);simpa using this)]
theorem y7(q:Int)(l:List AF):(FE q l).length≤l.length:=by
 have h: ∀gs:List (List AF),(gs.flatMap (Ex q)).length≤gs.length:=by
  intro gs
  induction gs with
  |nil=>simp
  |cons g gs ih=>
   rw[E9,AP,Ah];have:(Ex q g).length≤1:=by
    unfold Ex
    split
    ·simp
    ·split<;>simp
   omega
 exact Au (h _) (Mq l)
structure SI where
 k:Nat
 a:Option Addr
 c:Nat
structure VI where
 k:Nat
 n:Nat
 a:Option Addr
 c:Nat
set_option maxRecDepth 4000 in
theorem xA{w:World}{sb f:Nat}{s:AL}{m:AJ}{L:AH}(hO:AV sb f s m L)(hh:Holds L w)(k to:AE)(q:Int)(hr:Az s.mem)(hq:Hc s.mem)(hf: ∀x∈s.tabs,B8 x.2)(h1:Cz (BS s))(hn:(BS s).length≤8388608)(htn:s.tabs.length≤8388608)
  (hkr: ∀x∈s.tabs, -9223372036854775808≤x.1∧x.1≤9223372036854775807):
  Cl Tryz.prog VA [ptr sb,AG k,AG to,.int .i64 q] w λv w'=>∃r,r.Perm ((BS s).filter λx=> !Op.bytesLess x.k k)∧Az r∧
   ∃a c Lv,v= .slice a (HU to (FE q r)).length c∧AT Bs 3 a (HU to (FE q r)).length c (((HU to (FE q r)).map HR).flatMap A8) Lv∧St w (keys L) (Lv++L) w':=by
 have hS:=St.enter hh;generalize hT:keys L=T0 at hS⊢;obtain⟨L',hLL,hO⟩: ∃L',L'=L∧AV sb f s m L':=⟨L,rfl,hO⟩;obtain⟨sq,es,c,hsq,ha,hc,Lh,hvh,a,ca,La,hv,lv,Ll,hl,gv,Lg,hg,mb,Lm,hm,tm,et,ct,ks,ht,Lt,hts,LF,hF⟩:=hO;have hkk:=hts.keys;have hnd:(s.tabs.map (·.1)).Nodup:=by rw[←hkk];exact ht.nodupK Bn.i64
 have hnk:(ks.map (·.1)).Nodup:=by rw[hkk];exact hnd
 have hkl:ks.length=s.tabs.length:=by have:=congrArg List.length hkk;simpa using this
 have hal:s.mem.length+(s.tabs.map (·.2)).flatten.length≤8388608:=by simpa[BS]using hn
 rw[←hLL]at hS;refine iV rfl ?_;(repeat(refine jt ⟨?_⟩;refine hS.q ?_;intro _ hS));refine jt ⟨?_⟩;refine Cl.mono (Zi hm (hS.part (L:=Lm)) hr AA k) ?_;rintro _ w1⟨a1,c1,L1,rfl,hv1,hS'⟩;have hS:=hS.call (L:=Lm) hS';have hSb:=hS.sub (yD _ _ _ _ _ _ _ _ _ _);rw[hLL]at hSb;have hc13:w1.cell? ⟨sb,13,none⟩=some (.map (some tm)):=hS.cell (b:=sb) (off:=13) rfl;have htm:=hS.mem (b:=tm);have hrd: ∀x∈ks,∃l,(x.1,l)∈s.tabs∧ ∃a c nb,Fg w1 x.2 l a c nb:=λx hx=>hts.read (hS.part (L:=Lt)) hx
 have hl0:Arr w1 [] a1 ((Bp k 9223372036854775807 s.mem).flatMap AU):=hv1.arr hS AB;have hl0c:=hv1.cap;have hl0n:(Bp k 9223372036854775807 s.mem).length≤s.mem.length:=by
  have:=congrArg List.length (GG k 9223372036854775807 s.mem);rw[AP]at this;omega
 have hl0e:=Qs k hr hq;generalize Bp k 9223372036854775807 s.mem=l0 at hl0 hl0c hl0n hl0e⊢;clear hS' hv1 hS;have hS:=St.start w1;(repeat(refine jt ⟨?_⟩;refine hS.q ?_;intro _ hS));refine jt ⟨?_⟩;refine hS.al ?_;intro b21 w2 _ hS;(repeat(refine jt ⟨?_⟩;refine hS.q ?_;intro _ hS));refine jt ⟨?_⟩;refine hS.ldOld AB hc13 ?_;(repeat(refine jt ⟨?_⟩;refine hS.q ?_;intro _ hS));refine jt ⟨?_⟩;refine Cl.mono (sX _ _) ?_
 rintro _ w3⟨rfl,rfl⟩;have htm2:=(hS.old tm (Array.getElem?_eq_some_iff.1 htm).1 AB).trans htm;have hS:=hS.alloc (.cells #[.map (some tm)] IA);(repeat(refine jt ⟨?_⟩;refine hS.q ?_;intro _ hS));refine jt ⟨?_⟩;refine Cl.mono (xS htm2 ht AA (λx hx=>by
  have h1:x.1∈s.tabs.map (·.1):=by rw[←hkk];exact CC hx
  obtain⟨y,hy,hyx⟩:=BU.1 h1;rw[←hyx];exact hkr y hy)) ?_
 rintro _ w4⟨ns,an,cn,Ln,hp,rfl,hvn,hS'⟩;have hS:=hS.callNew hS';have hnl:ns.length=s.tabs.length:=by rw[←hkl];simpa using hp.length_eq
 have hpt:ns.Perm (s.tabs.map (·.1)):=by rw[←hkk];exact hp
 have hns: ∀n∈ns,∃tb l,(n,tb)∈ks∧(n,l)∈s.tabs∧ ∃a c nb,Fg w1 tb l a c nb:=by
  intro n hn;obtain⟨x,hx,rfl⟩:=BU.1 (hp.mem_iff.1 hn);obtain⟨l,h1,h2⟩:=hrd x hx;exact⟨x.2,l,hx,h1,h2⟩
 have hV0:AT GR 1 (some ⟨b21,0,none⟩) (0+1) 1 [.slice a1 l0.length c1] [(b21,.cells ⟨[.slice a1 l0.length c1]⟩ GR (0,0))]:=AT.made GR b21 [.slice a1 l0.length c1];(repeat(refine jt ⟨?_⟩;refine hS.q ?_;intro _ hS));refine jt ⟨?_⟩;refine AM.loop (λz:SI=>[(0,ptr sb),(1,AG k),(2,AG to),(3,.int .i64 q),(8,.slice none 0 0),(9,.slice z.a (z.k+1) z.c),(27,.slice an ns.length cn),(28,.int .i64 ns.length),(29,.int .i64 z.k)])
  (λz w'=>z.k≤ns.length∧ ∃xs Lx Lc,AT GR 1 z.a (z.k+1) z.c (.slice a1 l0.length c1::xs) Lx∧Gy xs ((ns.take z.k).map λn=>Bp k 9223372036854775807 (Ce s.tabs n)) Lc∧St w1 [] (Lx++(Lc++Ln)) w') (λz=>ns.length-z.k) ⟨0,some ⟨b21,0,none⟩,1⟩
  ⟨rfl,rfl,rfl,rfl,rfl,rfl,rfl,rfl,rfl,trivial⟩ ⟨Ag _,[],_,[],hV0,.nil,?_⟩ ?_
 ·exact(hS.sub (List.Sublist.append (List.Sublist.refl Ln) (AS _ _))).perm Gl
 clear hS hS' hV0;rintro⟨j,a9,c9⟩w5⟨hj,xs,Lx,Lc,hV,hLs,hS⟩;simp only at hj hV hLs hS⊢;by_cases hjl:j<ns.length
 ·have hnm:ns[j]∈ns:=CW hjl;obtain⟨tb,l,hk1,hl1,at1,ct1,nb,hTb⟩:=hns _ hnm;have htf:B8 l:=hf _ hl1;have hsucc:(ns.take (j+1)).map (λn=>Bp k 9223372036854775807 (Ce s.tabs n))=(ns.take j).map (λn=>Bp k 9223372036854775807 (Ce s.tabs n))++[Bp k 9223372036854775807 l]:=by
   rw[Bq hjl,A7,A4,GV];unfold Ce;rw[F9 hnd hl1];rfl
  obtain⟨gn,tn,rfl, -, -, -,rfl⟩: ∃g l',an=some ⟨g,0,none⟩∧(ns.map AY).length=ns.length*1∧(ns.map AY).length+l'.length=cn*1∧ns.length≤cn∧Ln=[(g,.cells ⟨ns.map AY++l'⟩ BX (0,0))]:=by
   rcases hvn.inv with⟨_,h,_⟩|h
   ·omega
   ·exact h
  have hget:(ns.map AY++tn)[j]?=some (AY ns[j]):=by
   rw[Cq (by rw[BZ];exact hjl)];simp[hjl]
  have hkg:=F9 hnk hk1;generalize ns[j]=n at hget hkg hk1 hl1;(repeat(refine jt ⟨?_⟩;refine hS.q ?_;intro _ hS));refine jt ⟨?_⟩;refine hS.ld (v:=AY n) (by rw[show 0+(j:Int).toNat*1=j by omega];exact hget) ?_;(repeat(refine jt ⟨?_⟩;refine hS.q ?_;intro _ hS));refine jt ⟨?_⟩;refine hS.ldOld AB hc13 ?_;(repeat(refine jt ⟨?_⟩;refine hS.q ?_;intro _ hS));refine jt ⟨?_⟩;refine IS AK Bn.i64 rfl rfl Em rfl (kvs:=ks) (λw' hw'=>⟨et,ct,by subst hw';exact hS.oldBlock AB htm,ht.of⟩) ?_
  simp only[hkg,I1,FA];(repeat(refine jt ⟨?_⟩;refine hS.q ?_;intro _ hS));refine jt ⟨?_⟩;refine Cl.mono (ZF (k:=k) (hTb.old hS) htf.rise (by have:=htf.len;omega)) ?_;rintro _ w6⟨a2,c2,L2,rfl,hv2,hS'⟩;have hS:=hS.callNew hS';have hfl:(Bp k 9223372036854775807 l).length≤64:=by
   have:=congrArg List.length (GG k 9223372036854775807 l);rw[AP]at this;have:=htf.len;omega
  generalize Bp k 9223372036854775807 l=lf at hsucc hv2 hS hfl⊢;have hLs2:=hLs.snoc hv2;rw[←hsucc]at hLs2;(repeat(refine jt ⟨?_⟩;refine hS.q ?_;intro _ hS));refine jt ⟨?_⟩;refine hS.al ?_;intro b42 w7 _ hS;(repeat(refine jt ⟨?_⟩;refine hS.q ?_;intro _ hS));refine jt ⟨?_⟩;refine St.app (sz:=1) (m:=1) AK rfl rfl rfl rfl hS hV (news:=[.slice a2 lf.length c2]) rfl (by have:=hS.arr (b:=b42) (T':=[]) AB;exact this) rfl (by show(_+_)*24≤_;omega) AA ?_
  intro a3 c3 L3 w8 hV3 hS;(repeat(refine jt ⟨?_⟩;refine hS.q ?_;intro _ hS));refine jt ⟨?_⟩;have hS:=hS.sub (AS _ _);rw[D1]at hV3;refine⟨⟨j+1,a3,c3⟩,⟨rfl,rfl,rfl,rfl,rfl,rfl,rfl,rfl,rfl,trivial⟩,⟨hjl,xs++[.slice a2 lf.length c2],L3,_,hV3,hLs2,hS.perm ?_⟩,by simp only;omega⟩;refine(GX L2 L3 _).trans (List.Perm.append_left _ ?_);rw[Aj];exact GX L2 Lc _
 ·obtain rfl:j=ns.length:=AA;rw[Bz]at hLs;have hmap:ns.map (λn=>Bp k 9223372036854775807 (Ce s.tabs n))=(ns.map (Ce s.tabs)).map (λl=>l.filter λx=> !Op.bytesLess x.k k):=by
   rw[Fo];apply KC;intro n hn;obtain⟨tb,l, -,hl1, -⟩:=hns n hn;have htf:B8 l:=hf _ hl1;show Bp k _ (Ce s.tabs n)=(Ce s.tabs n).filter _;unfold Ce;rw[F9 hnd hl1];exact Qs k htf.rise htf.seqs
  rw[hmap]at hLs;have hlen:(l0::(ns.map (Ce s.tabs)).map (λl=>l.filter λx=> !Op.bytesLess x.k k)).length=ns.length+1:=AB;have hperm:(l0::(ns.map (Ce s.tabs)).map (λl=>l.filter λx=> !Op.bytesLess x.k k)).flatten.Perm ((BS s).filter λx=> !Op.bytesLess x.k k):=by
   rw[Dc,VV,hl0e];unfold BS;rw[J9];exact List.Perm.append_left _ ((Yd hnd hpt).filter _)
  have hone:Cz (l0::(ns.map (Ce s.tabs)).map (λl=>l.filter λx=> !Op.bytesLess x.k k)).flatten:=Cz.perm (List.Pairwise.sublist List.filter_sublist h1) hperm.symm;have hfn:(l0::(ns.map (Ce s.tabs)).map (λl=>l.filter λx=> !Op.bytesLess x.k k)).flatten.length≤8388608:=by
   rw[hperm.length_eq];exact Au (K6 _ _) hn
  have hLI:ED w5 (.slice a1 l0.length c1::xs) (l0::(ns.map (Ce s.tabs)).map (λl=>l.filter λx=> !Op.bytesLess x.k k)):= .cons (hS.arrOld hl0) hl0c (hLs.at (hS.part (L:=Lc)));generalize(l0::(ns.map (Ce s.tabs)).map (λl=>l.filter λx=> !Op.bytesLess x.k k))=ls at hlen hperm hone hfn hLI;rw[←hlen]at hV;(repeat(refine jt ⟨?_⟩;refine hS.q ?_;intro _ hS));refine jt ⟨?_⟩;rw[←hlen];refine Cl.mono (Ng (hV.arr hS AB) hLI AA AA hone) ?_
  rintro _ w6⟨r,a2,c2,L2,hrp,hrr,rfl,hv2,hS'⟩;have hS:=hS.callNew hS';have hrl:=hrp.length_eq;(repeat(refine jt ⟨?_⟩;refine hS.q ?_;intro _ hS));refine jt ⟨?_⟩;refine Cl.mono (aV (hv2.arr hS AB) hv2.cap AA (hone.perm hrp.symm)) ?_;rintro _ w7⟨r2,a3,c3,L3,hrp2,hrr2,rfl,hv3,hS'⟩;have hS:=hS.callNew hS';have hS:=hS.sub (CD _ _);have hperm2:r2.Perm ((BS s).filter λx=> !Op.bytesLess x.k k):=(hrp2.trans hrp).trans hperm
  have hvl:(FE q r2).length≤8388608:=by
   have h2:=hrp2.length_eq;have h3:=y7 q r2;omega
  clear hv2 hLs hLI hV;generalize hVq:FE q r2=V at hv3 hvl hS⊢;have hVl:=Hg V;(repeat(refine jt ⟨?_⟩;refine hS.q ?_;intro _ hS));refine jt ⟨?_⟩;refine AM.loop (λz:VI=>[(2,AG to),(12,.slice z.a z.k z.c),(48,.slice a3 V.length c3),(49,.int .i64 V.length),(50,.int .i64 z.k)])
   (λz w'=>z.k≤V.length∧(∀i(h:i<z.k)(h2:i<V.length),G0 to V[i]=true)∧ ∃Lo,AT Bs 3 z.a z.k z.c (((V.take z.k).map HR).flatMap A8) Lo∧St w1 [] (Lo++L3) w') (λz=>V.length-z.k) ⟨0,0,none,0⟩
   ⟨rfl,rfl,rfl,rfl,rfl,trivial⟩ ⟨Ag _,λi h=>absurd h (Nat.not_lt_zero _),[],AT.nil,hS⟩ ?_
  have hend: ∀(j:Nat)(a:Option Addr)(c:Nat)(Lo:AH)(w':World),j≤V.length→(∀i(h:i<j)(h2:i<V.length),G0 to V[i]=true)→(∀h:j<V.length,G0 to V[j]=false)→AT Bs 3 a j c (((V.take j).map HR).flatMap A8) Lo→St w1 [] (Lo++L3) w'→
    ∃r,r.Perm ((BS s).filter λx=> !Op.bytesLess x.k k)∧Az r∧ ∃a2 c2 Lv,(Value.slice a j c)= .slice a2 (HU to (FE q r)).length c2∧AT Bs 3 a2 (HU to (FE q r)).length c2 (((HU to (FE q r)).map HR).flatMap A8) Lv∧St w T0 (Lv++L) w':=by
   intro j a c Lo w' hj hb hnb hv hS;have hrg:HU to V=V.take j:=yK hj (λi h=>hb i h AA) hnb;have hjl:(V.take j).length=j:=by rw[Ba];omega
   refine⟨r2,hperm2,hrr2,a,c,Lo,?_,?_,(hSb.callNew hS).sub (List.Sublist.append (CD Lo L3) (List.Sublist.refl _))⟩
   ·rw[hVq,hrg,hjl]
   ·rw[hVq,hrg,hjl];exact hv
  clear hS hS';rintro⟨j,n0,a4,c4⟩w8⟨hj,hbel,Lo,hvo,hS⟩;simp only at hj hbel hvo hS⊢;by_cases hjl:j<V.length
  ·have hVa:=hv3.arr hS (T':=[]) AB;obtain⟨g3,o3,rfl, -, -⟩:=hVa.get (j:=j*4) AA;have hat:((V.flatMap AU).drop (j*4)).take 4=AU V[j]:=by
    have:=Mn (cv:=AU) (sz:=4) (λ_=>rfl) V [] j hjl;rwa[BT]at this
   have hsucc:((V.take (j+1)).map HR).flatMap A8=((V.take j).map HR).flatMap A8++A8 (HR V[j]):=by
    rw[Bq hjl,A7,Hn];simp
   have hbs:G0 to V[j]=true→ ∀i(h:i<j+1)(h2:i<V.length),G0 to V[i]=true:=λh0 i h h2=>by
    by_cases e:i=j
    ·subst e;exact h0
    ·exact hbel i AA h2
   have hno:G0 to V[j]=false→ ∀h:j<V.length,G0 to V[j]=false:=λh _=>h;generalize V[j]=x at hat hsucc hbs hno;(repeat(refine jt ⟨?_⟩;refine hS.q ?_;intro _ hS));refine jt ⟨?_⟩;refine Arr.ldn (St.start w8) hVa rfl (k:=j*4) hat rfl ?_;unfold AU;(repeat(refine jt ⟨?_⟩;refine hS.q ?_;intro _ hS));refine jt ⟨?_⟩;refine hS.al ?_;intro b14 w9 _ hS;by_cases ht0:to=[]
   ·have hb1:G0 to x=true:=by unfold G0;rw[decide_eq_true ht0];rfl
    subst ht0;(repeat(refine jt ⟨?_⟩;refine hS.q ?_;intro _ hS));refine jt ⟨?_⟩;refine hS.al ?_;intro b68 w10 _ hS;(repeat(refine jt ⟨?_⟩;refine hS.q ?_;intro _ hS));refine jt ⟨?_⟩;refine St.app (sz:=3) (m:=1) AK rfl rfl rfl rfl hS hvo (news:=A8 (HR x)) rfl (by have:=hS.arr (b:=b68) (T':=[]) AB;exact this) rfl (by show(_+_)*40≤_;omega) AA ?_;intro a5 c5 Lo2 w11 hvo2 hS;have hS:=hS.sub ((AS _ _).trans (AS _ _))
    rw[←hsucc]at hvo2;(repeat(refine jt ⟨?_⟩;refine hS.q ?_;intro _ hS));refine jt ⟨?_⟩;exact⟨⟨j+1,0,a5,c5⟩,⟨rfl,rfl,rfl,rfl,rfl,trivial⟩,⟨hjl,hbs hb1,Lo2,hvo2,hS⟩,by simp only;omega⟩
   ·have hbe:G0 to x=Op.bytesLess x.k to:=by unfold G0;rw[decide_eq_false ht0,Bool.false_or]
    cases hb:Op.bytesLess x.k to with
    |true=>
     have hb1:G0 to x=true:=by rw[hbe,hb]
     (repeat(refine jt ⟨?_⟩;refine hS.q ?_;intro _ hS));refine jt ⟨?_⟩;refine Ax.eqt hb ?_;(repeat(refine jt ⟨?_⟩;refine hS.q ?_;intro _ hS));refine jt ⟨?_⟩;refine hS.al ?_;intro b68 w10 _ hS;(repeat(refine jt ⟨?_⟩;refine hS.q ?_;intro _ hS));refine jt ⟨?_⟩;refine St.app (sz:=3) (m:=1) AK rfl rfl rfl rfl hS hvo (news:=A8 (HR x)) rfl (by have:=hS.arr (b:=b68) (T':=[]) AB;exact this) rfl (by show(_+_)*40≤_;omega) AA ?_
     intro a5 c5 Lo2 w11 hvo2 hS;have hS:=hS.sub ((AS _ _).trans (AS _ _));rw[←hsucc]at hvo2;(repeat(refine jt ⟨?_⟩;refine hS.q ?_;intro _ hS));refine jt ⟨?_⟩;exact⟨⟨j+1,0,a5,c5⟩,⟨rfl,rfl,rfl,rfl,rfl,trivial⟩,⟨hjl,hbs hb1,Lo2,hvo2,hS⟩,by simp only;omega⟩
    |false=>
     have hb1:=hno (by rw[hbe,hb]);(repeat(refine jt ⟨?_⟩;refine hS.q ?_;intro _ hS));refine jt ⟨?_⟩;refine Ax.eqf hb ?_;(repeat(refine jt ⟨?_⟩;refine hS.q ?_;intro _ hS));refine jt ⟨?_⟩;exact hend _ _ _ _ _ hj hbel hb1 hvo (hS.sub (AS _ _))
  ·have hje:j=V.length:=AA;subst hje;(repeat(refine jt ⟨?_⟩;refine hS.q ?_;intro _ hS));refine jt ⟨?_⟩;exact hend _ _ _ _ _ (AW _) hbel (λh=>absurd h (Nat.lt_irrefl _)) hvo hS
structure H9(s:AL):Prop where
 rise:Az s.mem
 seqs:Hc s.mem
 tab: ∀x∈s.tabs,B8 x.2
 one:Cz (BS s)
 num:(BS s).length≤8388608
 tnum:s.tabs.length≤8388608
 keys: ∀x∈s.tabs, -9223372036854775808≤x.1∧x.1≤9223372036854775807
theorem Ev{w:World}{a:Addr}{v:Value}(h:w.cell? a=some v){K:Value→Prop}(hk:K v):FG (λw'=>w=w') a K:=⟨⟨v,λ_ e=>by subst e;exact h,hk⟩⟩
theorem AV.cell{sb f:Nat}{s:AL}{m:AJ}{L:AH}(hO:AV sb f s m L){w:World}(hh:Holds L w): ∃sq tm mb ha hc a ca lv gv,∀(i:Nat)(v:Value),([.int .i64 s.given,.map (some sq),ptr f,.int .i64 s.memMax,.int .i64 s.fan,.slice ha s.hts.length hc,.slice a s.v.files.length ca,.int .i64 s.v.wal,.int .i64 s.v.next,.int .i64 s.v.seq,lv,gv,ptr mb,.map (some tm),.int .i64 s.seq,.bool s.dead]:List Value)[i]?=some v→w.cell? ⟨sb,i,none⟩=some v:=by
 obtain⟨sq,es,c,hsq,ha,hc,Lh,hvh,a,ca,La,hv,lv,Ll,hl,gv,Lg,hg,mb,Lm,hm,tm,et,ct,ks,ht,Lt,hts,LF,hF⟩:=hO;exact⟨sq,tm,mb,ha,hc,a,ca,lv,gv,λi v hi=>(St.enter hh).cell (b:=sb) (off:=i) hi⟩
theorem AV.seqC{sb f:Nat}{s:AL}{m:AJ}{L:AH}(hO:AV sb f s m L){w:World}(hh:Holds L w):w.cell? ⟨sb,14,none⟩=some (.int .i64 s.seq):=by
 obtain⟨_,_,_,_,_,_,_,_,_,h⟩:=hO.cell hh;exact h 14 _ rfl
theorem AV.fC{sb f:Nat}{s:AL}{m:AJ}{L:AH}(hO:AV sb f s m L){w:World}(hh:Holds L w):w.cell? ⟨sb,2,none⟩=some (ptr f):=by
 obtain⟨_,_,_,_,_,_,_,_,_,h⟩:=hO.cell hh;exact h 2 _ rfl
theorem AV.memC{sb f:Nat}{s:AL}{m:AJ}{L:AH}(hO:AV sb f s m L){w:World}(hh:Holds L w):w.cell? ⟨sb,3,none⟩=some (.int .i64 s.memMax):=by
 obtain⟨_,_,_,_,_,_,_,_,_,h⟩:=hO.cell hh;exact h 3 _ rfl
theorem AV.fanC{sb f:Nat}{s:AL}{m:AJ}{L:AH}(hO:AV sb f s m L){w:World}(hh:Holds L w):w.cell? ⟨sb,4,none⟩=some (.int .i64 s.fan):=by
 obtain⟨_,_,_,_,_,_,_,_,_,h⟩:=hO.cell hh;exact h 4 _ rfl
theorem AV.walC{sb f:Nat}{s:AL}{m:AJ}{L:AH}(hO:AV sb f s m L){w:World}(hh:Holds L w):w.cell? ⟨sb,7,none⟩=some (.int .i64 s.v.wal):=by
 obtain⟨_,_,_,_,_,_,_,_,_,h⟩:=hO.cell hh;exact h 7 _ rfl
theorem AV.nextC{sb f:Nat}{s:AL}{m:AJ}{L:AH}(hO:AV sb f s m L){w:World}(hh:Holds L w):w.cell? ⟨sb,8,none⟩=some (.int .i64 s.v.next):=by
 obtain⟨_,_,_,_,_,_,_,_,_,h⟩:=hO.cell hh;exact h 8 _ rfl
theorem AV.vseqC{sb f:Nat}{s:AL}{m:AJ}{L:AH}(hO:AV sb f s m L){w:World}(hh:Holds L w):w.cell? ⟨sb,9,none⟩=some (.int .i64 s.v.seq):=by
 obtain⟨_,_,_,_,_,_,_,_,_,h⟩:=hO.cell hh;exact h 9 _ rfl
def MJ(s:AL)(k:AE)(q:Int)(b:Option AF):Prop:=GJ (DE s.mem k q::s.tabs.map λx=>DE x.2 k q) b
def Nl(s:AL)(k to:AE)(q:Int)(ops:List Ac):Prop:=∃r,r.Perm ((BS s).filter λx=> !Op.bytesLess x.k k)∧Az r∧ops=(HU to (FE q r)).map HR
def MB(b:Option AF):AE:=(b.getD HX).v
def LO(b:Option AF):Bool:=b.isSome&& !(b.getD HX).d
theorem Vo{w:World}{sb f:Nat}{s:AL}{m:AJ}{L:AH}(hO:AV sb f s m L)(hh:Holds L w)(k:AE)(q:Int)(hk:k.length≤1099511627776)(hR:H9 s):
  Cl Tryz.prog U8 [ptr sb,AG k,.int .i64 q] w λv w'=>∃b,MJ s k q b∧v= .tuple ⟨[AG (MB b),.bool (LO b)]⟩∧St w (keys L) L w':=rU hO hh k q hk hR.rise hR.tab
theorem X9{w:World}{sb f:Nat}{s:AL}{m:AJ}{L:AH}(hO:AV sb f s m L)(hh:Holds L w)(k to:AE)(q:Int)(hR:H9 s):
  Cl Tryz.prog VA [ptr sb,AG k,AG to,.int .i64 q] w λv w'=>∃ops,Nl s k to q ops∧ ∃a c Lv,v= .slice a ops.length c∧AT Bs 3 a ops.length c (ops.flatMap A8) Lv∧St w (keys L) (Lv++L) w':=by
 refine(xA hO hh k to q hR.rise hR.seqs hR.tab hR.one hR.num hR.tnum hR.keys).mono ?_;rintro v w'⟨r,h1,h2,a,c,Lv,h3,h4,h5⟩;have e:((HU to (FE q r)).map HR).length=(HU to (FE q r)).length:=AB;exact⟨_,⟨r,h1,h2,rfl⟩,a,c,Lv,by rw[e];exact h3,by rw[e];exact h4,h5⟩
def DD(s:AL)(m:AJ):Bool:=s.dead||m.off
def Mb(s:AL):AL:={s with dead:=true}
theorem ZR{w:World}{sb f:Nat}{s:AL}{m:AJ}{L:AH}(hO:AV sb f s m L)(hh:Holds L w)(k:AE)(hk:k.length≤1099511627776)(hR:H9 s):
  Cl Tryz.prog U5 [ptr sb,AG k] w λv w'=>(DD s m=true∧v= .tuple ⟨[AG [],.bool false,.int .i64 7]⟩∧ ∃L',AV sb f (Mb s) m L'∧St w (keys L) L' w')∨
   (DD s m=false∧ ∃b,MJ s k s.seq b∧v= .tuple ⟨[AG (MB b),.bool (LO b),.int .i64 0]⟩∧St w (keys L) L w'):=by
 have hS:=St.enter hh;refine iF rfl ?_;unfold DD;refine jq ⟨?_⟩;refine(JL hO hS.holds).mono ?_;rintro _ w1⟨rfl,hS'⟩;have hS:=hS.call hS';cases hd:(s.dead||m.off)with
 |true=>
  refine jq ⟨?_⟩;refine(Hb hO hS.holds 7).mono ?_;rw[Ko hd];rintro _ w2⟨rfl,L2,hO2,hS'⟩;have hS:=hS.call hS';refine jq ⟨?_⟩;exact .inl ⟨rfl,rfl,L2,hO2,hS⟩
 |false=>
  refine jq ⟨?_⟩;refine Ev (hO.seqC hS.holds) ?_;refine jq ⟨?_⟩;refine(Vo hO hS.holds k s.seq hk hR).mono ?_;rintro _ w2⟨b,hb,rfl,hS'⟩;have hS:=hS.call hS';refine jq ⟨?_⟩;exact .inr ⟨rfl,b,hb,rfl,hS⟩
theorem TE{w:World}{sb f:Nat}{s:AL}{m:AJ}{L:AH}(hO:AV sb f s m L)(hh:Holds L w)(k to:AE)(hR:H9 s):
  Cl Tryz.prog Qd [ptr sb,AG k,AG to] w λv w'=>(DD s m=true∧v= .tuple ⟨[.slice none 0 0,.int .i64 7]⟩∧ ∃L',AV sb f (Mb s) m L'∧St w (keys L) L' w')∨
   (DD s m=false∧ ∃ops,Nl s k to s.seq ops∧ ∃a c Lv,v= .tuple ⟨[.slice a ops.length c,.int .i64 0]⟩∧AT Bs 3 a ops.length c (ops.flatMap A8) Lv∧St w (keys L) (Lv++L) w'):=by
 have hS:=St.enter hh;refine iH rfl ?_;unfold DD;refine jq ⟨?_⟩;refine(JL hO hS.holds).mono ?_;rintro _ w1⟨rfl,hS'⟩;have hS:=hS.call hS';cases hd:(s.dead||m.off)with
 |true=>
  refine jq ⟨?_⟩;refine(Hb hO hS.holds 7).mono ?_;rw[Ko hd];rintro _ w2⟨rfl,L2,hO2,hS'⟩;have hS:=hS.call hS';refine jq ⟨?_⟩;exact .inl ⟨rfl,rfl,L2,hO2,hS⟩
 |false=>
  refine jq ⟨?_⟩;refine Ev (hO.seqC hS.holds) ?_;refine jq ⟨?_⟩;refine(X9 hO hS.holds k to s.seq hR).mono ?_;rintro _ w2⟨ops,hb,a,c,Lv,rfl,hv,hS'⟩;have hS:=hS.call hS';refine jq ⟨?_⟩;exact .inr ⟨rfl,ops,hb,a,c,Lv,rfl,hv,hS⟩
theorem To{s:AL}{m:AJ}{n:Int}:(DW s m n).2=0→DD s m=false∧Am n s.seqs=some (DW s m n).1:=by
 unfold DW DD;intro h
 split at h
 ·simp at h
 ·rename_i hd;rw[if_neg hd];cases e:Am n s.seqs with
  |none=>rw[e]at h;simp at h
  |some q=>exact⟨by simpa using hd,rfl⟩
theorem Nx{s:AL}{m:AJ}(h:DD s m=false):IC s m=s:=by
 unfold IC;unfold DD at h;rw[h];rfl
theorem Sv{w:World}{sb f:Nat}{s:AL}{m:AJ}{L:AH}(hO:AV sb f s m L)(hh:Holds L w)(n:Int)(k:AE)(hk:k.length≤1099511627776)(hR:H9 s):
  Cl Tryz.prog Qc [ptr sb,.int .i64 n,AG k] w λv w'=>((DW s m n).2≠0∧v= .tuple ⟨[AG [],.bool false,.int .i64 (DW s m n).2]⟩∧ ∃L',AV sb f (IC s m) m L'∧St w (keys L) L' w')∨
   ((DW s m n).2=0∧ ∃b,MJ s k (DW s m n).1 b∧v= .tuple ⟨[AG (MB b),.bool (LO b),.int .i64 0]⟩∧ ∃L',AV sb f s m L'∧St w (keys L) L' w'):=by
 have hS:=St.enter hh;refine iG rfl ?_;refine jq ⟨?_⟩;refine(Tq hO hS.holds n).mono ?_;have hup:(DW s m n).2=0→IC s m=s:=λh=>Nx (To h).1;rintro _ w1⟨rfl,L1,hO1,hS'⟩;have hS:=hS.call hS';generalize DW s m n=y at hup⊢;obtain⟨q,e⟩:=y;simp only at hup⊢;by_cases he:e=0
 ·subst he;rw[hup rfl]at hO1;refine jq ⟨?_⟩;refine(Vo hO1 hS.holds k q hk hR).mono ?_;rintro _ w2⟨b,hb,rfl,hS'⟩;have hS:=hS.call hS';refine jq ⟨?_⟩;exact .inr ⟨rfl,b,hb,rfl,L1,hO1,hS⟩
 ·refine jq ⟨?_⟩;exact .inl ⟨he,rfl,L1,hO1,hS⟩
theorem Z8{w:World}{sb f:Nat}{s:AL}{m:AJ}{L:AH}(hO:AV sb f s m L)(hh:Holds L w)(n:Int)(k to:AE)(hR:H9 s):
  Cl Tryz.prog U6 [ptr sb,.int .i64 n,AG k,AG to] w λv w'=>((DW s m n).2≠0∧v= .tuple ⟨[.slice none 0 0,.int .i64 (DW s m n).2]⟩∧ ∃L',AV sb f (IC s m) m L'∧St w (keys L) L' w')∨
   ((DW s m n).2=0∧ ∃ops,Nl s k to (DW s m n).1 ops∧ ∃a c Lv,v= .tuple ⟨[.slice a ops.length c,.int .i64 0]⟩∧AT Bs 3 a ops.length c (ops.flatMap A8) Lv∧ ∃L',AV sb f s m L'∧St w (keys L) (Lv++L') w'):=by
 have hS:=St.enter hh;refine iI rfl ?_;refine jq ⟨?_⟩;refine(Tq hO hS.holds n).mono ?_;have hup:(DW s m n).2=0→IC s m=s:=λh=>Nx (To h).1;rintro _ w1⟨rfl,L1,hO1,hS'⟩;have hS:=hS.call hS';generalize DW s m n=y at hup⊢;obtain⟨q,e⟩:=y;simp only at hup⊢;by_cases he:e=0
 ·subst he;rw[hup rfl]at hO1;refine jq ⟨?_⟩;refine(X9 hO1 hS.holds k to q hR).mono ?_;rintro _ w2⟨ops,hb,a,c,Lv,rfl,hv,hS'⟩;have hS:=hS.call hS';refine jq ⟨?_⟩;exact .inr ⟨rfl,ops,hb,a,c,Lv,rfl,hv,L1,hO1,hS⟩
 ·refine jq ⟨?_⟩;exact .inl ⟨he,rfl,L1,hO1,hS⟩
theorem AV.fs{sb f:Nat}{s:AL}{m:AJ}{L:AH}(hO:AV sb f s m L): ∃o R LF,L=(sb,o)::(R++LF)∧BI f m LF∧ ∀m' LF',BI f m' LF'→AV sb f s m' ((sb,o)::(R++LF')):=by
 obtain⟨sq,es,c,hsq,ha,hc,Lh,hvh,a,ca,La,hv,lv,Ll,hl,gv,Lg,hg,mb,Lm,hm,tm,et,ct,ks,ht,Lt,hts,LF,hF⟩:=hO;refine⟨.cells ⟨[.int .i64 s.given,.map (some sq),ptr f,.int .i64 s.memMax,.int .i64 s.fan,.slice ha s.hts.length hc,.slice a s.v.files.length ca,.int .i64 s.v.wal,.int .i64 s.v.next,.int .i64 s.v.seq,lv,gv,ptr mb,.map (some tm),.int .i64 s.seq,.bool s.dead]⟩ TW (0,0),(sq,.map es c)::(tm,.map et ct)::(Lh++(La++(Ll++(Lg++(Lm++Lt))))),LF,AB,hF,λm' LF' hF'=>?_⟩
 have:=AV.mk (sb:=sb) (m:=m') sq es c hsq ha hc Lh hvh a ca La hv lv Ll hl gv Lg hg mb Lm hm tm et ct ks ht Lt hts LF' hF';simpa using this
theorem AV.down{w:World}{sb f:Nat}{s:AL}{m:AJ}{L:AH}(hO:AV sb f s m L)(hh:Holds L w):Cl Tryz.prog Qh [ptr f] w λv w'=>v= .bool m.off∧St w (keys L) L w':=by
 obtain⟨o,R,LF,rfl,hF,hm⟩:=hO.fs;have hS:=St.enter hh;refine(Ic hF (hS.part (L:=LF))).mono ?_;rintro _ w1⟨rfl,hS'⟩;exact⟨rfl,hS.call (L:=LF) hS'⟩
theorem AV.read{w:World}{sb f:Nat}{s:AL}{m:AJ}{L:AH}(hO:AV sb f s m L)(hh:Holds L w)(name:AE):Cl Tryz.prog VN [ptr f,AG name] w λv w'=>v= .tuple ⟨[AG (BA m name).1.1,.int .i64 (BA m name).2]⟩∧St w (keys L) L w':=by
 obtain⟨o,R,LF,rfl,hF,hm⟩:=hO.fs;have hS:=St.enter hh;refine(Kf hF (hS.part (L:=LF)) name).mono ?_;rintro _ w1⟨rfl,hS'⟩;exact⟨rfl,hS.call (L:=LF) hS'⟩
theorem AV.file{w:World}{sb f A:Nat}{s:AL}{m:AJ}{L:AH}(hO:AV sb f s m L)(hh:Holds L w)(name t:AE)(ht:t.length≤1099511627776)(hB:FB A m)(hA:A+3≤9223372036854775807):
  Cl Tryz.prog U7 [ptr sb,AG name,AG t] w λv w'=>v= .int .i64 (CE m name t).1∧ ∃L',AV sb f s (CE m name t).2 L'∧St w (keys L) L' w':=by
 have hc:=hO.fC hh;obtain⟨o,R,LF,rfl,hF,hm⟩:=hO.fs;have hS:=St.enter hh;refine(VR hF (hS.part (L:=LF)) hc (Cu hS) name t ht hB hA).mono ?_;rintro _ w1⟨rfl,L1,hF1,hS'⟩;exact⟨rfl,_,hm _ _ hF1,hS.call (L:=LF) hS'⟩
theorem AV.rewrite{w:World}{sb f A:Nat}{s:AL}{m:AJ}{L:AH}(hO:AV sb f s m L)(hh:Holds L w)(name:AE){a:Option Addr}{cap:Nat}{ps:List AE}(ha:Arr w (keys L) a (ps.map AG))(hlen:BG ps+8*ps.length≤1099511627776)(hB:FB A m)(hA:A+3≤9223372036854775807):
  Cl Tryz.prog VQ [ptr f,AG name,.slice a ps.length cap] w λv w'=>v= .int .i64 (Cd m name ps).1∧ ∃L',AV sb f s (Cd m name ps).2 L'∧St w (keys L) L' w':=by
 obtain⟨o,R,LF,rfl,hF,hm⟩:=hO.fs;have hS:=St.enter hh;refine(Zy hF (hS.part (L:=LF)) name (ha.sub λb hb=>by
  simp only[keys,A4,A7,As,Bk];exact .inr (.inr hb)) hlen hB hA).mono ?_
 rintro _ w1⟨rfl,L1,hF1,hS'⟩;exact⟨rfl,_,hm _ _ hF1,hS.call (L:=LF) hS'⟩
theorem AV.rename{w:World}{sb f A:Nat}{s:AL}{m:AJ}{L:AH}(hO:AV sb f s m L)(hh:Holds L w)(x y:AE)(hB:FB A m)(hA:A+1≤9223372036854775807):
  Cl Tryz.prog VO [ptr f,AG x,AG y] w λv w'=>v= .int .i64 (Cv m x y).1∧ ∃L',AV sb f s (Cv m x y).2 L'∧St w (keys L) L' w':=by
 obtain⟨o,R,LF,rfl,hF,hm⟩:=hO.fs;have hS:=St.enter hh;refine(Zx hF (hS.part (L:=LF)) x y (by have:=hB.armed;omega) (by have:=hB.acts;omega)).mono ?_;rintro _ w1⟨rfl,L1,hF1,hS'⟩;exact⟨rfl,_,hm _ _ hF1,hS.call (L:=LF) hS'⟩
theorem AV.delete{w:World}{sb f A:Nat}{s:AL}{m:AJ}{L:AH}(hO:AV sb f s m L)(hh:Holds L w)(x:AE)(hB:FB A m)(hA:A+1≤9223372036854775807):
  Cl Tryz.prog VK [ptr f,AG x] w λv w'=>v= .int .i64 (A9 m x).1∧ ∃L',AV sb f s (A9 m x).2 L'∧St w (keys L) L' w':=by
 obtain⟨o,R,LF,rfl,hF,hm⟩:=hO.fs;have hS:=St.enter hh;refine(PZ hF (hS.part (L:=LF)) x (by have:=hB.armed;omega) (by have:=hB.acts;omega)).mono ?_;rintro _ w1⟨rfl,L1,hF1,hS'⟩;exact⟨rfl,_,hm _ _ hF1,hS.call (L:=LF) hS'⟩
theorem AV.list{w:World}{sb f A:Nat}{s:AL}{m:AJ}{L:AH}(hO:AV sb f s m L)(hh:Holds L w)(hB:FB A m)(hN:m.files.length≤1099511627776):
  Cl Tryz.prog VL [ptr f] w λv w'=>(m.off=true∧v= .tuple ⟨[.slice none 0 0,.int .i64 7]⟩∧St w (keys L) L w')∨(m.off=false∧ ∃(ns:List AE)(a:Option Addr)(cap:Nat)(Lv:AH),ns.Perm (m.files.map (·.1))∧v= .tuple ⟨[.slice a ns.length cap,.int .i64 0]⟩∧AT C0 1 a ns.length cap (ns.map AG) Lv∧St w (keys L) (Lv++L) w'):=by
 obtain⟨o,R,LF,rfl,hF,hm⟩:=hO.fs;have hS:=St.enter hh;refine(ZD hF (hS.part (L:=LF)) hB hN).mono ?_;rintro _ w1(⟨h1,rfl,hS'⟩|⟨h1,ns,a,cap,Lv,hp,rfl,hv,hS'⟩)
 ·exact .inl ⟨h1,rfl,hS.call (L:=LF) hS'⟩
 ·refine .inr ⟨h1,ns,a,cap,Lv,hp,rfl,hv,?_⟩;refine St.perm (hS.call (L:=LF) hS') ?_;refine(List.Perm.cons _ (GX R Lv LF)).trans ?_;exact Dd.symm
theorem AV.wopen{w:World}{sb f A:Nat}{s:AL}{m:AJ}{L:AH}(hO:AV sb f s m L)(hh:Holds L w)(name:AE)(h0:C5 m name=0)(hB:FB A m):
  Cl Tryz.prog OJ [ptr f,AG name] w λv w'=>∃bl a cap Lv,v= .tuple ⟨[ptr bl,.slice a (DU (BA m name).1.1).1.length cap,.int .i64 0]⟩∧
   AT C0 1 a (DU (BA m name).1.1).1.length cap ((DU (BA m name).1.1).1.map AG) Lv∧GO f (some (D7 m name)) (ptr bl) [(bl,IR f name (D7 m name).n (D7 m name).torn false)]∧
   St w (keys L) (Lv++(bl,IR f name (D7 m name).n (D7 m name).torn false)::L) w':=by
 obtain⟨o,R,LF,rfl,hF,hm⟩:=hO.fs;have hS:=St.enter hh;refine(S6 hF (hS.part (L:=LF)) name h0 (hB.find name)).mono ?_;rintro _ w1⟨bl,a,cap,Lv, -,rfl,hv,hS'⟩;refine⟨bl,a,cap,Lv,rfl,hv,GO.some bl (D7 m name),?_⟩;have hS:=hS.call (L:=LF) hS';refine St.perm hS ?_;refine(List.Perm.cons _ ?_).trans (Dd.symm.trans (List.Perm.append_left _ (List.Perm.swap _ _ _)));refine(GX R Lv _).trans (List.Perm.append_left _ ?_)
 exact Dd
theorem AV.wopenE{w:World}{sb f:Nat}{s:AL}{m:AJ}{L:AH}(hO:AV sb f s m L)(hh:Holds L w)(name:AE)(h0:C5 m name≠0):
  Cl Tryz.prog OJ [ptr f,AG name] w λv w'=>v= .tuple ⟨[.pointer none,.slice none 0 0,.int .i64 (C5 m name)]⟩∧St w (keys L) L w':=by
 obtain⟨o,R,LF,rfl,hF,hm⟩:=hO.fs;have hS:=St.enter hh;refine(Zn hF (hS.part (L:=LF)) name h0).mono ?_;rintro _ w1⟨rfl,hS'⟩;exact⟨rfl,hS.call (L:=LF) hS'⟩
end Go.Proofs.YtkgibdhpijdbfaaGreatDoor
