/- Texts of this claim, one behind the other. -/
import Derived.Test.YtkgibdhpijdbfaaGreatDoorZ30
import Derived.Test.YtkgibdhpijdbfaaGreatDoorZ29
set_option linter.unusedVariables false
set_option linter.unusedSimpArgs false
set_option maxHeartbeats 16000000
namespace Go.Proofs.YtkgibdhpijdbfaaGreatDoor
open Go Go.Eng Go.Proofs
inductive Gz:List Value→List (List AF)→AH→Prop where
 |nil:Gz [] [] []
 |cons {a:Option Addr} {c:Nat} {l:List AF} {L:AH} {xs:List Value} {ls:List (List AF)} {M:AH} (hv:AT Aq 4 a l.length c (l.flatMap AU) L) (h:Gz xs ls M):Gz (.slice a l.length c::xs) (l::ls) (L++M)
theorem Gz.at{xs:List Value}{ls:List (List AF)}{L:AH}(h:Gz xs ls L){w:World}(hh:Holds L w):EC w xs ls:=by
 induction h with
 |nil=>exact .nil
 |cons hv _ ih=>exact .cons (hv.arr (St.enter hh) AB) hv.cap (ih hh.right)
theorem Gz.snoc{xs:List Value}{ls:List (List AF)}{M:AH}(h:Gz xs ls M){a:Option Addr}{c:Nat}{l:List AF}{L:AH}(hv:AT Aq 4 a l.length c (l.flatMap AU) L):Gz (xs++[.slice a l.length c]) (ls++[l]) (M++L):=by
 induction h with
 |nil=>have:=Gz.cons hv .nil;rwa[BU]at this
 |cons hv' _ ih=>rw[Aj];exact .cons hv' ih
theorem Gz.len{xs:List Value}{ls:List (List AF)}{L:AH}(h:Gz xs ls L):xs.length=ls.length:=by
 induction h with
 |nil=>rfl
 |cons _ _ ih=>simp[ih]
theorem yH{α:Type}(x y z:α)(A B C D N M R:List α):(x::y::z::(A++(B++(C++(D++(M++R)))))).Sublist (x::y::z::(A++(B++(C++(D++((N++M)++R)))))):=
 .cons_cons _ (.cons_cons _ (.cons_cons _ ((List.Sublist.refl A).append ((List.Sublist.refl B).append ((List.Sublist.refl C).append ((List.Sublist.refl D).append ((Ah N M).append (List.Sublist.refl R))))))))
theorem yO{α:Type}{p:α→Bool}{l:List α}{j:Nat}(hj:j≤l.length)(h1: ∀i(h:i<j),p (l[i]'AA)=true)(h2: ∀h:j<l.length,p l[j]=false):l.takeWhile p=l.take j:=by
 induction l generalizing j with
 |nil=>simp at hj;subst hj;rfl
 |cons x l ih=>
  cases j with
  |zero=>
   have:=h2 AB;simp only[JU]at this;rw[List.takeWhile_cons_of_neg (by simp[this])];rfl
  |succ j=>
   have h0:=h1 0 AA;simp only[JU]at h0;rw[List.takeWhile_cons_of_pos h0,List.take_succ_cons,ih (j:=j) (by simpa using hj) (λi h=>by have:=h1 (i+1) AA;simpa using this) (λh=>by have:=h2 (by simpa using h);simpa using this)]
theorem zB(q:Int)(l:List AF):(FG q l).length≤l.length:=by
 have h: ∀gs:List (List AF),(gs.flatMap (Ez q)).length≤gs.length:=by
  intro gs
  induction gs with
  |nil=>simp
  |cons g gs ih=>
   rw[FA,AP,Ai];have:(Ez q g).length≤1:=by
    unfold Ez
    split
    ·simp
    ·split<;>simp
   omega
 exact Au (h _) (Ml l)
structure SI where
 k:Nat
 a:Option Addr
 c:Nat
structure VI where
 k:Nat
 n:Nat
 a:Option Addr
 c:Nat
set_option maxRecDepth 4000 in
theorem xB{w:World}{sb f:Nat}{s:AM}{m:AJ}{L:AH}(hO:AW sb f s m L)(hh:Holds L w)(k to:AE)(q:Int)(hr:Az s.mem)(hq:Hf s.mem)(hf: ∀x∈s.tabs,B8 x.2)(h1:C1 (BZ s))(hn:(BZ s).length≤8388608)(htn:s.tabs.length≤8388608)
  (hkr: ∀x∈s.tabs, -9223372036854775808≤x.1∧x.1≤9223372036854775807):
  Cl Tryz.prog U7 [ptr sb,AG k,AG to,.int .i64 q] w λv w'=>∃r,r.Perm ((BZ s).filter λx=> !Op.bytesLess x.k k)∧Az r∧
   ∃a c Lv,v= .slice a (HX to (FG q r)).length c∧AT Bn 3 a (HX to (FG q r)).length c (((HX to (FG q r)).map HT).flatMap A8) Lv∧St w (keys L) (Lv++L) w':=by
 have hS:=St.enter hh;generalize hT:keys L=T0 at hS⊢;obtain⟨L',hLL,hO⟩: ∃L',L'=L∧AW sb f s m L':=⟨L,rfl,hO⟩;obtain⟨sq,es,c,hsq,ha,hc,Lh,hvh,a,ca,La,hv,lv,Ll,hl,gv,Lg,hg,mb,Lm,hm,tm,et,ct,ks,ht,Lt,hts,LF,hF⟩:=hO;have hkk:=hts.keys;have hnd:(s.tabs.map (·.1)).Nodup:=by rw[←hkk];exact ht.nodupK Bq.i64
 have hnk:(ks.map (·.1)).Nodup:=by rw[hkk];exact hnd
 have hkl:ks.length=s.tabs.length:=by have:=congrArg List.length hkk;simpa using this
 have hal:s.mem.length+(s.tabs.map (·.2)).flatten.length≤8388608:=by simpa[BZ]using hn
 rw[←hLL]at hS;refine iU rfl ?_;(repeat(refine jt ⟨?_⟩;refine hS.q ?_;intro _ hS));refine jt ⟨?_⟩;refine Cl.mono (Zb hm (hS.part (L:=Lm)) hr AA k) ?_;rintro _ w1⟨a1,c1,L1,rfl,hv1,hS'⟩;have hS:=hS.call (L:=Lm) hS';have hSb:=hS.sub (yH _ _ _ _ _ _ _ _ _ _);rw[hLL]at hSb;have hc13:w1.cell? ⟨sb,13,none⟩=some (.map (some tm)):=hS.cell (b:=sb) (off:=13) rfl;have htm:=hS.mem (b:=tm);have hrd: ∀x∈ks,∃l,(x.1,l)∈s.tabs∧ ∃a c nb,Fi w1 x.2 l a c nb:=λx hx=>hts.read (hS.part (L:=Lt)) hx
 have hl0:Arr w1 [] a1 ((Br k 9223372036854775807 s.mem).flatMap AU):=hv1.arr hS AB;have hl0c:=hv1.cap;have hl0n:(Br k 9223372036854775807 s.mem).length≤s.mem.length:=by
  have:=congrArg List.length (GH k 9223372036854775807 s.mem);rw[AP]at this;omega
 have hl0e:=Qs k hr hq;generalize Br k 9223372036854775807 s.mem=l0 at hl0 hl0c hl0n hl0e⊢;clear hS' hv1 hS;have hS:=St.start w1;(repeat(refine jt ⟨?_⟩;refine hS.q ?_;intro _ hS));refine jt ⟨?_⟩;refine hS.al ?_;intro b21 w2 _ hS;(repeat(refine jt ⟨?_⟩;refine hS.q ?_;intro _ hS));refine jt ⟨?_⟩;refine hS.ldOld AB hc13 ?_;(repeat(refine jt ⟨?_⟩;refine hS.q ?_;intro _ hS));refine jt ⟨?_⟩;refine Cl.mono (sW _ _) ?_
 rintro _ w3⟨rfl,rfl⟩;have htm2:=(hS.old tm (Array.getElem?_eq_some_iff.1 htm).1 AB).trans htm;have hS:=hS.alloc (.cells #[.map (some tm)] IB);(repeat(refine jt ⟨?_⟩;refine hS.q ?_;intro _ hS));refine jt ⟨?_⟩;refine Cl.mono (xU htm2 ht AA (λx hx=>by
  have h1:x.1∈s.tabs.map (·.1):=by rw[←hkk];exact CD hx
  obtain⟨y,hy,hyx⟩:=BV.1 h1;rw[←hyx];exact hkr y hy)) ?_
 rintro _ w4⟨ns,an,cn,Ln,hp,rfl,hvn,hS'⟩;have hS:=hS.callNew hS';have hnl:ns.length=s.tabs.length:=by rw[←hkl];simpa using hp.length_eq
 have hpt:ns.Perm (s.tabs.map (·.1)):=by rw[←hkk];exact hp
 have hns: ∀n∈ns,∃tb l,(n,tb)∈ks∧(n,l)∈s.tabs∧ ∃a c nb,Fi w1 tb l a c nb:=by
  intro n hn;obtain⟨x,hx,rfl⟩:=BV.1 (hp.mem_iff.1 hn);obtain⟨l,h1,h2⟩:=hrd x hx;exact⟨x.2,l,hx,h1,h2⟩
 have hV0:AT GR 1 (some ⟨b21,0,none⟩) (0+1) 1 [.slice a1 l0.length c1] [(b21,.cells ⟨[.slice a1 l0.length c1]⟩ GR (0,0))]:=AT.made GR b21 [.slice a1 l0.length c1];(repeat(refine jt ⟨?_⟩;refine hS.q ?_;intro _ hS));refine jt ⟨?_⟩;refine AL.loop (λz:SI=>[(0,ptr sb),(1,AG k),(2,AG to),(3,.int .i64 q),(8,.slice none 0 0),(9,.slice z.a (z.k+1) z.c),(27,.slice an ns.length cn),(28,.int .i64 ns.length),(29,.int .i64 z.k)])
  (λz w'=>z.k≤ns.length∧ ∃xs Lx Lc,AT GR 1 z.a (z.k+1) z.c (.slice a1 l0.length c1::xs) Lx∧Gz xs ((ns.take z.k).map λn=>Br k 9223372036854775807 (Ce s.tabs n)) Lc∧St w1 [] (Lx++(Lc++Ln)) w') (λz=>ns.length-z.k) ⟨0,some ⟨b21,0,none⟩,1⟩
  ⟨rfl,rfl,rfl,rfl,rfl,rfl,rfl,rfl,rfl,trivial⟩ ⟨Ag _,[],_,[],hV0,.nil,?_⟩ ?_
 ·exact(hS.sub (List.Sublist.append (List.Sublist.refl Ln) (AS _ _))).perm Gp
 clear hS hS' hV0;rintro⟨j,a9,c9⟩w5⟨hj,xs,Lx,Lc,hV,hLs,hS⟩;simp only at hj hV hLs hS⊢;by_cases hjl:j<ns.length
 ·have hnm:ns[j]∈ns:=Ca hjl;obtain⟨tb,l,hk1,hl1,at1,ct1,nb,hTb⟩:=hns _ hnm;have htf:B8 l:=hf _ hl1;have hsucc:(ns.take (j+1)).map (λn=>Br k 9223372036854775807 (Ce s.tabs n))=(ns.take j).map (λn=>Br k 9223372036854775807 (Ce s.tabs n))++[Br k 9223372036854775807 l]:=by
   rw[Bs hjl,A7,A4,kC];unfold Ce;rw[F9 hnd hl1];rfl
  obtain⟨gn,tn,rfl, -, -, -,rfl⟩: ∃g l',an=some ⟨g,0,none⟩∧(ns.map AY).length=ns.length*1∧(ns.map AY).length+l'.length=cn*1∧ns.length≤cn∧Ln=[(g,.cells ⟨ns.map AY++l'⟩ BP (0,0))]:=by
   rcases hvn.inv with⟨_,h,_⟩|h
   ·omega
   ·exact h
  have hget:(ns.map AY++tn)[j]?=some (AY ns[j]):=by
   rw[Cn (by rw[BM];exact hjl)];simp[hjl]
  have hkg:=F9 hnk hk1;generalize ns[j]=n at hget hkg hk1 hl1;(repeat(refine jt ⟨?_⟩;refine hS.q ?_;intro _ hS));refine jt ⟨?_⟩;refine hS.ld (v:=AY n) (by rw[show 0+(j:Int).toNat*1=j by omega];exact hget) ?_;(repeat(refine jt ⟨?_⟩;refine hS.q ?_;intro _ hS));refine jt ⟨?_⟩;refine hS.ldOld AB hc13 ?_;(repeat(refine jt ⟨?_⟩;refine hS.q ?_;intro _ hS));refine jt ⟨?_⟩;refine IT AK Bq.i64 rfl rfl Eo rfl (kvs:=ks) (λw' hw'=>⟨et,ct,by subst hw';exact hS.oldBlock AB htm,ht.of⟩) ?_
  simp only[hkg,kD,FD];(repeat(refine jt ⟨?_⟩;refine hS.q ?_;intro _ hS));refine jt ⟨?_⟩;refine Cl.mono (Y9 (k:=k) (hTb.old hS) htf.rise (by have:=htf.len;omega)) ?_;rintro _ w6⟨a2,c2,L2,rfl,hv2,hS'⟩;have hS:=hS.callNew hS';have hfl:(Br k 9223372036854775807 l).length≤64:=by
   have:=congrArg List.length (GH k 9223372036854775807 l);rw[AP]at this;have:=htf.len;omega
  generalize Br k 9223372036854775807 l=lf at hsucc hv2 hS hfl⊢;have hLs2:=hLs.snoc hv2;rw[←hsucc]at hLs2;(repeat(refine jt ⟨?_⟩;refine hS.q ?_;intro _ hS));refine jt ⟨?_⟩;refine hS.al ?_;intro b42 w7 _ hS;(repeat(refine jt ⟨?_⟩;refine hS.q ?_;intro _ hS));refine jt ⟨?_⟩;refine St.app (sz:=1) (m:=1) AK rfl rfl rfl rfl hS hV (news:=[.slice a2 lf.length c2]) rfl (by have:=hS.arr (b:=b42) (T':=[]) AB;exact this) rfl (by show(_+_)*24≤_;omega) AA ?_
  intro a3 c3 L3 w8 hV3 hS;(repeat(refine jt ⟨?_⟩;refine hS.q ?_;intro _ hS));refine jt ⟨?_⟩;have hS:=hS.sub (AS _ _);rw[D3]at hV3;refine⟨⟨j+1,a3,c3⟩,⟨rfl,rfl,rfl,rfl,rfl,rfl,rfl,rfl,rfl,trivial⟩,⟨hjl,xs++[.slice a2 lf.length c2],L3,_,hV3,hLs2,hS.perm ?_⟩,by simp only;omega⟩;refine(GX L2 L3 _).trans (List.Perm.append_left _ ?_);rw[Aj];exact GX L2 Lc _
 ·obtain rfl:j=ns.length:=AA;rw[Bz]at hLs;have hmap:ns.map (λn=>Br k 9223372036854775807 (Ce s.tabs n))=(ns.map (Ce s.tabs)).map (λl=>l.filter λx=> !Op.bytesLess x.k k):=by
   rw[Fp];apply List.map_congr_left;intro n hn;obtain⟨tb,l, -,hl1, -⟩:=hns n hn;have htf:B8 l:=hf _ hl1;show Br k _ (Ce s.tabs n)=(Ce s.tabs n).filter _;unfold Ce;rw[F9 hnd hl1];exact Qs k htf.rise htf.seqs
  rw[hmap]at hLs;have hlen:(l0::(ns.map (Ce s.tabs)).map (λl=>l.filter λx=> !Op.bytesLess x.k k)).length=ns.length+1:=AB;have hperm:(l0::(ns.map (Ce s.tabs)).map (λl=>l.filter λx=> !Op.bytesLess x.k k)).flatten.Perm ((BZ s).filter λx=> !Op.bytesLess x.k k):=by
   rw[Dc,VT,hl0e];unfold BZ;rw[J3];exact List.Perm.append_left _ ((YX hnd hpt).filter _)
  have hone:C1 (l0::(ns.map (Ce s.tabs)).map (λl=>l.filter λx=> !Op.bytesLess x.k k)).flatten:=C1.perm (List.Pairwise.sublist List.filter_sublist h1) hperm.symm;have hfn:(l0::(ns.map (Ce s.tabs)).map (λl=>l.filter λx=> !Op.bytesLess x.k k)).flatten.length≤8388608:=by
   rw[hperm.length_eq];exact Au (List.length_filter_le _ _) hn
  have hLI:EC w5 (.slice a1 l0.length c1::xs) (l0::(ns.map (Ce s.tabs)).map (λl=>l.filter λx=> !Op.bytesLess x.k k)):= .cons (hS.arrOld hl0) hl0c (hLs.at (hS.part (L:=Lc)));generalize(l0::(ns.map (Ce s.tabs)).map (λl=>l.filter λx=> !Op.bytesLess x.k k))=ls at hlen hperm hone hfn hLI;rw[←hlen]at hV;(repeat(refine jt ⟨?_⟩;refine hS.q ?_;intro _ hS));refine jt ⟨?_⟩;rw[←hlen];refine Cl.mono (NY (hV.arr hS AB) hLI AA AA hone) ?_
  rintro _ w6⟨r,a2,c2,L2,hrp,hrr,rfl,hv2,hS'⟩;have hS:=hS.callNew hS';have hrl:=hrp.length_eq;(repeat(refine jt ⟨?_⟩;refine hS.q ?_;intro _ hS));refine jt ⟨?_⟩;refine Cl.mono (aN (hv2.arr hS AB) hv2.cap AA (hone.perm hrp.symm)) ?_;rintro _ w7⟨r2,a3,c3,L3,hrp2,hrr2,rfl,hv3,hS'⟩;have hS:=hS.callNew hS';have hS:=hS.sub (CC _ _);have hperm2:r2.Perm ((BZ s).filter λx=> !Op.bytesLess x.k k):=(hrp2.trans hrp).trans hperm
  have hvl:(FG q r2).length≤8388608:=by
   have h2:=hrp2.length_eq;have h3:=zB q r2;omega
  clear hv2 hLs hLI hV;generalize hVq:FG q r2=V at hv3 hvl hS⊢;have hVl:=Hi V;(repeat(refine jt ⟨?_⟩;refine hS.q ?_;intro _ hS));refine jt ⟨?_⟩;refine AL.loop (λz:VI=>[(2,AG to),(12,.slice z.a z.k z.c),(48,.slice a3 V.length c3),(49,.int .i64 V.length),(50,.int .i64 z.k)])
   (λz w'=>z.k≤V.length∧(∀i(h:i<z.k)(h2:i<V.length),G1 to V[i]=true)∧ ∃Lo,AT Bn 3 z.a z.k z.c (((V.take z.k).map HT).flatMap A8) Lo∧St w1 [] (Lo++L3) w') (λz=>V.length-z.k) ⟨0,0,none,0⟩
   ⟨rfl,rfl,rfl,rfl,rfl,trivial⟩ ⟨Ag _,λi h=>absurd h (Nat.not_lt_zero _),[],AT.nil,hS⟩ ?_
  have hend: ∀(j:Nat)(a:Option Addr)(c:Nat)(Lo:AH)(w':World),j≤V.length→(∀i(h:i<j)(h2:i<V.length),G1 to V[i]=true)→(∀h:j<V.length,G1 to V[j]=false)→AT Bn 3 a j c (((V.take j).map HT).flatMap A8) Lo→St w1 [] (Lo++L3) w'→
    ∃r,r.Perm ((BZ s).filter λx=> !Op.bytesLess x.k k)∧Az r∧ ∃a2 c2 Lv,(Value.slice a j c)= .slice a2 (HX to (FG q r)).length c2∧AT Bn 3 a2 (HX to (FG q r)).length c2 (((HX to (FG q r)).map HT).flatMap A8) Lv∧St w T0 (Lv++L) w':=by
   intro j a c Lo w' hj hb hnb hv hS;have hrg:HX to V=V.take j:=yO hj (λi h=>hb i h AA) hnb;have hjl:(V.take j).length=j:=by rw[BR];omega
   refine⟨r2,hperm2,hrr2,a,c,Lo,?_,?_,(hSb.callNew hS).sub (List.Sublist.append (CC Lo L3) (List.Sublist.refl _))⟩
   ·rw[hVq,hrg,hjl]
   ·rw[hVq,hrg,hjl];exact hv
  clear hS hS';rintro⟨j,n0,a4,c4⟩w8⟨hj,hbel,Lo,hvo,hS⟩;simp only at hj hbel hvo hS⊢;by_cases hjl:j<V.length
  ·have hVa:=hv3.arr hS (T':=[]) AB;obtain⟨g3,o3,rfl, -, -⟩:=hVa.get (j:=j*4) AA;have hat:((V.flatMap AU).drop (j*4)).take 4=AU V[j]:=by
    have:=Mi (cv:=AU) (sz:=4) (λ_=>rfl) V [] j hjl;rwa[BU]at this
   have hsucc:((V.take (j+1)).map HT).flatMap A8=((V.take j).map HT).flatMap A8++A8 (HT V[j]):=by
    rw[Bs hjl,A7,Hn];simp
   have hbs:G1 to V[j]=true→ ∀i(h:i<j+1)(h2:i<V.length),G1 to V[i]=true:=λh0 i h h2=>by
    by_cases e:i=j
    ·subst e;exact h0
    ·exact hbel i AA h2
   have hno:G1 to V[j]=false→ ∀h:j<V.length,G1 to V[j]=false:=λh _=>h;generalize V[j]=x at hat hsucc hbs hno;(repeat(refine jt ⟨?_⟩;refine hS.q ?_;intro _ hS));refine jt ⟨?_⟩;refine Arr.ldn (St.start w8) hVa rfl (k:=j*4) hat rfl ?_;unfold AU;(repeat(refine jt ⟨?_⟩;refine hS.q ?_;intro _ hS));refine jt ⟨?_⟩;refine hS.al ?_;intro b14 w9 _ hS;by_cases ht0:to=[]
   ·have hb1:G1 to x=true:=by unfold G1;rw[decide_eq_true ht0];rfl
    subst ht0;(repeat(refine jt ⟨?_⟩;refine hS.q ?_;intro _ hS));refine jt ⟨?_⟩;refine hS.al ?_;intro b68 w10 _ hS;(repeat(refine jt ⟨?_⟩;refine hS.q ?_;intro _ hS));refine jt ⟨?_⟩;refine St.app (sz:=3) (m:=1) AK rfl rfl rfl rfl hS hvo (news:=A8 (HT x)) rfl (by have:=hS.arr (b:=b68) (T':=[]) AB;exact this) rfl (by show(_+_)*40≤_;omega) AA ?_;intro a5 c5 Lo2 w11 hvo2 hS;have hS:=hS.sub ((AS _ _).trans (AS _ _))
    rw[←hsucc]at hvo2;(repeat(refine jt ⟨?_⟩;refine hS.q ?_;intro _ hS));refine jt ⟨?_⟩;exact⟨⟨j+1,0,a5,c5⟩,⟨rfl,rfl,rfl,rfl,rfl,trivial⟩,⟨hjl,hbs hb1,Lo2,hvo2,hS⟩,by simp only;omega⟩
   ·have hbe:G1 to x=Op.bytesLess x.k to:=by unfold G1;rw[decide_eq_false ht0,Bool.false_or]
    cases hb:Op.bytesLess x.k to with
    |true=>
     have hb1:G1 to x=true:=by rw[hbe,hb]
     (repeat(refine jt ⟨?_⟩;refine hS.q ?_;intro _ hS));refine jt ⟨?_⟩;refine Ax.eqt hb ?_;(repeat(refine jt ⟨?_⟩;refine hS.q ?_;intro _ hS));refine jt ⟨?_⟩;refine hS.al ?_;intro b68 w10 _ hS;(repeat(refine jt ⟨?_⟩;refine hS.q ?_;intro _ hS));refine jt ⟨?_⟩;refine St.app (sz:=3) (m:=1) AK rfl rfl rfl rfl hS hvo (news:=A8 (HT x)) rfl (by have:=hS.arr (b:=b68) (T':=[]) AB;exact this) rfl (by show(_+_)*40≤_;omega) AA ?_
     intro a5 c5 Lo2 w11 hvo2 hS;have hS:=hS.sub ((AS _ _).trans (AS _ _));rw[←hsucc]at hvo2;(repeat(refine jt ⟨?_⟩;refine hS.q ?_;intro _ hS));refine jt ⟨?_⟩;exact⟨⟨j+1,0,a5,c5⟩,⟨rfl,rfl,rfl,rfl,rfl,trivial⟩,⟨hjl,hbs hb1,Lo2,hvo2,hS⟩,by simp only;omega⟩
    |false=>
     have hb1:=hno (by rw[hbe,hb]);(repeat(refine jt ⟨?_⟩;refine hS.q ?_;intro _ hS));refine jt ⟨?_⟩;refine Ax.eqf hb ?_;(repeat(refine jt ⟨?_⟩;refine hS.q ?_;intro _ hS));refine jt ⟨?_⟩;exact hend _ _ _ _ _ hj hbel hb1 hvo (hS.sub (AS _ _))
  ·have hje:j=V.length:=AA;subst hje;(repeat(refine jt ⟨?_⟩;refine hS.q ?_;intro _ hS));refine jt ⟨?_⟩;exact hend _ _ _ _ _ (AV _) hbel (λh=>absurd h (Nat.lt_irrefl _)) hvo hS
end Go.Proofs.YtkgibdhpijdbfaaGreatDoor
