/- Texts of this claim, one behind the other. -/
import Derived.Test.YtkgibdhpijdbfaaGreatDoorZ42
import Derived.Test.YtkgibdhpijdbfaaGreatDoorZ41
import Derived.Test.YtkgibdhpijdbfaaGreatDoorZ18
import Derived.Test.YtkgibdhpijdbfaaGreatDoorZ37
import Derived.Test.YtkgibdhpijdbfaaGreatDoorZ39
import Derived.Test.YtkgibdhpijdbfaaGreatDoorZ29
set_option linter.unusedVariables false
set_option linter.unusedSimpArgs false
set_option maxHeartbeats 16000000
namespace Go.Proofs.YtkgibdhpijdbfaaGreatDoor
open Go Go.Eng Go.Proofs Go.Srt
inductive MC(s:AM)(m:AJ):Int→AM→AJ→Prop where
 |down (h:C5 s m=true):MC s m 7 (Kf s) m
 |up (h:C5 s m=false) (mk:List (Int×List AF)) (hp:mk.Perm (Ar s.v.next (AR 64 s.mem))) (e:Int) (s1:AM) (m1:AJ) (h0:By s m mk=(e,s1,m1)):MC s m (Dj s1 m1 e).1 (Dj s1 m1 e).2 m1
inductive Jj(s:AM)(m:AJ):Int→AM→AJ→Prop where
 |down (h:C5 s m=true):Jj s m 7 (Kf s) m
 |bad (h:C5 s m=false) (mk:List (Int×List AF)) (hp:mk.Perm (Ar s.v.next (AR 64 s.mem))) (e:Int) (s1:AM) (m1:AJ) (h0:By s m mk=(e,s1,m1)) (he:e≠0):Jj s m (Dj s1 m1 e).1 (Dj s1 m1 e).2 m1
 |up (h:C5 s m=false) (mk:List (Int×List AF)) (hp:mk.Perm (Ar s.v.next (AR 64 s.mem))) (s1:AM) (m1:AJ) (h0:By s m mk=(0,s1,m1)) (r:List AF) (seen:List Int) (mk2:List (Int×List AF)) (h1:r.Perm (D1 s1)) (h2:Az r) (h3:seen.Perm (Hy s1))
   (h4:mk2.Perm (Ar s1.v.next (AR 64 (BD seen r)))) (e:Int) (s2:AM) (m2:AJ) (h5:DG s1 m1 (BD seen r) mk2=(e,s2,m2)):Jj s m (Dj s2 m2 e).1 (Dj s2 m2 e).2 m2
def TD(sb f:Nat)(R:Int→AM→AJ→Prop)(w:World)(T0:List Nat)(v:Value)(w':World):Prop:=∃e s' m' L',R e s' m'∧v= .int .i64 e∧AW sb f s' m' L'∧St w T0 L' w'
theorem TR{w:World}{sb f A T:Nat}{s:AM}{m:AJ}{L:AH}(hO:AW sb f s m L)(hh:Holds L w)(hG:Bp w (keys L))(hW:C5 s m=false→Ik A T s m):
  Cl Tryz.prog Qc [ptr sb] w λv w'=>TD sb f (MC s m) w (keys L) v w':=by
 have hS:=St.enter hh;generalize hT:keys L=T0 at hS hG⊢;refine iD rfl ?_;refine jq ⟨?_⟩;refine Cl.mono (H8 hO hS.holds) ?_;rintro _ w1⟨rfl,hS'⟩;have hS:=hS.call (L:=L) hS';cases hd:(s.dead||m.off)with
 |true=>
  refine jq ⟨?_⟩;refine Cl.mono (He hO hS.holds 7) ?_;rw[Kh hd];rintro _ w2⟨rfl,L2,hO2,hS'⟩;have hS:=hS.call (L:=L) hS';refine jq ⟨?_⟩;exact⟨7,_,_,L2,.down hd,rfl,hO2,hS⟩
 |false=>
  refine jq ⟨?_⟩;refine Cl.mono (Pj hO hS.holds (hG.step hS) (hW hd)) ?_;rintro _ w2⟨mk,hmk,rfl,L2,hO2,hS'⟩;have hS:=hS.call (L:=L) hS';have hR:=λe s1 m1 h0=>MC.up (s:=s) (m:=m) hd mk hmk e s1 m1 h0;generalize By s m mk=q at hO2 hR⊢;obtain⟨e,s1,m1⟩:=q;simp only at hO2⊢;refine jq ⟨?_⟩;refine Cl.mono (He hO2 hS.holds e) ?_;rintro _ w3⟨rfl,L3,hO3,hS'⟩;have hS:=hS.call (L:=L2) hS';refine jq ⟨?_⟩;exact⟨_,_,_,L3,hR e s1 m1 rfl,rfl,hO3,hS⟩
theorem TQ{w:World}{sb f A T:Nat}{s:AM}{m:AJ}{L:AH}(hO:AW sb f s m L)(hh:Holds L w)(hG:Bp w (keys L))(hW:C5 s m=false→Ik A T s m)
  (hC: ∀mk,C5 s m=false→mk.Perm (Ar s.v.next (AR 64 s.mem))→(By s m mk).1=0→ ∃A2 T2,Ik A2 T2 (By s m mk).2.1 (By s m mk).2.2∧Ka (By s m mk).2.1):
  Cl Tryz.prog Qb [ptr sb] w λv w'=>TD sb f (Jj s m) w (keys L) v w':=by
 have hS:=St.enter hh;generalize hT:keys L=T0 at hS hG⊢;refine iB rfl ?_;refine jq ⟨?_⟩;refine Cl.mono (H8 hO hS.holds) ?_;rintro _ w1⟨rfl,hS'⟩;have hS:=hS.call (L:=L) hS';cases hd:(s.dead||m.off)with
 |true=>
  refine jq ⟨?_⟩;refine Cl.mono (He hO hS.holds 7) ?_;rw[Kh hd];rintro _ w2⟨rfl,L2,hO2,hS'⟩;have hS:=hS.call (L:=L) hS';refine jq ⟨?_⟩;exact⟨7,_,_,L2,.down hd,rfl,hO2,hS⟩
 |false=>
  refine jq ⟨?_⟩;refine Cl.mono (Pj hO hS.holds (hG.step hS) (hW hd)) ?_;rintro _ w2⟨mk,hmk,rfl,L2,hO2,hS'⟩;have hS:=hS.call (L:=L) hS';have hR:=λe s1 m1 h0=>Jj.bad (s:=s) (m:=m) hd mk hmk e s1 m1 h0;have hR2:=λs1 m1 h0=>Jj.up (s:=s) (m:=m) hd mk hmk s1 m1 h0;have hC2:=hC mk hd hmk;generalize By s m mk=q at hO2 hR hR2 hC2⊢;obtain⟨e,s1,m1⟩:=q;simp only at hO2 hC2⊢;by_cases he:e=0
  ·subst he;obtain⟨A2,T2,hW2,hC3⟩:=hC2 rfl;refine jq ⟨?_⟩;refine Cl.mono (TH hO2 hS.holds (hG.step hS) hW2 hC3) ?_;rintro _ w3⟨r,seen,mk2,h1,h2,h3,h4,rfl,L3,hO3,hS'⟩;have hS:=hS.call (L:=L2) hS';have hR3:=λe s2 m2 h5=>hR2 s1 m1 rfl r seen mk2 h1 h2 h3 h4 e s2 m2 h5;generalize DG s1 m1 (BD seen r) mk2=q at hO3 hR3⊢;obtain⟨e2,s2,m2⟩:=q;simp only at hO3⊢;refine jq ⟨?_⟩;refine Cl.mono (He hO3 hS.holds e2) ?_
   rintro _ w4⟨rfl,L4,hO4,hS'⟩;have hS:=hS.call (L:=L3) hS';refine jq ⟨?_⟩;exact⟨_,_,_,L4,hR3 e2 s2 m2 rfl,rfl,hO4,hS⟩
  ·refine jq ⟨?_⟩;refine Cl.mono (He hO2 hS.holds e) ?_;rintro _ w3⟨rfl,L3,hO3,hS'⟩;have hS:=hS.call (L:=L2) hS';refine jq ⟨?_⟩;exact⟨_,_,_,L3,hR e s1 m1 rfl he,rfl,hO3,hS⟩
def Zu(sb f:Nat)(s:AM)(m:AJ)(ps:List AE)(w:World)(T0:List Nat)(v:Value)(w':World):Prop:=∃e s' m' L',FL s m ps e s' m'∧v= .int .i64 e∧AW sb f s' m' L'∧St w T0 L' w'
set_option maxRecDepth 8000 in
theorem Z9{w:World}{sb f A:Nat}{s:AM}{m:AJ}{L:AH}(hO:AW sb f s m L)(hh:Holds L w)(hG:Bp w (keys L)){a:Option Addr}{c:Nat}{ps:List AE}(ha:Arr w (keys L) a (ps.map AG))(hps:BG ps+8*ps.length≤1099511627776)
  (hn:0≤s.v.next∧s.v.next≤1152921504606846976)(hr:DA (Ep (BJ s).v)=true)(ho:ER (Ep (BJ s).v))(hl:s.v.files.length≤8388608)(hsum:BG (Ay (BJ s).v)+8*(Ay (BJ s).v).length≤1099511627776)(hB:FB A m)(hA:A+40+m.files.length≤4611686018427387904)(hN:m.files.length+20≤549755813888):
  Cl Tryz.prog pE [ptr sb,.slice a ps.length c] w λv w'=>Zu sb f s m ps w (keys L) v w':=by
 have hS:=St.enter hh;have hnm:=Fr (n:=s.v.next) ⟨AA,AA⟩;have hnm1:=Fr (n:=s.v.next+1) ⟨AA,AA⟩;generalize hT:keys L=T0 at hS hG ha⊢;refine iT rfl ?_;refine jq ⟨?_⟩;refine Eb (hO.nextC hS.holds) ?_;refine jq ⟨?_⟩;obtain⟨sq,es,cq,hsqM,ha1,hc1,Lh,hvh,a2,ca,La,hv,lv,Ll,hl2,gv,Lg,hgp,mb,Lm,hm,tm,et,ct,ks,ht,Lt,hts,LF,hFs⟩:=hO;have hr2:=hv.rng;(repeat(refine jt ⟨?_⟩;refine hS.q ?_;intro _ hS));refine jt ⟨?_⟩
 have hex: ∃L1,AW sb f (BJ s) m L1∧St w T0 L1 _:=⟨_,AW.mk (sb:=sb) (s:=BJ s) (m:=m) sq es cq hsqM ha1 hc1 Lh hvh a2 ca La ⟨hv.vec,by unfold BJ;simp only;omega⟩ lv Ll hl2 gv Lg hgp mb Lm hm tm et ct ks ht Lt hts LF hFs,hS⟩;clear hS hm hts hFs hh hl2 hgp hv hvh hsqM ht hr2;obtain⟨L1,hO1,hS⟩:=hex;have hR1:=FL.e1 (s:=s) (m:=m) (ps:=ps);have hR2:=FL.e2 (s:=s) (m:=m) (ps:=ps);have hR3:=FL.e3 (s:=s) (m:=m) (ps:=ps)
 have hR4:=FL.e4 (s:=s) (m:=m) (ps:=ps);have hR5:=λs'=>FL.e5 (s:=s) (m:=m) (ps:=ps) s';have hR6:=λs'=>FL.e6 (s:=s) (m:=m) (ps:=ps) s';have hR7:=FL.e7 (s:=s) (m:=m) (ps:=ps);refine AL.draw AK mixed (λw'=>St w T0 L1 w') [7,8] [0,1,2,3,4,6,5,7,8] AD hS.drew ?_;have hS:=hS.drew;refine jr ⟨?_⟩;refine CM (λw' h=>hO1.fC h.holds) ?_;refine jr ⟨?_⟩;refine Cl.mono (MG (n:=s.v.next) ⟨AA,AA⟩ (hG.keep hS).tab) ?_
 rintro _ w1⟨rfl,hS'⟩;have hS:=hS.call0 hS';refine Ae.mk hS ?_;refine jr ⟨?_⟩;refine Cl.mono (hO1.rewrite hS.holds (Aa s.v.next) (ha.stay hS) hps hB AA) ?_;rintro _ w2⟨rfl,L2,hO2,hS'⟩;have hS:=hS.call (L:=L1) hS';have hB2:=hB.rewrite (Aa s.v.next) ps (by rw[Ds];exact hps);have hc2:=KG m (Aa s.v.next) ps;have hrn2:DB s m ps=Cd (Cd m (Aa s.v.next) ps).2 (AX (s.v.next+1)) (Ay (BJ s).v):=rfl;have hrn3:DV s m ps=CE (DB s m ps).2 Bb (AX (s.v.next+1)):=rfl
 have hrn4:Bj s m ps=Cx (DV s m ps).2 Bb Bg:=rfl;rw[show Cr s m ps=Cd m (Aa s.v.next) ps from rfl]at hR1 hR2 hR3 hR4 hR5 hR6 hR7;generalize Cd m (Aa s.v.next) ps=q1 at hO2 hB2 hc2 hrn2 hR1 hR2 hR3 hR4 hR5 hR6 hR7⊢;obtain⟨e1,m1⟩:=q1;simp only at hO2 hB2 hc2 hrn2 hR1 hR2 hR3 hR4 hR5 hR6 hR7⊢;by_cases he1:e1=0
 ·subst he1;refine jq ⟨?_⟩;obtain⟨av,cv,hvr,hvp⟩:=hO2.versP;refine AL.draw AK mixed (λw'=>St w T0 L2 w') [12,13] [0,1,2,3,4,5,7,8,9,10,6,11,12,13] AD hS.drew ?_;have hS:=hS.drew;refine jr ⟨?_⟩;refine CM (λw' h=>hO2.fC h.holds) ?_;refine jr ⟨?_⟩;refine Mr (l:=DC av cv (BJ s).v) (λw' h=>(hvp w' h.holds).1) rfl ?_;unfold DC;refine jr ⟨?_⟩;refine Cl.mono (KZ (n:=s.v.next+1) ⟨AA,AA⟩ (hG.keep hS).tab) ?_
  rintro _ w3⟨rfl,hS'⟩;have hS:=hS.call0 hS';refine Ae.mk hS ?_;refine jr ⟨?_⟩;refine Cl.mono (TM (hvp _ hS.holds).2 hr ho hl) ?_;rintro _ w4⟨ae,ce,Le,rfl,hve,hS'⟩;have hS:=hS.callNew hS';refine Ae.mk (hS.sub (Ah _ _)) ?_;refine jr ⟨?_⟩;refine Cl.mono (hO2.rewrite (hS.part (L:=L2)) (AX (s.v.next+1)) (hve.arr hS (T':=keys L2) hS.disj) hsum hB2 AA) ?_;rintro _ w5⟨rfl,L3,hO3,hS'⟩;have hS:=(hS.call (L:=L2) hS').sub (Ah _ _)
  have hB3:=hB2.rewrite (AX (s.v.next+1)) (Ay (BJ s).v) (by rw[Ds];exact hsum);have hc3:=KG m1 (AX (s.v.next+1)) (Ay (BJ s).v);rw[hrn2]at hrn3 hR2 hR3 hR4 hR5 hR6 hR7;generalize Cd m1 (AX (s.v.next+1)) (Ay (BJ s).v)=q2 at hO3 hB3 hc3 hrn3 hR2 hR3 hR4 hR5 hR6 hR7⊢;obtain⟨e2,m2⟩:=q2;simp only at hO3 hB3 hc3 hrn3 hR2 hR3 hR4 hR5 hR6 hR7⊢;clear hR1 hrn2;by_cases he2:e2=0
  ·subst he2;refine jq ⟨?_⟩;refine Cl.mono (KZ (n:=s.v.next+1) ⟨AA,AA⟩ (hG.keep hS).tab) ?_;rintro _ w6⟨rfl,hS'⟩;have hS:=hS.call0 hS';refine jq ⟨?_⟩;refine Cl.mono (hO3.file hS.holds Bb (AX (s.v.next+1)) AA hB3 AA) ?_;rintro _ w7⟨rfl,L4,hO4,hS'⟩;have hS:=hS.call (L:=L3) hS';have hB4:=hB3.file Bb (AX (s.v.next+1)) AA;have hc4:=Kl m2 Bb (AX (s.v.next+1));rw[hrn3]at hrn4 hR3 hR4 hR5 hR6 hR7;generalize CE m2 Bb (AX (s.v.next+1))=q3 at hO4 hB4 hc4 hrn4 hR3 hR4 hR5 hR6 hR7⊢
   obtain⟨e3,m3⟩:=q3;simp only at hO4 hB4 hc4 hrn4 hR3 hR4 hR5 hR6 hR7⊢;clear hR2 hrn3;by_cases he3:e3=0
   ·subst he3;refine jq ⟨?_⟩;refine Eb (hO4.fC hS.holds) ?_;refine jq ⟨?_⟩;refine Cl.mono (hO4.rename hS.holds Bb Bg hB4 AA) ?_;rintro _ w8⟨rfl,L5,hO5,hS'⟩;have hS:=hS.call (L:=L4) hS';have hB5:=hB4.ren Bb Bg;have hc5:=O2 m3 Bb Bg;rw[hrn4]at hR4 hR5 hR6 hR7;generalize Cx m3 Bb Bg=q4 at hO5 hB5 hc5 hR4 hR5 hR6 hR7⊢;obtain⟨e4,m4⟩:=q4;simp only at hO5 hB5 hc5 hR4 hR5 hR6 hR7⊢;clear hR3 hrn4;by_cases he4:e4=0
    ·subst he4;refine jq ⟨?_⟩;refine AL.draw AK mixed (λw'=>w'.cell? ⟨sb,2,none⟩=some (ptr f)) [] [0,1,2,3,4,5,6,7,8,9,10,11,12,13,14,15] AD (hO5.fC hS.drew.holds) ?_;have hS:=hS.drew;refine jr ⟨?_⟩;refine CM (λw' h=>h) ?_;refine jr ⟨?_⟩;refine Cl.mono (MG (n:=s.v.next) ⟨AA,AA⟩ (hG.keep hS).tab) ?_;rintro _ w9⟨rfl,hS'⟩;have hS:=hS.call0 hS';refine Ae.mk (hO5.fC hS.holds) ?_;refine jr ⟨?_⟩;by_cases h5:C9 m4 (Aa s.v.next)=0
     ·refine Cl.mono (hO5.wopen hS.holds (Aa s.v.next) h5 hB5) ?_;rintro _ w10⟨bl,ax,cx,Lx,rfl,hvx,hlg,hS'⟩;have hS:=(hS.call (L:=L5) hS').sub (Ah _ _);refine Ae.mk (hO5.fC (hS.part (L:=L5))) ?_;refine jr ⟨?_⟩;refine hO5.setLog (g:=D6 m4 (Aa s.v.next)) hS (λL6 w11 hO6 hS=>?_);refine Ae.mk (hO6.fC hS.holds) ?_;have hO6:AW sb f (NC s m4) m4 L6:=hO6;refine jr ⟨?_⟩;refine AL.draw AK mixed (λw'=>w'.cell? ⟨sb,2,none⟩=some (ptr f)) [] [0,1,2,3,4,5,6,7,8,9,10,11,12,13,14,15,16] AD (hO6.fC hS.drew.holds) ?_
      have hS:=hS.drew;refine jr ⟨?_⟩;refine CM (λw' h=>h) ?_;refine jr ⟨?_⟩;refine Cl.mono (KZ (n:=s.v.next+1) ⟨AA,AA⟩ (hG.keep hS).tab) ?_;rintro _ w12⟨rfl,hS'⟩;have hS:=hS.call0 hS';refine Ae.mk (hO6.fC hS.holds) ?_;refine jr ⟨?_⟩;by_cases h6:C9 m4 (AX (s.v.next+1))=0
      ·refine Cl.mono (hO6.wopen hS.holds (AX (s.v.next+1)) h6 hB5) ?_;rintro _ w13⟨bl2,ay,cy,Ly,rfl,hvy,hlg2,hS'⟩;have hS:=(hS.call (L:=L6) hS').sub (Ah _ _);refine Ae.mk (hO6.fC (hS.part (L:=L6))) ?_;refine jr ⟨?_⟩;refine hO6.setList (g:=D6 m4 (AX (s.v.next+1))) hS (λL7 w14 hO7 hS=>?_);refine Ae.mk (hO7.fC hS.holds) ?_;have hO7:AW sb f (GD s m4) m4 L7:=hO7;refine jr ⟨?_⟩;refine Cl.mono (Z3 hO7 hS.holds (hG.step hS) (s.v.next+1) hB5 AA AA) ?_
       rintro _ w15(⟨hoff, -⟩|⟨hoff,ns,hp,rfl,L8,hO8,hS'⟩)
       ·exfalso;unfold C9 at h6;rw[hoff]at h6;simp at h6
       ·have hS:=hS.call (L:=L7) hS';have hR8:=hR7 (by first|trivial|rfl) (by first|trivial|rfl) (by first|trivial|rfl) (by first|trivial|rfl) h5 h6 ns hp;generalize DF (GD s m4) (s.v.next+1) ns m4=q8 at hO8 hR8⊢;refine jq ⟨?_⟩;exact⟨q8.1,_,_,L8,hR8,rfl,hO8,hS⟩
      ·refine Cl.mono (hO6.wopenE hS.holds (AX (s.v.next+1)) h6) ?_;rintro _ w13⟨rfl,hS'⟩;have hS:=hS.call (L:=L6) hS';refine Ae.mk (hO6.fC hS.holds) ?_;refine jr ⟨?_⟩;refine hO6.setListN hS (λL7 w14 hO7 hS=>?_);refine Ae.mk (hO7.fC hS.holds) ?_;have hR8:=hR6 {NC s m4 with list:=none} (by first|trivial|rfl) (by first|trivial|rfl) (by first|trivial|rfl) (by first|trivial|rfl) h5 h6;generalize C9 m4 (AX (s.v.next+1))=e9 at h6 hR8⊢
       refine jr ⟨?_⟩;refine jq ⟨?_⟩;exact⟨e9,_,_,L7,hR8,rfl,hO7,hS⟩
     ·refine Cl.mono (hO5.wopenE hS.holds (Aa s.v.next) h5) ?_;rintro _ w10⟨rfl,hS'⟩;have hS:=hS.call (L:=L5) hS';refine Ae.mk (hO5.fC hS.holds) ?_;refine jr ⟨?_⟩;refine hO5.setLogN hS (λL6 w11 hO6 hS=>?_);refine Ae.mk (hO6.fC hS.holds) ?_;have hR8:=hR5 {BJ s with log:=none} (by first|trivial|rfl) (by first|trivial|rfl) (by first|trivial|rfl) (by first|trivial|rfl) h5;generalize C9 m4 (Aa s.v.next)=e9 at h5 hR8⊢
      refine jr ⟨?_⟩;refine jq ⟨?_⟩;exact⟨e9,_,_,L6,hR8,rfl,hO6,hS⟩
    ·refine jq ⟨?_⟩;exact⟨e4,_,_,L5,hR4 (by first|trivial|rfl) (by first|trivial|rfl) (by first|trivial|rfl) he4,rfl,hO5,hS⟩
   ·refine jq ⟨?_⟩;exact⟨e3,_,_,L4,hR3 (by first|trivial|rfl) (by first|trivial|rfl) he3,rfl,hO4,hS⟩
  ·refine jq ⟨?_⟩;exact⟨e2,_,_,L3,hR2 (by first|trivial|rfl) he2,rfl,hO3,hS⟩
 ·refine jq ⟨?_⟩;exact⟨e1,_,_,L2,hR1 he1,rfl,hO2,hS⟩
def Ab(bs:List (Int×List Ac)):List AE:=bs.map λb=>B0 b.1 b.2
def Ia(s:AM)(b:Int×List Ac):AM:={s with seq:=if s.seq<b.1 then b.1 else s.seq,mem:=Cy b.1 (b.2.map EN) s.mem,adds:=s.adds+b.2.length}
def Cc(mm fan:Int)(hs:List Int)(v:VM)(ts:List (Int×List AF)):AM:=⟨0,[],if mm<1 then 1 else mm,if fan<1 then 1 else fan,hs,v,none,none,[],0,ts,v.seq,false⟩
def CK(s:AM)(bs:List (Int×List Ac)):AM:=bs.foldl Ia s
def Gb(bs:List (Int×List Ac)):Nat:=(bs.map λb=>Ap b.2).sum
theorem yS(s:AM)(bs:List (Int×List Ac))(k:Nat)(hk:k<bs.length):CK s (bs.take (k+1))=Ia (CK s (bs.take k)) bs[k]:=by
 unfold CK;rw[Bs hk,Hq];rfl
theorem yT(s:AM): ∀(bs:List (Int×List Ac)),(CK s bs).v=s.v:=by
 intro bs
 induction bs generalizing s with
 |nil=>rfl
 |cons b bs ih=>exact(ih (Ia s b)).trans rfl
theorem YC(ops:List Ac):Ap (ops.map EN)≤Ap ops:=by
 unfold Ap;rw[Fp]
 induction ops with
 |nil=>simp
 |cons o ops ih=>
  simp only[A4,HL,Function.comp]at ih⊢;have:D9 (EN o)≤D9 o:=by unfold D9 EN;simp only;split<;>simp
  omega
theorem Ye(s:AM)(hr:Az s.mem): ∀(bs:List (Int×List Ac)),Az (CK s bs).mem∧An (CK s bs).mem≤An s.mem+Gb bs∧(CK s bs).mem.length≤s.mem.length+Gb bs∧(CK s bs).adds≤s.adds+Gb bs:=by
 intro bs
 induction bs generalizing s with
 |nil=>exact⟨hr,AV _,AV _,AV _⟩
 |cons b bs ih=>
  have h1:=PF b.1 (b.2.map EN) s.mem;have h2:=YC b.2;have h3:=KI b.2;have hl:(b.2.map EN).length=b.2.length:=AB;obtain⟨i1,i2,i3,i4⟩:=ih (Ia s b) (PE b.1 _ hr);have e:Gb (b::bs)=Ap b.2+Gb bs:=by unfold Gb;simp
  refine⟨i1,Au i2 ?_,Au i3 ?_,Au i4 ?_⟩
  ·show An (Cy b.1 (b.2.map EN) s.mem)+_≤_;omega
  ·show(Cy b.1 (b.2.map EN) s.mem).length+_≤_;omega
  ·show s.adds+b.2.length+_≤_;omega
theorem yJ(bs:List (Int×List Ac))(k:Nat)(hk:k<bs.length):Gb (bs.take k)+Ap bs[k].2≤Gb bs:=by
 have h:=congrArg Gb (CO k bs).symm;unfold Gb at h⊢;rw[A7,IL,FQ hk,A4,HL]at h;omega
def Zg(f:Nat)(m:AJ)(s0:AM)(ps:List AE)(w:World)(T0:List Nat)(v:Value)(w':World):Prop:=∃e s' m',FL s0 m ps e s' m'∧
 ((e=0∧ ∃sb L',v= .tuple ⟨[ptr sb,.int .i64 0]⟩∧AW sb f s' m' L'∧St w T0 L' w')∨(e≠0∧v= .tuple ⟨[.pointer none,.int .i64 e]⟩∧ ∃LF,BI f m' LF∧St w T0 LF w'))
theorem vC{w0 w:World}{T:List Nat}{p q r s t:Nat×Obj}{Lm Lh Lp La Lt L:AH}(h:St w0 T (Lm++p::q::r::(Lh++s::(Lp++(La++t::(Lt++L))))) w):St w0 T (r::(Lp++(p::q::t::(Lh++(La++(Lm++(Lt++L))))))) w:=by
 have h2:St w0 T (Lm++p::q::r::(Lh++(Lp++(La++t::(Lt++L))))) w:=h.sub ((List.Sublist.refl Lm).append (.cons_cons _ (.cons_cons _ (.cons_cons _ ((List.Sublist.refl Lh).append (AS _ _))))));refine St.perm h2 ?_
 classical
 refine Ix.2 λa=>?_;simp only[Hp,Iw,List.count_nil];omega
set_option maxRecDepth 8000 in
theorem TA{w:World}{f A:Nat}{m:AJ}{L:AH}(hF:BI f m L)(hh:Holds L w)(hG:Bp w (keys L)){a:Option Addr}{c:Nat}{hs:List Int}{mm fan:Int}(ha:Arr w (keys L) a (hs.map AY))(hhl:hs.length≤1099511627776)(hoff:m.off=false)
  {v:VM}{ts:List (Int×List AF)}{bs:List (Int×List Ac)}(hfd: ∀w,Holds L w→Bp w (keys L)→Cl Tryz.prog Qg [ptr f] w λr w'=>PW v ts (Ab bs) w (keys L) L r w')
  (hbq: ∀b∈bs,CA b.1)(hsz:Gb bs≤549755813888)(hps:BG (Ab bs)+8*(Ab bs).length≤1099511627776)
  (hn:0≤v.next∧v.next≤1152921504606846976)(hr:DA (Ep {v with wal:=v.next,next:=v.next+2})=true)(ho:ER (Ep {v with wal:=v.next,next:=v.next+2}))(hl:v.files.length≤8388608)
  (hsum:BG (Ay {v with wal:=v.next,next:=v.next+2})+8*(Ay {v with wal:=v.next,next:=v.next+2}).length≤1099511627776)(hB:FB A m)(hA:A+40+m.files.length≤4611686018427387904)(hN:m.files.length+20≤549755813888):
  Cl Tryz.prog Qa [ptr f,.agg ⟨[.int .i64 mm,.int .i64 fan,.slice a hs.length c]⟩] w λr w'=>Zg f m (CK (Cc mm fan hs v ts) bs) (Ab bs) w (keys L) r w':=by
 have hS:=St.enter hh;generalize hT:keys L=T0 at hS hG ha⊢;refine iA rfl ?_;(repeat(refine jt ⟨?_⟩;refine hS.q ?_;intro _ hS));refine jt ⟨?_⟩;refine hS.al ?_;intro b3 w1 _ hS;(repeat(refine jt ⟨?_⟩;refine hS.q ?_;intro _ hS));refine jt ⟨?_⟩;refine Cl.mono (Ie hF (hS.part (L:=L))) ?_;rintro _ w2⟨rfl,hS'⟩;have hS:=hS.call (L:=L) hS';rw[hoff];(repeat(refine jt ⟨?_⟩;refine hS.q ?_;intro _ hS));refine jt ⟨?_⟩
 refine Cl.mono (bY ((hS.arrOld ha).sub AB) hhl) ?_;rintro _ w3⟨a4,c4,Lh,rfl,hvh,hS'⟩;have hS:=hS.callNew hS';(repeat(refine jt ⟨?_⟩;refine hS.q ?_;intro _ hS));refine jt ⟨?_⟩;refine Cl.mono (hfd _ (hS.part (L:=L)) (hT▸(hG.keep hS))) ?_;rintro _ w4⟨a5,c5,La,tm,et,ct,ks,Lt,pa,pc,Lp,rfl,hvv,hmt,hts,hvp,hS'⟩;have hS:=hS.call (L:=L) hS';(repeat(refine jt ⟨?_⟩;refine hS.q ?_;intro _ hS));refine jt ⟨?_⟩
 refine hS.al ?_;intro b6 w5 _ hS;(repeat(refine jt ⟨?_⟩;refine hS.q ?_;intro _ hS));refine jt ⟨?_⟩;refine hS.al ?_;intro sq w6 _ hS;(repeat(refine jt ⟨?_⟩;refine hS.q ?_;intro _ hS));refine jt ⟨?_⟩;refine hS.al ?_;intro sb w7 _ hS;(repeat(refine jt ⟨?_⟩;refine hS.q ?_;intro _ hS));refine jt ⟨?_⟩;refine Cl.mono (S8 (hvh.arr hS AB) hhl) ?_;rintro _ w8⟨mb,Lm,rfl,hmm,hS'⟩;have hS:=hS.callNew hS';(repeat(refine jt ⟨?_⟩;refine hS.q ?_;intro _ hS));refine jt ⟨?_⟩
 have hex: ∃L1,AW sb f (Cc mm fan hs v ts) m L1∧St w T0 ((b6,.cells ⟨[.slice a5 v.files.length c5,.int .i64 v.wal,.int .i64 v.next,.int .i64 v.seq,.map (some tm),.slice pa (Ab bs).length pc]⟩ Jp (0,0))::(Lp++L1)) _:=
  ⟨_,AW.mk (sb:=sb) (s:=Cc mm fan hs v ts) (m:=m) sq #[] 0 ⟨rfl,by simp[E5]⟩ a4 c4 Lh hvh a5 c5 La hvv (.pointer none) [] GO.none (.pointer none) [] GO.none mb Lm hmm tm et ct ks hmt Lt hts L hF,(by have h9:=vC hS;exact h9)⟩
 clear hS hS' hmt hts hmm hvh hvv hF;obtain⟨L1,hO1,hS⟩:=hex;have hrise0:Az (Cc mm fan hs v ts).mem:=by simp[Az,Cc]
 have hs0:An (Cc mm fan hs v ts).mem=0∧(Cc mm fan hs v ts).mem.length=0∧(Cc mm fan hs v ts).adds=0:=⟨rfl,rfl,rfl⟩;have hv0:(Cc mm fan hs v ts).v=v:=rfl;generalize Cc mm fan hs v ts=s0 at hO1 hrise0 hs0 hv0⊢;have hlen:(Ab bs).length=bs.length:=by unfold Ab;rw[BM]
 have hcb:bs.length≤1099511627776:=AA;have hGs:=λ(w':World)(H:AH)(h:St w T0 H w')=>hG.step h;refine AL.loop (λk:Nat=>[(8,ptr sb),(6,ptr b6),(59,.slice pa (Ab bs).length pc),(60,.int .i64 (Ab bs).length),(61,.int .i64 k)])
  (λk w'=>k≤bs.length∧ ∃L',AW sb f (CK s0 (bs.take k)) m L'∧St w T0 ((b6,.cells ⟨[.slice a5 v.files.length c5,.int .i64 v.wal,.int .i64 v.next,.int .i64 v.seq,.map (some tm),.slice pa (Ab bs).length pc]⟩ Jp (0,0))::(Lp++L')) w') (λk=>bs.length-k) 0
  ⟨rfl,rfl,rfl,rfl,rfl,trivial⟩ ⟨Ag _,L1,hO1,hS⟩ ?_
 clear hS hO1;rintro k w9⟨hk,L1,hO1,hS⟩;by_cases hkl:k<bs.length
 ·have hpa:=hvp.arr hS (T':=[]) AB;obtain⟨g,off,rfl, -⟩:=hpa.get (j:=0) (by rw[BM];omega);have hget:((Ab bs).map AG)[k]?=some (AG (B0 bs[k].1 bs[k].2)):=by simp[Ab,hkl]
  have hbk:=hbq _ (Ca hkl);have hszk:=yJ bs k hkl;have hsucc:=yS s0 bs k hkl;obtain⟨m1,m2,m3,m4⟩:=Ye s0 hrise0 (bs.take k);generalize CK s0 (bs.take k)=s1 at hO1 hsucc m1 m2 m3 m4;generalize bs[k]=b at hget hbk hszk hsucc;(repeat(refine jt ⟨?_⟩;refine hS.q ?_;intro _ hS));refine jt ⟨?_⟩;refine Arr.ldc (St.start w9) hpa hget AB ?_;(repeat(refine jt ⟨?_⟩;refine hS.q ?_;intro _ hS));refine jt ⟨?_⟩;refine Cl.mono (Z0 hbk AA) ?_
  rintro _ w10⟨ab,cb,Lb,rfl,hvb,hS'⟩;have hS:=hS.callNew hS';have hsC:=hO1.seqC (hS.part (L:=L1));(repeat(refine jt ⟨?_⟩;refine hS.q ?_;intro _ hS));refine jt ⟨?_⟩;refine Eb hsC ?_;(repeat(refine jt ⟨?_⟩;refine hS.q ?_;intro _ hS));refine jt ⟨?_⟩;obtain⟨sq2,es2,c2,hsq2,ha2,hc2,Lh2,hvh2,a2,ca2,La2,hv2,lv2,Ll2,hl2,gv2,Lg2,hg2,mb2,Lm2,hm2,tm2,et2,ct2,ks2,ht2,Lt2,hts2,LF2,hF2⟩:=hO1;(repeat(refine jt ⟨?_⟩;refine hS.q ?_;intro _ hS));refine jt ⟨?_⟩
  have hex: ∃L2,AW sb f {s1 with seq:=if s1.seq<b.1 then b.1 else s1.seq} m L2∧St w T0 (Lb++((b6,.cells ⟨[.slice a5 v.files.length c5,.int .i64 v.wal,.int .i64 v.next,.int .i64 v.seq,.map (some tm),.slice (some ⟨g,off,none⟩) (Ab bs).length pc]⟩ Jp (0,0))::(Lp++L2))) _:=
   ⟨_,AW.mk (sb:=sb) (s:={s1 with seq:=if s1.seq<b.1 then b.1 else s1.seq}) sq2 es2 c2 hsq2 ha2 hc2 Lh2 hvh2 a2 ca2 La2 hv2 lv2 Ll2 hl2 gv2 Lg2 hg2 mb2 Lm2 hm2 tm2 et2 ct2 ks2 ht2 Lt2 hts2 LF2 hF2,hS⟩
  clear hS hS' hm2 hts2 hl2 hg2 hv2 hvh2 hsq2 ht2 hF2;obtain⟨L2,hO2,hS⟩:=hex;have hcl:=YC b.2;have hcn:=KI b.2;have hln:(b.2.map EN).length=b.2.length:=AB;have htk:=TS (w:=by assumption) hO2 (hS.part (L:=L2)) b.1 (c:=cb) (ops:=b.2.map EN) (hvb.arr hS (T':=keys L2) hS.disj) m1 (by show An s1.mem+_≤_;omega) (by show s1.mem.length+_≤_;omega) (by show s1.adds+_≤_;omega);rw[hln]at htk;refine Cl.mono htk ?_
  rintro _ w12⟨L3,hO3,hS'⟩;have hS:=(hS.call (L:=L2) hS').sub (Ah _ _);(repeat(refine jt ⟨?_⟩;refine hS.q ?_;intro _ hS));refine jt ⟨?_⟩;refine⟨k+1,⟨rfl,rfl,rfl,rfl,rfl,trivial⟩,⟨AA,L3,?_,hS⟩,AA⟩;rw[hsucc];exact hO3
 ·obtain rfl:k=bs.length:=AA;rw[Bz]at hO1;(repeat(refine jt ⟨?_⟩;refine hS.q ?_;intro _ hS));refine jt ⟨?_⟩;obtain⟨m1,m2,m3,m4⟩:=Ye s0 hrise0 bs;have hvk:(CK s0 bs).v=v:=(yT s0 bs).trans hv0;have hrv:(BJ (CK s0 bs)).v={v with wal:=v.next,next:=v.next+2}:=by unfold BJ;rw[hvk]
  refine Cl.mono (Z9 hO1 (hS.part (L:=L1)) ((hG.step hS).sub (by intro b hb;simp only[keys,A4,A7,As,Bl];exact .inr (.inr hb))) (hvp.arr hS (T':=keys L1) ((hS.sub (AS _ _):St w T0 (Lp++L1) _).disj (L:=L1))) hps (by rw[hvk];exact hn) (by rw[hrv];exact hr) (by rw[hrv];exact ho) (by rw[hvk];exact hl) (by rw[hrv];exact hsum) hB hA hN) ?_;rintro _ w10⟨e,s',m',L',hR,rfl,hO2,hS'⟩;have hS:=(hS.call (L:=L1) hS').sub ((Ah Lp _).trans (AS _ _))
  by_cases he:e=0
  ·subst he;(repeat(refine jt ⟨?_⟩;refine hS.q ?_;intro _ hS));refine jt ⟨?_⟩;exact⟨0,s',m',hR,.inl ⟨rfl,sb,L',rfl,hO2,hS⟩⟩
  ·(repeat(refine jt ⟨?_⟩;refine hS.q ?_;intro _ hS));refine jt ⟨?_⟩;obtain⟨o,R,LF,rfl,hF2, -⟩:=hO2.fs;exact⟨e,s',m',hR,.inr ⟨he,rfl,LF,hF2,hS.sub ((Ah R LF).trans (AS _ _))⟩⟩
end Go.Proofs.YtkgibdhpijdbfaaGreatDoor
