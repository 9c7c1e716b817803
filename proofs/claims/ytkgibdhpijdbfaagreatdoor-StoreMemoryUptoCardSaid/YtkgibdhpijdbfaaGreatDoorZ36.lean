/- Texts of this claim, one behind the other. -/
import Derived.Test.YtkgibdhpijdbfaaGreatDoorZ35
import Derived.Test.YtkgibdhpijdbfaaGreatDoorZ32
import Derived.Test.YtkgibdhpijdbfaaGreatDoorZ33
import Derived.Test.YtkgibdhpijdbfaaGreatDoorZ19
set_option linter.unusedVariables false
set_option linter.unusedSimpArgs false
set_option maxHeartbeats 16000000
namespace Go.Proofs.YtkgibdhpijdbfaaGreatDoor
open Go Go.Eng Go.Proofs
theorem keys_perm{L M:AH}(h:L.Perm M)(b:Nat):b∈keys L↔b∈keys M:=(h.map (·.1)).mem_iff
theorem Holds.perm{L M:AH}{w:World}(h:Holds L w)(hp:L.Perm M):Holds M w:=((St.enter h).perm hp).holds
def HQ(f:Nat)(g:BF):Obj:=IS f g.name g.n g.torn g.dead
theorem AW.lg{sb f:Nat}{s:AM}{m:AJ}{L:AH}(hO:AW sb f s m L){g:BF}(hg:s.log=some g): ∃bl R LF,L.Perm ((bl,HQ f g)::(LF++R))∧BI f m LF∧(∀w,Holds L w→w.cell? ⟨sb,11,none⟩=some (ptr bl))∧
  ∀g' m' LF',BI f m' LF'→ ∃L',AW sb f {s with log:=some g'} m' L'∧L'.Perm ((bl,HQ f g')::(LF'++R)):=by
 obtain⟨sq,es,c,hsq,ha,hc,Lh,hvh,a,ca,La,hv,lv,Ll,hl,gv,Lg,hgp,mb,Lm,hm,tm,et,ct,ks,ht,Lt,hts,LF,hF⟩:=hO;rw[hg]at hgp;cases hgp;rename_i bl;have key: ∀(p q r x:Nat×Obj)(LF:AH),(p::q::r::(Lh++(La++(Ll++([x]++(Lm++(Lt++LF))))))).Perm (x::(LF++(p::q::r::(Lh++(La++(Ll++(Lm++Lt))))))):=by
  intro p q r x LF;have h1:(p::q::r::(Lh++(La++(Ll++([x]++(Lm++(Lt++LF))))))).Perm (x::(p::q::r::(Lh++(La++(Ll++(Lm++(Lt++LF))))))):=by
   rw[show(p::q::r::(Lh++(La++(Ll++([x]++(Lm++(Lt++LF)))))))=((p::q::r::(Lh++(La++Ll)))++x::(Lm++(Lt++LF))) by simp];refine Dd.trans (.cons _ ?_);simp
  refine h1.trans (.cons _ ?_);rw[show(p::q::r::(Lh++(La++(Ll++(Lm++(Lt++LF))))))=((p::q::r::(Lh++(La++(Ll++(Lm++Lt)))))++LF) by simp];exact Gp
 refine⟨bl,_,LF,key _ _ _ _ LF,hF,λw hw=>(St.enter hw).cell (b:=sb) (off:=11) rfl,λg' m' LF' hF'=>⟨_,AW.mk (s:={s with log:=some g'}) sq es c hsq ha hc Lh hvh a ca La hv lv Ll hl (ptr bl) _ (GO.some bl g') mb Lm hm tm et ct ks ht Lt hts LF' hF',key _ _ _ _ LF'⟩⟩
theorem AW.ls{sb f:Nat}{s:AM}{m:AJ}{L:AH}(hO:AW sb f s m L){g:BF}(hg:s.list=some g): ∃bl R LF,L.Perm ((bl,HQ f g)::(LF++R))∧BI f m LF∧(∀w,Holds L w→w.cell? ⟨sb,10,none⟩=some (ptr bl))∧
  ∀g' m' LF',BI f m' LF'→ ∃L',AW sb f {s with list:=some g'} m' L'∧L'.Perm ((bl,HQ f g')::(LF'++R)):=by
 obtain⟨sq,es,c,hsq,ha,hc,Lh,hvh,a,ca,La,hv,lv,Ll,hl,gv,Lg,hgp,mb,Lm,hm,tm,et,ct,ks,ht,Lt,hts,LF,hF⟩:=hO;rw[hg]at hl;cases hl;rename_i bl;have key: ∀(p q r x:Nat×Obj)(LF:AH),(p::q::r::(Lh++(La++([x]++(Lg++(Lm++(Lt++LF))))))).Perm (x::(LF++(p::q::r::(Lh++(La++(Lg++(Lm++Lt))))))):=by
  intro p q r x LF;have h1:(p::q::r::(Lh++(La++([x]++(Lg++(Lm++(Lt++LF))))))).Perm (x::(p::q::r::(Lh++(La++(Lg++(Lm++(Lt++LF))))))):=by
   rw[show(p::q::r::(Lh++(La++([x]++(Lg++(Lm++(Lt++LF)))))))=((p::q::r::(Lh++La))++x::(Lg++(Lm++(Lt++LF)))) by simp];refine Dd.trans (.cons _ ?_);simp
  refine h1.trans (.cons _ ?_);rw[show(p::q::r::(Lh++(La++(Lg++(Lm++(Lt++LF))))))=((p::q::r::(Lh++(La++(Lg++(Lm++Lt)))))++LF) by simp];exact Gp
 refine⟨bl,_,LF,key _ _ _ _ LF,hF,λw hw=>(St.enter hw).cell (b:=sb) (off:=10) rfl,λg' m' LF' hF'=>⟨_,AW.mk (s:={s with list:=some g'}) sq es c hsq ha hc Lh hvh a ca La hv (ptr bl) _ (GO.some bl g') gv Lg hgp mb Lm hm tm et ct ks ht Lt hts LF' hF',key _ _ _ _ LF'⟩⟩
theorem AW.append{w:World}{sb f A:Nat}{s:AM}{m:AJ}{L:AH}(hO:AW sb f s m L)(hh:Holds L w){g:BF}(hg:s.log=some g){a:Option Addr}{cap:Nat}{ps:List AE}(ha:Arr w (keys L) a (ps.map AG))
  (hps:BG ps+8*ps.length+((AN m g.name).getD ([],0)).1.length≤140737488355328)(hn:g.n+ps.length≤9223372036854775807)(hB:FB A m)(hA:A+2≤9223372036854775807):
  ∃bl,(∀w,Holds L w→w.cell? ⟨sb,11,none⟩=some (ptr bl))∧Cl Tryz.prog Qi [ptr bl,.slice a ps.length cap] w λv w'=>v= .int .i64 (appL m g ps).1∧ ∃L',AW sb f {s with log:=some (appL m g ps).2.1} (appL m g ps).2.2 L'∧St w (keys L) L' w':=by
 obtain⟨bl,R,LF,hp,hF,hc,hm⟩:=hO.lg hg;refine⟨bl,hc,?_⟩;have hS:=(St.enter hh).perm hp;refine(S6 (n:=g.n) (torn:=g.torn) (dead:=g.dead) (name:=g.name) hF (hS.sub (.cons_cons _ (CC _ _))).holds (ha.sub λb hb=>by
  have:b∈keys ((bl,HQ f g)::(LF++R)):=by
   unfold keys at hb⊢;rw[A4,As]at hb⊢;rcases hb with h|h
   ·exact .inl h
   ·rw[A7];exact .inr (EO _ h)
  exact(keys_perm hp b).2 this) hps hn (by have:=hB.armed;omega) (by have:=hB.acts;omega)).mono ?_
 rintro _ w1⟨rfl,L1,hF1,hS'⟩;refine⟨rfl,?_⟩;obtain⟨L2,hO2,hp2⟩:=hm (appL m g ps).2.1 _ L1 hF1;refine⟨L2,hO2,?_⟩;have hS2:St w (keys L) ([(bl,HQ f g)]++LF++R) w:=by simpa using hS
 have hS3:=St.call (L:=[(bl,HQ f g)]++LF) hS2 hS';refine St.perm ?_ hp2.symm;simp only[D3,CU,Aj]at hS3;exact hS3
theorem AW.lappend{w:World}{sb f A:Nat}{s:AM}{m:AJ}{L:AH}(hO:AW sb f s m L)(hh:Holds L w){g:BF}(hg:s.list=some g){a:Option Addr}{cap:Nat}{ps:List AE}(ha:Arr w (keys L) a (ps.map AG))
  (hps:BG ps+8*ps.length+((AN m g.name).getD ([],0)).1.length≤140737488355328)(hn:g.n+ps.length≤9223372036854775807)(hB:FB A m)(hA:A+2≤9223372036854775807):
  ∃bl,(∀w,Holds L w→w.cell? ⟨sb,10,none⟩=some (ptr bl))∧Cl Tryz.prog Qi [ptr bl,.slice a ps.length cap] w λv w'=>v= .int .i64 (appL m g ps).1∧ ∃L',AW sb f {s with list:=some (appL m g ps).2.1} (appL m g ps).2.2 L'∧St w (keys L) L' w':=by
 obtain⟨bl,R,LF,hp,hF,hc,hm⟩:=hO.ls hg;refine⟨bl,hc,?_⟩;have hS:=(St.enter hh).perm hp;refine(S6 (n:=g.n) (torn:=g.torn) (dead:=g.dead) (name:=g.name) hF (hS.sub (.cons_cons _ (CC _ _))).holds (ha.sub λb hb=>by
  have:b∈keys ((bl,HQ f g)::(LF++R)):=by
   unfold keys at hb⊢;rw[A4,As]at hb⊢;rcases hb with h|h
   ·exact .inl h
   ·rw[A7];exact .inr (EO _ h)
  exact(keys_perm hp b).2 this) hps hn (by have:=hB.armed;omega) (by have:=hB.acts;omega)).mono ?_
 rintro _ w1⟨rfl,L1,hF1,hS'⟩;refine⟨rfl,?_⟩;obtain⟨L2,hO2,hp2⟩:=hm (appL m g ps).2.1 _ L1 hF1;refine⟨L2,hO2,?_⟩;have hS2:St w (keys L) ([(bl,HQ f g)]++LF++R) w:=by simpa using hS
 have hS3:=St.call (L:=[(bl,HQ f g)]++LF) hS2 hS';refine St.perm ?_ hp2.symm;simp only[D3,CU,Aj]at hS3;exact hS3
end Go.Proofs.YtkgibdhpijdbfaaGreatDoor
namespace Go.Proofs.YtkgibdhpijdbfaaGreatDoor
open Go Go.Eng Go.Proofs Go.Srt
theorem XN{α:Type}(x p q r:α)(A B C:List α):(x::p::q::r::(A++(B++C))).Perm (p::q::r::(A++(B++([x]++C)))):=by
 refine(List.Perm.swap _ _ _).trans (.cons _ ((List.Perm.swap _ _ _).trans (.cons _ ((List.Perm.swap _ _ _).trans (.cons _ ?_)))));refine(GX [x] A _).trans (List.Perm.append_left _ ?_);exact GX [x] B _
theorem _root_.Go.Eng.St.disj{w0 w:World}{T:List Nat}{A H L:AH}{F:AH→AH}(hS:St w0 T (A++H) w) [hc:Chunk H L F]: ∀b∈keys A,b∉keys L:=by
 intro b hb hb2;obtain⟨X,Y,h1, -⟩:=hc.at_;have:=hS.nd;rw[h1]at this;unfold keys at this hb hb2;rw[A7,A7,A7,FU]at this;exact this.2.2 b hb b (FC _ (EO _ hb2)) rfl
theorem CM{C:World→Prop}{a:Addr}{v:Value}(h: ∀w',C w'→w'.cell? a=some v){K:Value→Prop}(hk:K v):FK C a K:=⟨⟨v,h,hk⟩⟩
set_option maxRecDepth 4000 in
theorem Z8{w:World}{sb f A:Nat}{s:AM}{m:AJ}{L:AH}(hO:AW sb f s m L)(hh:Holds L w)(hG:Bp w (keys L)){a:Option Addr}{ca:Nat}{v:VM}(hva:Arr w (keys L) a (v.files.flatMap Ad))(hvc:v.files.length≤ca)(hvr: -9223372036854775808≤v.wal∧v.wal≤9223372036854775807∧ -9223372036854775808≤v.seq∧v.seq≤9223372036854775807)
  (hr:DA (Ep {v with next:=v.next+1})=true)(ho:ER (Ep {v with next:=v.next+1}))(hl:v.files.length≤8388608)(hsum:BG (Ay {v with next:=v.next+1})+8*(Ay {v with next:=v.next+1}).length≤1099511627776)
  (hn:0≤v.next∧v.next≤2305843009213693952)(hB:FB A m)(hA:A+10≤4611686018427387904):
  Cl Tryz.prog pD [ptr sb,.agg ⟨DC a ca v⟩] w λr w'=>r= .tuple ⟨[.agg ⟨DC a ca (FW s m v).2.2.1⟩,.int .i64 (FW s m v).1]⟩∧ ∃L',AW sb f (FW s m v).2.1 (FW s m v).2.2.2 L'∧St w (keys L) L' w':=by
 have hS:=St.enter hh;have hed:=λ(w:World)(hv:G0 w a ca {v with next:=v.next+1})=>TM hv hr ho hl;have hit:=J1 (n:=v.next) ⟨AA,AA⟩;generalize hT:keys L=T0 at hS hG hva⊢;generalize hR:FW s m v=R;have hR1:R=_:=hR.symm;unfold FW at hR1;simp only at hR1;unfold DC;refine iS rfl ?_;(repeat(refine jt ⟨?_⟩;refine hS.q ?_;intro _ hS));refine jt ⟨?_⟩;refine hS.al ?_;intro b3 w1 _ hS;(repeat(refine jt ⟨?_⟩;refine hS.q ?_;intro _ hS));refine jt ⟨?_⟩
 refine hS.al ?_;intro b4 w2 _ hS;(repeat(refine jt ⟨?_⟩;refine hS.q ?_;intro _ hS));refine jt ⟨?_⟩;refine AL.draw AK mixed (λw'=>St w T0 _ w') [8,9] [0,1,2,3,4,6,5,7,8,9] AD hS.drew ?_;have hS:=hS.drew;refine jr ⟨?_⟩;refine CM (λw' h=>hO.fC (h.part (L:=L))) ?_;refine jr ⟨?_⟩;refine Cl.mono (KZ (n:=v.next) ⟨AA,AA⟩ (hG.keep hS).tab) ?_;rintro _ w3⟨rfl,hS'⟩;have hS:=hS.call0 hS';refine Ae.mk hS ?_;refine jr ⟨?_⟩
 refine Cl.mono (hed _ ⟨⟨(hS.arrOld hva).sub AB,hvc⟩,by simp only;omega⟩) ?_;rintro _ w4⟨ae,ce,Le,rfl,hve,hS'⟩;have hS:=hS.callNew hS';refine Ae.mk (hS.sub (Ah _ _)) ?_;refine jr ⟨?_⟩;refine Cl.mono (hO.rewrite (hS.part (L:=L)) (AX v.next) (hve.arr hS (T':=keys L) hS.disj) hsum hB AA) ?_;rintro _ w5⟨rfl,L1,hO1,hS'⟩;have hS:=(hS.call (L:=L) hS').sub (Ah _ _);have hB1:=hB.rewrite (AX v.next) (Ay {v with next:=v.next+1}) (by rw[Ds];exact hsum)
 generalize Cd m (AX v.next) (Ay {v with next:=v.next+1})=rm at hO1 hB1 hR1⊢;obtain⟨e1,m1⟩:=rm;simp only at hO1 hB1 hR1⊢;by_cases h1:e1=0
 ·subst h1;rw[if_neg AB]at hR1;(repeat(refine jt ⟨?_⟩;refine hS.q ?_;intro _ hS));refine jt ⟨?_⟩;refine Cl.mono (KZ (n:=v.next) ⟨AA,AA⟩ (hG.keep hS).tab) ?_;rintro _ w6⟨rfl,hS'⟩;have hS:=hS.call0 hS';(repeat(refine jt ⟨?_⟩;refine hS.q ?_;intro _ hS));refine jt ⟨?_⟩;refine Cl.mono (hO1.file (hS.part (L:=L1)) Bb (AX v.next) (by unfold AX;rw[Ai];omega) hB1 AA) ?_;rintro _ w7⟨rfl,L2,hO2,hS'⟩;have hS:=hS.call (L:=L1) hS'
  have hB2:=hB1.file Bb (AX v.next) (by unfold AX;rw[Ai];omega);generalize CE m1 Bb (AX v.next)=rm at hO2 hB2 hR1⊢;obtain⟨e2,m2⟩:=rm;simp only at hO2 hB2 hR1⊢;by_cases h2:e2=0
  ·subst h2;rw[if_neg AB]at hR1;(repeat(refine jt ⟨?_⟩;refine hS.q ?_;intro _ hS));refine jt ⟨?_⟩;refine Eb (hO2.fC (hS.part (L:=L2))) ?_;(repeat(refine jt ⟨?_⟩;refine hS.q ?_;intro _ hS));refine jt ⟨?_⟩;refine Cl.mono (hO2.rename (hS.part (L:=L2)) Bb Bg hB2 AA) ?_;rintro _ w8⟨rfl,L3,hO3,hS'⟩;have hS:=hS.call (L:=L2) hS';have hB3:=hB2.ren Bb Bg;generalize Cx m2 Bb Bg=rm at hO3 hB3 hR1⊢;obtain⟨e3,m3⟩:=rm
   simp only at hO3 hB3 hR1⊢;by_cases h3:e3=0
   ·subst h3;rw[if_neg AB]at hR1;(repeat(refine jt ⟨?_⟩;refine hS.q ?_;intro _ hS));refine jt ⟨?_⟩;refine AL.draw AK mixed (λw'=>St w T0 _ w') [6,7,8,9,10,11,12,13] [0,1,2,3,4,5,6,7,8,9,10,11,12,13] AD hS.drew ?_;have hS:=hS.drew;refine jr ⟨?_⟩;refine CM (λw' h=>hO3.fC (h.part (L:=L3))) ?_;refine jr ⟨?_⟩;refine Cl.mono (KZ (n:=v.next) ⟨AA,AA⟩ (hG.keep hS).tab) ?_;rintro _ w9⟨rfl,hS'⟩;have hS:=hS.call0 hS'
    refine Ae.mk hS ?_;refine jr ⟨?_⟩;by_cases h4:C9 m3 (AX v.next)=0
    ·rw[h4,if_neg AB]at hR1;subst hR1;refine Cl.mono (hO3.wopen (hS.part (L:=L3)) (AX v.next) h4 hB3) ?_;rintro _ w10⟨bl,ax,cx,Lx,rfl,hvx,hlg,hS'⟩;have hS:=(hS.call (L:=L3) hS').sub (.cons_cons _ (.cons_cons _ (Ah _ _)));obtain⟨sq,es,c,hsq,ha,hc,Lh,hvh,a3,c3,La,hv3,lv,Ll,hl3,gv,Lg,hg,mb,Lm,hm,tm,et,ct,ks,ht,Lt,hts,LF,hF⟩:=hO3;(repeat(refine jt ⟨?_⟩;refine hS.q ?_;intro _ hS));refine jt ⟨?_⟩;refine⟨rfl,_,AW.mk (s:={s with list:=some (D6 m3 (AX v.next))}) sq es c hsq ha hc Lh hvh a3 c3 La hv3 (ptr bl) _ hlg gv Lg hg mb Lm hm tm et ct ks ht Lt hts LF hF,?_⟩
     exact St.perm ((St.tl2 hS).sub (.cons_cons _ (.cons_cons _ (.cons_cons _ (.cons_cons _ ((List.Sublist.refl Lh).append ((List.Sublist.refl La).append (Ah Ll _)))))))) (XN _ _ _ _ Lh La _)
    ·rw[if_pos h4]at hR1;subst hR1;refine Cl.mono (hO3.wopenE (hS.part (L:=L3)) (AX v.next) h4) ?_;rintro _ w10⟨rfl,hS'⟩;have hS:=hS.call (L:=L3) hS';(repeat(refine jt ⟨?_⟩;refine hS.q ?_;intro _ hS));refine jt ⟨?_⟩;exact⟨rfl,_,hO3,St.tl2 hS⟩
   ·rw[if_pos h3]at hR1;subst hR1;(repeat(refine jt ⟨?_⟩;refine hS.q ?_;intro _ hS));refine jt ⟨?_⟩;exact⟨rfl,_,hO3,St.tl2 hS⟩
  ·rw[if_pos h2]at hR1;subst hR1;(repeat(refine jt ⟨?_⟩;refine hS.q ?_;intro _ hS));refine jt ⟨?_⟩;exact⟨rfl,_,hO2,St.tl2 hS⟩
 ·rw[if_pos h1]at hR1;subst hR1;(repeat(refine jt ⟨?_⟩;refine hS.q ?_;intro _ hS));refine jt ⟨?_⟩;exact⟨rfl,_,hO1,St.tl2 hS⟩
theorem Xn(s:AM)(m:AJ)(v:VM):(FW s m v).2.2.1={v with next:=v.next+1}∧ ∃l,(FW s m v).2.1={s with list:=l}:=by
 unfold FW;simp only
 split
 ·exact⟨rfl,s.list,rfl⟩
 ·split
  ·exact⟨rfl,s.list,rfl⟩
  ·split
   ·exact⟨rfl,s.list,rfl⟩
   ·split
    ·exact⟨rfl,s.list,rfl⟩
    ·exact⟨rfl,_,rfl⟩
theorem cU{α:Type}(t:List (Int×α))(ns:List Int)(n:Int):delNs t (ns++[n])=Co n (delNs t ns):=by
 unfold delNs;rw[Hq];rfl
theorem Cj.delNs{ks:List (Int×Nat)}{ts:List (Int×List AF)}{M:AH}(h:Cj ks ts M)(ns:List Int): ∃M',Cj (Proofs.YtkgibdhpijdbfaaGreatDoor.delNs ks ns) (Proofs.YtkgibdhpijdbfaaGreatDoor.delNs ts ns) M'∧M'.Sublist M:=by
 induction ns generalizing ks ts M with
 |nil=>exact⟨M,h,.refl _⟩
 |cons n ns ih=>
  obtain⟨M1,h1,h2⟩:=h.del n;obtain⟨M2,h3,h4⟩:=ih h1;exact⟨M2,h3,h4.trans h2⟩
theorem t8(a b p q r mm:Nat×Obj)(V T R:AH):(a::(V++(b::mm::(T++(p::q::r::R))))).Perm (a::(V++(b::(T++(p::q::r::mm::R))))):=by
 classical
 refine Ix.2 λa=>?_;simp only[Hp,Iw,List.count_nil];omega
theorem aW(p q r:Nat×Obj)(V T H L G M N F:AH):(V++(T++(p::q::r::(H++(L++(G++(M++(N++F)))))))).Perm (p::q::r::(H++(V++(L++(G++(M++((T++N)++F))))))):=by
 classical
 refine Ix.2 λa=>?_;simp only[Hp,Iw,List.count_nil];omega
set_option maxRecDepth 4000 in
theorem TL{w:World}{sb f A:Nat}{s:AM}{m:AJ}{L:AH}(hO:AW sb f s m L){mm:Nat}{em:Array MapEntry}{cm:Nat}{km:List (Int×Nat)}{Lt1:AH}{made:List (Int×List AF)}(hmm:MapC AY (λb:Nat=>ptr b) em cm km)(hmt:Cj km made Lt1)
  (hh:Holds ((mm,.map em cm)::(Lt1++L)) w)(hG:Bp w (keys ((mm,.map em cm)::(Lt1++L)))){x y:Option Addr}{cx cy:Nat}{e:EM}(hx:Arr w (keys ((mm,.map em cm)::(Lt1++L))) x (e.add.flatMap Ad))(hxc:e.add.length≤cx)
  (hy:Arr w (keys ((mm,.map em cm)::(Lt1++L))) y (e.del.map AY))(hyc:e.del.length≤cy)(hel:e.add.length+e.del.length≤8388608)(her: -9223372036854775808≤e.wal∧e.wal≤9223372036854775807∧ -9223372036854775808≤e.next∧e.next≤9223372036854775807∧ -9223372036854775808≤e.seq∧e.seq≤9223372036854775807)
  (hok:ER e)(hnx: ∀nx,BQ s.v e=some nx→DA (Ep {nx with next:=nx.next+1})=true∧ER (Ep {nx with next:=nx.next+1})∧(BG (Ay {nx with next:=nx.next+1})+8*(Ay {nx with next:=nx.next+1}).length≤1099511627776)∧0≤nx.next∧nx.next≤2305843009213693952)
  {g:BF}(hls:s.list=some g)(hgn:g.n≤4611686018427387904)(hfl:s.v.files.length+e.add.length≤8388608)(hB:FB A m)(hA:A+10≤4611686018427387904):
  Cl Tryz.prog pB [ptr sb,.agg ⟨Dv x y cx cy e⟩,.map (some mm)] w λr w'=>∃made',made'.Perm made∧r= .int .i64 (DY s m e made').1∧ ∃L',AW sb f (DY s m e made').2.1 (DY s m e made').2.2 L'∧St w (keys ((mm,.map em cm)::(Lt1++L))) L' w':=by
 have hS:=St.enter hh;generalize hT:keys _=T0 at hS hG hx hy⊢;unfold Dv;refine iO rfl ?_;(repeat(refine jt ⟨?_⟩;refine hS.q ?_;intro _ hS));refine jt ⟨?_⟩;refine hS.al ?_;intro b4 w1 _ hS;(repeat(refine ju ⟨?_⟩;refine hS.q ?_;intro _ hS));refine ju ⟨?_⟩;refine AL.join (λb7:Nat=>[(0,ptr sb),(2,.map (some mm)),(4,ptr b4),(6,.int .i64 0),(7,ptr b7),(8,.int .i64 (Un (BQ s.v e)))])
  (λb7 w'=>∃a1 c1 Lv,Dt a1 c1 ((BQ s.v e).getD Cu) Lv∧St w T0 ((b7,.cells ⟨DC a1 c1 ((BQ s.v e).getD Cu)⟩ Ee (0,0))::(Lv++((b4,.cells ⟨[.slice x e.add.length cx,.slice y e.del.length cy,.int .i64 e.wal,.int .i64 e.next,.int .i64 e.seq]⟩ Bu (0,0))::(mm,.map em cm)::(Lt1++L)))) w') ?_ ?_
 ·obtain⟨L',hLL,hO'⟩: ∃L',L'=L∧AW sb f s m L':=⟨L,rfl,hO⟩;obtain⟨sq,es,c,hsq,ha,hc,Lh,hvh,a3,c3,La,hv3,lv,Ll,hl3,gv,Lg,hg,mb,Lm,hm,tm,et,ct,ks,ht,Lt,hts,LF,hF⟩:=hO';rw[←hLL]at hS⊢;refine jq ⟨?_⟩;refine AL.drawR AK mixed [11] ?_;have hS:=hS.drew;generalize w1.drew=w1 at hS;refine Cg.takes AK AD 8 [0,1,2,3,4] AD ?_;refine js ⟨?_⟩;refine Cg.alt AK 5 [10] AD ⟨?_,?_,trivial⟩
  ·refine hS.alG ?_;intro b19 w2 hGr hS;refine Ae.mk hGr ?_;refine Cg.alt AK 6 [10] AD ⟨?_,?_,trivial⟩
   ·have hes:Bt 5 Jm _ [.slice (some ⟨b19,0,none⟩) [e].length 1] [e]:=Bt.own (css:=[Dv x y cx cy e]) (tail:=[]) (xs:=[e]) hS rfl (by simp[Dv]) (λj h1 h2=>by
     obtain rfl:j=0:=by simp at h1;exact h1
     exact⟨x,y,cx,cy,rfl,⟨⟨(hS.arrOld hx).sub AB,hxc⟩,(hS.arrOld hy).sub AB,hyc,by show e.add.length+e.del.length≤16777216;omega,her⟩⟩) (AV _) trivial
    refine Cl.mono (PR (hv3.at hS) hes (by simp[Hg];omega) AB) ?_;intro r w9 hpost;rw[Px]at hpost;obtain⟨a1,c1,Lv,rfl,hv1,hS'⟩:=hpost.out;refine Ae.mk hS'.nil ?_;have hS:=hS.callNew hS';refine Cg.takesP AK AD 3 [7,8,9] AD ?_;refine js ⟨?_⟩;refine Cg.alt AK 10 [] AD ⟨?_,trivial⟩;refine hS.alG ?_;intro b7 w4 hGr hS;refine Ae.mk hGr ?_;refine Cg.alt AK 11 [] AD ⟨?_,trivial⟩;refine hS.q ?_;intro _ hS;refine Cg.takes AK AD 0 [12] AD ?_
    refine js ⟨?_⟩;refine Cg.done AD ?_;refine jq ⟨?_⟩;exact⟨b7,⟨rfl,rfl,rfl,rfl,rfl,rfl,trivial⟩,a1,c1,Lv,hv1,(hS.sub (.cons_cons _ ((List.Sublist.refl Lv).append (AS _ _))))⟩
   ·refine hS.alG ?_;intro b7 w3 hGr hS;refine Ae.mk hGr ?_;refine Cg.alt AK 6 [] AD ⟨?_,trivial⟩;have hes:Bt 5 Jm _ [.slice (some ⟨b19,0,none⟩) [e].length 1] [e]:=Bt.own (css:=[Dv x y cx cy e]) (tail:=[]) (xs:=[e]) hS rfl (by simp[Dv]) (λj h1 h2=>by
     obtain rfl:j=0:=by simp at h1;exact h1
     exact⟨x,y,cx,cy,rfl,⟨⟨(hS.arrOld hx).sub AB,hxc⟩,(hS.arrOld hy).sub AB,hyc,by show e.add.length+e.del.length≤16777216;omega,her⟩⟩) (AV _) trivial
    refine Cl.mono (PR (hv3.at hS) hes (by simp[Hg];omega) AB) ?_;intro r w9 hpost;rw[Px]at hpost;obtain⟨a1,c1,Lv,rfl,hv1,hS'⟩:=hpost.out;refine Ae.mk hS'.nil ?_;have hS:=hS.callNew hS';refine Cg.takesP AK AD 2 [7,8,9] AD ?_;refine js ⟨?_⟩;refine Cg.alt AK 11 [] AD ⟨?_,trivial⟩;refine hS.q ?_;intro _ hS;refine Cg.takes AK AD 0 [12] AD ?_;refine js ⟨?_⟩;refine Cg.done AD ?_;refine jq ⟨?_⟩;exact⟨b7,⟨rfl,rfl,rfl,rfl,rfl,rfl,trivial⟩,a1,c1,Lv,hv1,((St.perm hS Dd).sub (.cons_cons _ ((List.Sublist.refl Lv).append (AS _ _))))⟩
  ·refine hS.alG ?_;intro b7 w3 hGr hS;refine Ae.mk hGr ?_;refine Cg.alt AK 5 [] AD ⟨?_,trivial⟩;refine hS.alG ?_;intro b19 w2 hGr hS;refine Ae.mk hGr ?_;refine Cg.alt AK 6 [] AD ⟨?_,trivial⟩;have hes:Bt 5 Jm _ [.slice (some ⟨b19,0,none⟩) [e].length 1] [e]:=Bt.own (css:=[Dv x y cx cy e]) (tail:=[]) (xs:=[e]) hS rfl (by simp[Dv]) (λj h1 h2=>by
    obtain rfl:j=0:=by simp at h1;exact h1
    exact⟨x,y,cx,cy,rfl,⟨⟨(hS.arrOld hx).sub AB,hxc⟩,(hS.arrOld hy).sub AB,hyc,by show e.add.length+e.del.length≤16777216;omega,her⟩⟩) (AV _) trivial
   refine Cl.mono (PR (hv3.at hS) hes (by simp[Hg];omega) AB) ?_;intro r w9 hpost;rw[Px]at hpost;obtain⟨a1,c1,Lv,rfl,hv1,hS'⟩:=hpost.out;refine Ae.mk hS'.nil ?_;have hS:=hS.callNew hS';refine Cg.takesP AK AD 2 [7,8,9] AD ?_;refine js ⟨?_⟩;refine Cg.alt AK 11 [] AD ⟨?_,trivial⟩;refine hS.q ?_;intro _ hS;refine Cg.takes AK AD 0 [12] AD ?_;refine js ⟨?_⟩;refine Cg.done AD ?_;refine jq ⟨?_⟩;exact⟨b7,⟨rfl,rfl,rfl,rfl,rfl,rfl,trivial⟩,a1,c1,Lv,hv1,(St.perm (hS.sub ((List.Sublist.refl Lv).append (AS _ _))) Dd)⟩
 ·clear hS;rintro b7 w2⟨a1,c1,Lv,hv1,hS⟩;cases hap:BQ s.v e with
  |none=>
   have hM:DY s m e made=(11,s,m):=by unfold DY;rw[hap]
   rw[hap]at hS;(repeat(refine jt ⟨?_⟩;refine hS.q ?_;intro _ hS));refine jt ⟨?_⟩;refine⟨made,.refl _,by rw[hM];rfl,L,by rw[hM];exact hO,?_⟩;exact hS.sub (.cons _ (((Ah Lt1 L).cons _ |>.cons _).trans (Ah Lv _)))
  |some nx=>
   rw[hap]at hS hv1;simp only[FD]at hS hv1;obtain⟨hn1,hn2,hn3,hn4⟩:=hnx nx hap;have hre:DA e=true:=by
    unfold BQ at hap
    split at hap
    ·rename_i h;unfold GG at h;simp only[Bool.and_eq_true]at h;exact h.1.1.1
    ·cases hap
   have hnl:=Nq hap;(repeat(refine jt ⟨?_⟩;refine hS.q ?_;intro _ hS));refine jt ⟨?_⟩;have hS:=hS;refine Cl.mono (NS (e:=e) ⟨⟨(hS.arrOld hx).sub AB,hxc⟩,(hS.arrOld hy).sub AB,hyc,AA,her⟩ hok) ?_;unfold Kj;rw[if_pos hre];rintro _ w3⟨rfl,hS'⟩;have hS:=hS.call0 hS';refine AL.join (λz:Int×AM×AJ×VM=>[(0,ptr sb),(2,.map (some mm)),(4,ptr b4),(6,.int .i64 0),(7,ptr b7),(8,.int .i64 z.1)])
    (λz w'=>(∀made',DY s m e made'=if z.1≠0 then(z.1,z.2.1,z.2.2.1)else(0,{z.2.1 with v:=z.2.2.2,tabs:=FZ s.tabs made' e.del},z.2.2.1))∧z.2.1.tabs=s.tabs∧Dt a1 c1 z.2.2.2 Lv∧ ∃L1,AW sb f z.2.1 z.2.2.1 L1∧
     St w T0 ((b7,.cells ⟨DC a1 c1 z.2.2.2⟩ Ee (0,0))::(Lv++((b4,.cells ⟨[.slice x e.add.length cx,.slice y e.del.length cy,.int .i64 e.wal,.int .i64 e.next,.int .i64 e.seq]⟩ Bu (0,0))::(mm,.map em cm)::(Lt1++L1)))) w') ?_ ?_
   ·have hMM: ∀made',DY s m e made'=_:=λmade'=>by unfold DY;rw[hap]
    simp only at hMM;have hnr:=hv1.rng;by_cases hlong:65536<(Am e).length
    ·simp only[hlong,if_true]at hMM;have hG2:Bp _ (keys L):=(hG.step hS).sub λb hb=>by simp only[keys,A4,A7,As,Bl]at hb⊢;exact .inr (.inr (.inr (.inr (.inr hb))))
     have hva2:=hv1.vec.arr hS (T':=keys L) (St.tl1 hS).disj;(repeat(refine jt ⟨?_⟩;refine hS.q ?_;intro _ hS));refine jt ⟨?_⟩;refine Cl.mono (Z8 hO (hS.part (L:=L)) hG2 hva2 hv1.vec.cap AA hn1 hn2 AA hn3 hn4 hB hA) ?_;rintro _ w4⟨rfl,L1,hO1,hS'⟩;have hS:=hS.call (L:=L) hS';obtain⟨hr1,l,hr2⟩:=Xn s m nx;generalize FW s m nx=R at hO1 hMM hr1 hr2⊢;obtain⟨e1,s1,v1,m1⟩:=R;simp only at hO1 hMM hr1 hr2⊢;have hvv:Dt a1 c1 v1 Lv:=⟨by rw[hr1];exact hv1.vec,by rw[hr1];simp only;omega⟩
     unfold DC at hS⊢;(repeat(refine jt ⟨?_⟩;refine hS.q ?_;intro _ hS));refine jt ⟨?_⟩;exact⟨(e1,s1,m1,v1),⟨rfl,rfl,rfl,rfl,rfl,rfl,trivial⟩,hMM,by rw[hr2],hvv,L1,hO1,hS⟩
    ·simp only[hlong,if_false,hls]at hMM;obtain⟨bl,R,LF, -, -,hc10, -⟩:=hO.ls hls;have hfg:=hB.get g.name;have hvv:Dt a1 c1 nx Lv:=hv1;(repeat(refine jt ⟨?_⟩;refine hS.q ?_;intro _ hS));refine jt ⟨?_⟩;refine Eb (hc10 _ (hS.part (L:=L))) ?_;(repeat(refine jt ⟨?_⟩;refine hS.q ?_;intro _ hS));refine jt ⟨?_⟩;refine hS.al ?_;intro b45 w4 _ hS;(repeat(refine jt ⟨?_⟩;refine hS.q ?_;intro _ hS));refine jt ⟨?_⟩
     obtain⟨bl',hc',hcl⟩:=hO.lappend (hS.part (L:=L)) hls (cap:=1) (ps:=[Am e]) (hS.arr (b:=b45) (Cp hS)) (by simp only[BG,A4,kC,HL,List.sum_nil,Ai,Bo];omega) (by simp only[Ai,Bo];omega) hB AA;obtain rfl:bl=bl':=by
      have h1:=hc10 _ (hS.part (L:=L));rw[hc' _ (hS.part (L:=L))]at h1;simp only[Option.some.injEq,Value.pointer.injEq,Addr.mk.injEq,and_true]at h1;exact h1.symm
     refine Cl.mono hcl ?_;rintro _ w5⟨rfl,L1,hO1,hS'⟩;have hS:=(hS.call (L:=L) hS').sub (AS _ _);generalize appL m g [Am e]=R at hO1 hMM⊢;obtain⟨e1,g1,m1⟩:=R;simp only at hO1 hMM⊢;unfold DC at hS⊢;(repeat(refine jt ⟨?_⟩;refine hS.q ?_;intro _ hS));refine jt ⟨?_⟩;exact⟨(e1,{s with list:=some g1},m1,nx),⟨rfl,rfl,rfl,rfl,rfl,rfl,trivial⟩,hMM,rfl,hvv,L1,hO1,hS⟩
   ·clear hS;rintro⟨e1,s1,m1,v1⟩w4⟨hMM,htb,hvv,L1,hO1,hS⟩;simp only at hMM htb hvv hO1 hS⊢;by_cases he1:e1=0
    ·subst he1;have hMM2: ∀made',DY s m e made'=(0,{s1 with v:=v1,tabs:=FZ s.tabs made' e.del},m1):=λmade'=>(hMM made').trans (if_neg AB);clear hMM;obtain⟨sq,es,c,hsq,ha,hc,Lh,hvh,a3,c3,La,hv3,lv,Ll,hl3,gv,Lg,hg,mb,Lm,hm,tm,et,ct,ks,ht,Lt,hts,LF,hF⟩:=hO1;unfold DC at hS;(repeat(refine jt ⟨?_⟩;refine hS.q ?_;intro _ hS));refine jt ⟨?_⟩;have hS:=St.perm hS (t8 _ _ _ _ _ _ Lv Lt1 _);refine Cl.mono (Y1 ht hmm (hS.part (L:=[(tm,.map et ct),(mm,.map em cm)]))) ?_
     rintro _ w5⟨k1,et1,ct1,hkp,hM1,hS'⟩;have hS:=hS.call (L:=[(tm,.map et ct),(mm,.map em cm)]) hS';(repeat(refine jt ⟨?_⟩;refine hS.q ?_;intro _ hS));refine jt ⟨?_⟩;refine AL.loop (λk:Nat=>[(0,ptr sb),(61,.slice y e.del.length cy),(62,.int .i64 e.del.length),(63,.int .i64 k)])
      (λk w'=>k≤e.del.length∧ ∃et ct,MapC AY (λb:Nat=>ptr b) et ct (delNs (putAll ks k1) (e.del.take k))∧St w T0 ((b7,_)::(Lv++((b4,_)::(Lt1++((sb,_)::(sq,.map es c)::(tm,.map et ct)::(mm,.map em cm)::_))))) w') (λk=>e.del.length-k) 0
      ⟨rfl,rfl,rfl,rfl,trivial⟩ ⟨Ag _,et1,ct1,hM1,hS⟩ ?_
     clear hS hS' hM1;rintro k w6⟨hk,et2,ct2,hM2,hS⟩;by_cases hkl:k<e.del.length
     ·obtain⟨gy,oy,rfl, -, -⟩:=hy.get (j:=k) (by simpa using hkl);have hdk:(e.del.map AY)[k]?=some (AY e.del[k]):=by simp[hkl]
      have hsucc:e.del.take (k+1)=e.del.take k++[e.del[k]]:=Bs hkl;generalize e.del[k]=n at hdk hsucc;(repeat(refine jt ⟨?_⟩;refine hS.q ?_;intro _ hS));refine jt ⟨?_⟩;refine Arr.ldc (j:=k) hS hy hdk AA ?_;(repeat(refine jt ⟨?_⟩;refine hS.q ?_;intro _ hS));refine jt ⟨?_⟩;refine St.mapDel AK Bq.i64 rfl rfl Eo hS (k:=n) hM2 ?_;intro et3 ct3 w7 hM3 hS;(repeat(refine jt ⟨?_⟩;refine hS.q ?_;intro _ hS));refine jt ⟨?_⟩
      exact⟨k+1,⟨rfl,rfl,rfl,rfl,trivial⟩,⟨hkl,et3,ct3,by rw[hsucc,cU];exact hM3,hS⟩,AA⟩
     ·have hke:k=e.del.length:=AA;subst hke;rw[Bz]at hM2;obtain⟨made',Lt',hmp,hmt',hltp⟩:=hmt.perm hkp;obtain⟨M',R',hpa,hpp⟩:=hts.putAll hmt';obtain⟨M2,hdn,hms⟩:=hpa.delNs e.del;have hM:=hMM2 made';rw[htb]at hdn;(repeat(refine jt ⟨?_⟩;refine hS.q ?_;intro _ hS));refine jt ⟨?_⟩;refine⟨made',hmp,by rw[hM],_,by
       rw[hM];exact AW.mk (s:={s1 with v:=v1,tabs:=FZ s.tabs made' e.del}) sq es c hsq ha hc Lh hvh a1 c1 Lv hvv lv Ll hl3 gv Lg hg mb Lm hm tm et2 ct2 _ hM2 M2 hdn LF hF,?_⟩
      have hs1:=hS.sub (.cons _ ((List.Sublist.refl Lv).append (.cons _ ((List.Sublist.refl Lt1).append (.cons_cons _ (.cons_cons _ (.cons_cons _ (.cons _ ((List.Sublist.refl Lh).append (Ah La _))))))))));have hs2:=St.perm hs1 (aW _ _ _ Lv Lt1 Lh Ll Lg Lm Lt LF);have hP:(Lt1++Lt).Perm (M'++R'):=(hltp.symm.append_right Lt).trans hpp.symm;have hs3:=St.perm hs2 (.cons _ (.cons _ (.cons _ (List.Perm.append_left Lh (List.Perm.append_left Lv (List.Perm.append_left Ll (List.Perm.append_left Lg (List.Perm.append_left Lm (List.Perm.append_right LF hP)))))))))
      exact hs3.sub (.cons_cons _ (.cons_cons _ (.cons_cons _ ((List.Sublist.refl Lh).append ((List.Sublist.refl Lv).append ((List.Sublist.refl Ll).append ((List.Sublist.refl Lg).append ((List.Sublist.refl Lm).append ((hms.trans (CC M' R')).append (List.Sublist.refl LF))))))))))
    ·have hM:=hMM made;rw[if_pos he1]at hM;(repeat(refine jt ⟨?_⟩;refine hS.q ?_;intro _ hS));refine jt ⟨?_⟩;refine⟨made,.refl _,by rw[hM],L1,by rw[hM];exact hO1,?_⟩;exact hS.sub (.cons _ (((Ah Lt1 L1).cons _ |>.cons _).trans (Ah Lv _)))
end Go.Proofs.YtkgibdhpijdbfaaGreatDoor
