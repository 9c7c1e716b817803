/- Texts of this claim, one behind the other. -/
import Derived.Test.YtkgibdhpijdbfaaGreatDoorZ36
import Derived.Test.YtkgibdhpijdbfaaGreatDoorZ37
import Derived.Test.YtkgibdhpijdbfaaGreatDoorZ31
import Derived.Test.YtkgibdhpijdbfaaGreatDoorZ25
set_option linter.unusedVariables false
set_option linter.unusedSimpArgs false
set_option maxHeartbeats 16000000
namespace Go.Proofs.YtkgibdhpijdbfaaGreatDoor
open Go Go.Eng Go.Proofs Go.Srt
theorem AW.memP{sb f:Nat}{s:AM}{m:AJ}{L:AH}(hO:AW sb f s m L): ∃mb Lm,Fy mb s.mem s.adds Lm∧(∀w,Holds L w→w.cell? ⟨sb,12,none⟩=some (ptr mb)∧Holds Lm w)∧ ∀w w',Holds L w→St w (keys Lm) Lm w'→St w (keys L) L w':=by
 obtain⟨sq,es,c,hsq,ha,hc,Lh,hvh,a,ca,La,hv,lv,Ll,hl,gv,Lg,hg,mb,Lm,hm,tm,et,ct,ks,ht,Lt,hts,LF,hF⟩:=hO;exact⟨mb,Lm,hm,λw hw=>⟨(St.enter hw).cell (b:=sb) (off:=12) rfl,(St.enter hw).part (L:=Lm)⟩,λw w' hw h=>(St.enter hw).call (L:=Lm) h⟩
theorem Ju(lev:Int)(l:List (Int×List AF)):(Bx lev l).length=l.length:=by simp[Bx]
theorem Jb{α:Type}: ∀(cs:List α)(n:Int),(Ar n cs).length=cs.length
 |[],_=>rfl
 |c::cs,n=>by rw[Ar,Ai,Ai,Jb cs]
theorem sZ(p q:Nat×Obj)(R X Y Z:AH):(p::(R++(q::(X++(Y++Z))))).Perm (q::(X++(Y++(p::(R++Z))))):=by
 classical
 refine Ix.2 λa=>?_;simp only[Hp,Iw];omega
theorem AW.lay{w:World}{sb f A:Nat}{s:AM}{m:AJ}{L:AH}(hO:AW sb f s m L)(hh:Holds L w)(hG:Bp w (keys L))(lev n:Int)(hn:0≤n∧n≤2305843009213693952)
  {a:Option Addr}{c:Nat}{es:List AF}(ha:Arr w (keys L) a (es.flatMap AU))(hc:es.length≤c)(hes:es.length≤8388608)(hp: ∀p∈AR 64 es,B8 p)(hB:FB A m)(hA:A+3*es.length≤4611686018427387904):
  Cl Tryz.prog U6 [ptr sb,.int .i64 lev,.int .i64 n,.slice a es.length c] w λv w'=>((Bi m n (AR 64 es)).1≠0∧v= .tuple ⟨[.slice none 0 0,.map none,.int .i64 (Bi m n (AR 64 es)).1]⟩∧ ∃L',AW sb f s (Bi m n (AR 64 es)).2 L'∧St w (keys L) L' w')∨
   ((Bi m n (AR 64 es)).1=0∧ ∃a2 c2 Lf tm et ct ks Lt L',v= .tuple ⟨[.slice a2 (Bx lev (Ar n (AR 64 es))).length c2,.map (some tm),.int .i64 0]⟩∧AT BE 2 a2 (Bx lev (Ar n (AR 64 es))).length c2 ((Bx lev (Ar n (AR 64 es))).flatMap Ad) Lf∧
    MapC AY (λb:Nat=>ptr b) et ct ks∧Cj ks (Ar n (AR 64 es)) Lt∧AW sb f s (Bi m n (AR 64 es)).2 L'∧St w (keys L) ((tm,.map et ct)::(Lf++(Lt++L'))) w'):=by
 have hc2:=hO.fC hh;obtain⟨o,R,LF,rfl,hF,hm⟩:=hO.fs;have hS:=St.enter hh;have hsub: ∀b,b∈keys LF→b∈keys ((sb,o)::(R++LF)):=λb hb=>by
  simp only[keys,A4,A7,As,Bl];exact .inr (.inr hb)
 rw[Ju,Jb];refine(Z6 hF (hS.part (L:=LF)) hc2 (Cp hS) (hG.sub hsub) lev n hn (ha.sub hsub) hc hes hp hB hA).mono ?_;rintro v w'(⟨h1,h2,L1,hF1,hS'⟩|⟨h1,a2,c2,Lf,tm,et,ct,ks,Lt,L1,h2,h3,h4,h5,hF1,hS'⟩)
 ·exact .inl ⟨h1,h2,_,hm _ _ hF1,hS.call (L:=LF) hS'⟩
 ·exact .inr ⟨h1,a2,c2,Lf,tm,et,ct,ks,Lt,_,h2,h3,h4,h5,hm _ _ hF1,St.perm (hS.call (L:=LF) hS') (sZ _ _ _ _ _ _)⟩
structure Gf(l:List AF):Prop where
 rise:Az l
 fine:KY l
 seqs:Hf l
 sz: ∀x∈l,CS x≤4096
 num:l.length≤4194304
theorem Gf.tab{l:List AF}(h:Gf l): ∀p∈AR 64 l,B8 p:=by
 intro p hp;obtain⟨_,h2,a,b,e⟩:=KE (show 0<64 by omega) hp;have hs:p.Sublist l:=by rw[e];exact((Ah a p).trans AB)
 exact⟨h2,h.rise.sublist hs,λx hx=>h.fine x (hs.mem hx),λx hx=>h.seqs x (hs.mem hx),λx hx=>h.sz x (hs.mem hx)⟩
theorem I5{α:Type}(n:Nat)(l:List α)(hn:0<n):(AR n l).length≤l.length:=by
 rw[Jd];rcases Iv l.length with h|h
 ·rw[h];exact Nat.le_of_eq (Nat.div_eq_of_lt AA)
 ·refine Nat.div_le_of_le_mul ?_;have:l.length*1≤l.length*n:=Nat.mul_le_mul_left _ hn;have h2:n≤l.length*n:=Nat.le_mul_of_pos_left _ h;rw[HM n];rcases Nat.lt_or_ge 1 l.length with h3|h3
  ·have:2*n≤l.length*n:=GY _ h3;have:l.length+n-1≤l.length*n:=by
    have h4:(l.length-1)*(n-1)≥0:=Ag _;have h5:l.length*n=(l.length-1)*(n-1)+l.length+n-1:=by
     obtain⟨a,ha⟩: ∃a,l.length=a+1:=⟨l.length-1,AA⟩;obtain⟨b,hb⟩: ∃b,n=b+1:=⟨n-1,AA⟩;rw[ha,hb];simp only[Nat.add_sub_cancel];rw[Nat.mul_succ,Nat.succ_mul];omega
    omega
   exact this
  ·have:l.length=1:=AA;rw[this];omega
structure Ik(A T:Nat)(s:AM)(m:AJ):Prop where
 mem:Gf s.mem
 gv:DE s.v
 vnum:s.v.files.length≤2097152
 next:s.v.next≤1152921504606846976
 seq:0≤s.seq∧s.seq≤1152921504606846976
 list: ∃g,s.list=some g∧g.n≤2305843009213693952
 ft:FT A T m
 acts:A≤2305843009213693952
 lo:536870912≤T
 hi:T+1048576≤1099511627776
 hts:s.hts.length≤1099511627776
theorem UU(s:AM)(m:AJ)(x:EM)(mk:List (Int×List AF)): ∃l v t,(DY s m x mk).2.1={s with list:=l,v:=v,tabs:=t}:=by
 unfold DY;cases BQ s.v x with
 |none=>exact⟨s.list,s.v,s.tabs,rfl⟩
 |some nx=>
  simp only
  split
  ·obtain⟨-,l,h⟩:=Xn s m nx
   split
   ·exact⟨l,s.v,s.tabs,h⟩
   ·exact⟨l,(FW s m nx).2.2.1,FZ s.tabs mk x.del,by simp only[h]⟩
  ·split
   ·exact⟨s.list,s.v,s.tabs,rfl⟩
   ·split
    ·exact⟨_,s.v,s.tabs,rfl⟩
    ·exact⟨_,_,_,rfl⟩
theorem aZ{v nx:VM}{e:EM}(h:BQ v e=some nx):nx.wal=e.wal∧nx.next=e.next∧nx.seq=e.seq:=by
 unfold BQ at h
 split at h
 ·cases ha:EJ e.next (Ei e v.files) e.add with
  |none=>rw[ha]at h;cases h
  |some fs=>rw[ha]at h;cases h;exact⟨rfl,rfl,rfl⟩
 ·cases h
theorem Ko(lev:Int)(cs:List (List AF))(n:Int): ∀f∈Bx lev (Ar n cs),f.1=lev∧n≤f.2∧f.2<n+cs.length:=by
 intro f hf;obtain⟨x,hx,rfl⟩:=BV.1 hf;exact⟨rfl,(LA cs n x.1).1 (CD hx)⟩
theorem Ki{v:VM}(hv:DE v){e:EM}(hl:v.files.length+e.add.length≤8388608)(hw:e.wal≤2305843009213693952)(hn:e.next≤2305843009213693951)(hs:e.seq≤2305843009213693952): ∀nx,BQ v e=some nx→DE nx∧nx.next+1≤2305843009213693952:=by
 intro nx h;obtain⟨h1,h2,h3⟩:=aZ h;have h4:=Nq h;exact⟨⟨hv.good.step h,AA,AA,AA,AA⟩,AA⟩
theorem Fr{n:Int}(h:Ck n):(Aw n).length≤22∧(Aa n).length≤22∧(AX n).length≤22:=by
 have:=J1 h;unfold Aw Aa AX;simp only[Ai];omega
theorem dE(p:Nat×Obj)(X Y:AH):(p::(X++Y)).Perm (X++(p::Y)):=Dd.symm
theorem tU(p q r:Nat×Obj)(N H A B C M Z:AH):(N++(p::q::r::(H++(A++(B++(C++(M++Z))))))).Perm (p::q::r::(H++(A++(B++(C++(N++(M++Z))))))):=by
 classical
 refine Ix.2 λa=>?_;simp only[Hp,Iw,List.count_nil];omega
theorem WR(x p q r:Nat×Obj)(H A B Z:AH):(x::p::q::r::(H++(A++(B++Z)))).Perm (p::q::r::(H++(A++(B++([x]++Z))))):=by
 classical
 refine Ix.2 λa=>?_;simp only[Hp,Iw,List.count_nil];omega
set_option maxRecDepth 8000 in
theorem Pj{w:World}{sb f A T:Nat}{s:AM}{m:AJ}{L:AH}(hO:AW sb f s m L)(hh:Holds L w)(hG:Bp w (keys L))(hW:Ik A T s m):
  Cl Tryz.prog pC [ptr sb] w λv w'=>∃mk,mk.Perm (Ar s.v.next (AR 64 s.mem))∧v= .int .i64 (By s m mk).1∧ ∃L',AW sb f (By s m mk).2.1 (By s m mk).2.2 L'∧St w (keys L) L' w':=by
 have hS:=St.enter hh;have hnum:=hW.mem.num;have hvn:=hW.gv.good.nn;have hvx:=hW.next;have hsq:=hW.seq;have hwl:=hW.gv.wal;have hac:=hW.acts;have hcnt:=I5 64 s.mem AA;have hlw:=J1 (n:=s.v.wal) ⟨AA,AA⟩;generalize hT:keys L=T0 at hS hG⊢;refine iQ rfl ?_;obtain⟨mb,Lm0,hM0,hcm,hcl⟩:=hO.memP;(repeat(refine jt ⟨?_⟩;refine hS.q ?_;intro _ hS));refine jt ⟨?_⟩;refine Eb (hcm _ hS.holds).1 ?_;(repeat(refine jt ⟨?_⟩;refine hS.q ?_;intro _ hS));refine jt ⟨?_⟩
 refine Cl.mono (S7 hM0 (hcm _ hS.holds).2) ?_;rintro _ w1⟨rfl,hS'⟩;have hS:=hS.call (L:=L) (hcl _ _ hS.holds hS');by_cases hm0:s.mem=[]
 ·have hl0:s.mem.length=0:=by rw[hm0];rfl
  have hM: ∀mk,By s m mk=(0,s,m):=λmk=>by unfold By;rw[if_pos hm0]
  (repeat(refine jt ⟨?_⟩;refine hS.q ?_;intro _ hS));refine jt ⟨?_⟩;exact⟨_,.refl _,by rw[hM],L,by rw[hM];exact hO,hS⟩
 ·have hl0:0<s.mem.length:=J5.2 hm0;have hFM: ∀mk,By s m mk=_:=λmk=>by unfold By;rw[if_neg hm0]
  simp only at hFM;(repeat(refine jt ⟨?_⟩;refine hS.q ?_;intro _ hS));refine jt ⟨?_⟩;refine AL.draw AK mixed (λw'=>St w T0 L w') [11,12,13,14,15,16,17,18] [0,1,2,3,4,5,6,7,8,9,10,11,12,13,14,15,16,17,18] AD hS.drew ?_;have hS:=hS.drew;refine jr ⟨?_⟩;refine CM (λw' h=>hO.nextC h.holds) ?_;refine jr ⟨?_⟩;refine CM (λw' h=>(hcm w' h.holds).1) ?_;refine jr ⟨?_⟩;refine Cl.mono (Za hM0 (hcm _ hS.holds).2 AA) ?_
  rintro _ w2⟨a1,c1,L2,rfl,hv1,hS'⟩;have hS:=hS.callNew hS';refine Ae.mk (hS.sub (Ah _ _)) ?_;refine jr ⟨?_⟩;have hG1:Bp _ (keys L):=(hG.step hS).sub λb hb=>by unfold keys at hb⊢;rw[A7];exact FC _ hb
  refine Cl.mono (hO.lay (hS.part (L:=L)) hG1 0 s.v.next AA (hv1.arr hS (T':=keys L) hS.disj) hv1.cap AA hW.mem.tab hW.ft.fb AA) ?_;have hF1:=hW.ft.lay (T:=T) ⟨by have:=hW.lo;omega,by have:=hW.hi;omega⟩ (AR 64 s.mem) s.v.next hW.mem.tab;rintro _ w3(⟨h1,rfl,L3,hO3,hS'⟩|⟨h1,a2,c2,Lf,tm,et,ct,ks,Lt,L3,rfl,hvf,hmc,hto,hO3,hS'⟩)
  ·have hS:=(hS.call (L:=L) hS').sub (Ah _ _);have hM: ∀mk,By s m mk=_:=λmk=>(hFM mk).trans (if_pos h1);generalize Bi m s.v.next (AR 64 s.mem)=ly at h1 hO3 hM⊢;(repeat(refine jt ⟨?_⟩;refine hS.q ?_;intro _ hS));refine jt ⟨?_⟩;exact⟨_,.refl _,by rw[hM],L3,by rw[hM];exact hO3,hS⟩
  ·have hS:=(hS.call (L:=L) hS').sub (Ah _ _);have hM: ∀mk,By s m mk=_:=λmk=>(hFM mk).trans (if_neg (λh=>h h1));clear hFM;generalize Bi m s.v.next (AR 64 s.mem)=ly at h1 hO3 hM hF1⊢;obtain⟨e1,m1⟩:=ly;simp only at h1 hO3 hM hF1;subst h1;have hfl:=Ju 0 (Ar s.v.next (AR 64 s.mem));rw[Jb]at hfl;simp only[←hfl]at hM;have hfo:=Ko 0 (AR 64 s.mem) s.v.next;generalize hmd:Ar s.v.next (AR 64 s.mem)=made at hvf hto hM hfl hfo⊢
   generalize hfs:Bx 0 made=fs at hvf hM hfl hfo⊢;(repeat(refine jt ⟨?_⟩;refine hS.q ?_;intro _ hS));refine jt ⟨?_⟩;refine AL.draw AK mixed (λw'=>St w T0 ((tm,.map et ct)::(Lf++(Lt++L3))) w') [] [0,1,2,3,4,5,6,7,8,9,10,11,12,13,14] AD hS.drew ?_;have hS:=hS.drew;refine jr ⟨?_⟩;refine CM (λw' h=>hO3.walC (h.part (L:=L3))) ?_;refine jr ⟨?_⟩;refine CM (λw' h=>hO3.nextC (h.part (L:=L3))) ?_;refine jr ⟨?_⟩
   refine Eb (hO3.seqC (hS.part (L:=L3))) ?_;(repeat(refine jt ⟨?_⟩;refine hS.q ?_;intro _ hS));refine jt ⟨?_⟩;have hS:=St.perm hS (dE _ Lf _);obtain⟨g,hg,hgn⟩:=hW.list;have hfc:fs.length≤4194304:=AA;have hvn2:=hW.vnum;have hTl:=hW.lo;have hTh:=hW.hi;have hef:=Ki hW.gv (e:=⟨fs,[],s.v.next+fs.length,s.v.next+fs.length+1,s.seq⟩) (by show s.v.files.length+fs.length≤_;omega) (by show s.v.next+(fs.length:Int)≤_;omega) (by show s.v.next+(fs.length:Int)+1≤_;omega) (by show s.seq≤_;omega)
   have hok:ER ⟨fs,[],s.v.next+fs.length,s.v.next+fs.length+1,s.seq⟩:=⟨λf hf=>by
    have:=hfo f hf;exact⟨Dm AA,Dm AA⟩,λn hn=>(by cases hn),Dm (by show 0≤s.v.next+(fs.length:Int)∧s.v.next+(fs.length:Int)≤_;omega),Dm (by show 0≤s.v.next+(fs.length:Int)+1∧s.v.next+(fs.length:Int)+1≤_;omega),Dm (by show 0≤s.seq∧s.seq≤_;omega)⟩
   have hG2:Bp _ (keys ((tm,.map et ct)::(Lt++L3))):=(hG.step hS).sub λb hb=>by unfold keys at hb⊢;rw[A7];exact FC _ hb
   refine Cl.mono (TL (e:=⟨fs,[],s.v.next+fs.length,s.v.next+fs.length+1,s.seq⟩) (y:=none) (cy:=0) hO3 hmc hto (hS.part (L:=(tm,.map et ct)::(Lt++L3))) hG2 (hvf.arr hS (T':=keys ((tm,.map et ct)::(Lt++L3))) hS.disj) hvf.cap (Arr.nil _ _ _) (AV _) (by show fs.length+0≤_;omega)
    (by show-9223372036854775808≤s.v.next+(fs.length:Int)∧s.v.next+(fs.length:Int)≤_∧_≤s.v.next+(fs.length:Int)+1∧s.v.next+(fs.length:Int)+1≤_∧_≤s.seq∧s.seq≤_;omega) hok
    (λnx hnx=>by
     obtain⟨h1,h2⟩:=hef nx hnx;obtain⟨h3,h4,h5,h6⟩:=h1.next_fine h2;exact⟨h3,h4,AA,h6⟩) hg AA (by show s.v.files.length+fs.length≤_;omega) hF1.fb AA) ?_
   rintro _ w4⟨mk,hmk,rfl,L4,hO4,hS'⟩;have hS:=(hS.call (L:=(tm,.map et ct)::(Lt++L3)) hS').sub (Ah _ _);have hF2:=hF1.edit s ⟨fs,[],s.v.next+fs.length,s.v.next+fs.length+1,s.seq⟩ mk (λnx hnx=>by
     obtain⟨h1,h2⟩:=hef nx hnx;obtain⟨h3,h4,h5,h6⟩:=h1.next_fine h2;have:=(Fr (n:=nx.next) ⟨AA,AA⟩).2.2;exact⟨by rw[Ds];omega,AA⟩) AA
   have hM:=hM mk;obtain⟨l5,v5,t5,hfst⟩:=UU s m1 ⟨fs,[],s.v.next+fs.length,s.v.next+fs.length+1,s.seq⟩ mk;generalize DY s m1 ⟨fs,[],s.v.next+fs.length,s.v.next+fs.length+1,s.seq⟩ mk=q at hO4 hM hF2 hfst⊢;obtain⟨e2,s2,m2⟩:=q;simp only at hO4 hM hF2 hfst⊢;by_cases he2:e2=0
   ·subst he2;rw[if_neg AB]at hM;have hhl:s2.hts.length≤1099511627776:=by rw[hfst];exact hW.hts
    have hnm:=Fr (n:=s.v.next+fs.length) ⟨AA,AA⟩;obtain⟨sq,es,c,hsq2,ha,hc,Lh,hvh,a3,c3,La,hv3,lv,Ll,hl3,gv,Lg,hg3,mb2,Lm,hm,tm2,et2,ct2,ks2,ht,Lt2,hts,LF,hF⟩:=hO4;(repeat(refine jt ⟨?_⟩;refine hS.q ?_;intro _ hS));refine jt ⟨?_⟩;refine Cl.mono (S8 (hvh.arr hS AB) hhl) ?_;rintro _ w5⟨mb3,Lm3,rfl,hm3,hS'⟩;have hS:=hS.callNew hS';(repeat(refine jt ⟨?_⟩;refine hS.q ?_;intro _ hS));refine jt ⟨?_⟩;have hS:=(St.perm hS (tU _ _ _ Lm3 Lh La Ll Lg Lm _)).sub (.cons_cons _ (.cons_cons _ (.cons_cons _ ((List.Sublist.refl Lh).append ((List.Sublist.refl La).append ((List.Sublist.refl Ll).append ((List.Sublist.refl Lg).append ((List.Sublist.refl Lm3).append (Ah Lm _)))))))))
    have hO5:=AW.mk (sb:=sb) (s:={s2 with mem:=[],adds:=0}) (m:=m2) sq es c hsq2 ha hc Lh hvh a3 c3 La hv3 lv Ll hl3 gv Lg hg3 mb3 Lm3 hm3 tm2 et2 ct2 ks2 ht Lt2 hts LF hF;have hex: ∃L5,AW sb f {s2 with mem:=[],adds:=0} m2 L5∧St w T0 L5 _:=⟨_,hO5,hS⟩;clear hO5 hS hS';obtain⟨L5,hO5,hS⟩:=hex;refine AL.draw AK mixed (λw'=>w'.cell? ⟨sb,2,none⟩=some (ptr f)) [] [0,1,2,3,4,5,6,7,8,9,10,11,12,13,14,15] AD (hO5.fC hS.drew.holds) ?_
    have hS:=hS.drew;refine jr ⟨?_⟩;refine CM (λw' h=>h) ?_;refine jr ⟨?_⟩;refine Cl.mono (MG (n:=s.v.next+fs.length) ⟨AA,AA⟩ (hG.keep hS).tab) ?_;rintro _ w6⟨rfl,hS'⟩;have hS:=hS.call0 hS';refine Ae.mk (hO5.fC hS.holds) ?_;refine jr ⟨?_⟩;by_cases h4:C9 m2 (Aa (s.v.next+fs.length))=0
    ·rw[h4,if_neg AB]at hM;refine Cl.mono (hO5.wopen hS.holds (Aa (s.v.next+fs.length)) h4 hF2.fb) ?_;rintro _ w7⟨bl,ax,cx,Lx,rfl,hvx,hlg,hS'⟩;have hS:=(hS.call (L:=L5) hS').sub (Ah _ _);refine Ae.mk (hO5.fC (hS.part (L:=L5))) ?_;obtain⟨sq,es,c,hsq2,ha,hc,Lh,hvh,a3,c3,La,hv3,lv,Ll,hl3,gv,Lg,hg3,mb2,Lm,hm,tm2,et2,ct2,ks2,ht,Lt2,hts,LF,hF⟩:=hO5;refine jr ⟨?_⟩;refine hS.q ?_;intro w8 hS;refine Ae.mk (hS.cell (b:=sb) (off:=2) rfl) ?_
     have hS:=(St.perm hS (WR _ _ _ _ Lh La Ll _)).sub (.cons_cons _ (.cons_cons _ (.cons_cons _ ((List.Sublist.refl Lh).append ((List.Sublist.refl La).append ((List.Sublist.refl Ll).append ((List.Sublist.refl _).append (Ah Lg _))))))));have hO6:=AW.mk (sb:=sb) (s:={s2 with mem:=[],adds:=0,log:=some (D6 m2 (Aa (s.v.next+fs.length)))}) (m:=m2) sq es c hsq2 ha hc Lh hvh a3 c3 La hv3 lv Ll hl3 (ptr bl) _ hlg mb2 Lm hm tm2 et2 ct2 ks2 ht Lt2 hts LF hF
     have hex: ∃L6,AW sb f {s2 with mem:=[],adds:=0,log:=some (D6 m2 (Aa (s.v.next+fs.length)))} m2 L6∧St w T0 L6 w8:=⟨_,hO6,hS⟩;clear hO6 hS hS';obtain⟨L6,hO6,hS⟩:=hex;refine jr ⟨?_⟩;refine AL.draw AK mixed (λw'=>St w T0 L6 w') [6,7] [0,1,2,3,4,5,6,7] AD hS.drew ?_;have hS:=hS.drew;refine jr ⟨?_⟩;refine CM (λw' h=>hO6.fC h.holds) ?_;refine jr ⟨?_⟩;refine Cl.mono (MG (n:=s.v.wal) ⟨AA,AA⟩ (hG.keep hS).tab) ?_
     rintro _ w9⟨rfl,hS'⟩;have hS:=hS.call0 hS';refine Ae.mk hS ?_;refine jr ⟨?_⟩;refine Cl.mono (hO6.delete hS.holds (Aa s.v.wal) hF2.fb AA) ?_;rintro _ w10⟨rfl,L7,hO7,hS'⟩;have hS:=hS.call (L:=L6) hS';generalize BA m2 (Aa s.v.wal)=dm at hO7 hM⊢;obtain⟨e7,m7⟩:=dm;simp only at hO7 hM⊢;by_cases hb0:e7=0
     ·subst hb0;(repeat(refine jt ⟨?_⟩;refine hS.q ?_;intro _ hS));refine jt ⟨?_⟩;exact⟨mk,hmk,by rw[hM];rfl,L7,by rw[hM];exact hO7,hS⟩
     ·by_cases hb5:e7=5
      ·subst hb5;(repeat(refine jt ⟨?_⟩;refine hS.q ?_;intro _ hS));refine jt ⟨?_⟩;exact⟨mk,hmk,by rw[hM];rfl,L7,by rw[hM];exact hO7,hS⟩
      ·rw[if_pos ⟨hb0,hb5⟩]at hM;(repeat(refine jt ⟨?_⟩;refine hS.q ?_;intro _ hS));refine jt ⟨?_⟩;exact⟨mk,hmk,by rw[hM],L7,by rw[hM];exact hO7,hS⟩
    ·rw[if_pos h4]at hM;refine Cl.mono (hO5.wopenE hS.holds (Aa (s.v.next+fs.length)) h4) ?_;rintro _ w7⟨rfl,hS'⟩;have hS:=hS.call (L:=L5) hS';refine Ae.mk (hO5.fC hS.holds) ?_;obtain⟨sq,es,c,hsq2,ha,hc,Lh,hvh,a3,c3,La,hv3,lv,Ll,hl3,gv,Lg,hg3,mb2,Lm,hm,tm2,et2,ct2,ks2,ht,Lt2,hts,LF,hF⟩:=hO5;refine jr ⟨?_⟩;refine hS.q ?_;intro w8 hS;refine Ae.mk (hS.cell (b:=sb) (off:=2) rfl) ?_;generalize C9 m2 (Aa (s.v.next+fs.length))=e9 at h4 hM⊢
     refine jr ⟨?_⟩;refine⟨mk,hmk,by rw[hM],_,by
      rw[hM];exact AW.mk (sb:=sb) (s:={s2 with mem:=[],adds:=0,log:=none}) (m:=m2) sq es c hsq2 ha hc Lh hvh a3 c3 La hv3 lv Ll hl3 (.pointer none) [] GO.none mb2 Lm hm tm2 et2 ct2 ks2 ht Lt2 hts LF hF,?_⟩
     exact hS.sub (.cons_cons _ (.cons_cons _ (.cons_cons _ ((List.Sublist.refl Lh).append ((List.Sublist.refl La).append ((List.Sublist.refl Ll).append (Ah Lg _)))))))
   ·rw[if_pos he2]at hM;(repeat(refine jt ⟨?_⟩;refine hS.q ?_;intro _ hS));refine jt ⟨?_⟩;exact⟨mk,hmk,by rw[hM],L4,by rw[hM];exact hO4,hS⟩
theorem AW.tabP{sb f:Nat}{s:AM}{m:AJ}{L:AH}(hO:AW sb f s m L): ∃tm et ct ks,MapC AY (λb:Nat=>ptr b) et ct ks∧(s.tabs.map (·.1)).Nodup∧ ∀w,Holds L w→w.cell? ⟨sb,13,none⟩=some (.map (some tm))∧w.heap[tm]?=some (.map et ct)∧
  ∀n l,(n,l)∈s.tabs→ ∃tb,Al n ks=some tb∧ ∃a c nb,Fi w tb l a c nb:=by
 obtain⟨sq,es,c,hsq,ha,hc,Lh,hvh,a,ca,La,hv,lv,Ll,hl,gv,Lg,hg,mb,Lm,hm,tm,et,ct,ks,ht,Lt,hts,LF,hF⟩:=hO;have hkk:=hts.keys;have hnk:=ht.nodupK Bq.i64;have hnd:(s.tabs.map (·.1)).Nodup:=by rw[←hkk];exact hnk
 refine⟨tm,et,ct,ks,ht,hnd,λw hw=>⟨(St.enter hw).cell (b:=sb) (off:=13) rfl,(St.enter hw).mem (b:=tm),λn l hnl=>?_⟩⟩;have h1:n∈ks.map (·.1):=by rw[hkk];exact CD (f:=(·.1)) hnl
 obtain⟨y,hy,hyn⟩:=BV.1 h1;subst hyn;obtain⟨l2,h2,h3⟩:=hts.read ((St.enter hw).part (L:=Lt)) hy;have h4:=F9 hnd hnl;rw[F9 hnd h2]at h4;cases h4;exact⟨y.2,F9 hnk (show(y.1,y.2)∈ks from hy),h3⟩
theorem AW.fileP{sb f:Nat}{s:AM}{m:AJ}{L:AH}(hO:AW sb f s m L): ∃a ca,∀w,Holds L w→w.cell? ⟨sb,6,none⟩=some (.slice a s.v.files.length ca)∧Fe w a ca s.v.files:=by
 obtain⟨sq,es,c,hsq,ha,hc,Lh,hvh,a,ca,La,hv,lv,Ll,hl,gv,Lg,hg,mb,Lm,hm,tm,et,ct,ks,ht,Lt,hts,LF,hF⟩:=hO;exact⟨a,ca,λw hw=>⟨(St.enter hw).cell (b:=sb) (off:=6) rfl,Km (St.enter hw) hv.vec⟩⟩
theorem AW.seqP{sb f:Nat}{s:AM}{m:AJ}{L:AH}(hO:AW sb f s m L): ∃sq es c,MapC AY AY es c s.seqs∧ ∀w,Holds L w→w.cell? ⟨sb,1,none⟩=some (.map (some sq))∧w.heap[sq]?=some (.map es c):=by
 obtain⟨sq,es,c,hsq,ha,hc,Lh,hvh,a,ca,La,hv,lv,Ll,hl,gv,Lg,hg,mb,Lm,hm,tm,et,ct,ks,ht,Lt,hts,LF,hF⟩:=hO;exact⟨sq,es,c,hsq,λw hw=>⟨(St.enter hw).cell (b:=sb) (off:=1) rfl,(St.enter hw).mem (b:=sq)⟩⟩
theorem Ld(seen:List Int)(l:List AF):(BD seen l).Sublist l:=by
 have h: ∀gs:List (List AF),(gs.flatMap (E4 seen)).Sublist gs.flatten:=by
  intro gs
  induction gs with
  |nil=>exact .refl _
  |cons g gs ih=>rw[FA,Dc];exact(KJ seen g).append ih
 have:=h (BC l);rw[Iq]at this;exact this
def D1(s:AM):List AF:=(s.tabs.map (·.2)).flatten
structure Ka(s:AM):Prop where
 tab: ∀x∈s.tabs,B8 x.2
 one:C1 (D1 s)
 num:(D1 s).length≤4194304
 files:(s.v.files.map (·.2)).Perm (s.tabs.map (·.1))
 seqs:s.seqs.length≤1099511627776
theorem Ka.mem{s:AM}(h:Ka s){r:List AF}(hp:r.Perm (D1 s))(hr:Az r)(seen:List Int):Gf (BD seen r):=by
 have hx: ∀x∈BD seen r,∃y∈s.tabs,x∈y.2:=λx hx=>by
  have h1:x∈D1 s:=hp.mem_iff.1 (SS seen x hx);obtain⟨l,hl,hxl⟩:=Iu.1 h1;obtain⟨y,hy,rfl⟩:=BV.1 hl;exact⟨y,hy,hxl⟩
 have hn:=(Ld seen r).length_le;have h2:=hp.length_eq;have h3:=h.num;exact⟨SR hr seen,λx hx' hd=>by obtain⟨y,hy,hxy⟩:=hx x hx';exact(h.tab y hy).fine x hxy hd,λx hx'=>by obtain⟨y,hy,hxy⟩:=hx x hx';exact(h.tab y hy).seqs x hxy,λx hx'=>by obtain⟨y,hy,hxy⟩:=hx x hx';exact(h.tab y hy).sz x hxy,AA⟩
theorem cS{m mi:AJ}{ns:List AE}{k:Nat}(h:delAll ns m=delAll (ns.drop k) mi)(hk:k<ns.length):delAll ns m=if(BA mi ns[k]).1≠0 then BA mi ns[k]else delAll (ns.drop (k+1)) (BA mi ns[k]).2:=by
 rw[h,FQ hk];rfl
end Go.Proofs.YtkgibdhpijdbfaaGreatDoor
