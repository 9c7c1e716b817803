/- Texts of this claim, one behind the other. -/
import Derived.Test.YtkgibdhpijdbfaaGreatDoorZ33
import Derived.Test.YtkgibdhpijdbfaaGreatDoorZ34
set_option linter.unusedVariables false
set_option linter.unusedSimpArgs false
set_option maxHeartbeats 16000000
namespace Go.Proofs.YtkgibdhpijdbfaaGreatDoor
open Go Go.Eng Go.Proofs Go.Srt
structure BH(e:Nat)(s:AL)(m:AJ)(now:List AO)(lk:Int→Option (List AO)):Prop where
 dead:s.dead=false
 up:Up m
 mem:Gd s.mem
 tab: ∀x∈s.tabs,B8 x.2∧x.2≠[]
 one:Cz (BS s)
 num:(BS s).length≤e
 nlen:now.length≤e
 adds:s.adds≤e
 good:Good s.v
 files:(s.v.files.map (·.2)).Perm (s.tabs.map (·.1))
 next:1≤s.v.next
 wal:s.v.wal<s.v.next
 lname: ∀g,s.list=some g→ ∃j,g.name=AX j
 wname: ∀g,s.log=some g→g.name=Aa s.v.wal
 free: ∀k,s.v.next≤k→k≤4611686018427387904→AN m (Aa k)=none
 vseq:s.v.seq≤s.seq
 seq:0≤s.seq
 top: ∀x∈BS s,x.s≤s.seq
 given:0≤s.given
 sqn: ∀x∈s.seqs,1≤x.1∧x.1≤s.given∧x.2≤s.seq
 sqnd:(s.seqs.map (·.1)).Nodup
 hts:s.hts.length≤1099511627776
 view:Be (BS s) s.seq now
 looks: ∀n,match Am n s.seqs with
  |some q=>∃rs,lk n=some rs∧Be (BS s) q rs
  |none=>lk n=none
structure DJ(A T X N Q:Nat)(s:AL)(m:AJ):Prop where
 ft:FT A T m
 next:s.v.next≤X
 seq:s.seq≤Q
 given:s.given≤Q
 sn:s.seqs.length≤Q
 list: ∃g,s.list=some g∧GL g N
 log: ∃g,s.log=some g∧GL g N
theorem GT(s:AL):BS s=s.mem++Dy s:=rfl
theorem Be.mem{E F:List AF}{t:Int}{rs:List AO}(hv:Be E t rs)(h: ∀x,x∈E↔x∈F):Be F t rs:=hv.same λ_ _=>Ep.iff h
theorem y9{E:List AF}{t u:Int}(ht: ∀x∈E,x.s≤t)(hu: ∀x∈E,x.s≤u)(k v:AE):Ep E t k v↔Ep E u k v:=by
 have key: ∀{t u:Int},(∀x∈E,x.s≤u)→(∀x∈E,x.s≤t)→Ep E t k v→Ep E u k v:=by
  rintro t u hu ht⟨x,hx,h2⟩;exact⟨x,⟨hx.mem,hx.key,hu x hx.mem,λy hy h1 _=>hx.top y hy h1 (ht y hy)⟩,h2⟩
 exact⟨key hu ht,key ht hu⟩
theorem Be.up{E:List AF}{t u:Int}{rs:List AO}(hv:Be E t rs)(ht: ∀x∈E,x.s≤t)(hu: ∀x∈E,x.s≤u):Be E u rs:=hv.same λk v=>y9 ht hu k v
theorem Yh(seq:Int): ∀(ops:List Ac){l:List AF},Az l→ ∀z∈Cw seq ops l,z∈l∨ ∃o∈ops,z=C4 seq o
 |[],l,_,z,hz=> .inl hz
 |o::ops,l,hr,z,hz=>by
  rcases Yh seq ops (OV (x:=C4 seq o) hr) z hz with h|⟨p,hp,h⟩
  ·rcases(Vy (x:=C4 seq o) hr z).1 h with h|⟨h, -⟩
   ·exact .inr ⟨o,AB,h⟩
   ·exact .inl h
  ·exact .inr ⟨p,by simp[hp],h⟩
theorem Yj(seq:Int)(T:List AF)(hT: ∀z∈T,z.s<seq): ∀(ops:List Ac){mem:List AF}{now:List AO},Az mem→Cz (mem++T)→(∀z∈mem,z.s≤seq)→Be (mem++T) seq now→
  Cz (Cw seq ops mem++T)∧(∀z∈Cw seq ops mem,z.s≤seq)∧Be (Cw seq ops mem++T) seq (Ch now ops)∧ ∀q rs,q<seq→Be (mem++T) q rs→Be (Cw seq ops mem++T) q rs
 |[],mem,now,hr,h1,hm,hv=>⟨h1,hm,hv,λq rs _ h=>h⟩
 |o::ops,mem,now,hr,h1,hm,hv=>by
  have hw:=Vy (x:=C4 seq o) hr;have hr1:=OV (x:=C4 seq o) hr;have hm1: ∀z∈DP (C4 seq o) mem,z.s≤seq:=λz hz=>by
   rcases(hw z).1 hz with h|⟨h, -⟩
   ·rw[h];exact EZ _
   ·exact hm z h
  have hW:JO (mem++T) (C4 seq o) (DP (C4 seq o) mem++T):=λz=>by
   rw[Bk,Bk,hw z];constructor
   ·rintro((h|⟨h,h2⟩)|h)
    ·exact .inl h
    ·exact .inr ⟨.inl h,h2⟩
    ·exact .inr ⟨.inr h,λe=>by have:=e.2;have h3:=hT z h;unfold C4 at this;simp only at this;omega⟩
   ·rintro(h|⟨h|h,h2⟩)
    ·exact .inl (.inl h)
    ·exact .inl (.inr ⟨h,h2⟩)
    ·exact .inr h
  have hone:Cz (DP (C4 seq o) mem++T):=by
   have h2:=GW.1 h1;refine GW.2 ⟨hr1.one,h2.2.1,λa ha b hb hs=>?_⟩;rcases(hw a).1 ha with h|⟨h, -⟩
   ·subst h;have:=hs.2;have h3:=hT b hb;unfold C4 at this;simp only at this;omega
   ·exact h2.2.2 a h b hb hs
  have hs: ∀z∈mem++T,z.s≤seq:=λz hz=>by
   rcases Bk.1 hz with h|h
   ·exact hm z h
   ·have:=hT z h;omega
  have hv1:=hv.put hone hW hs (EZ _);obtain⟨i1,i2,i3,i4⟩:=Yj seq T hT ops hr1 hone hm1 hv1;exact⟨i1,i2,i3,λq rs hq h=>i4 q rs hq (h.old hW hq)⟩
theorem GL.mono{g:BF}{N M:Nat}(h:GL g N)(hl:N≤M):GL g M:=⟨h.torn,h.dead,h.name,Au h.num hl⟩
theorem DJ.mono{A T X N Q A' T' X' N' Q':Nat}{s:AL}{m:AJ}(h:DJ A T X N Q s m)(h1:A≤A')(h2:T≤T')(h3:X≤X')(h4:N≤N')(h5:Q≤Q'):DJ A' T' X' N' Q' s m:=by
 obtain⟨g,hg,hg2⟩:=h.list;obtain⟨g',hg',hg2'⟩:=h.log;exact⟨h.ft.mono h1 h2,by have:=h.next;omega,by have:=h.seq;omega,by have:=h.given;omega,by have:=h.sn;omega,⟨g,hg,hg2.mono h4⟩,⟨g',hg',hg2'.mono h4⟩⟩
theorem OO{α:Type}: ∀(ls:List (List α)),(∀l∈ls,l≠[])→ls.length≤ls.flatten.length
 |[],_=>Ag _
 |l::ls,h=>by
  have:=OO ls λl hl=>h l (by simp[hl]);have h2:=KB.2 (h l AB);simp only[Ah,Dc,AP];omega
theorem BH.cnt{e:Nat}{s:AL}{m:AJ}{now:List AO}{lk:Int→Option (List AO)}(h:BH e s m now lk):s.mem.length≤e∧s.tabs.length≤e∧(Dy s).length≤e∧s.v.files.length≤e:=by
 have h1:=h.num;rw[GT,AP]at h1;have h2:=OO (s.tabs.map (·.2)) λl hl=>by
  obtain⟨x,hx,rfl⟩:=BU.1 hl;exact(h.tab x hx).2
 rw[BZ]at h2;have h3:s.tabs.length≤(Dy s).length:=h2;have h4:=h.files.length_eq;rw[BZ,BZ]at h4;omega
theorem BH.goodV{e A T X N Q:Nat}{s:AL}{m:AJ}{now:List AO}{lk:Int→Option (List AO)}(h:BH e s m now lk)(hb:DJ A T X N Q s m)(he:e≤1048576)(hX:X≤1152921504606846976)(hQ:Q≤1152921504606846976):DA s.v:=by
 have h1:=h.cnt;have h2:=h.wal;have h3:=hb.next;have h4:=h.vseq;have h5:=hb.seq;exact⟨h.good,AA,AA,AA,AA⟩
theorem BH.wr{e A T X N Q:Nat}{s:AL}{m:AJ}{now:List AO}{lk:Int→Option (List AO)}(h:BH e s m now lk)(hb:DJ A T X N Q s m)(he:e≤1048576)(hX:X≤1152921504606846976)(hQ:Q≤1152921504606846976)(hN:N≤2305843009213693952)(hA:A≤2305843009213693952)(hT:536870912≤T∧T+1048576≤1099511627776):Ij A T s m:=by
 have h1:=h.cnt;obtain⟨g,hg,hg2⟩:=hb.list;have h3:=hb.next;have h5:=hb.seq;have h6:=hg2.num;exact⟨h.mem,h.goodV hb he hX hQ,AA,AA,⟨h.seq,AA⟩,⟨g,hg,AA⟩,hb.ft,hA,hT.1,hT.2,h.hts⟩
theorem BH.co{e:Nat}{s:AL}{m:AJ}{now:List AO}{lk:Int→Option (List AO)}(h:BH e s m now lk)(he:e≤1048576)(hs:s.seqs.length≤1099511627776):Ki s:=
 ⟨λx hx=>(h.tab x hx).1,(GW.1 h.one).2.1,by have:=h.cnt;omega,h.files,hs⟩
theorem BH.keys{e:Nat}{s:AL}{m:AJ}{now:List AO}{lk:Int→Option (List AO)}(h:BH e s m now lk):(s.tabs.map (·.1)).Nodup∧ ∀n∈s.tabs.map (·.1),1≤n∧n<s.v.next:=by
 refine⟨h.files.nodup_iff.1 h.good.files.2,λn hn=>?_⟩;obtain⟨f,hf,rfl⟩:=BU.1 (h.files.mem_iff.2 hn);obtain⟨h1,h2⟩:=h.good.files.1 f hf;exact⟨(Hx.1 h1).1,h2⟩
theorem BH.rd{e A T X N Q:Nat}{s:AL}{m:AJ}{now:List AO}{lk:Int→Option (List AO)}(h:BH e s m now lk)(hb:DJ A T X N Q s m)(he:e≤1048576)(hX:X≤1152921504606846976):H9 s:=by
 have h1:=h.cnt;have h2:=h.num;refine⟨h.mem.rise,h.mem.seqs,λx hx=>(h.tab x hx).1,h.one,AA,AA,λx hx=>?_⟩;have h3:=h.keys.2 x.1 (CC hx);have h4:=hb.next;omega
theorem BH.lookq{e:Nat}{s s':AL}{m m':AJ}{now:List AO}{lk:Int→Option (List AO)}(h:BH e s m now lk)(hs:s'.seqs=s.seqs)(hv: ∀q rs,q∈s.seqs.map (·.2)→q≤s.seq→Be (BS s) q rs→Be (BS s') q rs): ∀n,match Am n s'.seqs with
  |some q=>∃rs,lk n=some rs∧Be (BS s') q rs
  |none=>lk n=none:=by
 intro n;have:=h.looks n;rw[hs];cases hk:Am n s.seqs with
 |none=>rw[hk]at this;exact this
 |some q=>
  rw[hk]at this;obtain⟨rs,h1,h2⟩:=this;have hm:=Jc hk;exact⟨rs,h1,hv q rs (CC hm) (h.sqn _ hm).2.2 h2⟩
theorem I3{α:Type}: ∀(cs:List α)(n:Int),(Aq n cs).map (·.2)=cs
 |[],_=>rfl
 |c::cs,n=>by rw[Aq,A4,I3 cs]
theorem BH.take{e:Nat}{s:AL}{m m1:AJ}{now:List AO}{lk:Int→Option (List AO)}(h:BH e s m now lk)(ops:List Ac)(g':BF)(hup:Up m1)(hnm:g'.name=Aa s.v.wal)(hfr: ∀k,s.v.next≤k→k≤4611686018427387904→AN m1 (Aa k)=none)(hsz:Av ops≤4096)(hsq:s.seq+1≤4611686018427387904)(he:e+ops.length≤1048576):
  BH (e+ops.length) (Gu s g' ops) m1 (Ch now ops) lk:=by
 have hT: ∀z∈Dy s,z.s<s.seq+1:=λz hz=>by have:=h.top z (by rw[GT];exact FN _ hz);omega
 have hm: ∀z∈s.mem,z.s≤s.seq+1:=λz hz=>by have:=h.top z (by rw[GT];exact Eg _ hz);omega
 obtain⟨t1,t2,t3,t4⟩:=Yj (s.seq+1) (Dy s) hT ops h.mem.rise h.one hm (h.view.up h.top λx hx=>by have:=h.top x hx;omega);have hsz2:=PJ (s.seq+1) ops s.mem;have hmem:=Yh (s.seq+1) ops h.mem.rise;have hnum:=h.num;rw[GT,AP]at hnum;have hs0:=h.seq;have hall:BS (Gu s g' ops)=Cw (s.seq+1) ops s.mem++Dy s:=rfl;refine⟨h.dead,hup,⟨PI _ ops h.mem.rise,λx hx hd=>?_,λx hx=>?_,λx hx=>?_,?_⟩,h.tab,t1,?_,(by have:=Yy now ops;have:=h.nlen;omega),?_,h.good,h.files,h.next,h.wal,h.lname,λg hg=>by cases hg;exact hnm,hfr,?_,?_,?_,h.given,?_,h.sqnd,h.hts,t3,?_⟩
 ·rcases hmem x hx with h1|⟨o,ho,rfl⟩
  ·exact h.mem.fine x h1 hd
  ·unfold C4 at hd⊢;simp only at hd⊢;rw[hd];rfl
 ·rcases hmem x hx with h1|⟨o,ho,rfl⟩
  ·exact h.mem.seqs x h1
  ·unfold C4;simp only;omega
 ·rcases hmem x hx with h1|⟨o,ho,rfl⟩
  ·exact h.mem.sz x h1
  ·have:=QV (s.seq+1) o;have:=PF ho;omega
 ·show(Cw (s.seq+1) ops s.mem).length≤_;omega
 ·rw[hall,AP];omega
 ·show s.adds+ops.length≤_;have:=h.adds;omega
 ·show s.v.seq≤s.seq+1;have:=h.vseq;omega
 ·show 0≤s.seq+1;omega
 ·intro x hx;show x.s≤s.seq+1;rw[hall,Bk]at hx;rcases hx with hx|hx
  ·exact t2 x hx
  ·have:=hT x hx;omega
 ·intro x hx;have:=h.sqn x hx;show 1≤x.1∧x.1≤s.given∧x.2≤s.seq+1;omega
 ·exact h.lookq rfl (m':=m1) λq rs _ hq hv=>t4 q rs AA hv
theorem BH.flush{e:Nat}{s:AL}{m:AJ}{now:List AO}{lk:Int→Option (List AO)}(h:BH e s m now lk){mk:List (Int×List AF)}{g:BF}{m1:AJ}{nx:VM}{g':BF}{v':VM}{m2 m3:AJ}(ho:So s m mk g m1 nx g' v' m2 m3)(hp:mk.Perm (Aq s.v.next (AR 64 s.mem)))(hg:s.list=some g)(hn:s.v.next≤1152921504606846976)(g2:BF)(hg2:g2.name=Aa (s.v.next+(AR 64 s.mem).length)):
  BH e {s with list:=some g',v:=v',tabs:=s.tabs++mk,mem:=[],adds:=0,log:=some g2} m3 now lk:=by
 have hE:(BS {s with list:=some g',v:=v',tabs:=s.tabs++mk,mem:=[],adds:=0,log:=some g2}).Perm (BS s):=by
  show(([]:List AF)++((s.tabs++mk).map (λx:Int×List AF=>x.2)).flatten).Perm (s.mem++(s.tabs.map (λx:Int×List AF=>x.2)).flatten);rw[Ca,A7,kC];refine Gl.trans (List.Perm.append_right _ ?_);have h1:=(List.Perm.map (λx:Int×List AF=>x.2) hp).flatten;rw[I3,KM AA]at h1;exact h1
 have hk:=h.next;have hcs:=I9 64 s.mem AA;refine⟨h.dead,ho.up,⟨List.Pairwise.nil,λx hx=>(by cases hx),λx hx=>(by cases hx),λx hx=>(by cases hx),Ag _⟩,λx hx=>?_,Cz.perm h.one hE.symm,by rw[hE.length_eq];exact h.num,h.nlen,Ag _,ho.ed.good.good,?_,?_,?_,?_,?_,?_,?_,h.seq,λx hx=>h.top x (hE.mem_iff.1 hx),h.given,h.sqn,h.sqnd,h.hts,h.view.mem λx=>(hE.mem_iff).symm,h.lookq rfl (m':=m3) λq rs _ _ hv=>hv.mem λx=>(hE.mem_iff).symm⟩
 ·rcases Bk.1 hx with hx|hx
  ·exact h.tab x hx
  ·have h2:x.2∈AR 64 s.mem:=by
    have:=CC (f:=(·.2)) (hp.mem_iff.1 hx);rwa[I3]at this
   exact⟨h.mem.tab x.2 h2,(KN AA h2).1⟩
 ·show(v'.files.map (·.2)).Perm ((s.tabs++mk).map (·.1));rw[ho.ed.files,A7];refine(ho.files.map _).trans ?_;rw[A7];refine List.Perm.append h.files ?_;rw[JV];exact(hp.map _).symm
 ·show 1≤v'.next;have:=ho.ed.next;have:=ho.next;omega
 ·show v'.wal<v'.next;have:=ho.ed.next;have:=ho.next;have:=ho.ed.wal;have:=ho.wal;omega
 ·intro g3 hg3;cases hg3;exact ho.ed.lname (h.lname g hg)
 ·intro g3 hg3;cases hg3;show g2.name=Aa v'.wal;rw[hg2,ho.ed.wal,ho.wal]
 ·intro k h1 h2;have h1:v'.next≤k:=h1;have h3:=ho.ed.next;have h4:=ho.next;rw[ho.del];by_cases hkw:Aa k=Aa s.v.wal
  ·rw[if_pos hkw]
  ·rw[if_neg hkw,ho.ed.keep (h.lname g hg) (Aa k) (λj=>EJ k j) (EC k).1 (EC k).2,ho.same _ λi _ _=>FF k i];exact h.free k AA h2
 ·show v'.seq≤s.seq;rw[ho.ed.seq,ho.seq];exact EZ _
theorem BH.compact{e:Nat}{s:AL}{m:AJ}{now:List AO}{lk:Int→Option (List AO)}(h:BH e s m now lk)(hm:s.mem=[]){r:List AF}{seen:List Int}(h1:r.Perm (Dy s))(h2:Az r)(h3:seen.Perm (Hz s)){mk:List (Int×List AF)}{g:BF}{m1:AJ}{nx:VM}{g':BF}{v':VM}{m2 m3:AJ}(ho:Sf s m (BD seen r) mk g m1 nx g' v' m2 m3)(hp:mk.Perm (Aq s.v.next (AR 64 (BD seen r))))(hg:s.list=some g)(hmem:Gd (BD seen r)):
  BH e {s with list:=some g',v:=v',tabs:=mk} m3 now lk:=by
 have hA:(BS s)=Dy s:=by rw[GT,hm,Ca]
 have hE:(BS {s with list:=some g',v:=v',tabs:=mk}).Perm (BD seen r):=by
  show(s.mem++(mk.map (·.2)).flatten).Perm _;rw[hm,Ca];have h4:=(List.Perm.map (λx:Int×List AF=>x.2) hp).flatten;rw[I3,KM AA]at h4;exact h4
 have hk:=h.next;have htop: ∀x∈r,x.s≤s.seq:=λx hx=>h.top x (by rw[hA];exact h1.mem_iff.1 hx);have hview: ∀q rs,(q∈seen∨ ∀x∈r,x.s≤q)→Be (BS s) q rs→Be (BS {s with list:=some g',v:=v',tabs:=mk}) q rs:=λq rs hq hv=>by
  have hv1:Be r q rs:=hv.mem λx=>by rw[hA];exact h1.mem_iff.symm
  have hv2:Be (BD seen r) q rs:=hv1.same λk v=>Ym h2 seen hq k v;exact hv2.mem λx=>hE.mem_iff.symm
 refine⟨h.dead,ho.up,by show Gd s.mem;exact h.mem,λx hx=>?_,Cz.perm (Az.one (SO h2 seen)) hE.symm,?_,h.nlen,h.adds,ho.ed.good.good,?_,?_,?_,?_,?_,?_,?_,h.seq,λx hx=>htop x (SP seen x (hE.mem_iff.1 hx)),h.given,h.sqn,h.sqnd,h.hts,hview _ _ (.inr htop) h.view,h.lookq rfl (m':=m3) λq rs hq _ hv=>hview q rs (.inl (h3.mem_iff.2 hq)) hv⟩
 ·have h4:x.2∈AR 64 (BD seen r):=by
   have:=CC (f:=(·.2)) (hp.mem_iff.1 hx);rwa[I3]at this
  exact⟨hmem.tab x.2 h4,(KN AA h4).1⟩
 ·rw[hE.length_eq];have h4:=(MA seen r).length_le;have h5:=h1.length_eq;have h6:=h.num;rw[hA]at h6;omega
 ·show(v'.files.map (·.2)).Perm (mk.map (·.1));rw[ho.ed.files];refine(ho.files.map _).trans ?_;rw[JV];exact(hp.map _).symm
 ·show 1≤v'.next;have:=ho.ed.next;have:=ho.next;omega
 ·show v'.wal<v'.next;have:=ho.ed.next;have:=ho.next;have:=ho.ed.wal;have:=ho.wal;have:=h.wal;omega
 ·intro g3 hg3;cases hg3;exact ho.ed.lname (h.lname g hg)
 ·intro g3 hg3;show g3.name=Aa v'.wal;rw[h.wname g3 hg3,ho.ed.wal,ho.wal]
 ·intro k h1 h2;have h1:v'.next≤k:=h1;have h3:=ho.ed.next;have h4:=ho.next;rw[ho.del _ λhm=>by obtain⟨j, -,hj⟩:=BU.1 hm;exact FF k j hj.symm,ho.ed.keep (h.lname g hg) (Aa k) (λj=>EJ k j) (EC k).1 (EC k).2,ho.same _ λi _ _=>FF k i];exact h.free k AA h2
 ·show v'.seq≤s.seq;rw[ho.ed.seq,ho.seq];exact h.vseq
end Go.Proofs.YtkgibdhpijdbfaaGreatDoor
