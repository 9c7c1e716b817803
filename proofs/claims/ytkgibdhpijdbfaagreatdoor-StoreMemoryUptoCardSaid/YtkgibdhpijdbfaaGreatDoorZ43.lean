/- Texts of this claim, one behind the other. -/
import Derived.Test.YtkgibdhpijdbfaaGreatDoorZ40
import Derived.Test.YtkgibdhpijdbfaaGreatDoorZ42
import Derived.Test.YtkgibdhpijdbfaaGreatDoorZ41
import Derived.Test.YtkgibdhpijdbfaaGreatDoorZ18
set_option linter.unusedVariables false
set_option linter.unusedSimpArgs false
set_option maxHeartbeats 16000000
namespace Go.Proofs.YtkgibdhpijdbfaaGreatDoor
open Go Go.Eng Go.Proofs Go.Srt
structure BH(e:Nat)(s:AM)(m:AJ)(now:List AO)(lk:Int→Option (List AO)):Prop where
 dead:s.dead=false
 up:Up m
 mem:Gf s.mem
 tab: ∀x∈s.tabs,B8 x.2∧x.2≠[]
 one:C1 (BZ s)
 num:(BZ s).length≤e
 nlen:now.length≤e
 adds:s.adds≤e
 good:Good s.v
 files:(s.v.files.map (·.2)).Perm (s.tabs.map (·.1))
 next:1≤s.v.next
 wal:s.v.wal<s.v.next
 lname: ∀g,s.list=some g→ ∃j,g.name=AX j
 wname: ∀g,s.log=some g→g.name=Aa s.v.wal
 free: ∀k,s.v.next≤k→k≤4611686018427387904→AN m (Aa k)=none
 vseq:s.v.seq≤s.seq
 seq:0≤s.seq
 top: ∀x∈BZ s,x.s≤s.seq
 given:0≤s.given
 sqn: ∀x∈s.seqs,1≤x.1∧x.1≤s.given∧x.2≤s.seq
 sqnd:(s.seqs.map (·.1)).Nodup
 hts:s.hts.length≤1099511627776
 view:Bf (BZ s) s.seq now
 looks: ∀n,match Al n s.seqs with
  |some q=>∃rs,lk n=some rs∧Bf (BZ s) q rs
  |none=>lk n=none
structure DN(A T X N Q:Nat)(s:AM)(m:AJ):Prop where
 ft:FT A T m
 next:s.v.next≤X
 seq:s.seq≤Q
 given:s.given≤Q
 sn:s.seqs.length≤Q
 list: ∃g,s.list=some g∧GM g N
 log: ∃g,s.log=some g∧GM g N
theorem GT(s:AM):BZ s=s.mem++D1 s:=rfl
theorem Bf.mem{E F:List AF}{t:Int}{rs:List AO}(hv:Bf E t rs)(h: ∀x,x∈E↔x∈F):Bf F t rs:=hv.same λ_ _=>Et.iff h
theorem zD{E:List AF}{t u:Int}(ht: ∀x∈E,x.s≤t)(hu: ∀x∈E,x.s≤u)(k v:AE):Et E t k v↔Et E u k v:=by
 have key: ∀{t u:Int},(∀x∈E,x.s≤u)→(∀x∈E,x.s≤t)→Et E t k v→Et E u k v:=by
  rintro t u hu ht⟨x,hx,h2⟩;exact⟨x,⟨hx.mem,hx.key,hu x hx.mem,λy hy h1 _=>hx.top y hy h1 (ht y hy)⟩,h2⟩
 exact⟨key hu ht,key ht hu⟩
theorem Bf.up{E:List AF}{t u:Int}{rs:List AO}(hv:Bf E t rs)(ht: ∀x∈E,x.s≤t)(hu: ∀x∈E,x.s≤u):Bf E u rs:=hv.same λk v=>zD ht hu k v
theorem Yb(seq:Int): ∀(ops:List Ac){l:List AF},Az l→ ∀z∈Cy seq ops l,z∈l∨ ∃o∈ops,z=C7 seq o
 |[],l,_,z,hz=> .inl hz
 |o::ops,l,hr,z,hz=>by
  rcases Yb seq ops (OT (x:=C7 seq o) hr) z hz with h|⟨p,hp,h⟩
  ·rcases(Vw (x:=C7 seq o) hr z).1 h with h|⟨h, -⟩
   ·exact .inr ⟨o,AB,h⟩
   ·exact .inl h
  ·exact .inr ⟨p,by simp[hp],h⟩
theorem Yd(seq:Int)(T:List AF)(hT: ∀z∈T,z.s<seq): ∀(ops:List Ac){mem:List AF}{now:List AO},Az mem→C1 (mem++T)→(∀z∈mem,z.s≤seq)→Bf (mem++T) seq now→
  C1 (Cy seq ops mem++T)∧(∀z∈Cy seq ops mem,z.s≤seq)∧Bf (Cy seq ops mem++T) seq (Cf now ops)∧ ∀q rs,q<seq→Bf (mem++T) q rs→Bf (Cy seq ops mem++T) q rs
 |[],mem,now,hr,h1,hm,hv=>⟨h1,hm,hv,λq rs _ h=>h⟩
 |o::ops,mem,now,hr,h1,hm,hv=>by
  have hw:=Vw (x:=C7 seq o) hr;have hr1:=OT (x:=C7 seq o) hr;have hm1: ∀z∈DS (C7 seq o) mem,z.s≤seq:=λz hz=>by
   rcases(hw z).1 hz with h|⟨h, -⟩
   ·rw[h];exact Ea _
   ·exact hm z h
  have hW:JK (mem++T) (C7 seq o) (DS (C7 seq o) mem++T):=λz=>by
   rw[Bl,Bl,hw z];constructor
   ·rintro((h|⟨h,h2⟩)|h)
    ·exact .inl h
    ·exact .inr ⟨.inl h,h2⟩
    ·exact .inr ⟨.inr h,λe=>by have:=e.2;have h3:=hT z h;unfold C7 at this;simp only at this;omega⟩
   ·rintro(h|⟨h|h,h2⟩)
    ·exact .inl (.inl h)
    ·exact .inl (.inr ⟨h,h2⟩)
    ·exact .inr h
  have hone:C1 (DS (C7 seq o) mem++T):=by
   have h2:=GV.1 h1;refine GV.2 ⟨hr1.one,h2.2.1,λa ha b hb hs=>?_⟩;rcases(hw a).1 ha with h|⟨h, -⟩
   ·subst h;have:=hs.2;have h3:=hT b hb;unfold C7 at this;simp only at this;omega
   ·exact h2.2.2 a h b hb hs
  have hs: ∀z∈mem++T,z.s≤seq:=λz hz=>by
   rcases Bl.1 hz with h|h
   ·exact hm z h
   ·have:=hT z h;omega
  have hv1:=hv.put hone hW hs (Ea _);obtain⟨i1,i2,i3,i4⟩:=Yd seq T hT ops hr1 hone hm1 hv1;exact⟨i1,i2,i3,λq rs hq h=>i4 q rs hq (h.old hW hq)⟩
theorem GM.mono{g:BF}{N M:Nat}(h:GM g N)(hl:N≤M):GM g M:=⟨h.torn,h.dead,h.name,Au h.num hl⟩
theorem DN.mono{A T X N Q A' T' X' N' Q':Nat}{s:AM}{m:AJ}(h:DN A T X N Q s m)(h1:A≤A')(h2:T≤T')(h3:X≤X')(h4:N≤N')(h5:Q≤Q'):DN A' T' X' N' Q' s m:=by
 obtain⟨g,hg,hg2⟩:=h.list;obtain⟨g',hg',hg2'⟩:=h.log;exact⟨h.ft.mono h1 h2,by have:=h.next;omega,by have:=h.seq;omega,by have:=h.given;omega,by have:=h.sn;omega,⟨g,hg,hg2.mono h4⟩,⟨g',hg',hg2'.mono h4⟩⟩
theorem OM{α:Type}: ∀(ls:List (List α)),(∀l∈ls,l≠[])→ls.length≤ls.flatten.length
 |[],_=>Ag _
 |l::ls,h=>by
  have:=OM ls λl hl=>h l (by simp[hl]);have h2:=J5.2 (h l AB);simp only[Ai,Dc,AP];omega
theorem BH.cnt{e:Nat}{s:AM}{m:AJ}{now:List AO}{lk:Int→Option (List AO)}(h:BH e s m now lk):s.mem.length≤e∧s.tabs.length≤e∧(D1 s).length≤e∧s.v.files.length≤e:=by
 have h1:=h.num;rw[GT,AP]at h1;have h2:=OM (s.tabs.map (·.2)) λl hl=>by
  obtain⟨x,hx,rfl⟩:=BV.1 hl;exact(h.tab x hx).2
 rw[BM]at h2;have h3:s.tabs.length≤(D1 s).length:=h2;have h4:=h.files.length_eq;rw[BM,BM]at h4;omega
theorem BH.goodV{e A T X N Q:Nat}{s:AM}{m:AJ}{now:List AO}{lk:Int→Option (List AO)}(h:BH e s m now lk)(hb:DN A T X N Q s m)(he:e≤1048576)(hX:X≤1152921504606846976)(hQ:Q≤1152921504606846976):DE s.v:=by
 have h1:=h.cnt;have h2:=h.wal;have h3:=hb.next;have h4:=h.vseq;have h5:=hb.seq;exact⟨h.good,AA,AA,AA,AA⟩
theorem BH.wr{e A T X N Q:Nat}{s:AM}{m:AJ}{now:List AO}{lk:Int→Option (List AO)}(h:BH e s m now lk)(hb:DN A T X N Q s m)(he:e≤1048576)(hX:X≤1152921504606846976)(hQ:Q≤1152921504606846976)(hN:N≤2305843009213693952)(hA:A≤2305843009213693952)(hT:536870912≤T∧T+1048576≤1099511627776):Ik A T s m:=by
 have h1:=h.cnt;obtain⟨g,hg,hg2⟩:=hb.list;have h3:=hb.next;have h5:=hb.seq;have h6:=hg2.num;exact⟨h.mem,h.goodV hb he hX hQ,AA,AA,⟨h.seq,AA⟩,⟨g,hg,AA⟩,hb.ft,hA,hT.1,hT.2,h.hts⟩
theorem BH.co{e:Nat}{s:AM}{m:AJ}{now:List AO}{lk:Int→Option (List AO)}(h:BH e s m now lk)(he:e≤1048576)(hs:s.seqs.length≤1099511627776):Ka s:=
 ⟨λx hx=>(h.tab x hx).1,(GV.1 h.one).2.1,by have:=h.cnt;omega,h.files,hs⟩
theorem BH.keys{e:Nat}{s:AM}{m:AJ}{now:List AO}{lk:Int→Option (List AO)}(h:BH e s m now lk):(s.tabs.map (·.1)).Nodup∧ ∀n∈s.tabs.map (·.1),1≤n∧n<s.v.next:=by
 refine⟨h.files.nodup_iff.1 h.good.files.2,λn hn=>?_⟩;obtain⟨f,hf,rfl⟩:=BV.1 (h.files.mem_iff.2 hn);obtain⟨h1,h2⟩:=h.good.files.1 f hf;exact⟨(Hw.1 h1).1,h2⟩
theorem BH.rd{e A T X N Q:Nat}{s:AM}{m:AJ}{now:List AO}{lk:Int→Option (List AO)}(h:BH e s m now lk)(hb:DN A T X N Q s m)(he:e≤1048576)(hX:X≤1152921504606846976):Hd s:=by
 have h1:=h.cnt;have h2:=h.num;refine⟨h.mem.rise,h.mem.seqs,λx hx=>(h.tab x hx).1,h.one,AA,AA,λx hx=>?_⟩;have h3:=h.keys.2 x.1 (CD hx);have h4:=hb.next;omega
theorem BH.lookq{e:Nat}{s s':AM}{m m':AJ}{now:List AO}{lk:Int→Option (List AO)}(h:BH e s m now lk)(hs:s'.seqs=s.seqs)(hv: ∀q rs,q∈s.seqs.map (·.2)→q≤s.seq→Bf (BZ s) q rs→Bf (BZ s') q rs): ∀n,match Al n s'.seqs with
  |some q=>∃rs,lk n=some rs∧Bf (BZ s') q rs
  |none=>lk n=none:=by
 intro n;have:=h.looks n;rw[hs];cases hk:Al n s.seqs with
 |none=>rw[hk]at this;exact this
 |some q=>
  rw[hk]at this;obtain⟨rs,h1,h2⟩:=this;have hm:=JW hk;exact⟨rs,h1,hv q rs (CD hm) (h.sqn _ hm).2.2 h2⟩
theorem I0{α:Type}: ∀(cs:List α)(n:Int),(Ar n cs).map (·.2)=cs
 |[],_=>rfl
 |c::cs,n=>by rw[Ar,A4,I0 cs]
theorem BH.take{e:Nat}{s:AM}{m m1:AJ}{now:List AO}{lk:Int→Option (List AO)}(h:BH e s m now lk)(ops:List Ac)(g':BF)(hup:Up m1)(hnm:g'.name=Aa s.v.wal)(hfr: ∀k,s.v.next≤k→k≤4611686018427387904→AN m1 (Aa k)=none)(hsz:Ap ops≤4096)(hsq:s.seq+1≤4611686018427387904)(he:e+ops.length≤1048576):
  BH (e+ops.length) (Gu s g' ops) m1 (Cf now ops) lk:=by
 have hT: ∀z∈D1 s,z.s<s.seq+1:=λz hz=>by have:=h.top z (by rw[GT];exact FC _ hz);omega
 have hm: ∀z∈s.mem,z.s≤s.seq+1:=λz hz=>by have:=h.top z (by rw[GT];exact EO _ hz);omega
 obtain⟨t1,t2,t3,t4⟩:=Yd (s.seq+1) (D1 s) hT ops h.mem.rise h.one hm (h.view.up h.top λx hx=>by have:=h.top x hx;omega);have hsz2:=PF (s.seq+1) ops s.mem;have hmem:=Yb (s.seq+1) ops h.mem.rise;have hnum:=h.num;rw[GT,AP]at hnum;have hs0:=h.seq;have hall:BZ (Gu s g' ops)=Cy (s.seq+1) ops s.mem++D1 s:=rfl;refine⟨h.dead,hup,⟨PE _ ops h.mem.rise,λx hx hd=>?_,λx hx=>?_,λx hx=>?_,?_⟩,h.tab,t1,?_,(by have:=Ys now ops;have:=h.nlen;omega),?_,h.good,h.files,h.next,h.wal,h.lname,λg hg=>by cases hg;exact hnm,hfr,?_,?_,?_,h.given,?_,h.sqnd,h.hts,t3,?_⟩
 ·rcases hmem x hx with h1|⟨o,ho,rfl⟩
  ·exact h.mem.fine x h1 hd
  ·unfold C7 at hd⊢;simp only at hd⊢;rw[hd];rfl
 ·rcases hmem x hx with h1|⟨o,ho,rfl⟩
  ·exact h.mem.seqs x h1
  ·unfold C7;simp only;omega
 ·rcases hmem x hx with h1|⟨o,ho,rfl⟩
  ·exact h.mem.sz x h1
  ·have:=QU (s.seq+1) o;have:=PC ho;omega
 ·show(Cy (s.seq+1) ops s.mem).length≤_;omega
 ·rw[hall,AP];omega
 ·show s.adds+ops.length≤_;have:=h.adds;omega
 ·show s.v.seq≤s.seq+1;have:=h.vseq;omega
 ·show 0≤s.seq+1;omega
 ·intro x hx;show x.s≤s.seq+1;rw[hall,Bl]at hx;rcases hx with hx|hx
  ·exact t2 x hx
  ·have:=hT x hx;omega
 ·intro x hx;have:=h.sqn x hx;show 1≤x.1∧x.1≤s.given∧x.2≤s.seq+1;omega
 ·exact h.lookq rfl (m':=m1) λq rs _ hq hv=>t4 q rs AA hv
theorem BH.flush{e:Nat}{s:AM}{m:AJ}{now:List AO}{lk:Int→Option (List AO)}(h:BH e s m now lk){mk:List (Int×List AF)}{g:BF}{m1:AJ}{nx:VM}{g':BF}{v':VM}{m2 m3:AJ}(ho:Ss s m mk g m1 nx g' v' m2 m3)(hp:mk.Perm (Ar s.v.next (AR 64 s.mem)))(hg:s.list=some g)(hn:s.v.next≤1152921504606846976)(g2:BF)(hg2:g2.name=Aa (s.v.next+(AR 64 s.mem).length)):
  BH e {s with list:=some g',v:=v',tabs:=s.tabs++mk,mem:=[],adds:=0,log:=some g2} m3 now lk:=by
 have hE:(BZ {s with list:=some g',v:=v',tabs:=s.tabs++mk,mem:=[],adds:=0,log:=some g2}).Perm (BZ s):=by
  show(([]:List AF)++((s.tabs++mk).map (λx:Int×List AF=>x.2)).flatten).Perm (s.mem++(s.tabs.map (λx:Int×List AF=>x.2)).flatten);rw[CU,A7,GW];refine Gp.trans (List.Perm.append_right _ ?_);have h1:=(List.Perm.map (λx:Int×List AF=>x.2) hp).flatten;rw[I0,KD AA]at h1;exact h1
 have hk:=h.next;have hcs:=I5 64 s.mem AA;refine⟨h.dead,ho.up,⟨List.Pairwise.nil,λx hx=>(by cases hx),λx hx=>(by cases hx),λx hx=>(by cases hx),Ag _⟩,λx hx=>?_,C1.perm h.one hE.symm,by rw[hE.length_eq];exact h.num,h.nlen,Ag _,ho.ed.good.good,?_,?_,?_,?_,?_,?_,?_,h.seq,λx hx=>h.top x (hE.mem_iff.1 hx),h.given,h.sqn,h.sqnd,h.hts,h.view.mem λx=>(hE.mem_iff).symm,h.lookq rfl (m':=m3) λq rs _ _ hv=>hv.mem λx=>(hE.mem_iff).symm⟩
 ·rcases Bl.1 hx with hx|hx
  ·exact h.tab x hx
  ·have h2:x.2∈AR 64 s.mem:=by
    have:=CD (f:=(·.2)) (hp.mem_iff.1 hx);rwa[I0]at this
   exact⟨h.mem.tab x.2 h2,(KE AA h2).1⟩
 ·show(v'.files.map (·.2)).Perm ((s.tabs++mk).map (·.1));rw[ho.ed.files,A7];refine(ho.files.map _).trans ?_;rw[A7];refine List.Perm.append h.files ?_;rw[JR];exact(hp.map _).symm
 ·show 1≤v'.next;have:=ho.ed.next;have:=ho.next;omega
 ·show v'.wal<v'.next;have:=ho.ed.next;have:=ho.next;have:=ho.ed.wal;have:=ho.wal;omega
 ·intro g3 hg3;cases hg3;exact ho.ed.lname (h.lname g hg)
 ·intro g3 hg3;cases hg3;show g2.name=Aa v'.wal;rw[hg2,ho.ed.wal,ho.wal]
 ·intro k h1 h2;have h1:v'.next≤k:=h1;have h3:=ho.ed.next;have h4:=ho.next;rw[ho.del];by_cases hkw:Aa k=Aa s.v.wal
  ·rw[if_pos hkw]
  ·rw[if_neg hkw,ho.ed.keep (h.lname g hg) (Aa k) (λj=>EG k j) (EB k).1 (EB k).2,ho.same _ λi _ _=>FH k i];exact h.free k AA h2
 ·show v'.seq≤s.seq;rw[ho.ed.seq,ho.seq];exact Ea _
theorem BH.compact{e:Nat}{s:AM}{m:AJ}{now:List AO}{lk:Int→Option (List AO)}(h:BH e s m now lk)(hm:s.mem=[]){r:List AF}{seen:List Int}(h1:r.Perm (D1 s))(h2:Az r)(h3:seen.Perm (Hy s)){mk:List (Int×List AF)}{g:BF}{m1:AJ}{nx:VM}{g':BF}{v':VM}{m2 m3:AJ}(ho:Sj s m (BD seen r) mk g m1 nx g' v' m2 m3)(hp:mk.Perm (Ar s.v.next (AR 64 (BD seen r))))(hg:s.list=some g)(hmem:Gf (BD seen r)):
  BH e {s with list:=some g',v:=v',tabs:=mk} m3 now lk:=by
 have hA:(BZ s)=D1 s:=by rw[GT,hm,CU]
 have hE:(BZ {s with list:=some g',v:=v',tabs:=mk}).Perm (BD seen r):=by
  show(s.mem++(mk.map (·.2)).flatten).Perm _;rw[hm,CU];have h4:=(List.Perm.map (λx:Int×List AF=>x.2) hp).flatten;rw[I0,KD AA]at h4;exact h4
 have hk:=h.next;have htop: ∀x∈r,x.s≤s.seq:=λx hx=>h.top x (by rw[hA];exact h1.mem_iff.1 hx);have hview: ∀q rs,(q∈seen∨ ∀x∈r,x.s≤q)→Bf (BZ s) q rs→Bf (BZ {s with list:=some g',v:=v',tabs:=mk}) q rs:=λq rs hq hv=>by
  have hv1:Bf r q rs:=hv.mem λx=>by rw[hA];exact h1.mem_iff.symm
  have hv2:Bf (BD seen r) q rs:=hv1.same λk v=>Yg h2 seen hq k v;exact hv2.mem λx=>hE.mem_iff.symm
 refine⟨h.dead,ho.up,by show Gf s.mem;exact h.mem,λx hx=>?_,C1.perm (Az.one (SR h2 seen)) hE.symm,?_,h.nlen,h.adds,ho.ed.good.good,?_,?_,?_,?_,?_,?_,?_,h.seq,λx hx=>htop x (SS seen x (hE.mem_iff.1 hx)),h.given,h.sqn,h.sqnd,h.hts,hview _ _ (.inr htop) h.view,h.lookq rfl (m':=m3) λq rs hq _ hv=>hview q rs (.inl (h3.mem_iff.2 hq)) hv⟩
 ·have h4:x.2∈AR 64 (BD seen r):=by
   have:=CD (f:=(·.2)) (hp.mem_iff.1 hx);rwa[I0]at this
  exact⟨hmem.tab x.2 h4,(KE AA h4).1⟩
 ·rw[hE.length_eq];have h4:=(Ld seen r).length_le;have h5:=h1.length_eq;have h6:=h.num;rw[hA]at h6;omega
 ·show(v'.files.map (·.2)).Perm (mk.map (·.1));rw[ho.ed.files];refine(ho.files.map _).trans ?_;rw[JR];exact(hp.map _).symm
 ·show 1≤v'.next;have:=ho.ed.next;have:=ho.next;omega
 ·show v'.wal<v'.next;have:=ho.ed.next;have:=ho.next;have:=ho.ed.wal;have:=ho.wal;have:=h.wal;omega
 ·intro g3 hg3;cases hg3;exact ho.ed.lname (h.lname g hg)
 ·intro g3 hg3;show g3.name=Aa v'.wal;rw[h.wname g3 hg3,ho.ed.wal,ho.wal]
 ·intro k h1 h2;have h1:v'.next≤k:=h1;have h3:=ho.ed.next;have h4:=ho.next;rw[ho.del _ λhm=>by obtain⟨j, -,hj⟩:=BV.1 hm;exact FH k j hj.symm,ho.ed.keep (h.lname g hg) (Aa k) (λj=>EG k j) (EB k).1 (EB k).2,ho.same _ λi _ _=>FH k i];exact h.free k AA h2
 ·show v'.seq≤s.seq;rw[ho.ed.seq,ho.seq];exact h.vseq
theorem QO(x:AF)(k:AE)(q:Int):EW x k q=true↔Op.bytesLess x.k k=true∨(x.k=k∧q<x.s):=by unfold EW;simp
theorem Vg{l:List AF}{k:AE}{q:Int}{y:AF}(hy:y∈l)(hk:y.k=k)(hq:y.s≤q):y∈Br k q l:=by
 rw[←GH k q l]at hy;rcases Bl.1 hy with h|h
 ·exfalso;rcases(QO y k q).1 (NM k q l y h)with h1|⟨-,h1⟩
  ·rw[hk,F4]at h1;cases h1
  ·omega
 ·exact h
theorem Qt(k:AE)(q:Int)(l:List AF):(Br k q l).Sublist l:=by
 have:=Ah (CY k q l) (Br k q l);rwa[GH]at this
theorem Vk{l:List AF}(hr:Az l){k:AE}{q:Int}{x:AF}(h:DH l k q=some x):C0 l k q x:=by
 unfold DH at h;cases hf:Br k q l with
 |nil=>rw[hf]at h;cases h
 |cons z r=>
  rw[hf]at h;simp only at h
  split at h
  ·rename_i hz;cases h;have hge:=Ks hr (k:=k) (s:=q);rw[hf]at hge;have hz1:=hge x AB;have hzq:x.s≤q:=by
    rcases Int.lt_or_le q x.s with h1|h1
    ·rw[(QO x k q).2 (.inr ⟨hz,h1⟩)]at hz1;cases hz1
    ·exact h1
   have hrf:Az (x::r):=by rw[←hf];exact hr.sublist (Qt k q l)
   refine⟨(Qt k q l).mem (by rw[hf];simp),hz,hzq,λy hy h1 h2=>?_⟩;have hyf:=Vg hy h1 h2;rw[hf]at hyf;rcases As.1 hyf with rfl|hyf
   ·exact Ea _
   ·rcases(In x y).1 ((DT.1 hrf).1 y hyf)with h3|⟨-,h3⟩
    ·rw[hz,h1,F4]at h3;cases h3
    ·omega
  ·cases h
theorem Vj{l:List AF}(hr:Az l){k:AE}{q:Int}{y:AF}(hy:y∈l)(hk:y.k=k)(hq:y.s≤q): ∃x,DH l k q=some x:=by
 have hyf:=Vg hy hk hq;unfold DH;cases hf:Br k q l with
 |nil=>rw[hf]at hyf;cases hyf
 |cons z r=>
  rw[hf]at hyf;have hge:=Ks hr (k:=k) (s:=q);rw[hf]at hge;have hz1:=hge z AB;have hrf:Az (z::r):=by rw[←hf];exact hr.sublist (Qt k q l)
  have hzk:z.k=k:=by
   rcases As.1 hyf with rfl|hyf
   ·exact hk
   ·rcases(In z y).1 ((DT.1 hrf).1 y hyf)with h3|⟨h3, -⟩
    ·rw[hk]at h3;rw[(QO z k q).2 (.inl h3)]at hz1;cases hz1
    ·rw[h3,hk]
  exact⟨z,by simp[hzk]⟩
theorem bJ{s:AM}(hm:Az s.mem)(ht: ∀x∈s.tabs,Az x.2){k:AE}{q:Int}{b:Option AF}(h:ME s k q b):match b with
  |some x=>C0 (BZ s) k q x
  |none=>∀y∈BZ s,y.k=k→ ¬y.s≤q:=by
 have hin: ∀y∈BZ s,∃l,Az l∧y∈l∧(∀z∈l,z∈BZ s)∧DH l k q∈(DH s.mem k q::s.tabs.map λx=>DH x.2 k q):=by
  intro y hy;rw[GT,Bl]at hy;rcases hy with hy|hy
  ·exact⟨s.mem,hm,hy,λz hz=>by rw[GT];exact EO _ hz,AB⟩
  ·obtain⟨l,hl,hyl⟩:=Iu.1 hy;obtain⟨x,hx,rfl⟩:=BV.1 hl;exact⟨x.2,ht x hx,hyl,λz hz=>by rw[GT];exact FC _ (Iu.2 ⟨x.2,hl,hz⟩),CJ _ (BV.2 ⟨x,hx,rfl⟩)⟩
 cases b with
 |none=>
  intro y hy hk hq;obtain⟨l,hr,hyl, -,hc⟩:=hin y hy;obtain⟨x,hx⟩:=Vj hr hyl hk hq;have:=h.non rfl _ hc;rw[hx]at this;cases this
 |some x=>
  have hx:=h.mem x rfl;have hlook: ∃l,Az l∧(∀z∈l,z∈BZ s)∧DH l k q=some x:=by
   rcases As.1 hx with hx|hx
   ·exact⟨s.mem,hm,λz hz=>by rw[GT];exact EO _ hz,hx.symm⟩
   ·obtain⟨y,hy,he⟩:=BV.1 hx;exact⟨y.2,ht y hy,λz hz=>by rw[GT];exact FC _ (Iu.2 ⟨y.2,CD hy,hz⟩),he⟩
  obtain⟨l,hr,hl,hg⟩:=hlook;have hL:=Vk hr hg;refine⟨hl x hL.mem,hL.key,hL.le,λy hy hk hq=>?_⟩;obtain⟨l',hr',hyl, -,hc⟩:=hin y hy;obtain⟨z,hz⟩:=Vj hr' hyl hk hq;rw[hz]at hc;have h1:=h.top x rfl z hc;have h2:=(Vk hr' hz).top y hyl hk hq;omega
def FV(rs:List AO)(k:AE):Option AE:=(rs.find? λr=>decide (r.1=k)).map (·.2)
theorem tG{rs:List AO}(hr:rs.Pairwise EQ){k v:AE}(h:(k,v)∈rs):FV rs k=some v:=by
 unfold FV
 induction rs with
 |nil=>cases h
 |cons r rs ih=>
  have hp:=DT.1 hr;rw[List.find?_cons];by_cases hk:r.1=k
  ·rw[decide_eq_true hk];rcases As.1 h with h|h
   ·rw[←h];rfl
   ·have:=hp.1 _ h;unfold EQ at this;rw[hk,F4]at this;cases this
  ·rw[decide_eq_false hk];rcases As.1 h with h|h
   ·rw[←h]at hk;exact absurd rfl hk
   ·exact ih hp.2 h
theorem WS{rs:List AO}{k:AE}(h: ∀v,(k,v)∉rs):FV rs k=none:=by
 unfold FV;rw[List.find?_eq_none.2 λr hr=>?_]
 ·rfl
 ·simp only[decide_eq_true_eq];rintro rfl;exact h r.2 hr
theorem Qv{s:AM}(hm:Az s.mem)(ht: ∀x∈s.tabs,Az x.2)(h1:C1 (BZ s))(hf:KY (BZ s)){k:AE}{q:Int}{b:Option AF}(h:ME s k q b){rs:List AO}(hv:Bf (BZ s) q rs):Lj b=(FV rs k).getD []∧LG b=(FV rs k).isSome:=by
 have hl:=bJ hm ht h;cases b with
 |none=>
  simp only at hl;rw[WS λv hin=>by
   obtain⟨x,hx, -⟩:=(hv.all k v).1 hin;exact hl x hx.mem hx.key hx.le]
  exact⟨rfl,rfl⟩
 |some x=>
  simp only at hl;cases hd:x.d with
  |false=>
   rw[tG hv.rise ((hv.all k x.v).2 ⟨x,hl,hd,rfl⟩)];unfold Lj LG;simp[hd]
  |true=>
   rw[WS λv hin=>by
    obtain⟨y,hy,hyd, -⟩:=(hv.all k v).1 hin;rw[hy.uniq h1 hl,hd]at hyd;cases hyd]
   unfold Lj LG;simp[hd,hf x hl.mem hd]
def Eh(fr to:AE)(r:AO):Bool:= !Op.bytesLess r.1 fr&&(decide (to=[])||Op.bytesLess r.1 to)
theorem yN{l:List AO}(hr:l.Pairwise EQ)(to:AE):l.takeWhile (λr=>decide (to=[])||Op.bytesLess r.1 to)=l.filter λr=>decide (to=[])||Op.bytesLess r.1 to:=by
 induction l with
 |nil=>rfl
 |cons r l ih=>
  have hp:=DT.1 hr;rw[List.takeWhile_cons,List.filter_cons];by_cases h:(decide (to=[])||Op.bytesLess r.1 to)=true
  ·rw[if_pos h,if_pos h,ih hp.2]
  ·rw[if_neg h,if_neg h]
   symm
   rw[List.filter_eq_nil_iff];intro y hy h2;rw[Bool.or_eq_true]at h h2;rcases h2 with h2|h2
   ·exact h (.inl h2)
   ·exact h (.inr (JM _ _ _ (hp.1 y hy) h2))
theorem R3{s:AM}{k to:AE}{q:Int}{ops:List Ac}(h:Ng s k to q ops){rs:List AO}(hv:Bf (BZ s) q rs):ops=(rs.filter (Eh k to)).map DM:=by
 obtain⟨r,hp,hr,rfl⟩:=h;have hmem: ∀x,x∈r↔x∈BZ s∧Op.bytesLess x.k k=false:=λx=>by rw[hp.mem_iff,List.mem_filter];simp
 have hlk: ∀κ x,Op.bytesLess κ k=false→(C0 r κ q x↔C0 (BZ s) κ q x):=λκ x hk=>by
  constructor
  ·intro hx;exact⟨((hmem x).1 hx.mem).1,hx.key,hx.le,λy hy h1 h2=>hx.top y ((hmem y).2 ⟨hy,by rw[h1];exact hk⟩) h1 h2⟩
  ·intro hx;exact⟨(hmem x).2 ⟨hx.mem,by rw[hx.key];exact hk⟩,hx.key,hx.le,λy hy h1 h2=>hx.top y ((hmem y).1 hy).1 h1 h2⟩
 have hv2:Bf r q (rs.filter λp=> !Op.bytesLess p.1 k):=by
  refine⟨hv.rise.sublist List.filter_sublist,λκ v=>?_⟩;rw[List.mem_filter,hv.all κ v];constructor
  ·rintro⟨⟨x,hx,h2⟩,hk⟩;exact⟨x,(hlk κ x (by simpa using hk)).2 hx,h2⟩
  ·rintro⟨x,hx,h2⟩;have hk:=((hmem x).1 hx.mem).2;rw[hx.key]at hk;exact⟨⟨x,(hlk κ x hk).1 hx,h2⟩,by simp[hk]⟩
 have he:=(zC hr q).uniq hv2;have h1: ∀l:List AF,(HX to l).map HT=((l.map OZ).takeWhile λr=>decide (to=[])||Op.bytesLess r.1 to).map DM:=by
  intro l;unfold HX;rw[List.takeWhile_map,Fp]
  rfl
 rw[h1,he,yN (hv.rise.sublist List.filter_sublist),List.filter_filter]
 congr 2
 funext p
 unfold Eh;exact Bool.and_comm _ _
theorem QE{T:Nat}(s:AM)(list:Int): ∀(ns:List AE){A:Nat}{m:AJ},Up m→FT A T m→ns.Nodup→(∀n∈ns,(AN m n).isSome=true)→
  (DF s list ns m).1=0∧Up (DF s list ns m).2∧FT (A+ns.length) T (DF s list ns m).2∧ ∀k,AN (DF s list ns m).2 k=if k∈ns∧Ct s list k=false then none else AN m k
 |[],A,m,h,hF,_,_=>⟨rfl,h,hF,λk=>by rw[if_neg AB];rfl⟩
 |n::ns,A,m,h,hF,hnd,hall=>by
  obtain⟨hn1,hn2⟩:=Ew.1 hnd;unfold DF;cases hk:Ct s list n with
  |true=>
   rw[if_pos rfl];obtain⟨i1,i2,i3,i4⟩:=QE s list ns h hF hn2 λx hx=>hall x (by simp[hx]);refine⟨i1,i2,i3.mono (by rw[Ai];omega) (AV _),λk=>?_⟩;rw[i4];by_cases hkn:k=n
   ·subst hkn;rw[if_neg (by simp[hk]),if_neg (by simp[hk])]
   ·simp[hkn]
  |false=>
   rw[if_neg AB];obtain⟨d1,d2,d3⟩:=N1 h hF.fb.nd n;rw[hall n AB,if_pos rfl]at d1;rw[if_neg (by rw[d1];simp)];obtain⟨i1,i2,i3,i4⟩:=QE s list ns d2 (hF.del n) hn2 λx hx=>by rw[d3,if_neg (λe:x=n=>hn1 (e▸hx))];exact hall x (by simp[hx])
   refine⟨i1,i2,i3.mono (by rw[Ai];omega) (AV _),λk=>?_⟩;rw[i4,d3];by_cases hkn:k=n
   ·subst hkn;rw[if_neg (by simp[hn1]),if_pos rfl,if_pos (by simp[hk])]
   ·simp[hkn]
theorem V8{s:AM}{list:Int}{k:AE}(h:Ct s list k=true):k=Bg∨k=AX list∨k=Aa s.v.wal∨ ∃n,(Al n s.tabs).isSome=true∧k=Aw n:=by
 have hp: ∀c z,(Ej k).1=c→(Ej k).2.1=z→c≠0→k=c::Lib.itoa z:=by
  intro c z h1 h2 h3;cases k with
  |nil=>subst h1;exact absurd rfl h3
  |cons d r=>
   rw[XK]at h1 h2;cases ha:Lib.atoiAll r with
   |ok n=>
    rw[ha]at h1 h2;simp only at h1 h2;cases hn:EE d r n with
    |true=>
     rw[hn]at h1 h2;simp only[if_true]at h1 h2;unfold EE at hn;simp only[Bool.and_eq_true,decide_eq_true_eq]at hn;subst h1 h2;rw[hn.1.2]
    |false=>
     rw[hn]at h1;exact absurd h1.symm h3
   |_=>
    rw[ha]at h1;exact absurd h1.symm h3
 unfold Ct at h;simp only[Bool.or_eq_true,Bool.and_eq_true,decide_eq_true_eq]at h;rcases h with((h|⟨h1,h2⟩)|⟨h1,h2⟩)|⟨h1,h2⟩
 ·exact .inl h
 ·exact .inr (.inl (hp 109 list h1 h2 AC))
 ·exact .inr (.inr (.inl (hp 119 _ h1 h2 AC)))
 ·exact .inr (.inr (.inr ⟨_,h2,hp 116 _ h1 rfl AC⟩))
theorem WA(s:AM){n:Int}(h1:1≤n)(h:Ck n):Ct s n (AX n)=true:=by
 unfold Ct AX;rw[Ot AC h,if_pos h1];simp
theorem WC(s:AM)(list:Int)(h1:1≤s.v.wal)(h:Ck s.v.wal):Ct s list (Aa s.v.wal)=true:=by
 unfold Ct Aa;rw[Ot AC h,if_pos h1];simp
theorem WB(s:AM)(list:Int){n:Int}(h1:1≤n)(h:Ck n)(hs:(Al n s.tabs).isSome=true):Ct s list (Aw n)=true:=by
 unfold Ct Aw;rw[Ot AC h,if_pos h1];simp[hs]
theorem V9(s:AM)(list:Int):Ct s list Bg=true:=by unfold Ct;simp
structure TF(s:AM)(m:AJ)(ps:List AE)(s':AM)(m':AJ):Prop where
 st:s'={BJ s with log:=some ⟨ps.length,Aa s.v.next,false,false⟩,list:=some ⟨(Ay (BJ s).v).length,AX (s.v.next+1),false,false⟩}
 up:Up m'
 wal:AN m' (Aa s.v.next)=some (AQ ps,(AQ ps).length)
 lst:AN m' (AX (s.v.next+1))=some (AQ (Ay (BJ s).v),(AQ (Ay (BJ s).v)).length)
 cur: ∃y,AN m' Bg=some (AX (s.v.next+1),y)
 tab: ∀x∈s.tabs,1≤x.1→Ck x.1→AN m' (Aw x.1)=AN m (Aw x.1)
 all: ∀k,(AN m' k).isSome=true→Ct s' (s.v.next+1) k=true
theorem OI{m:AJ}{k:AE}:(AN m k).isSome=true↔k∈m.files.map (·.1):=by
 unfold AN;cases h:Al k m.files with
 |none=>have:=JX.1 h;simp[this]
 |some x=>have:=JW h;simp only[Option.isSome_some,true_iff];exact CD (f:=(·.1)) this
theorem Xq{A T Nf:Nat}{s:AM}{m:AJ}{ps:List AE}{e:Int}{s':AM}{m':AJ}(h:Up m)(hF:FT A T m)(hT:536870912≤T∧T≤1099511627776)(hv:DE (BJ s).v)(h1:1≤s.v.next∧s.v.next≤1152921504606846976)(hps:Bc ps=true)(hpl:(AQ ps).length≤T)(hnf:m.files.length≤Nf)(hr:FL s m ps e s' m'):
  e=0∧TF s m ps s' m'∧FT (A+Nf+17) T m':=by
 have hi:Ck s.v.next:=⟨AA,AA⟩;have hi1:Ck (s.v.next+1):=⟨AA,AA⟩;obtain⟨w1,w2⟩:=hv.whole;have hok:=N7 w2;have hsum:=MZ w2 hv.num;obtain⟨a1,a2,a3⟩:=Rw h hF.fb (Hs hi) hps;have hF1:=hF.rewrite (Aa s.v.next) ps hpl hT.2;obtain⟨b1,b2,b3⟩:=Rw a2 hF1.fb (HR hi1) hok;have hF2:=hF1.rewrite (AX (s.v.next+1)) (Ay (BJ s).v) (by rw[Ds];omega) hT.2;have hll:=(Fr hi1).2.2;obtain⟨c1,c2,c3⟩:=OK b2 hF2.fb Of (AX (s.v.next+1))
 have hF3:=hF2.file Bb (AX (s.v.next+1)) AA hT.2;obtain⟨d1,d2,d3⟩:=Xp c2 hF3.fb Oe Iz (by rw[c3,if_pos rfl]);have hF4:=hF3.ren Bb Bg;have hg: ∀k,AN (Bj s m ps).2 k=if k=Bg then some (AX (s.v.next+1),(AX (s.v.next+1)).length)else if k=Bb then none else if k=AX (s.v.next+1)then some (AQ (Ay (BJ s).v),(AQ (Ay (BJ s).v)).length)else if k=Aa s.v.next then some (AQ ps,(AQ ps).length)else AN m k:=by
  intro k;show AN (Cx (CE (Cd (Cd m (Aa s.v.next) ps).2 (AX (s.v.next+1)) (Ay (BJ s).v)).2 Bb (AX (s.v.next+1))).2 Bb Bg).2 k=_;rw[d3,c3,b3,a3]
  split
  ·rfl
  split
  ·rfl
  ·rfl
 have hU:Up (Bj s m ps).2:=d2;have hF4':FT (A+10) T (Bj s m ps).2:=hF4;have hne:=G7 (s.v.next+1);have hnw:=EB s.v.next;have gw:AN (Bj s m ps).2 (Aa s.v.next)=some (AQ ps,(AQ ps).length):=by rw[hg,if_neg hnw.1,if_neg hnw.2,if_neg (EG _ _),if_pos rfl]
 have gl:AN (Bj s m ps).2 (AX (s.v.next+1))=some (AQ (Ay (BJ s).v),(AQ (Ay (BJ s).v)).length):=by rw[hg,if_neg hne.1,if_neg hne.2,if_pos rfl]
 cases hr with
 |e1 he=>exact absurd a1 he
 |e2 _ he=>exact absurd b1 he
 |e3 _ _ he=>exact absurd c1 he
 |e4 _ _ _ he=>exact absurd d1 he
 |e5 _ _ _ _ _ he=>exact absurd (hU.open (Hs hi)) he
 |e6 _ _ _ _ _ _ he=>exact absurd (hU.open (HR hi1)) he
 |e7 _ _ _ _ _ _ ns hp=>
  have hst:GD s (Bj s m ps).2={BJ s with log:=some ⟨ps.length,Aa s.v.next,false,false⟩,list:=some ⟨(Ay (BJ s).v).length,AX (s.v.next+1),false,false⟩}:=by
   unfold GD NC;rw[Rf hU hps gw,Rf hU hok gl]
  have hnd:ns.Nodup:=hp.nodup_iff.2 hF4'.fb.nd;obtain⟨i1,i2,i3,i4⟩:=QE (GD s (Bj s m ps).2) (s.v.next+1) ns hU hF4' hnd λx hx=>OI.2 (hp.mem_iff.1 hx);have hkeep: ∀k,Ct (GD s (Bj s m ps).2) (s.v.next+1) k=true→AN (DF (GD s (Bj s m ps).2) (s.v.next+1) ns (Bj s m ps).2).2 k=AN (Bj s m ps).2 k:=λk hk=>by rw[i4,if_neg (by simp[hk])]
  have hnl:ns.length≤Nf+7:=by
   rw[hp.length_eq,BM];have l1:=KG m (Aa s.v.next) ps;have l2:=KG (Cr s m ps).2 (AX (s.v.next+1)) (Ay (BJ s).v);have l3:=Kl (DB s m ps).2 Bb (AX (s.v.next+1));have l4:=O2 (DV s m ps).2 Bb Bg;have l1:(Cr s m ps).2.files.length≤m.files.length+2:=l1;have l2:(DB s m ps).2.files.length≤(Cr s m ps).2.files.length+2:=l2;have l3:(DV s m ps).2.files.length≤(DB s m ps).2.files.length+2:=l3;have l4:(Bj s m ps).2.files.length≤(DV s m ps).2.files.length+1:=l4
   omega
  refine⟨i1,⟨hst,i2,?_,?_,?_,λx hx hx1 hx2=>?_,λk hk=>?_⟩,i3.mono AA (AV _)⟩
  ·rw[hkeep (Aa s.v.next) (WC (GD s (Bj s m ps).2) _ h1.1 hi)];exact gw
  ·rw[hkeep _ (WA _ AA hi1)];exact gl
  ·rw[hkeep _ (V9 _ _),hg,if_pos rfl];exact⟨_,rfl⟩
  ·have ht:=E0 x.1;rw[hkeep _ (WB _ _ hx1 hx2 (by
    show(Al x.1 s.tabs).isSome=true;cases hq:Al x.1 s.tabs with
    |some _=>rfl
    |none=>exact absurd (CD hx) (JX.1 hq))),hg,if_neg ht.1,if_neg ht.2,if_neg (Fv _ _),if_neg λe=>FH _ _ e.symm]
  ·rw[i4]at hk;cases hq:Ct (GD s (Bj s m ps).2) (s.v.next+1) k with
   |true=>rfl
   |false=>
    rw[hq]at hk;by_cases hkn:k∈ns
    ·rw[if_pos ⟨hkn,rfl⟩]at hk;cases hk
    ·rw[if_neg (by simp[hkn])]at hk;exact absurd (hp.mem_iff.2 (OI.1 hk)) hkn
end Go.Proofs.YtkgibdhpijdbfaaGreatDoor
