/- Texts of this claim, one behind the other. -/
import Derived.Test.YtkgibdhpijdbfaaGreatDoorZ41
import Derived.Test.YtkgibdhpijdbfaaGreatDoorZ40
import Derived.Test.YtkgibdhpijdbfaaGreatDoorZ30
import Derived.Test.YtkgibdhpijdbfaaGreatDoorZ15
import Derived.Test.YtkgibdhpijdbfaaGreatDoorZ24
set_option linter.unusedVariables false
set_option linter.unusedSimpArgs false
set_option maxHeartbeats 16000000
namespace Go.Proofs.YtkgibdhpijdbfaaGreatDoor
open Go Go.Eng Go.Proofs Go.Srt
theorem Th(m:AJ)(g:BF)(ps:List AE):(appL m g ps).2.2.files.length≤m.files.length+2:=by
 have h1:=Tk m g.name [AQ ps];have h2:=YU (BB m g.name [AQ ps]).2 g.name;show(DG m g.name g.n g.torn g.dead ps).2.2.files.length≤_;unfold DG
 repeat' split
 all_goals first|exact G5 _ _|(exact Au h1 (D5 _))|exact Au h2 (Nat.succ_le_succ h1)
theorem RD: ∀(cs:List (List AF))(m:AJ)(n:Int),(Bh m n cs).2.files.length≤m.files.length+2*cs.length
 |[],m,n=>AW _
 |c::cs,m,n=>by
  have h1:=Ks m (Aw n) (B5 c);have h2:=RD cs (CE m (Aw n) (B5 c)).2 (n+1);unfold Bh;rw[Ah]
  split
  ·exact Au h1 AA
  ·exact Au h2 (Au (Hr h1 _) AA)
theorem wK(s:AL)(m:AJ)(v:VM):(FQ s m v).2.2.2.files.length≤m.files.length+5:=by
 have h1:=KP m (AX v.next) (Ay {v with next:=v.next+1});have h2:=Ks (Cd m (AX v.next) (Ay {v with next:=v.next+1})).2 BW (AX v.next);have h3:=O4 (CE (Cd m (AX v.next) (Ay {v with next:=v.next+1})).2 BW (AX v.next)).2 BW Bf;unfold FQ;simp only
 repeat' split
 all_goals first
  |exact Au h1 (IL AC _)
  |exact Au h2 (Au (Hr h1 2) (IL (by decide:2+2≤5) m.files.length))
  |exact Au h3 (Au (Hr (Au h2 (Hr h1 2)) 1) (IL (by decide:2+2+1≤5) m.files.length))
theorem UU(s:AL)(m:AJ)(x:EM)(mk:List (Int×List AF)):(DX s m x mk).2.2.files.length≤m.files.length+5:=by
 unfold DX;cases BN s.v x with
 |none=>exact G5 _ _
 |some nx=>
  simp only;have h1:=wK s m nx
  split
  ·split<;>exact h1
  ·cases s.list with
   |none=>exact G5 _ _
   |some g=>
    have h2:=Th m g [Al x];simp only
    split<;>exact Au h2 (IL AC _)
theorem UL: ∀(ns:List AE)(m:AJ),(delAll ns m).2.files.length≤m.files.length
 |[],m=>AW _
 |n::ns,m=>by
  unfold delAll
  split
  ·exact Km m n
  ·exact Au (UL ns _) (Km m n)
theorem rE(s:AL)(m:AJ)(mk:List (Int×List AF)):(By s m mk).2.2.files.length≤m.files.length+2*(AR 64 s.mem).length+5:=by
 have h1:=RD (AR 64 s.mem) m s.v.next;unfold By
 split
 ·exact Au (G5 _ (2*(AR 64 s.mem).length+5)) (by rw[Gn];exact AW _)
 ·simp only;have h2:=UU s (Bh m s.v.next (AR 64 s.mem)).2 ⟨Bx 0 (Aq s.v.next (AR 64 s.mem)),[],s.v.next+(AR 64 s.mem).length,s.v.next+(AR 64 s.mem).length+1,s.seq⟩ mk;have h3:=Au h2 (Hr h1 5);have h4:=Km (DX s (Bh m s.v.next (AR 64 s.mem)).2 ⟨Bx 0 (Aq s.v.next (AR 64 s.mem)),[],s.v.next+(AR 64 s.mem).length,s.v.next+(AR 64 s.mem).length+1,s.seq⟩ mk).2.2 (Aa s.v.wal)
  split
  ·exact Au h1 (G5 _ _)
  ·split
   ·exact h3
   ·split
    ·exact h3
    ·exact Au h4 h3
theorem cL(s:AL)(m:AJ)(es:List AF)(mk:List (Int×List AF)):(DC s m es mk).2.2.files.length≤m.files.length+2*(AR 64 es).length+5:=by
 have h1:=RD (AR 64 es) m s.v.next;unfold DC
 split
 ·exact Au (G5 _ (2*(AR 64 es).length+5)) (by rw[Gn];exact AW _)
 ·simp only;have h2:=UU s (Bh m s.v.next (AR 64 es)).2 ⟨Bx 1 (Aq s.v.next (AR 64 es)),s.v.files.map (·.2),s.v.wal,s.v.next+(AR 64 es).length,s.v.seq⟩ mk;have h3:=Au h2 (Hr h1 5);have h4:=UL ((s.v.files.map (·.2)).map Aw) (DX s (Bh m s.v.next (AR 64 es)).2 ⟨Bx 1 (Aq s.v.next (AR 64 es)),s.v.files.map (·.2),s.v.wal,s.v.next+(AR 64 es).length,s.v.seq⟩ mk).2.2
  split
  ·exact Au h1 (G5 _ _)
  ·split
   ·exact h3
   ·exact Au h4 h3
theorem XP{α:Type}{l:List α}(h:l.length≤262144):(AR 64 l).length≤4097:=by
 rw[Jj];omega
structure H5(c:Nat)(m:AJ):Prop where
 ft:FT (c*274877906944) (536870912+c*150000) m
 nf:m.files.length≤c*32768
structure Rn(c e:Nat)(s:AL)(m:AJ)(now:List AO)(lk:Int→Option (List AO)):Prop where
 core:BH e s EW now lk
 off:m.off=false
 dk:Gw e s m c
 bud:DJ (c*274877906944) (536870912+c*150000) (c*2097152) (4200+4*c) c s m
 nf:m.files.length≤c*32768
 c1:c≤7000000
 e1:e≤262144
theorem Rn.down{c e:Nat}{s:AL}{m:AJ}{now:List AO}{lk:Int→Option (List AO)}(h:Rn c e s m now lk):DD s m=false:=by unfold DD;rw[h.core.dead,h.off];rfl
theorem Dk.mono{e e':Nat}{s:AL}{F:C9}{j:Int}{es:List EM}{g:BF}{bs:List (Int×List Ac)}(h:Dk e s F j es g bs)(hl:e≤e'):Dk e' s F j es g bs:={h with rp:=h.rp.mono hl}
theorem Gw.mono{e e':Nat}{s:AL}{m:AJ}{B B':Nat}(h:Gw e s m B)(hl:e≤e')(hB:B≤B'):Gw e' s m B':=by
 obtain⟨j,es,g,bs,h1,h2⟩:=h;exact⟨j,es,g,bs,h1.mono hl,Au h2 hB⟩
theorem Rn.more{c c' e e':Nat}{s:AL}{m:AJ}{now:List AO}{lk:Int→Option (List AO)}(h:Rn c e s m now lk)(hc:c≤c')(he:e≤e')(hc1:c'≤7000000)(he1:e'≤262144):Rn c' e' s m now lk:=
 ⟨h.core.more he,h.off,h.dk.mono he hc,h.bud.mono (Gp _ hc) (IL (Gp _ hc) _) (Gp _ hc) (IL (KF _ hc) _) hc,Au h.nf (Gp _ hc),hc1,he1⟩
structure Dn(c e:Nat)(m:AJ)(S:List AO→Prop):Prop where
 off:m.off=true
 found:GP c e (AN m) S
 fs:H5 c m
theorem BH.wrN{e A T X N Q:Nat}{s:AL}{m:AJ}{now:List AO}{lk:Int→Option (List AO)}(h:BH e s EW now lk)(hb:DJ A T X N Q s m)(he:e≤1048576)(hX:X≤1152921504606846976)(hQ:Q≤1152921504606846976)(hN:N≤2305843009213693952)(hA:A≤2305843009213693952)(hT:536870912≤T∧T+1048576≤1099511627776):Ij A T s m:=by
 have h1:=h.cnt;obtain⟨g,hg,hg2⟩:=hb.list;have h3:=hb.next;have h5:=hb.seq;have h6:=hg2.num;exact⟨h.mem,h.goodN he AA AA,AA,AA,⟨h.seq,AA⟩,⟨g,hg,AA⟩,hb.ft,hA,hT.1,hT.2,h.hts⟩
inductive NV(c e:Nat)(now:List AO)(lk:Int→Option (List AO))(gv:Int):AL→AJ→Prop where
 |run (s:AL) (m:AJ) (h:Rn c e s m now lk) (hg:s.given=gv):NV c e now lk gv s m
 |down (s:AL) (m:AJ) (h:Dn c e m (· =now)):NV c e now lk gv s m
structure H8(c e k z:Nat)(s:AL)(m:AJ)(now:List AO)(lk:Int→Option (List AO)):Prop where
 core:BH e s EW now lk
 off:m.off=false
 dk:Gw e s m (c+1)
 bud:DJ (c*274877906944+2+z*2097152) (536870912+c*150000+16384+z*65544) (c*2097152+z*262146) (4200+4*c+1+z) (c+1) s m
 nf:m.files.length≤c*32768+k
 c1:c+1≤7000000
 e1:e≤262144
theorem H8.run{c e k z:Nat}{s:AL}{m:AJ}{now:List AO}{lk:Int→Option (List AO)}(h:H8 c e k z s m now lk)(hk:k≤32768)(hz:z≤2):Rn (c+1) e s m now lk:=
 ⟨h.core,h.off,h.dk,h.bud.mono AA AA AA AA (AW _),Au h.nf AA,h.c1,h.e1⟩
theorem Vj{c k z:Nat}{m:AJ}(h:FT (c*274877906944+2+z*2097152) (536870912+c*150000+16384+z*65544) m)(hk:m.files.length≤c*32768+k)(h1:k≤32768)(h2:z≤2):H5 (c+1) m:=⟨h.mono AA AA,Au hk AA⟩
inductive If(c e k z:Nat)(s:AL)(now:List AO)(lk:Int→Option (List AO)):Int×AL×AJ→Prop where
 |ok (s':AL) (m':AJ) (h:H8 c e (k+8199) (z+1) s' m' now lk) (hm:s'.mem=[]) (hg:s'.given=s.given):If c e k z s now lk (0,s',m')
 |space (m':AJ) (h:H8 c e (k+8199) (z+1) s m' now lk):If c e k z s now lk (6,s,m')
 |down (s':AL) (m':AJ) (h:Dn (c+1) e m' (· =now)) (hl:s'.v.files.length≤e):If c e k z s now lk (7,s',m')
theorem KI{c e k z:Nat}{s:AL}{m:AJ}{now:List AO}{lk:Int→Option (List AO)}(h:H8 c e k z s m now lk)(hk:k+8199≤32768)(hz:z+1≤2){mk:List (Int×List AF)}(hp:mk.Perm (Aq s.v.next (AR 64 s.mem))):If c e k z s now lk (By s m mk):=by
 have he:=h.e1;have hc:=h.c1;have hcn:=h.core.cnt;have hpf:=XP (l:=s.mem) AA;have hn:=rE s m mk;have hnf:=h.nf;have hg:=rF (c:=c+1) h.core h.off h.dk h.bud AA ⟨AA,AA⟩ AA AA AA AA (AW _) (AW _) hp;generalize By s m mk=q at hg hn;have hn2:q.2.2.files.length≤c*32768+(k+8199):=Au hn AA;cases hg with
 |ok s' m' g1 g2 g3 g4 g5 g6=>exact .ok s' m' ⟨g2,g1,g3,g4.mono AA AA AA AA (AW _),hn2,h.c1,h.e1⟩ g5 g6
 |space m' g1 g2 g3=>exact .space m' ⟨h.core,g1,g2,g3.mono AA AA AA AA (AW _),hn2,h.c1,h.e1⟩
 |down s' m' g1 g2 g3 g4=>exact .down s' m' ⟨g1,g2,Vj (z:=z+1) (g3.mono AA AA) hn2 hk hz⟩ g4
theorem Wc{c e k z:Nat}{s:AL}{m:AJ}{now:List AO}{lk:Int→Option (List AO)}(h:H8 c e k z s m now lk)(hmm:s.mem=[])(hk:k+8199≤32768)(hz:z+1≤2){r:List AF}{seen:List Int}(h1:r.Perm (Dy s))(h2:Az r)(h3:seen.Perm (Hz s)){mk:List (Int×List AF)}(hp:mk.Perm (Aq s.v.next (AR 64 (BD seen r)))):If c e k z s now lk (DC s m (BD seen r) mk):=by
 have he:=h.e1;have hc:=h.c1;have hcn:=h.core.cnt;have hl1:=(MA seen r).length_le;have hl2:=h1.length_eq;have hpf:=XP (l:=BD seen r) AA;have hn:=cL s m (BD seen r) mk;have hnf:=h.nf;have hg:=cM (c:=c+1) h.core hmm h.off h.dk h.bud AA ⟨AA,AA⟩ AA AA AA AA (AW _) (AW _) h1 h2 h3 hp;generalize DC s m (BD seen r) mk=q at hg hn;have hn2:q.2.2.files.length≤c*32768+(k+8199):=Au hn AA;cases hg with
 |ok s' m' g1 g2 g3 g4 g5 g6=>exact .ok s' m' ⟨g2,g1,g3,g4.mono AA AA AA AA (AW _),hn2,h.c1,h.e1⟩ g5 g6
 |space m' g1 g2 g3=>exact .space m' ⟨h.core,g1,g2,g3.mono AA AA AA AA (AW _),hn2,h.c1,h.e1⟩
 |down s' m' g1 g2 g3 g4=>exact .down s' m' ⟨g1,g2,Vj (z:=z+1) (g3.mono AA AA) hn2 hk hz⟩ g4
theorem If.after{c e k z:Nat}{s:AL}{now:List AO}{lk:Int→Option (List AO)}{q:Int×AL×AJ}(h:If c e k z s now lk q)(hk:k+8199≤32768)(hz:z+1≤2):NV (c+1) e now lk s.given q.2.1 q.2.2:=by
 cases h with
 |ok s' m' h hm hg=>exact .run s' m' (h.run hk hz) hg
 |space m' h=>exact .run s m' (h.run hk hz) rfl
 |down s' m' h _=>exact .down s' m' h
theorem tP{c e:Nat}{s:AL}{m:AJ}{now:List AO}{lk:Int→Option (List AO)}(h:H8 c e 2 0 s m now lk){s2:AL}{m2:AJ}(hf:H4 s m s2 m2):NV (c+1) e now lk s.given s2 m2:=by
 cases hf with
 |no _=>exact .run s m (h.run AA AA) rfl
 |fl mk hp _=>exact(KI h AA AA hp).after AA AA
 |co mk hp _ s1 m1 h0 r seen mk2 r1 r2 r3 r4=>
  have h1:=KI h AA AA hp;rw[h0]at h1;cases h1 with
  |ok _ _ h2 hm hg=>
   have h3:=(Wc h2 hm AA AA r1 r2 r3 r4).after AA AA;rw[hg]at h3;exact h3
theorem tQ{c e k z:Nat}{s:AL}{m:AJ}{now:List AO}{lk:Int→Option (List AO)}(h:H8 c e k z s m now lk)(hk:k+8199≤32768)(hz:z+1≤2):NZ s m:=by
 have he:=h.e1;have hc:=h.c1;refine⟨_,_,h.core.wrN h.bud AA AA AA AA AA ⟨AA,AA⟩,λmk hp=>?_⟩;have h1:=KI h hk hz hp;generalize By s m mk=q at h1;cases h1 with
 |ok s' m' h2 hm hg=>
  have hcn:=h2.core.cnt;exact⟨by show s'.v.files.length≤_;omega,λ_=>⟨_,_,h2.core.wrN h2.bud AA AA AA AA AA ⟨AA,AA⟩,h2.core.co AA (by have:=h2.bud.sn;omega)⟩⟩
 |space m' h2=>
  have hcn:=h2.core.cnt;exact⟨by show s.v.files.length≤_;omega,λh6=>by cases h6⟩
 |down s' m' h2 hl=>exact⟨by show s'.v.files.length≤_;omega,λh6=>by cases h6⟩
theorem vW{s:AL}{ops:List Ac}(h1:0≤s.seq∧s.seq+1≤4611686018427387904)(h2:Av ops≤4096):Bb [B0 (s.seq+1) ops]=true∧(AQ [B0 (s.seq+1) ops]).length≤16384:=by
 have hpl:=ND (s.seq+1) ops ⟨AA,AA⟩ AA;refine⟨by unfold Bb;simp;omega,by rw[Dr];simp[BG];omega⟩
inductive Nr(c e:Nat)(s:AL)(ops:List Ac)(now:List AO)(lk:Int→Option (List AO)):Int×BF×AJ→Prop where
 |ok (g':BF) (m1:AJ) (h:H8 c (e+ops.length) 2 0 (Gu s g' ops) m1 (Ch now ops) lk):Nr c e s ops now lk (0,g',m1)
 |space (g':BF) (m1:AJ) (hg:s.log=some g') (h:Rn (c+1) e s m1 now lk):Nr c e s ops now lk (6,g',m1)
 |down (g':BF) (m1:AJ) (h:Dn (c+1) (e+ops.length) m1 λr=>r=now∨r=Ch now ops):Nr c e s ops now lk (7,g',m1)
set_option maxRecDepth 4000 in
theorem SC{c e:Nat}{s:AL}{m:AJ}{now:List AO}{lk:Int→Option (List AO)}(h:Rn c e s m now lk){ops:List Ac}(hsz:Av ops≤4096)(he:e+ops.length≤262144)(hc:c+1≤7000000){g:BF}(hg:s.log=some g):Nr c e s ops now lk (appL m g [B0 (s.seq+1) ops]):=by
 obtain⟨g0,hg0,hgl⟩:=h.bud.log;rw[hg]at hg0;cases hg0;have hs0:=h.core.seq;have hs1:=h.bud.seq;have hc1:=h.c1;have he1:=h.e1;have hnm:=h.core.wname g hg;have hwl:=h.core.wal;have hw0:=h.core.good.nn;have hnx:=h.bud.next;have hnf:=h.nf;obtain⟨hok,hsl⟩:=vW (s:=s) (ops:=ops) ⟨hs0,AA⟩ hsz;obtain⟨a1,a2,a3,a4,a5⟩:=Ti h.off hgl hok AB;have hft:=h.bud.ft.appL g [B0 (s.seq+1) ops] AA;have hcn:=Th m g [B0 (s.seq+1) ops]
 obtain⟨j,es,gl,bs,hD,hbl⟩:=h.dk;have hlog:=hD.log;have hg0:(AN m g.name).getD ([],0)=(AQ (Ab bs),(AQ (Ab bs)).length):=by rw[hnm];exact hlog
 rw[hg0]at a4 a5;obtain⟨gw,hgw,hgw2⟩:=h.bud.list;have hcore:=λg'(hgn:g'.name=Aa s.v.wal)=>h.core.take (m1:=EW) ops g' PO hgn (OP _) hsz AA AA;have hne1: ∀F:C9,(∀k,k≠Aa s.v.wal→F k=AN m k)→F (Aa s.v.wal)=AN m (Aa s.v.wal)→F=AN m:=λF h1 h2=>by
  funext k
  by_cases hk:k=Aa s.v.wal
  ·rw[hk];exact h2
  ·exact h1 k hk
 have hc1':Cx (c+1) (e+ops.length) s.v s.tabs bs now:=(hD.cont h.core AA AA AA).mono (AW _) AA;have hctk: ∀(F:C9),(∀k,k≠Aa s.v.wal→F k=AN m k)→F (Aa s.v.wal)=some (AQ (Ab bs)++AQ [B0 (s.seq+1) ops],(AQ (Ab bs)++AQ [B0 (s.seq+1) ops]).length)→Dk (e+ops.length) (Gu s g ops) F j es gl (bs++[(s.seq+1,ops)]):=λF h1 h2=>hD.took AA ⟨hs0,AA⟩ hsz hwl hw0.1 AA hok h1 h2;have hc2':Cx (c+1) (e+ops.length) s.v s.tabs (bs++[(s.seq+1,ops)]) (Ch now ops):=by
  have hF:=hctk (λk=>if k=Aa s.v.wal then some (AQ (Ab bs)++AQ [B0 (s.seq+1) ops],(AQ (Ab bs)++AQ [B0 (s.seq+1) ops]).length)else AN m k) (λk hk=>by simp only[if_neg hk]) (by simp only[if_true]);exact hF.cont (hcore g hnm) (by show s.v.next≤_;omega) (by show s.seq+1≤_;omega) (by rw[AP,D4];omega)
 generalize appL m g [B0 (s.seq+1) ops]=q at a1 a2 a3 a4 a5 hft hcn⊢;obtain⟨e1,g1,m1⟩:=q;simp only at a1 a2 a3 a4 a5 hft hcn⊢;rcases a2 with rfl|rfl|rfl
 ·obtain⟨rfl,a6⟩:=a4 rfl;rw[hnm]at a1 a6;have f1:FT (c*274877906944+2+0*2097152) (536870912+c*150000+16384+0*65544) m1:=hft.mono (AW _) (IL hsl _);have f2:m1.files.length≤c*32768+2:=Au hcn (Hr hnf 2);have f3:s.v.next≤((c*2097152+0*262146:Nat):Int):=by rw[Nat.zero_mul,Nat.add_zero];exact h.bud.next
  have f4:s.seq+1≤((c+1:Nat):Int):=AA;have f5:s.given≤((c+1:Nat):Int):=by have:=h.bud.given;omega
  have f6:s.seqs.length≤c+1:=by have:=h.bud.sn;omega
  have f7:GL {g with n:=g.n+[B0 (s.seq+1) ops].length} (4200+4*c+1+0):=⟨hgl.torn,hgl.dead,hgl.name,Hr hgl.num 1⟩;refine .ok _ m1 ⟨hcore _ hnm,a1.up' AC,⟨j,es,gl,bs++[(s.seq+1,ops)],?_,by rw[AP,D4];omega⟩,⟨f1,f3,f4,f5,f6,⟨gw,hgw,hgw2.mono AA⟩,⟨_,rfl,f7⟩⟩,f2,hc,he⟩;have:=hctk (AN m1) (λk hk=>a1.same k hk) a6;exact{this with}
 ·obtain⟨rfl,a6⟩:=a3 rfl;rw[hnm]at a1 a6;refine .space _ m1 hg ⟨h.core,a1.up' AC,?_,{(h.bud.mono (A':=(c+1)*274877906944) (T':=536870912+(c+1)*150000) (X':=(c+1)*2097152) (N':=4200+4*(c+1)) (Q':=c+1) AA AA AA AA AA)with ft:=hft.mono AA AA},AA,hc,he1⟩;have:=hne1 (AN m1) (λk hk=>a1.same k hk) a6;exact⟨j,es,gl,bs,by rw[this];exact hD,AA⟩
 ·rw[hnm]at a1 a5;refine .down _ m1 ⟨a1.down.2 rfl,?_,⟨hft.mono AA AA,AA⟩⟩;have hDm:=hD.mono (e':=e+ops.length) AA;rcases a5 with a5|a5|a5
  ·have:=hne1 (AN m1) (λk hk=>a1.same k hk) a5;rw[this];exact(Fd.rec (.inr ⟨j,hDm.fdl⟩) hc1').mono (AW _) (AW _) λ_ h=> .inl h
  ·exact hDm.recLog (b:=(s.seq+1,ops)) hc1' hc2' hok (λk hk=>a1.same k hk) a5 (AW _)
  ·exact hDm.recLog (b:=(s.seq+1,ops)) hc1' hc2' hok (λk hk=>a1.same k hk) a5 (by rw[AP];omega)
theorem N7{e:Nat}{s:AL}{m m0:AJ}{now:List AO}{lk:Int→Option (List AO)}(h:BH e s m0 now lk)(ho:m.off=false){z:Int}(hz:z≠7):Dl s m z=(z,s):=by
 unfold Dl;rw[h.dead,ho];rw[if_neg (by simp[hz])];have:=h.dead;cases s;simp only at this;subst this
 rfl
theorem QM{s:AL}{m:AJ}(ho:m.off=true)(z:Int):Dl s m z=(7,{s with dead:=true}):=by
 unfold Dl;rw[ho,if_pos AB]
inductive MT(c e:Nat)(ops:List Ac)(now:List AO)(lk:Int→Option (List AO))(gv:Int):Int→AL→AJ→Prop where
 |ok (s:AL) (m:AJ) (hl:Av ops≤4096) (h:Rn (c+1) (e+ops.length) s m (Ch now ops) lk) (hg:s.given=gv):MT c e ops now lk gv 0 s m
 |long (s:AL) (m:AJ) (hl:4096<Av ops) (h:Rn c e s m now lk) (hg:s.given=gv):MT c e ops now lk gv 2 s m
 |space (s:AL) (m:AJ) (h:Rn (c+1) e s m now lk) (hg:s.given=gv):MT c e ops now lk gv 6 s m
 |down (s:AL) (m:AJ) (hd:s.dead=true) (h:Dn (c+1) (e+ops.length) m λr=>r=now∨r=Ch now ops):MT c e ops now lk gv 7 s m
theorem Dn.mono{c e:Nat}{m:AJ}{S S':List AO→Prop}(h:Dn c e m S)(hs: ∀r,S r→S' r):Dn c e m S':=⟨h.off,h.found.mono (AW _) (AW _) hs,h.fs⟩
theorem zJ{c e:Nat}{s:AL}{m:AJ}{now:List AO}{lk:Int→Option (List AO)}(h:Rn c e s m now lk){ops:List Ac}(he:e+ops.length≤262144)(hc:c+1≤7000000){r:Int}{s':AL}{m':AJ}(hw:IB s m ops r s' m'):MT c e ops now lk s.given r s' m':=by
 cases hw with
 |down hd=>rw[h.down]at hd;cases hd
 |long hd hl=>exact .long s m hl h rfl
 |none hd hn=>
  subst hn;exact .ok s m (Ag _) (h.more AA AA hc AA) rfl
 |bad hd h1 h2 g g' m1 e1 hg ha hne=>
  have ht:=SC h h1 he hc hg;rw[ha]at ht;cases ht with
  |ok=>exact absurd rfl hne
  |space _ _ hg' hr=>
   have e:({s with log:=some g'}:AL)=s:=by cases s;simp only at hg';rw[hg']
   rw[e,N7 h.core hr.off AC];exact .space s _ hr rfl
  |down _ _ hr=>
   rw[QM hr.off];exact .down _ _ rfl hr
 |ok hd h1 h2 g g' m1 hg ha s2 m2 hf=>
  have ht:=SC h h1 he hc hg;rw[ha]at ht;cases ht with
  |ok _ _ hm=>
   have h3:=tP hm hf;cases h3 with
   |run h4 h5=>
    rw[N7 h4.core h4.off AC];exact .ok _ _ h1 h4 h5
   |down h4=>
    rw[QM h4.off];exact .down _ _ rfl (h4.mono λ_ h=>Or.inr h)
theorem zI{c e:Nat}{s:AL}{m:AJ}{now:List AO}{lk:Int→Option (List AO)}(h:Rn c e s m now lk){ops:List Ac}(he:e+ops.length≤262144)(hc:c+1≤7000000)(hsz:Av ops≤4096){g g':BF}{m1:AJ}(hg:s.log=some g)(ha:appL m g [B0 (s.seq+1) ops]=(0,g',m1)):NZ (Gu s g' ops) m1:=by
 have ht:=SC h hsz he hc hg;rw[ha]at ht;cases ht with
 |ok _ _ hm=>exact tQ hm AA AA
theorem Rn.md{c e:Nat}{s:AL}{m:AJ}{now:List AO}{lk:Int→Option (List AO)}(h:Rn c e s m now lk)(hc:c+1≤7000000):H8 c e 2 0 s m now lk:=
 ⟨h.core,h.off,h.dk.mono (AW _) (D5 _),h.bud.mono AA AA AA AA (D5 _),Au h.nf (G5 _ _),hc,h.e1⟩
inductive Ih(c e:Nat)(now:List AO)(lk:Int→Option (List AO))(gv:Int):Int→AL→AJ→Prop where
 |run (z:Int) (hz:z=0∨z=6) (s:AL) (m:AJ) (h:Rn (c+1) e s m now lk) (hg:s.given=gv):Ih c e now lk gv z s m
 |down (s:AL) (m:AJ) (hd:s.dead=true) (h:Dn (c+1) e m (· =now)):Ih c e now lk gv 7 s m
theorem If.done{c e k z:Nat}{s:AL}{now:List AO}{lk:Int→Option (List AO)}{q:Int×AL×AJ}(h:If c e k z s now lk q)(hk:k+8199≤32768)(hz:z+1≤2):Ih c e now lk s.given (Dl q.2.1 q.2.2 q.1).1 (Dl q.2.1 q.2.2 q.1).2 q.2.2:=by
 cases h with
 |ok s' m' h hm hg=>
  have h1:=h.run hk hz;show Ih c e now lk s.given (Dl s' m' 0).1 (Dl s' m' 0).2 m';rw[N7 h1.core h1.off AC];exact .run 0 (.inl rfl) s' m' h1 hg
 |space m' h=>
  have h1:=h.run hk hz;show Ih c e now lk s.given (Dl s m' 6).1 (Dl s m' 6).2 m';rw[N7 h1.core h1.off AC];exact .run 6 (.inr rfl) s m' h1 rfl
 |down s' m' h _=>
  simp only;rw[QM h.off];exact .down _ m' rfl h
theorem rC{c e:Nat}{s:AL}{m:AJ}{now:List AO}{lk:Int→Option (List AO)}(h:Rn c e s m now lk)(hc:c+1≤7000000){r:Int}{s':AL}{m':AJ}(hw:MH s m r s' m'):Ih c e now lk s.given r s' m':=by
 cases hw with
 |down hd=>rw[h.down]at hd;cases hd
 |up hd mk hp e1 s1 m1 h0=>
  have h1:=(KI (h.md hc) AA AA hp).done AA AA;rw[h0]at h1;exact h1
theorem cK{c e:Nat}{s:AL}{m:AJ}{now:List AO}{lk:Int→Option (List AO)}(h:Rn c e s m now lk)(hc:c+1≤7000000){r:Int}{s':AL}{m':AJ}(hw:Jp s m r s' m'):Ih c e now lk s.given r s' m':=by
 cases hw with
 |down hd=>rw[h.down]at hd;cases hd
 |bad hd mk hp e1 s1 m1 h0 hne=>
  have h1:=(KI (h.md hc) AA AA hp).done AA AA;rw[h0]at h1;exact h1
 |up hd mk hp s1 m1 h0 r seen mk2 r1 r2 r3 r4 e2 s2 m2 h5=>
  have h1:=KI (h.md hc) AA AA hp;rw[h0]at h1;cases h1 with
  |ok _ _ h2 hm hg=>
   have h3:=(Wc h2 hm AA AA r1 r2 r3 r4).done AA AA;rw[h5,hg]at h3;exact h3
def Cg(sb f c e:Nat)(gv:Int)(now:List AO)(lk:CT)(L:AH):Prop:=∃s m,AV sb f s m L∧Rn c e s m now lk∧s.given=gv
def Nm(sb f c e:Nat)(S:List AO→Prop)(L:AH):Prop:=∃s m,AV sb f s m L∧s.dead=true∧Dn c e m S
theorem Cg.more{sb f c c' e e':Nat}{gv:Int}{now:List AO}{lk:CT}{L:AH}(h:Cg sb f c e gv now lk L)(hc:c≤c')(he:e≤e')(hc1:c'≤7000000)(he1:e'≤262144):Cg sb f c' e' gv now lk L:=by
 obtain⟨s,m,h1,h2,h3⟩:=h;exact⟨s,m,h1,h2.more hc he hc1 he1,h3⟩
theorem BH.rdN{e A T X N Q:Nat}{s:AL}{m:AJ}{now:List AO}{lk:Int→Option (List AO)}(h:BH e s EW now lk)(hb:DJ A T X N Q s m)(he:e≤1048576)(hX:X≤1152921504606846976):H9 s:=by
 have h1:=h.cnt;have h2:=h.num;refine⟨h.mem.rise,h.mem.seqs,λx hx=>(h.tab x hx).1,h.one,AA,AA,λx hx=>?_⟩;have h3:=h.keys.2 x.1 (CC hx);have h4:=hb.next;omega
theorem Rn.rd{c e:Nat}{s:AL}{m:AJ}{now:List AO}{lk:CT}(h:Rn c e s m now lk):H9 s:=h.core.rdN h.bud (by have:=h.e1;omega) (by have:=h.c1;omega)
theorem Rn.tabRise{c e:Nat}{s:AL}{m:AJ}{now:List AO}{lk:CT}(h:Rn c e s m now lk): ∀x∈s.tabs,Az x.2:=λx hx=>(h.core.tab x hx).1.rise
inductive MI(sb f c e:Nat)(gv:Int)(ops:List Ac)(now:List AO)(lk:CT)(w:World)(T0:List Nat):Value→World→Prop where
 |ok (L':AH) (w':World) (hl:Av ops≤4096) (h:Cg sb f (c+1) (e+ops.length) gv (Ch now ops) lk L') (hS:St w T0 L' w'):MI sb f c e gv ops now lk w T0 (.int .i64 0) w'
 |long (L':AH) (w':World) (hl:4096<Av ops) (h:Cg sb f c e gv now lk L') (hS:St w T0 L' w'):MI sb f c e gv ops now lk w T0 (.int .i64 2) w'
 |space (L':AH) (w':World) (h:Cg sb f (c+1) e gv now lk L') (hS:St w T0 L' w'):MI sb f c e gv ops now lk w T0 (.int .i64 6) w'
 |down (L':AH) (w':World) (h:Nm sb f (c+1) (e+ops.length) (λr=>r=now∨r=Ch now ops) L') (hS:St w T0 L' w'):MI sb f c e gv ops now lk w T0 (.int .i64 7) w'
theorem ZO{w:World}{sb f c e:Nat}{gv:Int}{now:List AO}{lk:CT}{L:AH}(h:Cg sb f c e gv now lk L)(hh:Holds L w)(hG:Bw w (keys L)){a:Option Addr}{cp:Nat}{ops:List Ac}(ha:Arr w (keys L) a (ops.flatMap A8))(hl:Av ops≤1099511627776)(he:e+ops.length≤262144)(hc:c+1≤7000000):
  Cl Tryz.prog Qf [ptr sb,.slice a ops.length cp] w λv w'=>MI sb f c e gv ops now lk w (keys L) v w':=by
 obtain⟨s,m,hO,hI,rfl⟩:=h;obtain⟨g,hg,hgl⟩:=hI.bud.log;have hcnt:=hI.core.cnt;have hsq:=hI.bud.seq;have had:=hI.core.adds;have hgn:=hgl.num;have hsz:An s.mem≤549755813888:=by
  have h1:=PG 4096 s.mem hI.core.mem.sz;have h2:4096*s.mem.length≤4096*262144:=KF _ AA;omega
 refine(TD hO hh hG ha hl hI.bud.ft AA AA hg AA hI.core.mem.rise hsz AA AA ⟨hI.core.seq,AA⟩ ?_).mono ?_
 ·intro g' m1 h1 h2 h3 h4;exact zI hI he hc h1 hg h4
 ·rintro v w'⟨r,s',m',L',hw,rfl,hO',hS⟩;have h1:=zJ hI he hc hw;cases h1 with
  |ok _ _ hl h hg=>exact .ok L' w' hl ⟨_,_,hO',h,hg⟩ hS
  |long _ _ hl h hg=>exact .long L' w' hl ⟨_,_,hO',h,hg⟩ hS
  |space _ _ h hg=>exact .space L' w' ⟨_,_,hO',h,hg⟩ hS
  |down _ _ hd h=>exact .down L' w' ⟨_,_,hO',hd,h⟩ hS
theorem ZK{w:World}{sb f c e:Nat}{gv:Int}{now:List AO}{lk:CT}{L:AH}(h:Cg sb f c e gv now lk L)(hh:Holds L w)(k:AE)(hk:k.length≤1099511627776):
  Cl Tryz.prog U5 [ptr sb,AG k] w λv w'=>v= .tuple ⟨[AG ((FP now k).getD []),.bool (FP now k).isSome,.int .i64 0]⟩∧St w (keys L) L w':=by
 obtain⟨s,m,hO,hI,rfl⟩:=h;refine(ZR hO hh k hk hI.rd).mono ?_;rintro v w'(⟨hd, -⟩|⟨-,b,hb,rfl,hS⟩)
 ·rw[hI.down]at hd;cases hd
 ·obtain⟨h1,h2⟩:=Qv hI.core.mem.rise hI.tabRise hI.core.one hI.core.fine hb hI.core.view;rw[h1,h2];exact⟨rfl,hS⟩
theorem Su{w:World}{sb f c e:Nat}{gv:Int}{now:List AO}{lk:CT}{L:AH}(h:Cg sb f c e gv now lk L)(hh:Holds L w)(k to:AE):
  Cl Tryz.prog Qd [ptr sb,AG k,AG to] w λv w'=>∃a cp Lv,v= .tuple ⟨[.slice a ((now.filter (Ef k to)).map Dh).length cp,.int .i64 0]⟩∧AT Bs 3 a ((now.filter (Ef k to)).map Dh).length cp (((now.filter (Ef k to)).map Dh).flatMap A8) Lv∧St w (keys L) (Lv++L) w':=by
 obtain⟨s,m,hO,hI,rfl⟩:=h;refine(TE hO hh k to hI.rd).mono ?_;rintro v w'(⟨hd, -⟩|⟨-,ops,hs,a,cp,Lv,rfl,hv,hS⟩)
 ·rw[hI.down]at hd;cases hd
 ·obtain rfl:=Rz hs hI.core.view;exact⟨a,cp,Lv,rfl,hv,hS⟩
theorem Tp{c e:Nat}{s:AL}{m:AJ}{now:List AO}{lk:CT}(h:Rn c e s m now lk)(n:Int):(DW s m n).2=E4 lk n∧(IC s m=s)∧((DW s m n).2=0→ ∃rs,lk n=some rs∧Be (BS s) (DW s m n).1 rs):=by
 have hd:=h.down;have hl:=h.core.looks n;unfold E4;rw[←RJ h.core n];unfold DD at hd;refine⟨?_,Nx h.down,?_⟩
 ·unfold DW;rw[hd];cases Am n s.seqs<;>rfl
 ·unfold DW;rw[hd];cases hk:Am n s.seqs with
  |none=>intro h0;cases h0
  |some q=>rw[hk]at hl;intro _;exact hl
theorem ZL{w:World}{sb f c e:Nat}{gv:Int}{now:List AO}{lk:CT}{L:AH}(h:Cg sb f c e gv now lk L)(hh:Holds L w)(n:Int)(k:AE)(hk:k.length≤1099511627776):
  Cl Tryz.prog Qc [ptr sb,.int .i64 n,AG k] w λv w'=>v= .tuple ⟨[AG ((FP ((lk n).getD []) k).getD []),.bool (FP ((lk n).getD []) k).isSome,.int .i64 (E4 lk n)]⟩∧ ∃L',Cg sb f c e gv now lk L'∧St w (keys L) L' w':=by
 obtain⟨s,m,hO,hI,rfl⟩:=h;obtain⟨h1,h2,h3⟩:=Tp hI n;refine(Sv hO hh n k hk hI.rd).mono ?_;rintro v w'(⟨hd,rfl,L',hO',hS⟩|⟨hd,b,hb,rfl,L',hO',hS⟩)
 ·rw[h2]at hO';rw[h1]at hd⊢;have hn:lk n=none:=by
   unfold E4 at hd;cases hl:lk n with
   |none=>rfl
   |some rs=>rw[hl]at hd;exact absurd rfl hd
  rw[hn];exact⟨rfl,L',⟨s,m,hO',hI,rfl⟩,hS⟩
 ·obtain⟨rs,h4,h5⟩:=h3 hd;obtain⟨h6,h7⟩:=Qv hI.core.mem.rise hI.tabRise hI.core.one hI.core.fine hb h5;rw[←h1,hd,h6,h7,h4];exact⟨rfl,L',⟨s,m,hO',hI,rfl⟩,hS⟩
theorem ZM{w:World}{sb f c e:Nat}{gv:Int}{now:List AO}{lk:CT}{L:AH}(h:Cg sb f c e gv now lk L)(hh:Holds L w)(n:Int)(k to:AE):
  Cl Tryz.prog U6 [ptr sb,.int .i64 n,AG k,AG to] w λv w'=>∃a cp Lv L',v= .tuple ⟨[.slice a ((((lk n).getD []).filter (Ef k to)).map Dh).length cp,.int .i64 (E4 lk n)]⟩∧AT Bs 3 a ((((lk n).getD []).filter (Ef k to)).map Dh).length cp (((((lk n).getD []).filter (Ef k to)).map Dh).flatMap A8) Lv∧Cg sb f c e gv now lk L'∧St w (keys L) (Lv++L') w':=by
 obtain⟨s,m,hO,hI,rfl⟩:=h;obtain⟨h1,h2,h3⟩:=Tp hI n;refine(Z8 hO hh n k to hI.rd).mono ?_;rintro v w'(⟨hd,rfl,L',hO',hS⟩|⟨hd,ops,hs,a,cp,Lv,rfl,hv,L',hO',hS⟩)
 ·rw[h2]at hO';rw[h1]at hd⊢;have hn:lk n=none:=by
   unfold E4 at hd;cases hl:lk n with
   |none=>rfl
   |some rs=>rw[hl]at hd;exact absurd rfl hd
  rw[hn];exact⟨none,0,[],L',rfl,AT.nil,⟨s,m,hO',hI,rfl⟩,hS⟩
 ·obtain⟨rs,h4,h5⟩:=h3 hd;obtain rfl:=Rz hs h5;rw[←h1,hd,h4];exact⟨a,cp,Lv,L',rfl,hv,⟨s,m,hO',hI,rfl⟩,hS⟩
theorem Gw.looks{e B:Nat}{s:AL}{m:AJ}(h:Gw e s m B)(g:Int)(q:List (Int×Int)):Gw e {s with given:=g,seqs:=q} m B:=by
 obtain⟨j,es,gl,bs,hD,hl⟩:=h;exact⟨j,es,gl,bs,{hD with},hl⟩
theorem xL{c e:Nat}{s:AL}{m:AJ}{now:List AO}{lk:CT}(h:Rn c e s m now lk)(hc:c+1≤7000000):Rn (c+1) e (PC s) m now (λn=>if n=s.given+1 then some now else lk n):=by
 have hb:=h.bud.mono (A':=(c+1)*274877906944) (T':=536870912+(c+1)*150000) (X':=(c+1)*2097152) (N':=4200+4*(c+1)) (Q':=c+1) AA AA AA AA AA;have hg:=h.core.given;have hgb:=h.bud.given;have hsb:=h.bud.sn;have hl:=Je (s.given+1) s.seq s.seqs;refine⟨{h.core with given:=?_,sqn:=?_,sqnd:=Mv h.core.sqnd,looks:=?_},h.off,(h.dk.mono (AW _) (D5 _)).looks _ _,⟨hb.ft,hb.next,hb.seq,?_,?_,hb.list,hb.log⟩,Au h.nf AA,hc,h.e1⟩
 ·show 0≤s.given+1;omega
 ·intro x hx;show 1≤x.1∧x.1≤s.given+1∧x.2≤s.seq;rcases IN hx with rfl|hx
  ·simp only;omega
  ·have:=h.core.sqn x hx;omega
 ·intro n;show match Am n (BV (s.given+1) s.seq s.seqs)with
   |some q=>∃rs,(if n=s.given+1 then some now else lk n)=some rs∧Be (BS s) q rs
   |none=>(if n=s.given+1 then some now else lk n)=none
  rw[G6];by_cases hn:n=s.given+1
  ·rw[if_pos hn,if_pos hn];exact⟨now,rfl,h.core.view⟩
  ·rw[if_neg hn,if_neg hn];exact h.core.looks n
 ·show s.given+1≤_;omega
 ·show(BV (s.given+1) s.seq s.seqs).length≤_;omega
theorem ZN{w:World}{sb f c e:Nat}{gv:Int}{now:List AO}{lk:CT}{L:AH}(h:Cg sb f c e gv now lk L)(hh:Holds L w)(hc:c+1≤7000000):
  Cl Tryz.prog Qe [ptr sb] w λv w'=>v= .int .i64 (gv+1)∧ ∃L',Cg sb f (c+1) e (gv+1) now (λn=>if n=gv+1 then some now else lk n) L'∧St w (keys L) L' w':=by
 obtain⟨s,m,hO,hI,rfl⟩:=h;have hg:=hI.bud.given;refine(TN hO hh hI.core.given AA).mono ?_;rintro v w'⟨rfl,L',hO',hS⟩;exact⟨rfl,L',⟨_,m,hO',xL hI hc,rfl⟩,hS⟩
theorem rJ{c e:Nat}{s:AL}{m:AJ}{now:List AO}{lk:CT}(h:Rn c e s m now lk)(n:Int):(J3 s n).1=(if(lk n).isSome then 0 else 3)∧Rn c e (J3 s n).2 m now (λk=>if k=n then none else lk k)∧(J3 s n).2.given=s.given:=by
 have hls:=RJ h.core n;unfold J3;rw[hls];cases hk:(lk n).isSome with
 |false=>
  have hn:lk n=none:=by simpa using hk
  have he:(λk=>if k=n then none else lk k)=lk:=by
   funext k
   by_cases h1:k=n
   ·rw[if_pos h1,h1,hn]
   ·rw[if_neg h1]
  rw[he];exact⟨rfl,h,rfl⟩
 |true=>
  have hsub:=GY n s.seqs;refine⟨rfl,⟨{h.core with sqn:=λx hx=>h.core.sqn x (hsub.mem hx),sqnd:=OZ h.core.sqnd,looks:=?_},h.off,h.dk.looks _ _,⟨h.bud.ft,h.bud.next,h.bud.seq,h.bud.given,?_,h.bud.list,h.bud.log⟩,h.nf,h.c1,h.e1⟩,rfl⟩
  ·intro k;show match Am k (Cn n s.seqs)with
    |some q=>∃rs,(if k=n then none else lk k)=some rs∧Be (BS s) q rs
    |none=>(if k=n then none else lk k)=none
   rw[KG _ _ h.core.sqnd];by_cases hkn:k=n
   ·rw[if_pos hkn,if_pos hkn]
   ·rw[if_neg hkn,if_neg hkn];exact h.core.looks k
  ·have:=h.bud.sn;have:=hsub.length_le;show(Cn n s.seqs).length≤_;omega
theorem ZJ{w:World}{sb f c e:Nat}{gv:Int}{now:List AO}{lk:CT}{L:AH}(h:Cg sb f c e gv now lk L)(hh:Holds L w)(n:Int):
  Cl Tryz.prog VC [ptr sb,.int .i64 n] w λv w'=>v= .int .i64 (E4 lk n)∧ ∃L',Cg sb f c e gv now (λk=>if k=n then none else lk k) L'∧St w (keys L) L' w':=by
 obtain⟨s,m,hO,hI,rfl⟩:=h;refine(ZE hO hh n).mono ?_;rintro v w'⟨rfl,L',hO',hS⟩;obtain⟨h1,h2,h3⟩:=rJ hI n;exact⟨by rw[h1];rfl,L',⟨_,m,hO',h2,h3⟩,hS⟩
inductive Jr(sb f c e:Nat)(gv:Int)(now:List AO)(lk:CT)(w:World)(T0:List Nat):Value→World→Prop where
 |run (z:Int) (hz:z=0∨z=6) (L':AH) (w':World) (h:Cg sb f (c+1) e gv now lk L') (hS:St w T0 L' w'):Jr sb f c e gv now lk w T0 (.int .i64 z) w'
 |down (L':AH) (w':World) (h:Nm sb f (c+1) e (· =now) L') (hS:St w T0 L' w'):Jr sb f c e gv now lk w T0 (.int .i64 7) w'
theorem Ih.out{c e sb f:Nat}{now:List AO}{lk:CT}{gv:Int}{r:Int}{s':AL}{m':AJ}(h:Ih c e now lk gv r s' m'){L':AH}(hO:AV sb f s' m' L'){w w':World}{T0:List Nat}(hS:St w T0 L' w'):Jr sb f c e gv now lk w T0 (.int .i64 r) w':=by
 cases h with
 |run _ hz _ _ h hg=>exact .run _ hz L' w' ⟨_,_,hO,h,hg⟩ hS
 |down _ _ hd h=>exact .down L' w' ⟨_,_,hO,hd,h⟩ hS
theorem ZI{w:World}{sb f c e:Nat}{gv:Int}{now:List AO}{lk:CT}{L:AH}(h:Cg sb f c e gv now lk L)(hh:Holds L w)(hG:Bw w (keys L))(hc:c+1≤7000000):
  Cl Tryz.prog U4 [ptr sb] w λv w'=>Jr sb f c e gv now lk w (keys L) v w':=by
 obtain⟨s,m,hO,hI,rfl⟩:=h;have he:=hI.e1;refine(aI hO hh hG λ_=>hI.core.wrN hI.bud AA AA AA AA AA ⟨AA,AA⟩).mono ?_;rintro v w'⟨r,s',m',L',hw,rfl,hO',hS⟩;exact(rC hI hc hw).out hO' hS
theorem ZG{w:World}{sb f c e:Nat}{gv:Int}{now:List AO}{lk:CT}{L:AH}(h:Cg sb f c e gv now lk L)(hh:Holds L w)(hG:Bw w (keys L))(hc:c+1≤7000000):
  Cl Tryz.prog U2 [ptr sb] w λv w'=>Jr sb f c e gv now lk w (keys L) v w':=by
 obtain⟨s,m,hO,hI,rfl⟩:=h;have he:=hI.e1;refine(aH hO hh hG (λ_=>hI.core.wrN hI.bud AA AA AA AA AA ⟨AA,AA⟩) ?_).mono ?_
 ·intro mk _ hp h0;have h1:=KI (hI.md hc) AA AA hp;generalize By s m mk=q at h0 h1;cases h1 with
  |ok s' m' h2 hm hg=>exact⟨_,_,h2.core.wrN h2.bud AA AA AA AA AA ⟨AA,AA⟩,h2.core.co AA (by have:=h2.bud.sn;omega)⟩
  |space m' h2=>cases h0
  |down s' m' h2 hl=>cases h0
 ·rintro v w'⟨r,s',m',L',hw,rfl,hO',hS⟩;exact(cK hI hc hw).out hO' hS
theorem qX{m:AJ}(h:m.off=false)(n:AE):(BA m n).1=(AN m n).getD ([],0):=by
 rw[Hl h];cases AN m n<;>rfl
def GH(v:VM)(ts:List (Int×List AF)):List (Int×List AF):=v.files.map λf=>(f.2,Ce ts f.2)
theorem yV{v:VM}{ts:List (Int×List AF)}(hp:(v.files.map (·.2)).Perm (ts.map (·.1)))(hn:(ts.map (·.1)).Nodup){f:Af}(hf:f∈v.files):(f.2,Ce ts f.2)∈ts:=by
 obtain⟨x,hx,hxf⟩:=BU.1 (hp.mem_iff.1 (CC hf));have h1:=F9 hn (show(x.1,x.2)∈ts from hx);have hxf:x.1=f.2:=hxf;unfold Ce;rw[←hxf,h1];exact hx
theorem yW{v:VM}{ts:List (Int×List AF)}(hp:(v.files.map (·.2)).Perm (ts.map (·.1)))(hn:(v.files.map (·.2)).Nodup):(GH v ts).Perm ts:=by
 have hn2:(ts.map (·.1)).Nodup:=hp.nodup_iff.1 hn;have e:ts=(ts.map (·.1)).map λn=>(n,Ce ts n):=by
  rw[Fo]
  conv=>lhs;rw[←List.map_id ts]
  refine KC λx hx=>?_;have h1:=F9 hn2 (show(x.1,x.2)∈ts from hx);show x=(x.1,Ce ts x.1);unfold Ce;rw[h1];rfl
 have e2:GH v ts=(v.files.map (·.2)).map λn=>(n,Ce ts n):=by unfold GH;rw[Fo];rfl
 rw[e2]
 conv=>rhs;rw[e]
 exact hp.map _
theorem vV{j:Int}(h1:1≤j)(h2:j≤4611686018427387904):Ji (AX j)= .tuple ⟨[.int .u8 109,.int .i64 j,.bool true]⟩:=by
 unfold Ji AX;rw[Ov AC ⟨AA,AA⟩,if_pos h1]
 rfl
set_option maxRecDepth 8000 in
theorem aB{w:World}{f A e:Nat}{m:AJ}{L:AH}(hF:BI f m L)(hh:Holds L w)(hG:Bw w (keys L))(hoff:m.off=false)(hB:FB A m){v:VM}{ts:List (Int×List AF)}{bs:List (Int×List Ac)}(hfd:Fd e (AN m) v ts bs)(he:e≤8388608)
  (htab: ∀x∈ts,B8 x.2)(hp:(v.files.map (·.2)).Perm (ts.map (·.1)))(hnd:(v.files.map (·.2)).Nodup)(hfn: ∀f∈v.files,1≤f.2∧f.2<v.next)(hn:1≤v.next∧v.next≤1152921504606846976)(hw:0≤v.wal∧v.wal<v.next)(hfl:v.files.length≤8388608):
  Cl Tryz.prog Qg [ptr f] w λr w'=>Pa v (GH v ts) (Ab bs) w (keys L) L r w':=by
 rcases hfd with⟨h0,rfl,rfl,rfl⟩|⟨j,hL⟩
 ·exact TL hF hh (by rw[Hl hoff,h0])
 obtain⟨lt,hlt,es,tail,hlte,hrp,hfe⟩:=hL.list;have hj1:=hL.j1;have hjn:=hL.jn;have hllen:lt.length≤1099511627776:=by have:=hB.get (AX j);rw[hlt]at this;exact this
 obtain⟨hrd,hrt⟩:=hrp.read tail [] (Ag _) (by rw[Ca,Bv,DR,←hlte];exact hfe);rw[Ca,←hlte]at hrd hrt;have hrd:Rd lt Cs 0 (v,(AQ (es.map Al)).length):=by simpa using hrd
 have hrt: ∀x i,Rt lt Cs 0 x i→x.files.length≤8388608:=λx i h=>Au (hrt x i h) he;have hn2:(ts.map (·.1)).Nodup:=hp.nodup_iff.1 hnd;have hS:=St.enter hh;generalize hT:keys L=T0 at hS hG⊢;refine Uh rfl ?_;(repeat(refine jt ⟨?_⟩;refine hS.q ?_;intro _ hS));refine jt ⟨?_⟩;refine hS.al ?_;intro b2 w1 _ hS;(repeat(refine jt ⟨?_⟩;refine hS.q ?_;intro _ hS));refine jt ⟨?_⟩;refine hS.al ?_;intro tm w2 _ hS
 (repeat(refine jt ⟨?_⟩;refine hS.q ?_;intro _ hS));refine jt ⟨?_⟩;refine hS.al ?_;intro b4 w3 _ hS;(repeat(refine jt ⟨?_⟩;refine hS.q ?_;intro _ hS));refine jt ⟨?_⟩;refine Cl.mono (Kf hF (hS.part (L:=L)) Bf) ?_;rintro _ w4⟨rfl,hS'⟩;have hS:=hS.call (L:=L) hS';rw[Hl hoff,hL.cur];simp only;have hGk:=λ(w':World)(H:AH)(h:St w T0 H w')=>hG.keep h;have hln:=(Fq (n:=j) ⟨AA,AA⟩).2.2;have hpl:=vV hj1 AA;have hlr:(BA m (AX j))=((lt,lt.length),0):=by rw[Hl hoff,hlt]
 generalize AX j=nm at hln hpl hlr⊢;(repeat(refine jt ⟨?_⟩;refine hS.q ?_;intro _ hS));refine jt ⟨?_⟩;refine Cl.mono (S8 (t:=nm) AA (hGk _ _ hS).err (hGk _ _ hS).tab) ?_;rintro _ w5⟨rfl,hS'⟩;have hS:=hS.call0 hS';rw[hpl];(repeat(refine jt ⟨?_⟩;refine hS.q ?_;intro _ hS));refine jt ⟨?_⟩;refine Cl.mono (Kf hF (hS.part (L:=L)) nm) ?_;rintro _ w6⟨rfl,hS'⟩;have hS:=hS.call (L:=L) hS';rw[hlr];simp only;(repeat(refine jt ⟨?_⟩;refine hS.q ?_;intro _ hS));refine jt ⟨?_⟩
 refine Cl.mono (Zw hllen hrt) ?_;rintro _ w7⟨v',k',a,ca,La,rfl,hvv,hS',hrd'⟩;have hS:=hS.callNew hS';have heq:=hrd'.unique hrd;cases heq;clear hrd' hrd hrt;unfold C8;(repeat(refine jt ⟨?_⟩;refine hS.q ?_;intro _ hS));refine jt ⟨?_⟩;have hS:=hS;have hlen:(GH v ts).length=v.files.length:=by unfold GH;rw[BZ]
 refine AM.loop (λk:Nat=>[(0,ptr f),(2,ptr b2),(4,ptr b4),(63,.slice a v.files.length ca),(64,.int .i64 v.files.length),(65,.int .i64 k)])
  (λk w'=>k≤v.files.length∧ ∃et ct ks Lt,MapC AY (λb:Nat=>ptr b) et ct ks∧Cj ks ((GH v ts).take k) Lt∧
   St w T0 (Lt++(La++((b4,.cells ⟨[.slice a v.files.length ca,.int .i64 v.wal,.int .i64 v.next,.int .i64 v.seq,.map (some tm),.slice none 0 0]⟩ Jw (0,0))::(tm,.map et ct)::(b2,.cells ⟨[.slice none 0 0,.int .i64 0,.int .i64 0,.int .i64 0,.map none,.slice none 0 0]⟩ Jw (0,0))::L))) w') (λk=>v.files.length-k) 0
  ⟨rfl,rfl,rfl,rfl,rfl,rfl,trivial⟩ ⟨Ag _, #[],0,[],[],⟨rfl,by simp[E3]⟩,.nil,by exact hS⟩ ?_
 clear hS;rintro k w8⟨hk,et,ct,ks,Lt,hM,hTb,hS⟩;by_cases hkl:k<v.files.length
 ·have hva:=hvv.vec.arr hS (T':=[]) AB;obtain⟨g,off,rfl, -, -⟩:=hva.get (j:=k*2) (by rw[G3];omega);have hat:((v.files.flatMap Ad).drop (k*2)).take 2=Ad v.files[k]:=by
   have:=Mn (cv:=Ad) (sz:=2) (λ_=>rfl) v.files [] k hkl;rwa[BT]at this
  have hmem:=yV hp hn2 (CW hkl);have hr:=hfn _ (CW hkl);have hsucc:(GH v ts).take (k+1)=(GH v ts).take k++[(v.files[k].2,Ce ts v.files[k].2)]:=by
   rw[Bq AA]
   congr 2
   unfold GH;rw[G4]
  have hkn:v.files[k].2∉ks.map (·.1):=by
   rw[hTb.keys];unfold GH;rw[←List.map_take,Fo];intro hm;obtain⟨y,hy,hye⟩:=BU.1 hm;have hye:y.2=v.files[k].2:=hye;have hd:(((v.files.map (·.2)).take k)++(v.files.map (·.2)).drop k).Nodup:=by rw[CN];exact hnd
   refine(F8.1 hd).2.2 y.2 (by rw[←List.map_take];exact CC hy) _ ?_ hye;rw[FM (by rw[BZ];exact hkl)];rw[G4];exact CM
  generalize v.files[k]=fl at hat hmem hr hsucc hkn;generalize Ce ts fl.2=l at hmem hsucc;have htf:=htab _ hmem;have hrf:=hL.tab _ hmem;simp only at htf hrf;have hff:BA m (Aw fl.2)=((B5 l,(B5 l).length),0):=by rw[Hl hoff,hrf]
  (repeat(refine jt ⟨?_⟩;refine hS.q ?_;intro _ hS));refine jt ⟨?_⟩;refine Arr.ldn (St.start w8) hva rfl (k:=k*2) hat rfl ?_;unfold Ad;(repeat(refine jt ⟨?_⟩;refine hS.q ?_;intro _ hS));refine jt ⟨?_⟩;refine hS.al ?_;intro b13 w9 _ hS;(repeat(refine jt ⟨?_⟩;refine hS.q ?_;intro _ hS));refine jt ⟨?_⟩;refine Cl.mono (Pu (n:=fl.2) ⟨AA,AA⟩ (hGk _ _ hS).tab) ?_;rintro _ w10⟨rfl,hS'⟩;have hS:=hS.call0 hS'
  (repeat(refine jt ⟨?_⟩;refine hS.q ?_;intro _ hS));refine jt ⟨?_⟩;refine Cl.mono (Kf hF (hS.part (L:=L)) (Aw fl.2)) ?_;rintro _ w11⟨rfl,hS'⟩;have hS:=hS.call (L:=L) hS';rw[hff];simp only;have hop:=λ(w:World)=>TR (w:=w) htf;generalize B5 l=t at hop⊢;(repeat(refine jt ⟨?_⟩;refine hS.q ?_;intro _ hS));refine jt ⟨?_⟩;refine Cl.mono (hop _) ?_;rintro _ w12⟨tb,Ltb,rfl,hTO,hS'⟩;have hS:=hS.callNew hS';(repeat(refine jt ⟨?_⟩;refine hS.q ?_;intro _ hS));refine jt ⟨?_⟩
  refine St.mapSet AK Bn.i64 rfl rfl Em hS (k:=fl.2) (v:=tb) hM ?_;intro et2 ct2 w13 hM2 hS;rw[Oa hkn]at hM2;have hTb2:=hTb.snoc (n:=fl.2) hTO;rw[←hsucc]at hTb2;(repeat(refine jt ⟨?_⟩;refine hS.q ?_;intro _ hS));refine jt ⟨?_⟩;refine⟨k+1,⟨rfl,rfl,rfl,rfl,rfl,rfl,trivial⟩,⟨AA,et2,ct2,_,Lt++Ltb,hM2,hTb2,?_⟩,AA⟩;have hS2:=hS.sub (H':=Ltb++(Lt++(La++((b4,.cells ⟨[.slice (some ⟨g,off,none⟩) v.files.length ca,.int .i64 v.wal,.int .i64 v.next,.int .i64 v.seq,.map (some tm),.slice none 0 0]⟩ Jw (0,0))::(tm,.map et2 ct2)::(b2,.cells ⟨[.slice none 0 0,.int .i64 0,.int .i64 0,.int .i64 0,.map none,.slice none 0 0]⟩ Jw (0,0))::L)))) ((List.Sublist.refl Ltb).append (AS _ _))
  refine St.perm hS2 ?_;rw[Aj];exact GX Ltb Lt _
 ·obtain rfl:k=v.files.length:=AA;rw[←hlen,Bz]at hTb;have hwr:Ck v.wal:=⟨AA,AA⟩;(repeat(refine jt ⟨?_⟩;refine hS.q ?_;intro _ hS));refine jt ⟨?_⟩;refine Cl.mono (ML (n:=v.wal) hwr (hGk _ _ hS).tab) ?_;rintro _ w9⟨rfl,hS'⟩;have hS:=hS.call0 hS';(repeat(refine jt ⟨?_⟩;refine hS.q ?_;intro _ hS));refine jt ⟨?_⟩;refine Cl.mono (S6 hF (hS.part (L:=L)) (Aa v.wal) (M9 hoff (Ht hwr)) (hB.find _)) ?_;rw[qX hoff,hL.log.1]
  rintro _ w10⟨bl,pa,pc,Lp, -,rfl,hvp,hS'⟩;have hS:=hS.call (L:=L) hS';(repeat(refine jt ⟨?_⟩;refine hS.q ?_;intro _ hS));refine jt ⟨?_⟩;refine⟨a,ca,La,tm,et,ct,ks,Lt,pa,pc,Lp,rfl,hvv,hM,hTb,hvp,?_⟩;have hS2:=hS.sub (H':=Lt++(La++((tm,.map et ct)::(Lp++L)))) ((List.Sublist.refl Lt).append ((List.Sublist.refl La).append (.cons _ (.cons_cons _ (.cons _ ((List.Sublist.refl Lp).append (AS _ _)))))));refine St.perm hS2 ?_
  classical
  refine Iy.2 λa=>?_;simp only[Hm,Is,List.count_nil];omega
theorem QG(files:List (AE×(AE×Nat)))(ns:List AE)(cuts:List Int)(hn:ns.Nodup): ∀k,k≤ns.length→ ∀n,(n∉ns.take k→Am n (ET files ns cuts k)=none)∧ ∀i(hi:i<k)(h:i<ns.length),Am ns[i] (ET files ns cuts k)=some (ID (E8 files ns[i]) (HN (E8 files ns[i]) cuts i))
 |0,_,n=>⟨λ_=>rfl,λi hi=>absurd hi (Nat.not_lt_zero i)⟩
 |k+1,hk,n=>by
  have hgd:ns.getD k []=ns[k]:=by simp[show k<ns.length by omega]
  have ih:=QG files ns cuts hn k AA;have e:ET files ns cuts (k+1)=BV ns[k] (ID (E8 files ns[k]) (HN (E8 files ns[k]) cuts k)) (ET files ns cuts k):=by simp only[ET,hgd]
  rw[e];refine⟨λhni=>?_,λi hi h=>?_⟩
  ·rw[Bq AA,Bk,not_or]at hni;rw[G6,if_neg (λe=>hni.2 (by rw[e];simp))];exact(ih n).1 hni.1
  ·rw[G6];by_cases hik:i=k
   ·subst hik;rw[if_pos rfl]
   ·rw[if_neg λe=>hik ((List.getElem_inj hn).1 e)];exact(ih n).2 i AA h
theorem cR{files:List (AE×(AE×Nat))}{ns:List AE}{cuts:List Int}(hnd:(files.map (·.1)).Nodup)(hp:ns.Perm (files.map (·.1)))(hs: ∀x∈files,x.2.2≤x.2.1.length):HB (λn=>Am n files) (λn=>Am n (ET files ns cuts ns.length)):=by
 intro n;have hnn:=hp.nodup_iff.2 hnd;have h:=QG files ns cuts hnn ns.length (AW _) n;rw[Bz]at h;show match Am n files with
  |none=>Am n (ET files ns cuts ns.length)=none
  |some x=>∃k,x.2≤k∧k≤x.1.length∧Am n (ET files ns cuts ns.length)=some (x.1.take k,k)
 cases hk:Am n files with
 |none=>exact h.1 λhm=>(Jd.1 hk) (hp.mem_iff.1 hm)
 |some x=>
  have hm:=Jc hk;have hx:=hs _ hm;obtain⟨i,hi,rfl⟩:=Hq.1 (hp.mem_iff.2 (CC (f:=(·.1)) hm));have hf:E8 files ns[i]=x:=by unfold E8;rw[hk];rfl
  have h2:=h.2 i hi hi;have hl:=Q8 x cuts i;rw[hf]at h2;have hx:x.2≤x.1.length:=hx;exact⟨x.2+HN x cuts i,AA,AA,h2⟩
theorem UF(files:List (AE×(AE×Nat)))(ns:List AE)(cuts:List Int): ∀k,(ET files ns cuts k).length≤k∧((ET files ns cuts k).map (·.1)).Nodup∧ ∀x∈ET files ns cuts k,x.1∈ns.take k∨x.1=[]
 |0=>⟨AW _,Ix,λx hx=>by cases hx⟩
 |k+1=>by
  obtain⟨h1,h2,h3⟩:=UF files ns cuts k;refine⟨Au (Je _ _ _) (Nat.succ_le_succ h1),Mv h2,λx hx=>?_⟩;rcases IN hx with rfl|hx
  ·by_cases hk:k<ns.length
   ·have hgd:ns.getD k []=ns[k]:=by simp[hk]
    have h4:ns[k]∈ns.take (k+1):=by rw[Bq hk];exact FN _ (List.mem_singleton_self _)
    left;show ns.getD k []∈_;rw[hgd];exact h4
   ·right;show ns.getD k []=[];simp[Gk,JZ (Nat.not_lt.1 hk)]
  ·rcases h3 x hx with h|h
   ·exact .inl (HJ (i:=k) (by rw[List.take_take,IM (D5 k)];exact h))
   ·exact .inr h
structure Gx(c e:Nat)(m:AJ)(now:List AO):Prop where
 off:m.off=false
 has: ∃v ts bs,Fd e (AN m) v ts bs∧Cx c e v ts bs now
 fs:H5 c m
theorem rL:Gx 1 0 EW []:=by
 refine⟨rfl,⟨FX,[],[],.inl ⟨rfl,rfl,rfl,rfl⟩,?_⟩,⟨⟨⟨Ag _,Ag _,Ag _,Ix,λx hx=>(by cases hx),λx hx=>(by cases hx)⟩,λx hx=>(by cases hx),λx hx=>(by cases hx)⟩,Ag _⟩⟩;have hE:(Bu FX [] []).mem++(([]:List (Int×List AF)).map (·.2)).flatten=[]:=rfl;exact⟨⟨List.Pairwise.nil,λx hx=>(by cases hx),λx hx=>(by cases hx),λx hx=>(by cases hx),Ag _⟩,λx hx=>(by cases hx),List.Pairwise.nil,AW _,AW _,AW _,(⟨⟨λf hf=>(by cases hf),Ix⟩,AC,rfl⟩:Good FX),List.Perm.refl _,AC,AC,AC,(by rw[hE];intro x hx;cases hx),by show(0:Int)≤1;decide,by rw[hE];exact Be.nil _,λb hb=>(by cases hb),λb hb=>(by cases hb),Ag _⟩
theorem H5.more{c c':Nat}{m:AJ}(h:H5 c m)(hc:c≤c'):H5 c' m:=⟨h.ft.mono (Gp _ hc) (IL (Gp _ hc) _),Au h.nf (Gp _ hc)⟩
theorem cS{c:Nat}{m:AJ}(h:H5 c m)(hc:c≤7000000){ns:List AE}(hp:ns.Perm (m.files.map (·.1)))(cuts:List Int):H5 c ⟨ET m.files ns cuts ns.length,[],0,0,false⟩:=by
 obtain⟨h1,h2,h3⟩:=UF m.files ns cuts ns.length;have hnn:=hp.nodup_iff.2 h.ft.fb.nd;have hln:ns.length=m.files.length:=by rw[hp.length_eq,BZ]
 rw[Bz]at h3;have hx: ∀x∈ET m.files ns cuts ns.length,∃y∈m.files,x.1=y.1∧ ∃j,j≤y.2.1.length-y.2.2∧x.2=ID y.2 j:=λx hx=>by
  have hg:=F9 h2 (show(x.1,x.2)∈_ from hx);have hcr:=QG m.files ns cuts hnn ns.length (AW _) x.1;rw[Bz]at hcr;by_cases hm:x.1∈ns
  ·obtain⟨i,hi,he⟩:=Hq.1 hm;have h5:=hcr.2 i hi hi;rw[he,hg]at h5;obtain⟨y,hy,hyn⟩:=BU.1 (hp.mem_iff.1 hm);have hyn:y.1=x.1:=hyn;have hf:E8 m.files x.1=y.2:=by
    unfold E8;rw[←hyn,F9 h.ft.fb.nd (show(y.1,y.2)∈m.files from hy)];rfl
   rw[hf]at h5;simp only[Option.some.injEq]at h5;exact⟨y,hy,hyn.symm,_,Q8 _ _ _,h5⟩
  ·rw[hcr.1 hm]at hg;cases hg
 refine⟨⟨⟨Ag _,Ag _,?_,h2,λx hm=>?_,λx hm=>?_⟩,λx hm=>?_,λx hm=>?_⟩,Au h1 (by rw[hln];exact h.nf)⟩
 ·exact Au h1 (by rw[hln];exact h.ft.fb.num)
 ·obtain⟨y,hy,he, -⟩:=hx x hm;rw[he];exact h.ft.fb.name y hy
 ·obtain⟨y,hy, -,j, -,he⟩:=hx x hm;rw[he];unfold ID;simp only[Ba];exact Au (Nat.min_le_right _ _) (h.ft.fb.text y hy)
 ·obtain⟨y,hy, -,j, -,he⟩:=hx x hm;rw[he];unfold ID;simp only[Ba];exact Au (Nat.min_le_right _ _) (h.ft.tx y hy)
 ·obtain⟨y,hy, -,j,hj,he⟩:=hx x hm;have hs:=h.ft.sf y hy;rw[he];unfold ID;simp only[Ba];omega
theorem Sq{w:World}{f c e:Nat}{m:AJ}{L:AH}{S:List AO→Prop}(hF:BI f m L)(hh:Holds L w)(hB:H5 c m)(hR:GP c e (AN m) S)(hc:c≤7000000){a:Option Addr}{cap:Nat}{cuts:List Int}(ha:Arr w (keys L) a (cuts.map AY))(hcl:cuts.length≤1099511627776):
  Cl Tryz.prog VJ [ptr f,.slice a cuts.length cap] w λv w'=>∃g Lg m' now,v=ptr g∧S now∧Gx c e m' now∧m'.fates=[]∧BI g m' Lg∧St w (keys L) (Lg++L) w':=by
 have hnf:=hB.nf;have hmx:(1099511627776:Nat)≤maxLen:=AC;have hfo: ∀n,E8 m.files n=(AN m n).getD ([],0):=λn=>rfl;refine(Y8 hF hh ha hcl AA (λx hx=>by have:=hB.ft.fb.name x hx;omega) (λn=>by rw[hfo];exact hB.ft.getS n) (λn=>by rw[hfo];exact hB.ft.fb.get n)).mono ?_;rintro v w'⟨ns,g,Lg,hp,rfl,hF',hS⟩;obtain⟨v,T,bs,now,h1,h2,h3⟩:=hR _ (cR (cuts:=cuts) hB.ft.fb.nd hp hB.ft.sf);exact⟨g,Lg,⟨ET m.files ns cuts ns.length,[],0,0,false⟩,now,rfl,h1,⟨rfl,⟨v,T,bs,h2,h3⟩,cS hB hc hp cuts⟩,rfl,hF',hS⟩
/-! ## Open-/
theorem Fd.perm{n:Nat}{F:C9}{v:VM}{T T':List (Int×List AF)}{bs:List (Int×List Ac)}(h:Fd n F v T bs)(hp:T'.Perm T):Fd n F v T' bs:=by
 rcases h with⟨h1,h2,rfl,h4⟩|⟨j,h⟩
 ·exact .inl ⟨h1,h2,hp.eq_nil,h4⟩
 ·exact .inr ⟨j,{h with tab:=λx hx=>h.tab x (hp.mem_iff.1 hx)}⟩
theorem Cx.perm{c e:Nat}{v:VM}{T T':List (Int×List AF)}{bs:List (Int×List Ac)}{now:List AO}(h:Cx c e v T bs now)(hp:T'.Perm T):Cx c e v T' bs now:=by
 obtain⟨t1,t2,t3⟩:=Lz bs (s:=Cc 1 1 [] v T') (t:=Cc 1 1 [] v T) rfl rfl rfl;have t1:(Bu v T' bs).mem=(Bu v T bs).mem:=t1;have t2:(Bu v T' bs).seq=(Bu v T bs).seq:=t2;have t3:(Bu v T' bs).adds=(Bu v T bs).adds:=t3;have hE:((Bu v T' bs).mem++(T'.map (·.2)).flatten).Perm ((Bu v T bs).mem++(T.map (·.2)).flatten):=by
  rw[t1];exact List.Perm.append_left _ (hp.map _).flatten
 exact⟨by rw[t1];exact h.mem,λx hx=>h.tab x (hp.mem_iff.1 hx),Cz.perm h.one hE.symm,by rw[hE.length_eq];exact h.num,h.nlen,by rw[t3];exact h.adds,h.good,h.files.trans (hp.map _).symm,h.next,h.wal,h.bnext,λx hx=>by rw[t2];exact h.top x (hE.mem_iff.1 hx),by rw[t2];exact h.bseq,by rw[t2];exact h.view.mem λx=>hE.mem_iff.symm,h.bq,h.bsz,h.blen⟩
theorem YX: ∀{bs:List (Int×List Ac)},(∀b∈bs,Av b.2≤4096)→GZ bs≤4096*bs.length
 |[],_=>AW _
 |b::bs,h=>by
  have h1:=h b AB;have h2:=YX (bs:=bs) λx hx=>h x (by simp[hx]);have e:GZ (b::bs)=Av b.2+GZ bs:=by unfold GZ;simp
  rw[e,Ah];omega
inductive Na(f c e:Nat)(m:AJ)(now:List AO)(w:World)(T0:List Nat):Value→World→Prop where
 |ok (sb:Nat) (L':AH) (w':World) (h:Cg sb f (c+1) e 0 now Hv L') (hS:St w T0 L' w'):Na f c e m now w T0 (.tuple ⟨[ptr sb,.int .i64 0]⟩) w'
 |space (m':AJ) (L':AH) (w':World) (hf:m.fates≠[]) (h:Gx (c+1) e m' now) (hF:BI f m' L') (hS:St w T0 L' w'):Na f c e m now w T0 (.tuple ⟨[.pointer none,.int .i64 6]⟩) w'
 |down (m':AJ) (L':AH) (w':World) (hf:m.fates≠[]) (h:Dn (c+1) e m' (· =now)) (hF:BI f m' L') (hS:St w T0 L' w'):Na f c e m now w T0 (.tuple ⟨[.pointer none,.int .i64 7]⟩) w'
theorem Ss{w:World}{f c e:Nat}{m:AJ}{L:AH}{now:List AO}(hF:BI f m L)(hh:Holds L w)(hG:Bw w (keys L))(hm:Gx c e m now)(hc:c+1≤7000000)(he:e≤262144){a:Option Addr}{cp:Nat}{hs:List Int}{mm fan:Int}(ha:Arr w (keys L) a (hs.map AY))(hhl:hs.length≤1099511627776):
  Cl Tryz.prog Qb [ptr f,.agg ⟨[.int .i64 mm,.int .i64 fan,.slice a hs.length cp]⟩] w λv w'=>Na f c e m now w (keys L) v w':=by
 obtain⟨hoff,⟨v,ts,bs,hfd,hct⟩,hB⟩:=hm;have hnf:=hB.nf;have hndf:(v.files.map (·.2)).Nodup:=hct.good.files.2;have hpt:=yW hct.files hndf;have hfd':=hfd.perm hpt;have hct':=hct.perm hpt;have hcn:=hct.cnt;have hn1:=hct.next;have hbn:=hct.bnext;have hwl:=hct.wal;have hnn:=hct.good.nn;have hbq:=hct.bseq;have hbl:=hct.blen;have hsq:v.seq≤(Bu v ts bs).seq:=SG bs (Cc 1 1 [] v ts);have hv:DA {v with wal:=v.next,next:=v.next+2}:=DA.renew hct.good AA AA AA
 obtain⟨w1,w2⟩:=hv.whole;have hsum:=Mf w2 hv.num;obtain⟨hok,hsl⟩:=hct.ok;rw[Dr]at hsl;have hszb:=YX hct.bsz;obtain⟨r1,r2,r3,r4,r5,r6⟩:=Yl bs (Cc mm fan hs v (GH v ts));obtain⟨t1,t2,t3⟩:=Lz bs (s:=Cc mm fan hs v (GH v ts)) (t:=Cc 1 1 [] v (GH v ts)) rfl rfl rfl;refine(S7 (A:=c*274877906944) (v:=v) (ts:=GH v ts) (bs:=bs) hF hh hG ha hhl hoff (λw1 h1 hG1=>aB hF h1 hG1 hoff hB.ft.fb hfd AA (λx hx=>(hct.tab x hx).1) hct.files hndf (λf hf=>by
  obtain⟨h5,h6⟩:=hct.good.files.1 f hf;have:=Hx.1 h5;omega) ⟨hn1,AA⟩ ⟨hnn.1,hwl⟩ AA) (λb hb=>by have:=hct.bq b hb;unfold CA;omega) AA AA ⟨AA,AA⟩ w1 w2 AA AA hB.ft.fb AA AA).mono ?_
 rintro r w'⟨z,s',m',hR,hO⟩;have hup:m.fates=[]→z=0:=λhf=>(Xt (A:=c*274877906944) (T:=536870912+c*150000) (Nf:=c*32768) ⟨hoff,hf⟩ hB.ft ⟨AA,AA⟩ (by unfold BJ;rw[r1];exact hv) (by rw[r1];exact⟨hn1,by show v.next≤_;omega⟩) hok (by rw[Dr];omega) hnf hR).1;have hg:=wL (now:=now) hoff hB.ft ⟨AA,AA⟩ AA AA AA hnf hfd' hct' r1 r2 t1 t2 t3 r3 r4 r5 (by rw[r6];exact hhl) hR;cases hg with
 |ok _ _ g1 g2 g3 g4 g5 g6=>
  rcases hO with⟨-,sb,L',rfl,hO',hS⟩|⟨he0, -⟩
  ·refine .ok sb L' w' ⟨s',m',hO',⟨g2,g1,g3.mono (AW _) (D5 _),g4.mono AA AA (AW _) (AW _) (AW _),Au g5 AA,hc,he⟩,g6⟩ hS
  ·exact absurd rfl he0
 |space _ _ g1 g2 g3 g4=>
  rcases hO with⟨h0, -⟩|⟨-,rfl,LF,hF',hS⟩
  ·cases h0
  ·exact .space m' LF w' (λhf=>by have:=hup hf;cases this) ⟨g1,⟨v,GH v ts,bs,g2,hct'.mono (D5 _) (AW _)⟩,⟨g3.mono AA AA,Au g4 AA⟩⟩ hF' hS
 |down _ _ g1 g2 g3 g4=>
  rcases hO with⟨h0, -⟩|⟨-,rfl,LF,hF',hS⟩
  ·cases h0
  ·exact .down m' LF w' (λhf=>by have:=hup hf;cases this) ⟨g1,g2,⟨g3.mono AA AA,Au g4 AA⟩⟩ hF' hS
theorem Rn.rest{c e:Nat}{s:AL}{m:AJ}{now:List AO}{lk:CT}(h:Rn c e s m now lk):Gx c e m now:=by
 obtain⟨j,es,g,bs,hD,hbl⟩:=h.dk;have hn:=h.bud.next;have hq:=h.bud.seq;exact⟨h.off,⟨s.v,s.tabs,bs,.inr ⟨j,hD.fdl⟩,hD.cont h.core AA AA hbl⟩,⟨h.bud.ft,h.nf⟩⟩
theorem Gx.found{c e:Nat}{m:AJ}{now:List AO}(h:Gx c e m now):GP c e (AN m) (· =now):=by
 obtain⟨v,ts,bs,h1,h2⟩:=h.has;exact Fd.rec h1 h2
theorem Gx.arm{c e:Nat}{m:AJ}{now:List AO}(h:Gx c e m now)(fs:List (Int×Int)):Gx c e {m with fates:=fs,armed:=0} now:=
 ⟨h.off,h.has,⟨⟨⟨Ag _,h.fs.ft.fb.acts,h.fs.ft.fb.num,h.fs.ft.fb.nd,h.fs.ft.fb.name,h.fs.ft.fb.text⟩,h.fs.ft.tx,h.fs.ft.sf⟩,h.fs.nf⟩⟩
theorem Rn.arm{c e:Nat}{s:AL}{m:AJ}{now:List AO}{lk:CT}(h:Rn c e s m now lk)(fs:List (Int×Int)):Rn c e s {m with fates:=fs,armed:=0} now lk:=by
 have hf:=h.bud.ft;exact⟨h.core,h.off,h.dk,⟨⟨⟨Ag _,hf.fb.acts,hf.fb.num,hf.fb.nd,hf.fb.name,hf.fb.text⟩,hf.tx,hf.sf⟩,h.bud.next,h.bud.seq,h.bud.given,h.bud.sn,h.bud.list,h.bud.log⟩,h.nf,h.c1,h.e1⟩
structure Ju where
 a:Option Addr
 c:Nat
 l:List AO
structure LM where
 f:Nat
 sb:Nat
 mm:Int
 fan:Int
 ah:Option Addr
 hs:List Int
 ch:Nat
 an:Option Addr
 now:List AO
 cn:Nat
 sa:Option Addr
 sn:List Ju
 sc:Nat
 ga:Option Addr
 gn:List Bool
 gc:Nat
abbrev LM.obj(x:LM):Obj:= .cells ⟨[ptr x.f,ptr x.sb,.int .i64 x.mm,.int .i64 x.fan,.slice x.ah x.hs.length x.ch,.slice x.an x.now.length x.cn,.slice x.sa x.sn.length x.sc,.slice x.ga x.gn.length x.gc]⟩ TX (0,0)
abbrev LM.fresh(x:LM)(f sb:Nat):LM:={x with f:=f,sb:=sb,sa:=none,sn:=[],sc:=0,ga:=none,gn:=[],gc:=0}
structure EE(P:AH)(x:LM):Prop where
 at_:Fa P x.an (x.now.flatMap BM)
 ad:x.an=none∨ ∃g off,x.an=some ⟨g,off,none⟩
 cap:x.now.length≤x.cn
 so:x.now.Pairwise EP
theorem Cg.len{sb f c e:Nat}{gv:Int}{now:List AO}{lk:CT}{L:AH}(h:Cg sb f c e gv now lk L):now.length≤262144:=by
 obtain⟨s,m, -,hI, -⟩:=h;exact Au hI.core.nlen hI.e1
theorem Pb{w:World}{sb f c e:Nat}{gv:Int}{now:List AO}{lk:CT}{L:AH}(h:Cg sb f c e gv now lk L)(hh:Holds L w){a:Option Addr}{cap:Nat}{fs:List (Int×Int)}(ha:Arr w (keys L) a (Hj fs))(hl:fs.length≤1099511627776):
  Cl Tryz.prog VP [ptr f,.slice a fs.length cap] w λ_ w'=>∃L',Cg sb f c e gv now lk L'∧St w (keys L) L' w':=by
 obtain⟨s,m,hO,hI,hg⟩:=h;obtain⟨o,R,LF,rfl,hF,hre⟩:=hO.fs;have hS:=St.enter hh;refine(NW hF (hS.part (L:=LF)) (ha.stay hS (L:=LF)) hl).mono ?_;rintro _ w'⟨L',hF',hS'⟩;exact⟨_,⟨s,_,hre _ _ hF',hI.arm _,hg⟩,hS.call (L:=LF) hS'⟩
theorem ZH{w:World}{sb f c e:Nat}{gv:Int}{now:List AO}{lk:CT}{L:AH}(h:Cg sb f c e gv now lk L)(hh:Holds L w):
  Cl Tryz.prog U3 [ptr sb] w λv w'=>v= .bool false∧St w (keys L) L w':=by
 obtain⟨s,m,hO,hI, -⟩:=h;refine(JL hO hh).mono ?_;rintro _ w'⟨rfl,hS⟩;rw[hI.core.dead,hI.off];exact⟨rfl,hS⟩
theorem Sr{w:World}{sb f c e:Nat}{gv:Int}{now:List AO}{lk:CT}{L:AH}(h:Cg sb f c e gv now lk L)(hh:Holds L w):
  Cl Tryz.prog Qh [ptr f] w λv w'=>v= .bool false∧St w (keys L) L w':=by
 obtain⟨s,m,hO,hI, -⟩:=h;refine(hO.down hh).mono ?_;rintro _ w'⟨rfl,hS⟩;rw[hI.off];exact⟨rfl,hS⟩
theorem cW{a b:List AO}(p:Prop) [Decidable p](h:p↔a=b):decide p=decide (a=b):=decide_eq_decide.2 h
theorem wQ{a b:List AO}:a.map Dh=b.map Dh↔a=b:=by
 constructor
 ·intro h;have hi: ∀x y:AO,Dh x=Dh y→x=y:=λx y h=>by
   obtain⟨x1,x2⟩:=x;obtain⟨y1,y2⟩:=y;simp only[Dh,Prod.mk.injEq]at h;rw[h.1,h.2.2]
  exact(List.map_inj_right hi).1 h
 ·rintro rfl;rfl
theorem JW{w:World}{lb c e:Nat}{gv:Int}{x:LM}{cur:List AO}{lk:CT}{L P:AH}(hO:Cg x.sb x.f c e gv cur lk L)(hh:Holds ((lb,x.obj)::(L++P)) w){a:Option Addr}{cp:Nat}{want:List AO}(ha:Fa P a (want.flatMap BM))(hl:want.length≤1099511627776):
  Cl Tryz.prog VF [ptr lb,.slice a want.length cp] w λv w'=>v= .bool (decide (cur=want))∧St w (keys ((lb,x.obj)::(L++P))) ((lb,x.obj)::(L++P)) w':=by
 have hS:=St.enter hh;have hcl:=hO.len;generalize hT:keys ((lb,x.obj)::(L++P))=T0 at hS⊢;refine kJ rfl ?_;(repeat(refine jt ⟨?_⟩;refine hS.q ?_;intro _ hS));refine jt ⟨?_⟩;refine Cl.mono (Su hO (hS.part (L:=L)) [] []) ?_;rw[sE];rintro _ w1⟨a1,c1,Lv,rfl,hv1,hS'⟩;have hS:=hS.call (L:=L) hS';(repeat(refine jt ⟨?_⟩;refine hS.q ?_;intro _ hS));refine jt ⟨?_⟩;rw[NI]at hv1;rw[←NJ want];refine Cl.mono (Nk (l:=cur.map Dh) (m:=want.map Dh) (by rw[NI];exact hv1.arr hS AB) (by rw[NI];exact ha.in hS) (by rw[BZ];omega) (by rw[BZ];omega)) ?_
 rintro _ w2⟨rfl,hS'⟩;have hS:=hS.call0 hS';rw[cW _ wQ];(repeat(refine jt ⟨?_⟩;refine hS.q ?_;intro _ hS));refine jt ⟨?_⟩;by_cases hcw:cur=want
 ·rw[decide_eq_true hcw];(repeat(refine jt ⟨?_⟩;refine hS.q ?_;intro _ hS));refine jt ⟨?_⟩;exact⟨rfl,hS.sub (((Ai Lv L).append_right P).cons_cons _)⟩
 ·rw[decide_eq_false hcw];(repeat(refine jt ⟨?_⟩;refine hS.q ?_;intro _ hS));refine jt ⟨?_⟩;exact⟨rfl,hS.sub (((Ai Lv L).append_right P).cons_cons _)⟩
theorem WZ{w:World}{lb c e:Nat}{x:LM}{m:AJ}{LF P:AH}{cur:List AO}(hF:BI x.f m LF)(hm:Gx c e m cur)(hh:Holds ((lb,x.obj)::(LF++P)) w)(hG:Bw w (keys ((lb,x.obj)::(LF++P))))(hah:Arr w (keys ((lb,x.obj)::(LF++P))) x.ah (x.hs.map AY))(hhl:x.hs.length≤1099511627776)
  {af:Option Addr}{cf:Nat}{fs:List (Int×Int)}(haf:Arr w (keys ((lb,x.obj)::(LF++P))) af (Hj fs))(hfl:fs.length≤1099511627776){ak:Option Addr}{ck:Nat}{keep:List Int}(hak:Arr w (keys ((lb,x.obj)::(LF++P))) ak (keep.map AY))(hkl:keep.length≤1099511627776)(hc:c+23≤7000000)(he:e≤262144):
  Cl Tryz.prog p8 [ptr lb,.slice af fs.length cf,.slice ak keep.length ck] w λv w'=>v= .bool true∧ ∃f sb L',Cg sb f (c+23) e 0 cur Hv L'∧St w (keys ((lb,x.obj)::(LF++P))) ((lb,(x.fresh f sb).obj)::(L'++P)) w':=by
 have hS:=St.enter hh;generalize hT:keys ((lb,x.obj)::(LF++P))=T0 at hS hG hah haf hak⊢;refine kL rfl ?_;(repeat(refine jt ⟨?_⟩;refine hS.q ?_;intro _ hS));refine jt ⟨?_⟩;refine Cl.mono (NW hF (hS.part (L:=LF)) (haf.stay hS (L:=LF)) hfl) ?_;rintro _ w1⟨L1,hF,hS'⟩;have hS:=hS.call (L:=LF) hS';have hm:=hm.arm (Gg fs fs.length);(repeat(refine jt ⟨?_⟩;refine hS.q ?_;intro _ hS));refine jt ⟨?_⟩;refine AM.loop (λk:Nat=>[(0,ptr lb),(2,.slice ak keep.length ck),(7,.int .i64 k)])
  (λk w'=>k≤22∧ ∃f m' L',BI f m' L'∧Gx (c+k) e m' cur∧(22≤k→m'.fates=[])∧St w T0 ((lb,(x.fresh f x.sb).obj)::(L'++P)) w') (λk=>23-k) 0
  ⟨rfl,rfl,rfl,trivial⟩ ⟨Ag _,_,_,L1,hF,hm,(λh=>absurd h AC),hS⟩ ?_
 clear hS hF hm hS' haf;rintro k w2⟨hk,f,m,L1,hF,hm,hfk,hS⟩;(repeat(refine jt ⟨?_⟩;refine hS.q ?_;intro _ hS));refine jt ⟨?_⟩;refine AM.draw AK mixed (λw'=>St w T0 ((lb,(x.fresh f x.sb).obj)::(L1++P)) w') [8,9,10,11,12,13] [0,1,2,3,4,5,6,7,8,9,10,11,12,13] AD hS.drew ?_;have hS:=hS.drew;refine jr ⟨?_⟩;refine Cl.mono (Ss hF (hS.part (L:=L1)) (hG.part hS (L:=L1)) hm AA he (hah.stay hS (L:=L1)) hhl) ?_
 rintro _ w3 hv;cases hv with
 |ok sb L2 _ h hS'=>
  have hS:=hS.call (L:=L1) hS';refine jr ⟨?_⟩;(repeat(refine jt ⟨?_⟩;refine hS.q ?_;intro _ hS));refine jt ⟨?_⟩;refine Cl.mono (Pb (fs:=[]) h (hS.part (L:=L2)) (Arr.nil _ _ _) AC) ?_;rintro _ w4⟨L3,h,hS'⟩;have hS:=hS.call (L:=L2) hS';(repeat(refine jt ⟨?_⟩;refine hS.q ?_;intro _ hS));refine jt ⟨?_⟩;refine Cl.mono (ZH h (hS.part (L:=L3))) ?_;rintro _ w5⟨rfl,hS'⟩;have hS:=hS.call (L:=L3) hS';(repeat(refine jt ⟨?_⟩;refine hS.q ?_;intro _ hS));refine jt ⟨?_⟩
  exact⟨rfl,f,sb,L3,h.more AA (AW _) hc he,hS⟩
 |space m2 L2 _ hf h hF2 hS'=>
  have hS:=hS.call (L:=L1) hS';have hk21:k<22:=Nat.lt_of_not_le λh=>hf (hfk h);refine jr ⟨?_⟩;(repeat(refine jt ⟨?_⟩;refine hS.q ?_;intro _ hS));refine jt ⟨?_⟩;refine Cl.mono (Ic hF2 (hS.part (L:=L2))) ?_;rintro _ w4⟨rfl,hS'⟩;have hS:=hS.call (L:=L2) hS';rw[h.off];(repeat(refine jt ⟨?_⟩;refine hS.q ?_;intro _ hS));refine jt ⟨?_⟩;refine Ae.mk Tryz.underlying4 ?_;by_cases hk2:20<k
  ·(repeat(refine jt ⟨?_⟩;refine hS.q ?_;intro _ hS));refine jt ⟨?_⟩;refine Cl.mono (NW (fs:=[]) hF2 (hS.part (L:=L2)) (Arr.nil _ _ _) AC) ?_;rintro _ w5⟨L3,hF3,hS'⟩;have hS:=hS.call (L:=L2) hS';(repeat(refine jt ⟨?_⟩;refine hS.q ?_;intro _ hS));refine jt ⟨?_⟩;refine⟨k+1,⟨rfl,rfl,rfl,trivial⟩,⟨AA,_,_,_,hF3,h.arm _,λ_=>rfl,hS⟩,AA⟩
  ·(repeat(refine jt ⟨?_⟩;refine hS.q ?_;intro _ hS));refine jt ⟨?_⟩;refine⟨k+1,⟨rfl,rfl,rfl,trivial⟩,⟨AA,_,_,_,hF2,h,λh=>absurd h AA,hS⟩,AA⟩
 |down m2 L2 _ hf h hF2 hS'=>
  have hS:=hS.call (L:=L1) hS';have hk21:k<22:=Nat.lt_of_not_le λh=>hf (hfk h);refine jr ⟨?_⟩;(repeat(refine jt ⟨?_⟩;refine hS.q ?_;intro _ hS));refine jt ⟨?_⟩;refine Cl.mono (Ic hF2 (hS.part (L:=L2))) ?_;rintro _ w4⟨rfl,hS'⟩;have hS:=hS.call (L:=L2) hS';rw[h.off];(repeat(refine jt ⟨?_⟩;refine hS.q ?_;intro _ hS));refine jt ⟨?_⟩;refine Ae.mk Tryz.underlying4 ?_;(repeat(refine jt ⟨?_⟩;refine hS.q ?_;intro _ hS));refine jt ⟨?_⟩
  refine Cl.mono (Sq hF2 (hS.part (L:=L2)) h.fs h.found AA (hak.stay hS (L:=L2)) hkl) ?_;rintro _ w5⟨g,Lg,m3,_,rfl,rfl,h3,hf3,hF3,hS'⟩;have hS:=hS.call (L:=L2) hS';have hS:=hS.sub (((CD Lg L2).append_right P).cons_cons _);by_cases hk2:20<k
  ·(repeat(refine jt ⟨?_⟩;refine hS.q ?_;intro _ hS));refine jt ⟨?_⟩;refine Cl.mono (NW (fs:=[]) hF3 (hS.part (L:=Lg)) (Arr.nil _ _ _) AC) ?_;rintro _ w5⟨L3,hF4,hS'⟩;have hS:=hS.call (L:=Lg) hS';(repeat(refine jt ⟨?_⟩;refine hS.q ?_;intro _ hS));refine jt ⟨?_⟩;refine⟨k+1,⟨rfl,rfl,rfl,trivial⟩,⟨AA,_,_,_,hF4,h3.arm _,λ_=>rfl,hS⟩,AA⟩
  ·(repeat(refine jt ⟨?_⟩;refine hS.q ?_;intro _ hS));refine jt ⟨?_⟩;refine⟨k+1,⟨rfl,rfl,rfl,trivial⟩,⟨AA,_,_,_,hF3,h3,λ_=>hf3,hS⟩,AA⟩
theorem Cg.rest{sb f c e:Nat}{gv:Int}{now:List AO}{lk:CT}{L:AH}(h:Cg sb f c e gv now lk L): ∃m LF,LF.Sublist L∧BI f m LF∧Gx c e m now:=by
 obtain⟨s,m,hO,hI, -⟩:=h;obtain⟨o,R,LF,rfl,hF, -⟩:=hO.fs;exact⟨m,LF,(Ai R LF).cons _,hF,hI.rest⟩
abbrev D9(kd n:Int)(key to:AE)(ao:Option Addr)(no co:Nat)(af:Option Addr)(nf cf:Nat)(ak:Option Addr)(nk ck:Nat):List Value:=[.int .i64 kd,.int .i64 n,AG key,AG to,.slice ao no co,.slice af nf cf,.slice ak nk ck]
def Ju.v(s:Ju):Value:= .slice s.a s.l.length s.c
def DF(x:LM)(n:Int):Option (List AO):=if n<1 then none else if x.gn[(n-1).toNat]?=some false then(x.sn[(n-1).toNat]?).map (·.l)else none
structure Lf(c e:Nat)(x:LM)(L Lv Lg P:AH):Prop where
 st:Cg x.sb x.f c e x.sn.length x.now (DF x) L
 at_:EE P x
 v:AT TU 1 x.sa x.sn.length x.sc (x.sn.map Ju.v) Lv
 sn: ∀s∈x.sn,Fa P s.a (s.l.flatMap BM)∧s.l.length≤262144
 g:AT Jv 1 x.ga x.gn.length x.gc (x.gn.map Value.bool) Lg
 len:x.gn.length=x.sn.length
def GN(lb c e:Nat)(x:LM)(H:AH):Prop:=∃L Lv Lg P,H=(lb,x.obj)::(L++(Lv++(Lg++P)))∧Lf c e x L Lv Lg P
def LM.same(x y:LM):Prop:=y.ah=x.ah∧y.hs=x.hs
theorem vZ(A B P:AH)(p q:Nat×Obj):(A++(p::q::(B++P))).Perm (p::q::(B++(A++P))):=Dd.trans (.cons _ (Dd.trans (.cons _ (GX A B P))))
theorem EE.more{P Q:AH}{x:LM}(h:EE P x)(hs:P.Sublist Q):EE Q x:=⟨h.at_.more hs,h.ad,h.cap,h.so⟩
theorem Lf.anew{c e:Nat}{x:LM}{P:AH}{L:AH}{f sb:Nat}(h:Cg sb f c e 0 x.now Hv L)(hn:EE P x):Lf c e (x.fresh f sb) L [] [] P:=
 ⟨by rw[show DF (x.fresh f sb)=Hv from funext λn=>by unfold DF Hv;simp];exact h,⟨hn.at_,hn.ad,hn.cap,hn.so⟩,AT.nil,nofun,AT.nil,rfl⟩
theorem UG{w:World}{lb c e:Nat}{x:LM}{m:AJ}{LF P:AH}{under:List Ac}(hF:BI x.f m LF)(hB:H5 c m)(hR:GP c e (AN m) (λr=>r=x.now∨r=Ch x.now under))(hn:EE P x)(hh:Holds ((lb,x.obj)::(LF++P)) w)(hG:Bw w (keys ((lb,x.obj)::(LF++P))))(hah:Arr w (keys ((lb,x.obj)::(LF++P))) x.ah (x.hs.map AY))(hhl:x.hs.length≤1099511627776)
  {kd n:Int}{key to:AE}{ao:Option Addr}{no co:Nat}{af:Option Addr}{cf:Nat}{fs:List (Int×Int)}(haf:Arr w (keys ((lb,x.obj)::(LF++P))) af (Hj fs))(hfl:fs.length≤1099511627776){ak:Option Addr}{ck:Nat}{keep:List Int}(hak:Arr w (keys ((lb,x.obj)::(LF++P))) ak (keep.map AY))(hkl:keep.length≤1099511627776)
  {au:Option Addr}{cu:Nat}(hau:Arr w (keys ((lb,x.obj)::(LF++P))) au (under.flatMap A8))(hul:x.now.length+under.length≤8388608)(hc:c+23≤7000000)(he:e≤262144):
  Cl Tryz.prog VE [ptr lb,.agg ⟨D9 kd n key to ao no co af fs.length cf ak keep.length ck⟩,.slice au under.length cu] w λv w'=>v= .bool true∧ ∃y H',(y.now=x.now∨y.now=Ch x.now under)∧x.same y∧GN lb (c+23) e y H'∧St w (keys ((lb,x.obj)::(LF++P))) H' w':=by
 have hS:=St.enter hh;have hnl:x.now.length≤1099511627776:=AA;generalize hT:keys ((lb,x.obj)::(LF++P))=T0 at hS hG hah haf hak hau⊢;refine kI rfl ?_;(repeat(refine jt ⟨?_⟩;refine hS.q ?_;intro _ hS));refine jt ⟨?_⟩;refine hS.al ?_;intro b4 w1 _ hS;(repeat(refine jt ⟨?_⟩;refine hS.q ?_;intro _ hS));refine jt ⟨?_⟩;refine AM.draw AK mixed (λw'=>w'.cell? ⟨lb,0,none⟩=some (ptr x.f)∧w'.cell? ⟨b4,6,none⟩=some (.slice ak keep.length ck)) [10] [0,1,2,3,4,5,6,7,8,9,10] AD ⟨hS.drew.cell (b:=lb) (off:=0) rfl,hS.drew.cell (b:=b4) (off:=6) rfl⟩ ?_
 have hS:=hS.drew;refine jr ⟨?_⟩;refine CL (λw' h=>h.1) ?_;refine jr ⟨?_⟩;refine CL (λw' h=>h.2) ?_;refine jr ⟨?_⟩;refine Cl.mono (Sq hF (hS.part (L:=LF)) hB hR AA (hak.stay hS (L:=LF)) hkl) ?_;rintro _ w2⟨g,Lg,m2,cur,rfl,hcur,hm2, -,hF2,hS'⟩;have hS:=hS.call (L:=LF) hS';refine Ae.mk ⟨hS.cell (b:=lb) (off:=0) rfl,hS.cell (b:=b4) (off:=6) rfl⟩ ?_;(repeat(refine jt ⟨?_⟩;refine hS.q ?_;intro _ hS));refine jt ⟨?_⟩
 have hS:=hS.sub ((((CD Lg LF).append_right P).cons_cons _).cons_cons _);have hl:=WZ (x:={x with f:=g}) (lb:=lb) (P:=P) hF2 hm2 (hS.part (L:=(lb,({x with f:=g}:LM).obj)::(Lg++P))) (hG.part hS (L:=(lb,({x with f:=g}:LM).obj)::(Lg++P))) (hah.stay hS (L:=(lb,({x with f:=g}:LM).obj)::(Lg++P))) hhl (haf.stay hS (L:=(lb,({x with f:=g}:LM).obj)::(Lg++P))) hfl (hak.stay hS (L:=(lb,({x with f:=g}:LM).obj)::(Lg++P))) hkl hc he (cf:=cf) (ck:=ck)
 refine Cl.mono hl ?_;clear hl;rintro _ w3⟨rfl,f2,sb2,L2,hK,hS'⟩;have hS:=hS.call (L:=(lb,({x with f:=g}:LM).obj)::(Lg++P)) hS';(repeat(refine jt ⟨?_⟩;refine hS.q ?_;intro _ hS));refine jt ⟨?_⟩;refine Cl.mono (TZ (os:=under) (hS.part (L:=P)) hn.at_ hn.ad hn.cap hn.so ((hS.arrOld hau).sub AB) hul) ?_;rintro _ w4⟨a4,c4,L4,rfl,h4,h4d,h4c,h4s,hS'⟩;have hS:=(hS.callNew hS').perm (vZ L4 L2 P _ _);have hn4:EE (L4++P) x:=hn.more (Ai L4 P)
 (repeat(refine jt ⟨?_⟩;refine hS.q ?_;intro _ hS));refine jt ⟨?_⟩;refine Cl.mono (JW (x:=({x with f:=g}:LM).fresh f2 sb2) hK (hS.part (L:=(lb,(x.fresh f2 sb2).obj)::(L2++(L4++P)))) hn4.at_ hnl) ?_;rintro _ w5⟨rfl,hS'⟩;have hS:=hS.call (L:=(lb,(x.fresh f2 sb2).obj)::(L2++(L4++P))) hS';by_cases hcn:cur=x.now
 ·subst hcn;rw[decide_eq_true rfl];(repeat(refine jt ⟨?_⟩;refine hS.q ?_;intro _ hS));refine jt ⟨?_⟩;refine Cl.mono (JW (x:=({x with f:=g}:LM).fresh f2 sb2) hK (hS.part (L:=(lb,(x.fresh f2 sb2).obj)::(L2++(L4++P)))) hn4.at_ hnl) ?_;rintro _ w6⟨rfl,hS'⟩;have hS:=hS.call (L:=(lb,(x.fresh f2 sb2).obj)::(L2++(L4++P))) hS';rw[decide_eq_true rfl];(repeat(refine jt ⟨?_⟩;refine hS.q ?_;intro _ hS));refine jt ⟨?_⟩
  exact⟨rfl,x.fresh f2 sb2,_,.inl rfl,⟨rfl,rfl⟩,⟨L2,[],[],L4++P,rfl,Lf.anew hK hn4⟩,hS.sub (AS _ _)⟩
 ·obtain rfl:cur=Ch x.now under:=hcur.resolve_left hcn;rw[decide_eq_false hcn];(repeat(refine jt ⟨?_⟩;refine hS.q ?_;intro _ hS));refine jt ⟨?_⟩;have hn5:EE (L4++P) {x with an:=a4,now:=Ch x.now under,cn:=c4}:=⟨h4,h4d,h4c,h4s⟩;refine Cl.mono (JW (x:=({x with an:=a4,now:=Ch x.now under,cn:=c4}:LM).fresh f2 sb2) hK (hS.part (L:=(lb,(({x with an:=a4,now:=Ch x.now under,cn:=c4}:LM).fresh f2 sb2).obj)::(L2++(L4++P)))) h4 (Au hK.len AC)) ?_
  rintro _ w6⟨rfl,hS'⟩;have hS:=hS.call (L:=(lb,(({x with an:=a4,now:=Ch x.now under,cn:=c4}:LM).fresh f2 sb2).obj)::(L2++(L4++P))) hS';rw[decide_eq_true rfl];(repeat(refine jt ⟨?_⟩;refine hS.q ?_;intro _ hS));refine jt ⟨?_⟩;exact⟨rfl,({x with an:=a4,now:=Ch x.now under,cn:=c4}:LM).fresh f2 sb2,_,.inr rfl,⟨rfl,rfl⟩,⟨L2,[],[],L4++P,rfl,Lf.anew (x:={x with an:=a4,now:=Ch x.now under,cn:=c4}) hK hn5⟩,hS.sub (AS _ _)⟩
def Nd(lb c e:Nat)(x:LM)(T:List Nat)(w:World)(v:Value)(w':World):Prop:=v= .bool true∧ ∃y H',x.same y∧GN lb c e y H'∧St w T H' w'
structure Jo(w:World)(T:List Nat)(x:LM)(ao:Option Addr)(ops:List Ac)(af:Option Addr)(fs:List (Int×Int))(ak:Option Addr)(keep:List Int):Prop where
 ah:Arr w T x.ah (x.hs.map AY)
 hl:x.hs.length≤1099511627776
 o:Arr w T ao (ops.flatMap A8)
 ol:Av ops≤1099511627776
 f:Arr w T af (Hj fs)
 fl:fs.length≤1099511627776
 k:Arr w T ak (keep.map AY)
 kl:keep.length≤1099511627776
theorem Lf.more{c c' e e':Nat}{x:LM}{L Lv Lg P:AH}(h:Lf c e x L Lv Lg P)(hc:c≤c')(he:e≤e')(hc1:c'≤7000000)(he1:e'≤262144):Lf c' e' x L Lv Lg P:={h with st:=h.st.more hc he hc1 he1}
theorem Sy{w:World}{T0:List Nat}{w1:World}{lb c e:Nat}{x:LM}{L Q P:AH}{under:List Ac}{b:Nat}{ob:Obj}(h:Nm x.sb x.f c e (λr=>r=x.now∨r=Ch x.now under) L)(hn:EE (Q++P) x)(hS:St w T0 ((b,ob)::(lb,x.obj)::(L++(Q++P))) w1)(hG:Bw w T0)
  {kd n:Int}{key to:AE}{ao:Option Addr}{co:Nat}{ops:List Ac}{af:Option Addr}{cf:Nat}{fs:List (Int×Int)}{ak:Option Addr}{ck:Nat}{keep:List Int}(hb:Jo w T0 x ao ops af fs ak keep){au:Option Addr}{cu:Nat}(hau:Arr w T0 au (under.flatMap A8))(hul:x.now.length+under.length≤8388608)(hc:c+23≤7000000)(he:e≤262144):
  Cl Tryz.prog VE [ptr lb,.agg ⟨D9 kd n key to ao ops.length co af fs.length cf ak keep.length ck⟩,.slice au under.length cu] w1 λv w'=>v= .bool true∧ ∃y H',x.same y∧GN lb (c+23) e y H'∧(y.now=x.now∨y.now=Ch x.now under)∧St w T0 ((b,ob)::H') w':=by
 obtain⟨s,m,hO, -,hd⟩:=h;obtain⟨o,R,LF,rfl,hF, -⟩:=hO.fs;have hS:=hS.sub ((((Ai R LF).cons _).append_right (Q++P) |>.cons_cons (lb,x.obj)).cons_cons (b,ob));refine(UG hF hd.fs hd.found hn (hS.part (L:=(lb,x.obj)::(LF++(Q++P)))) (hG.part hS (L:=(lb,x.obj)::(LF++(Q++P)))) (hb.ah.stay hS (L:=(lb,x.obj)::(LF++(Q++P)))) hb.hl (hb.f.stay hS (L:=(lb,x.obj)::(LF++(Q++P)))) hb.fl (hb.k.stay hS (L:=(lb,x.obj)::(LF++(Q++P)))) hb.kl (hau.stay hS (L:=(lb,x.obj)::(LF++(Q++P)))) hul hc he).mono ?_
 rintro _ w2⟨rfl,y,H',hy,hxy,hL,hS'⟩;exact⟨rfl,y,H',hxy,hL,hy,hS.call (L:=(lb,x.obj)::(LF++(Q++P))) hS'⟩
inductive Nh(c e:Nat)(x:LM)(L:AH):Int→Prop where
 |run (z:Int) (hz:z=0∨z=6) (h:Cg x.sb x.f c e x.sn.length x.now (DF x) L):Nh c e x L z
 |down (h:Nm x.sb x.f c e (· =x.now) L):Nh c e x L 7
theorem XZ{w:World}{lb c e c0:Nat}{x:LM}{L0 L Lv Lg P:AH}(h:Lf c0 e x L0 Lv Lg P){z:Int}(hz:Nh c e x L z)(hh:Holds ((lb,x.obj)::(L++(Lv++(Lg++P)))) w)(hG:Bw w (keys ((lb,x.obj)::(L++(Lv++(Lg++P))))))
  {kd n:Int}{key to:AE}{ao:Option Addr}{co:Nat}{ops:List Ac}{af:Option Addr}{cf:Nat}{fs:List (Int×Int)}{ak:Option Addr}{ck:Nat}{keep:List Int}(hb:Jo w (keys ((lb,x.obj)::(L++(Lv++(Lg++P))))) x ao ops af fs ak keep)(hc:c+23≤7000000)(he:e≤262144):
  Cl Tryz.prog p9 [ptr lb,.agg ⟨D9 kd n key to ao ops.length co af fs.length cf ak keep.length ck⟩,.int .i64 z] w (Nd lb (c+23) e x (keys ((lb,x.obj)::(L++(Lv++(Lg++P))))) w):=by
 have hS:=St.enter hh;have hnl:=h.st.len;have hn:EE (Lv++(Lg++P)) x:=h.at_.more ((Ai Lg P).trans (Ai Lv _));generalize hT:keys ((lb,x.obj)::(L++(Lv++(Lg++P))))=T0 at hS hG hb⊢;refine kM rfl ?_;(repeat(refine jt ⟨?_⟩;refine hS.q ?_;intro _ hS));refine jt ⟨?_⟩;refine hS.al ?_;intro b4 w1 _ hS;(repeat(refine jt ⟨?_⟩;refine hS.q ?_;intro _ hS));refine jt ⟨?_⟩;cases hz with
 |run z hz hK=>
  have hend:Cl Tryz.prog VF [ptr lb,.slice x.an x.now.length x.cn] _ λv w'=>v= .bool true∧St w T0 _ w':=(JW hK (hS.part (L:=(lb,x.obj)::(L++(Lv++(Lg++P))))) hn.at_ AA).mono λv w' h=>⟨by rw[h.1,decide_eq_true rfl],hS.call (L:=(lb,x.obj)::(L++(Lv++(Lg++P)))) h.2⟩;rcases hz with rfl|rfl
  ·(repeat(refine jt ⟨?_⟩;refine hS.q ?_;intro _ hS));refine jt ⟨?_⟩;refine Cl.mono hend ?_;rintro _ w2⟨rfl,hS⟩;(repeat(refine jt ⟨?_⟩;refine hS.q ?_;intro _ hS));refine jt ⟨?_⟩;exact⟨rfl,x,_,⟨rfl,rfl⟩,⟨L,Lv,Lg,P,rfl,{h with st:=hK.more AA (AW _) hc he}⟩,hS.sub (AS _ _)⟩
  ·(repeat(refine jt ⟨?_⟩;refine hS.q ?_;intro _ hS));refine jt ⟨?_⟩;refine Cl.mono hend ?_;rintro _ w2⟨rfl,hS⟩;(repeat(refine jt ⟨?_⟩;refine hS.q ?_;intro _ hS));refine jt ⟨?_⟩;exact⟨rfl,x,_,⟨rfl,rfl⟩,⟨L,Lv,Lg,P,rfl,{h with st:=hK.more AA (AW _) hc he}⟩,hS.sub (AS _ _)⟩
 |down hK=>
  obtain⟨s,m,hO,hd,hdn⟩:=hK;(repeat(refine jt ⟨?_⟩;refine hS.q ?_;intro _ hS));refine jt ⟨?_⟩;refine Cl.mono (hO.down (hS.part (L:=L))) ?_;rintro _ w2⟨rfl,hS'⟩;have hS:=hS.call (L:=L) hS';rw[hdn.off];(repeat(refine jt ⟨?_⟩;refine hS.q ?_;intro _ hS));refine jt ⟨?_⟩;refine Cl.mono (Sy (under:=[]) (Q:=Lv) (P:=Lg++P) ⟨s,m,hO,hd,hdn.off,hdn.found.mono (AW _) (AW _) (λr hr=> .inl hr),hdn.fs⟩ hn hS hG hb (Arr.nil _ _ _) (by simp only[Bv];omega) hc he) ?_
  rintro _ w3⟨rfl,y,H',hxy,hL, -,hS⟩;(repeat(refine jt ⟨?_⟩;refine hS.q ?_;intro _ hS));refine jt ⟨?_⟩;exact⟨rfl,y,H',hxy,hL,hS.sub (AS _ _)⟩
end Go.Proofs.YtkgibdhpijdbfaaGreatDoor
