/- Texts of this claim, one behind the other. -/
import Derived.Test.YtkgibdhpijdbfaaGreatDoorZ35
import Derived.Test.YtkgibdhpijdbfaaGreatDoorZ38
import Derived.Test.YtkgibdhpijdbfaaGreatDoorZ37
import Derived.Test.YtkgibdhpijdbfaaGreatDoorZ39
set_option linter.unusedVariables false
set_option linter.unusedSimpArgs false
set_option maxHeartbeats 16000000
namespace Go.Proofs.YtkgibdhpijdbfaaGreatDoor
open Go Go.Eng Go.Proofs Go.Srt
def EW:AJ:=⟨[],[],0,0,false⟩
abbrev C9:=AE→Option (AE×Nat)
def HB(F G:C9):Prop:=∀n,match F n with
 |none=>G n=none
 |some x=>∃k,x.2≤k∧k≤x.1.length∧G n=some (x.1.take k,k)
theorem HB.no{F G:C9}(h:HB F G){n:AE}(hn:F n=none):G n=none:=by have:=h n;rw[hn]at this;exact this
theorem HB.at{F G:C9}(h:HB F G){n:AE}{x:AE×Nat}(hn:F n=some x): ∃k,x.2≤k∧k≤x.1.length∧G n=some (x.1.take k,k):=by have:=h n;rw[hn]at this;exact this
theorem HB.full{F G:C9}(h:HB F G){n t:AE}(hn:F n=some (t,t.length)):G n=some (t,t.length):=by
 obtain⟨k,h1,h2,h3⟩:=h.at hn;have h1:t.length≤k:=h1;have h2:k≤t.length:=h2;obtain rfl:k=t.length:=AA;rw[h3,Bz]
theorem HB.fullD{F G:C9}(h:HB F G){n:AE}(hn:((F n).getD ([],0)).2=((F n).getD ([],0)).1.length):(G n).getD ([],0)=(F n).getD ([],0):=by
 cases hf:F n with
 |none=>rw[h.no hf]
 |some x=>
  rw[hf]at hn;obtain⟨t,y⟩:=x;have hn:y=t.length:=hn;subst hn;rw[h.full hf]
def Gc(n:Nat)(t:AE)(v:VM):Prop:=∃es tail,t=AQ (es.map Al)++tail∧Rp n Cs es v∧(B7 t (AQ (es.map Al)).length).2.2≠0
theorem Gc.mono{n m:Nat}{t:AE}{v:VM}(h:Gc n t v)(hl:n≤m):Gc m t v:=by
 obtain⟨es,tail,h1,h2,h3⟩:=h;exact⟨es,tail,h1,h2.mono hl,h3⟩
theorem Gc.whole{n:Nat}{es:List EM}{v:VM}(h:Rp n Cs es v):Gc n (AQ (es.map Al)) v:=⟨es,[],AB,h,by rw[Qm _ _ AA];decide⟩
theorem tL{n k:Nat}{es:List EM}{x:EM}{v nx:VM}(h:Rp n Cs es v)(hx:Rp n v [x] nx)(hk:(AQ (es.map Al)).length≤k):
  Gc n ((AQ (es.map Al)++AQ [Al x]).take k) v∨Gc n ((AQ (es.map Al)++AQ [Al x]).take k) nx:=by
 have hok:Bb [Al x]=true:=by unfold Bb;simp;exact hx.1
 rw[List.take_append,HL hk];obtain⟨i,hi,t,h1,h2⟩:=R0 [Al x] (k-(AQ (es.map Al)).length) hok;rw[h1];have hi:i≤1:=hi;by_cases h0:i=0
 ·subst h0;left;refine⟨es,t,by simp[AQ],h,?_⟩;have:=Ql (AQ (es.map Al)) t h2;simpa[AQ]using this
 ·obtain rfl:i=1:=AA;right;have hap:=h.app hx;refine⟨es++[x],t,by simp[AQ],hap,?_⟩;have:=Ql (AQ ((es++[x]).map Al)) t h2;have e:AQ (es.map Al)++(AQ ([Al x].take 1)++t)=AQ ((es++[x]).map Al)++t:=by simp[AQ]
  rw[e];exact this
structure Ga(n:Nat)(F:C9)(j:Int)(v:VM)(T:List (Int×List AF))(bs:List (Int×List Ac)):Prop where
 cur:F Bf=some (AX j,(AX j).length)
 j1:1≤j
 jn:j<v.next
 list: ∃lt,F (AX j)=some (lt,lt.length)∧Gc n lt v
 tab: ∀x∈T,F (Aw x.1)=some (B5 x.2,(B5 x.2).length)
 log:(DU ((F (Aa v.wal)).getD ([],0)).1).1=Ab bs∧((F (Aa v.wal)).getD ([],0)).2=((F (Aa v.wal)).getD ([],0)).1.length
def Fd(n:Nat)(F:C9)(v:VM)(T:List (Int×List AF))(bs:List (Int×List Ac)):Prop:=(F Bf=none∧v=FX∧T=[]∧bs=[])∨ ∃j,Ga n F j v T bs
def Nc(j wal:Int)(T:List (Int×List AF))(k:AE):Prop:=k=Bf∨k=AX j∨k=Aa wal∨ ∃x∈T,k=Aw x.1
theorem Ga.frame{n:Nat}{F G:C9}{j:Int}{v:VM}{T:List (Int×List AF)}{bs:List (Int×List Ac)}(h:Ga n F j v T bs)(hk: ∀k,Nc j v.wal T k→G k=F k):Ga n G j v T bs:=by
 obtain⟨lt,h1,h2⟩:=h.list;have hw:G (Aa v.wal)=F (Aa v.wal):=hk _ (.inr (.inr (.inl rfl)));exact⟨by rw[hk _ (.inl rfl)];exact h.cur,h.j1,h.jn,⟨lt,by rw[hk _ (.inr (.inl rfl))];exact h1,h2⟩,λx hx=>by rw[hk _ (.inr (.inr (.inr ⟨x,hx,rfl⟩)))];exact h.tab x hx,by rw[hw];exact h.log⟩
theorem Ga.cut{n:Nat}{F G:C9}{j:Int}{v:VM}{T:List (Int×List AF)}{bs:List (Int×List Ac)}(h:Ga n F j v T bs)(hc:HB F G):Ga n G j v T bs:=by
 obtain⟨lt,h1,h2⟩:=h.list;have hw:=hc.fullD h.log.2;exact⟨hc.full h.cur,h.j1,h.jn,⟨lt,hc.full h1,h2⟩,λx hx=>hc.full (h.tab x hx),by rw[hw];exact h.log⟩
theorem Ga.mono{n m:Nat}{F:C9}{j:Int}{v:VM}{T:List (Int×List AF)}{bs:List (Int×List Ac)}(h:Ga n F j v T bs)(hl:n≤m):Ga m F j v T bs:=by
 obtain⟨lt,h1,h2⟩:=h.list;exact⟨h.cur,h.j1,h.jn,⟨lt,h1,h2.mono hl⟩,h.tab,h.log⟩
theorem Fd.cut{n:Nat}{F G:C9}{v:VM}{T:List (Int×List AF)}{bs:List (Int×List Ac)}(h:Fd n F v T bs)(hc:HB F G):Fd n G v T bs:=by
 rcases h with⟨h1,h2⟩|⟨j,h⟩
 ·exact .inl ⟨hc.no h1,h2⟩
 ·exact .inr ⟨j,h.cut hc⟩
/-! ## What is in the files-/
abbrev Bu(v:VM)(T:List (Int×List AF))(bs:List (Int×List Ac)):AL:=CJ (Cc 1 1 [] v T) bs
structure Cx(c e:Nat)(v:VM)(T:List (Int×List AF))(bs:List (Int×List Ac))(now:List AO):Prop where
 mem:Gd (Bu v T bs).mem
 tab: ∀x∈T,B8 x.2∧x.2≠[]
 one:Cz ((Bu v T bs).mem++(T.map (·.2)).flatten)
 num:((Bu v T bs).mem++(T.map (·.2)).flatten).length≤e
 nlen:now.length≤e
 adds:(Bu v T bs).adds≤e
 good:Good v
 files:(v.files.map (·.2)).Perm (T.map (·.1))
 next:1≤v.next
 wal:v.wal<v.next
 bnext:v.next≤c*2097152
 top: ∀x∈(Bu v T bs).mem++(T.map (·.2)).flatten,x.s≤(Bu v T bs).seq
 bseq:(Bu v T bs).seq≤c
 view:Be ((Bu v T bs).mem++(T.map (·.2)).flatten) (Bu v T bs).seq now
 bq: ∀b∈bs,0≤b.1∧b.1≤4611686018427387904
 bsz: ∀b∈bs,Av b.2≤4096
 blen:bs.length≤c
theorem Cx.mono{c c' e e':Nat}{v:VM}{T:List (Int×List AF)}{bs:List (Int×List Ac)}{now:List AO}(h:Cx c e v T bs now)(hc:c≤c')(he:e≤e'):Cx c' e' v T bs now:=
 {h with num:=Au h.num he,nlen:=Au h.nlen he,adds:=Au h.adds he,bnext:=by have:=h.bnext;omega,bseq:=by have:=h.bseq;omega,blen:=Au h.blen hc}
def GP(c e:Nat)(F:C9)(S:List AO→Prop):Prop:=∀G,HB F G→ ∃v T bs now,S now∧Fd e G v T bs∧Cx c e v T bs now
theorem GP.mono{c c' e e':Nat}{F:C9}{S S':List AO→Prop}(h:GP c e F S)(hc:c≤c')(he:e≤e')(hs: ∀r,S r→S' r):GP c' e' F S':=λG hG=>by
 obtain⟨v,T,bs,now,h1,h2,h3⟩:=h G hG;refine⟨v,T,bs,now,hs _ h1,?_,h3.mono hc he⟩;rcases h2 with h2|⟨j,h2⟩
 ·exact .inl h2
 ·exact .inr ⟨j,h2.mono he⟩
theorem Fd.rec{c e:Nat}{F:C9}{v:VM}{T:List (Int×List AF)}{bs:List (Int×List Ac)}{now:List AO}(h:Fd e F v T bs)(hc:Cx c e v T bs now):GP c e F (· =now):=λG hG=>⟨v,T,bs,now,rfl,h.cut hG,hc⟩
/-! ## A store in use,and its files-/
structure Dk(e:Nat)(s:AL)(F:C9)(j:Int)(es:List EM)(g:BF)(bs:List (Int×List Ac)):Prop where
 sl:s.list=some g
 gn:g.name=AX j
 j1:1≤j
 jn:j<s.v.next
 cur:F Bf=some (AX j,(AX j).length)
 list:F (AX j)=some (AQ (es.map Al),(AQ (es.map Al)).length)
 rp:Rp e Cs es s.v
 tab: ∀x∈s.tabs,F (Aw x.1)=some (B5 x.2,(B5 x.2).length)
 log:(F (Aa s.v.wal)).getD ([],0)=(AQ (Ab bs),(AQ (Ab bs)).length)
 ok:Bb (Ab bs)=true
 free: ∀k,s.v.next≤k→k≤4611686018427387904→F (Aa k)=none
 mem:(Bu s.v s.tabs bs).mem=s.mem
 seq:(Bu s.v s.tabs bs).seq=s.seq
 adds:(Bu s.v s.tabs bs).adds=s.adds
 bq: ∀b∈bs,0≤b.1∧b.1≤4611686018427387904
 bsz: ∀b∈bs,Av b.2≤4096
theorem Dk.fdl{e:Nat}{s:AL}{F:C9}{j:Int}{es:List EM}{g:BF}{bs:List (Int×List Ac)}(h:Dk e s F j es g bs):Ga e F j s.v s.tabs bs:=by
 refine⟨h.cur,h.j1,h.jn,⟨_,h.list,Gc.whole h.rp⟩,h.tab,?_⟩;rw[h.log];exact⟨by rw[IX _ h.ok],rfl⟩
theorem Dk.frame{e:Nat}{s:AL}{F G:C9}{j:Int}{es:List EM}{g:BF}{bs:List (Int×List Ac)}(h:Dk e s F j es g bs)(hk: ∀k,(Nc j s.v.wal s.tabs k∨ ∃i,k=Aa i)→G k=F k):Dk e s G j es g bs:=
 {h with cur:=by rw[hk _ (.inl (.inl rfl))];exact h.cur,list:=by rw[hk _ (.inl (.inr (.inl rfl)))];exact h.list,tab:=λx hx=>by rw[hk _ (.inl (.inr (.inr (.inr ⟨x,hx,rfl⟩))))];exact h.tab x hx,log:=by rw[hk _ (.inr ⟨_,rfl⟩)];exact h.log,free:=λk h1 h2=>by rw[hk _ (.inr ⟨_,rfl⟩)];exact h.free k h1 h2}
theorem Dk.cont{c e:Nat}{s:AL}{F:C9}{j:Int}{es:List EM}{g:BF}{bs:List (Int×List Ac)}{m:AJ}{now:List AO}{lk:Int→Option (List AO)}(h:Dk e s F j es g bs)(hC:BH e s m now lk)(hX:s.v.next≤c*2097152)(hQ:s.seq≤c)(hb:bs.length≤c):Cx c e s.v s.tabs bs now:=by
 have hE:(Bu s.v s.tabs bs).mem++(s.tabs.map (·.2)).flatten=BS s:=by rw[h.mem];rfl
 exact⟨by rw[h.mem];exact hC.mem,hC.tab,by rw[hE];exact hC.one,by rw[hE];exact hC.num,hC.nlen,by rw[h.adds];exact hC.adds,hC.good,hC.files,hC.next,hC.wal,hX,by rw[hE,h.seq];exact hC.top,by rw[h.seq];exact hQ,by rw[hE,h.seq];exact hC.view,h.bq,h.bsz,hb⟩
/-! ## A batch-/
theorem lO(q:Int)(o:Ac):C4 q (EN o)=C4 q o:=by
 unfold C4 EN;simp only
 split<;>simp_all
theorem Yg(q:Int): ∀(ops:List Ac)(l:List AF),Cw q (ops.map EN) l=Cw q ops l
 |[],l=>rfl
 |o::ops,l=>by
  show Cw q (ops.map EN) (DP (C4 q (EN o)) l)=Cw q ops (DP (C4 q o) l);rw[lO,Yg q ops]
theorem SH(s:AL)(bs:List (Int×List Ac))(b:Int×List Ac):CJ s (bs++[b])=IZ (CJ s bs) b:=by unfold CJ;rw[Ho];rfl
theorem QB(bs:List (Int×List Ac))(b:Int×List Ac):Ab (bs++[b])=Ab bs++[B0 b.1 b.2]:=by unfold Ab;rw[A7];rfl
theorem Dk.took{e e':Nat}{s:AL}{F G:C9}{j:Int}{es:List EM}{g g':BF}{bs:List (Int×List Ac)}{ops:List Ac}(h:Dk e s F j es g bs)(he:e≤e')(hs:0≤s.seq∧s.seq+1≤4611686018427387904)(hsz:Av ops≤4096)(hwn:s.v.wal<s.v.next)(hw0:0≤s.v.wal)(hn:s.v.next≤4611686018427387904)
  (hok:Bb [B0 (s.seq+1) ops]=true)(hk: ∀k,k≠Aa s.v.wal→G k=F k)(hG:G (Aa s.v.wal)=some (AQ (Ab bs)++AQ [B0 (s.seq+1) ops],(AQ (Ab bs)++AQ [B0 (s.seq+1) ops]).length)):Dk e' (Gu s g' ops) G j es g (bs++[(s.seq+1,ops)]):=by
 have hcl:=λi=>EJ s.v.wal i;refine⟨h.sl,h.gn,h.j1,h.jn,by rw[hk _ (EC _).1.symm];exact h.cur,by rw[hk _ (hcl _).symm];exact h.list,h.rp.mono he,λx hx=>by rw[hk _ (FF _ _).symm];exact h.tab x hx,?_,?_,λk h1 h2=>?_,?_,?_,?_,?_,?_⟩
 ·show(G (Aa s.v.wal)).getD ([],0)=_;rw[hG,QB,NK];rfl
 ·rw[QB,Ra,h.ok,hok];rfl
 ·have h1:s.v.next≤k:=h1;rw[hk _ λe=>by have:=Ka ⟨AA,AA⟩ ⟨AA,AA⟩ e;omega];exact h.free k h1 h2
 ·show(CJ (Cc 1 1 [] s.v s.tabs) (bs++[(s.seq+1,ops)])).mem=_;rw[SH];show Cw (s.seq+1) (ops.map EN) (Bu s.v s.tabs bs).mem=Cw (s.seq+1) ops s.mem;rw[Yg,h.mem]
 ·show(CJ (Cc 1 1 [] s.v s.tabs) (bs++[(s.seq+1,ops)])).seq=_;rw[SH];show(if(Bu s.v s.tabs bs).seq<s.seq+1 then s.seq+1 else(Bu s.v s.tabs bs).seq)=s.seq+1;rw[h.seq,if_pos AA]
 ·show(CJ (Cc 1 1 [] s.v s.tabs) (bs++[(s.seq+1,ops)])).adds=_;rw[SH];show(Bu s.v s.tabs bs).adds+ops.length=s.adds+ops.length;rw[h.adds]
 ·intro b hb;rcases Bk.1 hb with hb|hb
  ·exact h.bq b hb
  ·rw[Cm]at hb;subst hb;simp only;omega
 ·intro b hb;rcases Bk.1 hb with hb|hb
  ·exact h.bsz b hb
  ·rw[Cm]at hb;subst hb;exact hsz
theorem Dk.recLog{c e:Nat}{s:AL}{F G:C9}{j:Int}{es:List EM}{g:BF}{bs:List (Int×List Ac)}{b:Int×List Ac}{now now2:List AO}(h:Dk e s F j es g bs)(h1:Cx c e s.v s.tabs bs now)(h2:Cx c e s.v s.tabs (bs++[b]) now2)(hok:Bb [B0 b.1 b.2]=true)
  (hk: ∀k,k≠Aa s.v.wal→G k=F k){y:Nat}(hG:G (Aa s.v.wal)=some (AQ (Ab bs)++AQ [B0 b.1 b.2],y))(hy:(AQ (Ab bs)).length≤y):GP c e G (λr=>r=now∨r=now2):=by
 intro H hH;obtain⟨k,k1,k2,k3⟩:=hH.at hG;have k1:y≤k:=k1;have k2:k≤(AQ (Ab bs)++AQ [B0 b.1 b.2]).length:=k2;have k3:H (Aa s.v.wal)=some ((AQ (Ab bs)++AQ [B0 b.1 b.2]).take k,k):=k3;have hfd: ∀bs',(DU ((AQ (Ab bs)++AQ [B0 b.1 b.2]).take k)).1=Ab bs'→Ga e H j s.v s.tabs bs':=λbs' hs=>by
  refine⟨hH.full (by rw[hk _ (EC _).1.symm];exact h.cur),h.j1,h.jn,⟨_,hH.full (by rw[hk _ (EJ _ _).symm];exact h.list),Gc.whole h.rp⟩,λx hx=>hH.full (by rw[hk _ (FF _ _).symm];exact h.tab x hx),?_⟩;rw[k3];refine⟨hs,?_⟩;show k=((AQ (Ab bs)++AQ [B0 b.1 b.2]).take k).length;rw[Ba];omega
 obtain⟨i,hi, -,h3, -⟩:=wZ (Ab bs) [B0 b.1 b.2] h.ok hok (k-(AQ (Ab bs)).length);have hi:i≤1:=hi;have e1:(AQ (Ab bs)++AQ [B0 b.1 b.2]).take k=AQ (Ab bs)++(AQ [B0 b.1 b.2]).take (k-(AQ (Ab bs)).length):=by
  rw[List.take_append,HL AA]
 rw[←e1]at h3;by_cases h0:i=0
 ·subst h0;exact⟨s.v,s.tabs,bs,now,.inl rfl,.inr ⟨j,hfd bs (by rw[h3];simp)⟩,h1⟩
 ·obtain rfl:i=1:=AA;exact⟨s.v,s.tabs,bs++[b],now2,.inr rfl,.inr ⟨j,hfd _ (by rw[h3,QB];simp)⟩,h2⟩
theorem Re{m:AJ}(h:m.off=false){n:AE}{ps:List AE}{y:Nat}(hp:Bb ps=true)(hx:AN m n=some (AQ ps,y)):D7 m n=⟨ps.length,n,false,false⟩:=by
 unfold D7;rw[Hl h,hx];simp only[IX ps hp];simp
theorem vE{m:AJ}(h:m.off=false){n:AE}(hx:AN m n=none):D7 m n=⟨0,n,false,false⟩:=by
 unfold D7;rw[Hl h,hx];have:=IX [] rfl;unfold AQ at this;simp only[GV,Gj]at this;simp only[this];simp
theorem M9{m:AJ}(h:m.off=false){n:AE}(hn:named n=true):C5 m n=0:=by unfold C5;rw[h,hn];rfl
theorem Xy{v v':VM}{e:EM}(h:BN v e=some v'):C6 e=true:=by
 unfold BN at h
 split at h
 ·rename_i hc;unfold GF at hc;simp only[Bool.and_eq_true]at hc;exact hc.1.1.1
 ·cases h
def JS(s:AL)(g:BF)(x:EM)(nx:VM)(mk:List (Int×List AF)):AL:=
 if 65536<(Al x).length then{s with list:=some ⟨(Ay {nx with next:=nx.next+1}).length,AX nx.next,false,false⟩,v:={nx with next:=nx.next+1},tabs:=FW s.tabs mk x.del}
 else{s with list:=some {g with n:=g.n+1},v:=nx,tabs:=FW s.tabs mk x.del}
def Ig(n:Int)(k:AE):Prop:=k=AX n∨k=BW
structure ZC(e:Nat)(s:AL)(G:C9)(j:Int)(es:List EM)(g:BF):Prop where
 sl:s.list=some g
 gn:g.name=AX j
 j1:1≤j
 jn:j<s.v.next
 cur:G Bf=some (AX j,(AX j).length)
 list:G (AX j)=some (AQ (es.map Al),(AQ (es.map Al)).length)
 rp:Rp e Cs es s.v
inductive NX(e c:Nat)(s:AL)(m:AJ)(g:BF)(x:EM)(nx:VM)(mk:List (Int×List AF))(T:List (Int×List AF))(bs:List (Int×List Ac))(now:List AO)(j:Int)(N:Nat):Int×AL×AJ→Prop where
 |ok (m':AJ) (j':Int) (es':List EM) (g':BF) (h1:m'.off=false) (h2:ZC e (JS s g x nx mk) (AN m') j' es' g') (h3:GL g' (N+1)) (h4: ∀k,k≠AX j→ ¬Ig nx.next k→k≠Bf→AN m' k=AN m k):NX e c s m g x nx mk T bs now j N (0,JS s g x nx mk,m')
 |space (m':AJ) (h1:m'.off=false) (h2: ∀k,¬Ig nx.next k→AN m' k=AN m k):NX e c s m g x nx mk T bs now j N (6,s,m')
 |down (s':AL) (m':AJ) (h1:m'.off=true) (h2:GP c e (AN m') (· =now)) (h3:s'.v=s.v):NX e c s m g x nx mk T bs now j N (7,s',m')
theorem UV{A U N e c:Nat}{s:AL}{m:AJ}{x:EM}{nx:VM}{g:BF}{j:Int}{es:List EM}{bs bs2:List (Int×List Ac)}{T2:List (Int×List AF)}{now:List AO}(mk:List (Int×List AF))(h:m.off=false)(hF:FT A U m)(hgl:GL g N)(hN:4200≤N)
  (hD:Dk e s (AN m) j es g bs)(ha:BN s.v x=some nx)(hnx:DA nx)(hn:0≤nx.next∧nx.next+1≤2305843009213693952)(hxB:Fk (Al x)=some x)
  (hnn:s.v.next≤nx.next)(hfe:nx.files.length≤e)
  (hT2: ∀y∈T2,AN m (Aw y.1)=some (B5 y.2,(B5 y.2).length))(hl2:(AN m (Aa nx.wal)).getD ([],0)=(AQ (Ab bs2),(AQ (Ab bs2)).length))(hok2:Bb (Ab bs2)=true)
  (hc1:Cx c e s.v s.tabs bs now)(hc2:Cx c e nx T2 bs2 now)(hc3:Cx c e {nx with next:=nx.next+1} T2 bs2 now):NX e c s m g x nx mk T2 bs2 now j N (DX s m x mk):=by
 have hjn:=hD.jn;have hj1:=hD.j1;have hln:Ck nx.next:=⟨AA,AA⟩;have hlj:AX j≠AX nx.next:=λe=>by
  have:=K4 (show Ck j from⟨AA,AA⟩) hln (by unfold AX at e;exact(List.cons.inj e).2);omega
 have hlive: ∀{G:C9},(∀k,¬Ig nx.next k→G k=AN m k)→Ga e G j s.v s.tabs bs:=λ{G}hk=>hD.fdl.frame λk hl=>hk k λhn=>by
  rcases hl with rfl|rfl|rfl|⟨y, -,rfl⟩<;>rcases hn with hn|hn
  ·exact(G7 nx.next).1 hn.symm
  ·exact I2 hn.symm
  ·exact hlj hn
  ·exact(G7 j).2 hn
  ·exact EJ _ _ hn
  ·exact(EC _).2 hn
  ·exact Fv _ _ hn
  ·exact(Ey _).2 hn
 have hold: ∀{G:C9},(∀k,¬Ig nx.next k→G k=AN m k)→GP c e G (· =now):=λhk=>Fd.rec (.inr ⟨j,hlive hk⟩) hc1;have hrx: ∀hs:(Al x).length≤65536,Rp e s.v [x] nx:=λhs=>Rp.one hs hxB ha hfe;unfold DX;rw[ha];simp only;by_cases hlong:65536<(Al x).length
 ·rw[if_pos hlong];have hedS:JS s g x nx mk={s with list:=some ⟨(Ay {nx with next:=nx.next+1}).length,AX nx.next,false,false⟩,v:={nx with next:=nx.next+1},tabs:=FW s.tabs mk x.del}:=if_pos hlong;obtain⟨n1,n2,n3, -, -⟩:=hnx.next_fine hn.2;have hw:=hnx.succ hn.2;have hok:Bb (Ay {nx with next:=nx.next+1})=true:=OC n2;have hes:(Ay {nx with next:=nx.next+1}).length≤4196:=by rw[JT];exact OA hnx.num
  have hrp:=UY hw (n:=e) hfe;unfold FQ;simp only;obtain⟨a1,a2,a3⟩:=Rs h hF.fb (HP hln) hok;have hB1:=hF.fb.rewrite (AX nx.next) (Ay {nx with next:=nx.next+1}) (by rw[Dr];omega);generalize Cd m (AX nx.next) (Ay {nx with next:=nx.next+1})=q1 at a1 a2 a3 hB1⊢;obtain⟨e1,m1⟩:=q1;simp only at a1 a2 a3 hB1⊢;have s1: ∀k,¬Ig nx.next k→AN m1 k=AN m k:=λk hk=>a1.same k λe=>hk (.inl e);rcases a2 with rfl|rfl|rfl
  rotate_left
  ·exact .space m1 (a1.up' AC) s1
  ·exact .down _ m1 (a1.down.2 rfl) (hold s1) rfl
  have u1:=a1.up' AC;simp only[ne_eq,not_true_eq_false,if_false];have hnm:=(Fq hln).2.2;obtain⟨b1,b2,b3⟩:=OL u1 hB1 Oh (AX nx.next);have hB2:=hB1.file BW (AX nx.next) AA;generalize CE m1 BW (AX nx.next)=q2 at b1 b2 b3 hB2⊢;obtain⟨e2,m2⟩:=q2;simp only at b1 b2 b3 hB2⊢;have s2: ∀k,¬Ig nx.next k→AN m2 k=AN m k:=λk hk=>(b1.same k λe=>hk (.inr e)).trans (s1 k hk);rcases b2 with rfl|rfl|rfl
  rotate_left
  ·exact .space m2 (b1.up' AC) s2
  ·exact .down _ m2 (b1.down.2 rfl) (hold s2) rfl
  have u2:=b1.up' AC;simp only[ne_eq,not_true_eq_false,if_false];obtain⟨l1,l2⟩:=G7 nx.next;have gl2:AN m2 (AX nx.next)=some (AQ (Ay {nx with next:=nx.next+1}),(AQ (Ay {nx with next:=nx.next+1})).length):=by rw[b1.same _ l2];exact a3 rfl
  obtain⟨c1,c2,c3,c4⟩:=Xr u2 hB2 Og I2 (b3 rfl);generalize Cv m2 BW Bf=q3 at c1 c2 c3 c4⊢;obtain⟨e3,m3⟩:=q3;simp only at c1 c2 c3 c4⊢;have s3: ∀k,k≠Bf→ ¬Ig nx.next k→AN m3 k=AN m k:=λk hk hk2=>(c1.same k λe=>e.elim (λe=>hk2 (.inr e)) hk).trans (s2 k hk2);have gl3:AN m3 (AX nx.next)=some (AQ (Ay {nx with next:=nx.next+1}),(AQ (Ay {nx with next:=nx.next+1})).length):=by rw[c1.same _ λe=>e.elim l2 l1];exact gl2
  have hnew:AN m3 Bf=some (AX nx.next,(AX nx.next).length)→Ga e (AN m3) nx.next {nx with next:=nx.next+1} T2 bs2:=λhcu=>by
   refine⟨hcu,AA,by show nx.next<nx.next+1;omega,⟨_,gl3,?_⟩,λy hy=>by rw[s3 _ (Ey _).1 λe=>e.elim (Fv _ _) (Ey _).2];exact hT2 y hy,?_⟩
   ·rw[OB];exact Gc.whole hrp
   ·have hw3:AN m3 (Aa nx.wal)=AN m (Aa nx.wal):=s3 _ (EC _).1 λe=>e.elim (EJ _ _) (EC _).2;show(DU ((AN m3 (Aa nx.wal)).getD ([],0)).1).1=Ab bs2∧_;rw[hw3,hl2];exact⟨by rw[IX _ hok2],rfl⟩
  rcases c2 with rfl|rfl
  rotate_left
  ·refine .down _ m3 (c1.down.2 rfl) ?_ rfl;rcases c4 with c4|c4
   ·exact hold λk hk=>(c4 k).trans (s2 k hk)
   ·exact Fd.rec (.inr ⟨_,hnew c4⟩) hc3
  have u3:=c1.up' AC;have hcu:=c3 rfl;simp only[ne_eq,not_true_eq_false,if_false];rw[M9 u3 (HP hln)];simp only[ne_eq,not_true_eq_false,if_false];rw[Re u3 hok gl3,←hedS];refine .ok m3 nx.next (JU {nx with next:=nx.next+1}) ⟨(Ay {nx with next:=nx.next+1}).length,AX nx.next,false,false⟩ u3 ?_ ⟨rfl,rfl,HP hln,by simp only;omega⟩ λk hk1 hk2 hk3=>s3 k hk3 hk2;rw[hedS];exact⟨rfl,rfl,AA,by show nx.next<nx.next+1;omega,hcu,by rw[←OB];exact gl3,hrp⟩
 ·rw[if_neg hlong,hD.sl];simp only;have hedS:JS s g x nx mk={s with list:=some {g with n:=g.n+1},v:=nx,tabs:=FW s.tabs mk x.del}:=if_neg hlong;have hok:Bb [Al x]=true:=by unfold Bb;simp;omega
  have hr:=hrx AA;obtain⟨a1,a2,a3,a4,a5⟩:=Ti h hgl hok AB;have hg0:(AN m g.name).getD ([],0)=(AQ (es.map Al),(AQ (es.map Al)).length):=by rw[hD.gn,hD.list];rfl
  rw[hg0]at a4 a5;have hgn:=hD.gn;generalize appL m g [Al x]=q at a1 a2 a3 a4 a5⊢;obtain⟨e1,g1,m1⟩:=q;simp only at a1 a2 a3 a4 a5⊢;rcases a2 with rfl|rfl|rfl
  ·rw[hgn]at a1;obtain⟨rfl,a6⟩:=a4 rfl;rw[hgn]at a6;simp only[ne_eq,not_true_eq_false,if_false,Ah,Bv,DR];rw[←hedS];refine .ok m1 j (es++[x]) {g with n:=g.n+1} (a1.up' AC) ?_ ⟨hgl.torn,hgl.dead,hgl.name,by have:=hgl.num;simp only;omega⟩ λk hk1 _ _=>a1.same k hk1;rw[hedS];have e9:AQ ((es++[x]).map Al)=AQ (es.map Al)++AQ [Al x]:=by rw[A7,NK];rfl
   exact⟨rfl,hD.gn,hj1,by show j<nx.next;omega,by rw[a1.same _ (G7 j).1.symm];exact hD.cur,by rw[e9];exact a6,hD.rp.app hr⟩
  ·rw[hgn]at a1;obtain⟨hg1,a6⟩:=a3 rfl;rw[hgn]at a6;subst hg1;simp only[ne_eq,show¬(6:Int)=0 by decide,not_false_eq_true,if_true];rw[show({s with list:=some g1}:AL)=s by have:=hD.sl;cases s;simp only at this;rw[this]];refine .space m1 (a1.up' AC) λk _=>?_;by_cases hk:k=AX j
   ·rw[hk];exact a6
   ·exact a1.same k hk
  ·rw[hgn]at a1 a5;simp only[ne_eq,show¬(7:Int)=0 by decide,not_false_eq_true,if_true];refine .down _ m1 (a1.down.2 rfl) ?_ rfl;have key: ∀y,(AQ (es.map Al)).length≤y→AN m1 (AX j)=some (AQ (es.map Al)++AQ [Al x],y)→GP c e (AN m1) (· =now):=by
    intro y hy hG H hH;obtain⟨k,k1,k2,k3⟩:=hH.at hG;have k1:y≤k:=k1;have k2:k≤(AQ (es.map Al)++AQ [Al x]).length:=k2;have k3:H (AX j)=some ((AQ (es.map Al)++AQ [Al x]).take k,k):=k3;have hlen:k=((AQ (es.map Al)++AQ [Al x]).take k).length:=by rw[Ba];omega
    have hsame: ∀k,k≠AX j→AN m1 k=AN m k:=λk hk=>a1.same k hk;have hcur:H Bf=some (AX j,(AX j).length):=hH.full (by rw[hsame _ (G7 j).1.symm];exact hD.cur);have hls: ∀v,Gc e ((AQ (es.map Al)++AQ [Al x]).take k) v→ ∃lt,H (AX j)=some (lt,lt.length)∧Gc e lt v:=λv hv=>⟨_,by rw[←hlen];exact k3,hv⟩;rcases tL hD.rp hr (k:=k) AA with h1|h1
    ·refine⟨s.v,s.tabs,bs,now,rfl,.inr ⟨j,hcur,hj1,hjn,hls _ h1,λy hy=>hH.full (by rw[hsame _ (Fv _ _)];exact hD.tab y hy),?_⟩,hc1⟩;have hw1:(AN m1 (Aa s.v.wal)).getD ([],0)=(AQ (Ab bs),(AQ (Ab bs)).length):=by rw[hsame _ (EJ _ _)];exact hD.log
     rw[hH.fullD (by rw[hw1]),hw1];exact⟨by rw[IX _ hD.ok],rfl⟩
    ·refine⟨nx,T2,bs2,now,rfl,.inr ⟨j,hcur,hj1,AA,hls _ h1,λy hy=>hH.full (by rw[hsame _ (Fv _ _)];exact hT2 y hy),?_⟩,hc2⟩;have hw1:(AN m1 (Aa nx.wal)).getD ([],0)=(AQ (Ab bs2),(AQ (Ab bs2)).length):=by rw[hsame _ (EJ _ _)];exact hl2
     rw[hH.fullD (by rw[hw1]),hw1];exact⟨by rw[IX _ hok2],rfl⟩
   rcases a5 with a5|a5|a5
   ·refine hold λk _=>?_;by_cases hk:k=AX j
    ·rw[hk];exact a5
    ·exact a1.same k hk
   ·exact key _ (AW _) a5
   ·exact key _ (by rw[AP];omega) a5
theorem PO:Up EW:=⟨rfl,rfl⟩
theorem OP: ∀(n:Int)k,n≤k→k≤4611686018427387904→AN EW (Aa k)=none:=λ_ _ _ _=>rfl
theorem BH.goodN{e:Nat}{s:AL}{m:AJ}{now:List AO}{lk:Int→Option (List AO)}(h:BH e s m now lk)(he:e≤1048576)(hX:s.v.next≤1152921504606846976)(hQ:s.seq≤1152921504606846976):DA s.v:=⟨h.good,by have:=h.cnt;omega,by have:=h.wal;omega,AA,by have:=h.vseq;omega⟩
theorem BH.flushG{e:Nat}{s:AL}{now:List AO}{lk:Int→Option (List AO)}(h:BH e s EW now lk){mk:List (Int×List AF)}{v':VM}{g' g2:BF}(hp:mk.Perm (Aq s.v.next (AR 64 s.mem)))(hf:v'.files.Perm (s.v.files++Bx 0 (Aq s.v.next (AR 64 s.mem))))(hw:v'.wal=s.v.next+(AR 64 s.mem).length)
  (hn:s.v.next+(AR 64 s.mem).length+1≤v'.next)(hs:v'.seq=s.seq)(hg:Good v')(hgn: ∃j,g'.name=AX j)(hg2:g2.name=Aa v'.wal):
  BH e {s with list:=some g',v:=v',tabs:=s.tabs++mk,mem:=[],adds:=0,log:=some g2} EW now lk:=by
 have hE:(BS {s with list:=some g',v:=v',tabs:=s.tabs++mk,mem:=[],adds:=0,log:=some g2}).Perm (BS s):=by
  show(([]:List AF)++((s.tabs++mk).map (λx:Int×List AF=>x.2)).flatten).Perm (s.mem++(s.tabs.map (λx:Int×List AF=>x.2)).flatten);rw[Ca,A7,kC];refine Gl.trans (List.Perm.append_right _ ?_);have h1:=(List.Perm.map (λx:Int×List AF=>x.2) hp).flatten;rw[I3,KM AA]at h1;exact h1
 have hk:=h.next;refine⟨h.dead,PO,⟨List.Pairwise.nil,λx hx=>(by cases hx),λx hx=>(by cases hx),λx hx=>(by cases hx),Ag _⟩,λx hx=>?_,Cz.perm h.one hE.symm,by rw[hE.length_eq];exact h.num,h.nlen,Ag _,hg,?_,by show 1≤v'.next;omega,by show v'.wal<v'.next;omega,λg3 hg3=>by cases hg3;exact hgn,λg3 hg3=>by cases hg3;exact hg2,OP _,by show v'.seq≤s.seq;omega,h.seq,λx hx=>h.top x (hE.mem_iff.1 hx),h.given,h.sqn,h.sqnd,h.hts,h.view.mem λx=>(hE.mem_iff).symm,h.lookq rfl (m':=EW) λq rs _ _ hv=>hv.mem λx=>(hE.mem_iff).symm⟩
 ·rcases Bk.1 hx with hx|hx
  ·exact h.tab x hx
  ·have h2:x.2∈AR 64 s.mem:=by
    have:=CC (f:=(·.2)) (hp.mem_iff.1 hx);rwa[I3]at this
   exact⟨h.mem.tab x.2 h2,(KN AA h2).1⟩
 ·show(v'.files.map (·.2)).Perm ((s.tabs++mk).map (·.1));rw[A7];refine(hf.map _).trans ?_;rw[A7];refine List.Perm.append h.files ?_;rw[JV];exact(hp.map _).symm
theorem BH.compactG{e:Nat}{s:AL}{now:List AO}{lk:Int→Option (List AO)}(h:BH e s EW now lk)(hm:s.mem=[]){r:List AF}{seen:List Int}(h1:r.Perm (Dy s))(h2:Az r)(h3:seen.Perm (Hz s)){mk:List (Int×List AF)}{v':VM}{g':BF}(hp:mk.Perm (Aq s.v.next (AR 64 (BD seen r))))(hmem:Gd (BD seen r))
  (hf:v'.files.Perm (Bx 1 (Aq s.v.next (AR 64 (BD seen r)))))(hw:v'.wal=s.v.wal)(hn:s.v.next+(AR 64 (BD seen r)).length≤v'.next)(hs:v'.seq=s.v.seq)(hg:Good v')(hgn: ∃j,g'.name=AX j):
  BH e {s with list:=some g',v:=v',tabs:=mk} EW now lk:=by
 have hA:(BS s)=Dy s:=by rw[GT,hm,Ca]
 have hE:(BS {s with list:=some g',v:=v',tabs:=mk}).Perm (BD seen r):=by
  show(s.mem++(mk.map (·.2)).flatten).Perm _;rw[hm,Ca];have h4:=(List.Perm.map (λx:Int×List AF=>x.2) hp).flatten;rw[I3,KM AA]at h4;exact h4
 have hk:=h.next;have hwl:=h.wal;have htop: ∀x∈r,x.s≤s.seq:=λx hx=>h.top x (by rw[hA];exact h1.mem_iff.1 hx);have hview: ∀q rs,(q∈seen∨ ∀x∈r,x.s≤q)→Be (BS s) q rs→Be (BS {s with list:=some g',v:=v',tabs:=mk}) q rs:=λq rs hq hv=>by
  have hv1:Be r q rs:=hv.mem λx=>by rw[hA];exact h1.mem_iff.symm
  have hv2:Be (BD seen r) q rs:=hv1.same λk v=>Ym h2 seen hq k v;exact hv2.mem λx=>hE.mem_iff.symm
 refine⟨h.dead,PO,by show Gd s.mem;exact h.mem,λx hx=>?_,Cz.perm (Az.one (SO h2 seen)) hE.symm,?_,h.nlen,h.adds,hg,?_,by show 1≤v'.next;omega,by show v'.wal<v'.next;omega,λg3 hg3=>by cases hg3;exact hgn,λg3 hg3=>by show g3.name=Aa v'.wal;rw[h.wname g3 hg3,hw],OP _,by show v'.seq≤s.seq;rw[hs];exact h.vseq,h.seq,λx hx=>htop x (SP seen x (hE.mem_iff.1 hx)),h.given,h.sqn,h.sqnd,h.hts,hview _ _ (.inr htop) h.view,h.lookq rfl (m':=EW) λq rs hq _ hv=>hview q rs (.inl (h3.mem_iff.2 hq)) hv⟩
 ·have h4:x.2∈AR 64 (BD seen r):=by
   have:=CC (f:=(·.2)) (hp.mem_iff.1 hx);rwa[I3]at this
  exact⟨hmem.tab x.2 h4,(KN AA h4).1⟩
 ·rw[hE.length_eq];have h4:=(MA seen r).length_le;have h5:=h1.length_eq;have h6:=h.num;rw[hA]at h6;omega
 ·show(v'.files.map (·.2)).Perm (mk.map (·.1));refine(hf.map _).trans ?_;rw[JV];exact(hp.map _).symm
theorem UC{c e:Nat}{s:AL}{now:List AO}{lk:Int→Option (List AO)}{bs:List (Int×List Ac)}(hC:BH e s EW now lk)(h1:(Bu s.v s.tabs bs).mem=s.mem)(h2:(Bu s.v s.tabs bs).seq=s.seq)(h3:(Bu s.v s.tabs bs).adds≤e)(hX:s.v.next≤c*2097152)(hQ:s.seq≤c)(hb:bs.length≤c)
  (hq: ∀b∈bs,0≤b.1∧b.1≤4611686018427387904)(hz: ∀b∈bs,Av b.2≤4096):Cx c e s.v s.tabs bs now:=by
 have hE:(Bu s.v s.tabs bs).mem++(s.tabs.map (·.2)).flatten=BS s:=by rw[h1];rfl
 exact⟨by rw[h1];exact hC.mem,hC.tab,by rw[hE];exact hC.one,by rw[hE];exact hC.num,hC.nlen,h3,hC.good,hC.files,hC.next,hC.wal,hX,by rw[hE,h2];exact hC.top,by rw[h2];exact hQ,by rw[hE,h2];exact hC.view,hq,hz,hb⟩
def Gw(e:Nat)(s:AL)(m:AJ)(B:Nat):Prop:=∃j es g bs,Dk e s (AN m) j es g bs∧bs.length≤B
inductive MG(A U X N Q c e B:Nat)(s:AL)(now:List AO)(lk:Int→Option (List AO)):Int×AL×AJ→Prop where
 |ok (s':AL) (m':AJ) (h1:m'.off=false) (h2:BH e s' EW now lk) (h3:Gw e s' m' B) (h4:DJ A U X N Q s' m') (h5:s'.mem=[]) (h6:s'.given=s.given):MG A U X N Q c e B s now lk (0,s',m')
 |space (m':AJ) (h1:m'.off=false) (h3:Gw e s m' B) (h4:DJ A U X N Q s m'):MG A U X N Q c e B s now lk (6,s,m')
 |down (s':AL) (m':AJ) (h1:m'.off=true) (h2:GP c e (AN m') (· =now)) (h3:FT A U m') (h4:s'.v.files.length≤e):MG A U X N Q c e B s now lk (7,s',m')
theorem rF{A U X N Q c e B:Nat}{s:AL}{m:AJ}{now:List AO}{lk:Int→Option (List AO)}(hC:BH e s EW now lk)(h:m.off=false)(hDs:Gw e s m B)(hb:DJ A U X N Q s m)(he:e≤1048576)(hT:536870912≤U∧U+1048576≤1099511627776)(hX:X≤576460752303423488)(hQ:Q≤576460752303423488)(hN:4200≤N)
  (hcX:X+e+2≤c*2097152)(hcQ:Q≤c)(hB:B≤c){mk:List (Int×List AF)}(hp:mk.Perm (Aq s.v.next (AR 64 s.mem))):MG (A+3*e+8) (U+65544) (X+e+2) (N+1) Q c e B s now lk (By s m mk):=by
 by_cases hne:s.mem=[]
 ·have e0:By s m mk=(0,s,m):=by unfold By;simp[hne]
  rw[e0];exact .ok s m h hC hDs (hb.mono AA AA AA AA (AW _)) hne rfl
 obtain⟨j,es,g,bs,hD,hbl⟩:=hDs;have hcn:=hC.cnt;have hn:=hb.next;have hq:=hb.seq;have hnx1:=hC.next;have hv:=hC.goodN he AA AA;have hcs:=I9 64 s.mem AA;obtain⟨g0,hg0,hgl⟩:=hb.list;rw[hD.sl]at hg0;cases hg0;obtain⟨k1,k2⟩:=Of hC hp;obtain⟨l1,l2,l3⟩:=RE ⟨AA,AA⟩ (AR 64 s.mem) s.v.next h hb.ft hC.mem.tab AA AA;have hF1:=FT.lay ⟨AA,AA⟩ (AR 64 s.mem) s.v.next hb.ft hC.mem.tab;have hfo:=Ku 0 (AR 64 s.mem) s.v.next
 have hfl:(Bx 0 (Aq s.v.next (AR 64 s.mem))).length=(AR 64 s.mem).length:=by rw[J1,Jh]
 obtain⟨X0,hX0⟩: ∃X0:EM,X0=⟨Bx 0 (Aq s.v.next (AR 64 s.mem)),[],s.v.next+(AR 64 s.mem).length,s.v.next+(AR 64 s.mem).length+1,s.seq⟩:=⟨_,rfl⟩;obtain⟨nx,ha,hw,hx,hs,hpf⟩:=Nw (v:=s.v) (e:=X0) hv.good
  (λf hf=>by rw[hX0]at hf;obtain⟨f1,f2,f3⟩:=hfo f hf;exact⟨Hx.2 ⟨AA,AA,AA⟩,f2,by rw[hX0];show f.2<s.v.next+(AR 64 s.mem).length+1;omega⟩)
  (by rw[hX0];show((Bx 0 (Aq s.v.next (AR 64 s.mem))).map (·.2)).Nodup;rw[JV];exact LK _ _) (.inl (by rw[hX0])) (by rw[hX0];show s.v.next≤s.v.next+(AR 64 s.mem).length+1;omega) (by rw[hX0];exact hC.vseq) (by rw[hX0];show 0≤s.v.next+(AR 64 s.mem).length;omega)
 have hdel:X0.del=[]:=by rw[hX0]
 have hadd:X0.add=Bx 0 (Aq s.v.next (AR 64 s.mem)):=by rw[hX0]
 rw[if_pos hdel,hadd]at hpf;have hw:nx.wal=s.v.next+(AR 64 s.mem).length:=by rw[hw,hX0]
 have hx:nx.next=s.v.next+(AR 64 s.mem).length+1:=by rw[hx,hX0]
 have hs:nx.seq=s.seq:=by rw[hs,hX0]
 obtain⟨hnx,hnn⟩:=Kp hv (by rw[hadd,hfl];omega) (by rw[hX0];show s.v.next+(AR 64 s.mem).length≤_;omega) (by rw[hX0];show s.v.next+(AR 64 s.mem).length+1≤_;omega) (by rw[hX0];show s.seq≤_;omega) nx ha;have hxB:Fk (Al X0)=some X0:=by
  have hr:=Xy ha;have hok:EQ X0:=by
   rw[hX0];refine⟨λf hf=>?_,λn hn=>(by cases hn),Do ⟨by show 0≤s.v.next+(AR 64 s.mem).length;omega,by show s.v.next+(AR 64 s.mem).length≤_;omega⟩,Do ⟨by show 0≤s.v.next+(AR 64 s.mem).length+1;omega,by show s.v.next+(AR 64 s.mem).length+1≤_;omega⟩,Do ⟨hC.seq,by show s.seq≤_;omega⟩⟩;obtain⟨f1,f2,f3⟩:=hfo f hf;exact⟨Do AA,Do AA⟩
  have hl:=N9 hok (by rw[hadd,hfl];omega) hdel;rw[hadd,hfl]at hl;exact(Mc AA).2 ⟨rfl,hok,hr⟩
 have hfe:nx.files.length≤e:=by
  have h1:=hpf.length_eq;have h2:=hC.files.length_eq;have h3:=hC.num;have h4:=OO (s.tabs.map (·.2)) λl hl=>by
   obtain⟨x,hx,rfl⟩:=BU.1 hl;exact(hC.tab x hx).2
  rw[GT,AP]at h3;rw[AP,hfl]at h1;simp only[BZ]at h2 h4;have h5:(Dy s).length=((s.tabs.map (·.2)).flatten).length:=rfl;omega
 have htab:FW s.tabs mk X0.del=s.tabs++mk:=by rw[hdel];exact Ye k1 k2
 have hv3: ∀v':VM,(v'=nx∨v'={nx with next:=nx.next+1})→v'.files=nx.files∧v'.wal=nx.wal∧v'.seq=nx.seq∧nx.next≤v'.next∧v'.next≤nx.next+1∧DA v':=λv' hv'=>by
  rcases hv' with rfl|rfl
  ·exact⟨rfl,rfl,rfl,EZ _,AA,hnx⟩
  ·exact⟨rfl,rfl,rfl,by simp only;omega,EZ _,hnx.succ hnn⟩
 have hcore: ∀(v':VM)(g' g2:BF),(v'=nx∨v'={nx with next:=nx.next+1})→(∃j,g'.name=AX j)→g2.name=Aa nx.wal→BH e {s with list:=some g',v:=v',tabs:=s.tabs++mk,mem:=[],adds:=0,log:=some g2} EW now lk:=λv' g' g2 hv' hgn hg2=>by
  obtain⟨a1,a2,a3,a4, -,a6⟩:=hv3 v' hv';exact hC.flushG hp (by rw[a1];exact hpf) (by rw[a2];exact hw) AA (by rw[a3];exact hs) a6.good hgn (by rw[a2];exact hg2)
 have hcont: ∀v':VM,(v'=nx∨v'={nx with next:=nx.next+1})→Cx c e v' (s.tabs++mk) [] now:=λv' hv'=>by
  obtain⟨a1,a2,a3,a4,a5,a6⟩:=hv3 v' hv';exact UC (hcore v' ⟨0,AX 0,false,false⟩ ⟨0,Aa nx.wal,false,false⟩ hv' ⟨0,rfl⟩ rfl) rfl (by show v'.seq=s.seq;rw[a3];exact hs) (Ag _) (by show v'.next≤_;omega) (by show s.seq≤_;omega) (Ag _) (λb hb=>by cases hb) (λb hb=>by cases hb)
 have hc1:Cx c e s.v s.tabs bs now:=hD.cont hC AA AA AA;have hF0:By s m mk=By s m mk:=rfl
 conv at hF0=>rhs;unfold By
 simp only at hF0;rw[if_neg hne,←hX0]at hF0;generalize hqq:Bh m s.v.next (AR 64 s.mem)=q at l1 l2 l3 hF1 hF0;obtain⟨e1,m1⟩:=q;simp only at l1 l2 l3 hF1 hF0;have hlayL: ∀k,(Nc j s.v.wal s.tabs k∨ ∃i,k=Aa i)→AN m1 k=AN m k:=λk hk=>l1.same k λ⟨i,i1,i2,hi⟩=>by
  subst hi;rcases hk with(hk|hk|hk|⟨y,hy,hk⟩)|⟨z,hk⟩
  ·exact(Ey i).1 hk
  ·exact Fv _ _ hk
  ·exact FF _ _ hk.symm
  ·have h5:=hC.keys.2 y.1 (CC hy);have:=Lk ⟨AA,AA⟩ ⟨AA,AA⟩ hk;omega
  ·exact FF _ _ hk.symm
 have hD1:Dk e s (AN m1) j es g bs:=hD.frame hlayL;have hb1:DJ (A+3*e+8) (U+65544) (X+e+2) (N+1) Q s m1:={hb.mono (A':=A+3*e+8) (T':=U+65544) (X':=X+e+2) (N':=N+1) (Q':=Q) AA AA AA AA (AW _)with ft:=hF1.mono AA AA};rcases l2 with rfl|rfl|rfl
 rotate_left
 ·rw[if_pos AC]at hF0;rw[hF0];exact .space m1 (l1.up' AC) ⟨j,es,g,bs,hD1,hbl⟩ hb1
 ·rw[if_pos AC]at hF0;rw[hF0];exact .down _ m1 (l1.down.2 rfl) (Fd.rec (.inr ⟨j,hD1.fdl⟩) hc1) hb1.ft hcn.2.2.2
 rw[if_neg AC]at hF0;have u1:=l1.up' AC;have hlaid:=l3 rfl;have hi:Ck (s.v.next+(AR 64 s.mem).length):=⟨AA,AA⟩;have hw0:AN m1 (Aa nx.wal)=none:=by rw[hw];exact hD1.free _ AA AA
 have hF2:=hF1.edit s X0 mk (by
  intro nx' hnx';rw[ha]at hnx';cases hnx';obtain⟨h3,h4,h5,h6⟩:=hnx.next_fine hnn;have:=(Fq (n:=nx.next) ⟨AA,AA⟩).2.2;exact⟨by rw[Dr];omega,AA⟩) AA
 have hT2: ∀y∈s.tabs++mk,AN m1 (Aw y.1)=some (B5 y.2,(B5 y.2).length):=λy hy=>by
  rcases Bk.1 hy with hy|hy
  ·exact hD1.tab y hy
  ·exact hlaid y (hp.mem_iff.1 hy)
 have hed:=UV (c:=c) (T2:=s.tabs++mk) (bs2:=[]) mk u1 hF1 hgl hN hD1 ha hnx ⟨AA,hnn⟩ hxB AA hfe hT2 (by rw[hw0];rfl) rfl hc1 (hcont nx (.inl rfl)) (hcont _ (.inr rfl));generalize DX s m1 X0 mk=q2 at hed hF0 hF2;cases hed with
 |space m2 a1 a2=>
  simp only at hF0 hF2;rw[if_pos AC]at hF0;rw[hF0];have hD2:Dk e s (AN m2) j es g bs:=hD1.frame λk hk=>a2 k λhn=>by
   have hlj:AX j≠AX nx.next:=λe=>by
    have h5:=hD.jn;have h6:=hD.j1;have:=K4 (show Ck j from⟨AA,AA⟩) (show Ck nx.next from⟨AA,AA⟩) (by unfold AX at e;exact(List.cons.inj e).2);omega
   rcases hk with(rfl|rfl|rfl|⟨y, -,rfl⟩)|⟨z,rfl⟩<;>rcases hn with hn|hn
   ·exact(G7 nx.next).1 hn.symm
   ·exact I2 hn.symm
   ·exact hlj hn
   ·exact(G7 j).2 hn
   ·exact EJ _ _ hn
   ·exact(EC _).2 hn
   ·exact Fv _ _ hn
   ·exact(Ey _).2 hn
   ·exact EJ _ _ hn
   ·exact(EC _).2 hn
  exact .space m2 a1 ⟨j,es,g,bs,hD2,hbl⟩ {hb1 with ft:=hF2.mono AA (AW _)}
 |down s2 m2 a1 a2 a5=>
  simp only at hF0 hF2;rw[if_pos AC]at hF0;rw[hF0];exact .down _ m2 a1 a2 (hF2.mono AA (AW _)) (by rw[a5];exact hcn.2.2.2)
 |ok m2 j' es' g' a1 a2 a3 a4=>
  simp only at hF0 hF2;rw[if_neg AC,M9 a1 (Ht hi),if_neg AC]at hF0;have hfr: ∀k,k≠AX j→ ¬Ig nx.next k→k≠Bf→AN m2 k=AN m1 k:=a4;have hwk: ∀i,AN m2 (Aa i)=AN m1 (Aa i):=λi=>hfr _ (EJ _ _) (λhn=>hn.elim (EJ _ _) (EC _).2) (EC _).1;have htk: ∀i,AN m2 (Aw i)=AN m1 (Aw i):=λi=>hfr _ (Fv _ _) (λhn=>hn.elim (Fv _ _) (Ey _).2) (Ey _).1;rw[vE a1 (by rw[hwk,←hw];exact hw0)]at hF0;obtain⟨d1,d2, -,d4, -⟩:=N5 a1 hF2.fb.nd (Aa s.v.wal)
  have hF3:=hF2.del (Aa s.v.wal);generalize A9 m2 (Aa s.v.wal)=q3 at d1 d2 d4 hF0 hF3;obtain⟨e3,m3⟩:=q3;simp only at d1 d2 d4 hF0 hF3;have hwn:=hC.wal;have hw00:=hC.good.nn.1;have hed2: ∃v',(v'=nx∨v'={nx with next:=nx.next+1})∧ ∃g'',JS s g X0 nx mk={s with list:=some g'',v:=v',tabs:=s.tabs++mk}:=by
   unfold JS
   split
   ·exact⟨_,.inr rfl,_,by rw[htab]⟩
   ·exact⟨_,.inl rfl,_,by rw[htab]⟩
  obtain⟨v',hv',g'',hes⟩:=hed2;rw[hes]at hF0 a2;have hgg:g'=g'':=by have:=a2.sl;simp only[Option.some.injEq]at this;exact this.symm
  subst hgg;obtain⟨b1,b2,b3,b4,b5,b6⟩:=hv3 v' hv';have hcr:=hcore v' g' ⟨0,Aa (s.v.next+(AR 64 s.mem).length),false,false⟩ hv' ⟨j',a2.gn⟩ (by rw[hw]);have hnw: ∀k,k≠Aa s.v.wal→AN m3 k=AN m2 k:=λk hk=>d1.same k hk;have hDk:Dk e {s with list:=some g',v:=v',tabs:=s.tabs++mk,mem:=[],adds:=0,log:=some ⟨0,Aa (s.v.next+(AR 64 s.mem).length),false,false⟩} (AN m3) j' es' g' []:=by
   have hjn:j'<v'.next:=a2.jn;refine⟨rfl,a2.gn,a2.j1,a2.jn,by rw[hnw _ (EC _).1.symm];exact a2.cur,by rw[hnw _ (EJ _ _).symm];exact a2.list,a2.rp,λy hy=>by rw[hnw _ (FF _ _).symm,htk];exact hT2 y hy,?_,rfl,λk h1 h2=>?_,rfl,?_,rfl,λb hb=>(by cases hb),λb hb=>(by cases hb)⟩
   ·show(AN m3 (Aa v'.wal)).getD ([],0)=_;rw[b2,hnw _ λe=>by have:=Ka ⟨AA,AA⟩ ⟨AA,AA⟩ e;omega,hwk,hw0]
    rfl
   ·have h1:v'.next≤k:=h1;rw[hnw _ λe=>by have:=Ka ⟨AA,AA⟩ ⟨AA,AA⟩ e;omega,hwk];exact hD1.free k AA h2
   ·show v'.seq=s.seq;rw[b3];exact hs
  have hbud:DJ (A+3*e+8) (U+65544) (X+e+2) (N+1) Q {s with list:=some g',v:=v',tabs:=s.tabs++mk,mem:=[],adds:=0,log:=some ⟨0,Aa (s.v.next+(AR 64 s.mem).length),false,false⟩} m3:=
   ⟨hF3.mono AA (AW _),by show v'.next≤_;omega,hb.seq,hb.given,hb.sn,⟨g',rfl,a3⟩,⟨_,rfl,rfl,rfl,Ht hi,Ag _⟩⟩
  rcases d2 with rfl|rfl|rfl
  ·rw[if_neg AC]at hF0;rw[hF0];exact .ok _ m3 (d1.up' AC) hcr ⟨j',es',g',[],hDk,Ag _⟩ hbud rfl rfl
  ·rw[if_neg AC]at hF0;rw[hF0];exact .ok _ m3 (d1.up' AC) hcr ⟨j',es',g',[],hDk,Ag _⟩ hbud rfl rfl
  ·rw[if_pos AC]at hF0;rw[hF0];refine .down _ m3 (d1.down.2 rfl) ?_ hbud.ft (by show v'.files.length≤e;rw[b1];exact hfe);exact Fd.rec (.inr ⟨j',hDk.fdl⟩) (hcont v' hv')
theorem Lz: ∀(bs:List (Int×List Ac)){s t:AL},s.mem=t.mem→s.seq=t.seq→s.adds=t.adds→(CJ s bs).mem=(CJ t bs).mem∧(CJ s bs).seq=(CJ t bs).seq∧(CJ s bs).adds=(CJ t bs).adds
 |[],s,t,h1,h2,h3=>⟨h1,h2,h3⟩
 |b::bs,s,t,h1,h2,h3=>by
  have:=Lz bs (s:=IZ s b) (t:=IZ t b) (by show Cw _ _ s.mem=Cw _ _ t.mem;rw[h1]) (by show(if s.seq<b.1 then b.1 else s.seq)=(if t.seq<b.1 then b.1 else t.seq);rw[h2]) (by show s.adds+_=t.adds+_;rw[h3]);exact this
theorem dH{e:EM}(ho:EQ e)(hl:e.add.length<1099511627776)(hd:e.del.length<1099511627776):(Al e).length≤50+20*e.add.length+10*e.del.length:=by
 have hnum: ∀n:Nat,n<18446744073709551616→(Ak n).length≤10:=λn h=>EO n h;have hint: ∀z,CA z→(Bg z).length≤10:=λz h=>hnum _ (MC h);have hfl: ∀l:List Af,(∀f∈l,CA f.1∧CA f.2)→(DY l).length≤20*l.length:=by
  intro l
  induction l with
  |nil=>intro _;exact Ag _
  |cons f l ih=>
   intro h;have h1:=hint _ (h f AB).1;have h2:=hint _ (h f AB).2;have h3:=ih λg hg=>h g (by simp[hg]);have e1:DY (f::l)=Hk f++DY l:=by simp[DY]
   rw[e1,AP,Ah];unfold Hk;rw[AP];omega
 have hdl: ∀l:List Int,(∀z∈l,CA z)→(Ci l).length≤10*l.length:=by
  intro l
  induction l with
  |nil=>intro _;exact Ag _
  |cons z l ih=>
   intro h;have h1:=hint _ (h z AB);have h3:=ih λg hg=>h g (by simp[hg]);have e1:Ci (z::l)=Bg z++Ci l:=by simp[Ci]
   rw[e1,AP,Ah];omega
 have h1:=hfl e.add ho.add;have h2:=hdl e.del ho.del;have h3:=hnum e.add.length AA;have h4:=hnum e.del.length AA;have h5:=hint _ ho.wal;have h6:=hint _ ho.next;have h7:=hint _ ho.seq;unfold Al;simp only[AP];omega
theorem cM{A U X N Q c e B:Nat}{s:AL}{m:AJ}{now:List AO}{lk:Int→Option (List AO)}(hC:BH e s EW now lk)(hmm:s.mem=[])(h:m.off=false)(hDs:Gw e s m B)(hb:DJ A U X N Q s m)(he:e≤1048576)(hT:536870912≤U∧U+1048576≤1099511627776)(hX:X≤576460752303423488)(hQ:Q≤1099511627776)(hN:4200≤N)
  (hcX:X+e+2≤c*2097152)(hcQ:Q≤c)(hB:B≤c){r:List AF}{seen:List Int}(h1:r.Perm (Dy s))(h2:Az r)(h3:seen.Perm (Hz s)){mk:List (Int×List AF)}(hp:mk.Perm (Aq s.v.next (AR 64 (BD seen r)))):
  MG (A+4*e+8) (U+65544) (X+e+2) (N+1) Q c e B s now lk (DC s m (BD seen r) mk):=by
 by_cases hne:s.v.files=[]
 ·have e0:DC s m (BD seen r) mk=(0,s,m):=by unfold DC;simp[hne]
  rw[e0];exact .ok s m h hC hDs (hb.mono AA AA AA AA (AW _)) hmm rfl
 obtain⟨j,es,g,bs,hD,hbl⟩:=hDs;have hcn:=hC.cnt;have hn:=hb.next;have hq:=hb.seq;have hnx1:=hC.next;have hwl:=hC.wal;have hvs:=hC.vseq;have hw00:=hC.good.nn;have hv:=hC.goodN he AA AA;have hmf:=(hC.co he (by have:=hb.sn;omega)).mem h1 h2 seen;have hl1:=(MA seen r).length_le;have hl2:=h1.length_eq;have hcs:=I9 64 (BD seen r) AA;obtain⟨g0,hg0,hgl⟩:=hb.list;rw[hD.sl]at hg0;cases hg0;obtain⟨k1,k2⟩:=Of hC hp
 obtain⟨l1,l2,l3⟩:=RE ⟨AA,AA⟩ (AR 64 (BD seen r)) s.v.next h hb.ft hmf.tab AA AA;have hF1:=FT.lay ⟨AA,AA⟩ (AR 64 (BD seen r)) s.v.next hb.ft hmf.tab;have hfo:=Ku 1 (AR 64 (BD seen r)) s.v.next;have hfl:(Bx 1 (Aq s.v.next (AR 64 (BD seen r)))).length=(AR 64 (BD seen r)).length:=by rw[J1,Jh]
 have hgn:s.v.files.map (·.2)≠[]:=by simpa using hne
 obtain⟨X0,hX0⟩: ∃X0:EM,X0=⟨Bx 1 (Aq s.v.next (AR 64 (BD seen r))),s.v.files.map (·.2),s.v.wal,s.v.next+(AR 64 (BD seen r)).length,s.v.seq⟩:=⟨_,rfl⟩;have hdel:X0.del=s.v.files.map (·.2):=by rw[hX0]
 have hadd:X0.add=Bx 1 (Aq s.v.next (AR 64 (BD seen r))):=by rw[hX0]
 obtain⟨nx,ha,hw,hx,hs,hpf⟩:=Nw (v:=s.v) (e:=X0) hv.good
  (λf hf=>by rw[hadd]at hf;obtain⟨f1,f2,f3⟩:=hfo f hf;exact⟨Hx.2 ⟨AA,AA,AA⟩,f2,by rw[hX0];exact f3⟩)
  (by rw[hadd];show((Bx 1 (Aq s.v.next (AR 64 (BD seen r)))).map (·.2)).Nodup;rw[JV];exact LK _ _) (.inr hdel) (by rw[hX0];show s.v.next≤s.v.next+(AR 64 (BD seen r)).length;omega) (by rw[hX0];exact EZ _) (by rw[hX0];exact hw00.1)
 rw[if_neg (by rw[hdel];exact hgn),Ca,hadd]at hpf;have hw:nx.wal=s.v.wal:=by rw[hw,hX0]
 have hx:nx.next=s.v.next+(AR 64 (BD seen r)).length:=by rw[hx,hX0]
 have hs:nx.seq=s.v.seq:=by rw[hs,hX0]
 obtain⟨hnx,hnn⟩:=Kp hv (by rw[hadd,hfl];omega) (by rw[hX0];show s.v.wal≤_;omega) (by rw[hX0];show s.v.next+(AR 64 (BD seen r)).length≤_;omega) (by rw[hX0];show s.v.seq≤_;omega) nx ha;have hxB:Fk (Al X0)=some X0:=by
  have hr:=Xy ha;have hok:EQ X0:=by
   rw[hX0];refine⟨λf hf=>?_,λn hn'=>?_,Do ⟨hw00.1,by show s.v.wal≤_;omega⟩,Do ⟨by show 0≤s.v.next+(AR 64 (BD seen r)).length;omega,by show s.v.next+(AR 64 (BD seen r)).length≤_;omega⟩,Do ⟨hw00.2.2,by show s.v.seq≤_;omega⟩⟩
   ·obtain⟨f1,f2,f3⟩:=hfo f hf;exact⟨Do AA,Do AA⟩
   ·obtain⟨f,hf,rfl⟩:=BU.1 hn';obtain⟨h5,h6⟩:=hC.good.files.1 f hf;have:=Hx.1 h5;exact Do AA
  have hl:=dH hok (by rw[hadd,hfl];omega) (by rw[hdel,BZ];omega);rw[hadd,hfl,hdel,BZ]at hl;exact(Mc AA).2 ⟨rfl,hok,hr⟩
 have hfe:nx.files.length≤e:=by
  have h5:=hpf.length_eq;rw[hfl]at h5;have h6:=hC.num;rw[GT,AP]at h6;omega
 have htab:FW s.tabs mk X0.del=mk:=by rw[hdel];exact Yc hC.keys.1 k1 k2 hC.files
 have hv3: ∀v':VM,(v'=nx∨v'={nx with next:=nx.next+1})→v'.files=nx.files∧v'.wal=nx.wal∧v'.seq=nx.seq∧nx.next≤v'.next∧v'.next≤nx.next+1∧DA v':=λv' hv'=>by
  rcases hv' with rfl|rfl
  ·exact⟨rfl,rfl,rfl,EZ _,AA,hnx⟩
  ·exact⟨rfl,rfl,rfl,by simp only;omega,EZ _,hnx.succ hnn⟩
 have hcore: ∀(v':VM)(g':BF),(v'=nx∨v'={nx with next:=nx.next+1})→(∃j,g'.name=AX j)→BH e {s with list:=some g',v:=v',tabs:=mk} EW now lk:=λv' g' hv' hgn'=>by
  obtain⟨a1,a2,a3,a4, -,a6⟩:=hv3 v' hv';exact hC.compactG hmm h1 h2 h3 hp hmf (by rw[a1];exact hpf) (by rw[a2];exact hw) AA (by rw[a3];exact hs) a6.good hgn'
 have hbs: ∀v':VM,(v'=nx∨v'={nx with next:=nx.next+1})→(Bu v' mk bs).mem=s.mem∧(Bu v' mk bs).seq=s.seq∧(Bu v' mk bs).adds=s.adds:=λv' hv'=>by
  obtain⟨-, -,a3, -, -, -⟩:=hv3 v' hv';obtain⟨t1,t2,t3⟩:=Lz bs (s:=Cc 1 1 [] v' mk) (t:=Cc 1 1 [] s.v s.tabs) rfl (by show v'.seq=s.v.seq;rw[a3];exact hs) rfl;exact⟨t1.trans hD.mem,t2.trans hD.seq,t3.trans hD.adds⟩
 have hcont: ∀v':VM,(v'=nx∨v'={nx with next:=nx.next+1})→Cx c e v' mk bs now:=λv' hv'=>by
  obtain⟨a1,a2,a3,a4,a5,a6⟩:=hv3 v' hv';obtain⟨t1,t2,t3⟩:=hbs v' hv';exact UC (hcore v' ⟨0,AX 0,false,false⟩ hv' ⟨0,rfl⟩) t1 t2 (by show(Bu v' mk bs).adds≤e;rw[t3];exact hC.adds) (by show v'.next≤_;omega) (by show s.seq≤_;omega) AA hD.bq hD.bsz
 have hc1:Cx c e s.v s.tabs bs now:=hD.cont hC AA AA AA;have hF0:DC s m (BD seen r) mk=DC s m (BD seen r) mk:=rfl
 conv at hF0=>rhs;unfold DC
 simp only at hF0;rw[if_neg hne,←hX0]at hF0;generalize hqq:Bh m s.v.next (AR 64 (BD seen r))=q at l1 l2 l3 hF1 hF0;obtain⟨e1,m1⟩:=q;simp only at l1 l2 l3 hF1 hF0;have hlayL: ∀k,(Nc j s.v.wal s.tabs k∨ ∃i,k=Aa i)→AN m1 k=AN m k:=λk hk=>l1.same k λ⟨i,i1,i2,hi⟩=>by
  subst hi;rcases hk with(hk|hk|hk|⟨y,hy,hk⟩)|⟨z,hk⟩
  ·exact(Ey i).1 hk
  ·exact Fv _ _ hk
  ·exact FF _ _ hk.symm
  ·have h5:=hC.keys.2 y.1 (CC hy);have:=Lk ⟨AA,AA⟩ ⟨AA,AA⟩ hk;omega
  ·exact FF _ _ hk.symm
 have hD1:Dk e s (AN m1) j es g bs:=hD.frame hlayL;have hb1:DJ (A+4*e+8) (U+65544) (X+e+2) (N+1) Q s m1:={hb.mono (A':=A+4*e+8) (T':=U+65544) (X':=X+e+2) (N':=N+1) (Q':=Q) AA AA AA AA (AW _)with ft:=hF1.mono AA AA};rcases l2 with rfl|rfl|rfl
 rotate_left
 ·rw[if_pos AC]at hF0;rw[hF0];exact .space m1 (l1.up' AC) ⟨j,es,g,bs,hD1,hbl⟩ hb1
 ·rw[if_pos AC]at hF0;rw[hF0];exact .down _ m1 (l1.down.2 rfl) (Fd.rec (.inr ⟨j,hD1.fdl⟩) hc1) hb1.ft hcn.2.2.2
 rw[if_neg AC]at hF0;have u1:=l1.up' AC;have hlaid:=l3 rfl;have hF2:=hF1.edit s X0 mk (by
  intro nx' hnx';rw[ha]at hnx';cases hnx';obtain⟨h3,h4,h5,h6⟩:=hnx.next_fine hnn;have:=(Fq (n:=nx.next) ⟨AA,AA⟩).2.2;exact⟨by rw[Dr];omega,AA⟩) AA
 have hT2: ∀y∈mk,AN m1 (Aw y.1)=some (B5 y.2,(B5 y.2).length):=λy hy=>hlaid y (hp.mem_iff.1 hy);have hed:=UV (c:=c) (T2:=mk) (bs2:=bs) mk u1 hF1 hgl hN hD1 ha hnx ⟨AA,hnn⟩ hxB AA hfe hT2 (by rw[hw];exact hD1.log) hD1.ok hc1 (hcont nx (.inl rfl)) (hcont _ (.inr rfl));generalize DX s m1 X0 mk=q2 at hed hF0 hF2;cases hed with
 |space m2 a1 a2=>
  simp only at hF0 hF2;rw[if_pos AC]at hF0;rw[hF0];have hD2:Dk e s (AN m2) j es g bs:=hD1.frame λk hk=>a2 k λhn=>by
   have hlj:AX j≠AX nx.next:=λe=>by
    have h5:=hD.jn;have h6:=hD.j1;have:=K4 (show Ck j from⟨AA,AA⟩) (show Ck nx.next from⟨AA,AA⟩) (by unfold AX at e;exact(List.cons.inj e).2);omega
   rcases hk with(rfl|rfl|rfl|⟨y, -,rfl⟩)|⟨z,rfl⟩<;>rcases hn with hn|hn
   ·exact(G7 nx.next).1 hn.symm
   ·exact I2 hn.symm
   ·exact hlj hn
   ·exact(G7 j).2 hn
   ·exact EJ _ _ hn
   ·exact(EC _).2 hn
   ·exact Fv _ _ hn
   ·exact(Ey _).2 hn
   ·exact EJ _ _ hn
   ·exact(EC _).2 hn
  exact .space m2 a1 ⟨j,es,g,bs,hD2,hbl⟩ {hb1 with ft:=hF2.mono AA (AW _)}
 |down s2 m2 a1 a2 a5=>
  simp only at hF0 hF2;rw[if_pos AC]at hF0;rw[hF0];exact .down _ m2 a1 a2 (hF2.mono AA (AW _)) (by rw[a5];exact hcn.2.2.2)
 |ok m2 j' es' g' a1 a2 a3 a4=>
  simp only at hF0 hF2;rw[if_neg AC]at hF0;have hfr: ∀k,k≠AX j→ ¬Ig nx.next k→k≠Bf→AN m2 k=AN m1 k:=a4;have hwk: ∀i,AN m2 (Aa i)=AN m1 (Aa i):=λi=>hfr _ (EJ _ _) (λhn=>hn.elim (EJ _ _) (EC _).2) (EC _).1;have htk: ∀i,AN m2 (Aw i)=AN m1 (Aw i):=λi=>hfr _ (Fv _ _) (λhn=>hn.elim (Fv _ _) (Ey _).2) (Ey _).1;obtain⟨d1,d2,d3⟩:=UM ((s.v.files.map (·.2)).map Aw) a1 hF2;have hF3:=FT.delAll ((s.v.files.map (·.2)).map Aw) hF2
  simp only[BZ]at hF3;have hgone: ∀n∈s.v.files.map (·.2),n∈s.tabs.map (·.1):=λn hn'=>hC.files.mem_iff.1 hn';have hrng: ∀n∈s.v.files.map (·.2),1≤n∧n<s.v.next:=λn hn'=>hC.keys.2 n (hgone n hn');have h5:=d3 (by
   have hndf:(s.v.files.map (·.2)).Nodup:=hC.good.files.2;refine List.pairwise_map.2 (hndf.imp_of_mem λ{a b}ha' hb' hab e=>hab ?_);have:=hrng a ha';have:=hrng b hb';exact Lk ⟨AA,AA⟩ ⟨AA,AA⟩ e) (λn hn'=>by
   obtain⟨i,hi,rfl⟩:=BU.1 hn';obtain⟨y,hy,rfl⟩:=BU.1 (hgone i hi);rw[htk,hD1.tab y hy];rfl)
  generalize delAll ((s.v.files.map (·.2)).map Aw) m2=q3 at d1 d2 h5 hF0 hF3;obtain⟨e3,m3⟩:=q3;simp only at d1 d2 h5 hF0 hF3;have hed2: ∃v',(v'=nx∨v'={nx with next:=nx.next+1})∧ ∃g'',JS s g X0 nx mk={s with list:=some g'',v:=v',tabs:=mk}:=by
   unfold JS
   split
   ·exact⟨_,.inr rfl,_,by rw[htab]⟩
   ·exact⟨_,.inl rfl,_,by rw[htab]⟩
  obtain⟨v',hv',g'',hes⟩:=hed2;rw[hes]at hF0 a2;have hgg:g'=g'':=by have:=a2.sl;simp only[Option.some.injEq]at this;exact this.symm
  subst hgg;obtain⟨b1,b2,b3,b4,b5,b6⟩:=hv3 v' hv';have hcr:=hcore v' g' hv' ⟨j',a2.gn⟩;obtain⟨t1,t2,t3⟩:=hbs v' hv';have hnt: ∀k,(∀i,k=Aw i→ ¬(1≤i∧i<s.v.next))→AN m3 k=AN m2 k:=λk hk=>d1.same k λhm=>by
   obtain⟨i,hi,rfl⟩:=BU.1 hm;exact hk i rfl (hrng i hi)
  have hmkr: ∀y∈mk,s.v.next≤y.1∧y.1<s.v.next+(AR 64 (BD seen r)).length:=λy hy=>(LJ _ _ _).1 ((hp.map _).mem_iff.1 (CC hy));have hDk:Dk e {s with list:=some g',v:=v',tabs:=mk} (AN m3) j' es' g' bs:=by
   have hjn:j'<v'.next:=a2.jn;refine⟨rfl,a2.gn,a2.j1,a2.jn,by rw[hnt _ λi e=>absurd e.symm (Ey i).1];exact a2.cur,by rw[hnt _ λi e=>absurd e.symm (Fv _ _)];exact a2.list,a2.rp,λy hy=>?_,?_,hD1.ok,λk h1 h2=>?_,t1,t2,t3,hD.bq,hD.bsz⟩
   ·have:=hmkr y hy;rw[hnt _ λi e hi=>by have:=Lk ⟨AA,AA⟩ ⟨AA,AA⟩ e;omega,htk];exact hT2 y hy
   ·show(AN m3 (Aa v'.wal)).getD ([],0)=_;rw[b2,hw,hnt _ λi e=>absurd e (FF _ _),hwk];exact hD1.log
   ·have h1:v'.next≤k:=h1;rw[hnt _ λi e=>absurd e (FF _ _),hwk];exact hD1.free k AA h2
  obtain⟨lg,hlg,hlg2⟩:=hb.log;have hbud:DJ (A+4*e+8) (U+65544) (X+e+2) (N+1) Q {s with list:=some g',v:=v',tabs:=mk} m3:=
   ⟨hF3.mono AA (AW _),by show v'.next≤_;omega,hb.seq,hb.given,hb.sn,⟨g',rfl,a3⟩,⟨lg,hlg,hlg2.mono AA⟩⟩
  rcases d2 with rfl|rfl|rfl
  ·rw[hF0];exact .ok _ m3 (d1.up' AC) hcr ⟨j',es',g',bs,hDk,hbl⟩ hbud hmm rfl
  ·exact absurd rfl h5
  ·rw[hF0];refine .down _ m3 (d1.down.2 rfl) ?_ hbud.ft (by show v'.files.length≤e;rw[b1];exact hfe);exact Fd.rec (.inr ⟨j',hDk.fdl⟩) (hcont v' hv')
theorem Yl: ∀(bs:List (Int×List Ac))(s:AL),(CJ s bs).v=s.v∧(CJ s bs).tabs=s.tabs∧(CJ s bs).given=s.given∧(CJ s bs).seqs=s.seqs∧(CJ s bs).dead=s.dead∧(CJ s bs).hts=s.hts
 |[],_=>⟨rfl,rfl,rfl,rfl,rfl,rfl⟩
 |b::bs,s=>Yl bs (IZ s b)
theorem DA.renew{v:VM}(h:Good v)(hl:v.files.length≤8388608)(hn:v.next+2≤2305843009213693952)(hs:v.seq≤2305843009213693952):DA {v with wal:=v.next,next:=v.next+2}:=
 ⟨⟨⟨λf hf=>⟨(h.files.1 f hf).1,by have:=(h.files.1 f hf).2;simp only;omega⟩,h.files.2⟩,⟨h.nn.2.1,by have:=h.nn.2.1;simp only;omega,h.nn.2.2⟩,by have h2:Dj v.files=v.files:=congrArg VM.files h.so;unfold FR;rw[h2]⟩,hl,by simp only;omega,hn,hs⟩
theorem Cx.cnt{c e:Nat}{v:VM}{T:List (Int×List AF)}{bs:List (Int×List Ac)}{now:List AO}(h:Cx c e v T bs now):v.files.length≤e∧T.length≤e:=by
 have h1:=h.num;rw[AP]at h1;have h2:=OO (T.map (·.2)) λl hl=>by
  obtain⟨x,hx,rfl⟩:=BU.1 hl;exact(h.tab x hx).2
 have h3:=h.files.length_eq;simp only[BZ]at h2 h3;omega
theorem SG: ∀(bs:List (Int×List Ac))(s:AL),s.seq≤(CJ s bs).seq
 |[],_=>EZ _
 |b::bs,s=>by
  have h:=SG bs (IZ s b);have h2:s.seq≤(IZ s b).seq:=by show s.seq≤(if s.seq<b.1 then b.1 else s.seq);split<;>omega
  exact Int.le_trans h2 h
theorem Cx.ok{c e:Nat}{v:VM}{T:List (Int×List AF)}{bs:List (Int×List Ac)}{now:List AO}(h:Cx c e v T bs now):Bb (Ab bs)=true∧(AQ (Ab bs)).length≤c*16384:=by
 have key: ∀l:List (Int×List Ac),(∀b∈l,0≤b.1∧b.1≤4611686018427387904)→(∀b∈l,Av b.2≤4096)→Bb (Ab l)=true∧(AQ (Ab l)).length≤l.length*16384:=by
  intro l
  induction l with
  |nil=>intro _ _;exact⟨rfl,AW _⟩
  |cons b l ih=>
   intro h1 h2;obtain⟨i1,i2⟩:=ih (λx hx=>h1 x (by simp[hx])) (λx hx=>h2 x (by simp[hx]));have hb1:=h1 b AB;have hb2:=h2 b AB;have hp:=ND b.1 b.2 ⟨AA,AA⟩ AA;have e:Ab (b::l)=[B0 b.1 b.2]++Ab l:=rfl;rw[e,Ra,NK,AP,Ah];have e2:(AQ [B0 b.1 b.2]).length=(B0 b.1 b.2).length+8:=by rw[Dr];simp[BG]
   refine⟨?_,AA⟩;rw[i1,Bool.and_true];unfold Bb;simp;omega
 obtain⟨h1,h2⟩:=key bs h.bq h.bsz;have h3:=h.blen;refine⟨h1,Au h2 (Gp _ h3)⟩
theorem Cx.renew{c e:Nat}{v:VM}{T:List (Int×List AF)}{bs:List (Int×List Ac)}{now:List AO}(h:Cx c e v T bs now):Cx (c+1) e {v with wal:=v.next,next:=v.next+2} T bs now:=by
 obtain⟨t1,t2,t3⟩:=Lz bs (s:=Cc 1 1 [] {v with wal:=v.next,next:=v.next+2} T) (t:=Cc 1 1 [] v T) rfl rfl rfl;have hn:=h.next;have hb:=h.bnext;refine⟨by rw[show(Bu _ T bs).mem=_ from t1];exact h.mem,h.tab,by rw[show(Bu _ T bs).mem=_ from t1];exact h.one,by rw[show(Bu _ T bs).mem=_ from t1];exact h.num,h.nlen,by rw[show(Bu _ T bs).adds=_ from t3];exact h.adds,?_,h.files,by show 1≤v.next+2;omega,by show v.next<v.next+2;omega,by show v.next+2≤_;omega,by rw[show(Bu _ T bs).mem=_ from t1,show(Bu _ T bs).seq=_ from t2];exact h.top,by rw[show(Bu _ T bs).seq=_ from t2];have:=h.bseq;show(Bu v T bs).seq≤_;omega,by rw[show(Bu _ T bs).mem=_ from t1,show(Bu _ T bs).seq=_ from t2];exact h.view,h.bq,h.bsz,Nat.le_succ_of_le h.blen⟩
 exact⟨⟨λf hf=>⟨(h.good.files.1 f hf).1,by have:=(h.good.files.1 f hf).2;simp only;omega⟩,h.good.files.2⟩,⟨h.good.nn.2.1,by have:=h.good.nn.2.1;simp only;omega,h.good.nn.2.2⟩,by have h2:Dj v.files=v.files:=congrArg VM.files h.good.so;unfold FR;rw[h2]⟩
abbrev Oj:Int→Option (List AO):=λ_=>none
inductive Nj(A U Nf c e:Nat)(v:VM)(ts:List (Int×List AF))(bs:List (Int×List Ac))(now:List AO):Int→AL→AJ→Prop where
 |ok (s':AL) (m':AJ) (h1:m'.off=false) (h2:BH e s' EW now Oj) (h3:Gw e s' m' c) (h4:DJ (A+Nf+17) U ((c+1)*2097152) (4200+4*(c+1)) (c+1) s' m') (h5:m'.files.length≤Nf+7) (h6:s'.given=0):Nj A U Nf c e v ts bs now 0 s' m'
 |space (s':AL) (m':AJ) (h1:m'.off=false) (h2:Fd e (AN m') v ts bs) (h3:FT (A+Nf+17) U m') (h4:m'.files.length≤Nf+7):Nj A U Nf c e v ts bs now 6 s' m'
 |down (s':AL) (m':AJ) (h1:m'.off=true) (h2:GP (c+1) e (AN m') (· =now)) (h3:FT (A+Nf+17) U m') (h4:m'.files.length≤Nf+7):Nj A U Nf c e v ts bs now 7 s' m'
theorem QD(s:AL)(l:Int): ∀(ns:List AE)(m:AJ),(DB s l ns m).2.files.length≤m.files.length
 |[],m=>AW _
 |n::ns,m=>by
  unfold DB
  split
  ·exact QD s l ns m
  ·split
   ·exact Km m n
   ·exact Au (QD s l ns _) (Km m n)
theorem wL{A U Nf c e:Nat}{v:VM}{ts:List (Int×List AF)}{bs:List (Int×List Ac)}{now:List AO}{s:AL}{m:AJ}{r:Int}{s':AL}{m':AJ}(h:m.off=false)(hF:FT A U m)(hT:536870912≤U∧U≤1099511627776)(hcU:c*16384≤U)(hc:c≤8388608)(he:e≤1048576)(hnf:m.files.length≤Nf)
  (hfd:Fd e (AN m) v ts bs)(hct:Cx c e v ts bs now)(k1:s.v=v)(k2:s.tabs=ts)(k3:s.mem=(Bu v ts bs).mem)(k4:s.seq=(Bu v ts bs).seq)(k5:s.adds=(Bu v ts bs).adds)(k6:s.given=0)(k7:s.seqs=[])(k8:s.dead=false)(k9:s.hts.length≤1099511627776)
  (hr:FH s m (Ab bs) r s' m'):Nj A U Nf c e v ts bs now r s' m':=by
 have z3:A+3≤A+Nf+17:=AA;have z6:A+3+3≤A+Nf+17:=AA;have z9:A+3+3+3≤A+Nf+17:=AA;have z10:A+3+3+3+1≤A+Nf+17:=AA;have z17: ∀k,k≤Nf+7→A+3+3+3+1+k≤A+Nf+17:=λk _=>AA;subst k1 k2;have hn1:=hct.next;have hbn:=hct.bnext;have hwl:=hct.wal;have hnn:=hct.good.nn;have hcn:=hct.cnt;obtain⟨hps,hpl⟩:=hct.ok;have hi:Ck s.v.next:=⟨AA,AA⟩;have hi1:Ck (s.v.next+1):=⟨AA,AA⟩;have hsq:s.v.seq≤s.seq:=by rw[k4];exact SG bs (Cc 1 1 [] s.v s.tabs)
 have hbq:=hct.bseq;rw[←k4]at hbq;have hv:DA (BJ s).v:=DA.renew hct.good AA AA AA;have hct2:Cx (c+1) e (BJ s).v s.tabs bs now:=hct.renew;obtain⟨w1,w2⟩:=hv.whole;have hok:=OC w2;have hsum:=Mf w2 hv.num;have hrp:=UY hv (n:=e) hcn.1;have hne:=G7 (s.v.next+1);have hnw:=EC s.v.next;have hFr: ∀{G:C9},(∀k,k≠Aa s.v.next→k≠AX (s.v.next+1)→k≠BW→G k=AN m k)→Fd e G s.v s.tabs bs:=λ{G}hk=>by
  rcases hfd with⟨f1,f2⟩|⟨j,f⟩
  ·exact .inl ⟨by rw[hk _ hnw.1.symm hne.1.symm I2.symm];exact f1,f2⟩
  ·refine .inr ⟨j,f.frame λk hl=>hk k (λe1=>?_) (λe1=>?_) λe1=>?_⟩
   ·rcases hl with rfl|rfl|rfl|⟨y, -,rfl⟩
    ·exact hnw.1 e1.symm
    ·exact EJ _ _ e1.symm
    ·have:=Ka ⟨AA,AA⟩ hi e1;omega
    ·exact FF _ _ e1.symm
   ·rcases hl with rfl|rfl|rfl|⟨y, -,rfl⟩
    ·exact hne.1 e1.symm
    ·have hj:=f.jn;have hj1:=f.j1;have:=K4 (show Ck j from⟨AA,AA⟩) hi1 (by unfold AX at e1;exact(List.cons.inj e1).2);omega
    ·exact EJ _ _ e1
    ·exact Fv _ _ e1
   ·rcases hl with rfl|rfl|rfl|⟨y, -,rfl⟩
    ·exact I2 e1.symm
    ·exact(G7 j).2 e1
    ·exact(EC _).2 e1
    ·exact(Ey _).2 e1
 have hRo: ∀{G:C9},(∀k,k≠Aa s.v.next→k≠AX (s.v.next+1)→k≠BW→G k=AN m k)→GP (c+1) e G (· =now):=λhk=>(Fd.rec (hFr hk) hct).mono (D5 _) (AW _) λ_ h=>h;obtain⟨a1,a2,a3⟩:=Rs h hF.fb (Ht hi) hps;have hF1:=hF.rewrite (Aa s.v.next) (Ab bs) AA hT.2;have n1:=KP m (Aa s.v.next) (Ab bs);have a1:DV m (· =Aa s.v.next) (Cp s m (Ab bs)):=a1;have a2:(Cp s m (Ab bs)).1=0∨(Cp s m (Ab bs)).1=6∨(Cp s m (Ab bs)).1=7:=a2
 have a3:(Cp s m (Ab bs)).1=0→AN (Cp s m (Ab bs)).2 (Aa s.v.next)=some (AQ (Ab bs),(AQ (Ab bs)).length):=a3;have hF1:FT (A+3) U (Cp s m (Ab bs)).2:=hF1;have n1:(Cp s m (Ab bs)).2.files.length≤m.files.length+2:=n1;have s1: ∀k,k≠Aa s.v.next→k≠AX (s.v.next+1)→k≠BW→AN (Cp s m (Ab bs)).2 k=AN m k:=λk x1 _ _=>a1.same k x1;have go1:(Cp s m (Ab bs)).1=0→(Cp s m (Ab bs)).2.off=false:=λh0=>a1.up (by rw[h0];decide)
 have B2:=λh0=>Rs (go1 h0) hF1.fb (HP hi1) hok;have hF2:FT (A+3+3) U (C7 s m (Ab bs)).2:=hF1.rewrite (AX (s.v.next+1)) (Ay (BJ s).v) (by rw[Dr];omega) hT.2;have n2:(C7 s m (Ab bs)).2.files.length≤(Cp s m (Ab bs)).2.files.length+2:=KP _ _ _;have B2:(Cp s m (Ab bs)).1=0→DV (Cp s m (Ab bs)).2 (· =AX (s.v.next+1)) (C7 s m (Ab bs))∧((C7 s m (Ab bs)).1=0∨(C7 s m (Ab bs)).1=6∨(C7 s m (Ab bs)).1=7)∧((C7 s m (Ab bs)).1=0→AN (C7 s m (Ab bs)).2 (AX (s.v.next+1))=some (AQ (Ay (BJ s).v),(AQ (Ay (BJ s).v)).length)):=B2
 have hll:=(Fq hi1).2.2;have hF3:FT (A+3+3+3) U (DT s m (Ab bs)).2:=hF2.file BW (AX (s.v.next+1)) AA hT.2;have n3:(DT s m (Ab bs)).2.files.length≤(C7 s m (Ab bs)).2.files.length+2:=Ks _ _ _;have B3:(Cp s m (Ab bs)).1=0→(C7 s m (Ab bs)).1=0→DV (C7 s m (Ab bs)).2 (· =BW) (DT s m (Ab bs))∧((DT s m (Ab bs)).1=0∨(DT s m (Ab bs)).1=6∨(DT s m (Ab bs)).1=7)∧((DT s m (Ab bs)).1=0→AN (DT s m (Ab bs)).2 BW=some (AX (s.v.next+1),(AX (s.v.next+1)).length)):=λh0 h1=>OL ((B2 h0).1.up (by rw[h1];decide)) hF2.fb Oh _
 have hF4:FT (A+3+3+3+1) U (Bi s m (Ab bs)).2:=hF3.ren BW Bf;have n4:(Bi s m (Ab bs)).2.files.length≤(DT s m (Ab bs)).2.files.length+1:=O4 _ _ _;have B4:(Cp s m (Ab bs)).1=0→(C7 s m (Ab bs)).1=0→(DT s m (Ab bs)).1=0→DV (DT s m (Ab bs)).2 (λk=>k=BW∨k=Bf) (Bi s m (Ab bs))∧((Bi s m (Ab bs)).1=0∨(Bi s m (Ab bs)).1=7)∧((Bi s m (Ab bs)).1=0→AN (Bi s m (Ab bs)).2 Bf=some (AX (s.v.next+1),(AX (s.v.next+1)).length))∧((∀k,AN (Bi s m (Ab bs)).2 k=AN (DT s m (Ab bs)).2 k)∨AN (Bi s m (Ab bs)).2 Bf=some (AX (s.v.next+1),(AX (s.v.next+1)).length)):=λh0 h1 h2=>Xr ((B3 h0 h1).1.up (by rw[h2];decide)) hF3.fb Og I2 ((B3 h0 h1).2.2 h2)
 have s2:(Cp s m (Ab bs)).1=0→ ∀k,k≠Aa s.v.next→k≠AX (s.v.next+1)→k≠BW→AN (C7 s m (Ab bs)).2 k=AN m k:=λh0 k x1 x2 x3=>((B2 h0).1.same k x2).trans (s1 k x1 x2 x3);have s3:(Cp s m (Ab bs)).1=0→(C7 s m (Ab bs)).1=0→ ∀k,k≠Aa s.v.next→k≠AX (s.v.next+1)→k≠BW→AN (DT s m (Ab bs)).2 k=AN m k:=λh0 h1 k x1 x2 x3=>((B3 h0 h1).1.same k x3).trans (s2 h0 k x1 x2 x3);have hnew:(Cp s m (Ab bs)).1=0→(C7 s m (Ab bs)).1=0→(DT s m (Ab bs)).1=0→AN (Bi s m (Ab bs)).2 (Aa s.v.next)=some (AQ (Ab bs),(AQ (Ab bs)).length)∧AN (Bi s m (Ab bs)).2 (AX (s.v.next+1))=some (AQ (Ay (BJ s).v),(AQ (Ay (BJ s).v)).length):=λh0 h1 h2=>by
  constructor
  ·rw[(B4 h0 h1 h2).1.same _ λe1=>e1.elim hnw.2 hnw.1,(B3 h0 h1).1.same _ hnw.2,(B2 h0).1.same _ (EJ _ _)];exact a3 h0
  ·rw[(B4 h0 h1 h2).1.same _ λe1=>e1.elim hne.2 hne.1,(B3 h0 h1).1.same _ hne.2];exact(B2 h0).2.2 h1
 have htabF: ∀x∈s.tabs,AN m (Aw x.1)=some (B5 x.2,(B5 x.2).length):=λx hx=>by
  rcases hfd with⟨-, -,f2, -⟩|⟨j,f⟩
  ·rw[f2]at hx;cases hx
  ·exact f.tab x hx
 have hFN: ∀{G:C9},G Bf=some (AX (s.v.next+1),(AX (s.v.next+1)).length)→G (Aa s.v.next)=some (AQ (Ab bs),(AQ (Ab bs)).length)→G (AX (s.v.next+1))=some (AQ (Ay (BJ s).v),(AQ (Ay (BJ s).v)).length)→(∀x∈s.tabs,G (Aw x.1)=AN m (Aw x.1))→Fd e G (BJ s).v s.tabs bs:=λ{G}g1 g2 g3 g4=>by
  refine .inr ⟨s.v.next+1,g1,AA,by show s.v.next+1<s.v.next+2;omega,⟨_,g3,?_⟩,λx hx=>(g4 x hx).trans (htabF x hx),?_⟩
  ·rw[OB];exact Gc.whole hrp
  ·show(DU ((G (Aa s.v.next)).getD ([],0)).1).1=Ab bs∧_;rw[show G (Aa (BJ s).v.wal)=_ from g2,g2];exact⟨by show(DU (AQ (Ab bs))).1=_;rw[IX _ hps],rfl⟩
 have y1:(Cp s m (Ab bs)).2.files.length≤Nf+7:=Au n1 AA;have y2':(C7 s m (Ab bs)).2.files.length≤Nf+4:=Au n2 (Au (Hr n1 2) AA);have y3':(DT s m (Ab bs)).2.files.length≤Nf+6:=Au n3 (Hr y2' 2);have y4:(Bi s m (Ab bs)).2.files.length≤Nf+7:=Au n4 (Hr y3' 1);have y2:(C7 s m (Ab bs)).2.files.length≤Nf+7:=Au y2' (IL AC Nf);have y3:(DT s m (Ab bs)).2.files.length≤Nf+7:=Au y3' (IL AC Nf);cases hr with
 |e1 he1=>
  rcases a2 with h6|h6|h7
  ·exact absurd h6 he1
  ·rw[h6];exact .space _ _ (a1.up (by rw[h6];decide)) (hFr s1) (hF1.mono z3 (AW _)) y1
  ·rw[h7];exact .down _ _ (a1.down.2 h7) (hRo s1) (hF1.mono z3 (AW _)) y1
 |e2 h0 he2=>
  obtain⟨b1,b2, -⟩:=B2 h0;rcases b2 with h6|h6|h7
  ·exact absurd h6 he2
  ·rw[h6];exact .space _ _ (b1.up (by rw[h6];decide)) (hFr (s2 h0)) (hF2.mono z6 (AW _)) y2
  ·rw[h7];exact .down _ _ (b1.down.2 h7) (hRo (s2 h0)) (hF2.mono z6 (AW _)) y2
 |e3 h0 h1 he3=>
  obtain⟨b1,b2, -⟩:=B3 h0 h1;rcases b2 with h6|h6|h7
  ·exact absurd h6 he3
  ·rw[h6];exact .space _ _ (b1.up (by rw[h6];decide)) (hFr (s3 h0 h1)) (hF3.mono z9 (AW _)) y3
  ·rw[h7];exact .down _ _ (b1.down.2 h7) (hRo (s3 h0 h1)) (hF3.mono z9 (AW _)) y3
 |e4 h0 h1 h2 he4=>
  obtain⟨b1,b2, -,b4⟩:=B4 h0 h1 h2;have h7:(Bi s m (Ab bs)).1=7:=b2.resolve_left he4;rw[h7];refine .down _ _ (b1.down.2 h7) ?_ (hF4.mono z10 (AW _)) y4;rcases b4 with b4|b4
  ·exact hRo λk x1 x2 x3=>(b4 k).trans (s3 h0 h1 k x1 x2 x3)
  ·obtain⟨g1,g2⟩:=hnew h0 h1 h2;exact Fd.rec (hFN b4 g1 g2 λx _=>by rw[b1.same _ λe1=>e1.elim (Ey _).2 (Ey _).1];exact s3 h0 h1 _ (FF _ _).symm (Fv _ _) (Ey _).2) hct2
 |e5 _ h0 h1 h2 h3 he5=>exact absurd (M9 ((B4 h0 h1 h2).1.up (by rw[h3];decide)) (Ht hi)) he5
 |e6 _ h0 h1 h2 h3 _ he6=>exact absurd (M9 ((B4 h0 h1 h2).1.up (by rw[h3];decide)) (HP hi1)) he6
 |e7 h0 h1 h2 h3 _ _ ns hp=>
  obtain⟨b1,b2,b3, -⟩:=B4 h0 h1 h2;have u4:=b1.up (by rw[h3];decide);obtain⟨g1,g2⟩:=hnew h0 h1 h2;have g3:=b3 h3;have g4: ∀x∈s.tabs,AN (Bi s m (Ab bs)).2 (Aw x.1)=AN m (Aw x.1):=λx _=>by rw[b1.same _ λe1=>e1.elim (Ey _).2 (Ey _).1];exact s3 h0 h1 _ (FF _ _).symm (Fv _ _) (Ey _).2
  have hst:GD s (Bi s m (Ab bs)).2={BJ s with log:=some ⟨(Ab bs).length,Aa s.v.next,false,false⟩,list:=some ⟨(Ay (BJ s).v).length,AX (s.v.next+1),false,false⟩}:=by
   unfold GD NH;rw[Re u4 hps g1,Re u4 hok g2]
  have hnd:ns.Nodup:=hp.nodup_iff.2 hF4.fb.nd;obtain⟨i1,i2,i3,i4⟩:=QE (GD s (Bi s m (Ab bs)).2) (s.v.next+1) ns u4 hF4 hnd λx hx=>OK.2 (hp.mem_iff.1 hx);have ncl:=QD (GD s (Bi s m (Ab bs)).2) (s.v.next+1) ns (Bi s m (Ab bs)).2;have hnl:ns.length≤Nf+7:=by rw[hp.length_eq,BZ];exact y4
  rw[hst]at i1 i2 i3 i4 ncl⊢;generalize hQ:DB {BJ s with log:=some ⟨(Ab bs).length,Aa s.v.next,false,false⟩,list:=some ⟨(Ay (BJ s).v).length,AX (s.v.next+1),false,false⟩} (s.v.next+1) ns (Bi s m (Ab bs)).2=q at i1 i2 i3 i4 ncl⊢;obtain⟨e9,m9⟩:=q;simp only at i1 i2 i3 i4 ncl⊢;have hF9:FT (A+Nf+17) U m9:=i3.mono (z17 _ hnl) (AW _);obtain⟨S,hS⟩: ∃S:AL,S={BJ s with log:=some ⟨(Ab bs).length,Aa s.v.next,false,false⟩,list:=some ⟨(Ay (BJ s).v).length,AX (s.v.next+1),false,false⟩}:=⟨_,rfl⟩
  rw[←hS]at i1 i4⊢;have hSv:S.v=(BJ s).v:=by rw[hS]
  have hSt:S.tabs=s.tabs:=by rw[hS];rfl
  have hSw:S.v.wal=s.v.next:=by rw[hSv];rfl
  have hkeep: ∀k,Cr S (s.v.next+1) k=true→AN m9 k=AN (Bi s m (Ab bs)).2 k:=λk hk=>i1.same k λhh=>by rw[hk]at hh;cases hh.2
  have j1:AN m9 Bf=some (AX (s.v.next+1),(AX (s.v.next+1)).length):=by rw[hkeep _ (WB _ _)];exact g3
  have j2:AN m9 (Aa s.v.next)=some (AQ (Ab bs),(AQ (Ab bs)).length):=by
   rw[hkeep (Aa s.v.next) (by rw[←hSw];exact WE S _ (by rw[hSw];omega) (by rw[hSw];exact hi))];exact g1
  have j3:AN m9 (AX (s.v.next+1))=some (AQ (Ay (BJ s).v),(AQ (Ay (BJ s).v)).length):=by rw[hkeep _ (WC _ AA hi1)];exact g2
  have hkr: ∀x∈s.tabs,1≤x.1∧x.1<s.v.next:=λx hx=>by
   obtain⟨f,hf,hfx⟩:=BU.1 (hct.files.mem_iff.2 (CC hx));obtain⟨h5,h6⟩:=hct.good.files.1 f hf;have:=Hx.1 h5;rw[←hfx];omega
  have j4: ∀x∈s.tabs,AN m9 (Aw x.1)=AN m (Aw x.1):=λx hx=>by
   have:=hkr x hx;rw[hkeep _ (WD S _ AA ⟨AA,AA⟩ (by
    rw[hSt];cases hq:Am x.1 s.tabs with
    |some _=>rfl
    |none=>exact absurd (CC hx) (Jd.1 hq)))]
   exact g4 x hx
  have hfd9:Fd e (AN m9) (BJ s).v s.tabs bs:=hFN j1 j2 j3 j4;rcases i2 with rfl|rfl
  ·have hup:=i1.up' AC;have hall: ∀k,(AN m9 k).isSome=true→Cr S (s.v.next+1) k=true:=λk hk=>by
    cases hq:Cr S (s.v.next+1) k with
    |true=>rfl
    |false=>
     exfalso;by_cases hkn:k∈ns
     ·rw[i4 rfl k hkn hq]at hk;cases hk
     ·rw[i1.same k λhh=>hkn hh.1]at hk;exact hkn (hp.mem_iff.2 (OK.1 hk))
   obtain⟨t1,t2,t3⟩:=Lz bs (s:=Cc 1 1 [] (BJ s).v s.tabs) (t:=Cc 1 1 [] s.v s.tabs) rfl rfl rfl;have hfree: ∀k,s.v.next+2≤k→k≤4611686018427387904→AN m9 (Aa k)=none:=λk x1 x2=>by
    cases hq:AN m9 (Aa k)with
    |none=>rfl
    |some x=>
     have hk:=hall (Aa k) (by rw[hq];rfl);rcases WA hk with hk|hk|hk|⟨n, -,hk⟩
     ·exact absurd hk (EC k).1
     ·exact absurd hk (EJ _ _)
     ·rw[hSw]at hk;have:=Ka ⟨AA,AA⟩ hi hk;omega
     ·exact absurd hk (FF _ _)
   have hDk:Dk e S (AN m9) (s.v.next+1) (JU (BJ s).v) ⟨(Ay (BJ s).v).length,AX (s.v.next+1),false,false⟩ bs:=by
    rw[hS];exact⟨rfl,rfl,AA,by show s.v.next+1<s.v.next+2;omega,j1,by rw[←OB];exact j3,hrp,λx hx=>(j4 x hx).trans (htabF x hx),by show(AN m9 (Aa s.v.next)).getD ([],0)=_;rw[j2];rfl,hps,hfree,t1.trans k3.symm,t2.trans k4.symm,t3.trans k5.symm,hct.bq,hct.bsz⟩
   have hCo:BH e S EW now Oj:=by
    rw[hS];have hE: ∀X Y,BS {BJ s with log:=X,list:=Y}=(Bu s.v s.tabs bs).mem++(s.tabs.map (·.2)).flatten:=λX Y=>by rw[←k3];rfl
    refine⟨k8,PO,by show Gd s.mem;rw[k3];exact hct.mem,hct.tab,by rw[hE];exact hct.one,by rw[hE];exact hct.num,hct.nlen,by show s.adds≤e;rw[k5];exact hct.adds,hv.good,hct.files,by show 1≤s.v.next+2;omega,by show s.v.next<s.v.next+2;omega,λg hg=>by cases hg;exact⟨_,rfl⟩,λg hg=>by cases hg;rfl,OP _,hsq,by show 0≤s.seq;omega,by rw[hE];show∀x:AF,x∈_→x.s≤s.seq;rw[k4];exact hct.top,by show 0≤s.given;omega,λx hx=>?_,?_,k9,by rw[hE];show Be _ s.seq now;rw[k4];exact hct.view,λn=>?_⟩
    ·have hx:x∈s.seqs:=hx;rw[k7]at hx;cases hx
    ·show(s.seqs.map (·.1)).Nodup;rw[k7];exact Ix
    ·show match Am n s.seqs with
      |some q=>∃rs,Oj n=some rs∧Be _ q rs
      |none=>Oj n=none
     rw[k7]
     rfl
   refine .ok S m9 hup hCo ⟨_,_,_,bs,hDk,hct.blen⟩ ⟨hF9,?_,?_,?_,?_,?_,?_⟩ (Au ncl y4) (by rw[hS];exact k6)
   ·rw[hSv];show s.v.next+2≤_;omega
   ·rw[hS];show s.seq≤_;omega
   ·rw[hS];show s.given≤_;omega
   ·rw[hS];show s.seqs.length≤_;rw[k7];exact Ag _
   ·have hes:(Ay (BJ s).v).length≤4196:=by rw[JT];exact OA hv.num
    rw[hS];exact⟨_,rfl,rfl,rfl,HP hi1,by simp only;omega⟩
   ·have hbl:=hct.blen;have hbl2:(Ab bs).length=bs.length:=by unfold Ab;rw[BZ]
    rw[hS];exact⟨_,rfl,rfl,rfl,Ht hi,by simp only;omega⟩
  ·exact .down S m9 (i1.down.2 rfl) (Fd.rec hfd9 hct2) hF9 (Au ncl y4)
end Go.Proofs.YtkgibdhpijdbfaaGreatDoor
