/- Texts of this claim, one behind the other. -/
import Derived.Test.YtkgibdhpijdbfaaGreatDoorZ38
import Derived.Test.YtkgibdhpijdbfaaGreatDoorZ34
import Derived.Test.YtkgibdhpijdbfaaGreatDoorZ22
import Derived.Test.YtkgibdhpijdbfaaGreatDoorZ37
set_option linter.unusedVariables false
set_option linter.unusedSimpArgs false
set_option maxHeartbeats 16000000
namespace Go.Proofs.YtkgibdhpijdbfaaGreatDoor
open Go Go.Eng Go.Proofs Go.Srt
structure Up(m:AJ):Prop where
 off:m.off=false
 fates:m.fates=[]
theorem Up.fate{m:AJ}(h:Up m):Cw m=0:=by unfold Cw;rw[h.fates];rfl
theorem Up.acted{m:AJ}(h:Up m):Up (acted m):=⟨by unfold Proofs.YtkgibdhpijdbfaaGreatDoor.acted;simp[h.fate],h.fates⟩
theorem Up.find{m:AJ}(h:Up m)(n:AE):BB m n=match AN m n with|none=>(([],0),5)|some x=>(x,0):=by unfold BB;rw[h.off];rfl
theorem Up.find_some{m:AJ}(h:Up m){n:AE}{x:AE×Nat}(hx:AN m n=some x):BB m n=(x,0):=by rw[h.find,hx]
theorem Up.find_none{m:AJ}(h:Up m){n:AE}(hx:AN m n=none):BB m n=(([],0),5):=by rw[h.find,hx]
theorem Mf(m:AJ)(n k:AE)(x:AE×Nat):AN {m with files:=Ba n x m.files} k=if k=n then some x else AN m k:=by unfold AN;exact G6 n x k m.files
theorem Tp{m:AJ}(h:Up m){n:AE}(hn:named n=true)(ps:List AE):
  (A9 m n ps).1=0∧Up (A9 m n ps).2∧ ∀k,AN (A9 m n ps).2 k=if k=n then some (((AN m n).getD ([],0)).1++ps.flatten,((AN m n).getD ([],0)).2)else AN m k:=by
 unfold A9;rw[h.off,hn,h.fate];simp only[Bool.false_eq_true,if_false,Bool.not_true,h.acted.off,show¬(0:Int)=3 by decide,show¬(0:Int)=1 by decide];exact⟨trivial,⟨rfl,h.fates⟩,λk=>Mf (acted m) n k _⟩
theorem YQ{m:AJ}(h:Up m){n:AE}{x:AE×Nat}(hx:AN m n=some x):
  (CW m n).1=0∧Up (CW m n).2∧ ∀k,AN (CW m n).2 k=if k=n then some (x.1,x.1.length)else AN m k:=by
 unfold CW;rw[h.find_some hx,h.fate];simp only[ne_eq,not_true_eq_false,if_false,h.acted.off,show¬(0:Int)=1 by decide,Bool.false_eq_true];exact⟨trivial,⟨rfl,h.fates⟩,λk=>Mf (acted m) n k _⟩
theorem N1{m:AJ}(h:Up m)(hnd:(m.files.map (·.1)).Nodup)(n:AE):
  (BA m n).1=(if(AN m n).isSome then 0 else 5)∧Up (BA m n).2∧ ∀k,AN (BA m n).2 k=if k=n then none else AN m k:=by
 unfold BA;cases hx:AN m n with
 |none=>
  rw[h.find_none hx];refine⟨rfl,h,λk=>?_⟩;by_cases hk:k=n
  ·rw[if_pos hk,hk];exact hx
  ·rw[if_neg hk];rfl
 |some x=>
  rw[h.find_some hx,h.fate];simp only[ne_eq,not_true_eq_false,if_false,h.acted.off,show¬(0:Int)=1 by decide,Bool.false_eq_true];exact⟨rfl,⟨rfl,h.fates⟩,λk=>by unfold AN;exact J7 n k hnd⟩
theorem OK{A:Nat}{m:AJ}(h:Up m)(hB:FB A m){n:AE}(hn:named n=true)(t:AE):
  (CE m n t).1=0∧Up (CE m n t).2∧ ∀k,AN (CE m n t).2 k=if k=n then some (t,t.length)else AN m k:=by
 obtain⟨d1,d2,d3⟩:=N1 h hB.nd n;unfold CE;have hd: ¬((BA m n).1≠0∧(BA m n).1≠5):=by rw[d1];split<;>simp
 rw[if_neg hd];obtain⟨a1,a2,a3⟩:=Tp d2 hn [t];rw[if_neg (by rw[a1];simp)];have hg:AN (A9 (BA m n).2 n [t]).2 n=some (t,0):=by rw[a3,if_pos rfl,d3,if_pos rfl];simp
 obtain⟨s1,s2,s3⟩:=YQ a2 hg;refine⟨s1,s2,λk=>?_⟩;rw[s3];by_cases hk:k=n
 ·rw[if_pos hk,if_pos hk]
 ·rw[if_neg hk,if_neg hk,a3,if_neg hk,d3,if_neg hk]
theorem Rw{A:Nat}{m:AJ}(h:Up m)(hB:FB A m){n:AE}(hn:named n=true){ps:List AE}(hp:Bc ps=true):
  (Cd m n ps).1=0∧Up (Cd m n ps).2∧ ∀k,AN (Cd m n ps).2 k=if k=n then some (AQ ps,(AQ ps).length)else AN m k:=by
 unfold Cd;rw[hp];exact OK h hB hn _
theorem Xp{A:Nat}{m:AJ}(h:Up m)(hB:FB A m){a b:AE}(hb:named b=true)(hab:a≠b){x:AE×Nat}(hx:AN m a=some x):
  (Cx m a b).1=0∧Up (Cx m a b).2∧ ∀k,AN (Cx m a b).2 k=if k=b then some x else if k=a then none else AN m k:=by
 unfold Cx;rw[hb,h.find_some hx,h.fate];simp only[Bool.true_eq_false,and_false,if_false,ne_eq,not_true_eq_false,h.acted.off,show¬(0:Int)=1 by decide,Bool.false_eq_true];refine⟨trivial,⟨rfl,h.fates⟩,λk=>?_⟩;show Al k (Ba b x (Co a m.files))=_;rw[G6,J7 _ _ hB.nd]
 rfl
theorem Up.open{m:AJ}(h:Up m){n:AE}(hn:named n=true):C9 m n=0:=by unfold C9;rw[h.off,hn];rfl
structure GM(g:BF)(N:Nat):Prop where
 torn:g.torn=false
 dead:g.dead=false
 name:named g.name=true
 num:g.n≤N
theorem Tm{m:AJ}(h:Up m){g:BF}{N:Nat}(hg:GM g N){ps:List AE}(hp:Bc ps=true)(hne:ps≠[]):
  (appL m g ps).1=0∧(appL m g ps).2.1={g with n:=g.n+ps.length}∧Up (appL m g ps).2.2∧ ∀k,AN (appL m g ps).2.2 k=if k=g.name then some (((AN m g.name).getD ([],0)).1++AQ ps,(((AN m g.name).getD ([],0)).1++AQ ps).length)else AN m k:=by
 obtain⟨a1,a2,a3⟩:=Tp h hg.name [AQ ps];have hx:AN (A9 m g.name [AQ ps]).2 g.name=some (((AN m g.name).getD ([],0)).1++AQ ps,((AN m g.name).getD ([],0)).2):=by rw[a3,if_pos rfl];simp
 obtain⟨s1,s2,s3⟩:=YQ a2 hx;have e:DJ m g.name g.n g.torn g.dead ps=(0,(g.n+ps.length,false),(CW (A9 m g.name [AQ ps]).2 g.name).2):=by
  unfold DJ;rw[hg.dead,h.off,hg.torn,hp,a1,s1];simp[hne]
 unfold appL;rw[e];refine⟨rfl,by simp only[hg.dead.symm],s2,λk=>?_⟩;show AN (CW (A9 m g.name [AQ ps]).2 g.name).2 k=_;rw[s3];by_cases hk:k=g.name
 ·rw[if_pos hk,if_pos hk]
 ·rw[if_neg hk,if_neg hk,a3,if_neg hk]
/-! ## Names-/
theorem RQ{n:AE}(h1:n≠[])(h2:n.length≤40):named n=true:=by unfold named;simp[h1,h2]
theorem Wk{n:Int}(h:Ck n):named (Aw n)=true:=RQ (by unfold Aw;simp) (by have:=(Fr h).1;omega)
theorem Hs{n:Int}(h:Ck n):named (Aa n)=true:=RQ (by unfold Aa;simp) (by have:=(Fr h).2.1;omega)
theorem HR{n:Int}(h:Ck n):named (AX n)=true:=RQ (by unfold AX;simp) (by have:=(Fr h).2.2;omega)
theorem Oe:named Bg=true:=AC
theorem Of:named Bb=true:=AC
theorem N7{v:VM}(ho:ER (Ep v)):Bc (Ay v)=true:=by
 unfold Bc;rw[C8];intro p hp;obtain⟨e,he,rfl⟩:=BV.1 hp;obtain⟨i, -,rfl⟩:=BV.1 he;have hpl:(C6 v i).add.length≤2000:=by
  show((v.files.drop (i*2000)).take 2000).length≤2000;rw[BR];omega
 have:=N4 (M0 ho i) AA rfl;exact decide_eq_true AA
theorem N5{v:VM}(h:v.files.length≤8388608):EV v≤4196:=by unfold EV;omega
theorem Nr{v:VM}{e:EM}(hv:Good v)(h1: ∀f∈e.add,HS f=true∧v.next≤f.2∧f.2<e.next)(h2:(e.add.map (·.2)).Nodup)(hd:e.del=[]∨e.del=v.files.map (·.2))(hn:v.next≤e.next)(hs:v.seq≤e.seq)(hw:0≤e.wal):
  ∃nx,BQ v e=some nx∧nx.wal=e.wal∧nx.next=e.next∧nx.seq=e.seq∧nx.files.Perm ((if e.del=[]then v.files else [])++e.add):=by
 obtain⟨hf,hnn, -⟩:=hv;have hdel: ∀n∈e.del,∃f∈v.files,f.2=n:=by
  rcases hd with hd|hd
  ·rw[hd];intro n hn;cases hn
  ·rw[hd];intro n hn;exact BV.1 hn
 have hst:GG v e=true:=by
  unfold GG DA;simp only[Bool.and_eq_true,decide_eq_true_iff,C8];refine⟨⟨⟨⟨λf hf=>(h1 f hf).1,λn hn=>?_⟩,hw,AA,AA⟩,hn⟩,hs⟩;obtain⟨f,hfm,rfl⟩:=hdel n hn;have:=Hw.1 (hf.1 f hfm).1;unfold LD;simp;omega
 have hdl:Gk e v.files=true:=by
  unfold Gk;rw[C8];intro n hn;simp only[Bool.and_eq_true,decide_eq_true_iff];obtain⟨f,hfm,rfl⟩:=hdel n hn;refine⟨?_,(Q4 _ _).2 (CD hfm)⟩;rcases hd with hd|hd
  ·rw[hd]at hn;cases hn
  ·rw[hd];rw[hd]at hn;have h5:=List.nodup_iff_count.1 hf.2 f.2;have h6:=List.count_pos_iff.2 hn;omega
 have hk:Ei e v.files=if e.del=[]then v.files else []:=by
  unfold Ei;by_cases he:e.del=[]
  ·rw[if_pos he,he];simp
  ·rw[if_neg he];rcases hd with hd|hd
   ·exact absurd hd he
   ·rw[List.filter_eq_nil_iff];intro f hf;rw[hd];simp only[List.contains_eq_mem,Bool.not_eq_true',decide_eq_false_iff_not,Decidable.not_not];exact CD hf
 have hg:Gd e.next (Ei e v.files++e.add):=by
  rw[hk];refine⟨λf hf'=>?_,?_⟩
  ·rcases Bl.1 hf' with h|h
   ·split at h
    ·have:=hf.1 f h;exact⟨this.1,AA⟩
    ·cases h
   ·exact⟨(h1 f h).1,(h1 f h).2.2⟩
  ·rw[A7,FU];refine⟨?_,h2,λa ha b hb e'=>?_⟩
   ·split
    ·exact hf.2
    ·exact List.nodup_nil
   ·subst e'
    split at ha
    ·obtain⟨f,hf1,rfl⟩:=BV.1 ha;obtain⟨g,hg1,hg2⟩:=BV.1 hb;have h3:=(hf.1 f hf1).2;have h4:=(h1 g hg1).2.1;omega
    ·cases ha
 have ha:=Pu e.add (Ei e v.files) hg;refine⟨⟨Di (Ei e v.files++e.add),e.wal,e.next,e.seq⟩,?_,rfl,rfl,rfl,?_⟩
 ·unfold BQ;rw[hst,hdl,ha];rfl
 ·rw[←hk];exact I8 _
theorem Rf{m:AJ}(h:Up m){n:AE}{ps:List AE}{y:Nat}(hp:Bc ps=true)(hx:AN m n=some (AQ ps,y)):D6 m n=⟨ps.length,n,false,false⟩:=by
 unfold D6;rw[h.find_some hx];simp only[IY ps hp];simp
theorem vD{m:AJ}(h:Up m){n:AE}(hx:AN m n=none):D6 m n=⟨0,n,false,false⟩:=by
 unfold D6;rw[h.find_none hx];have:=IY [] rfl;unfold AQ at this;simp only[kC,Gm]at this;simp only[this];simp
theorem Iz:Bb≠Bg:=AC
structure Jk(m:AJ)(g:BF)(x:EM)(nx:VM)(g':BF)(v':VM)(m':AJ):Prop where
 files:v'.files=nx.files
 wal:v'.wal=nx.wal
 seq:v'.seq=nx.seq
 next:nx.next≤v'.next∧v'.next≤nx.next+1
 good:DE v'
 up:Up m'
 lg: ∀N,GM g N→4200≤N→GM g' (N+1)
 disk:(g'={g with n:=g.n+1}∧v'=nx∧(Am x).length≤65536∧(∀k,AN m' k=if k=g.name then some (((AN m g.name).getD ([],0)).1++AQ [Am x],(((AN m g.name).getD ([],0)).1++AQ [Am x]).length)else AN m k))∨
  (g'.name=AX nx.next∧v'={nx with next:=nx.next+1}∧AN m' (AX nx.next)=some (AQ (Ay v'),(AQ (Ay v')).length)∧(∃y,AN m' Bg=some (AX nx.next,y))∧ ∀k,k≠AX nx.next→k≠Bg→k≠Bb→AN m' k=AN m k)
theorem Jk.lname{m:AJ}{g:BF}{x:EM}{nx:VM}{g':BF}{v':VM}{m':AJ}(h:Jk m g x nx g' v' m')(hg: ∃j,g.name=AX j): ∃j,g'.name=AX j:=by
 rcases h.disk with⟨h1, -⟩|⟨h1, -⟩
 ·obtain⟨j,hj⟩:=hg;exact⟨j,by rw[h1];exact hj⟩
 ·exact⟨_,h1⟩
theorem Jk.keep{m:AJ}{g:BF}{x:EM}{nx:VM}{g':BF}{v':VM}{m':AJ}(h:Jk m g x nx g' v' m')(hg: ∃j,g.name=AX j)(k:AE)(h1: ∀j,k≠AX j)(h2:k≠Bg)(h3:k≠Bb):AN m' k=AN m k:=by
 rcases h.disk with⟨-, -, -,h4⟩|⟨-, -, -, -,h4⟩
 ·obtain⟨j,hj⟩:=hg;rw[h4,if_neg (by rw[hj];exact h1 j)]
 ·exact h4 k (h1 _) h2 h3
theorem G7(n:Int):AX n≠Bg∧AX n≠Bb:=by
 unfold AX Bg Bb;constructor<;>intro h<;>cases h
theorem UY{A T N:Nat}{s:AM}{m:AJ}{x:EM}{nx:VM}{g:BF}(mk:List (Int×List AF))(h:Up m)(hF:FT A T m)(hg:s.list=some g)(hgl:GM g N)(ha:BQ s.v x=some nx)(hnx:DE nx)(hn:0≤nx.next∧nx.next+1≤2305843009213693952):
  ∃g' v' m',DY s m x mk=(0,{s with list:=some g',v:=v',tabs:=FZ s.tabs mk x.del},m')∧Jk m g x nx g' v' m':=by
 unfold DY;rw[ha];simp only;by_cases hlong:65536<(Am x).length
 ·rw[if_pos hlong];obtain⟨n1,n2,n3, -, -⟩:=hnx.next_fine hn.2;have hw:=hnx.succ hn.2;have hln:Ck nx.next:=⟨AA,AA⟩;have hok:Bc (Ay {nx with next:=nx.next+1})=true:=N7 n2;have hes:(Ay {nx with next:=nx.next+1}).length≤4196:=by rw[JP];exact N5 hnx.num
  unfold FW;simp only;obtain⟨a1,a2,a3⟩:=Rw h hF.fb (HR hln) hok;have hB1:=hF.fb.rewrite (AX nx.next) (Ay {nx with next:=nx.next+1}) (by rw[Ds];omega);generalize Cd m (AX nx.next) (Ay {nx with next:=nx.next+1})=q1 at a1 a2 a3 hB1⊢;obtain⟨e1,m1⟩:=q1;simp only at a1 a2 a3 hB1⊢;subst a1
  try simp only[ne_eq,not_true_eq_false,if_false,if_true,ite_not]
  have hnm:=(Fr hln).2.2;obtain⟨b1,b2,b3⟩:=OK a2 hB1 Of (AX nx.next);have hB2:=hB1.file Bb (AX nx.next) AA;generalize CE m1 Bb (AX nx.next)=q2 at b1 b2 b3 hB2⊢;obtain⟨e2,m2⟩:=q2;simp only at b1 b2 b3 hB2⊢;subst b1
  try simp only[ne_eq,not_true_eq_false,if_false,if_true,ite_not]
  obtain⟨c1,c2,c3⟩:=Xp b2 hB2 Oe Iz (by rw[b3,if_pos rfl]);generalize Cx m2 Bb Bg=q3 at c1 c2 c3⊢;obtain⟨e3,m3⟩:=q3;simp only at c1 c2 c3⊢;subst c1
  try simp only[ne_eq,not_true_eq_false,if_false,if_true,ite_not]
  obtain⟨l1,l2⟩:=G7 nx.next;have hgl3:AN m3 (AX nx.next)=some (AQ (Ay {nx with next:=nx.next+1}),(AQ (Ay {nx with next:=nx.next+1})).length):=by
   rw[c3,if_neg l1,if_neg l2,b3,if_neg l2,a3,if_pos rfl]
  rw[c2.open (HR hln)]
  try simp only[ne_eq,not_true_eq_false,if_false,if_true,ite_not]
  have hol:=Rf c2 hok hgl3;rw[hol];refine⟨_,_,m3,rfl,rfl,rfl,rfl,⟨by(try simp only);omega,by(try simp only);omega⟩,hw,c2,λN hN hN2=>⟨rfl,rfl,HR hln,by simp only;omega⟩,.inr ⟨rfl,rfl,hgl3,⟨_,by rw[c3,if_pos rfl]⟩,λk h1 h2 h3=>?_⟩⟩;rw[c3,if_neg h2,if_neg h3,b3,if_neg h3,a3,if_neg h1]
 ·rw[if_neg hlong,hg];simp only;have hok:Bc [Am x]=true:=by unfold Bc;simp;omega
  obtain⟨a1,a2,a3,a4⟩:=Tm h hgl hok AB;generalize appL m g [Am x]=q at a1 a2 a3 a4⊢;obtain⟨e1,g1,m1⟩:=q;simp only at a1 a2 a3 a4⊢;subst a1 a2
  try simp only[ne_eq,not_true_eq_false,if_false,if_true,ite_not]
  exact⟨_,nx,m1,rfl,rfl,rfl,rfl,⟨Ea _,AA⟩,hnx,a3,λN hN hN2=>⟨hN.torn,hN.dead,hN.name,by have:=hN.num;simp only[Ai,Bo];omega⟩,.inl ⟨rfl,rfl,AA,a4⟩⟩
theorem LW{i j:Int}(hi:Ck i)(hj:Ck j)(h:Aw i=Aw j):i=j:=Ky hi hj (by unfold Aw at h;exact(List.cons.inj h).2)
theorem RG{T:Nat}(hT:1048576≤T∧T≤1099511627776): ∀(cs:List (List AF)){A:Nat}{m:AJ}(n:Int),Up m→FT A T m→(∀c∈cs,B8 c)→0≤n→n+cs.length≤4611686018427387904→
  (Bi m n cs).1=0∧Up (Bi m n cs).2∧(∀k,(∀i,n≤i→i<n+cs.length→k≠Aw i)→AN (Bi m n cs).2 k=AN m k)∧ ∀x∈Ar n cs,AN (Bi m n cs).2 (Aw x.1)=some (B5 x.2,(B5 x.2).length)
 |[],A,m,n,h,_,_,_,_=>⟨rfl,h,λk _=>rfl,λx hx=>by cases hx⟩
 |c::cs,A,m,n,h,hF,hc,h0,hn=>by
  rw[Ai]at hn;have hi:Ck n:=⟨AA,AA⟩;have hb:=(hc c AB).bytes;obtain⟨f1,f2,f3⟩:=OK h hF.fb (Wk hi) (B5 c);have hF2:=hF.file (Aw n) (B5 c) AA hT.2;obtain⟨i1,i2,i3,i4⟩:=RG hT cs (n+1) f2 hF2 (λc hc'=>hc c (by simp[hc'])) AA AA;have e:Bi m n (c::cs)=Bi (CE m (Aw n) (B5 c)).2 (n+1) cs:=by rw[Bi,if_neg (by rw[f1];simp)]
  rw[e];refine⟨i1,i2,λk hk=>?_,λx hx=>?_⟩
  ·rw[i3 k λi h1 h2=>hk i AA (by rw[Ai];omega),f3,if_neg (hk n (Ea _) (by rw[Ai];omega))]
  ·rw[Ar]at hx;rcases As.1 hx with rfl|hx
   ·rw[i3 (Aw n) λi h1 h2 h3=>by have:=LW hi ⟨AA,AA⟩ h3;omega,f3,if_pos rfl]
   ·exact i4 x hx
theorem KR{i j:Int}(hi:Ck i)(hj:Ck j)(h:Aa i=Aa j):i=j:=Ky hi hj (by unfold Aa at h;exact(List.cons.inj h).2)
theorem FH(i j:Int):Aa i≠Aw j:=by unfold Aa Aw;intro h;cases h
theorem EG(i j:Int):Aa i≠AX j:=by unfold Aa AX;intro h;cases h
theorem Fv(i j:Int):Aw i≠AX j:=by unfold Aw AX;intro h;cases h
theorem EB(n:Int):Aa n≠Bg∧Aa n≠Bb:=by
 unfold Aa Bg Bb;constructor<;>intro h<;>cases h
theorem E0(n:Int):Aw n≠Bg∧Aw n≠Bb:=by
 unfold Aw Bg Bb;constructor<;>intro h<;>cases h
theorem LB{α:Type}: ∀(cs:List α)(n:Int),((Ar n cs).map (·.1)).Nodup
 |[],n=>List.nodup_nil
 |c::cs,n=>by
  rw[Ar,A4,Ew];refine⟨λh=>?_,LB cs (n+1)⟩;have:=(LA cs (n+1) n).1 h;omega
theorem JR(lev:Int)(l:List (Int×List AF)):(Bx lev l).map (·.2)=l.map (·.1):=by unfold Bx;rw[Fp];rfl
structure Ss(s:AM)(m:AJ)(mk:List (Int×List AF))(g:BF)(m1:AJ)(nx:VM)(g':BF)(v':VM)(m2 m3:AJ):Prop where
 lay:Bi m s.v.next (AR 64 s.mem)=(0,m1)
 app:BQ s.v ⟨Bx 0 (Ar s.v.next (AR 64 s.mem)),[],s.v.next+(AR 64 s.mem).length,s.v.next+(AR 64 s.mem).length+1,s.seq⟩=some nx
 files:nx.files.Perm (s.v.files++Bx 0 (Ar s.v.next (AR 64 s.mem)))
 wal:nx.wal=s.v.next+(AR 64 s.mem).length
 next:nx.next=s.v.next+(AR 64 s.mem).length+1
 seq:nx.seq=s.seq
 ed:Jk m1 g ⟨Bx 0 (Ar s.v.next (AR 64 s.mem)),[],s.v.next+(AR 64 s.mem).length,s.v.next+(AR 64 s.mem).length+1,s.seq⟩ nx g' v' m2
 del: ∀k,AN m3 k=if k=Aa s.v.wal then none else AN m2 k
 up:Up m3
 same: ∀k,(∀i,s.v.next≤i→i<s.v.next+(AR 64 s.mem).length→k≠Aw i)→AN m1 k=AN m k
 laid: ∀x∈Ar s.v.next (AR 64 s.mem),AN m1 (Aw x.1)=some (B5 x.2,(B5 x.2).length)
 out:By s m mk=(0,{s with list:=some g',v:=v',tabs:=FZ s.tabs mk [],mem:=[],adds:=0,log:=some (D6 m2 (Aa (s.v.next+(AR 64 s.mem).length)))},m3)
theorem rG{A T N:Nat}{s:AM}{m:AJ}{g:BF}(mk:List (Int×List AF))(h:Up m)(hF:FT A T m)(hT:536870912≤T∧T+65544≤1099511627776)(hg:s.list=some g)(hgl:GM g N)(hv:DE s.v)(h1:1≤s.v.next)(hn:s.v.next≤1152921504606846976)(hvn:s.v.files.length≤4194304)
  (hm:Gf s.mem)(hne:s.mem≠[])(hsq:s.v.seq≤s.seq∧s.seq≤1152921504606846976):
  ∃m1 nx g' v' m2 m3,Ss s m mk g m1 nx g' v' m2 m3∧FT (A+3*s.mem.length+8) (T+65544) m3:=by
 have hcs:=I5 64 s.mem AA;have hmn:=hm.num;obtain⟨l1,l2,l3,l4⟩:=RG ⟨AA,AA⟩ (AR 64 s.mem) s.v.next h hF hm.tab AA AA;have hF1:=FT.lay ⟨AA,AA⟩ (AR 64 s.mem) s.v.next hF hm.tab;have hfo:=Ko 0 (AR 64 s.mem) s.v.next;have hfl:(Bx 0 (Ar s.v.next (AR 64 s.mem))).length=(AR 64 s.mem).length:=by rw[Ju,Jb]
 obtain⟨nx,ha,hw,hx,hs,hp⟩:=Nr (v:=s.v) (e:=⟨Bx 0 (Ar s.v.next (AR 64 s.mem)),[],s.v.next+(AR 64 s.mem).length,s.v.next+(AR 64 s.mem).length+1,s.seq⟩) hv.good
  (λf hf=>by obtain⟨f1,f2,f3⟩:=hfo f hf;exact⟨Hw.2 ⟨AA,AA,AA⟩,f2,by show f.2<s.v.next+(AR 64 s.mem).length+1;omega⟩)
  (by show((Bx 0 (Ar s.v.next (AR 64 s.mem))).map (·.2)).Nodup;rw[JR];exact LB _ _) (.inl rfl) (by show s.v.next≤s.v.next+(AR 64 s.mem).length+1;omega) hsq.1 (by show 0≤s.v.next+(AR 64 s.mem).length;omega)
 obtain⟨hnx,hnn⟩:=Ki hv (by show s.v.files.length+(Bx 0 (Ar s.v.next (AR 64 s.mem))).length≤_;rw[hfl];omega) (by show s.v.next+(AR 64 s.mem).length≤_;omega) (by show s.v.next+(AR 64 s.mem).length+1≤_;omega) (by show s.seq≤_;omega) nx ha;have hF0:By s m mk=By s m mk:=rfl
 conv at hF0=>rhs;unfold By
 simp only at hF0;rw[if_neg hne]at hF0;generalize hq:Bi m s.v.next (AR 64 s.mem)=q at l1 l2 l3 l4 hF1 hF0;obtain⟨e1,m1⟩:=q;simp only at l1 l2 l3 l4 hF1 hF0;subst l1;obtain⟨g',v',m2,he,hout⟩:=UY (s:=s) mk l2 hF1 hg hgl ha hnx ⟨by rw[hx];show 0≤s.v.next+(AR 64 s.mem).length+1;omega,hnn⟩;rw[he]at hF0;simp only[ne_eq,not_true_eq_false,if_false]at hF0;have hi:Ck (s.v.next+(AR 64 s.mem).length):=⟨AA,AA⟩
 rw[hout.up.open (Hs hi)]at hF0;simp only[ne_eq,not_true_eq_false,if_false]at hF0;have hF2:=hF1.edit s ⟨Bx 0 (Ar s.v.next (AR 64 s.mem)),[],s.v.next+(AR 64 s.mem).length,s.v.next+(AR 64 s.mem).length+1,s.seq⟩ mk (by
  intro nx' hnx';rw[ha]at hnx';cases hnx';obtain⟨h3,h4,h5,h6⟩:=hnx.next_fine hnn;have:=(Fr (n:=nx.next) ⟨AA,AA⟩).2.2;exact⟨by rw[Ds];omega,AA⟩) AA
 rw[he]at hF2;obtain⟨d1,d2,d3⟩:=N1 hout.up hF2.fb.nd (Aa s.v.wal);have hd: ¬((BA m2 (Aa s.v.wal)).1≠0∧(BA m2 (Aa s.v.wal)).1≠5):=by rw[d1];split<;>simp
 rw[if_neg hd]at hF0;exact⟨m1,nx,g',v',m2,_,⟨hq,ha,hp,hw,hx,hs,hout,d3,d2,l3,l4,hF0⟩,(hF2.del (Aa s.v.wal)).mono AA (AV _)⟩
theorem UO{T:Nat}: ∀(ns:List AE){A:Nat}{m:AJ},Up m→FT A T m→Up (delAll ns m).2∧(∀k,k∉ns→AN (delAll ns m).2 k=AN m k)∧(ns.Nodup→(∀n∈ns,(AN m n).isSome=true)→(delAll ns m).1=0)∧(delAll ns m).1≠7
 |[],A,m,h,_=>⟨h,λk _=>rfl,λ_ _=>rfl,(by decide:(0:Int)≠7)⟩
 |n::ns,A,m,h,hF=>by
  obtain⟨d1,d2,d3⟩:=N1 h hF.fb.nd n;unfold delAll;by_cases hs:(AN m n).isSome=true
  ·rw[if_pos hs]at d1;rw[if_neg (by rw[d1];simp)];obtain⟨i1,i2,i3,i4⟩:=UO ns d2 (hF.del n);refine⟨i1,λk hk=>?_,λhnd hall=>i3 (Ew.1 hnd).2 λx hx=>?_,i4⟩
   ·rw[As,not_or]at hk;rw[i2 k hk.2,d3,if_neg hk.1]
   ·rw[d3,if_neg (λe:x=n=>(Ew.1 hnd).1 (e▸hx))];exact hall x (by simp[hx])
  ·rw[if_neg hs]at d1;rw[if_pos (by rw[d1];simp)];refine⟨d2,λk hk=>?_,λhnd hall=>absurd (hall n AB) hs,by rw[d1];decide⟩;rw[As,not_or]at hk;rw[d3,if_neg hk.1]
structure Sj(s:AM)(m:AJ)(es:List AF)(mk:List (Int×List AF))(g:BF)(m1:AJ)(nx:VM)(g':BF)(v':VM)(m2 m3:AJ):Prop where
 lay:Bi m s.v.next (AR 64 es)=(0,m1)
 app:BQ s.v ⟨Bx 1 (Ar s.v.next (AR 64 es)),s.v.files.map (·.2),s.v.wal,s.v.next+(AR 64 es).length,s.v.seq⟩=some nx
 files:nx.files.Perm (Bx 1 (Ar s.v.next (AR 64 es)))
 wal:nx.wal=s.v.wal
 next:nx.next=s.v.next+(AR 64 es).length
 seq:nx.seq=s.v.seq
 ed:Jk m1 g ⟨Bx 1 (Ar s.v.next (AR 64 es)),s.v.files.map (·.2),s.v.wal,s.v.next+(AR 64 es).length,s.v.seq⟩ nx g' v' m2
 del: ∀k,k∉(s.v.files.map (·.2)).map Aw→AN m3 k=AN m2 k
 ret:((s.v.files.map (·.2)).map Aw).Nodup→(∀n∈(s.v.files.map (·.2)).map Aw,(AN m2 n).isSome=true)→(delAll ((s.v.files.map (·.2)).map Aw) m2).1=0
 r7:(delAll ((s.v.files.map (·.2)).map Aw) m2).1≠7
 up:Up m3
 same: ∀k,(∀i,s.v.next≤i→i<s.v.next+(AR 64 es).length→k≠Aw i)→AN m1 k=AN m k
 laid: ∀x∈Ar s.v.next (AR 64 es),AN m1 (Aw x.1)=some (B5 x.2,(B5 x.2).length)
 out:DG s m es mk=((delAll ((s.v.files.map (·.2)).map Aw) m2).1,{s with list:=some g',v:=v',tabs:=FZ s.tabs mk (s.v.files.map (·.2))},m3)
theorem cK{A T N:Nat}{s:AM}{m:AJ}{g:BF}{es:List AF}(mk:List (Int×List AF))(h:Up m)(hF:FT A T m)(hT:536870912≤T∧T+65544≤1099511627776)(hg:s.list=some g)(hgl:GM g N)(hv:DE s.v)(h1:1≤s.v.next)(hn:s.v.next≤1152921504606846976)(hvn:s.v.files.length≤4194304)(hvw:s.v.wal≤1152921504606846976)(hvs:s.v.seq≤1152921504606846976)
  (hm:Gf es)(hne:s.v.files≠[]):
  ∃m1 nx g' v' m2 m3,Sj s m es mk g m1 nx g' v' m2 m3∧FT (A+3*es.length+s.v.files.length+8) (T+65544) m3:=by
 have hcs:=I5 64 es AA;have hmn:=hm.num;obtain⟨l1,l2,l3,l4⟩:=RG ⟨AA,AA⟩ (AR 64 es) s.v.next h hF hm.tab AA AA;have hF1:=FT.lay ⟨AA,AA⟩ (AR 64 es) s.v.next hF hm.tab;have hfo:=Ko 1 (AR 64 es) s.v.next;have hfl:(Bx 1 (Ar s.v.next (AR 64 es))).length=(AR 64 es).length:=by rw[Ju,Jb]
 have hgn:s.v.files.map (·.2)≠[]:=by simpa using hne
 obtain⟨nx,ha,hw,hx,hs,hp⟩:=Nr (v:=s.v) (e:=⟨Bx 1 (Ar s.v.next (AR 64 es)),s.v.files.map (·.2),s.v.wal,s.v.next+(AR 64 es).length,s.v.seq⟩) hv.good
  (λf hf=>by obtain⟨f1,f2,f3⟩:=hfo f hf;exact⟨Hw.2 ⟨AA,AA,AA⟩,f2,f3⟩)
  (by show((Bx 1 (Ar s.v.next (AR 64 es))).map (·.2)).Nodup;rw[JR];exact LB _ _) (.inr rfl) (by show s.v.next≤s.v.next+(AR 64 es).length;omega) (Ea _) hv.good.nn.1
 rw[if_neg hgn,CU]at hp;obtain⟨hnx,hnn⟩:=Ki hv (by show s.v.files.length+(Bx 1 (Ar s.v.next (AR 64 es))).length≤_;rw[hfl];omega) (by show s.v.wal≤_;omega) (by show s.v.next+(AR 64 es).length≤_;omega) (by show s.v.seq≤_;omega) nx ha;have hF0:DG s m es mk=DG s m es mk:=rfl
 conv at hF0=>rhs;unfold DG
 simp only at hF0;rw[if_neg hne]at hF0;generalize hq:Bi m s.v.next (AR 64 es)=q at l1 l2 l3 l4 hF1 hF0;obtain⟨e1,m1⟩:=q;simp only at l1 l2 l3 l4 hF1 hF0;subst l1;obtain⟨g',v',m2,he,hout⟩:=UY (s:=s) mk l2 hF1 hg hgl ha hnx ⟨by rw[hx];show 0≤s.v.next+(AR 64 es).length;omega,hnn⟩;rw[he]at hF0;simp only[ne_eq,not_true_eq_false,if_false]at hF0;have hF2:=hF1.edit s ⟨Bx 1 (Ar s.v.next (AR 64 es)),s.v.files.map (·.2),s.v.wal,s.v.next+(AR 64 es).length,s.v.seq⟩ mk (by
  intro nx' hnx';rw[ha]at hnx';cases hnx';obtain⟨h3,h4,h5,h6⟩:=hnx.next_fine hnn;have:=(Fr (n:=nx.next) ⟨AA,AA⟩).2.2;exact⟨by rw[Ds];omega,AA⟩) AA
 rw[he]at hF2;obtain⟨d1,d2,d3,d4⟩:=UO ((s.v.files.map (·.2)).map Aw) hout.up hF2;have hF3:=FT.delAll ((s.v.files.map (·.2)).map Aw) hF2;simp only[BM]at hF3;exact⟨m1,nx,g',v',m2,_,⟨hq,ha,hp,hw,hx,hs,hout,d2,d3,d4,d1,l3,l4,hF0⟩,hF3.mono AA (AV _)⟩
/-! ## The tables-/
theorem Rl{α:Type}: ∀(mk t:List (Int×α)),(mk.map (·.1)).Nodup→(∀n∈mk.map (·.1),n∉t.map (·.1))→putAll t mk=t++mk
 |[],t,_,_=>by simp[putAll]
 |x::mk,t,h1,h2=>by
  rw[A4,Ew]at h1;have e:putAll t (x::mk)=putAll (Ba x.1 x.2 t) mk:=rfl;rw[e,OY (h2 x.1 AB),Rl mk _ h1.2 λn hn hn2=>?_]
  ·simp
  ·rw[A7,Bl]at hn2;rcases hn2 with hn2|hn2
   ·exact h2 n (by simp[hn]) hn2
   ·simp at hn2;subst hn2;exact h1.1 hn
theorem UP{α:Type}: ∀(ns:List Int)(t:List (Int×α)),(t.map (·.1)).Nodup→delNs t ns=t.filter λx=>decide (x.1∉ns)
 |[],t,_=>by
  show t=_
  symm
  exact J4.2 λa _=>AB
 |n::ns,t,h=>by
  have e:delNs t (n::ns)=delNs (Co n t) ns:=rfl;have hk:Co n t=t.filter λx=>decide (x.1≠n):=by
   clear e
   induction t with
   |nil=>rfl
   |cons y t ih=>
    rw[A4,Ew]at h;unfold Co;by_cases hy:y.1=n
    ·rw[if_pos hy.symm,List.filter_cons,if_neg (by simp[hy])]
     symm
     rw[J4];intro a ha;refine decide_eq_true λe=>h.1 ?_;rw[hy,←e];exact CD ha
    ·rw[if_neg (λe=>hy e.symm),List.filter_cons,if_pos (by simp[hy]),ih h.2]
  rw[e,UP ns _ (OX h),hk,List.filter_filter]
  congr 1
  funext x
  by_cases h1:x.1=n<;>by_cases h2:x.1∈ns<;>simp[h1,h2]
theorem YY{t mk:List (Int×List AF)}(h1:(mk.map (·.1)).Nodup)(h2: ∀n∈mk.map (·.1),n∉t.map (·.1)):FZ t mk []=t++mk:=Rl mk t h1 h2
theorem YW{t mk:List (Int×List AF)}{ns:List Int}(ht:(t.map (·.1)).Nodup)(h1:(mk.map (·.1)).Nodup)(h2: ∀n∈mk.map (·.1),n∉t.map (·.1))(hp:ns.Perm (t.map (·.1))):FZ t mk ns=mk:=by
 unfold FZ;rw[Rl mk t h1 h2,UP _ _ (by rw[A7,FU];exact⟨ht,h1,λa ha b hb e=>h2 b hb (e▸ha)⟩),J3];rw[List.filter_eq_nil_iff.2 λx hx=>?_,J4.2 λx hx=>?_,CU]
 ·refine decide_eq_true λh=>h2 x.1 (CD hx) (hp.mem_iff.1 h)
 ·simp only[decide_not,Bool.not_eq_true',decide_eq_false_iff_not,Decidable.not_not];exact hp.mem_iff.2 (CD hx)
end Go.Proofs.YtkgibdhpijdbfaaGreatDoor
