/- Texts of this claim, one behind the other. -/
import Derived.Test.YtkgibdhpijdbfaaGreatDoorZ34
import Derived.Test.YtkgibdhpijdbfaaGreatDoorZ32
import Derived.Test.YtkgibdhpijdbfaaGreatDoorZ35
import Derived.Test.YtkgibdhpijdbfaaGreatDoorZ16
import Derived.Test.YtkgibdhpijdbfaaGreatDoorZ6
set_option linter.unusedVariables false
set_option linter.unusedSimpArgs false
set_option maxHeartbeats 16000000
namespace Go.Proofs.YtkgibdhpijdbfaaGreatDoor
open Go Go.Eng Go.Proofs Go.Srt
theorem Dm{z:Int}(h:0≤z∧z≤4611686018427387904):CA z:=by unfold CA;omega
theorem Hw{f:Af}:HS f=true↔1≤f.2∧0≤f.1∧f.1≤1:=by
 unfold HS;simp only[Bool.not_eq_true',Bool.or_eq_false_iff,decide_eq_false_iff_not];omega
theorem N4{e:EM}(ho:ER e)(hl:e.add.length<1099511627776)(hd:e.del=[]):(Am e).length≤50+20*e.add.length:=by
 have h1:=DL (n:=e.add.length) AA;have h2:=Qk e.add ho.add;have h3:=DL (n:=0) AA;have h4:=Mn _ ho.wal;have h5:=Mn _ ho.next;have h6:=Mn _ ho.seq;unfold Am;rw[hd];simp only[AP,Bo,Ci,kC,Gm];omega
theorem MZ{v:VM}(ho:ER (Ep v))(hl:v.files.length≤8388608):BG (Ay v)+8*(Ay v).length≤268435456:=by
 have h1: ∀p∈Ay v,p.length≤40050:=by
  intro p hp;obtain⟨e,he,rfl⟩:=BV.1 hp;obtain⟨i, -,rfl⟩:=BV.1 he;have hpl:(C6 v i).add.length≤2000:=by
   show((v.files.drop (i*2000)).take 2000).length≤2000;rw[BR];omega
  have:=N4 (M0 ho i) AA rfl;omega
 have h2:=SB 40050 (Ay v) h1;rw[JP]at h2⊢;have h3:EV v≤4196:=by unfold EV;omega
 have h4:40050*EV v≤40050*4196:=Nat.mul_le_mul_left _ h3;omega
structure DE(v:VM):Prop where
 good:Good v
 num:v.files.length≤8388608
 wal:v.wal≤2305843009213693952
 next:v.next≤2305843009213693952
 seq:v.seq≤2305843009213693952
theorem DE.whole{v:VM}(h:DE v):DA (Ep v)=true∧ER (Ep v):=by
 obtain⟨h1,h2, -⟩:=h.good;have hn:=h.next;have hw:=h.wal;have hs:=h.seq;refine⟨?_,λf hf=>?_,λn hn=>(by cases hn),Dm ⟨h2.1,by show v.wal≤_;omega⟩,Dm ⟨h2.2.1,by show v.next≤_;omega⟩,Dm ⟨h2.2.2,by show v.seq≤_;omega⟩⟩
 ·unfold DA;simp only[Bool.and_eq_true,C8];exact⟨⟨λf hf=>(h1.1 f hf).1,λn hn=>(by cases hn)⟩,decide_eq_true h2⟩
 ·obtain⟨h3,h4⟩:=h1.1 f hf;have h5:=Hw.1 h3;exact⟨Dm AA,Dm AA⟩
theorem DE.succ{v:VM}(h:DE v)(hn:v.next+1≤2305843009213693952):DE {v with next:=v.next+1}:=
 ⟨⟨⟨λf hf=>⟨(h.good.files.1 f hf).1,by have:=(h.good.files.1 f hf).2;simp only;omega⟩,h.good.files.2⟩,⟨h.good.nn.1,by have:=h.good.nn.2.1;simp only;omega,h.good.nn.2.2⟩,by have h2:Di v.files=v.files:=congrArg VM.files h.good.so;unfold FX;rw[h2]⟩,h.num,h.wal,hn,h.seq⟩
theorem DE.next_fine{v:VM}(h:DE v)(hn:v.next+1≤2305843009213693952):DA (Ep {v with next:=v.next+1})=true∧ER (Ep {v with next:=v.next+1})∧(BG (Ay {v with next:=v.next+1})+8*(Ay {v with next:=v.next+1}).length≤268435456)∧0≤v.next∧v.next≤2305843009213693952:=
 have h2:=h.succ hn
 ⟨h2.whole.1,h2.whole.2,MZ h2.whole.2 h.num,h.good.nn.2.1,h.next⟩
end Go.Proofs.YtkgibdhpijdbfaaGreatDoor
namespace Go.Proofs.YtkgibdhpijdbfaaGreatDoor
open Go Go.Eng Go.Proofs
def PW(v:VM)(ts:List (Int×List AF))(ps:List AE)(w:World)(T0:List Nat)(L:AH)(r:Value)(w':World):Prop:=
 ∃a ca La tm et ct ks Lt pa pc Lp,r= .tuple ⟨[.agg ⟨[.slice a v.files.length ca,.int .i64 v.wal,.int .i64 v.next,.int .i64 v.seq,.map (some tm),.slice pa ps.length pc]⟩,.int .i64 0]⟩∧
  Dt a ca v La∧MapC AY (λb:Nat=>ptr b) et ct ks∧Cj ks ts Lt∧AT C3 1 pa ps.length pc (ps.map AG) Lp∧St w T0 (Lp++(La++((tm,.map et ct)::(Lt++L)))) w'
def Fa:VM:=⟨[],0,1,0⟩
theorem Dt.new:Dt none 0 Fa []:=⟨AT.nil,AC⟩
set_option maxRecDepth 4000 in
theorem TN{w:World}{f:Nat}{m:AJ}{L:AH}(hF:BI f m L)(hh:Holds L w)(h5:(BB m Bg).2=5):
  Cl Tryz.prog Qg [ptr f] w λr w'=>PW Fa [] [] w (keys L) L r w':=by
 have hS:=St.enter hh;generalize keys L=T0 at hS⊢;refine Ui rfl ?_;(repeat(refine jt ⟨?_⟩;refine hS.q ?_;intro _ hS));refine jt ⟨?_⟩;refine hS.al ?_;intro b2 w1 _ hS;(repeat(refine jt ⟨?_⟩;refine hS.q ?_;intro _ hS));refine jt ⟨?_⟩;refine hS.al ?_;intro tm w2 _ hS;(repeat(refine jt ⟨?_⟩;refine hS.q ?_;intro _ hS));refine jt ⟨?_⟩;refine hS.al ?_;intro b4 w3 _ hS;(repeat(refine jt ⟨?_⟩;refine hS.q ?_;intro _ hS));refine jt ⟨?_⟩
 refine Cl.mono (KX hF (hS.part (L:=L)) Bg) ?_;rintro _ w4⟨rfl,hS'⟩;have hS:=hS.call (L:=L) hS';rw[h5];(repeat(refine jt ⟨?_⟩;refine hS.q ?_;intro _ hS));refine jt ⟨?_⟩;refine⟨none,0,[],tm, #[],0,[],[],none,0,[],rfl,Dt.new,⟨rfl,by simp[E5]⟩,.nil,AT.nil,?_⟩;exact hS.sub (.cons _ (.cons_cons _ (.cons _ (List.Sublist.refl _))))
theorem Kb{w:World}{a b:Option Addr}{ca cb:Nat}{l m:List Ac}(ha:Arr w [] a (l.flatMap A8))(hb:Arr w [] b (m.flatMap A8))(hl:l.length≤1099511627776)(hm:m.length≤1099511627776):
  Cl Tryz.prog qF [.slice a l.length ca,.slice b m.length cb] w λv w'=>v= .bool (decide (l=m))∧St w [] [] w':=by
 have hS:=St.start w;refine kR rfl ?_;by_cases hn:l.length=m.length
 ·refine jq ⟨?_⟩;refine AL.loop (λk:Nat=>[(0,.slice a l.length ca),(1,.slice b m.length cb),(12,.int .i64 l.length),(13,.int .i64 k)])
   (λk w'=>k≤l.length∧(∀i(h1:i<l.length)(h2:i<m.length),i<k→l[i]=m[i])∧St w [] [] w') (λk=>l.length-k) 0
   ⟨rfl,rfl,rfl,rfl,trivial⟩ ⟨Ag _,λi _ _ h=>AA,hS⟩ ?_
  clear hS;rintro k w1⟨hk,heq,hS⟩;by_cases hkl:k<l.length
  ·have hkm:k<m.length:=AA;have hcl:=HU l;have hcm:=HU m;obtain⟨g,off,rfl, -, -⟩:=ha.get (j:=k*3) AA;obtain⟨g',off',rfl, -, -⟩:=hb.get (j:=k*3) AA;have hat:=I3 l k hkl;have hbt:=I3 m k hkm;have hnext:l[k]=m[k]→ ∀i(h1:i<l.length)(h2:i<m.length),i<k+1→l[i]=m[i]:=λh i h1 h2 h3=>by
    by_cases hik:i=k
    ·subst hik;exact h
    ·exact heq i h1 h2 AA
   have hno: ¬l[k]=m[k]→ ¬l=m:=λh he=>h (by subst he;rfl);generalize l[k]=x at hat hnext hno;generalize m[k]=y at hbt hnext hno;refine jq ⟨?_⟩;refine AL.draw AK mixed (λw'=>St w [] [] w') [] [0,1,2,3,4,5,6,7,8] AD hS.drew ?_;have hS:=hS.drew;generalize w1.drew=w1 at hS;refine jr ⟨?_⟩;refine Arr.ldnC ha hat rfl rfl ?_;refine jr ⟨?_⟩;refine Arr.ldnC hb hbt rfl rfl ?_;refine jr ⟨?_⟩;refine uJ (n:=3) AA AD (lR x y) ?_
   by_cases hE:x=y
   ·rw[decide_eq_true hE,Bool.not_true];refine jr ⟨?_⟩;exact⟨k+1,⟨rfl,rfl,rfl,rfl,trivial⟩,⟨AA,hnext hE,hS⟩,AA⟩
   ·rw[decide_eq_false hE,Bool.not_false];refine jr ⟨?_⟩;exact⟨by rw[decide_eq_false (hno hE)],hS⟩
  ·refine jq ⟨?_⟩;refine⟨?_,hS⟩;have:l=m:=lS hn λi h1 h2=>heq i h1 h2 AA;rw[decide_eq_true this]
 ·refine jq ⟨?_⟩;refine⟨?_,hS⟩;have: ¬l=m:=λh=>hn (by rw[h]);rw[decide_eq_false this]
theorem Pa{w:World}{a:Option Addr}{c:Nat}{ops:List Ac}(ha:Arr w [] a (ops.flatMap A8))(hl:Ap ops≤1099511627776)(hn:ops.length≤1099511627776):
  Cl Tryz.prog qD [.slice a ops.length c] w λv w'=>v= .bool (decide (4096<Ap ops))∧St w [] [] w':=by
 have hS:=St.start w;have hcl:=HU ops;refine kP rfl ?_;refine jq ⟨?_⟩;refine AL.loop (λk:Nat=>[(6,.slice a ops.length c),(7,.int .i64 ops.length),(8,.int .i64 k),(3,.int .i64 (Ap (ops.take k)))]) (λk w'=>k≤ops.length∧St w [] [] w') (λk=>ops.length-k) 0
  ⟨rfl,rfl,rfl,rfl,trivial⟩ ⟨Ag _,hS⟩ ?_
 clear hS;rintro k w1⟨hk,hS⟩;by_cases hkl:k<ops.length
 ·obtain⟨g,off,rfl, -, -⟩:=ha.get (j:=k*3) AA;have hat:=I3 ops k hkl;have hsucc:=O7 ops k hkl;have hle:=NF ops k;have hsz:=PC (Ca hkl);generalize ops[k]=o at hat hsucc hsz;refine jq ⟨?_⟩;refine Arr.ldn hS ha rfl (k:=k*3) hat rfl ?_;unfold A8;unfold D9 at hsucc hsz;refine jq ⟨?_⟩;refine hS.al ?_;intro b5 w2 _ hS;(repeat(refine jt ⟨?_⟩;refine hS.q ?_;intro _ hS));refine jt ⟨?_⟩;exact⟨k+1,⟨rfl,rfl,rfl,by rw[hsucc];exact congrArg (Value.int .i64) AA,trivial⟩,⟨AA,hS.sub (AS _ _)⟩,AA⟩
 ·obtain rfl:k=ops.length:=AA;refine jq ⟨?_⟩;rw[Bz];refine⟨?_,hS⟩
  congr 1
  exact decide_eq_decide.2 AA
def Ip(l:List Ac)(k:AE):Option Ac:=l.find? λo=>decide (o.1=k)
def Vl(r:Option Ac):Value:=match r with
 |none=> .tuple ⟨[AG [],.bool false]⟩
 |some o=> .tuple ⟨[AG o.2.2,.bool true]⟩
theorem rS(l:List Ac)(k:AE)(i:Nat)(hi:i<l.length):Ip (l.drop i) k=if l[i].1=k then some l[i]else Ip (l.drop (i+1)) k:=by
 rw[FQ hi];unfold Ip;rw[List.find?_cons];by_cases h:l[i].1=k
 ·rw[if_pos h,decide_eq_true h]
 ·rw[if_neg h,decide_eq_false h]
theorem ZJ{w:World}{a:Option Addr}{c:Nat}{ops:List Ac}(ha:Arr w [] a (ops.flatMap A8))(key:AE)(hn:ops.length≤1099511627776):
  Cl Tryz.prog VD [.slice a ops.length c,AG key] w λv w'=>v=Vl (Ip ops key)∧St w [] [] w':=by
 have hS:=St.start w;have hcl:=HU ops;refine kO rfl ?_;refine jq ⟨?_⟩;refine AL.loop (λk:Nat=>[(1,AG key),(8,.slice a ops.length c),(9,.int .i64 ops.length),(10,.int .i64 k)]) (λk w'=>k≤ops.length∧Ip ops key=Ip (ops.drop k) key∧St w [] [] w') (λk=>ops.length-k) 0
  ⟨rfl,rfl,rfl,rfl,trivial⟩ ⟨Ag _,rfl,hS⟩ ?_
 clear hS;rintro k w1⟨hk,hg,hS⟩;by_cases hkl:k<ops.length
 ·obtain⟨g,off,rfl, -, -⟩:=ha.get (j:=k*3) AA;have hat:=I3 ops k hkl;have hd:=rS ops key k hkl;generalize ops[k]=o at hat hd;refine jq ⟨?_⟩;refine Arr.ldn hS ha rfl (k:=k*3) hat rfl ?_;unfold A8;refine jq ⟨?_⟩;refine hS.al ?_;intro b5 w2 _ hS;by_cases hok:o.1=key
  ·rw[if_pos hok]at hd;(repeat(refine jt ⟨?_⟩;refine hS.q ?_;intro _ hS));refine jt ⟨?_⟩;exact⟨by rw[hg,hd];rfl,hS.sub (AS _ _)⟩
  ·rw[if_neg hok]at hd;(repeat(refine jt ⟨?_⟩;refine hS.q ?_;intro _ hS));refine jt ⟨?_⟩;exact⟨k+1,⟨rfl,rfl,rfl,rfl,trivial⟩,⟨AA,by rw[hg,hd],hS.sub (AS _ _)⟩,AA⟩
 ·obtain rfl:k=ops.length:=AA;refine jq ⟨?_⟩;rw[IJ]at hg;exact⟨by rw[hg];rfl,hS⟩
def EZ(fr to:AE)(o:Ac):Bool:= !Op.bytesLess o.1 fr&&(decide (to=[])||Op.bytesLess o.1 to)
theorem qW{α:Type}(p:α→Bool)(l:List α)(k:Nat)(hk:k<l.length):(l.take (k+1)).filter p=(l.take k).filter p++if p l[k]then [l[k]]else []:=by
 rw[Bs hk,J3];by_cases h:p l[k]<;>simp[h]
structure Zv where
 k:Nat
 n:Nat
 a:Option Addr
 c:Nat
theorem Z1{w:World}{a:Option Addr}{c:Nat}{ops:List Ac}(ha:Arr w [] a (ops.flatMap A8))(fr to:AE)(hn:ops.length≤8388608):
  Cl Tryz.prog VE [.slice a ops.length c,AG fr,AG to] w λv w'=>∃a' c' L,v= .slice a' (ops.filter (EZ fr to)).length c'∧AT Bn 3 a' (ops.filter (EZ fr to)).length c' ((ops.filter (EZ fr to)).flatMap A8) L∧St w [] L w':=by
 have hS:=St.start w;have hcl:=HU ops;refine kS rfl ?_;refine jq ⟨?_⟩;refine AL.loop (λi:Zv=>[(1,AG fr),(2,AG to),(7,.slice i.a i.n i.c),(10,.slice a ops.length c),(11,.int .i64 ops.length),(12,.int .i64 i.k)])
  (λi w'=>i.k≤ops.length∧i.n=((ops.take i.k).filter (EZ fr to)).length∧i.n≤i.k∧ ∃L,AT Bn 3 i.a i.n i.c (((ops.take i.k).filter (EZ fr to)).flatMap A8) L∧St w [] L w') (λi=>ops.length-i.k) ⟨0,0,none,0⟩
  ⟨rfl,rfl,rfl,rfl,rfl,rfl,trivial⟩ ⟨Ag _,rfl,AV _,[],AT.nil,hS⟩ ?_
 clear hS;rintro⟨k,n,a2,c2⟩w1⟨hk,hnl,hnk,L,hv,hS⟩;simp only at hk hnl hnk hv hS⊢;by_cases hkl:k<ops.length
 ·obtain⟨g,off,rfl, -, -⟩:=ha.get (j:=k*3) AA;have hat:=I3 ops k hkl;have hsucc:=qW (EZ fr to) ops k hkl;have ha1:=hS.arrOld ha;generalize ops[k]=o at hat hsucc;refine jq ⟨?_⟩;refine Arr.ldn (St.start w1) ha1 rfl (k:=k*3) hat rfl ?_;unfold A8;refine jq ⟨?_⟩;refine hS.al ?_;intro b5 w2 _ hS;(repeat(refine jt ⟨?_⟩;refine hS.q ?_;intro _ hS));refine jt ⟨?_⟩;cases hb1:Op.bytesLess o.1 fr with
  |true=>
   (repeat(refine jt ⟨?_⟩;refine hS.q ?_;intro _ hS));refine jt ⟨?_⟩;have hno:(if EZ fr to o=true then [o]else [])=[]:=by unfold EZ;simp[hb1]
   rw[hno,BU]at hsucc;exact⟨⟨k+1,n,a2,c2⟩,⟨rfl,rfl,rfl,rfl,rfl,rfl,trivial⟩,⟨by simp only;omega,by simp only;rw[hsucc];exact hnl,by simp only;omega,L,by simp only;rw[hsucc];exact hv,hS.sub (AS _ _)⟩,by simp only;omega⟩
  |false=>
   by_cases hto:to=[]
   ·(repeat(refine jt ⟨?_⟩;refine hS.q ?_;intro _ hS));refine jt ⟨?_⟩;have hno:(if EZ fr to o=true then [o]else [])=[o]:=by unfold EZ;simp[hb1,hto]
    rw[hno]at hsucc;refine hS.al ?_;intro r w4 _ hS;(repeat(refine jt ⟨?_⟩;refine hS.q ?_;intro _ hS));refine jt ⟨?_⟩;refine St.app (sz:=3) (m:=1) AK rfl rfl rfl rfl hS hv (news:=A8 o) rfl (by have:=hS.arr (b:=r) (T':=[]) AB;exact this) rfl (by show(_+_)*40≤_;omega) AA ?_;intro a3 c3 L3 w5 hv3 hS;have hv4:AT Bn 3 a3 (n+1) c3 (((ops.take (k+1)).filter (EZ fr to)).flatMap A8) L3:=by rw[hsucc,Hn];simpa using hv3
    (repeat(refine jt ⟨?_⟩;refine hS.q ?_;intro _ hS));refine jt ⟨?_⟩;exact⟨⟨k+1,n+1,a3,c3⟩,⟨rfl,rfl,rfl,rfl,rfl,rfl,trivial⟩,⟨by simp only;omega,by simp only;rw[hsucc,AP,←hnl];rfl,by simp only;omega,L3,hv4,hS.sub ((AS _ _).trans (AS _ _))⟩,by simp only;omega⟩
   ·cases hb2:Op.bytesLess o.1 to with
    |true=>
     (repeat(refine jt ⟨?_⟩;refine hS.q ?_;intro _ hS));refine jt ⟨?_⟩;rw[hb2];(repeat(refine jt ⟨?_⟩;refine hS.q ?_;intro _ hS));refine jt ⟨?_⟩;have hno:(if EZ fr to o=true then [o]else [])=[o]:=by unfold EZ;simp[hb1,hb2]
     rw[hno]at hsucc;refine hS.al ?_;intro r w4 _ hS;(repeat(refine jt ⟨?_⟩;refine hS.q ?_;intro _ hS));refine jt ⟨?_⟩;refine St.app (sz:=3) (m:=1) AK rfl rfl rfl rfl hS hv (news:=A8 o) rfl (by have:=hS.arr (b:=r) (T':=[]) AB;exact this) rfl (by show(_+_)*40≤_;omega) AA ?_;intro a3 c3 L3 w5 hv3 hS;have hv4:AT Bn 3 a3 (n+1) c3 (((ops.take (k+1)).filter (EZ fr to)).flatMap A8) L3:=by rw[hsucc,Hn];simpa using hv3
     (repeat(refine jt ⟨?_⟩;refine hS.q ?_;intro _ hS));refine jt ⟨?_⟩;exact⟨⟨k+1,n+1,a3,c3⟩,⟨rfl,rfl,rfl,rfl,rfl,rfl,trivial⟩,⟨by simp only;omega,by simp only;rw[hsucc,AP,←hnl];rfl,by simp only;omega,L3,hv4,hS.sub ((AS _ _).trans (AS _ _))⟩,by simp only;omega⟩
    |false=>
     (repeat(refine jt ⟨?_⟩;refine hS.q ?_;intro _ hS));refine jt ⟨?_⟩;rw[hb2];(repeat(refine jt ⟨?_⟩;refine hS.q ?_;intro _ hS));refine jt ⟨?_⟩;have hno:(if EZ fr to o=true then [o]else [])=[]:=by unfold EZ;simp[hb1,hb2,hto]
     rw[hno,BU]at hsucc;exact⟨⟨k+1,n,a2,c2⟩,⟨rfl,rfl,rfl,rfl,rfl,rfl,trivial⟩,⟨by simp only;omega,by simp only;rw[hsucc];exact hnl,by simp only;omega,L,by simp only;rw[hsucc];exact hv,hS.sub (AS _ _)⟩,by simp only;omega⟩
 ·obtain rfl:k=ops.length:=AA;rw[Bz]at hnl hv;refine jq ⟨?_⟩;subst hnl;exact⟨a2,c2,L,rfl,hv,hS⟩
end Go.Proofs.YtkgibdhpijdbfaaGreatDoor
