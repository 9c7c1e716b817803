/- Texts of this claim, one behind the other. -/
import Derived.Test.YtkgibdhpijdbfaaGreatDoorZ11
import Derived.Test.YtkgibdhpijdbfaaGreatDoorZ9
import Derived.Test.YtkgibdhpijdbfaaGreatDoorZ16
import Derived.Test.YtkgibdhpijdbfaaGreatDoorZ6
set_option linter.unusedVariables false
set_option linter.unusedSimpArgs false
set_option maxHeartbeats 16000000
namespace Go.Proofs.YtkgibdhpijdbfaaGreatDoor
open Go Go.Eng Go.Proofs
theorem TO(a b:AE)(ha:a.length≤1099511627776)(hb:b.length≤1099511627776)(w:World):Cl Tryz.prog lW [AG a,AG b] w λv w'=>v= .int .i64 (Dh a b)∧St w [] [] w':=by
 have hS:=St.start w;have hmin:(if(b.length:Int)<(a.length:Int)then(b.length:Int)else(a.length:Int))=((min a.length b.length:Nat):Int):=by
  split<;>omega
 have hm1:min a.length b.length≤a.length:=Nat.min_le_left _ _;have hm2:min a.length b.length≤b.length:=Nat.min_le_right _ _;have hm3:min a.length b.length=a.length∨min a.length b.length=b.length:=AA;refine dN rfl ?_;refine jq ⟨?_⟩;rw[hmin];generalize hmm:min a.length b.length=m at hm1 hm2 hm3 hmin;refine AL.loop (λi:Nat=>[(0,AG a),(1,AG b),(10,.int .i64 m),(11,.int .i64 i)])
  (λi w'=>(i≤m∧ ∀j(h1:j<a.length)(h2:j<b.length),j<i→a[j]=b[j])∧St w [] [] w') (λi=>m-i) 0
  ⟨rfl,rfl,rfl,rfl,trivial⟩ ⟨⟨Ag _,λj _ _ h=>AA⟩,hS⟩ ?_
 clear hS;rintro i w1⟨⟨hi,hall⟩,hS⟩;by_cases him:i<m
 ·have hA:a.getD ((i:Int)).toNat 0=a[i]:=by rw[Gn,show((i:Int)).toNat=i by omega,CB AA];rfl
  have hB:b.getD ((i:Int)).toNat 0=b[i]:=by rw[Gn,show((i:Int)).toNat=i by omega,CB AA];rfl
  refine jq ⟨?_⟩;refine AL.draw AK mixed (λw'=>St w _ _ w') [] [0,1,2,3,4,5,6] AD hS.drew ?_;have hS:=hS.drew;by_cases he:a[i]=b[i]
  ·refine jr ⟨?_⟩;rw[hA,hB,he];refine jq ⟨?_⟩;refine⟨i+1,⟨rfl,rfl,rfl,rfl,trivial⟩,⟨⟨him,λj h1 h2 h3=>?_⟩,hS⟩,AA⟩;by_cases e:j=i
   ·subst e;exact he
   ·exact hall j h1 h2 AA
  ·have hne: ¬((a[i].toNat:Nat):Int)=((b[i].toNat:Nat):Int):=λh=>he (UInt8.toNat_inj.1 AA);have hsh:=R9 a b i AA AA (λj h1 h2 h3=>hall j h1 h2 h3) (λ_ _=>he);refine jr ⟨?_⟩;rw[hA,hB];refine jq ⟨?_⟩;exact⟨by rw[hsh],hS⟩
 ·obtain rfl:i=m:=AA;have hsh:=R9 a b i AA AA (λj h1 h2 h3=>hall j h1 h2 h3) (λh1 h2=>AA);refine jq ⟨?_⟩;rw[hmin];exact⟨by rw[hsh],hS⟩
theorem Ry(x y:AF)(w:World):Cl Tryz.prog l6 [B9 x,B9 y] w λv w'=>v= .bool (CL x y)∧St w [] [] w':=by
 have hS:=St.start w;unfold B9 AU CL EW;refine dR rfl ?_;refine jq ⟨?_⟩;refine hS.al ?_;intro b2 w2 _ hS;refine jq ⟨?_⟩;refine hS.al ?_;intro b3 w3 _ hS;cases hb:Op.bytesLess x.k y.k with
 |true=>
  simp only[Bool.true_or];(repeat(refine jt ⟨?_⟩;refine hS.q ?_;intro _ hS));refine jt ⟨?_⟩;repeat(refine Ax.eqt hb ?_;(repeat(refine jt ⟨?_⟩;refine hS.q ?_;intro _ hS));refine jt ⟨?_⟩)
  exact⟨rfl,hS.nil⟩
 |false=>
  simp only[Bool.false_or];by_cases hk:x.k=y.k
  ·by_cases hs:y.s<x.s
   ·(repeat(refine jt ⟨?_⟩;refine hS.q ?_;intro _ hS));refine jt ⟨?_⟩;repeat(refine Ax.eqf hb ?_;(repeat(refine jt ⟨?_⟩;refine hS.q ?_;intro _ hS));refine jt ⟨?_⟩)
    exact⟨by simp[hk,hs],hS.nil⟩
   ·(repeat(refine jt ⟨?_⟩;refine hS.q ?_;intro _ hS));refine jt ⟨?_⟩;repeat(refine Ax.eqf hb ?_;(repeat(refine jt ⟨?_⟩;refine hS.q ?_;intro _ hS));refine jt ⟨?_⟩)
    exact⟨by simp[hs],hS.nil⟩
  ·(repeat(refine jt ⟨?_⟩;refine hS.q ?_;intro _ hS));refine jt ⟨?_⟩;repeat(refine Ax.eqf hb ?_;(repeat(refine jt ⟨?_⟩;refine hS.q ?_;intro _ hS));refine jt ⟨?_⟩)
   exact⟨by simp[hk],hS.nil⟩
def Ec(k:AE):List AO→List AO
 |[]=>[]
 |x::q=>if x.1=k then q else x::q
theorem HW(k:AE)(x:AO)(q:List AO):Ec k (x::q)=if x.1=k then q else x::q:=rfl
def Fj(l:List AO)(k:AE):List AO:=l.takeWhile λr=>Op.bytesLess r.1 k
def Eu(l:List AO)(k:AE):List AO:=l.dropWhile λr=>Op.bytesLess r.1 k
def Em(o:Ac):List AO:=if o.2.1 then []else [(o.1,o.2.2)]
def G8(l:List AO)(o:Ac):List AO:=Fj l o.1++Em o++Ec o.1 (Eu l o.1)
theorem Pz(l:List AO)(k:AE): ∀r∈Fj l k,Op.bytesLess r.1 k=true:=λr hr=>by
 have:=List.all_takeWhile (p:=λr:AO=>Op.bytesLess r.1 k) (l:=l);exact C8.1 this r hr
theorem Nt(l:List AO)(k:AE):Fj l k++Eu l k=l:=List.takeWhile_append_dropWhile
theorem P0{l:List AO}(hl:l.Pairwise EQ)(k:AE): ∀r∈Eu l k,Op.bytesLess r.1 k=false:=by
 induction l with
 |nil=>intro r h;cases h
 |cons x l ih=>
  rw[DT]at hl;unfold Eu at ih⊢;rw[List.dropWhile_cons];cases hx:Op.bytesLess x.1 k with
  |true=>simpa using ih hl.2
  |false=>
   simp only[Bool.false_eq_true,if_false];intro r hr;rcases As.1 hr with rfl|hr
   ·exact hx
   ·cases h:Op.bytesLess r.1 k with
    |false=>rfl
    |true=>rw[JM _ _ _ (hl.1 r hr) h]at hx;cases hx
theorem wF{k:AE}{q:List AO}{r:AO}(h:r∈Ec k q):r∈q:=by
 cases q with
 |nil=>cases h
 |cons x q=>
  rw[HW]at h;split at h
  ·exact CJ _ h
  ·exact h
theorem XV{l:List AO}(hl:l.Pairwise EQ)(o:Ac):(G8 l o).Pairwise EQ:=by
 have hb:=Nt l o.1;have hlt:=Pz l o.1;have hge:=P0 hl o.1;rw[←hb]at hl;unfold G8;generalize Fj l o.1=p at*;generalize Eu l o.1=q at*;rw[GV]at hl;obtain⟨hp,hq,hpq⟩:=hl;have htail:(Ec o.1 q).Pairwise EQ∧ ∀r∈Ec o.1 q,Op.bytesLess o.1 r.1=true:=by
  cases q with
  |nil=>exact⟨List.Pairwise.nil,λr h=>by cases h⟩
  |cons x q=>
   rw[DT]at hq;rw[HW]
   split
   ·next hx=>exact⟨hq.2,λr hr=>by rw[←hx];exact hq.1 r hr⟩
   ·next hx=>
    have hx2:Op.bytesLess o.1 x.1=true:=by
     rcases P6 x.1 o.1 with h|h|h
     ·rw[hge x CN]at h;cases h
     ·exact absurd h hx
     ·exact h
    refine⟨DT.2 hq,λr hr=>?_⟩;rcases As.1 hr with rfl|hr
    ·exact hx2
    ·exact JM _ _ _ hx2 (hq.1 r hr)
 rw[GV,GV];refine⟨⟨hp,?_,?_⟩,htail.1,?_⟩
 ·unfold Em;split
  ·exact List.Pairwise.nil
  ·exact List.pairwise_singleton _ _
 ·intro r hr s hs;unfold Em at hs;split at hs
  ·cases hs
  ·rw[Cm]at hs;subst hs;exact hlt r hr
 ·intro r hr s hs;rcases Bl.1 hr with hr|hr
  ·exact hpq r hr s (wF hs)
  ·unfold Em at hr;split at hr
   ·cases hr
   ·rw[Cm]at hr;subst hr;exact htail.2 s hs
theorem wD(l:List AO)(o:Ac):(G8 l o).length≤l.length+1:=by
 have h1:=congrArg List.length (Nt l o.1);have h2:(Ec o.1 (Eu l o.1)).length≤(Eu l o.1).length:=by
  cases Eu l o.1 with
  |nil=>simp[Ec]
  |cons x q=>rw[HW];split<;>simp
 have h3:(Em o).length≤1:=by unfold Em;split<;>simp
 unfold G8;simp only[AP]at h1⊢;omega
def Cf(l:List AO)(os:List Ac):List AO:=os.foldl G8 l
theorem Ys(l:List AO)(os:List Ac):(Cf l os).length≤l.length+os.length:=by
 induction os generalizing l with
 |nil=>simp[Cf]
 |cons o os ih=>
  have h1:=ih (G8 l o);have h2:=wD l o;unfold Cf at h1⊢;rw[HJ,Ai];omega
theorem zL(l:List AO)(os:List Ac)(k:Nat)(hk:k<os.length):Cf l (os.take (k+1))=G8 (Cf l (os.take k)) os[k]:=by
 unfold Cf;rw[Bs hk,Hq];rfl
structure C0(E:List AF)(k:AE)(t:Int)(x:AF):Prop where
 mem:x∈E
 key:x.k=k
 le:x.s≤t
 top: ∀y∈E,y.k=k→y.s≤t→y.s≤x.s
def Et(E:List AF)(t:Int)(k v:AE):Prop:=∃x,C0 E k t x∧x.d=false∧x.v=v
abbrev C1(E:List AF):Prop:=E.Pairwise λa b=>¬GQ a b
theorem GQ.symm{a b:AF}(h:GQ a b):GQ b a:=⟨h.1.symm,h.2.symm⟩
theorem C1.perm{E F:List AF}(h:C1 E)(hp:E.Perm F):C1 F:=(hp.pairwise_iff (λh hs=>h hs.symm)).1 h
theorem Az.one{E:List AF}(h:Az E):C1 E:=h.imp λ{a b}hab hs=>by
 rw[(N8 hs).1,QP]at hab;cases hab
theorem C1.uniq: ∀{E:List AF},C1 E→ ∀{a b:AF},a∈E→b∈E→GQ a b→a=b
 |[],_,_,_,ha,_,_=>by cases ha
 |x::E,h,a,b,ha,hb,hs=>by
  have h':=DT.1 h;rcases As.1 ha with ea|ha
  ·rcases As.1 hb with eb|hb
   ·rw[ea,eb]
   ·exact absurd (ea▸hs) (h'.1 b hb)
  ·rcases As.1 hb with eb|hb
   ·exact absurd (eb▸hs.symm) (h'.1 a ha)
   ·exact C1.uniq h'.2 ha hb hs
theorem C0.uniq{E:List AF}(h:C1 E){k:AE}{t:Int}{x y:AF}(hx:C0 E k t x)(hy:C0 E k t y):x=y:=
 h.uniq hx.mem hy.mem ⟨hx.key.trans hy.key.symm,Int.le_antisymm (hy.top x hx.mem hx.key hx.le) (hx.top y hy.mem hy.key hy.le)⟩
theorem C0.iff{E F:List AF}(h: ∀x,x∈E↔x∈F){k:AE}{t:Int}{x:AF}(hx:C0 E k t x):C0 F k t x:=
 ⟨(h x).1 hx.mem,hx.key,hx.le,λy hy=>hx.top y ((h y).2 hy)⟩
theorem Et.iff{E F:List AF}(h: ∀x,x∈E↔x∈F){t:Int}{k v:AE}:Et E t k v↔Et F t k v:=
 ⟨λ⟨x,hx,h2⟩=>⟨x,hx.iff h,h2⟩,λ⟨x,hx,h2⟩=>⟨x,hx.iff λy=>(h y).symm,h2⟩⟩
structure Bf(E:List AF)(t:Int)(rs:List AO):Prop where
 rise:rs.Pairwise EQ
 all: ∀k v,(k,v)∈rs↔Et E t k v
theorem Xm: ∀{a b:List AO},a.Pairwise EQ→b.Pairwise EQ→(∀r,r∈a↔r∈b)→a=b
 |[],[],_,_,_=>rfl
 |[],y::b,_,_,h=>by have:=(h y).2 CN;cases this
 |x::a,[],_,_,h=>by have:=(h x).1 CN;cases this
 |x::a,y::b,ha,hb,h=>by
  have ha':=DT.1 ha;have hb':=DT.1 hb;have irr: ∀{r q:AO},EQ r q→r≠q:=λh e=>by subst e;unfold EQ at h;rw[F4]at h;cases h
  have hxy:x=y:=by
   rcases As.1 ((h x).1 CN)with hx|hx
   ·exact hx
   ·rcases As.1 ((h y).2 CN)with hy|hy
    ·exact hy.symm
    ·have h1:=hb'.1 x hx;have h2:=ha'.1 y hy;have:=bN h1;unfold EQ at h2;rw[h2]at this;cases this
  subst hxy;rw[Xm ha'.2 hb'.2 λr=>?_];constructor
  ·intro hr;rcases As.1 ((h r).1 (CJ _ hr))with e|hr'
   ·exact absurd e.symm (irr (ha'.1 r hr))
   ·exact hr'
  ·intro hr;rcases As.1 ((h r).2 (CJ _ hr))with e|hr'
   ·exact absurd e.symm (irr (hb'.1 r hr))
   ·exact hr'
theorem Bf.uniq{E:List AF}{t:Int}{a b:List AO}(ha:Bf E t a)(hb:Bf E t b):a=b:=
 Xm ha.rise hb.rise λr=>(ha.all r.1 r.2).trans (hb.all r.1 r.2).symm
theorem Bf.same{E F:List AF}{t u:Int}{a:List AO}(ha:Bf E t a)(h: ∀k v,Et E t k v↔Et F u k v):Bf F u a:=
 ⟨ha.rise,λk v=>(ha.all k v).trans (h k v)⟩
theorem Bf.nil(t:Int):Bf [] t []:=⟨List.Pairwise.nil,λk v=>⟨λh=>(by cases h),λ⟨x,h,_⟩=>(by cases h.mem)⟩⟩
/-! ## One operation-/
theorem wE{l:List AO}(hl:l.Pairwise EQ)(o:Ac)(r:AO):r∈G8 l o↔(r.1≠o.1∧r∈l)∨(o.2.1=false∧r=(o.1,o.2.2)):=by
 have hb:=Nt l o.1;have hlt:=Pz l o.1;have hge:=P0 hl o.1;have hsub: ∀x,x∈l↔x∈Fj l o.1∨x∈Eu l o.1:=λx=>by rw[←Bl,hb]
 have hq:(Eu l o.1).Pairwise EQ:=by rw[←hb]at hl;exact(GV.1 hl).2.1
 have hone:r∈Em o↔o.2.1=false∧r=(o.1,o.2.2):=by
  unfold Em
  split
  ·rename_i h;simp[h]
  ·rename_i h;simp at h;simp[h]
 have htail:r∈Ec o.1 (Eu l o.1)↔r∈Eu l o.1∧r.1≠o.1:=by
  generalize Eu l o.1=q at hge hq;cases q with
  |nil=>simp[Ec]
  |cons x q=>
   have hq':=DT.1 hq;rw[HW]
   split
   ·rename_i hx;constructor
    ·intro hr;refine⟨CJ _ hr,λe=>?_⟩;have:=hq'.1 r hr;unfold EQ at this;rw[hx,e,F4]at this;cases this
    ·rintro⟨hr,hne⟩;rcases As.1 hr with rfl|hr
     ·exact absurd hx hne
     ·exact hr
   ·rename_i hx;refine⟨λhr=>⟨hr,λe=>?_⟩,λh=>h.1⟩;rcases As.1 hr with rfl|hr
    ·exact hx e
    ·have h1:=hq'.1 r hr;have h2:=hge x CN;unfold EQ at h1;rw[e]at h1;rw[h1]at h2;cases h2
 unfold G8;rw[Bl,Bl,hone,htail,hsub];constructor
 ·rintro((h|h)|⟨h,hne⟩)
  ·left;refine⟨λe=>?_,.inl h⟩;have:=hlt r h;rw[e,F4]at this;cases this
  ·exact .inr h
  ·exact .inl ⟨hne,.inr h⟩
 ·rintro(⟨hne,h|h⟩|h)
  ·exact .inl (.inl h)
  ·exact .inr ⟨h,hne⟩
  ·exact .inl (.inr h)
def C7(s:Int)(o:Ac):AF:=⟨o.1,s,o.2.1,if o.2.1 then []else o.2.2⟩
def JK(E:List AF)(x:AF)(F:List AF):Prop:=∀z,z∈F↔z=x∨(z∈E∧ ¬GQ z x)
theorem JK.look{E F:List AF}{x:AF}(h:JK E x F)(hs: ∀z∈E,z.s≤x.s){t:Int}(ht:x.s≤t):C0 F x.k t x:=
 ⟨(h x).2 (.inl rfl),rfl,ht,λy hy hk _=>by
  rcases(h y).1 hy with rfl|⟨h1,_⟩
  ·exact Ea _
  ·exact hs y h1⟩
theorem JK.other{E F:List AF}{x:AF}(h:JK E x F){k:AE}{t:Int}(hk:k≠x.k∨t<x.s)(z:AF):C0 F k t z↔C0 E k t z:=by
 have hne: ∀y:AF,y.k=k→y.s≤t→y≠x∧ ¬GQ y x:=λy h1 h2=>by
  rcases hk with hk|hk
  ·exact⟨λe=>hk (h1▸(by rw[e])),λe=>hk (h1▸e.1)⟩
  ·exact⟨λe=>by subst e;omega,λe=>by have:=e.2;omega⟩
 constructor
 ·intro hz;refine⟨?_,hz.key,hz.le,λy hy h1 h2=>hz.top y ((h y).2 (.inr ⟨hy,(hne y h1 h2).2⟩)) h1 h2⟩;rcases(h z).1 hz.mem with e|h1
  ·exact absurd e (hne z hz.key hz.le).1
  ·exact h1.1
 ·intro hz;refine⟨(h z).2 (.inr ⟨hz.mem,(hne z hz.key hz.le).2⟩),hz.key,hz.le,λy hy h1 h2=>?_⟩;rcases(h y).1 hy with e|h3
  ·exact absurd e (hne y h1 h2).1
  ·exact hz.top y h3.1 h1 h2
theorem Bf.put{E F:List AF}{s t:Int}{rs:List AO}{o:Ac}(hv:Bf E t rs)(h1:C1 F)(h:JK E (C7 s o) F)(hs: ∀z∈E,z.s≤s)(ht:s≤t):Bf F t (G8 rs o):=by
 refine⟨XV hv.rise o,λk v=>?_⟩;rw[wE hv.rise];by_cases hk:k=o.1
 ·have hl:=h.look hs ht;constructor
  ·rintro(⟨hne,_⟩|⟨hd,he⟩)
   ·exact absurd hk hne
   ·simp only[Prod.mk.injEq]at he;refine⟨C7 s o,by rw[he.1];exact hl,hd,?_⟩;unfold C7;simp[hd,he.2]
  ·rintro⟨x,hx,hd,hv'⟩;subst hk;have:=hx.uniq h1 hl;subst this;unfold C7 at hd hv';simp only at hd;simp only[hd]at hv';exact .inr ⟨hd,by rw[←hv'];rfl⟩
 ·have ho:=λz=>h.other (k:=k) (t:=t) (.inl (show k≠o.1 from hk)) z;constructor
  ·rintro(⟨_,hm⟩|⟨_,he⟩)
   ·obtain⟨x,hx,h2⟩:=(hv.all k v).1 hm;exact⟨x,(ho x).2 hx,h2⟩
   ·simp only[Prod.mk.injEq]at he;exact absurd he.1 hk
  ·rintro⟨x,hx,h2⟩;exact .inl ⟨hk,(hv.all k v).2 ⟨x,(ho x).1 hx,h2⟩⟩
theorem Bf.old{E F:List AF}{x:AF}{t:Int}{rs:List AO}(hv:Bf E t rs)(h:JK E x F)(ht:t<x.s):Bf F t rs:=
 hv.same λ_ _=>⟨λ⟨z,hz,h2⟩=>⟨z,(h.other (.inr ht) z).2 hz,h2⟩,λ⟨z,hz,h2⟩=>⟨z,(h.other (.inr ht) z).1 hz,h2⟩⟩
theorem Vw{x:AF}{l:List AF}(h:Az l):JK l x (DS x l):=λz=>by
 rw[Vv];constructor
 ·rintro(e|⟨h1,h2⟩|⟨h1,h2,h3,h4⟩)
  ·exact .inl e
  ·exact .inr ⟨h1,h2⟩
  ·left;have hx:x∈DS x l:=(Vv x l x).2 (.inl rfl);exact(OT h).one.uniq h4 hx ⟨h2,h3⟩
 ·rintro(e|⟨h1,h2⟩)
  ·exact .inl e
  ·exact .inr (.inl ⟨h1,h2⟩)
def BC:List AF→List (List AF)
 |[]=>[]
 |x::l=>match BC l with
  |[]=>[[x]]
  |g::gs=>if(g.head?.map (·.k))=some x.k then(x::g)::gs else [x]::g::gs
theorem Vq(x:AF)(l:List AF): ∃g gs,BC (x::l)=(x::g)::gs:=by
 unfold BC
 split
 ·exact⟨[],[],rfl⟩
 ·split
  ·exact⟨_,_,rfl⟩
  ·exact⟨[],_,rfl⟩
theorem Qx(x y:AF)(l:List AF):BC (x::y::l)=if y.k=x.k then(match BC (y::l)with|[]=>[]|g::gs=>(x::g)::gs)else [x]::BC (y::l):=by
 obtain⟨g,gs,e⟩:=Vq y l;rw[BC,e];simp only[List.head?_cons,kD,Option.some.injEq]
theorem Iq: ∀l,(BC l).flatten=l
 |[]=>rfl
 |x::l=>by
  have ih:=Iq l;unfold BC
  split
  ·rename_i h;rw[h]at ih;simp at ih;subst ih;rfl
  ·rename_i g gs h;rw[h]at ih
   split<;>simp[←ih]
theorem Qz: ∀l,∀g∈BC l,g≠[]
 |[],g,h=>by cases h
 |x::l,g,h=>by
  have ih:=Qz l;unfold BC at h
  split at h
  ·simp at h;subst h;simp
  ·rename_i g' gs he;rw[he]at ih
   split at h
   ·rcases As.1 h with rfl|h
    ·simp
    ·exact ih g (CJ _ h)
   ·rcases As.1 h with rfl|h
    ·simp
    ·exact ih g h
theorem Qy: ∀l,∀g∈BC l,∀x∈g,∀y∈g,x.k=y.k
 |[],g,h=>by cases h
 |z::l,g,h=>by
  have ih:=Qy l;unfold BC at h
  split at h
  ·simp at h;subst h;intro x hx y hy;simp at hx hy;rw[hx,hy]
  ·rename_i g' gs he;rw[he]at ih
   split at h
   ·rename_i hk;rcases As.1 h with rfl|h
    ·have hz: ∀x∈g',x.k=z.k:=by
      intro x hx;cases g' with
      |nil=>cases hx
      |cons w g'=>
       simp only[List.head?_cons,kD,Option.some.injEq]at hk;rw[←hk];exact ih (w::g') CN x hx w CN
     intro x hx y hy;have h1: ∀x∈z::g',x.k=z.k:=λx hx=>by
      rcases As.1 hx with rfl|hx
      ·rfl
      ·exact hz x hx
     rw[h1 x hx,h1 y hy]
    ·exact ih g (CJ _ h)
   ·rcases As.1 h with rfl|h
    ·intro x hx y hy;simp at hx hy;rw[hx,hy]
    ·exact ih g h
theorem OQ: ∀{l:List AF},Az l→(BC l).Pairwise λg h=>∀x∈g,∀y∈h,Op.bytesLess x.k y.k=true
 |[],_=>List.Pairwise.nil
 |[x],_=>by simp[BC]
 |x::y::l,hr=>by
  have hr':=DT.1 hr;have ih:=OQ hr'.2;rw[Qx];obtain⟨g,gs,e⟩:=Vq y l;have hkey:=Qy (y::l);rw[e]at ih hkey⊢;have ih':=DT.1 ih
  split
  ·rename_i hk;refine DT.2 ⟨λh hh a ha b hb=>?_,ih'.2⟩;rcases As.1 ha with rfl|ha
   ·rw[←hk];exact ih'.1 h hh y CN b hb
   ·exact ih'.1 h hh a ha b hb
  ·rename_i hk;refine DT.2 ⟨λh hh a ha b hb=>?_,ih⟩;simp only[Cm]at ha;subst ha;have hay:Op.bytesLess a.k y.k=true:=by
    have:=hr'.1 y CN;rw[In]at this;rcases this with h|h
    ·exact h
    ·exact absurd h.1.symm hk
   rcases As.1 hh with rfl|hh
   ·rw[hkey _ CN b hb y CN];exact hay
   ·exact JM _ _ _ hay (ih'.1 h hh y CN b hb)
theorem Mm{l:List AF}{x:AF}:x∈l↔ ∃g∈BC l,x∈g:=by
 conv=>lhs;rw[←Iq l]
 simp
theorem rW{l:List AF}(hr:Az l){g:List AF}(hg:g∈BC l){x y:AF}(hx:x∈g)(hy:y∈l)(hk:y.k=x.k):y∈g:=by
 obtain⟨h,hh,hyh⟩:=Mm.1 hy;have hp:=OQ hr;have irr: ∀{a b:AF},a.k=b.k→Op.bytesLess a.k b.k=true→False:=λe h=>by rw[e,F4]at h;cases h
 obtain⟨i,hi,rfl⟩:=Hr.1 hg;obtain⟨j,hj,rfl⟩:=Hr.1 hh;rcases Nat.lt_trichotomy i j with h|h|h
 ·exact(irr hk.symm (JV.1 hp i j hi hj h x hx y hyh)).elim
 ·subst h;exact hyh
 ·exact(irr hk (JV.1 hp j i hj hi h y hyh x hx)).elim
theorem Q0{l:List AF}(hr:Az l){g:List AF}(hg:g∈BC l):Az g:=by
 have:g.Sublist l:=by
  conv=>rhs;rw[←Iq l]
  exact List.sublist_flatten_of_mem hg
 exact hr.sublist this
def K4(t:Int)(g:List AF):Option AF:=g.find? λx=>decide (x.s≤t)
theorem RR{g:List AF}(hr:Az g){k:AE}(hk: ∀x∈g,x.k=k)(t:Int)(x:AF):K4 t g=some x↔C0 g k t x:=by
 constructor
 ·intro h;obtain⟨h1,pa,pb,h2,h3⟩:=List.find?_eq_some_iff_append.1 h;refine⟨by rw[h2];simp,hk x (by rw[h2];simp),by simpa using h1,λy hy _ hyt=>?_⟩;rw[h2]at hy hr;rcases Bl.1 hy with hy|hy
  ·have:=h3 y hy;simp at this;omega
  ·rcases As.1 hy with rfl|hy
   ·exact Ea _
   ·have h4:=(DT.1 (GV.1 hr).2.1).1 y hy;rw[In]at h4;rcases h4 with h4|h4
    ·rw[hk x (by rw[h2];simp),hk y (by rw[h2];simp[hy]),F4]at h4;cases h4
    ·omega
 ·intro h;obtain⟨pa,pb,h2⟩:=List.append_of_mem h.mem;refine List.find?_eq_some_iff_append.2 ⟨by simpa using h.le,pa,pb,h2,λy hy=>?_⟩;have hy':y∈g:=by rw[h2];simp[hy]
  rw[h2]at hr;have h4:=(GV.1 hr).2.2 y hy x CN;rw[In]at h4;have h5:x.s<y.s:=by
   rcases h4 with h4|h4
   ·rw[h.key,hk y hy',F4]at h4;cases h4
   ·exact h4.2
  simp only[Bool.not_eq_eq_eq_not,Bool.not_true,decide_eq_false_iff_not];intro h6;have:=h.top y hy' (hk y hy') h6;omega
theorem WU{l:List AF}(hr:Az l){g:List AF}(hg:g∈BC l){k:AE}(hk: ∀x∈g,x.k=k)(t:Int)(x:AF):C0 l k t x↔C0 g k t x:=by
 have hne:=Qz l g hg;obtain⟨z,hz⟩:=List.exists_mem_of_ne_nil g hne;have hin: ∀y∈l,y.k=k→y∈g:=λy hy he=>rW hr hg hz hy (he.trans (hk z hz).symm);have hsub: ∀y∈g,y∈l:=λy hy=>Mm.2 ⟨g,hg,hy⟩;exact⟨λh=>⟨hin x h.mem h.key,h.key,h.le,λy hy=>h.top y (hsub y hy)⟩,λh=>⟨hsub x h.mem,h.key,h.le,λy hy he=>h.top y (hin y hy he) he⟩⟩
def Ez(t:Int)(g:List AF):List AF:=match K4 t g with|none=>[]|some x=>if x.d then []else [x]
def FG(t:Int)(l:List AF):List AF:=(BC l).flatMap (Ez t)
theorem O4{t:Int}{g:List AF}{x:AF}:x∈Ez t g↔K4 t g=some x∧x.d=false:=by
 unfold Ez;cases h:K4 t g with
 |none=>simp
 |some y=>
  simp only[Option.some.injEq]
  split
  ·rename_i hd;constructor
   ·intro h;cases h
   ·rintro⟨rfl,h⟩;rw[hd]at h;cases h
  ·rename_i hd;simp only[Cm];constructor
   ·rintro rfl;exact⟨rfl,by simpa using hd⟩
   ·rintro⟨rfl,_⟩;rfl
theorem Q3{l g:List AF}(hg:g∈BC l): ∃k,∀x∈g,x.k=k:=by
 obtain⟨z,hz⟩:=List.exists_mem_of_ne_nil g (Qz l g hg);exact⟨z.k,λx hx=>Qy l g hg x hx z hz⟩
def OZ(x:AF):AO:=(x.k,x.v)
theorem zC{l:List AF}(hr:Az l)(t:Int):Bf l t ((FG t l).map OZ):=by
 have hmem: ∀x,x∈FG t l↔C0 l x.k t x∧x.d=false:=by
  intro x;unfold FG;rw[List.mem_flatMap];constructor
  ·rintro⟨g,hg,hx⟩;obtain⟨k,hk⟩:=Q3 hg;obtain⟨h1,h2⟩:=O4.1 hx;have h3:=(RR (Q0 hr hg) hk t x).1 h1;rw[h3.key];exact⟨(WU hr hg hk t x).2 h3,h2⟩
  ·rintro⟨h1,h2⟩;obtain⟨g,hg,hx⟩:=Mm.1 h1.mem;obtain⟨k,hk⟩:=Q3 hg;have hkx:=hk x hx;rw[hkx]at h1;exact⟨g,hg,O4.2 ⟨(RR (Q0 hr hg) hk t x).2 ((WU hr hg hk t x).1 h1),h2⟩⟩
 refine⟨?_,λk v=>?_⟩
 ·rw[List.pairwise_map];unfold FG;rw[List.pairwise_flatMap];refine⟨λg _=>?_,?_⟩
  ·unfold Ez
   split
   ·exact List.Pairwise.nil
   ·split
    ·exact List.Pairwise.nil
    ·exact List.pairwise_singleton _ _
  ·refine(OQ hr).imp λ{g h}hgh x hx y hy=>?_;have hx':=List.mem_of_find?_eq_some (O4.1 hx).1;have hy':=List.mem_of_find?_eq_some (O4.1 hy).1;exact hgh x hx' y hy'
 ·rw[BV];constructor
  ·rintro⟨x,hx,e⟩;obtain⟨h1,h2⟩:=(hmem x).1 hx;simp only[OZ,Prod.mk.injEq]at e;exact⟨x,by rw[←e.1];exact h1,h2,e.2⟩
  ·rintro⟨x,h1,h2,h3⟩;exact⟨x,(hmem x).2 ⟨by rw[h1.key];exact h1,h2⟩,by unfold OZ;rw[h1.key,h3]⟩
def GC(t:Int)(g:List AF):Option Nat:=g.findIdx? λx=>decide (x.s≤t)
def De(g:List AF)(seen:List Int)(i:Nat):Bool:=decide (i=0)||seen.any λn=>decide (GC n g=some i)
def Dq(p:Nat→Bool):Nat→List AF→List AF
 |_,[]=>[]
 |i,x::l=>if p i then x::Dq p (i+1) l else Dq p (i+1) l
theorem WE(p:Nat→Bool): ∀(l:List AF)(i:Nat)(x:AF),Dq p i (l++[x])=Dq p i l++if p (i+l.length)then [x]else []
 |[],i,x=>by simp only[CU,Dq,Bo,Nat.add_zero]
 |y::l,i,x=>by
  simp only[D3,Dq,WE p l (i+1) x,Ai,show i+1+l.length=i+(l.length+1) by omega]
  split<;>rfl
theorem K1(p:Nat→Bool): ∀(l:List AF)(i:Nat),(Dq p i l).Sublist l
 |[],_=>List.Sublist.slnil
 |x::l,i=>by
  unfold Dq
  split
  ·exact(K1 p l (i+1)).cons_cons x
  ·exact(K1 p l (i+1)).cons x
theorem WD(p:Nat→Bool): ∀(l:List AF)(i j:Nat)(x:AF),l[j]?=some x→p (i+j)=true→x∈Dq p i l
 |[],_,_,_,h,_=>by simp at h
 |y::l,i,0,x,h,hp=>by
  simp at h;subst h;unfold Dq;rw[if_pos (by simpa using hp)];exact CN
 |y::l,i,j+1,x,h,hp=>by
  have h1:=WD p l (i+1) j x (by simpa using h) (by rw[show i+1+j=i+(j+1) by omega];exact hp);unfold Dq
  split
  ·exact CJ _ h1
  ·exact h1
def IF(l:List AF):List AF:=(l.reverse.dropWhile λx=>x.d).reverse
theorem cZ(l:List AF)(x:AF):IF (l++[x])=if x.d then IF l else l++[x]:=by
 unfold IF;rw[List.reverse_append,List.reverse_singleton,List.singleton_append,List.dropWhile_cons]
 split
 ·rfl
 ·simp
theorem US(l:List AF): ∃D,l=IF l++D∧ ∀x∈D,x.d=true:=by
 refine⟨(l.reverse.takeWhile λx=>x.d).reverse,?_,λx hx=>?_⟩
 ·unfold IF;rw[←List.reverse_append,List.takeWhile_append_dropWhile,List.reverse_reverse]
 ·have h:=List.all_takeWhile (p:=λx:AF=>x.d) (l:=l.reverse);exact C8.1 h x (List.mem_reverse.1 hx)
def E4(seen:List Int)(g:List AF):List AF:=IF (Dq (De g seen) 0 g)
def BD(seen:List Int)(l:List AF):List AF:=(BC l).flatMap (E4 seen)
theorem KJ(seen:List Int)(g:List AF):(E4 seen g).Sublist g:=by
 obtain⟨D,h1,_⟩:=US (Dq (De g seen) 0 g);have h2:=K1 (De g seen) g 0;rw[h1]at h2;exact(CC _ _).trans h2
theorem Yn{g h:List AF}(hr:Az g)(hs:h.Sublist g){k:AE}{t:Int}(hin: ∀x,C0 g k t x→x∈h)(x:AF):C0 g k t x↔C0 h k t x:=by
 constructor
 ·intro hx;exact⟨hin x hx,hx.key,hx.le,λy hy=>hx.top y (hs.subset hy)⟩
 ·intro hx
  --the group's own newest is in h
  have hxg:x∈g:=hs.subset hx.mem;by_cases hlook: ∃z,C0 g k t z
  ·obtain⟨z,hz⟩:=hlook;have hzh:C0 h k t z:=⟨hin z hz,hz.key,hz.le,λy hy=>hz.top y (hs.subset hy)⟩;have:x=z:=hx.uniq (Az.one (hr.sublist hs)) hzh;rw[this];exact hz
  ·exfalso
   --some newest exists
   have: ∀(n:Nat)(x:AF),x∈g→x.k=k→x.s≤t→(t-x.s).toNat≤n→ ∃z,C0 g k t z:=by
    intro n
    induction n with
    |zero=>
     intro x h1 h2 h3 h4;exact⟨x,h1,h2,h3,λy _ _ h5=>AA⟩
    |succ n ih=>
     intro x h1 h2 h3 h4;by_cases hb: ∃y∈g,y.k=k∧y.s≤t∧x.s<y.s
     ·obtain⟨y,h5,h6,h7,h8⟩:=hb;exact ih y h5 h6 h7 AA
     ·exact⟨x,h1,h2,h3,λy h5 h6 h7=>Int.not_lt.1 λh8=>hb ⟨y,h5,h6,h7,h8⟩⟩
   exact hlook (this _ x hxg hx.key hx.le (AV _))
theorem yW{g:List AF}(hr:Az g){k:AE}(hk: ∀x∈g,x.k=k)(seen:List Int){t:Int}(ht:t∈seen∨ ∀x∈g,x.s≤t)(v:AE):Et g t k v↔Et (E4 seen g) t k v:=by
 have hkept:=K1 (De g seen) g 0;have hin: ∀x,C0 g k t x→x∈Dq (De g seen) 0 g:=by
  intro x hx;have hn:=(RR hr hk t x).2 hx;obtain⟨h1,pa,pb,h2,h3⟩:=List.find?_eq_some_iff_append.1 hn;have hget:g[pa.length]?=some x:=by rw[h2];simp
  refine WD _ g 0 pa.length x hget ?_;unfold De;rw[Cs,Bool.or_eq_true];rcases ht with ht|ht
  ·right;refine List.any_eq_true.2 ⟨t,ht,?_⟩;rw[decide_eq_true_eq];unfold GC;rw[Mo];have hlt:pa.length<g.length:=(FR.1 hget).1;refine⟨hlt,?_,λj hj=>?_⟩
   ·rw[(FR.1 hget).2];exact h1
   ·have:g[j]=pa[j]:=by simp only[h2];rw[List.getElem_append_left hj]
    rw[this];simpa using h3 pa[j] (Ca hj)
  ·left;cases pa with
   |nil=>rfl
   |cons y pa=>
    have h4:=h3 y CN;simp only[Bool.not_eq_eq_eq_not,Bool.not_true,decide_eq_false_iff_not]at h4;exact absurd (ht y (by rw[h2];simp)) h4
 obtain⟨D,h1,h2⟩:=US (Dq (De g seen) 0 g);have hrk:=hr.sublist hkept;have hvk:Et g t k v↔Et (Dq (De g seen) 0 g) t k v:=
  ⟨λ⟨x,h,h3⟩=>⟨x,(Yn hr hkept hin x).1 h,h3⟩,λ⟨x,h,h3⟩=>⟨x,(Yn hr hkept hin x).2 h,h3⟩⟩
 rw[hvk];show _↔Et (IF (Dq (De g seen) 0 g)) t k v;have hkk: ∀x∈Dq (De g seen) 0 g,x.k=k:=λx hx=>hk x (hkept.subset hx);generalize Dq (De g seen) 0 g=K at h1 hrk hkk⊢;generalize IF K=h at h1⊢;subst h1;constructor
 ·rintro⟨x,hx,hd,hv⟩;refine⟨x,⟨?_,hx.key,hx.le,λy hy=>hx.top y (EO _ hy)⟩,hd,hv⟩;rcases Bl.1 hx.mem with hm|hm
  ·exact hm
  ·rw[h2 x hm]at hd;cases hd
 ·rintro⟨x,hx,hd,hv⟩;refine⟨x,⟨EO _ hx.mem,hx.key,hx.le,λy hy he hyt=>?_⟩,hd,hv⟩;rcases Bl.1 hy with hm|hm
  ·exact hx.top y hm he hyt
  ·have h4:=(GV.1 hrk).2.2 x hx.mem y hm;rw[In]at h4;rcases h4 with h4|h4
   ·rw[hx.key,he,F4]at h4;cases h4
   ·omega
theorem WT{gs:List (List AF)}(hp:gs.Pairwise λg h=>∀x∈g,∀y∈h,Op.bytesLess x.k y.k=true)(k:AE)(t:Int)(x:AF):C0 gs.flatten k t x↔ ∃g∈gs,C0 g k t x:=by
 constructor
 ·intro hx;obtain⟨g,hg,hxg⟩:=Iu.1 hx.mem;exact⟨g,hg,hxg,hx.key,hx.le,λy hy=>hx.top y (Iu.2 ⟨g,hg,hy⟩)⟩
 ·rintro⟨g,hg,hx⟩;refine⟨Iu.2 ⟨g,hg,hx.mem⟩,hx.key,hx.le,λy hy he hyt=>hx.top y ?_ he hyt⟩;obtain⟨h,hh,hyh⟩:=Iu.1 hy;obtain⟨i,hi,rfl⟩:=Hr.1 hg;obtain⟨j,hj,rfl⟩:=Hr.1 hh;have irr: ∀{a b:AF},a.k=b.k→Op.bytesLess a.k b.k=true→False:=λe h=>by rw[e,F4]at h;cases h
  rcases Nat.lt_trichotomy i j with h|h|h
  ·exact(irr (hx.key.trans he.symm) (JV.1 hp i j hi hj h x hx.mem y hyh)).elim
  ·subst h;exact hyh
  ·exact(irr (he.trans hx.key.symm) (JV.1 hp j i hj hi h y hyh x hx.mem)).elim
theorem SR{l:List AF}(hr:Az l)(seen:List Int):Az (BD seen l):=by
 have hs:(BD seen l).Sublist l:=by
  conv=>rhs;rw[←Iq l]
  unfold BD;rw[List.flatMap_def]
  induction BC l with
  |nil=>exact List.Sublist.slnil
  |cons g gs ih=>simp only[A4,Dc];exact(KJ seen g).append ih
 exact hr.sublist hs
theorem SS{l:List AF}(seen:List Int): ∀x∈BD seen l,x∈l:=by
 intro x hx;obtain⟨g,hg,hxg⟩:=List.mem_flatMap.1 hx;exact Mm.2 ⟨g,hg,(KJ seen g).subset hxg⟩
theorem Yg{l:List AF}(hr:Az l)(seen:List Int){t:Int}(ht:t∈seen∨ ∀x∈l,x.s≤t)(k v:AE):Et l t k v↔Et (BD seen l) t k v:=by
 have hp:=OQ hr;have hp2:((BC l).map (E4 seen)).Pairwise λg h=>∀x∈g,∀y∈h,Op.bytesLess x.k y.k=true:=by
  rw[List.pairwise_map];exact hp.imp λ{g h}hgh x hx y hy=>hgh x ((KJ seen g).subset hx) y ((KJ seen h).subset hy)
 have e1: ∀x,C0 l k t x↔ ∃g∈BC l,C0 g k t x:=λx=>by
  conv=>lhs;rw[←Iq l]
  exact WT hp k t x
 have e2: ∀x,C0 (BD seen l) k t x↔ ∃g∈BC l,C0 (E4 seen g) k t x:=λx=>by
  unfold BD;rw[List.flatMap_def,WT hp2 k t x];constructor
  ·rintro⟨g,hg,h⟩;obtain⟨a,ha,rfl⟩:=BV.1 hg;exact⟨a,ha,h⟩
  ·rintro⟨a,ha,h⟩;exact⟨_,CD ha,h⟩
 have key: ∀g∈BC l,(Et g t k v↔Et (E4 seen g) t k v):=by
  intro g hg;obtain⟨k',hk'⟩:=Q3 hg;by_cases hkk:k'=k
  ·subst hkk;refine yW (Q0 hr hg) hk' seen ?_ v;rcases ht with ht|ht
   ·exact .inl ht
   ·exact .inr λx hx=>ht x (Mm.2 ⟨g,hg,hx⟩)
  ·constructor
   ·rintro⟨x,hx,_⟩;exact absurd ((hk' x hx.mem).symm.trans hx.key) hkk
   ·rintro⟨x,hx,_⟩;exact absurd ((hk' x ((KJ seen g).subset hx.mem)).symm.trans hx.key) hkk
 constructor
 ·rintro⟨x,hx,h2⟩;obtain⟨g,hg,hxg⟩:=(e1 x).1 hx;obtain⟨y,hy,h3⟩:=(key g hg).1 ⟨x,hxg,h2⟩;exact⟨y,(e2 y).2 ⟨g,hg,hy⟩,h3⟩
 ·rintro⟨x,hx,h2⟩;obtain⟨g,hg,hxg⟩:=(e2 x).1 hx;obtain⟨y,hy,h3⟩:=(key g hg).2 ⟨x,hxg,h2⟩;exact⟨y,(e1 y).2 ⟨g,hg,hy⟩,h3⟩
end Go.Proofs.YtkgibdhpijdbfaaGreatDoor
