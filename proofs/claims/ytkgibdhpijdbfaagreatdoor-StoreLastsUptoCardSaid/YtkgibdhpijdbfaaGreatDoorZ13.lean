/- Texts of this claim, one behind the other. -/
import Derived.Test.YtkgibdhpijdbfaaGreatDoorZ8
import Derived.Test.YtkgibdhpijdbfaaGreatDoorZ9
set_option linter.unusedVariables false
set_option linter.unusedSimpArgs false
set_option maxHeartbeats 16000000
namespace Go.Proofs.YtkgibdhpijdbfaaGreatDoor
open Go Go.Eng
def FD:Nat→AE→Option (Nat×AE)
 |_,[]=>none
 |k,c::u=>if 9<k∨(k=9∧1<c.toNat)∨(0<k∧c.toNat=0)then none
  else if c.toNat<128 then some (c.toNat,u)
  else match FD (k+1) u with
   |some (m,r)=>some (c.toNat % 128+128*m,r)
   |none=>none
theorem Yo(c:UInt8):UInt8.ofNat c.toNat=c:=AB
theorem W2: ∀(u:AE)(k m:Nat)(r:AE),FD k u=some (m,r)→u=Ak m++r∧(0<k→0<m)∧k≤9∧m<2 ^ (64-7*k)
 |[],k,m,r,h=>by simp[FD]at h
 |c::u,k,m,r,h=>by
  have hc:=c.toNat_lt;rw[FD]at h
  split at h
  ·cases h
  ·rename_i h1
   split at h
   ·rename_i h2;simp only[Option.some.injEq,Prod.mk.injEq]at h;obtain⟨rfl,rfl⟩:=h;refine⟨by rw[KJ h2,Yo];rfl,AA,AA,?_⟩;by_cases hk:k=9
    ·subst hk;show _<2;omega
    ·exact Nat.lt_of_lt_of_le h2 (Nat.pow_le_pow_right (n:=2) (i:=7) AA AA)
   ·rename_i h2
    split at h
    ·rename_i m' r' h3;simp only[Option.some.injEq,Prod.mk.injEq]at h;obtain⟨rfl,rfl⟩:=h;obtain⟨h4,h5,h6,h7⟩:=W2 u (k+1) m' r' h3;have h8:=h5 AA;refine⟨?_,AA,AA,?_⟩
     ·rw[LD AA,h4,show(c.toNat % 128+128*m') % 128+128=c.toNat by omega,show(c.toNat % 128+128*m') / 128=m' by omega,Yo]
      rfl
     ·rw[show 64-7*k=(64-7*(k+1))+7 by omega,Nat.pow_add];generalize 2 ^ (64-7*(k+1))=P at*;omega
    ·cases h
theorem u0: ∀(j m k:Nat)(r:AE),m<2 ^ (64-7*k)→k+j=9→(0<k→0<m)→FD k (Ak m++r)=some (m,r):=by
 intro j
 induction j with
 |zero=>
  intro m k r hm hk h0;obtain rfl:k=9:=AA;have hm:m<2:=hm;rw[KJ AA];simp only[D1,Ca,FD];have e:(UInt8.ofNat m).toNat=m:=by simp;omega
  rw[e,if_neg AA,if_pos AA]
 |succ j ih=>
  intro m k r hm hk h0;by_cases h:m<128
  ·rw[KJ h];simp only[D1,Ca,FD];have e:(UInt8.ofNat m).toNat=m:=by simp;omega
   rw[e,if_neg AA,if_pos AA]
  ·rw[LD h];simp only[D1,FD];have e:(UInt8.ofNat (m % 128+128)).toNat=m % 128+128:=by simp;omega
   rw[e,if_neg AA,if_neg AA,ih (m / 128) (k+1) r ?_ AA AA]
   ·simp only[Option.some.injEq,Prod.mk.injEq,and_true];omega
   ·rw[show 64-7*k=(64-7*(k+1))+7 by omega,Nat.pow_add]at hm;generalize 2 ^ (64-7*(k+1))=P at*;omega
def Hw(t:AE):Option (Nat×AE):=FD 0 t
theorem Jg(t:AE)(m:Nat)(r:AE):Hw t=some (m,r)↔t=Ak m++r∧m<18446744073709551616:=by
 constructor
 ·intro h;obtain⟨h1, -, -,h2⟩:=W2 t 0 m r h;exact⟨h1,h2⟩
 ·rintro⟨rfl,h⟩;exact u0 9 m 0 r h rfl AA
def KV(u:Nat):Int:=if u % 2=0 then(u / 2:Nat)else-((u / 2:Nat):Int)-1
theorem Yq(z:Int):KV (Eb z)=z:=by
 unfold KV Eb;split<;>split<;>omega
theorem Sa(u:Nat):Eb (KV u)=u:=by
 unfold KV Eb;split<;>split<;>omega
def PM(t:AE):Option (AE×AE):=match Hw t with
 |some (m,r)=>if r.length<m then none else some (r.take m,r.drop m)
 |none=>none
theorem yL(t s r:AE):PM t=some (s,r)↔t=Bd s++r∧s.length<18446744073709551616:=by
 unfold PM Bd;cases h:Hw t with
 |none=>
  simp only[false_iff,reduceCtorEq];intro hh;rw[(Jg t s.length (s++r)).2 ⟨by rw[hh.1,Aj],hh.2⟩]at h;cases h
 |some x=>
  obtain⟨m,r'⟩:=x;obtain⟨h1,h2⟩:=(Jg t m r').1 h;simp only;constructor
  ·intro hh
   split at hh
   ·cases hh
   ·simp only[Option.some.injEq,Prod.mk.injEq]at hh;obtain⟨rfl,rfl⟩:=hh;have e:(r'.take m).length=m:=by simp;omega
    rw[e,Aj,CN];exact⟨h1,h2⟩
  ·rintro⟨h3,h4⟩;rw[(Jg t s.length (s++r)).2 ⟨by rw[h3,Aj],h4⟩]at h;simp only[Option.some.injEq,Prod.mk.injEq]at h;obtain⟨rfl,rfl⟩:=h;rw[if_neg AB,List.take_left,List.drop_left]
end Go.Proofs.YtkgibdhpijdbfaaGreatDoor
namespace Go.Proofs.YtkgibdhpijdbfaaGreatDoor
open Go Go.Eng Go.Proofs
def Ea(k:AE):List AO→List AO
 |[]=>[]
 |x::q=>if x.1=k then q else x::q
theorem HT(k:AE)(x:AO)(q:List AO):Ea k (x::q)=if x.1=k then q else x::q:=rfl
def Fh(l:List AO)(k:AE):List AO:=l.takeWhile λr=>Op.bytesLess r.1 k
def E5(l:List AO)(k:AE):List AO:=l.dropWhile λr=>Op.bytesLess r.1 k
def El(o:Ac):List AO:=if o.2.1 then []else [(o.1,o.2.2)]
def G8(l:List AO)(o:Ac):List AO:=Fh l o.1++El o++Ea o.1 (E5 l o.1)
theorem P0(l:List AO)(k:AE): ∀r∈Fh l k,Op.bytesLess r.1 k=true:=λr hr=>by
 have:=List.all_takeWhile (p:=λr:AO=>Op.bytesLess r.1 k) (l:=l);exact Db.1 this r hr
theorem Ny(l:List AO)(k:AE):Fh l k++E5 l k=l:=List.takeWhile_append_dropWhile
theorem P2{l:List AO}(hl:l.Pairwise EP)(k:AE): ∀r∈E5 l k,Op.bytesLess r.1 k=false:=by
 induction l with
 |nil=>intro r h;cases h
 |cons x l ih=>
  rw[DQ]at hl;unfold E5 at ih⊢;rw[List.dropWhile_cons];cases hx:Op.bytesLess x.1 k with
  |true=>simpa using ih hl.2
  |false=>
   simp only[Bool.false_eq_true,if_false];intro r hr;rcases As.1 hr with rfl|hr
   ·exact hx
   ·cases h:Op.bytesLess r.1 k with
    |false=>rfl
    |true=>rw[JQ _ _ _ (hl.1 r hr) h]at hx;cases hx
theorem wF{k:AE}{q:List AO}{r:AO}(h:r∈Ea k q):r∈q:=by
 cases q with
 |nil=>cases h
 |cons x q=>
  rw[HT]at h;split at h
  ·exact CH _ h
  ·exact h
theorem XY{l:List AO}(hl:l.Pairwise EP)(o:Ac):(G8 l o).Pairwise EP:=by
 have hb:=Ny l o.1;have hlt:=P0 l o.1;have hge:=P2 hl o.1;rw[←hb]at hl;unfold G8;generalize Fh l o.1=p at*;generalize E5 l o.1=q at*;rw[GW]at hl;obtain⟨hp,hq,hpq⟩:=hl;have htail:(Ea o.1 q).Pairwise EP∧ ∀r∈Ea o.1 q,Op.bytesLess o.1 r.1=true:=by
  cases q with
  |nil=>exact⟨List.Pairwise.nil,λr h=>by cases h⟩
  |cons x q=>
   rw[DQ]at hq;rw[HT]
   split
   ·next hx=>exact⟨hq.2,λr hr=>by rw[←hx];exact hq.1 r hr⟩
   ·next hx=>
    have hx2:Op.bytesLess o.1 x.1=true:=by
     rcases P7 x.1 o.1 with h|h|h
     ·rw[hge x CM]at h;cases h
     ·exact absurd h hx
     ·exact h
    refine⟨DQ.2 hq,λr hr=>?_⟩;rcases As.1 hr with rfl|hr
    ·exact hx2
    ·exact JQ _ _ _ hx2 (hq.1 r hr)
 rw[GW,GW];refine⟨⟨hp,?_,?_⟩,htail.1,?_⟩
 ·unfold El;split
  ·exact List.Pairwise.nil
  ·exact List.pairwise_singleton _ _
 ·intro r hr s hs;unfold El at hs;split at hs
  ·cases hs
  ·rw[Cm]at hs;subst hs;exact hlt r hr
 ·intro r hr s hs;rcases Bk.1 hr with hr|hr
  ·exact hpq r hr s (wF hs)
  ·unfold El at hr;split at hr
   ·cases hr
   ·rw[Cm]at hr;subst hr;exact htail.2 s hs
theorem wD(l:List AO)(o:Ac):(G8 l o).length≤l.length+1:=by
 have h1:=congrArg List.length (Ny l o.1);have h2:(Ea o.1 (E5 l o.1)).length≤(E5 l o.1).length:=by
  cases E5 l o.1 with
  |nil=>simp[Ea]
  |cons x q=>rw[HT];split<;>simp
 have h3:(El o).length≤1:=by unfold El;split<;>simp
 unfold G8;simp only[AP]at h1⊢;omega
def Ch(l:List AO)(os:List Ac):List AO:=os.foldl G8 l
theorem Yy(l:List AO)(os:List Ac):(Ch l os).length≤l.length+os.length:=by
 induction os generalizing l with
 |nil=>simp[Ch]
 |cons o os ih=>
  have h1:=ih (G8 l o);have h2:=wD l o;unfold Ch at h1⊢;rw[HI,Ah];omega
theorem zH(l:List AO)(os:List Ac)(k:Nat)(hk:k<os.length):Ch l (os.take (k+1))=G8 (Ch l (os.take k)) os[k]:=by
 unfold Ch;rw[Bq hk,Ho];rfl
structure Cy(E:List AF)(k:AE)(t:Int)(x:AF):Prop where
 mem:x∈E
 key:x.k=k
 le:x.s≤t
 top: ∀y∈E,y.k=k→y.s≤t→y.s≤x.s
def Ep(E:List AF)(t:Int)(k v:AE):Prop:=∃x,Cy E k t x∧x.d=false∧x.v=v
abbrev Cz(E:List AF):Prop:=E.Pairwise λa b=>¬GQ a b
theorem GQ.symm{a b:AF}(h:GQ a b):GQ b a:=⟨h.1.symm,h.2.symm⟩
theorem Cz.perm{E F:List AF}(h:Cz E)(hp:E.Perm F):Cz F:=(hp.pairwise_iff (λh hs=>h hs.symm)).1 h
theorem Az.one{E:List AF}(h:Az E):Cz E:=h.imp λ{a b}hab hs=>by
 rw[(OD hs).1,QQ]at hab;cases hab
theorem Cz.uniq: ∀{E:List AF},Cz E→ ∀{a b:AF},a∈E→b∈E→GQ a b→a=b
 |[],_,_,_,ha,_,_=>by cases ha
 |x::E,h,a,b,ha,hb,hs=>by
  have h':=DQ.1 h;rcases As.1 ha with ea|ha
  ·rcases As.1 hb with eb|hb
   ·rw[ea,eb]
   ·exact absurd (ea▸hs) (h'.1 b hb)
  ·rcases As.1 hb with eb|hb
   ·exact absurd (eb▸hs.symm) (h'.1 a ha)
   ·exact Cz.uniq h'.2 ha hb hs
theorem Cy.uniq{E:List AF}(h:Cz E){k:AE}{t:Int}{x y:AF}(hx:Cy E k t x)(hy:Cy E k t y):x=y:=
 h.uniq hx.mem hy.mem ⟨hx.key.trans hy.key.symm,Int.le_antisymm (hy.top x hx.mem hx.key hx.le) (hx.top y hy.mem hy.key hy.le)⟩
theorem Cy.iff{E F:List AF}(h: ∀x,x∈E↔x∈F){k:AE}{t:Int}{x:AF}(hx:Cy E k t x):Cy F k t x:=
 ⟨(h x).1 hx.mem,hx.key,hx.le,λy hy=>hx.top y ((h y).2 hy)⟩
theorem Ep.iff{E F:List AF}(h: ∀x,x∈E↔x∈F){t:Int}{k v:AE}:Ep E t k v↔Ep F t k v:=
 ⟨λ⟨x,hx,h2⟩=>⟨x,hx.iff h,h2⟩,λ⟨x,hx,h2⟩=>⟨x,hx.iff λy=>(h y).symm,h2⟩⟩
structure Be(E:List AF)(t:Int)(rs:List AO):Prop where
 rise:rs.Pairwise EP
 all: ∀k v,(k,v)∈rs↔Ep E t k v
theorem Xp: ∀{a b:List AO},a.Pairwise EP→b.Pairwise EP→(∀r,r∈a↔r∈b)→a=b
 |[],[],_,_,_=>rfl
 |[],y::b,_,_,h=>by have:=(h y).2 CM;cases this
 |x::a,[],_,_,h=>by have:=(h x).1 CM;cases this
 |x::a,y::b,ha,hb,h=>by
  have ha':=DQ.1 ha;have hb':=DQ.1 hb;have irr: ∀{r q:AO},EP r q→r≠q:=λh e=>by subst e;unfold EP at h;rw[F4]at h;cases h
  have hxy:x=y:=by
   rcases As.1 ((h x).1 CM)with hx|hx
   ·exact hx
   ·rcases As.1 ((h y).2 CM)with hy|hy
    ·exact hy.symm
    ·have h1:=hb'.1 x hx;have h2:=ha'.1 y hy;have:=bT h1;unfold EP at h2;rw[h2]at this;cases this
  subst hxy;rw[Xp ha'.2 hb'.2 λr=>?_];constructor
  ·intro hr;rcases As.1 ((h r).1 (CH _ hr))with e|hr'
   ·exact absurd e.symm (irr (ha'.1 r hr))
   ·exact hr'
  ·intro hr;rcases As.1 ((h r).2 (CH _ hr))with e|hr'
   ·exact absurd e.symm (irr (hb'.1 r hr))
   ·exact hr'
theorem Be.uniq{E:List AF}{t:Int}{a b:List AO}(ha:Be E t a)(hb:Be E t b):a=b:=
 Xp ha.rise hb.rise λr=>(ha.all r.1 r.2).trans (hb.all r.1 r.2).symm
theorem Be.same{E F:List AF}{t u:Int}{a:List AO}(ha:Be E t a)(h: ∀k v,Ep E t k v↔Ep F u k v):Be F u a:=
 ⟨ha.rise,λk v=>(ha.all k v).trans (h k v)⟩
theorem Be.nil(t:Int):Be [] t []:=⟨List.Pairwise.nil,λk v=>⟨λh=>(by cases h),λ⟨x,h,_⟩=>(by cases h.mem)⟩⟩
/-! ## One operation-/
theorem wE{l:List AO}(hl:l.Pairwise EP)(o:Ac)(r:AO):r∈G8 l o↔(r.1≠o.1∧r∈l)∨(o.2.1=false∧r=(o.1,o.2.2)):=by
 have hb:=Ny l o.1;have hlt:=P0 l o.1;have hge:=P2 hl o.1;have hsub: ∀x,x∈l↔x∈Fh l o.1∨x∈E5 l o.1:=λx=>by rw[←Bk,hb]
 have hq:(E5 l o.1).Pairwise EP:=by rw[←hb]at hl;exact(GW.1 hl).2.1
 have hone:r∈El o↔o.2.1=false∧r=(o.1,o.2.2):=by
  unfold El
  split
  ·rename_i h;simp[h]
  ·rename_i h;simp at h;simp[h]
 have htail:r∈Ea o.1 (E5 l o.1)↔r∈E5 l o.1∧r.1≠o.1:=by
  generalize E5 l o.1=q at hge hq;cases q with
  |nil=>simp[Ea]
  |cons x q=>
   have hq':=DQ.1 hq;rw[HT]
   split
   ·rename_i hx;constructor
    ·intro hr;refine⟨CH _ hr,λe=>?_⟩;have:=hq'.1 r hr;unfold EP at this;rw[hx,e,F4]at this;cases this
    ·rintro⟨hr,hne⟩;rcases As.1 hr with rfl|hr
     ·exact absurd hx hne
     ·exact hr
   ·rename_i hx;refine⟨λhr=>⟨hr,λe=>?_⟩,λh=>h.1⟩;rcases As.1 hr with rfl|hr
    ·exact hx e
    ·have h1:=hq'.1 r hr;have h2:=hge x CM;unfold EP at h1;rw[e]at h1;rw[h1]at h2;cases h2
 unfold G8;rw[Bk,Bk,hone,htail,hsub];constructor
 ·rintro((h|h)|⟨h,hne⟩)
  ·left;refine⟨λe=>?_,.inl h⟩;have:=hlt r h;rw[e,F4]at this;cases this
  ·exact .inr h
  ·exact .inl ⟨hne,.inr h⟩
 ·rintro(⟨hne,h|h⟩|h)
  ·exact .inl (.inl h)
  ·exact .inr ⟨h,hne⟩
  ·exact .inl (.inr h)
def C4(s:Int)(o:Ac):AF:=⟨o.1,s,o.2.1,if o.2.1 then []else o.2.2⟩
def JO(E:List AF)(x:AF)(F:List AF):Prop:=∀z,z∈F↔z=x∨(z∈E∧ ¬GQ z x)
theorem JO.look{E F:List AF}{x:AF}(h:JO E x F)(hs: ∀z∈E,z.s≤x.s){t:Int}(ht:x.s≤t):Cy F x.k t x:=
 ⟨(h x).2 (.inl rfl),rfl,ht,λy hy hk _=>by
  rcases(h y).1 hy with rfl|⟨h1,_⟩
  ·exact EZ _
  ·exact hs y h1⟩
theorem JO.other{E F:List AF}{x:AF}(h:JO E x F){k:AE}{t:Int}(hk:k≠x.k∨t<x.s)(z:AF):Cy F k t z↔Cy E k t z:=by
 have hne: ∀y:AF,y.k=k→y.s≤t→y≠x∧ ¬GQ y x:=λy h1 h2=>by
  rcases hk with hk|hk
  ·exact⟨λe=>hk (h1▸(by rw[e])),λe=>hk (h1▸e.1)⟩
  ·exact⟨λe=>by subst e;omega,λe=>by have:=e.2;omega⟩
 constructor
 ·intro hz;refine⟨?_,hz.key,hz.le,λy hy h1 h2=>hz.top y ((h y).2 (.inr ⟨hy,(hne y h1 h2).2⟩)) h1 h2⟩;rcases(h z).1 hz.mem with e|h1
  ·exact absurd e (hne z hz.key hz.le).1
  ·exact h1.1
 ·intro hz;refine⟨(h z).2 (.inr ⟨hz.mem,(hne z hz.key hz.le).2⟩),hz.key,hz.le,λy hy h1 h2=>?_⟩;rcases(h y).1 hy with e|h3
  ·exact absurd e (hne y h1 h2).1
  ·exact hz.top y h3.1 h1 h2
theorem Be.put{E F:List AF}{s t:Int}{rs:List AO}{o:Ac}(hv:Be E t rs)(h1:Cz F)(h:JO E (C4 s o) F)(hs: ∀z∈E,z.s≤s)(ht:s≤t):Be F t (G8 rs o):=by
 refine⟨XY hv.rise o,λk v=>?_⟩;rw[wE hv.rise];by_cases hk:k=o.1
 ·have hl:=h.look hs ht;constructor
  ·rintro(⟨hne,_⟩|⟨hd,he⟩)
   ·exact absurd hk hne
   ·simp only[Prod.mk.injEq]at he;refine⟨C4 s o,by rw[he.1];exact hl,hd,?_⟩;unfold C4;simp[hd,he.2]
  ·rintro⟨x,hx,hd,hv'⟩;subst hk;have:=hx.uniq h1 hl;subst this;unfold C4 at hd hv';simp only at hd;simp only[hd]at hv';exact .inr ⟨hd,by rw[←hv'];rfl⟩
 ·have ho:=λz=>h.other (k:=k) (t:=t) (.inl (show k≠o.1 from hk)) z;constructor
  ·rintro(⟨_,hm⟩|⟨_,he⟩)
   ·obtain⟨x,hx,h2⟩:=(hv.all k v).1 hm;exact⟨x,(ho x).2 hx,h2⟩
   ·simp only[Prod.mk.injEq]at he;exact absurd he.1 hk
  ·rintro⟨x,hx,h2⟩;exact .inl ⟨hk,(hv.all k v).2 ⟨x,(ho x).1 hx,h2⟩⟩
theorem Be.old{E F:List AF}{x:AF}{t:Int}{rs:List AO}(hv:Be E t rs)(h:JO E x F)(ht:t<x.s):Be F t rs:=
 hv.same λ_ _=>⟨λ⟨z,hz,h2⟩=>⟨z,(h.other (.inr ht) z).2 hz,h2⟩,λ⟨z,hz,h2⟩=>⟨z,(h.other (.inr ht) z).1 hz,h2⟩⟩
theorem Vy{x:AF}{l:List AF}(h:Az l):JO l x (DP x l):=λz=>by
 rw[Vx];constructor
 ·rintro(e|⟨h1,h2⟩|⟨h1,h2,h3,h4⟩)
  ·exact .inl e
  ·exact .inr ⟨h1,h2⟩
  ·left;have hx:x∈DP x l:=(Vx x l x).2 (.inl rfl);exact(OV h).one.uniq h4 hx ⟨h2,h3⟩
 ·rintro(e|⟨h1,h2⟩)
  ·exact .inl e
  ·exact .inr (.inl ⟨h1,h2⟩)
def BC:List AF→List (List AF)
 |[]=>[]
 |x::l=>match BC l with
  |[]=>[[x]]
  |g::gs=>if(g.head?.map (·.k))=some x.k then(x::g)::gs else [x]::g::gs
theorem Vs(x:AF)(l:List AF): ∃g gs,BC (x::l)=(x::g)::gs:=by
 unfold BC
 split
 ·exact⟨[],[],rfl⟩
 ·split
  ·exact⟨_,_,rfl⟩
  ·exact⟨[],_,rfl⟩
theorem Qx(x y:AF)(l:List AF):BC (x::y::l)=if y.k=x.k then(match BC (y::l)with|[]=>[]|g::gs=>(x::g)::gs)else [x]::BC (y::l):=by
 obtain⟨g,gs,e⟩:=Vs y l;rw[BC,e];simp only[List.head?_cons,I1,Option.some.injEq]
theorem Iq: ∀l,(BC l).flatten=l
 |[]=>rfl
 |x::l=>by
  have ih:=Iq l;unfold BC
  split
  ·rename_i h;rw[h]at ih;simp at ih;subst ih;rfl
  ·rename_i g gs h;rw[h]at ih
   split<;>simp[←ih]
theorem Qz: ∀l,∀g∈BC l,g≠[]
 |[],g,h=>by cases h
 |x::l,g,h=>by
  have ih:=Qz l;unfold BC at h
  split at h
  ·simp at h;subst h;simp
  ·rename_i g' gs he;rw[he]at ih
   split at h
   ·rcases As.1 h with rfl|h
    ·simp
    ·exact ih g (CH _ h)
   ·rcases As.1 h with rfl|h
    ·simp
    ·exact ih g h
theorem Qy: ∀l,∀g∈BC l,∀x∈g,∀y∈g,x.k=y.k
 |[],g,h=>by cases h
 |z::l,g,h=>by
  have ih:=Qy l;unfold BC at h
  split at h
  ·simp at h;subst h;intro x hx y hy;simp at hx hy;rw[hx,hy]
  ·rename_i g' gs he;rw[he]at ih
   split at h
   ·rename_i hk;rcases As.1 h with rfl|h
    ·have hz: ∀x∈g',x.k=z.k:=by
      intro x hx;cases g' with
      |nil=>cases hx
      |cons w g'=>
       simp only[List.head?_cons,I1,Option.some.injEq]at hk;rw[←hk];exact ih (w::g') CM x hx w CM
     intro x hx y hy;have h1: ∀x∈z::g',x.k=z.k:=λx hx=>by
      rcases As.1 hx with rfl|hx
      ·rfl
      ·exact hz x hx
     rw[h1 x hx,h1 y hy]
    ·exact ih g (CH _ h)
   ·rcases As.1 h with rfl|h
    ·intro x hx y hy;simp at hx hy;rw[hx,hy]
    ·exact ih g h
theorem OS: ∀{l:List AF},Az l→(BC l).Pairwise λg h=>∀x∈g,∀y∈h,Op.bytesLess x.k y.k=true
 |[],_=>List.Pairwise.nil
 |[x],_=>by simp[BC]
 |x::y::l,hr=>by
  have hr':=DQ.1 hr;have ih:=OS hr'.2;rw[Qx];obtain⟨g,gs,e⟩:=Vs y l;have hkey:=Qy (y::l);rw[e]at ih hkey⊢;have ih':=DQ.1 ih
  split
  ·rename_i hk;refine DQ.2 ⟨λh hh a ha b hb=>?_,ih'.2⟩;rcases As.1 ha with rfl|ha
   ·rw[←hk];exact ih'.1 h hh y CM b hb
   ·exact ih'.1 h hh a ha b hb
  ·rename_i hk;refine DQ.2 ⟨λh hh a ha b hb=>?_,ih⟩;simp only[Cm]at ha;subst ha;have hay:Op.bytesLess a.k y.k=true:=by
    have:=hr'.1 y CM;rw[In]at this;rcases this with h|h
    ·exact h
    ·exact absurd h.1.symm hk
   rcases As.1 hh with rfl|hh
   ·rw[hkey _ CM b hb y CM];exact hay
   ·exact JQ _ _ _ hay (ih'.1 h hh y CM b hb)
theorem Mr{l:List AF}{x:AF}:x∈l↔ ∃g∈BC l,x∈g:=by
 conv=>lhs;rw[←Iq l]
 simp
theorem rW{l:List AF}(hr:Az l){g:List AF}(hg:g∈BC l){x y:AF}(hx:x∈g)(hy:y∈l)(hk:y.k=x.k):y∈g:=by
 obtain⟨h,hh,hyh⟩:=Mr.1 hy;have hp:=OS hr;have irr: ∀{a b:AF},a.k=b.k→Op.bytesLess a.k b.k=true→False:=λe h=>by rw[e,F4]at h;cases h
 obtain⟨i,hi,rfl⟩:=Hq.1 hg;obtain⟨j,hj,rfl⟩:=Hq.1 hh;rcases Nat.lt_trichotomy i j with h|h|h
 ·exact(irr hk.symm (Jb.1 hp i j hi hj h x hx y hyh)).elim
 ·subst h;exact hyh
 ·exact(irr hk (Jb.1 hp j i hj hi h y hyh x hx)).elim
theorem Q0{l:List AF}(hr:Az l){g:List AF}(hg:g∈BC l):Az g:=by
 have:g.Sublist l:=by
  conv=>rhs;rw[←Iq l]
  exact List.sublist_flatten_of_mem hg
 exact hr.sublist this
def LB(t:Int)(g:List AF):Option AF:=g.find? λx=>decide (x.s≤t)
theorem RQ{g:List AF}(hr:Az g){k:AE}(hk: ∀x∈g,x.k=k)(t:Int)(x:AF):LB t g=some x↔Cy g k t x:=by
 constructor
 ·intro h;obtain⟨h1,pa,pb,h2,h3⟩:=List.find?_eq_some_iff_append.1 h;refine⟨by rw[h2];simp,hk x (by rw[h2];simp),by simpa using h1,λy hy _ hyt=>?_⟩;rw[h2]at hy hr;rcases Bk.1 hy with hy|hy
  ·have:=h3 y hy;simp at this;omega
  ·rcases As.1 hy with rfl|hy
   ·exact EZ _
   ·have h4:=(DQ.1 (GW.1 hr).2.1).1 y hy;rw[In]at h4;rcases h4 with h4|h4
    ·rw[hk x (by rw[h2];simp),hk y (by rw[h2];simp[hy]),F4]at h4;cases h4
    ·omega
 ·intro h;obtain⟨pa,pb,h2⟩:=List.append_of_mem h.mem;refine List.find?_eq_some_iff_append.2 ⟨by simpa using h.le,pa,pb,h2,λy hy=>?_⟩;have hy':y∈g:=by rw[h2];simp[hy]
  rw[h2]at hr;have h4:=(GW.1 hr).2.2 y hy x CM;rw[In]at h4;have h5:x.s<y.s:=by
   rcases h4 with h4|h4
   ·rw[h.key,hk y hy',F4]at h4;cases h4
   ·exact h4.2
  simp only[Bool.not_eq_eq_eq_not,Bool.not_true,decide_eq_false_iff_not];intro h6;have:=h.top y hy' (hk y hy') h6;omega
theorem WW{l:List AF}(hr:Az l){g:List AF}(hg:g∈BC l){k:AE}(hk: ∀x∈g,x.k=k)(t:Int)(x:AF):Cy l k t x↔Cy g k t x:=by
 have hne:=Qz l g hg;obtain⟨z,hz⟩:=List.exists_mem_of_ne_nil g hne;have hin: ∀y∈l,y.k=k→y∈g:=λy hy he=>rW hr hg hz hy (he.trans (hk z hz).symm);have hsub: ∀y∈g,y∈l:=λy hy=>Mr.2 ⟨g,hg,hy⟩;exact⟨λh=>⟨hin x h.mem h.key,h.key,h.le,λy hy=>h.top y (hsub y hy)⟩,λh=>⟨hsub x h.mem,h.key,h.le,λy hy he=>h.top y (hin y hy he) he⟩⟩
def Ex(t:Int)(g:List AF):List AF:=match LB t g with|none=>[]|some x=>if x.d then []else [x]
def FE(t:Int)(l:List AF):List AF:=(BC l).flatMap (Ex t)
theorem O7{t:Int}{g:List AF}{x:AF}:x∈Ex t g↔LB t g=some x∧x.d=false:=by
 unfold Ex;cases h:LB t g with
 |none=>simp
 |some y=>
  simp only[Option.some.injEq]
  split
  ·rename_i hd;constructor
   ·intro h;cases h
   ·rintro⟨rfl,h⟩;rw[hd]at h;cases h
  ·rename_i hd;simp only[Cm];constructor
   ·rintro rfl;exact⟨rfl,by simpa using hd⟩
   ·rintro⟨rfl,_⟩;rfl
theorem Q3{l g:List AF}(hg:g∈BC l): ∃k,∀x∈g,x.k=k:=by
 obtain⟨z,hz⟩:=List.exists_mem_of_ne_nil g (Qz l g hg);exact⟨z.k,λx hx=>Qy l g hg x hx z hz⟩
def Ob(x:AF):AO:=(x.k,x.v)
theorem y8{l:List AF}(hr:Az l)(t:Int):Be l t ((FE t l).map Ob):=by
 have hmem: ∀x,x∈FE t l↔Cy l x.k t x∧x.d=false:=by
  intro x;unfold FE;rw[List.mem_flatMap];constructor
  ·rintro⟨g,hg,hx⟩;obtain⟨k,hk⟩:=Q3 hg;obtain⟨h1,h2⟩:=O7.1 hx;have h3:=(RQ (Q0 hr hg) hk t x).1 h1;rw[h3.key];exact⟨(WW hr hg hk t x).2 h3,h2⟩
  ·rintro⟨h1,h2⟩;obtain⟨g,hg,hx⟩:=Mr.1 h1.mem;obtain⟨k,hk⟩:=Q3 hg;have hkx:=hk x hx;rw[hkx]at h1;exact⟨g,hg,O7.2 ⟨(RQ (Q0 hr hg) hk t x).2 ((WW hr hg hk t x).1 h1),h2⟩⟩
 refine⟨?_,λk v=>?_⟩
 ·rw[List.pairwise_map];unfold FE;rw[List.pairwise_flatMap];refine⟨λg _=>?_,?_⟩
  ·unfold Ex
   split
   ·exact List.Pairwise.nil
   ·split
    ·exact List.Pairwise.nil
    ·exact List.pairwise_singleton _ _
  ·refine(OS hr).imp λ{g h}hgh x hx y hy=>?_;have hx':=List.mem_of_find?_eq_some (O7.1 hx).1;have hy':=List.mem_of_find?_eq_some (O7.1 hy).1;exact hgh x hx' y hy'
 ·rw[BU];constructor
  ·rintro⟨x,hx,e⟩;obtain⟨h1,h2⟩:=(hmem x).1 hx;simp only[Ob,Prod.mk.injEq]at e;exact⟨x,by rw[←e.1];exact h1,h2,e.2⟩
  ·rintro⟨x,h1,h2,h3⟩;exact⟨x,(hmem x).2 ⟨by rw[h1.key];exact h1,h2⟩,by unfold Ob;rw[h1.key,h3]⟩
end Go.Proofs.YtkgibdhpijdbfaaGreatDoor
