/- Texts of this claim, one behind the other. -/
import Derived.Test.YtkgibdhpijdbfaaGreatDoorZ26
import Derived.Test.YtkgibdhpijdbfaaGreatDoorZ27
import Derived.Test.YtkgibdhpijdbfaaGreatDoorZ18
import Derived.Test.YtkgibdhpijdbfaaGreatDoorZ17
import Derived.Test.YtkgibdhpijdbfaaGreatDoorZ28
import Derived.Test.YtkgibdhpijdbfaaGreatDoorZ19
import Derived.Test.YtkgibdhpijdbfaaGreatDoorZ3
set_option linter.unusedVariables false
set_option linter.unusedSimpArgs false
set_option maxHeartbeats 16000000
namespace Go.Proofs.YtkgibdhpijdbfaaGreatDoor
open Go Go.Eng Go.Proofs
inductive JJ(tb:Nat)(l:List AF):AH→Prop where
 |mk (a:Option Addr) (c:Nat) (L:AH) (hv:AT Aq 4 a l.length c (l.flatMap AU) L):
  JJ tb l ((tb,.cells ⟨[.int .i64 l.length,.int .i64 (AR 8 l).length,.slice a l.length c,AG (Du (Cb l))]⟩ Pr (0,0))::L)
set_option maxRecDepth 8000 in
theorem TV{w:World}{l:List AF}(ht:B8 l):
  Cl Tryz.prog pU [AG (B5 l)] w λv w'=>∃tb L,v= .tuple ⟨[ptr tb,.int .i64 0]⟩∧JJ tb l L∧St w [] L w':=by
 have hS:=St.start w;obtain⟨P,hP⟩: ∃P,AR 8 l=P:=⟨_,rfl⟩;have hcnt:P.length≤8:=by rw[←hP];exact ht.cnt
 have hl64:=ht.len;have htp:EA l=P.map E8++[(Jz l).1,Du (Cb l),Mt++(Ak (Jz l).2++Ak l.length)]:=by unfold EA;rw[hP]
 have htl:(EA l).length=P.length+3:=by rw[htp];simp
 refine jX rfl ?_;refine jq ⟨?_⟩;refine(TG (B5 l) (by have:=ht.bytes;omega)).mono ?_;rw[show scan (B5 l)=(EA l,(B5 l).length)from IY _ ht.ok];rintro _ w1⟨a,cap,Lv,rfl,hv,hS'⟩;have hS:=hS.callNew hS';simp only at hv⊢;rw[htl]at hv⊢;obtain⟨g,lt,rfl, -, -,hnc,rfl⟩: ∃g l',a=some ⟨g,0,none⟩∧((EA l).map AG).length=(P.length+3)*1∧((EA l).map AG).length+l'.length=cap*1∧P.length+3≤cap∧Lv=[(g,.cells ⟨(EA l).map AG++l'⟩ C3 (0,0))]:=by
  rcases hv.inv with⟨_,h,_⟩|h
  ·omega
  ·exact h
 have hget: ∀i,i<P.length→((EA l).map AG++lt)[i]?=some (AG (E8 (P.getD i []))):=by
  intro i hi;rw[Cn (by rw[BM];omega),htp,A7,Cn (by simpa using hi)];simp[hi]
 have hgb:((EA l).map AG++lt)[P.length+1]?=some (AG (Du (Cb l))):=by
  rw[Cn (by rw[BM];omega),htp,A7,Dp AB];simp
 have hbs:=ht.bytes;generalize htx:B5 l=text at hbs⊢;have hS:St w [] [(g,.cells ⟨(EA l).map AG++lt⟩ C3 (0,0))] w1:=hS;clear hS';(repeat(refine jt ⟨?_⟩;refine hS.q ?_;intro _ hS));refine jt ⟨?_⟩;rw[show(((P.length+3:Nat):Int)-3)=(P.length:Int) by omega];refine hS.ld (v:=AG (Du (Cb l))) (by rw[show 0+((P.length:Int)+1).toNat*1=P.length+1 by omega];exact hgb) ?_;(repeat(refine jt ⟨?_⟩;refine hS.q ?_;intro _ hS));refine jt ⟨?_⟩
 refine hS.al ?_;intro tb w2 _ hS;(repeat(refine jt ⟨?_⟩;refine hS.q ?_;intro _ hS));refine jt ⟨?_⟩;have hst:St w [] ((tb,.cells ⟨[.int .i64 0,.int .i64 P.length,.slice none ((P.take 0).flatten).length 0,AG (Du (Cb l))]⟩ Pr (0,0))::([]++[(g,.cells ⟨(EA l).map AG++lt⟩ C3 (0,0))])) _:=hS;clear hS;have hPk: ∀k,k≤P.length→((P.take k).flatten)=l.take (k*8):=by
  intro k hk;rw[←hP,Ox AA l k (by rw[hP];exact hk)]
 have hPg: ∀i(hi:i<P.length),i*8<l.length∧P[i]=(l.drop (i*8)).take 8:=by
  subst hP;intro i hi;exact⟨Ow AA hi,M9 hi⟩
 have hflat:P.flatten=l:=by rw[←hP];exact KD AA l
 refine AL.loop (λi:Nat×Option Addr×Nat=>[(0,AG text),(7,ptr tb),(44,.slice (some ⟨g,0,none⟩) P.length cap),(45,.int .i64 P.length),(46,.int .i64 i.1)])
  (λi w'=>i.1≤P.length∧ ∃L,AT Aq 4 i.2.1 ((P.take i.1).flatten).length i.2.2 (((P.take i.1).flatten).flatMap AU) L∧
   St w [] ((tb,.cells ⟨[.int .i64 0,.int .i64 P.length,.slice i.2.1 ((P.take i.1).flatten).length i.2.2,AG (Du (Cb l))]⟩ Pr (0,0))::(L++[(g,.cells ⟨(EA l).map AG++lt⟩ C3 (0,0))])) w') (λi=>P.length-i.1) (0,none,0)
  ⟨rfl,rfl,rfl,rfl,rfl,trivial⟩ ⟨Ag _,[],AT.nil,hst⟩ ?_
 clear hst;rintro⟨k,a1,c1⟩w3⟨hk,L,hV,hS⟩;simp only at hk hV hS⊢;by_cases hkl:k<P.length
 ·obtain⟨hk8,hPk1⟩:=hPg k hkl;have hpt:=ht.piece k;have hsucc:(P.take (k+1)).flatten=(P.take k).flatten++(l.drop (k*8)).take 8:=by rw[Bs hkl,GW,hPk1];simp
  have hgk:=hget k hkl;rw[Gn,CB hkl,FD,hPk1]at hgk;have hql:((P.take k).flatten).length≤64:=by rw[hPk k hk,BR];omega
  generalize(P.take k).flatten=q at hV hS hsucc hql⊢;generalize(l.drop (k*8)).take 8=p at hpt hsucc hgk;have hpl:=hpt.len;have hol:=Hi p;(repeat(refine jt ⟨?_⟩;refine hS.q ?_;intro _ hS));refine jt ⟨?_⟩;refine hS.ld (v:=AG (E8 p)) (by rw[show 0+(k:Int).toNat*1=k by omega];exact hgk) ?_;(repeat(refine jt ⟨?_⟩;refine hS.q ?_;intro _ hS));refine jt ⟨?_⟩;refine(Y3 hpt.rise hpt.fine hpt.fit AA).mono ?_
  rintro _ w4⟨a2,c2,L2,rfl,hV2,hS'⟩;have hS:=hS.callNew hS';(repeat(refine jt ⟨?_⟩;refine hS.q ?_;intro _ hS));refine jt ⟨?_⟩;refine St.app (sz:=4) (m:=p.length) AK rfl rfl rfl rfl hS hV (news:=p.flatMap AU) (by rw[hol]) (hV2.arr hS AB) (OB p) (by show(_+_)*48≤_;omega) AA ?_;intro a3 c3 L3 w5 hV3 hS;rw[←Hj,←AP,←hsucc]at hV3;rw[←AP,←hsucc];(repeat(refine jt ⟨?_⟩;refine hS.q ?_;intro _ hS));refine jt ⟨?_⟩
  exact⟨(k+1,a3,c3),⟨rfl,rfl,rfl,rfl,rfl,trivial⟩,⟨hkl,L3,hV3,hS.sub (Ah _ _)⟩,by simp only;omega⟩
 ·obtain rfl:k=P.length:=AA;rw[Bz,hflat]at hV hS;have hcl:l.length≤c1:=by
   rcases hV.inv with⟨-,h1, -⟩|⟨-, -, -, -, -,h1, -⟩
   ·omega
   ·exact h1
  have hS:=hS;(repeat(refine jt ⟨?_⟩;refine hS.q ?_;intro _ hS));refine jt ⟨?_⟩;refine(TU (hV.arr hS AB) hcl ht).mono ?_;rintro _ w4⟨rfl,hS'⟩;have hS:=hS.call0 hS';rw[htx];(repeat(refine jt ⟨?_⟩;refine hS.q ?_;intro _ hS));refine jt ⟨?_⟩;have hbf:(!decide (text=text))=false:=AB;repeat(refine Ax.eqf hbf ?_;(repeat(refine jt ⟨?_⟩;refine hS.q ?_;intro _ hS));refine jt ⟨?_⟩)
  refine⟨tb,_,rfl,JJ.mk (l:=l) a1 c1 L hV,?_⟩;rw[hP];exact hS.sub (.cons_cons _ (CC _ _))
inductive GO(f:Nat):Option BF→Value→AH→Prop where
 |none:GO f none (.pointer none) []
 |some (b:Nat) (g:BF):GO f (some g) (ptr b) [(b,IS f g.name g.n g.torn g.dead)]
inductive Cj:List (Int×Nat)→List (Int×List AF)→AH→Prop where
 |nil:Cj [] [] []
 |cons {n:Int} {tb:Nat} {l:List AF} {L:AH} {ks:List (Int×Nat)} {ts:List (Int×List AF)} {M:AH} (h:JJ tb l L) (r:Cj ks ts M):Cj ((n,tb)::ks) ((n,l)::ts) (L++M)
inductive AW(sb f:Nat)(s:AM)(m:AJ):AH→Prop where
 |mk (sq:Nat) (es:Array MapEntry) (c:Nat) (hsq:MapC AY AY es c s.seqs) (ha:Option Addr) (hc:Nat) (Lh:AH) (hh:AT BP 1 ha s.hts.length hc (s.hts.map AY) Lh)
   (a:Option Addr) (ca:Nat) (La:AH) (hv:Dt a ca s.v La) (lv:Value) (Ll:AH) (hl:GO f s.list lv Ll) (gv:Value) (Lg:AH) (hg:GO f s.log gv Lg)
   (mb:Nat) (Lm:AH) (hm:Fy mb s.mem s.adds Lm) (tm:Nat) (et:Array MapEntry) (ct:Nat) (ks:List (Int×Nat)) (ht:MapC AY (λb:Nat=>ptr b) et ct ks) (Lt:AH) (hts:Cj ks s.tabs Lt) (LF:AH) (hF:BI f m LF):
  AW sb f s m ((sb,.cells ⟨[.int .i64 s.given,.map (some sq),ptr f,.int .i64 s.memMax,.int .i64 s.fan,.slice ha s.hts.length hc,.slice a s.v.files.length ca,.int .i64 s.v.wal,.int .i64 s.v.next,.int .i64 s.v.seq,lv,gv,ptr mb,.map (some tm),.int .i64 s.seq,.bool s.dead]⟩ Ta (0,0))::(sq,.map es c)::(tm,.map et ct)::(Lh++(La++(Ll++(Lg++(Lm++(Lt++LF)))))))
theorem Cj.keys{ks:List (Int×Nat)}{ts:List (Int×List AF)}{L:AH}(h:Cj ks ts L):ks.map (·.1)=ts.map (·.1):=by
 induction h with
 |nil=>rfl
 |cons _ _ ih=>simp[ih]
theorem H8{w:World}{sb f:Nat}{s:AM}{m:AJ}{L:AH}(hO:AW sb f s m L)(hh:Holds L w):Cl Tryz.prog OE [ptr sb] w λv w'=>v= .bool (s.dead||m.off)∧St w (keys L) L w':=by
 have hS:=St.enter hh;have hO0:=hO;have hSL:=hS;obtain⟨sq,es,c,hsq,ha,hc,Lh,hvh,a,ca,La,hv,lv,Ll,hl,gv,Lg,hg,mb,Lm,hm,tm,et,ct,ks,ht,Lt,hts,LF,hF⟩:=hO;generalize keys _=T0 at hS⊢;refine iC rfl ?_;cases hd:s.dead with
 |true=>
  rw[hd]at hS;(repeat(refine jt ⟨?_⟩;refine hS.q ?_;intro _ hS));refine jt ⟨?_⟩;exact⟨rfl,hS⟩
 |false=>
  rw[hd]at hS;(repeat(refine jt ⟨?_⟩;refine hS.q ?_;intro _ hS));refine jt ⟨?_⟩;refine Cl.mono (Ie hF (hS.part (L:=LF))) ?_;rintro _ w1⟨rfl,hS'⟩;have hS:=hS.call (L:=LF) hS';(repeat(refine jt ⟨?_⟩;refine hS.q ?_;intro _ hS));refine jt ⟨?_⟩;exact⟨rfl,hS⟩
theorem He{w:World}{sb f:Nat}{s:AM}{m:AJ}{L:AH}(hO:AW sb f s m L)(hh:Holds L w)(e:Int):Cl Tryz.prog pA [ptr sb,.int .i64 e] w λv w'=>v= .int .i64 (Dj s m e).1∧ ∃L',AW sb f (Dj s m e).2 m L'∧St w (keys L) L' w':=by
 have hS:=St.enter hh;have hO0:=hO;have hSL:=hS;obtain⟨sq,es,c,hsq,ha,hc,Lh,hvh,a,ca,La,hv,lv,Ll,hl,gv,Lg,hg,mb,Lm,hm,tm,et,ct,ks,ht,Lt,hts,LF,hF⟩:=hO;generalize keys _=T0 at hS⊢;refine iN rfl ?_;have hyes: ∀w',St w T0 _ w'→ ∃L',AW sb f {s with dead:=true} m L'∧St w T0 L' w':=λw' h=>⟨_,AW.mk (s:={s with dead:=true}) sq es c hsq ha hc Lh hvh a ca La hv lv Ll hl gv Lg hg mb Lm hm tm et ct ks ht Lt hts LF hF,h⟩
 have hno: ∀w',St w T0 _ w'→ ∃L',AW sb f {s with dead:=false} m L'∧St w T0 L' w':=λw' h=>⟨_,AW.mk (s:={s with dead:=false}) sq es c hsq ha hc Lh hvh a ca La hv lv Ll hl gv Lg hg mb Lm hm tm et ct ks ht Lt hts LF hF,h⟩;unfold Dj;cases hd:s.dead with
 |true=>
  rw[hd]at hS;rw[if_pos AB];(repeat(refine jt ⟨?_⟩;refine hS.q ?_;intro _ hS));refine jt ⟨?_⟩;exact⟨rfl,hyes _ hS⟩
 |false=>
  rw[hd]at hS;by_cases he:e=7
  ·rw[if_pos (by simp[he])];(repeat(refine jt ⟨?_⟩;refine hS.q ?_;intro _ hS));refine jt ⟨?_⟩;exact⟨rfl,hyes _ hS⟩
  ·(repeat(refine jt ⟨?_⟩;refine hS.q ?_;intro _ hS));refine jt ⟨?_⟩;refine Cl.mono (Ie hF (hS.part (L:=LF))) ?_;rintro _ w1⟨rfl,hS'⟩;have hS:=hS.call (L:=LF) hS';cases hoff:m.off with
   |true=>
    rw[if_pos AB];(repeat(refine jt ⟨?_⟩;refine hS.q ?_;intro _ hS));refine jt ⟨?_⟩;exact⟨rfl,hyes _ hS⟩
   |false=>
    rw[if_neg (by simp[he])];(repeat(refine jt ⟨?_⟩;refine hS.q ?_;intro _ hS));refine jt ⟨?_⟩;exact⟨rfl,hno _ hS⟩
theorem _root_.Go.Eng.Holds.left{L M:AH}{w:World}(h:Holds (L++M) w):Holds L w:=((St.enter h).sub (CC L M)).holds
theorem _root_.Go.Eng.Holds.right{L M:AH}{w:World}(h:Holds (L++M) w):Holds M w:=((St.enter h).sub (Ah L M)).holds
theorem JJ.read{tb:Nat}{l:List AF}{L:AH}(h:JJ tb l L){w:World}(hh:Holds L w): ∃a c,Fi w tb l a c (AR 8 l).length:=by
 obtain⟨a,c,Lv,hv⟩:=h;have hS:=St.enter hh;refine⟨a,c,hS.arr (b:=tb) AB,hv.arr hS AB,hv.cap,?_⟩;rcases hv.inv with⟨h, -⟩|⟨g, -,h, -⟩
 ·exact .inl h
 ·exact .inr ⟨g,h⟩
theorem Cj.read{ks:List (Int×Nat)}{ts:List (Int×List AF)}{L:AH}(h:Cj ks ts L){w:World}(hh:Holds L w){x:Int×Nat}(hx:x∈ks): ∃l,(x.1,l)∈ts∧ ∃a c nb,Fi w x.2 l a c nb:=by
 induction h with
 |nil=>cases hx
 |cons ht hr ih=>
  rcases As.1 hx with rfl|hx
  ·obtain⟨a,c,h⟩:=ht.read hh.left;exact⟨_,CN,a,c,_,h⟩
  ·obtain⟨l,h1,h2⟩:=ih hh.right hx;exact⟨l,CJ _ h1,h2⟩
structure GK(cands:List (Option AF))(b:Option AF):Prop where
 non:b=none→ ∀c∈cands,c=none
 mem: ∀x,b=some x→some x∈cands
 top: ∀x,b=some x→ ∀y,some y∈cands→y.s≤x.s
theorem GK.one(c:Option AF):GK [c] c:=⟨λh c' hc=>by simp at hc;rw[hc,h],λx h=>by simp[h],λx h y hy=>by simp at hy;rw[h]at hy;cases hy;exact Ea _⟩
def KC(b c:Option AF):Option AF:=match c with
 |none=>b
 |some y=>match b with
  |none=>some y
  |some x=>if x.s<y.s then some y else some x
theorem GK.snoc{cs:List (Option AF)}{b c:Option AF}(h:GK cs b):GK (cs++[c]) (KC b c):=by
 cases c with
 |none=>
  exact⟨λhb c hc=>by rcases Bl.1 hc with hc|hc;exact h.non hb c hc;simpa using hc,λx hx=>EO _ (h.mem x hx),λx hx y hy=>by
   rcases Bl.1 hy with hy|hy
   ·exact h.top x hx y hy
   ·simp at hy⟩
 |some y=>
  cases b with
  |none=>
   refine⟨λhb=>(by cases hb),λx hx=>by cases hx;simp,λx hx z hz=>?_⟩;cases hx;rcases Bl.1 hz with hz|hz
   ·cases h.non rfl _ hz
   ·simp at hz;subst hz;exact Ea _
  |some u=>
   unfold KC;simp only
   split
   ·rename_i hlt;refine⟨λhb=>(by cases hb),λx hx=>by cases hx;simp,λx hx z hz=>?_⟩;cases hx;rcases Bl.1 hz with hz|hz
    ·have:=h.top u rfl z hz;omega
    ·simp at hz;subst hz;exact Ea _
   ·rename_i hlt;refine⟨λhb=>(by cases hb),λx hx=>by cases hx;exact EO _ (h.mem u rfl),λx hx z hz=>?_⟩;cases hx;rcases Bl.1 hz with hz|hz
    ·exact h.top u rfl z hz
    ·simp at hz;subst hz;omega
theorem GK.of{cs ds:List (Option AF)}{b:Option AF}(h:GK cs b)(hp: ∀c,c∈ds↔c∈cs):GK ds b:=
 ⟨λhb c hc=>h.non hb c ((hp c).1 hc),λx hx=>(hp _).2 (h.mem x hx),λx hx y hy=>h.top x hx y ((hp _).1 hy)⟩
def Ha:AF:=⟨[],0,false,[]⟩
def LX(ts:List (Int×List AF))(k:AE)(at':Int)(n:Int):Option AF:=match Al n ts with
 |none=>none
 |some l=>DH l k at'
theorem _root_.Go.Eng.MapC.nodupK{κ α:Type} [DecidableEq κ]{d:TypeDesc}{enc:κ→Value}{val:α→Value}(hk:Bq d enc){es:Array MapEntry}{c:Nat}{kvs:List (κ×α)}(h:MapC enc val es c kvs):(kvs.map (·.1)).Nodup:=by
 have h1:=h.st.2.2;rw[h.of.keys hk]at h1;have:(kvs.map λx=>enc x.1)=(kvs.map (·.1)).map enc:=by rw[Fp];rfl
 rw[this]at h1;exact(List.pairwise_map.1 h1).imp λh e=>h (by rw[e])
structure GI where
 b:Option AF
 seen:Array Nat
 dn:List (Int×Nat)
 td:List (Int×Nat)
theorem rU{w:World}{sb f:Nat}{s:AM}{m:AJ}{L:AH}(hO:AW sb f s m L)(hh:Holds L w)(k:AE)(q:Int)(hk:k.length≤1099511627776)(hr:Az s.mem)(hf: ∀x∈s.tabs,B8 x.2):
  Cl Tryz.prog U5 [ptr sb,AG k,.int .i64 q] w λv w'=>∃b,GK (DH s.mem k q::s.tabs.map λx=>DH x.2 k q) b∧v= .tuple ⟨[AG (b.getD Ha).v,.bool (b.isSome&& !(b.getD Ha).d)]⟩∧St w (keys L) L w':=by
 have hS:=St.enter hh;obtain⟨sq,es,c,hsq,ha,hc,Lh,hvh,a,ca,La,hv,lv,Ll,hl,gv,Lg,hg,mb,Lm,hm,tm,et,ct,ks,ht,Lt,hts,LF,hF⟩:=hO;have hkk:=hts.keys;have hnd:(s.tabs.map (·.1)).Nodup:=by rw[←hkk];exact ht.nodupK Bq.i64
 generalize hT:keys _=T0 at hS⊢;refine iR rfl ?_;(repeat(refine jt ⟨?_⟩;refine hS.q ?_;intro _ hS));refine jt ⟨?_⟩;refine Cl.mono (Zc hm (hS.part (L:=Lm)) hr k q) ?_;rintro _ w1⟨rfl,hS'⟩;have hS:=hS.call (L:=Lm) hS';have hb0:GK [DH s.mem k q] (DH s.mem k q):=GK.one _;generalize DH s.mem k q=g0 at hb0⊢;have hent: ∀o:Option AF,QT o= .tuple ⟨[.agg ⟨[AG (o.getD Ha).k,.int .i64 (o.getD Ha).s,.bool (o.getD Ha).d,AG (o.getD Ha).v]⟩,.bool o.isSome]⟩:=λo=>rfl
 rw[hent];(repeat(refine jt ⟨?_⟩;refine hS.q ?_;intro _ hS));refine jt ⟨?_⟩;refine hS.al ?_;intro b8 w2 _ hS;(repeat(refine jt ⟨?_⟩;refine hS.q ?_;intro _ hS));refine jt ⟨?_⟩;refine St.rangeM AK rfl rfl hS ?_;intro it w3 _ hS;(repeat(refine jt ⟨?_⟩;refine hS.q ?_;intro _ hS));refine jt ⟨?_⟩;refine AL.loop (λz:GI=>[(0,ptr sb),(1,AG k),(2,.int .i64 q),(8,ptr b8),(9,.bool z.b.isSome),(28,ptr it)])
  (λz w'=>H6 AY (λb:Nat=>ptr b) et z.seen ks z.dn z.td∧GK (g0::z.dn.map λx=>LX s.tabs k q x.1) z.b∧
   St w T0 ((it,.mapIter (some tm) ct z.seen ct)::(b8,.cells ⟨[AG (z.b.getD Ha).k,.int .i64 (z.b.getD Ha).s,.bool (z.b.getD Ha).d,AG (z.b.getD Ha).v]⟩ Aq (0,0))::_) w') (λz=>z.td.length) ⟨g0, #[],[],ks⟩
  ⟨rfl,rfl,rfl,rfl,rfl,rfl,trivial⟩ ⟨H6.start ht,hb0,hS⟩ ?_
 clear hS hS' hb0;rintro⟨b,seen,dn,td⟩w4⟨hR,hB,hS⟩;simp only at hR hB hS⊢;have hS:=hS;(repeat(refine jt ⟨?_⟩;refine hS.q ?_;intro _ hS));refine jt ⟨?_⟩;refine St.nextM (kvs:=ks) hS (hS.mem (b:=tm)) ht hR (λhtd=>?_) (λA x B e w5 htd hR2 he1 he2 he3 hS=>?_)
 ·(repeat(refine jt ⟨?_⟩;refine hS.q ?_;intro _ hS));refine jt ⟨?_⟩;subst htd;have hp:=hR.perm;rw[BU]at hp;have hB2:GK (g0::s.tabs.map λx=>DH x.2 k q) b:=by
   refine hB.of λc=>?_;rw[As,As];refine or_congr Iff.rfl ?_;rw[BV,BV];constructor
   ·rintro⟨x,hx,rfl⟩;have h1:x.1∈ks.map (·.1):=by rw[hkk];exact CD hx
    obtain⟨y,hy,hyx⟩:=BV.1 h1;exact⟨y,hp.mem_iff.2 hy,by unfold LX;rw[hyx,F9 hnd (show(x.1,x.2)∈s.tabs from hx)]⟩
   ·rintro⟨y,hy,rfl⟩;have h1:y.1∈s.tabs.map (·.1):=by rw[←hkk];exact CD (hp.mem_iff.1 hy)
    obtain⟨x,hx,hxy⟩:=BV.1 h1;exact⟨x,hx,by unfold LX;rw[←hxy,F9 hnd (show(x.1,x.2)∈s.tabs from hx)]⟩
  refine AL.draw AK mixed (λw'=>St w T0 _ w') [] [0,1,2,3,4,5,6,7,8,9] AD hS.drew ?_;have hS:=hS.drew;have hsub:=(hS.sub ((AS _ _).trans (AS _ _)));cases b with
  |none=>
   simp only[Iy];refine jr ⟨?_⟩;exact⟨none,hB2,rfl,hsub⟩
  |some u=>
   simp only[FD]at hS;simp only[Option.isSome_some];refine jr ⟨?_⟩;refine⟨some u,hB2,?_,hsub⟩
   rfl
 ·(repeat(refine jt ⟨?_⟩;refine hS.q ?_;intro _ hS));refine jt ⟨?_⟩;refine St.entryM (kvs:=ks) hS (hS.mem (b:=tm)) ht he1 he2 he3 ?_;(repeat(refine jt ⟨?_⟩;refine hS.q ?_;intro _ hS));refine jt ⟨?_⟩;have hx:x∈ks:=hR.perm.mem_iff.1 (by rw[htd];simp);obtain⟨l,hxl,a2,c2,nb,hT2⟩:=hts.read (hS.part (L:=Lt)) hx;have htf:B8 l:=hf _ hxl;have hta:LX s.tabs k q x.1=DH l k q:=by unfold LX;rw[F9 hnd hxl]
  have hB2:=hB.snoc (c:=DH l k q);have hB3:GK (g0::(dn++[x]).map λx=>LX s.tabs k q x.1) (KC b (DH l k q)):=by
   rw[A7,A4,kC,hta];exact hB2
  refine Cl.mono (ZK (k:=k) (s:=q) hT2 htf.rise (by have:=htf.len;omega) hk (by have:=Tw (Cb l) (by have:=Og l;have:=htf.len;omega);omega)) ?_;rintro _ w6⟨rfl,hS'⟩;have hS:=hS.call0 hS';generalize DH l k q=g1 at hB3⊢;rw[hent];(repeat(refine jt ⟨?_⟩;refine hS.q ?_;intro _ hS));refine jt ⟨?_⟩;refine hS.al ?_;intro b12 w7 _ hS;have hml:(A++B).length<td.length:=by rw[htd];simp
  clear hB2 hta htf hT2;cases g1 with
  |none=>
   simp only[Iy];(repeat(refine jt ⟨?_⟩;refine hS.q ?_;intro _ hS));refine jt ⟨?_⟩;exact⟨⟨b,seen.push e.born,dn++[x],A++B⟩,⟨rfl,rfl,rfl,rfl,rfl,rfl,trivial⟩,⟨hR2,hB3,hS.sub (AS _ _)⟩,hml⟩
  |some y=>
   cases b with
   |none=>
    simp only[Iy,Option.isSome_some,FD];(repeat(refine jt ⟨?_⟩;refine hS.q ?_;intro _ hS));refine jt ⟨?_⟩;exact⟨⟨some y,seen.push e.born,dn++[x],A++B⟩,⟨rfl,rfl,rfl,rfl,rfl,rfl,trivial⟩,⟨hR2,hB3,hS.sub (AS _ _)⟩,hml⟩
   |some u=>
    simp only[FD]at hS;simp only[Option.isSome_some,FD];by_cases hlt:u.s<y.s
    ·have e1:KC (some u) (some y)=some y:=by unfold KC;simp only;rw[if_pos hlt]
     rw[e1]at hB3;(repeat(refine jt ⟨?_⟩;refine hS.q ?_;intro _ hS));refine jt ⟨?_⟩;exact⟨⟨some y,seen.push e.born,dn++[x],A++B⟩,⟨rfl,rfl,rfl,rfl,rfl,rfl,trivial⟩,⟨hR2,hB3,hS.sub (AS _ _)⟩,hml⟩
    ·have e1:KC (some u) (some y)=some u:=by unfold KC;simp only;rw[if_neg hlt]
     rw[e1]at hB3;(repeat(refine jt ⟨?_⟩;refine hS.q ?_;intro _ hS));refine jt ⟨?_⟩;exact⟨⟨some u,seen.push e.born,dn++[x],A++B⟩,⟨rfl,rfl,rfl,rfl,rfl,rfl,trivial⟩,⟨hR2,hB3,hS.sub (AS _ _)⟩,hml⟩
end Go.Proofs.YtkgibdhpijdbfaaGreatDoor
