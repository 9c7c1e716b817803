/- Texts of this claim, one behind the other. -/
import Derived.Test.YtkgibdhpijdbfaaGreatDoorZ25
import Derived.Test.YtkgibdhpijdbfaaGreatDoorZ26
import Derived.Test.YtkgibdhpijdbfaaGreatDoorZ18
set_option linter.unusedVariables false
set_option linter.unusedSimpArgs false
set_option maxHeartbeats 16000000
namespace Go.Proofs.YtkgibdhpijdbfaaGreatDoor
open Go Go.Eng Go.Proofs
theorem _root_.Go.Eng.Holds.left{L M:AH}{w:World}(h:Holds (L++M) w):Holds L w:=((St.enter h).sub (CD L M)).holds
theorem _root_.Go.Eng.Holds.right{L M:AH}{w:World}(h:Holds (L++M) w):Holds M w:=((St.enter h).sub (Ai L M)).holds
theorem JN.read{tb:Nat}{l:List AF}{L:AH}(h:JN tb l L){w:World}(hh:Holds L w): ∃a c,Fg w tb l a c (AR 8 l).length:=by
 obtain⟨a,c,Lv,hv⟩:=h;have hS:=St.enter hh;refine⟨a,c,hS.arr (b:=tb) AB,hv.arr hS AB,hv.cap,?_⟩;rcases hv.inv with⟨h, -⟩|⟨g, -,h, -⟩
 ·exact .inl h
 ·exact .inr ⟨g,h⟩
theorem Cj.read{ks:List (Int×Nat)}{ts:List (Int×List AF)}{L:AH}(h:Cj ks ts L){w:World}(hh:Holds L w){x:Int×Nat}(hx:x∈ks): ∃l,(x.1,l)∈ts∧ ∃a c nb,Fg w x.2 l a c nb:=by
 induction h with
 |nil=>cases hx
 |cons ht hr ih=>
  rcases As.1 hx with rfl|hx
  ·obtain⟨a,c,h⟩:=ht.read hh.left;exact⟨_,CM,a,c,_,h⟩
  ·obtain⟨l,h1,h2⟩:=ih hh.right hx;exact⟨l,CH _ h1,h2⟩
structure GJ(cands:List (Option AF))(b:Option AF):Prop where
 non:b=none→ ∀c∈cands,c=none
 mem: ∀x,b=some x→some x∈cands
 top: ∀x,b=some x→ ∀y,some y∈cands→y.s≤x.s
theorem GJ.one(c:Option AF):GJ [c] c:=⟨λh c' hc=>by simp at hc;rw[hc,h],λx h=>by simp[h],λx h y hy=>by simp at hy;rw[h]at hy;cases hy;exact EZ _⟩
def KL(b c:Option AF):Option AF:=match c with
 |none=>b
 |some y=>match b with
  |none=>some y
  |some x=>if x.s<y.s then some y else some x
theorem GJ.snoc{cs:List (Option AF)}{b c:Option AF}(h:GJ cs b):GJ (cs++[c]) (KL b c):=by
 cases c with
 |none=>
  exact⟨λhb c hc=>by rcases Bk.1 hc with hc|hc;exact h.non hb c hc;simpa using hc,λx hx=>Eg _ (h.mem x hx),λx hx y hy=>by
   rcases Bk.1 hy with hy|hy
   ·exact h.top x hx y hy
   ·simp at hy⟩
 |some y=>
  cases b with
  |none=>
   refine⟨λhb=>(by cases hb),λx hx=>by cases hx;simp,λx hx z hz=>?_⟩;cases hx;rcases Bk.1 hz with hz|hz
   ·cases h.non rfl _ hz
   ·simp at hz;subst hz;exact EZ _
  |some u=>
   unfold KL;simp only
   split
   ·rename_i hlt;refine⟨λhb=>(by cases hb),λx hx=>by cases hx;simp,λx hx z hz=>?_⟩;cases hx;rcases Bk.1 hz with hz|hz
    ·have:=h.top u rfl z hz;omega
    ·simp at hz;subst hz;exact EZ _
   ·rename_i hlt;refine⟨λhb=>(by cases hb),λx hx=>by cases hx;exact Eg _ (h.mem u rfl),λx hx z hz=>?_⟩;cases hx;rcases Bk.1 hz with hz|hz
    ·exact h.top u rfl z hz
    ·simp at hz;subst hz;omega
theorem GJ.of{cs ds:List (Option AF)}{b:Option AF}(h:GJ cs b)(hp: ∀c,c∈ds↔c∈cs):GJ ds b:=
 ⟨λhb c hc=>h.non hb c ((hp c).1 hc),λx hx=>(hp _).2 (h.mem x hx),λx hx y hy=>h.top x hx y ((hp _).1 hy)⟩
def HX:AF:=⟨[],0,false,[]⟩
def Lq(ts:List (Int×List AF))(k:AE)(at':Int)(n:Int):Option AF:=match Am n ts with
 |none=>none
 |some l=>DE l k at'
theorem _root_.Go.Eng.MapC.nodupK{κ α:Type} [DecidableEq κ]{d:TypeDesc}{enc:κ→Value}{val:α→Value}(hk:Bn d enc){es:Array MapEntry}{c:Nat}{kvs:List (κ×α)}(h:MapC enc val es c kvs):(kvs.map (·.1)).Nodup:=by
 have h1:=h.st.2.2;rw[h.of.keys hk]at h1;have:(kvs.map λx=>enc x.1)=(kvs.map (·.1)).map enc:=by rw[Fo];rfl
 rw[this]at h1;exact(List.pairwise_map.1 h1).imp λh e=>h (by rw[e])
structure GI where
 b:Option AF
 seen:Array Nat
 dn:List (Int×Nat)
 td:List (Int×Nat)
theorem rU{w:World}{sb f:Nat}{s:AL}{m:AJ}{L:AH}(hO:AV sb f s m L)(hh:Holds L w)(k:AE)(q:Int)(hk:k.length≤1099511627776)(hr:Az s.mem)(hf: ∀x∈s.tabs,B8 x.2):
  Cl Tryz.prog U8 [ptr sb,AG k,.int .i64 q] w λv w'=>∃b,GJ (DE s.mem k q::s.tabs.map λx=>DE x.2 k q) b∧v= .tuple ⟨[AG (b.getD HX).v,.bool (b.isSome&& !(b.getD HX).d)]⟩∧St w (keys L) L w':=by
 have hS:=St.enter hh;obtain⟨sq,es,c,hsq,ha,hc,Lh,hvh,a,ca,La,hv,lv,Ll,hl,gv,Lg,hg,mb,Lm,hm,tm,et,ct,ks,ht,Lt,hts,LF,hF⟩:=hO;have hkk:=hts.keys;have hnd:(s.tabs.map (·.1)).Nodup:=by rw[←hkk];exact ht.nodupK Bn.i64
 generalize hT:keys _=T0 at hS⊢;refine iS rfl ?_;(repeat(refine jt ⟨?_⟩;refine hS.q ?_;intro _ hS));refine jt ⟨?_⟩;refine Cl.mono (Zj hm (hS.part (L:=Lm)) hr k q) ?_;rintro _ w1⟨rfl,hS'⟩;have hS:=hS.call (L:=Lm) hS';have hb0:GJ [DE s.mem k q] (DE s.mem k q):=GJ.one _;generalize DE s.mem k q=g0 at hb0⊢;have hent: ∀o:Option AF,QU o= .tuple ⟨[.agg ⟨[AG (o.getD HX).k,.int .i64 (o.getD HX).s,.bool (o.getD HX).d,AG (o.getD HX).v]⟩,.bool o.isSome]⟩:=λo=>rfl
 rw[hent];(repeat(refine jt ⟨?_⟩;refine hS.q ?_;intro _ hS));refine jt ⟨?_⟩;refine hS.al ?_;intro b8 w2 _ hS;(repeat(refine jt ⟨?_⟩;refine hS.q ?_;intro _ hS));refine jt ⟨?_⟩;refine St.rangeM AK rfl rfl hS ?_;intro it w3 _ hS;(repeat(refine jt ⟨?_⟩;refine hS.q ?_;intro _ hS));refine jt ⟨?_⟩;refine AM.loop (λz:GI=>[(0,ptr sb),(1,AG k),(2,.int .i64 q),(8,ptr b8),(9,.bool z.b.isSome),(28,ptr it)])
  (λz w'=>H7 AY (λb:Nat=>ptr b) et z.seen ks z.dn z.td∧GJ (g0::z.dn.map λx=>Lq s.tabs k q x.1) z.b∧
   St w T0 ((it,.mapIter (some tm) ct z.seen ct)::(b8,.cells ⟨[AG (z.b.getD HX).k,.int .i64 (z.b.getD HX).s,.bool (z.b.getD HX).d,AG (z.b.getD HX).v]⟩ Ap (0,0))::_) w') (λz=>z.td.length) ⟨g0, #[],[],ks⟩
  ⟨rfl,rfl,rfl,rfl,rfl,rfl,trivial⟩ ⟨H7.start ht,hb0,hS⟩ ?_
 clear hS hS' hb0;rintro⟨b,seen,dn,td⟩w4⟨hR,hB,hS⟩;simp only at hR hB hS⊢;have hS:=hS;(repeat(refine jt ⟨?_⟩;refine hS.q ?_;intro _ hS));refine jt ⟨?_⟩;refine St.nextM (kvs:=ks) hS (hS.mem (b:=tm)) ht hR (λhtd=>?_) (λA x B e w5 htd hR2 he1 he2 he3 hS=>?_)
 ·(repeat(refine jt ⟨?_⟩;refine hS.q ?_;intro _ hS));refine jt ⟨?_⟩;subst htd;have hp:=hR.perm;rw[BT]at hp;have hB2:GJ (g0::s.tabs.map λx=>DE x.2 k q) b:=by
   refine hB.of λc=>?_;rw[As,As];refine or_congr Iff.rfl ?_;rw[BU,BU];constructor
   ·rintro⟨x,hx,rfl⟩;have h1:x.1∈ks.map (·.1):=by rw[hkk];exact CC hx
    obtain⟨y,hy,hyx⟩:=BU.1 h1;exact⟨y,hp.mem_iff.2 hy,by unfold Lq;rw[hyx,F9 hnd (show(x.1,x.2)∈s.tabs from hx)]⟩
   ·rintro⟨y,hy,rfl⟩;have h1:y.1∈s.tabs.map (·.1):=by rw[←hkk];exact CC (hp.mem_iff.1 hy)
    obtain⟨x,hx,hxy⟩:=BU.1 h1;exact⟨x,hx,by unfold Lq;rw[←hxy,F9 hnd (show(x.1,x.2)∈s.tabs from hx)]⟩
  refine AM.draw AK mixed (λw'=>St w T0 _ w') [] [0,1,2,3,4,5,6,7,8,9] AD hS.drew ?_;have hS:=hS.drew;have hsub:=(hS.sub ((AS _ _).trans (AS _ _)));cases b with
  |none=>
   simp only[I0];refine jr ⟨?_⟩;exact⟨none,hB2,rfl,hsub⟩
  |some u=>
   simp only[FA]at hS;simp only[Option.isSome_some];refine jr ⟨?_⟩;refine⟨some u,hB2,?_,hsub⟩
   rfl
 ·(repeat(refine jt ⟨?_⟩;refine hS.q ?_;intro _ hS));refine jt ⟨?_⟩;refine St.entryM (kvs:=ks) hS (hS.mem (b:=tm)) ht he1 he2 he3 ?_;(repeat(refine jt ⟨?_⟩;refine hS.q ?_;intro _ hS));refine jt ⟨?_⟩;have hx:x∈ks:=hR.perm.mem_iff.1 (by rw[htd];simp);obtain⟨l,hxl,a2,c2,nb,hT2⟩:=hts.read (hS.part (L:=Lt)) hx;have htf:B8 l:=hf _ hxl;have hta:Lq s.tabs k q x.1=DE l k q:=by unfold Lq;rw[F9 hnd hxl]
  have hB2:=hB.snoc (c:=DE l k q);have hB3:GJ (g0::(dn++[x]).map λx=>Lq s.tabs k q x.1) (KL b (DE l k q)):=by
   rw[A7,A4,GV,hta];exact hB2
  refine Cl.mono (ZQ (k:=k) (s:=q) hT2 htf.rise (by have:=htf.len;omega) hk (by have:=Tu (Cb l) (by have:=Oi l;have:=htf.len;omega);omega)) ?_;rintro _ w6⟨rfl,hS'⟩;have hS:=hS.call0 hS';generalize DE l k q=g1 at hB3⊢;rw[hent];(repeat(refine jt ⟨?_⟩;refine hS.q ?_;intro _ hS));refine jt ⟨?_⟩;refine hS.al ?_;intro b12 w7 _ hS;have hml:(A++B).length<td.length:=by rw[htd];simp
  clear hB2 hta htf hT2;cases g1 with
  |none=>
   simp only[I0];(repeat(refine jt ⟨?_⟩;refine hS.q ?_;intro _ hS));refine jt ⟨?_⟩;exact⟨⟨b,seen.push e.born,dn++[x],A++B⟩,⟨rfl,rfl,rfl,rfl,rfl,rfl,trivial⟩,⟨hR2,hB3,hS.sub (AS _ _)⟩,hml⟩
  |some y=>
   cases b with
   |none=>
    simp only[I0,Option.isSome_some,FA];(repeat(refine jt ⟨?_⟩;refine hS.q ?_;intro _ hS));refine jt ⟨?_⟩;exact⟨⟨some y,seen.push e.born,dn++[x],A++B⟩,⟨rfl,rfl,rfl,rfl,rfl,rfl,trivial⟩,⟨hR2,hB3,hS.sub (AS _ _)⟩,hml⟩
   |some u=>
    simp only[FA]at hS;simp only[Option.isSome_some,FA];by_cases hlt:u.s<y.s
    ·have e1:KL (some u) (some y)=some y:=by unfold KL;simp only;rw[if_pos hlt]
     rw[e1]at hB3;(repeat(refine jt ⟨?_⟩;refine hS.q ?_;intro _ hS));refine jt ⟨?_⟩;exact⟨⟨some y,seen.push e.born,dn++[x],A++B⟩,⟨rfl,rfl,rfl,rfl,rfl,rfl,trivial⟩,⟨hR2,hB3,hS.sub (AS _ _)⟩,hml⟩
    ·have e1:KL (some u) (some y)=some u:=by unfold KL;simp only;rw[if_neg hlt]
     rw[e1]at hB3;(repeat(refine jt ⟨?_⟩;refine hS.q ?_;intro _ hS));refine jt ⟨?_⟩;exact⟨⟨some u,seen.push e.born,dn++[x],A++B⟩,⟨rfl,rfl,rfl,rfl,rfl,rfl,trivial⟩,⟨hR2,hB3,hS.sub (AS _ _)⟩,hml⟩
def BS(s:AL):List AF:=s.mem++(s.tabs.map (·.2)).flatten
def Ce(ts:List (Int×List AF))(n:Int):List AF:=(Am n ts).getD []
theorem yH: ∀{ts us:List (Int×List AF)},(ts.map (·.1)).Nodup→us.Sublist ts→us.map (λx=>Ce ts x.1)=us.map (·.2):=by
 intro ts us hn hs;apply KC;intro x hx;unfold Ce;rw[F9 hn (show(x.1,x.2)∈ts from hs.mem hx)];rfl
theorem Yd{ts:List (Int×List AF)}{ns:List Int}(hn:(ts.map (·.1)).Nodup)(hp:ns.Perm (ts.map (·.1))):(ns.map (Ce ts)).flatten.Perm (ts.map (·.2)).flatten:=by
 have h1:=(hp.map (Ce ts)).flatten;rw[Fo]at h1;have h2:=yH hn (List.Sublist.refl ts);have h3:ts.map (Ce ts∘ λx=>x.1)=ts.map (·.2):=h2;rw[h3]at h1;exact h1
theorem Qs(k:AE): ∀{l:List AF},Az l→Hc l→Bp k 9223372036854775807 l=l.filter λx=> !Op.bytesLess x.k k
 |[],_,_=>rfl
 |x::l,hr,hs=>by
  have hx:=hs x CM;have hl:=DQ.1 hr;have ih:=Qs k hl.2 (λy hy=>hs y (CH _ hy));have e:EV x k 9223372036854775807=Op.bytesLess x.k k:=by
   unfold EV;rw[show decide ((9223372036854775807:Int)<x.s)=false from decide_eq_false (by have:=hx.2;omega)];simp
  by_cases hb:Op.bytesLess x.k k=true
  ·rw[List.filter_cons_of_neg (by simp[hb])];unfold Bp;rw[e,if_pos hb];exact ih
  ·have hb':Op.bytesLess x.k k=false:=by simpa using hb
   unfold Bp;rw[e,if_neg hb]
   symm
   rw[KA];intro y hy;rcases As.1 hy with rfl|hy
   ·simp[hb']
   ·have h1:=hl.1 y hy;cases h2:Op.bytesLess y.k k with
    |false=>rfl
    |true=>
     exfalso;have h3:Op.bytesLess x.k y.k=true∨x.k=y.k:=by
      unfold CK EV at h1;rw[Bool.or_eq_true,Bool.and_eq_true]at h1;rcases h1 with h1|⟨h1, -⟩
      ·exact .inl h1
      ·exact .inr (of_decide_eq_true h1)
     rcases h3 with h3|h3
     ·rw[JQ _ _ _ h3 h2]at hb';cases hb'
     ·rw[h3,h2]at hb';cases hb'
theorem VV(p:AF→Bool): ∀ls:List (List AF),(ls.map λl=>l.filter p).flatten=ls.flatten.filter p
 |[]=>rfl
 |l::ls=>by rw[A4,Dc,VV p ls,Dc,J9]
def HR(x:AF):Ac:=(x.k,false,x.v)
def G0(to:AE)(x:AF):Bool:=decide (to=[])||Op.bytesLess x.k to
def HU(to:AE)(l:List AF):List AF:=l.takeWhile (G0 to)
def PC(s:AL):AL:={s with given:=s.given+1,seqs:=BV (s.given+1) s.seq s.seqs}
def J3(s:AL)(n:Int):Int×AL:=if(Am n s.seqs).isSome then(0,{s with seqs:=Cn n s.seqs})else(3,s)
theorem TN{w:World}{sb f:Nat}{s:AL}{m:AJ}{L:AH}(hO:AV sb f s m L)(hh:Holds L w)(h1:0≤s.given)(h2:s.given≤4611686018427387904):
  Cl Tryz.prog Qe [ptr sb] w λv w'=>v= .int .i64 (s.given+1)∧ ∃L',AV sb f (PC s) m L'∧St w (keys L) L' w':=by
 have hS:=St.enter hh;have hO0:=hO;have hSL:=hS;obtain⟨sq,es,c,hsq,ha,hc,Lh,hvh,a,ca,La,hv,lv,Ll,hl,gv,Lg,hg,mb,Lm,hm,tm,et,ct,ks,ht,Lt,hts,LF,hF⟩:=hO;generalize keys _=T0 at hS⊢;refine iJ rfl ?_;(repeat(refine jt ⟨?_⟩;refine hS.q ?_;intro _ hS));refine jt ⟨?_⟩;refine AM.draw AK mixed (λw'=>St w T0 _ w') [14] [0,1,2,3,4,5,6,7,8,9,10,11,12,13,14] AD hS.drew ?_;have hS:=hS.drew;refine jr ⟨?_⟩;refine St.mapSet AK Bn.i64 rfl rfl Em hS (v:=s.seq) hsq ?_
 intro es2 c2 w2 hsq2 hS;(repeat(refine jt ⟨?_⟩;refine hS.q ?_;intro _ hS));refine jt ⟨?_⟩;exact⟨rfl,_,AV.mk (s:=PC s) sq es2 c2 hsq2 ha hc Lh hvh a ca La hv lv Ll hl gv Lg hg mb Lm hm tm et ct ks ht Lt hts LF hF,hS⟩
theorem ZE{w:World}{sb f:Nat}{s:AL}{m:AJ}{L:AH}(hO:AV sb f s m L)(hh:Holds L w)(n:Int):
  Cl Tryz.prog VC [ptr sb,.int .i64 n] w λv w'=>v= .int .i64 (J3 s n).1∧ ∃L',AV sb f (J3 s n).2 m L'∧St w (keys L) L' w':=by
 have hS:=St.enter hh;have hO0:=hO;have hSL:=hS;obtain⟨sq,es,c,hsq,ha,hc,Lh,hvh,a,ca,La,hv,lv,Ll,hl,gv,Lg,hg,mb,Lm,hm,tm,et,ct,ks,ht,Lt,hts,LF,hF⟩:=hO;generalize keys _=T0 at hS⊢;refine i6 rfl ?_;unfold J3;(repeat(refine jt ⟨?_⟩;refine hS.q ?_;intro _ hS));refine jt ⟨?_⟩;have hlk:((Am n s.seqs).map AY).getD (.int .i64 0)= .int .i64 ((Am n s.seqs).getD 0):=by cases Am n s.seqs<;>rfl
 refine IS AK Bn.i64 rfl rfl Em rfl (kvs:=s.seqs) (λw' hw'=>⟨es,c,by subst hw';exact hS.mem (b:=sq),hsq.of⟩) ?_;simp only[hlk];cases hk:(Am n s.seqs).isSome with
 |true=>
  rw[if_pos rfl];(repeat(refine jt ⟨?_⟩;refine hS.q ?_;intro _ hS));refine jt ⟨?_⟩;refine St.mapDel AK Bn.i64 rfl rfl Em hS hsq ?_;intro es2 c2 w5 hsq2 hS;(repeat(refine jt ⟨?_⟩;refine hS.q ?_;intro _ hS));refine jt ⟨?_⟩;exact⟨rfl,_,AV.mk (s:={s with seqs:=Cn n s.seqs}) sq es2 c2 hsq2 ha hc Lh hvh a ca La hv lv Ll hl gv Lg hg mb Lm hm tm et ct ks ht Lt hts LF hF,hS⟩
 |false=>
  rw[if_neg AB];(repeat(refine jt ⟨?_⟩;refine hS.q ?_;intro _ hS));refine jt ⟨?_⟩;exact⟨rfl,_,hO0,hS⟩
def DW(s:AL)(m:AJ)(n:Int):Int×Int:=if(s.dead||m.off)=true then(0,7)else match Am n s.seqs with|none=>(0,3)|some q=>(q,0)
def IC(s:AL)(m:AJ):AL:=if(s.dead||m.off)=true then{s with dead:=true}else s
theorem Ko{s:AL}{m:AJ}(_h:(s.dead||m.off)=true):Dl s m 7=(7,{s with dead:=true}):=by
 unfold Dl;rw[if_pos AB]
theorem Tq{w:World}{sb f:Nat}{s:AL}{m:AJ}{L:AH}(hO:AV sb f s m L)(hh:Holds L w)(n:Int):
  Cl Tryz.prog o7 [ptr sb,.int .i64 n] w λv w'=>v= .tuple ⟨[.int .i64 (DW s m n).1,.int .i64 (DW s m n).2]⟩∧ ∃L',AV sb f (IC s m) m L'∧St w (keys L) L' w':=by
 have hS:=St.enter hh;refine iL rfl ?_;unfold DW IC;refine jq ⟨?_⟩;refine(JL hO hS.holds).mono ?_;rintro _ w1⟨rfl,hS'⟩;have hS:=hS.call hS';cases hd:(s.dead||m.off)with
 |true=>
  rw[if_pos rfl,if_pos rfl];refine jq ⟨?_⟩;refine(Hb hO hS.holds 7).mono ?_;rw[Ko hd];rintro _ w2⟨rfl,L2,hO2,hS'⟩;have hS:=hS.call hS';refine jq ⟨?_⟩;exact⟨rfl,L2,hO2,hS⟩
 |false=>
  rw[if_neg AB,if_neg AB];have hS0:=hS;have hO0:=hO;obtain⟨sq,es,c,hsq,ha,hc,Lh,hvh,a,ca,La,hv,lv,Ll,hl,gv,Lg,hg,mb,Lm,hm,tm,et,ct,ks,ht,Lt,hts,LF,hF⟩:=hO;generalize keys _=T0 at hS⊢;(repeat(refine jt ⟨?_⟩;refine hS.q ?_;intro _ hS));refine jt ⟨?_⟩;have hlk:((Am n s.seqs).map AY).getD (.int .i64 0)= .int .i64 ((Am n s.seqs).getD 0):=by cases Am n s.seqs<;>rfl
  refine IS AK Bn.i64 rfl rfl Em rfl (kvs:=s.seqs) (λw' hw'=>⟨es,c,by subst hw';exact hS.mem (b:=sq),hsq.of⟩) ?_;simp only[hlk];cases hk:Am n s.seqs with
  |some q=>
   simp only[Option.isSome_some];(repeat(refine jt ⟨?_⟩;refine hS.q ?_;intro _ hS));refine jt ⟨?_⟩;exact⟨rfl,_,hO0,hS⟩
  |none=>
   simp only[I0];(repeat(refine jt ⟨?_⟩;refine hS.q ?_;intro _ hS));refine jt ⟨?_⟩;exact⟨rfl,_,hO0,hS⟩
abbrev Ri:String:= "internal/strconv.uint64pow10"
structure Bw(w:World)(T:List Nat):Prop where
 err:H3 w
 tab:F1 w
 e0:Mi∉T
 e1:Mj∉T
 pow: ∀g,Tryz.prog.globalNamed Ri=some g→g∉T
theorem F1.keepT{w0 w:World}{T:List Nat}{H:AH}(h:F1 w0)(hS:St w0 T H w)(hT: ∀g,Tryz.prog.globalNamed Ri=some g→g∉T):F1 w∧ ∀g,Tryz.prog.globalNamed Ri=some g→g<w0.heap.size:=by
 unfold F1 Lib.TabIs World.var? at*;cases hg:Tryz.prog.globalNamed "internal/strconv.uint64pow10" with
 |none=>simp[hg]at h
 |some g=>
  simp only[hg,Option.bind_some]at h⊢;have hlt:g<w0.heap.size:=by
   rcases Nat.lt_or_ge g w0.heap.size with h'|h'
   ·exact h'
   ·rw[Array.getElem?_eq_none h']at h;simp at h
  refine⟨?_,λg' e=>by cases e;exact hlt⟩;rw[hS.old g hlt (hT g hg)];exact h
theorem Bw.keep{w0 w:World}{T:List Nat}{H:AH}(h:Bw w0 T)(hS:St w0 T H w):Bw w T:=⟨h.err.keep hS h.e0 h.e1,(h.tab.keepT hS h.pow).1,h.e0,h.e1,h.pow⟩
theorem T6{w:World}{b:Nat}{v:Value}(h:w.cell? ⟨b,0,none⟩=some v):b<w.heap.size:=by
 rcases Nat.lt_or_ge b w.heap.size with h'|h'
 ·exact h'
 ·simp[World.cell?,Array.getElem?_eq_none h']at h
theorem Bw.step{w0 w:World}{T:List Nat}{H:AH}(h:Bw w0 T)(hS:St w0 T H w):Bw w (keys H):=by
 have hk: ∀b,b<w0.heap.size→b∉T→b∉keys H:=λb h1 h2 h3=>by
  unfold keys at h3;obtain⟨p,hp,rfl⟩:=BU.1 h3;exact h2 (hS.fresh p hp h1)
 obtain⟨⟨_,_,e0⟩,⟨_,_,e1⟩⟩:=h.err;exact⟨h.err.keep hS h.e0 h.e1,(h.tab.keepT hS h.pow).1,hk _ (T6 e0) h.e0,hk _ (T6 e1) h.e1,λg hg=>hk _ ((h.tab.keepT hS h.pow).2 g hg) (h.pow g hg)⟩
theorem Bw.sub{w:World}{T T':List Nat}(h:Bw w T)(hs: ∀b,b∈T'→b∈T):Bw w T':=⟨h.err,h.tab,λx=>h.e0 (hs _ x),λx=>h.e1 (hs _ x),λg hg x=>h.pow g hg (hs _ x)⟩
theorem _root_.Go.Eng.St.notin{w0 w:World}{T:List Nat}{H L:AH}{F:AH→AH}(hS:St w0 T H w) [hc:Chunk H L F]{b:Nat}(hb:b<w0.heap.size)(hT:b∉T):b∉keys L:=by
 intro h;obtain⟨A,B,h1,_⟩:=hc.at_;unfold keys at h;obtain⟨p,hp,rfl⟩:=BU.1 h;exact hT (hS.fresh p (by rw[h1];simp[hp]) hb)
theorem Cj.snoc{ks:List (Int×Nat)}{ts:List (Int×List AF)}{M:AH}(h:Cj ks ts M){n:Int}{tb:Nat}{l:List AF}{L:AH}(ht:JN tb l L):Cj (ks++[(n,tb)]) (ts++[(n,l)]) (M++L):=by
 induction h with
 |nil=>have:=Cj.cons (n:=n) ht .nil;rwa[BT]at this
 |cons h' _ ih=>rw[Aj];exact .cons h' ih
theorem W4{α:Type}: ∀(cs:List α)(n:Int)(c:α),Aq n (cs++[c])=Aq n cs++[(n+cs.length,c)]
 |[],n,c=>by simp[Aq]
 |d::cs,n,c=>by
  rw[D1,Aq,W4 cs (n+1) c,Aq,D1];rw[show n+1+(cs.length:Int)=n+((d::cs).length:Nat) by rw[Ah];omega]
theorem LJ{α:Type}: ∀(cs:List α)(n:Int)(k:Int),k∈(Aq n cs).map (·.1)↔n≤k∧k<n+cs.length
 |[],n,k=>by simp[Aq]
 |c::cs,n,k=>by
  rw[Aq,A4,As,LJ cs (n+1) k,Ah];omega
theorem s7{m:AJ}{n:Int}{cs:List (List AF)}{i:Nat}{mi:AJ}(h:Bh m n cs=Bh mi (n+i) (cs.drop i))(hi:i<cs.length):
  Bh m n cs=if(CE mi (Aw (n+i)) (B5 cs[i])).1≠0 then CE mi (Aw (n+i)) (B5 cs[i])else Bh (CE mi (Aw (n+i)) (B5 cs[i])).2 (n+(i+1:Nat)) (cs.drop (i+1)):=by
 rw[h,FM hi];show(if _ then _ else _)=_;rw[show n+(i:Int)+1=n+((i+1:Nat):Int) by omega]
set_option maxRecDepth 8000 in
theorem aC{w:World}{sb f A:Nat}{m:AJ}{L:AH}(hF:BI f m L)(hh:Holds L w)(hc2:w.cell? ⟨sb,2,none⟩=some (ptr f))(hsb:sb∉keys L)(hG:Bw w (keys L))(lev n:Int)(hn:0≤n∧n≤2305843009213693952)
  {a:Option Addr}{c:Nat}{es:List AF}(ha:Arr w (keys L) a (es.flatMap AU))(hc:es.length≤c)(hes:es.length≤8388608)(hp: ∀p∈AR 64 es,B8 p)(hB:FB A m)(hA:A+3*es.length≤4611686018427387904):
  Cl Tryz.prog U9 [ptr sb,.int .i64 lev,.int .i64 n,.slice a es.length c] w λv w'=>((Bh m n (AR 64 es)).1≠0∧v= .tuple ⟨[.slice none 0 0,.map none,.int .i64 (Bh m n (AR 64 es)).1]⟩∧ ∃L',BI f (Bh m n (AR 64 es)).2 L'∧St w (keys L) L' w')∨
   ((Bh m n (AR 64 es)).1=0∧ ∃a2 c2 Lf tm et ct ks Lt L',v= .tuple ⟨[.slice a2 (AR 64 es).length c2,.map (some tm),.int .i64 0]⟩∧AT BE 2 a2 (AR 64 es).length c2 ((Bx lev (Aq n (AR 64 es))).flatMap Ad) Lf∧
    MapC AY (λb:Nat=>ptr b) et ct ks∧Cj ks (Aq n (AR 64 es)) Lt∧BI f (Bh m n (AR 64 es)).2 L'∧St w (keys L) ((tm,.map et ct)::(Lf++(Lt++L'))) w'):=by
 have hS:=St.enter hh;have hsz:sb<w.heap.size:=World.block_lt_of_cell? w _ hc2;generalize hT:keys L=T0 at hS hsb hG ha⊢;obtain⟨P,hP⟩: ∃P,AR 64 es=P:=⟨_,rfl⟩;have hpl:P.length=(es.length+64-1) / 64:=by rw[←hP];exact Jj 64 es
 have hPg: ∀i(hi:i<P.length),i*64<es.length∧P[i]=(es.drop (i*64)).take 64:=by
  subst hP;intro i hi;exact⟨Oy AA hi,NE hi⟩
 rw[hP]at hp⊢;refine dN rfl ?_;refine EF.seq ?_;(repeat(refine jt ⟨?_⟩;refine hS.q ?_;intro _ hS));refine jt ⟨?_⟩;refine hS.al ?_;intro b4 w1 _ hS;(repeat(refine jt ⟨?_⟩;refine hS.q ?_;intro _ hS));refine jt ⟨?_⟩;refine hS.al ?_;intro b5 w2 _ hS;(repeat(refine jt ⟨?_⟩;refine hS.q ?_;intro _ hS));refine jt ⟨?_⟩;refine hS.al ?_;intro b6 w3 _ hS;(repeat(refine jt ⟨?_⟩;refine hS.q ?_;intro _ hS));refine jt ⟨?_⟩
 refine hS.al ?_;intro b8 w4 _ hS;(repeat(refine jt ⟨?_⟩;refine hS.q ?_;intro _ hS));refine jt ⟨?_⟩;refine hS.al ?_;intro b9 w5 _ hS;(repeat(refine jt ⟨?_⟩;refine hS.q ?_;intro _ hS));refine jt ⟨?_⟩;refine hS.al ?_;intro b10 w6 _ hS;(repeat(refine jt ⟨?_⟩;refine hS.q ?_;intro _ hS));refine jt ⟨?_⟩;refine EF.seq ?_;(repeat(refine jt ⟨?_⟩;refine hS.q ?_;intro _ hS));refine jt ⟨?_⟩;refine hS.al ?_;intro b11 w7 _ hS
 (repeat(refine jt ⟨?_⟩;refine hS.q ?_;intro _ hS));refine jt ⟨?_⟩;refine EF.seq ?_;(repeat(refine jt ⟨?_⟩;refine hS.q ?_;intro _ hS));refine jt ⟨?_⟩;refine hS.al ?_;intro mm w8 _ hS;(repeat(refine jt ⟨?_⟩;refine hS.q ?_;intro _ hS));refine jt ⟨?_⟩;refine hS.al ?_;intro b12 w9 _ hS;(repeat(refine jt ⟨?_⟩;refine hS.q ?_;intro _ hS));refine jt ⟨?_⟩;refine EF.rangeB rfl ?_;(repeat(refine jt ⟨?_⟩;refine hS.q ?_;intro _ hS));refine jt ⟨?_⟩
 refine(Sd (m:=64) AC).mono ?_;rintro _ w10⟨b2,b3,rfl,hS'⟩;have hS:=hS.callNew hS';(repeat(refine jt ⟨?_⟩;refine hS.q ?_;intro _ hS));refine jt ⟨?_⟩;refine⟨_,[ptr b2,ptr b3],T1,rfl,?_⟩;intro lo hy;have hS:=hS.rng (.deferred (some [])) (lo .ready none);generalize hlp:w10.heap.size+1=lp at hS hy⊢;generalize hD:w10.heap.size=D at hS⊢;generalize(w10.alloc (.deferred (some []))).alloc (lo .ready none)=w11 at hS⊢
 have hst0:St w T0 ((lp,lo .ready none)::(D,.deferred (some []))::(b3,.cells ⟨[.int .i64 64]⟩ BX (0,0))::(b2,.cells ⟨[.slice a es.length c]⟩ GR (0,0))::(b12,.cells ⟨[.map (some mm)]⟩ IA (0,0))::(mm,.map #[] 0)::(b11,.cells ⟨[.slice none 0 0]⟩ Kj (0,0))::
   (b10,.cells ⟨[.int .i64 0]⟩ Pr (0,0))::(b9,.cells ⟨[.map none]⟩ IA (0,0))::(b8,.cells ⟨[.slice none 0 0]⟩ Kj (0,0))::(b6,.cells ⟨[.int .i64 (n+(0:Nat))]⟩ BX (0,0))::(b5,.cells ⟨[.int .i64 lev]⟩ BX (0,0))::(b4,.cells ⟨[ptr sb]⟩ Pp (0,0))::([]++([]++L))) w11:=by rw[show n+((0:Nat):Int)=n by omega];exact hS
 clear hS hS';refine Cl.mono (Sc (g:=(a.getD ⟨0,0,none⟩).block) (o:=(a.getD ⟨0,0,none⟩).off) (m:=64) (a:=a) AC AA hc ?_
  (λi w'=>i≤P.length∧ ∃a11 c11 Lf et ct ks Lt mi Li,AT BE 2 a11 i c11 ((Bx lev (Aq n (P.take i))).flatMap Ad) Lf∧MapC AY (λb:Nat=>ptr b) et ct ks∧Cj ks (Aq n (P.take i)) Lt∧BI f mi Li∧FB (A+3*i) mi∧Bh m n P=Bh mi (n+i) (P.drop i)∧
   St w T0 ((lp,lo .ready none)::(D,.deferred (some []))::(b3,.cells ⟨[.int .i64 64]⟩ BX (0,0))::(b2,.cells ⟨[.slice a es.length c]⟩ GR (0,0))::(b12,.cells ⟨[.map (some mm)]⟩ IA (0,0))::(mm,.map et ct)::(b11,.cells ⟨[.slice a11 i c11]⟩ Kj (0,0))::
   (b10,.cells ⟨[.int .i64 0]⟩ Pr (0,0))::(b9,.cells ⟨[.map none]⟩ IA (0,0))::(b8,.cells ⟨[.slice none 0 0]⟩ Kj (0,0))::(b6,.cells ⟨[.int .i64 (n+(i:Nat))]⟩ BX (0,0))::(b5,.cells ⟨[.int .i64 lev]⟩ BX (0,0))::(b4,.cells ⟨[ptr sb]⟩ Pp (0,0))::(Lf++(Lt++Li))) w')
  (λw'=>(Bh m n P).1≠0∧ ∃et ct a11 i c11 z R Li,BI f (Bh m n P).2 Li∧St w T0 ((lp,lo .done (some .ret))::(D,.deferred (some []))::(b3,.cells ⟨[.int .i64 64]⟩ BX (0,0))::(b2,.cells ⟨[.slice a es.length c]⟩ GR (0,0))::(b12,.cells ⟨[.map (some mm)]⟩ IA (0,0))::(mm,.map et ct)::(b11,.cells ⟨[.slice a11 i c11]⟩ Kj (0,0))::
   (b10,.cells ⟨[.int .i64 (Bh m n P).1]⟩ Pr (0,0))::(b9,.cells ⟨[.map none]⟩ IA (0,0))::(b8,.cells ⟨[.slice none 0 0]⟩ Kj (0,0))::(b6,.cells ⟨[.int .i64 (z)]⟩ BX (0,0))::(b5,.cells ⟨[.int .i64 lev]⟩ BX (0,0))::(b4,.cells ⟨[ptr sb]⟩ Pp (0,0))::(R++Li)) w')
  ?_ ?_ ?_ ?_ ⟨Ag _,none,0,[], #[],0,[],[],m,L,AT.nil,⟨rfl,by simp[E3]⟩,.nil,hF,hB.mono AA,by rw[List.drop_zero];simp,hst0⟩) ?_
 ·intro hl0;obtain⟨g,off,rfl, -⟩:=FL ha hl0
  rfl
 ·rintro i w'⟨-,a11,c11,Lf,et,ct,ks,Lt,mi,Li, -, -, -, -, -, -,hS⟩;have:=hS.mem (b:=b2);simp[World.cell?,this]
 ·rintro i w'⟨-,a11,c11,Lf,et,ct,ks,Lt,mi,Li, -, -, -, -, -, -,hS⟩;have:=hS.mem (b:=b3);simp[World.cell?,this]
 ·rintro i w'⟨h1,a11,c11,Lf,et,ct,ks,Lt,mi,Li,h2,h3,h4,h5,h6,h7,hS⟩;exact⟨h1,a11,c11,Lf,et,ct,ks,Lt,mi,Li,h2,h3,h4,h5,h6,h7,hS.drew⟩
 ·rintro i w' hi⟨hile,a11,c11,Lf,et,ct,ks,Lt,mi,Li,hV,hM,hTb,hFi,hBi,hlay,hS⟩K hK hKs;refine hy _ w' K (hS.mem (b:=lp)) ?_;repeat(first|refine Ao.run AK ?_|((first|refine jA ?_ ?_|refine jB ?_ ?_|refine jC ?_ ?_|refine jD ?_ ?_);omega)|refine jE rfl ?_|refine jF (by first|omega|exact Bc AK rfl rfl|decide) ?_|(refine jG ?_;first|with_reducible (first|apply jH|apply jI|apply jJ|apply jK|apply jL)|refine jM AA ?_|refine jN AA ?_|with_reducible refine jM rfl ?_|refine jM (by first|assumption|decide) ?_|refine jN (by first|assumption|decide) ?_)|refine jO (λ_=>AD) ?_)
  refine⟨hS.mem (b:=lp),?_⟩;have hS:=hS.put (b:=lp) (lo .busy none);generalize w'.putObj lp (lo .busy none)=w12 at hS⊢;have hS:=hS;obtain⟨g,off,rfl, -⟩:=FL ha (show 0<es.length by omega);have hiP:i<P.length:=AA;obtain⟨-,hPi⟩:=hPg i hiP;have hpt:B8 P[i]:=hp _ (CW hiP);have hstep:=s7 hlay hiP;have hsucc:P.take (i+1)=P.take i++[P[i]]:=Bq hiP;have hmn:min 64 (es.length-i*64)=P[i].length:=by rw[hPi,Ba,D3]
  have hpa: ∀{w2:World}{H:AH},St w T0 H w2→Arr w2 [] (some ⟨g,off+i*64*4,none⟩) (P[i].flatMap AU):=by
   intro w2 H h;have h1:=Ow (h.arrOld ha) hc (p:=i*64) (n:=min 64 (es.length-i*64)) AA;unfold CU at h1;rw[if_neg AA]at h1;have e:(es.drop (i*64)).take (min 64 (es.length-i*64))=P[i]:=by
    rw[hPi,hmn,hPi,Ba,←List.take_eq_take_min]
   rw[e]at h1;exact h1.sub AB
  rw[hmn];generalize P[i]=p at hpt hstep hsucc hpa;repeat(first|refine Ao.run AK ?_|((first|refine jA ?_ ?_|refine jB ?_ ?_|refine jC ?_ ?_|refine jD ?_ ?_);omega)|refine jE rfl ?_|refine jF (by first|omega|exact Bc AK rfl rfl|decide) ?_|(refine jG ?_;first|with_reducible (first|apply jH|apply jI|apply jJ|apply jK|apply jL)|refine jM AA ?_|refine jN AA ?_|with_reducible refine jM rfl ?_|refine jM (by first|assumption|decide) ?_|refine jN (by first|assumption|decide) ?_)|refine jO (λ_=>AD) ?_)
  refine Cl.mono (TQ (hpa hS) (AW _) hpt) ?_;rintro _ w13⟨rfl,hS'⟩;have hS:=hS.call0 hS';have htl:=hpt.bytes;have hop:=λ(w:World)=>TR (w:=w) hpt;generalize B5 p=t at htl hop hstep⊢;repeat(first|refine Ao.run AK ?_|((first|refine jA ?_ ?_|refine jB ?_ ?_|refine jC ?_ ?_|refine jD ?_ ?_);omega)|refine jE rfl ?_|refine jF (by first|omega|exact Bc AK rfl rfl|decide) ?_|(refine jG ?_;first|with_reducible (first|apply jH|apply jI|apply jJ|apply jK|apply jL)|refine jM AA ?_|refine jN AA ?_|with_reducible refine jM rfl ?_|refine jM (by first|assumption|decide) ?_|refine jN (by first|assumption|decide) ?_)|refine jO (λ_=>AD) ?_|refine hS.ld rfl ?_|refine hS.ldn rfl ?_|(refine hS.q ?_;intro _ hS))
  refine Ao.draw AK mixed (λw'=>St w T0 _ w') [4,5] [0,1,3,2,4,5] AD hS.drew ?_;have hS:=hS.drew;refine jr ⟨?_⟩;refine Cl.mono (Pu (n:=n+i) ⟨AA,AA⟩ (hG.keep hS).tab) ?_;rintro _ w14⟨rfl,hS'⟩;have hS:=hS.call0 hS';refine Ae.mk hS ?_;refine jr ⟨?_⟩;refine Cl.mono (VR hFi (hS.part (L:=Li)) (hS.oldCell hsb hc2) (hS.notin hsz hsb) (Aw (n+i)) t AA hBi AA) ?_;rintro _ w15⟨rfl,Li2,hF2,hS'⟩;have hS:=hS.call (L:=Li) hS'
  have hB2:=hBi.file (Aw (n+i)) t AA;generalize CE mi (Aw (n+i)) t=fm at hF2 hB2 hstep⊢;obtain⟨e,m2⟩:=fm;simp only at hF2 hB2 hstep⊢;by_cases he:e=0
  ·subst he;rw[if_neg AB]at hstep;repeat(first|refine Ao.run AK ?_|((first|refine jA ?_ ?_|refine jB ?_ ?_|refine jC ?_ ?_|refine jD ?_ ?_);omega)|refine jE rfl ?_|refine jF (by first|omega|exact Bc AK rfl rfl|decide) ?_|(refine jG ?_;first|with_reducible (first|apply jH|apply jI|apply jJ|apply jK|apply jL)|refine jM AA ?_|refine jN AA ?_|with_reducible refine jM rfl ?_|refine jM (by first|assumption|decide) ?_|refine jN (by first|assumption|decide) ?_)|refine jO (λ_=>AD) ?_|refine hS.ld rfl ?_|refine hS.ldn rfl ?_|(refine hS.q ?_;intro _ hS))
   refine Cl.mono (hop _) ?_;rintro _ w16⟨tb,Ltb,rfl,hTO,hS'⟩;have hS:=hS.callNew hS';repeat(first|refine Ao.run AK ?_|((first|refine jA ?_ ?_|refine jB ?_ ?_|refine jC ?_ ?_|refine jD ?_ ?_);omega)|refine jE rfl ?_|refine jF (by first|omega|exact Bc AK rfl rfl|decide) ?_|(refine jG ?_;first|with_reducible (first|apply jH|apply jI|apply jJ|apply jK|apply jL)|refine jM AA ?_|refine jN AA ?_|with_reducible refine jM rfl ?_|refine jM (by first|assumption|decide) ?_|refine jN (by first|assumption|decide) ?_)|refine jO (λ_=>AD) ?_|refine hS.ld rfl ?_|refine hS.ldn rfl ?_|(refine hS.q ?_;intro _ hS))
   refine hS.al ?_;intro b50 w17 _ hS;repeat(first|refine Ao.run AK ?_|((first|refine jA ?_ ?_|refine jB ?_ ?_|refine jC ?_ ?_|refine jD ?_ ?_);omega)|refine jE rfl ?_|refine jF (by first|omega|exact Bc AK rfl rfl|decide) ?_|(refine jG ?_;first|with_reducible (first|apply jH|apply jI|apply jJ|apply jK|apply jL)|refine jM AA ?_|refine jN AA ?_|with_reducible refine jM rfl ?_|refine jM (by first|assumption|decide) ?_|refine jN (by first|assumption|decide) ?_)|refine jO (λ_=>AD) ?_|refine hS.ld rfl ?_|refine hS.ldn rfl ?_|(refine hS.q ?_;intro _ hS))
   refine St.app (sz:=2) (m:=1) AK rfl rfl rfl rfl hS hV (news:=Ad (lev,n+i)) rfl (by have:=hS.arr (b:=b50) (T':=[]) AB;exact this) rfl (by show(_+_)*16≤_;omega) AA ?_;intro a12 c12 Lf2 w18 hV2 hS;repeat(first|refine Ao.run AK ?_|((first|refine jA ?_ ?_|refine jB ?_ ?_|refine jC ?_ ?_|refine jD ?_ ?_);omega)|refine jE rfl ?_|refine jF (by first|omega|exact Bc AK rfl rfl|decide) ?_|(refine jG ?_;first|with_reducible (first|apply jH|apply jI|apply jJ|apply jK|apply jL)|refine jM AA ?_|refine jN AA ?_|with_reducible refine jM rfl ?_|refine jM (by first|assumption|decide) ?_|refine jN (by first|assumption|decide) ?_)|refine jO (λ_=>AD) ?_|refine hS.ld rfl ?_|refine hS.ldn rfl ?_|(refine hS.q ?_;intro _ hS))
   refine St.mapSet AK Bn.i64 rfl rfl Em hS (k:=n+(i:Int)) (v:=tb) hM ?_;intro et2 ct2 w19 hM2 hS;repeat(first|refine Ao.run AK ?_|((first|refine jA ?_ ?_|refine jB ?_ ?_|refine jC ?_ ?_|refine jD ?_ ?_);omega)|refine jE rfl ?_|refine jF (by first|omega|exact Bc AK rfl rfl|decide) ?_|(refine jG ?_;first|with_reducible (first|apply jH|apply jI|apply jJ|apply jK|apply jL)|refine jM AA ?_|refine jN AA ?_|with_reducible refine jM rfl ?_|refine jM (by first|assumption|decide) ?_|refine jN (by first|assumption|decide) ?_)|refine jO (λ_=>AD) ?_|refine hS.ld rfl ?_|refine hS.ldn rfl ?_|(refine hS.q ?_;intro _ hS))
   have hS:=hS.sub (AS _ _);have hkk:=hTb.keys;have hkn:n+(i:Int)∉ks.map (·.1):=by
    rw[hkk,LJ,Ba,IM hile];omega
   rw[Oa hkn]at hM2;have hnum:Aq n (P.take (i+1))=Aq n (P.take i)++[(n+(i:Int),p)]:=by
    rw[hsucc,W4,Ba,IM hile]
   have hTb2:=hTb.snoc (n:=n+(i:Int)) hTO;rw[←hnum]at hTb2;have hV3:AT BE 2 a12 (i+1) c12 ((Bx lev (Aq n (P.take (i+1)))).flatMap Ad) Lf2:=by
    rw[hnum];unfold Bx at hV2⊢;rw[A7,Hn];exact hV2
   have hsp:=hS.put (b:=lp) (lo .ready none);refine⟨hS.mem (b:=lp),hK _ ⟨hiP,a12,c12,Lf2,et2,ct2,_,Lt++Ltb,m2,Li2,hV3,hM2,hTb2,hF2,hB2.mono AA,hstep,?_⟩⟩;rw[show n+((i+1:Nat):Int)=n+(i:Int)+1 by omega];refine St.perm hsp ?_
   repeat refine Dd.trans (List.Perm.cons _ ?_)
   refine(GX Ltb Lf2 _).trans (List.Perm.append_left _ ?_);rw[Aj];exact GX Ltb Lt _
  ·rw[if_pos he]at hstep;repeat(first|refine Ao.run AK ?_|((first|refine jA ?_ ?_|refine jB ?_ ?_|refine jC ?_ ?_|refine jD ?_ ?_);omega)|refine jE rfl ?_|refine jF (by first|omega|exact Bc AK rfl rfl|decide) ?_|(refine jG ?_;first|with_reducible (first|apply jH|apply jI|apply jJ|apply jK|apply jL)|refine jM AA ?_|refine jN AA ?_|with_reducible refine jM rfl ?_|refine jM (by first|assumption|decide) ?_|refine jN (by first|assumption|decide) ?_)|refine jO (λ_=>AD) ?_|refine hS.ld rfl ?_|refine hS.ldn rfl ?_|(refine hS.q ?_;intro _ hS))
   have hsp:=hS.put (b:=lp) (lo .done (some .ret));refine⟨hS.mem (b:=lp),hKs _ ⟨by rw[hstep];exact he,et,ct,a11,i,c11,n+(i:Int),Lf++Lt,Li2,by rw[hstep];exact hF2,?_⟩⟩;rw[Aj,hstep];exact hsp
 ·rintro _ w12(⟨i,hi,hile,a11,c11,Lf,et,ct,ks,Lt,mi,Li,hV,hM,hTb,hFi,hBi,hlay,hS⟩|⟨hne,et,ct,a11,i,c11,z,R,Li,hFi,hS⟩)
  ·obtain rfl:i=P.length:=AA;rw[Bz]at hV hTb;rw[II]at hlay;refine⟨.ready,none,hS.mem (b:=lp),AC,?_⟩;have hS:=hS.put (b:=lp) (lo .exhausted none);generalize w12.putObj lp (lo .exhausted none)=w13 at hS⊢;repeat(first|refine Ao.run AK ?_|((first|refine jA ?_ ?_|refine jB ?_ ?_|refine jC ?_ ?_|refine jD ?_ ?_);omega)|refine jE rfl ?_|refine jF (by first|omega|exact Bc AK rfl rfl|decide) ?_|(refine jG ?_;first|with_reducible (first|apply jH|apply jI|apply jJ|apply jK|apply jL)|refine jM AA ?_|refine jN AA ?_|with_reducible refine jM rfl ?_|refine jM (by first|assumption|decide) ?_|refine jN (by first|assumption|decide) ?_)|refine jO (λ_=>AD) ?_)
   have hS0:=hS.drew;have hS:=hS0.sub (.cons_cons _ (.cons_cons _ (.cons_cons _ (.cons_cons _ (.cons_cons _ (.cons_cons _ (.cons_cons _ (.cons_cons _ (.cons_cons _ (AS _ _))))))))));refine Ao.draw AK mixed (λw'=>St w T0 _ w') [3,4] [0,1,2,3,4] AD hS ?_;refine jr ⟨?_⟩;have hS:=hS0;refine hS.q ?_;intro w14 hS;have hS:=hS;refine Ae.mk (hS.sub (.cons_cons _ (.cons_cons _ (.cons_cons _ (.cons_cons _ (.cons_cons _ (.cons_cons _ (.cons_cons _ (.cons_cons _ (.cons_cons _ (AS _ _))))))))))) ?_
   refine jr ⟨?_⟩;repeat(first|refine Ao.run AK ?_|((first|refine jA ?_ ?_|refine jB ?_ ?_|refine jC ?_ ?_|refine jD ?_ ?_);omega)|refine jE rfl ?_|refine jF (by first|omega|exact Bc AK rfl rfl|decide) ?_|(refine jG ?_;first|with_reducible (first|apply jH|apply jI|apply jJ|apply jK|apply jL)|refine jM AA ?_|refine jN AA ?_|with_reducible refine jM rfl ?_|refine jM (by first|assumption|decide) ?_|refine jN (by first|assumption|decide) ?_)|refine jO (λ_=>AD) ?_|refine hS.ld rfl ?_|refine hS.ldn rfl ?_|(refine hS.q ?_;intro _ hS))
   refine⟨(by assumption:St w T0 _ _).mem (b:=D),?_⟩;have hS:=hS.put (b:=D) (.deferred none);generalize World.putObj _ D (.deferred none)=w15 at hS⊢;have hS:=hS;repeat(first|refine Ao.run AK ?_|((first|refine jA ?_ ?_|refine jB ?_ ?_|refine jC ?_ ?_|refine jD ?_ ?_);omega)|refine jE rfl ?_|refine jF (by first|omega|exact Bc AK rfl rfl|decide) ?_|(refine jG ?_;first|with_reducible (first|apply jH|apply jI|apply jJ|apply jK|apply jL)|refine jM AA ?_|refine jN AA ?_|with_reducible refine jM rfl ?_|refine jM (by first|assumption|decide) ?_|refine jN (by first|assumption|decide) ?_)|refine jO (λ_=>AD) ?_|refine hS.ld rfl ?_|refine hS.ldn rfl ?_|(refine hS.q ?_;intro _ hS))
   refine .inr ⟨by rw[hlay];rfl,a11,c11,Lf,mm,et,ct,ks,Lt,Li,rfl,hV,hM,hTb,by rw[hlay];exact hFi,?_⟩;exact hS.sub (.cons _ (.cons _ (.cons _ (.cons _ (.cons _ (.cons_cons _ (.cons _ (.cons _ (.cons _ (.cons _ (.cons _ (.cons _ (.cons _ (List.Sublist.refl _))))))))))))))
  ·refine⟨.done,some .ret,hS.mem (b:=lp),AC,?_⟩;have hS:=hS.put (b:=lp) (lo .exhausted (some .ret));generalize w12.putObj lp (lo .exhausted (some .ret))=w13 at hS⊢;refine⟨hS.mem (b:=D),?_⟩;have hS:=hS.put (b:=D) (.deferred none);generalize w13.putObj D (.deferred none)=w14 at hS⊢;repeat(first|refine Ao.run AK ?_|((first|refine jA ?_ ?_|refine jB ?_ ?_|refine jC ?_ ?_|refine jD ?_ ?_);omega)|refine jE rfl ?_|refine jF (by first|omega|exact Bc AK rfl rfl|decide) ?_|(refine jG ?_;first|with_reducible (first|apply jH|apply jI|apply jJ|apply jK|apply jL)|refine jM AA ?_|refine jN AA ?_|with_reducible refine jM rfl ?_|refine jM (by first|assumption|decide) ?_|refine jN (by first|assumption|decide) ?_)|refine jO (λ_=>AD) ?_|refine hS.ld rfl ?_|refine hS.ldn rfl ?_|(refine hS.q ?_;intro _ hS))
   refine .inl ⟨hne,rfl,Li,hFi,?_⟩;exact hS.sub (.cons _ (.cons _ (.cons _ (.cons _ (.cons _ (.cons _ (.cons _ (.cons _ (.cons _ (.cons _ (.cons _ (.cons _ (.cons _ (Ai _ _))))))))))))))
end Go.Proofs.YtkgibdhpijdbfaaGreatDoor
