/- Texts of this claim, one behind the other. -/
import Derived.Test.YtkgibdhpijdbfaaGreatDoorZ30
import Derived.Test.YtkgibdhpijdbfaaGreatDoorZ29
import Derived.Test.YtkgibdhpijdbfaaGreatDoorZ22
import Derived.Test.YtkgibdhpijdbfaaGreatDoorZ18
set_option linter.unusedVariables false
set_option linter.unusedSimpArgs false
set_option maxHeartbeats 16000000
namespace Go.Proofs.YtkgibdhpijdbfaaGreatDoor
open Go Go.Eng Go.Proofs
theorem _root_.Go.Eng.St.notin{w0 w:World}{T:List Nat}{H L:AH}{F:AH→AH}(hS:St w0 T H w) [hc:Chunk H L F]{b:Nat}(hb:b<w0.heap.size)(hT:b∉T):b∉keys L:=by
 intro h;obtain⟨A,B,h1,_⟩:=hc.at_;unfold keys at h;obtain⟨p,hp,rfl⟩:=BV.1 h;exact hT (hS.fresh p (by rw[h1];simp[hp]) hb)
theorem Cj.snoc{ks:List (Int×Nat)}{ts:List (Int×List AF)}{M:AH}(h:Cj ks ts M){n:Int}{tb:Nat}{l:List AF}{L:AH}(ht:JJ tb l L):Cj (ks++[(n,tb)]) (ts++[(n,l)]) (M++L):=by
 induction h with
 |nil=>have:=Cj.cons (n:=n) ht .nil;rwa[BU]at this
 |cons h' _ ih=>rw[Aj];exact .cons h' ih
theorem W2{α:Type}: ∀(cs:List α)(n:Int)(c:α),Ar n (cs++[c])=Ar n cs++[(n+cs.length,c)]
 |[],n,c=>by simp[Ar]
 |d::cs,n,c=>by
  rw[D3,Ar,W2 cs (n+1) c,Ar,D3];rw[show n+1+(cs.length:Int)=n+((d::cs).length:Nat) by rw[Ai];omega]
theorem LA{α:Type}: ∀(cs:List α)(n:Int)(k:Int),k∈(Ar n cs).map (·.1)↔n≤k∧k<n+cs.length
 |[],n,k=>by simp[Ar]
 |c::cs,n,k=>by
  rw[Ar,A4,As,LA cs (n+1) k,Ai];omega
theorem s6{m:AJ}{n:Int}{cs:List (List AF)}{i:Nat}{mi:AJ}(h:Bi m n cs=Bi mi (n+i) (cs.drop i))(hi:i<cs.length):
  Bi m n cs=if(CE mi (Aw (n+i)) (B5 cs[i])).1≠0 then CE mi (Aw (n+i)) (B5 cs[i])else Bi (CE mi (Aw (n+i)) (B5 cs[i])).2 (n+(i+1:Nat)) (cs.drop (i+1)):=by
 rw[h,FQ hi];show(if _ then _ else _)=_;rw[show n+(i:Int)+1=n+((i+1:Nat):Int) by omega]
set_option maxRecDepth 8000 in
theorem Z6{w:World}{sb f A:Nat}{m:AJ}{L:AH}(hF:BI f m L)(hh:Holds L w)(hc2:w.cell? ⟨sb,2,none⟩=some (ptr f))(hsb:sb∉keys L)(hG:Bp w (keys L))(lev n:Int)(hn:0≤n∧n≤2305843009213693952)
  {a:Option Addr}{c:Nat}{es:List AF}(ha:Arr w (keys L) a (es.flatMap AU))(hc:es.length≤c)(hes:es.length≤8388608)(hp: ∀p∈AR 64 es,B8 p)(hB:FB A m)(hA:A+3*es.length≤4611686018427387904):
  Cl Tryz.prog U6 [ptr sb,.int .i64 lev,.int .i64 n,.slice a es.length c] w λv w'=>((Bi m n (AR 64 es)).1≠0∧v= .tuple ⟨[.slice none 0 0,.map none,.int .i64 (Bi m n (AR 64 es)).1]⟩∧ ∃L',BI f (Bi m n (AR 64 es)).2 L'∧St w (keys L) L' w')∨
   ((Bi m n (AR 64 es)).1=0∧ ∃a2 c2 Lf tm et ct ks Lt L',v= .tuple ⟨[.slice a2 (AR 64 es).length c2,.map (some tm),.int .i64 0]⟩∧AT BE 2 a2 (AR 64 es).length c2 ((Bx lev (Ar n (AR 64 es))).flatMap Ad) Lf∧
    MapC AY (λb:Nat=>ptr b) et ct ks∧Cj ks (Ar n (AR 64 es)) Lt∧BI f (Bi m n (AR 64 es)).2 L'∧St w (keys L) ((tm,.map et ct)::(Lf++(Lt++L'))) w'):=by
 have hS:=St.enter hh;have hsz:sb<w.heap.size:=World.block_lt_of_cell? w _ hc2;generalize hT:keys L=T0 at hS hsb hG ha⊢;obtain⟨P,hP⟩: ∃P,AR 64 es=P:=⟨_,rfl⟩;have hpl:P.length=(es.length+64-1) / 64:=by rw[←hP];exact Jd 64 es
 have hPg: ∀i(hi:i<P.length),i*64<es.length∧P[i]=(es.drop (i*64)).take 64:=by
  subst hP;intro i hi;exact⟨Ow AA hi,M9 hi⟩
 rw[hP]at hp⊢;refine dJ rfl ?_;refine ED.seq ?_;(repeat(refine jt ⟨?_⟩;refine hS.q ?_;intro _ hS));refine jt ⟨?_⟩;refine hS.al ?_;intro b4 w1 _ hS;(repeat(refine jt ⟨?_⟩;refine hS.q ?_;intro _ hS));refine jt ⟨?_⟩;refine hS.al ?_;intro b5 w2 _ hS;(repeat(refine jt ⟨?_⟩;refine hS.q ?_;intro _ hS));refine jt ⟨?_⟩;refine hS.al ?_;intro b6 w3 _ hS;(repeat(refine jt ⟨?_⟩;refine hS.q ?_;intro _ hS));refine jt ⟨?_⟩
 refine hS.al ?_;intro b8 w4 _ hS;(repeat(refine jt ⟨?_⟩;refine hS.q ?_;intro _ hS));refine jt ⟨?_⟩;refine hS.al ?_;intro b9 w5 _ hS;(repeat(refine jt ⟨?_⟩;refine hS.q ?_;intro _ hS));refine jt ⟨?_⟩;refine hS.al ?_;intro b10 w6 _ hS;(repeat(refine jt ⟨?_⟩;refine hS.q ?_;intro _ hS));refine jt ⟨?_⟩;refine ED.seq ?_;(repeat(refine jt ⟨?_⟩;refine hS.q ?_;intro _ hS));refine jt ⟨?_⟩;refine hS.al ?_;intro b11 w7 _ hS
 (repeat(refine jt ⟨?_⟩;refine hS.q ?_;intro _ hS));refine jt ⟨?_⟩;refine ED.seq ?_;(repeat(refine jt ⟨?_⟩;refine hS.q ?_;intro _ hS));refine jt ⟨?_⟩;refine hS.al ?_;intro mm w8 _ hS;(repeat(refine jt ⟨?_⟩;refine hS.q ?_;intro _ hS));refine jt ⟨?_⟩;refine hS.al ?_;intro b12 w9 _ hS;(repeat(refine jt ⟨?_⟩;refine hS.q ?_;intro _ hS));refine jt ⟨?_⟩;refine ED.rangeB rfl ?_;(repeat(refine jt ⟨?_⟩;refine hS.q ?_;intro _ hS));refine jt ⟨?_⟩
 refine(Sh (m:=64) AC).mono ?_;rintro _ w10⟨b2,b3,rfl,hS'⟩;have hS:=hS.callNew hS';(repeat(refine jt ⟨?_⟩;refine hS.q ?_;intro _ hS));refine jt ⟨?_⟩;refine⟨_,[ptr b2,ptr b3],T6,rfl,?_⟩;intro lo hy;have hS:=hS.rng (.deferred (some [])) (lo .ready none);generalize hlp:w10.heap.size+1=lp at hS hy⊢;generalize hD:w10.heap.size=D at hS⊢;generalize(w10.alloc (.deferred (some []))).alloc (lo .ready none)=w11 at hS⊢
 have hst0:St w T0 ((lp,lo .ready none)::(D,.deferred (some []))::(b3,.cells ⟨[.int .i64 64]⟩ BP (0,0))::(b2,.cells ⟨[.slice a es.length c]⟩ GR (0,0))::(b12,.cells ⟨[.map (some mm)]⟩ IB (0,0))::(mm,.map #[] 0)::(b11,.cells ⟨[.slice none 0 0]⟩ Kc (0,0))::
   (b10,.cells ⟨[.int .i64 0]⟩ Pp (0,0))::(b9,.cells ⟨[.map none]⟩ IB (0,0))::(b8,.cells ⟨[.slice none 0 0]⟩ Kc (0,0))::(b6,.cells ⟨[.int .i64 (n+(0:Nat))]⟩ BP (0,0))::(b5,.cells ⟨[.int .i64 lev]⟩ BP (0,0))::(b4,.cells ⟨[ptr sb]⟩ Pn (0,0))::([]++([]++L))) w11:=by rw[show n+((0:Nat):Int)=n by omega];exact hS
 clear hS hS';refine Cl.mono (Sg (g:=(a.getD ⟨0,0,none⟩).block) (o:=(a.getD ⟨0,0,none⟩).off) (m:=64) (a:=a) AC AA hc ?_
  (λi w'=>i≤P.length∧ ∃a11 c11 Lf et ct ks Lt mi Li,AT BE 2 a11 i c11 ((Bx lev (Ar n (P.take i))).flatMap Ad) Lf∧MapC AY (λb:Nat=>ptr b) et ct ks∧Cj ks (Ar n (P.take i)) Lt∧BI f mi Li∧FB (A+3*i) mi∧Bi m n P=Bi mi (n+i) (P.drop i)∧
   St w T0 ((lp,lo .ready none)::(D,.deferred (some []))::(b3,.cells ⟨[.int .i64 64]⟩ BP (0,0))::(b2,.cells ⟨[.slice a es.length c]⟩ GR (0,0))::(b12,.cells ⟨[.map (some mm)]⟩ IB (0,0))::(mm,.map et ct)::(b11,.cells ⟨[.slice a11 i c11]⟩ Kc (0,0))::
   (b10,.cells ⟨[.int .i64 0]⟩ Pp (0,0))::(b9,.cells ⟨[.map none]⟩ IB (0,0))::(b8,.cells ⟨[.slice none 0 0]⟩ Kc (0,0))::(b6,.cells ⟨[.int .i64 (n+(i:Nat))]⟩ BP (0,0))::(b5,.cells ⟨[.int .i64 lev]⟩ BP (0,0))::(b4,.cells ⟨[ptr sb]⟩ Pn (0,0))::(Lf++(Lt++Li))) w')
  (λw'=>(Bi m n P).1≠0∧ ∃et ct a11 i c11 z R Li,BI f (Bi m n P).2 Li∧St w T0 ((lp,lo .done (some .ret))::(D,.deferred (some []))::(b3,.cells ⟨[.int .i64 64]⟩ BP (0,0))::(b2,.cells ⟨[.slice a es.length c]⟩ GR (0,0))::(b12,.cells ⟨[.map (some mm)]⟩ IB (0,0))::(mm,.map et ct)::(b11,.cells ⟨[.slice a11 i c11]⟩ Kc (0,0))::
   (b10,.cells ⟨[.int .i64 (Bi m n P).1]⟩ Pp (0,0))::(b9,.cells ⟨[.map none]⟩ IB (0,0))::(b8,.cells ⟨[.slice none 0 0]⟩ Kc (0,0))::(b6,.cells ⟨[.int .i64 (z)]⟩ BP (0,0))::(b5,.cells ⟨[.int .i64 lev]⟩ BP (0,0))::(b4,.cells ⟨[ptr sb]⟩ Pn (0,0))::(R++Li)) w')
  ?_ ?_ ?_ ?_ ⟨Ag _,none,0,[], #[],0,[],[],m,L,AT.nil,⟨rfl,by simp[E5]⟩,.nil,hF,hB.mono AA,by rw[List.drop_zero];simp,hst0⟩) ?_
 ·intro hl0;obtain⟨g,off,rfl, -⟩:=FO ha hl0
  rfl
 ·rintro i w'⟨-,a11,c11,Lf,et,ct,ks,Lt,mi,Li, -, -, -, -, -, -,hS⟩;have:=hS.mem (b:=b2);simp[World.cell?,this]
 ·rintro i w'⟨-,a11,c11,Lf,et,ct,ks,Lt,mi,Li, -, -, -, -, -, -,hS⟩;have:=hS.mem (b:=b3);simp[World.cell?,this]
 ·rintro i w'⟨h1,a11,c11,Lf,et,ct,ks,Lt,mi,Li,h2,h3,h4,h5,h6,h7,hS⟩;exact⟨h1,a11,c11,Lf,et,ct,ks,Lt,mi,Li,h2,h3,h4,h5,h6,h7,hS.drew⟩
 ·rintro i w' hi⟨hile,a11,c11,Lf,et,ct,ks,Lt,mi,Li,hV,hM,hTb,hFi,hBi,hlay,hS⟩K hK hKs;refine hy _ w' K (hS.mem (b:=lp)) ?_;repeat(first|refine Ao.run AK ?_|((first|refine jA ?_ ?_|refine jB ?_ ?_|refine jC ?_ ?_|refine jD ?_ ?_);omega)|refine jE rfl ?_|refine jF (by first|omega|exact Bd AK rfl rfl|decide) ?_|(refine jG ?_;first|with_reducible (first|apply jH|apply jI|apply jJ|apply jK|apply jL)|refine jM AA ?_|refine jN AA ?_|with_reducible refine jM rfl ?_|refine jM (by first|assumption|decide) ?_|refine jN (by first|assumption|decide) ?_)|refine jO (λ_=>AD) ?_)
  refine⟨hS.mem (b:=lp),?_⟩;have hS:=hS.put (b:=lp) (lo .busy none);generalize w'.putObj lp (lo .busy none)=w12 at hS⊢;have hS:=hS;obtain⟨g,off,rfl, -⟩:=FO ha (show 0<es.length by omega);have hiP:i<P.length:=AA;obtain⟨-,hPi⟩:=hPg i hiP;have hpt:B8 P[i]:=hp _ (Ca hiP);have hstep:=s6 hlay hiP;have hsucc:P.take (i+1)=P.take i++[P[i]]:=Bs hiP;have hmn:min 64 (es.length-i*64)=P[i].length:=by rw[hPi,BR,Do]
  have hpa: ∀{w2:World}{H:AH},St w T0 H w2→Arr w2 [] (some ⟨g,off+i*64*4,none⟩) (P[i].flatMap AU):=by
   intro w2 H h;have h1:=Ou (h.arrOld ha) hc (p:=i*64) (n:=min 64 (es.length-i*64)) AA;unfold CV at h1;rw[if_neg AA]at h1;have e:(es.drop (i*64)).take (min 64 (es.length-i*64))=P[i]:=by
    rw[hPi,hmn,hPi,BR,←List.take_eq_take_min]
   rw[e]at h1;exact h1.sub AB
  rw[hmn];generalize P[i]=p at hpt hstep hsucc hpa;repeat(first|refine Ao.run AK ?_|((first|refine jA ?_ ?_|refine jB ?_ ?_|refine jC ?_ ?_|refine jD ?_ ?_);omega)|refine jE rfl ?_|refine jF (by first|omega|exact Bd AK rfl rfl|decide) ?_|(refine jG ?_;first|with_reducible (first|apply jH|apply jI|apply jJ|apply jK|apply jL)|refine jM AA ?_|refine jN AA ?_|with_reducible refine jM rfl ?_|refine jM (by first|assumption|decide) ?_|refine jN (by first|assumption|decide) ?_)|refine jO (λ_=>AD) ?_)
  refine Cl.mono (TU (hpa hS) (AV _) hpt) ?_;rintro _ w13⟨rfl,hS'⟩;have hS:=hS.call0 hS';have htl:=hpt.bytes;have hop:=λ(w:World)=>TV (w:=w) hpt;generalize B5 p=t at htl hop hstep⊢;repeat(first|refine Ao.run AK ?_|((first|refine jA ?_ ?_|refine jB ?_ ?_|refine jC ?_ ?_|refine jD ?_ ?_);omega)|refine jE rfl ?_|refine jF (by first|omega|exact Bd AK rfl rfl|decide) ?_|(refine jG ?_;first|with_reducible (first|apply jH|apply jI|apply jJ|apply jK|apply jL)|refine jM AA ?_|refine jN AA ?_|with_reducible refine jM rfl ?_|refine jM (by first|assumption|decide) ?_|refine jN (by first|assumption|decide) ?_)|refine jO (λ_=>AD) ?_|refine hS.ld rfl ?_|refine hS.ldn rfl ?_|(refine hS.q ?_;intro _ hS))
  refine Ao.draw AK mixed (λw'=>St w T0 _ w') [4,5] [0,1,3,2,4,5] AD hS.drew ?_;have hS:=hS.drew;refine jr ⟨?_⟩;refine Cl.mono (Ps (n:=n+i) ⟨AA,AA⟩ (hG.keep hS).tab) ?_;rintro _ w14⟨rfl,hS'⟩;have hS:=hS.call0 hS';refine Ae.mk hS ?_;refine jr ⟨?_⟩;refine Cl.mono (VP hFi (hS.part (L:=Li)) (hS.oldCell hsb hc2) (hS.notin hsz hsb) (Aw (n+i)) t AA hBi AA) ?_;rintro _ w15⟨rfl,Li2,hF2,hS'⟩;have hS:=hS.call (L:=Li) hS'
  have hB2:=hBi.file (Aw (n+i)) t AA;generalize CE mi (Aw (n+i)) t=fm at hF2 hB2 hstep⊢;obtain⟨e,m2⟩:=fm;simp only at hF2 hB2 hstep⊢;by_cases he:e=0
  ·subst he;rw[if_neg AB]at hstep;repeat(first|refine Ao.run AK ?_|((first|refine jA ?_ ?_|refine jB ?_ ?_|refine jC ?_ ?_|refine jD ?_ ?_);omega)|refine jE rfl ?_|refine jF (by first|omega|exact Bd AK rfl rfl|decide) ?_|(refine jG ?_;first|with_reducible (first|apply jH|apply jI|apply jJ|apply jK|apply jL)|refine jM AA ?_|refine jN AA ?_|with_reducible refine jM rfl ?_|refine jM (by first|assumption|decide) ?_|refine jN (by first|assumption|decide) ?_)|refine jO (λ_=>AD) ?_|refine hS.ld rfl ?_|refine hS.ldn rfl ?_|(refine hS.q ?_;intro _ hS))
   refine Cl.mono (hop _) ?_;rintro _ w16⟨tb,Ltb,rfl,hTO,hS'⟩;have hS:=hS.callNew hS';repeat(first|refine Ao.run AK ?_|((first|refine jA ?_ ?_|refine jB ?_ ?_|refine jC ?_ ?_|refine jD ?_ ?_);omega)|refine jE rfl ?_|refine jF (by first|omega|exact Bd AK rfl rfl|decide) ?_|(refine jG ?_;first|with_reducible (first|apply jH|apply jI|apply jJ|apply jK|apply jL)|refine jM AA ?_|refine jN AA ?_|with_reducible refine jM rfl ?_|refine jM (by first|assumption|decide) ?_|refine jN (by first|assumption|decide) ?_)|refine jO (λ_=>AD) ?_|refine hS.ld rfl ?_|refine hS.ldn rfl ?_|(refine hS.q ?_;intro _ hS))
   refine hS.al ?_;intro b50 w17 _ hS;repeat(first|refine Ao.run AK ?_|((first|refine jA ?_ ?_|refine jB ?_ ?_|refine jC ?_ ?_|refine jD ?_ ?_);omega)|refine jE rfl ?_|refine jF (by first|omega|exact Bd AK rfl rfl|decide) ?_|(refine jG ?_;first|with_reducible (first|apply jH|apply jI|apply jJ|apply jK|apply jL)|refine jM AA ?_|refine jN AA ?_|with_reducible refine jM rfl ?_|refine jM (by first|assumption|decide) ?_|refine jN (by first|assumption|decide) ?_)|refine jO (λ_=>AD) ?_|refine hS.ld rfl ?_|refine hS.ldn rfl ?_|(refine hS.q ?_;intro _ hS))
   refine St.app (sz:=2) (m:=1) AK rfl rfl rfl rfl hS hV (news:=Ad (lev,n+i)) rfl (by have:=hS.arr (b:=b50) (T':=[]) AB;exact this) rfl (by show(_+_)*16≤_;omega) AA ?_;intro a12 c12 Lf2 w18 hV2 hS;repeat(first|refine Ao.run AK ?_|((first|refine jA ?_ ?_|refine jB ?_ ?_|refine jC ?_ ?_|refine jD ?_ ?_);omega)|refine jE rfl ?_|refine jF (by first|omega|exact Bd AK rfl rfl|decide) ?_|(refine jG ?_;first|with_reducible (first|apply jH|apply jI|apply jJ|apply jK|apply jL)|refine jM AA ?_|refine jN AA ?_|with_reducible refine jM rfl ?_|refine jM (by first|assumption|decide) ?_|refine jN (by first|assumption|decide) ?_)|refine jO (λ_=>AD) ?_|refine hS.ld rfl ?_|refine hS.ldn rfl ?_|(refine hS.q ?_;intro _ hS))
   refine St.mapSet AK Bq.i64 rfl rfl Eo hS (k:=n+(i:Int)) (v:=tb) hM ?_;intro et2 ct2 w19 hM2 hS;repeat(first|refine Ao.run AK ?_|((first|refine jA ?_ ?_|refine jB ?_ ?_|refine jC ?_ ?_|refine jD ?_ ?_);omega)|refine jE rfl ?_|refine jF (by first|omega|exact Bd AK rfl rfl|decide) ?_|(refine jG ?_;first|with_reducible (first|apply jH|apply jI|apply jJ|apply jK|apply jL)|refine jM AA ?_|refine jN AA ?_|with_reducible refine jM rfl ?_|refine jM (by first|assumption|decide) ?_|refine jN (by first|assumption|decide) ?_)|refine jO (λ_=>AD) ?_|refine hS.ld rfl ?_|refine hS.ldn rfl ?_|(refine hS.q ?_;intro _ hS))
   have hS:=hS.sub (AS _ _);have hkk:=hTb.keys;have hkn:n+(i:Int)∉ks.map (·.1):=by
    rw[hkk,LA,BR,Nat.min_eq_left hile];omega
   rw[OY hkn]at hM2;have hnum:Ar n (P.take (i+1))=Ar n (P.take i)++[(n+(i:Int),p)]:=by
    rw[hsucc,W2,BR,Nat.min_eq_left hile]
   have hTb2:=hTb.snoc (n:=n+(i:Int)) hTO;rw[←hnum]at hTb2;have hV3:AT BE 2 a12 (i+1) c12 ((Bx lev (Ar n (P.take (i+1)))).flatMap Ad) Lf2:=by
    rw[hnum];unfold Bx at hV2⊢;rw[A7,Hn];exact hV2
   have hsp:=hS.put (b:=lp) (lo .ready none);refine⟨hS.mem (b:=lp),hK _ ⟨hiP,a12,c12,Lf2,et2,ct2,_,Lt++Ltb,m2,Li2,hV3,hM2,hTb2,hF2,hB2.mono AA,hstep,?_⟩⟩;rw[show n+((i+1:Nat):Int)=n+(i:Int)+1 by omega];refine St.perm hsp ?_
   repeat refine Dd.trans (List.Perm.cons _ ?_)
   refine(GX Ltb Lf2 _).trans (List.Perm.append_left _ ?_);rw[Aj];exact GX Ltb Lt _
  ·rw[if_pos he]at hstep;repeat(first|refine Ao.run AK ?_|((first|refine jA ?_ ?_|refine jB ?_ ?_|refine jC ?_ ?_|refine jD ?_ ?_);omega)|refine jE rfl ?_|refine jF (by first|omega|exact Bd AK rfl rfl|decide) ?_|(refine jG ?_;first|with_reducible (first|apply jH|apply jI|apply jJ|apply jK|apply jL)|refine jM AA ?_|refine jN AA ?_|with_reducible refine jM rfl ?_|refine jM (by first|assumption|decide) ?_|refine jN (by first|assumption|decide) ?_)|refine jO (λ_=>AD) ?_|refine hS.ld rfl ?_|refine hS.ldn rfl ?_|(refine hS.q ?_;intro _ hS))
   have hsp:=hS.put (b:=lp) (lo .done (some .ret));refine⟨hS.mem (b:=lp),hKs _ ⟨by rw[hstep];exact he,et,ct,a11,i,c11,n+(i:Int),Lf++Lt,Li2,by rw[hstep];exact hF2,?_⟩⟩;rw[Aj,hstep];exact hsp
 ·rintro _ w12(⟨i,hi,hile,a11,c11,Lf,et,ct,ks,Lt,mi,Li,hV,hM,hTb,hFi,hBi,hlay,hS⟩|⟨hne,et,ct,a11,i,c11,z,R,Li,hFi,hS⟩)
  ·obtain rfl:i=P.length:=AA;rw[Bz]at hV hTb;rw[IJ]at hlay;refine⟨.ready,none,hS.mem (b:=lp),AC,?_⟩;have hS:=hS.put (b:=lp) (lo .exhausted none);generalize w12.putObj lp (lo .exhausted none)=w13 at hS⊢;repeat(first|refine Ao.run AK ?_|((first|refine jA ?_ ?_|refine jB ?_ ?_|refine jC ?_ ?_|refine jD ?_ ?_);omega)|refine jE rfl ?_|refine jF (by first|omega|exact Bd AK rfl rfl|decide) ?_|(refine jG ?_;first|with_reducible (first|apply jH|apply jI|apply jJ|apply jK|apply jL)|refine jM AA ?_|refine jN AA ?_|with_reducible refine jM rfl ?_|refine jM (by first|assumption|decide) ?_|refine jN (by first|assumption|decide) ?_)|refine jO (λ_=>AD) ?_)
   have hS0:=hS.drew;have hS:=hS0.sub (.cons_cons _ (.cons_cons _ (.cons_cons _ (.cons_cons _ (.cons_cons _ (.cons_cons _ (.cons_cons _ (.cons_cons _ (.cons_cons _ (AS _ _))))))))));refine Ao.draw AK mixed (λw'=>St w T0 _ w') [3,4] [0,1,2,3,4] AD hS ?_;refine jr ⟨?_⟩;have hS:=hS0;refine hS.q ?_;intro w14 hS;have hS:=hS;refine Ae.mk (hS.sub (.cons_cons _ (.cons_cons _ (.cons_cons _ (.cons_cons _ (.cons_cons _ (.cons_cons _ (.cons_cons _ (.cons_cons _ (.cons_cons _ (AS _ _))))))))))) ?_
   refine jr ⟨?_⟩;repeat(first|refine Ao.run AK ?_|((first|refine jA ?_ ?_|refine jB ?_ ?_|refine jC ?_ ?_|refine jD ?_ ?_);omega)|refine jE rfl ?_|refine jF (by first|omega|exact Bd AK rfl rfl|decide) ?_|(refine jG ?_;first|with_reducible (first|apply jH|apply jI|apply jJ|apply jK|apply jL)|refine jM AA ?_|refine jN AA ?_|with_reducible refine jM rfl ?_|refine jM (by first|assumption|decide) ?_|refine jN (by first|assumption|decide) ?_)|refine jO (λ_=>AD) ?_|refine hS.ld rfl ?_|refine hS.ldn rfl ?_|(refine hS.q ?_;intro _ hS))
   refine⟨(by assumption:St w T0 _ _).mem (b:=D),?_⟩;have hS:=hS.put (b:=D) (.deferred none);generalize World.putObj _ D (.deferred none)=w15 at hS⊢;have hS:=hS;repeat(first|refine Ao.run AK ?_|((first|refine jA ?_ ?_|refine jB ?_ ?_|refine jC ?_ ?_|refine jD ?_ ?_);omega)|refine jE rfl ?_|refine jF (by first|omega|exact Bd AK rfl rfl|decide) ?_|(refine jG ?_;first|with_reducible (first|apply jH|apply jI|apply jJ|apply jK|apply jL)|refine jM AA ?_|refine jN AA ?_|with_reducible refine jM rfl ?_|refine jM (by first|assumption|decide) ?_|refine jN (by first|assumption|decide) ?_)|refine jO (λ_=>AD) ?_|refine hS.ld rfl ?_|refine hS.ldn rfl ?_|(refine hS.q ?_;intro _ hS))
   refine .inr ⟨by rw[hlay];rfl,a11,c11,Lf,mm,et,ct,ks,Lt,Li,rfl,hV,hM,hTb,by rw[hlay];exact hFi,?_⟩;exact hS.sub (.cons _ (.cons _ (.cons _ (.cons _ (.cons _ (.cons_cons _ (.cons _ (.cons _ (.cons _ (.cons _ (.cons _ (.cons _ (.cons _ (List.Sublist.refl _))))))))))))))
  ·refine⟨.done,some .ret,hS.mem (b:=lp),AC,?_⟩;have hS:=hS.put (b:=lp) (lo .exhausted (some .ret));generalize w12.putObj lp (lo .exhausted (some .ret))=w13 at hS⊢;refine⟨hS.mem (b:=D),?_⟩;have hS:=hS.put (b:=D) (.deferred none);generalize w13.putObj D (.deferred none)=w14 at hS⊢;repeat(first|refine Ao.run AK ?_|((first|refine jA ?_ ?_|refine jB ?_ ?_|refine jC ?_ ?_|refine jD ?_ ?_);omega)|refine jE rfl ?_|refine jF (by first|omega|exact Bd AK rfl rfl|decide) ?_|(refine jG ?_;first|with_reducible (first|apply jH|apply jI|apply jJ|apply jK|apply jL)|refine jM AA ?_|refine jN AA ?_|with_reducible refine jM rfl ?_|refine jM (by first|assumption|decide) ?_|refine jN (by first|assumption|decide) ?_)|refine jO (λ_=>AD) ?_|refine hS.ld rfl ?_|refine hS.ldn rfl ?_|(refine hS.q ?_;intro _ hS))
   refine .inl ⟨hne,rfl,Li,hFi,?_⟩;exact hS.sub (.cons _ (.cons _ (.cons _ (.cons _ (.cons _ (.cons _ (.cons _ (.cons _ (.cons _ (.cons _ (.cons _ (.cons _ (.cons _ (Ah _ _))))))))))))))
structure CI where
 seen:Array Nat
 dn:List (Int×Nat)
 td:List (Int×Nat)
theorem wC{α:Type}(t made:List (Int×α))(x:Int×α):putAll t (made++[x])=Ba x.1 x.2 (putAll t made):=by
 unfold putAll;rw[Hq];rfl
theorem Y1{w:World}{d sr:Nat}{ed es:Array MapEntry}{cd cs:Nat}{kd ks:List (Int×Nat)}(hd:MapC AY (λb:Nat=>ptr b) ed cd kd)(hs:MapC AY (λb:Nat=>ptr b) es cs ks)(hh:Holds [(d,.map ed cd),(sr,.map es cs)] w):
  Cl Tryz.prog nC [.map (some d),.map (some sr)] w λ_ w'=>∃ks' ed' cd',ks'.Perm ks∧MapC AY (λb:Nat=>ptr b) ed' cd' (putAll kd ks')∧St w [d,sr] [(d,.map ed' cd'),(sr,.map es cs)] w':=by
 have hS:St w [d,sr] [(d,.map ed cd),(sr,.map es cs)] w:=St.enter hh;refine fD rfl ?_;(repeat(refine jt ⟨?_⟩;refine hS.q ?_;intro _ hS));refine jt ⟨?_⟩;refine St.rangeM (m:=sr) AK rfl rfl hS ?_;intro it w1 _ hS;(repeat(refine jt ⟨?_⟩;refine hS.q ?_;intro _ hS));refine jt ⟨?_⟩;refine AL.loop (λz:CI=>[(0,.map (some d)),(7,ptr it)])
  (λz w'=>H6 AY (λb:Nat=>ptr b) es z.seen ks z.dn z.td∧ ∃ed' cd',MapC AY (λb:Nat=>ptr b) ed' cd' (putAll kd z.dn)∧St w [d,sr] [(it,.mapIter (some sr) cs z.seen cs),(d,.map ed' cd'),(sr,.map es cs)] w') (λz=>z.td.length) ⟨#[],[],ks⟩
  ⟨rfl,rfl,trivial⟩ ⟨H6.start hs,ed,cd,hd,hS⟩ ?_
 clear hS;rintro⟨seen,dn,td⟩w2⟨hR,ed2,cd2,hM,hS⟩;simp only at hR hM hS⊢;(repeat(refine jt ⟨?_⟩;refine hS.q ?_;intro _ hS));refine jt ⟨?_⟩;refine St.nextM (kvs:=ks) hS (hS.mem (b:=sr)) hs hR (λhtd=>?_) (λA x B e w5 htd hR2 he1 he2 he3 hS=>?_)
 ·(repeat(refine jt ⟨?_⟩;refine hS.q ?_;intro _ hS));refine jt ⟨?_⟩;subst htd;have hp:=hR.perm;rw[BU]at hp;exact⟨dn,ed2,cd2,hp,hM,hS.sub (AS _ _)⟩
 ·(repeat(refine jt ⟨?_⟩;refine hS.q ?_;intro _ hS));refine jt ⟨?_⟩;refine St.entryM (kvs:=ks) hS (hS.mem (b:=sr)) hs he1 he2 he3 ?_;(repeat(refine jt ⟨?_⟩;refine hS.q ?_;intro _ hS));refine jt ⟨?_⟩;refine St.mapSet AK Bq.i64 rfl rfl Eo hS (k:=x.1) (v:=x.2) hM ?_;intro ed3 cd3 w6 hM3 hS;(repeat(refine jt ⟨?_⟩;refine hS.q ?_;intro _ hS));refine jt ⟨?_⟩;exact⟨⟨seen.push e.born,dn++[x],A++B⟩,⟨rfl,rfl,trivial⟩,⟨hR2,ed3,cd3,by rw[wC];exact hM3,hS⟩,by rw[htd];simp⟩
theorem Cj.perm{ks ks':List (Int×Nat)}(hp:ks'.Perm ks): ∀{ts:List (Int×List AF)}{L:AH},Cj ks ts L→ ∃ts' L',ts'.Perm ts∧Cj ks' ts' L'∧L'.Perm L:=by
 induction hp with
 |nil=>intro ts L h;exact⟨ts,L,.refl _,h,.refl _⟩
 |cons x _ ih=>
  intro ts L h;cases h with
  |cons h r=>
   obtain⟨ts',L',h1,h2,h3⟩:=ih r;exact⟨_,_,h1.cons _,.cons h h2,h3.append_left _⟩
 |swap x y l=>
  intro ts L h;cases h with
  |cons h r=>
   cases r with
   |cons h2 r=>
    exact⟨_,_,.swap _ _ _,.cons h2 (.cons h r),by rw[←Aj,←Aj];exact Gp.append_right _⟩
 |trans _ _ ih1 ih2=>
  intro ts L h;obtain⟨t1,L1,h1,h2,h3⟩:=ih2 h;obtain⟨t2,L2,h4,h5,h6⟩:=ih1 h2;exact⟨t2,L2,h4.trans h1,h5,h6.trans h3⟩
theorem Cj.put{ks:List (Int×Nat)}{ts:List (Int×List AF)}{M:AH}(h:Cj ks ts M){n:Int}{tb:Nat}{l:List AF}{L:AH}(ht:JJ tb l L): ∃M' R,Cj (Ba n tb ks) (Ba n l ts) M'∧(M'++R).Perm (L++M):=by
 induction h with
 |nil=>exact⟨L++[],[],.cons ht .nil,AB⟩
 |@cons n' tb' l' L' ks ts M h r ih=>
  unfold Ba;by_cases e:n=n'
  ·rw[if_pos e,if_pos e];exact⟨L++M,L',.cons ht r,by rw[Aj];exact Gp.append_left _⟩
  ·rw[if_neg e,if_neg e];obtain⟨M',R,h1,h2⟩:=ih;refine⟨L'++M',R,.cons h h1,?_⟩;rw[Aj];exact(h2.append_left L').trans (GX _ _ _)
theorem Cj.putAll{ks:List (Int×Nat)}{ts:List (Int×List AF)}{M:AH}(h:Cj ks ts M): ∀{kn:List (Int×Nat)}{tn:List (Int×List AF)}{N:AH},Cj kn tn N→ ∃M' R,Cj (Proofs.YtkgibdhpijdbfaaGreatDoor.putAll ks kn) (Proofs.YtkgibdhpijdbfaaGreatDoor.putAll ts tn) M'∧(M'++R).Perm (N++M):=by
 intro kn tn N hn
 induction hn generalizing ks ts M with
 |nil=>exact⟨M,[],h,AB⟩
 |@cons n tb l L kn tn N ht _ ih=>
  obtain⟨M1,R1,h1,h2⟩:=h.put (n:=n) ht;obtain⟨M2,R2,h3,h4⟩:=ih h1;refine⟨M2,R2++R1,h3,?_⟩;rw[←Aj];refine(h4.append_right R1).trans ?_;rw[Aj];refine(h2.append_left N).trans ?_;rw[Aj];exact GX _ _ _
theorem Cj.del{ks:List (Int×Nat)}{ts:List (Int×List AF)}{M:AH}(h:Cj ks ts M)(n:Int): ∃M',Cj (Co n ks) (Co n ts) M'∧M'.Sublist M:=by
 induction h with
 |nil=>exact⟨[],.nil,.refl _⟩
 |@cons n' tb' l' L' ks ts M h r ih=>
  unfold Co;by_cases e:n=n'
  ·rw[if_pos e,if_pos e];exact⟨M,r,Ah _ _⟩
  ·rw[if_neg e,if_neg e];obtain⟨M',h1,h2⟩:=ih;exact⟨L'++M',.cons h h1,h2.append_left _⟩
def EK(fs:List (Int×Int)):Nat→List (Int×Int)
 |0=>[]
 |k+1=>if(fs.getD k (0,0)).2<1∨3<(fs.getD k (0,0)).2∨(Al (fs.getD k (0,0)).1 (EK fs k)).getD 0≠0 then EK fs k else Ba (fs.getD k (0,0)).1 (fs.getD k (0,0)).2 (EK fs k)
def HI(fs:List (Int×Int)):List Value:=fs.flatMap λx=>[AY x.1,AY x.2]
theorem qP(fs:List (Int×Int))(k:Nat)(hk:k<fs.length):(HI fs)[k*2]?=some (AY fs[k].1)∧(HI fs)[k*2+1]?=some (AY fs[k].2):=by
 induction fs generalizing k with
 |nil=>simp at hk
 |cons x r ih=>
  cases k with
  |zero=>simp[HI]
  |succ k=>
   have h:=ih k (by simpa using hk);have e:HI (x::r)=AY x.1::AY x.2::HI r:=by simp[HI]
   rw[e,show(k+1)*2=k*2+2 by omega];simpa using h
theorem s7{w0 w:World}{T:List Nat}{H:AH}(hS:St w0 T H w){b off:Nat}(hb:b∉T){u v:Value}(h0:w0.cell? ⟨b,off,none⟩=some u)(h1:w0.cell? ⟨b,off+1,none⟩=some v){K:List Value→Prop}(hk:K [u,v]):
  GN (λw'=>w=w') 2 b off K:=by
 refine⟨⟨[u,v],rfl,λ_ e j x hj=>?_,hk⟩⟩;subst e
 match j,hj with
 |0,hj=>simp at hj;subst hj;exact hS.oldCell (a:=⟨b,off,none⟩) hb h0
 |1,hj=>simp at hj;subst hj;exact hS.oldCell (a:=⟨b,off+1,none⟩) hb h1
theorem Lq{w:World}{b:Nat}{m:AJ}{L:AH}(hF:BI b m L)(hh:Holds L w){a:Option Addr}{cap:Nat}{fs:List (Int×Int)}(ha:Arr w (keys L) a (HI fs))(hl:fs.length≤1099511627776):
  Cl Tryz.prog Qh [ptr b,.slice a fs.length cap] w λ_ w'=>∃L',BI b {m with fates:=EK fs fs.length,armed:=0} L'∧St w (keys L) L' w':=by
 have hS:=St.enter hh;generalize hT:keys L=T0 at hS ha⊢;obtain⟨mf,es,c,hes,ft,Lf,hf⟩:=hF;refine lF rfl ?_;(repeat(refine jt ⟨?_⟩;refine hS.q ?_;intro _ hS));refine jt ⟨?_⟩;refine hS.al ?_;intro fm w1 _ hS;(repeat(refine jt ⟨?_⟩;refine hS.q ?_;intro _ hS));refine jt ⟨?_⟩;have hS:St w T0 ((fm,.map #[] 0)::(b,.cells ⟨[.map (some fm),.int .i64 (0:Nat),.int .i64 m.acts,.bool m.off,.map (some mf)]⟩ C4 (0,0))::(mf,.map es c)::[]) _:=hS.sub (((List.nil_sublist Lf).cons_cons _).cons_cons _ |>.cons_cons _)
 refine AL.loop (λk:Nat=>[(0,ptr b),(13,.slice a fs.length cap),(14,.int .i64 fs.length),(15,.int .i64 k)])
  (λk w'=>k≤fs.length∧ ∃es' c',MapC AY AY es' c' (EK fs k)∧St w T0 ((fm,.map es' c')::(b,.cells ⟨[.map (some fm),.int .i64 (0:Nat),.int .i64 m.acts,.bool m.off,.map (some mf)]⟩ C4 (0,0))::(mf,.map es c)::[]) w') (λk=>fs.length-k) 0
  ⟨rfl,rfl,rfl,rfl,trivial⟩ ⟨Ag _, #[],0,⟨rfl,by simp[E5]⟩,hS⟩ ?_
 rintro k w3⟨hk,es',c',hm,hS⟩;by_cases hkl:k<fs.length
 ·obtain⟨hc0,hc1⟩:=qP fs k hkl;obtain⟨bc,offc,rfl,hbc,hck0⟩:=ha _ _ hc0;obtain⟨bc',offc',heq, -,hck1⟩:=ha _ _ hc1;obtain⟨rfl,rfl⟩:bc=bc'∧offc=offc':=by simpa using heq
  have hak:EK fs (k+1)=if fs[k].2<1∨3<fs[k].2∨(Al fs[k].1 (EK fs k)).getD 0≠0 then EK fs k else Ba fs[k].1 fs[k].2 (EK fs k):=by
   have:fs.getD k (0,0)=fs[k]:=by simp[hkl]
   simp only[EK,this]
  generalize EK fs k=A at hm hak;generalize hA':EK fs (k+1)=A' at hak;generalize fs[k]=x at hck0 hck1 hak;obtain⟨p,kd⟩:=x;simp only at hck0 hck1 hak;refine jq ⟨?_⟩;refine s7 hS hbc hck0 hck1 ?_;refine jq ⟨?_⟩;refine hS.al ?_;intro r w4 _ hS;(repeat(refine jt ⟨?_⟩;refine hS.q ?_;intro _ hS));refine jt ⟨?_⟩;have hS:St w T0 ((r,.cells ⟨[AY p,AY kd]⟩ ML (0,0))::(fm,.map es' c')::(b,.cells ⟨[.map (some fm),.int .i64 (0:Nat),.int .i64 m.acts,.bool m.off,.map (some mf)]⟩ C4 (0,0))::(mf,.map es c)::[]) _:=hS
  refine AL.draw AK mixed (λw'=>St w T0 ((r,.cells ⟨[AY p,AY kd]⟩ ML (0,0))::(fm,.map es' c')::(b,.cells ⟨[.map (some fm),.int .i64 (0:Nat),.int .i64 m.acts,.bool m.off,.map (some mf)]⟩ C4 (0,0))::(mf,.map es c)::[]) w')
   [] [0,1,2,3,4,5,6,7,8,9,10,11,12,13,14,15,16,17] AD hS.drew ?_
  have hS:=hS.drew;by_cases h1:kd<1
  ·refine jr ⟨?_⟩;refine⟨k+1,⟨rfl,rfl,rfl,rfl,trivial⟩,⟨AA,es',c',by rw[hA',hak,if_pos (.inl h1)];exact hm,hS.sub (AS _ _)⟩,AA⟩
  ·by_cases h3:3<kd
   ·refine jr ⟨?_⟩;refine⟨k+1,⟨rfl,rfl,rfl,rfl,trivial⟩,⟨AA,es',c',by rw[hA',hak,if_pos (.inr (.inl h3))];exact hm,hS.sub (AS _ _)⟩,AA⟩
   ·refine jr ⟨?_⟩;have hlk: ∀{K:Value→Prop},K (.int .i64 ((Al p A).getD 0))→Fz Tryz.prog (Instr.lookup Nk (.map (some fm)) (AY p) false) (λw'=>St w T0 ((r,.cells ⟨[AY p,AY kd]⟩ ML (0,0))::(fm,.map es' c')::(b,.cells ⟨[.map (some fm),.int .i64 (0:Nat),.int .i64 m.acts,.bool m.off,.map (some mf)]⟩ C4 (0,0))::(mf,.map es c)::[]) w') K:=by
     intro K hK;refine IT AK Bq.i64 rfl rfl Eo rfl (kvs:=A) (λw' hw'=>⟨es',c',hw'.mem (b:=fm),hm.of⟩) ?_;have:((Al p A).map AY).getD (.int .i64 0)= .int .i64 ((Al p A).getD 0):=by
      cases Al p A<;>rfl
     rw[←this]at hK;exact hK
    refine hlk ?_;generalize hz:(Al p A).getD 0=z at hak;refine jr ⟨?_⟩;refine Ax.dec (λh=>?_) (λh=>?_)
    ·refine jq ⟨?_⟩;refine AL.draw AK mixed (λw'=>St w T0 ((r,.cells ⟨[AY p,AY kd]⟩ ML (0,0))::(fm,.map es' c')::(b,.cells ⟨[.map (some fm),.int .i64 (0:Nat),.int .i64 m.acts,.bool m.off,.map (some mf)]⟩ C4 (0,0))::(mf,.map es c)::[]) w')
      [8] [0,1,2,3,4,5,6,7,8] AD hS.drew ?_
     have hS:=hS.drew;refine jr ⟨?_⟩;refine St.mapSet AK Bq.i64 rfl rfl Eo hS (v:=kd) hm ?_;intro es2 c2 w6 hm2 hS;have hS:=hS.sub (AS _ _);refine jq ⟨?_⟩;refine⟨k+1,⟨rfl,rfl,rfl,rfl,trivial⟩,⟨AA,es2,c2,?_,hS⟩,AA⟩;rw[hA',hak,if_neg (by rintro(h|h|h)<;>omega)];exact hm2
    ·refine jq ⟨?_⟩;refine⟨k+1,⟨rfl,rfl,rfl,rfl,trivial⟩,⟨AA,es',c',by rw[hA',hak,if_pos (.inr (.inr h))];exact hm,hS.sub (AS _ _)⟩,AA⟩
 ·have hke:k=fs.length:=AA;subst hke;refine jq ⟨?_⟩;exact⟨_,BI.mk (m:={m with fates:=EK fs fs.length,armed:=0}) mf es c hes (some fm) _ (JE.made fm es' c' _ hm),hS.perm ((List.Perm.swap _ _ _).trans ((List.Perm.swap _ _ _).cons _))⟩
end Go.Proofs.YtkgibdhpijdbfaaGreatDoor
