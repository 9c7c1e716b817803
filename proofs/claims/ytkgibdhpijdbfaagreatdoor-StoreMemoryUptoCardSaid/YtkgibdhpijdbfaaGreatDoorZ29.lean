/- Texts of this claim, one behind the other. -/
import Derived.Test.YtkgibdhpijdbfaaGreatDoorZ27
import Derived.Test.YtkgibdhpijdbfaaGreatDoorZ8
import Derived.Test.YtkgibdhpijdbfaaGreatDoorZ24
import Derived.Test.YtkgibdhpijdbfaaGreatDoorZ16
import Derived.Test.YtkgibdhpijdbfaaGreatDoorZ12
import Derived.Test.YtkgibdhpijdbfaaGreatDoorZ19
import Derived.Test.YtkgibdhpijdbfaaGreatDoorZ4
import Derived.Lib.ItoaLen
import Derived.Test.YtkgibdhpijdbfaaGreatDoorZ14
import Derived.Test.YtkgibdhpijdbfaaGreatDoorZ6
import Derived.Test.YtkgibdhpijdbfaaGreatDoorZ2
set_option linter.unusedVariables false
set_option linter.unusedSimpArgs false
set_option maxHeartbeats 16000000
namespace Go.Proofs.YtkgibdhpijdbfaaGreatDoor
open Go Go.Eng Go.Proofs
def BZ(s:AM):List AF:=s.mem++(s.tabs.map (·.2)).flatten
def Ce(ts:List (Int×List AF))(n:Int):List AF:=(Al n ts).getD []
theorem yL: ∀{ts us:List (Int×List AF)},(ts.map (·.1)).Nodup→us.Sublist ts→us.map (λx=>Ce ts x.1)=us.map (·.2):=by
 intro ts us hn hs;apply List.map_congr_left;intro x hx;unfold Ce;rw[F9 hn (show(x.1,x.2)∈ts from hs.mem hx)];rfl
theorem YX{ts:List (Int×List AF)}{ns:List Int}(hn:(ts.map (·.1)).Nodup)(hp:ns.Perm (ts.map (·.1))):(ns.map (Ce ts)).flatten.Perm (ts.map (·.2)).flatten:=by
 have h1:=(hp.map (Ce ts)).flatten;rw[Fp]at h1;have h2:=yL hn (List.Sublist.refl ts);have h3:ts.map (Ce ts∘ λx=>x.1)=ts.map (·.2):=h2;rw[h3]at h1;exact h1
theorem Qs(k:AE): ∀{l:List AF},Az l→Hf l→Br k 9223372036854775807 l=l.filter λx=> !Op.bytesLess x.k k
 |[],_,_=>rfl
 |x::l,hr,hs=>by
  have hx:=hs x CN;have hl:=DT.1 hr;have ih:=Qs k hl.2 (λy hy=>hs y (CJ _ hy));have e:EW x k 9223372036854775807=Op.bytesLess x.k k:=by
   unfold EW;rw[show decide ((9223372036854775807:Int)<x.s)=false from decide_eq_false (by have:=hx.2;omega)];simp
  by_cases hb:Op.bytesLess x.k k=true
  ·rw[List.filter_cons_of_neg (by simp[hb])];unfold Br;rw[e,if_pos hb];exact ih
  ·have hb':Op.bytesLess x.k k=false:=by simpa using hb
   unfold Br;rw[e,if_neg hb]
   symm
   rw[J4];intro y hy;rcases As.1 hy with rfl|hy
   ·simp[hb']
   ·have h1:=hl.1 y hy;cases h2:Op.bytesLess y.k k with
    |false=>rfl
    |true=>
     exfalso;have h3:Op.bytesLess x.k y.k=true∨x.k=y.k:=by
      unfold CL EW at h1;rw[Bool.or_eq_true,Bool.and_eq_true]at h1;rcases h1 with h1|⟨h1, -⟩
      ·exact .inl h1
      ·exact .inr (of_decide_eq_true h1)
     rcases h3 with h3|h3
     ·rw[JM _ _ _ h3 h2]at hb';cases hb'
     ·rw[h3,h2]at hb';cases hb'
theorem VT(p:AF→Bool): ∀ls:List (List AF),(ls.map λl=>l.filter p).flatten=ls.flatten.filter p
 |[]=>rfl
 |l::ls=>by rw[A4,Dc,VT p ls,Dc,J3]
def HT(x:AF):Ac:=(x.k,false,x.v)
def G1(to:AE)(x:AF):Bool:=decide (to=[])||Op.bytesLess x.k to
def HX(to:AE)(l:List AF):List AF:=l.takeWhile (G1 to)
end Go.Proofs.YtkgibdhpijdbfaaGreatDoor
namespace Go.Proofs.YtkgibdhpijdbfaaGreatDoor
open Go Go.Eng Go.Proofs Go.Sort
open Go.RowKit (Below)
theorem Xi{P:Program}{k:TypeId}(hk:P.underlying k=some (.int .i64)){x:MapEntry}{s:Int}(hx:x.key=AY s)(hs: -9223372036854775808≤s∧s≤9223372036854775807):Go.WideElems.rd P k Gs x=some (.int .i64 s,.nil):=by
 have hw:(Lit.int .i64 s).wf=true:=by
  unfold Lit.wf;rw[Bool.and_eq_true];exact⟨decide_eq_true hs.1,decide_eq_true hs.2⟩
 have h1:=Go.Maps.keyOf_int_mk hk hw;unfold Go.WideElems.rd;rw[hx];show(keyOf P k (.int .i64 s)).bind _=_;rw[h1];rfl
theorem vS{α:Type}{P:Program}{k:TypeId}(hk:P.underlying k=some (.int .i64)){w:World}{m:Nat}{es:Array MapEntry}{c:Nat}(hm:w.heap[m]?=some (.map es c)){val:α→Value}{kvs:List (Int×α)}(h:MapC AY val es c kvs)
  (hl:kvs.length≤maxLen)(hs: ∀x∈kvs, -9223372036854775808≤x.1∧x.1≤9223372036854775807):
  ∃D:DataW Unit,w.ownsMap P k Gs m kvs.length D∧(Go.intKeys D).Perm (kvs.map (·.1))∧Maps.size D=kvs.length:=by
 have hkeys:=h.of.keys Bq.i64;have hlen:es.size=kvs.length:=by have:=congrArg List.length hkeys;simpa using this
 have hr: ∀x∈es.toList,∃s:Int,x.key=AY s∧(-9223372036854775808≤s∧s≤9223372036854775807):=by
  intro x hx;have:x.key∈es.toList.map (·.key):=CD hx;rw[hkeys]at this;obtain⟨y,hy,hye⟩:=BV.1 this;exact⟨y.1,hye.symm,hs y hy⟩
 have hmap:(es.toList.map (Go.WideElems.rg P k Gs)).map (λp=>Go.intOf p.1)=kvs.map (·.1):=by
  have e1:(es.toList.map (Go.WideElems.rg P k Gs)).map (λp=>AY (Go.intOf p.1))=es.toList.map (·.key):=by
   rw[Fp];apply List.map_congr_left;intro x hx;obtain⟨s,hxs,hss⟩:=hr x hx;simp only[Function.comp_def,Go.WideElems.rg,Xi hk hxs hss,FD,Go.intOf,hxs]
  rw[hkeys]at e1;have inj: ∀l1 l2:List Int,l1.map AY=l2.map AY→l1=l2:=by
   intro l1
   induction l1 with
   |nil=>intro l2 h;cases l2 with|nil=>rfl|cons=>simp at h
   |cons a l1 ih=>
    intro l2 h;cases l2 with
    |nil=>simp at h
    |cons b l2=>
     simp only[A4,List.cons.injEq]at h;rw[Bq.i64.inj h.1,ih l2 h.2]
  apply inj;simp only[Fp,Function.comp_def]at e1⊢;exact e1
 refine⟨_,⟨es,c,hm,⟨AA,h.st,λx hx=>?_⟩,AA,rfl⟩,?_,?_⟩
 ·obtain⟨s,hxs,hss⟩:=hr x hx;exact⟨_,Xi hk hxs hss⟩
 ·show((List.foldr DataW.insert [] (es.toList.map (Go.WideElems.rg P k Gs))).map λp=>Go.intOf p.1).Perm _;rw[←hmap];exact(Go.WideShapes.sorted_perm _).map _
 ·show(List.foldr DataW.insert [] (es.toList.map (Go.WideElems.rg P k Gs))).length=_;rw[(Go.WideShapes.sorted_perm _).length_eq];simp[hlen]
abbrev keysI(b:Nat):Value:= .func (.func nE) #[] #[.pointer (some ⟨b,0,none⟩)]
theorem sW(mb:Option Nat)(w:World):Cl Tryz.prog nD [.map mb] w λv w'=>v=keysI w.heap.size∧w'=w.alloc (.cells #[.map mb] IB):=by
 refine .inl ⟨Tryz.callKeysI _ _,Calls.mono (callsIn_wide.1 (Tryz.mapsKeysI mb w)) ?_⟩;rintro e w'⟨rfl,rfl⟩;exact⟨_,rfl,rfl,rfl⟩
theorem xU{α:Type}{w:World}{m:Nat}{es:Array MapEntry}{c:Nat}(hm:w.heap[m]?=some (.map es c)){val:α→Value}{kvs:List (Int×α)}(h:MapC AY val es c kvs)(hl:kvs.length≤1099511627776)(hs: ∀x∈kvs, -9223372036854775808≤x.1∧x.1≤9223372036854775807):
  Cl Tryz.prog oV [keysI w.heap.size] (w.alloc (.cells #[.map (some m)] IB)) λv w'=>∃(ns:List Int)(a:Option Addr)(cap:Nat)(Lv:AH),ns.Perm (kvs.map (·.1))∧v= .slice a ns.length cap∧AT BP 1 a ns.length cap (ns.map AY) Lv∧
   St (w.alloc (.cells #[.map (some m)] IB)) [] Lv w':=by
 have hmx:1099511627776≤maxLen:=AC;obtain⟨D,ho,hp,hsz⟩:=vS (k:=BP) Eo hm h AA hs;refine .inl ⟨Tryz.callSortedI _ _,Calls.mono (callsIn_wide.1 (Tryz.sortedKeysI m kvs.length D Gs w ho (by rw[hsz];omega) (by rw[hsz];omega))) ?_⟩;rintro e w'⟨v,ss,rfl,hS,hrow, -,hb⟩;have hl2:(ss.mergeSort (λx y=>decide (x≤y))).length=ss.length:=(List.mergeSort_perm ss _).length_eq;rw[←hl2]at hrow;obtain⟨a,cap,Lv,rfl,hv,hst⟩:=Ym hrow hb
 exact⟨_,rfl,_,a,cap,Lv,((List.mergeSort_perm ss _).trans hS).trans hp,rfl,hv,hst⟩
end Go.Proofs.YtkgibdhpijdbfaaGreatDoor
namespace Go.Proofs.YtkgibdhpijdbfaaGreatDoor
open Go Go.Eng Go.Proofs Go.Srt
theorem EC.old{w w':World}{H:AH}(hS:St w [] H w'){xs:List Value}{ls:List (List AF)}(h:EC w xs ls):EC w' xs ls:=by
 induction h with
 |nil=>exact .nil
 |cons ha hc _ ih=>exact .cons (hS.arrOld ha) hc ih
theorem xE(t:Int)(g:List AF):(Ez t g).length≤1:=by
 unfold Ez
 split
 ·simp
 ·split<;>simp
theorem uN{t:Int}{g:List AF}:(GC t g=none→Ez t g=[])∧ ∀i(h:i<g.length),GC t g=some i→Ez t g=if g[i].d then []else [g[i]]:=by
 constructor
 ·intro h;unfold GC at h;unfold Ez K4;rw[List.findIdx?_eq_none_iff]at h;rw[List.find?_eq_none.2 (λx hx=>by have:=h x hx;simpa using this)]
 ·intro i hi h;unfold GC at h;obtain⟨_,h1,h2⟩:=Mo.1 h;unfold Ez K4;have h3:g=g.take i++g[i]::g.drop (i+1):=by rw[←FQ hi,CO]
  have:g.find? (λx=>decide (x.s≤t))=some g[i]:=by
   rw[List.find?_eq_some_iff_append];refine⟨h1,_,_,h3,λa ha=>?_⟩;obtain⟨j,hj,rfl⟩:=Hr.1 ha;rw[BR]at hj;rw[List.getElem_take];have:=h2 j AA;simpa using this
  rw[this]
theorem xF(t:Int)(gs:List (List AF))(k:Nat):((gs.take k).flatMap (Ez t)).length≤k:=by
 induction k generalizing gs with
 |zero=>simp
 |succ k ih=>
  cases gs with
  |nil=>simp
  |cons g gs=>
   have:=ih gs;have:=xE t g;simp only[List.take_succ_cons,FA,AP];omega
theorem aN{w:World}{a:Option Addr}{c:Nat}{l:List AF}{t:Int}(ha:Arr w [] a (l.flatMap AU))(hc:l.length≤c)(hn:l.length≤16777216)(h1:C1 l):
  Cl Tryz.prog nV [.slice a l.length c,.int .i64 t] w λv w'=>∃r a' c' L,r.Perm l∧Az r∧v= .slice a' (FG t r).length c'∧AT Aq 4 a' (FG t r).length c' ((FG t r).flatMap AU) L∧St w [] L w':=by
 have hS:=St.start w;refine fU rfl ?_;refine jq ⟨?_⟩;refine hS.al ?_;intro b w1 _ hS;refine jq ⟨?_⟩;have hL:EC w1 [.slice a l.length c] [l]:= .cons (hS.arrOld ha) hc .nil;refine(NY (ls:=[l]) (hS.arr (b:=b) (T':=[]) AB) hL AB (by simpa using hn) (by simpa using h1)).mono ?_;rintro _ w2⟨r,a2,c2,L2,hp,hr,rfl,hv2,hS2⟩;rw[List.flatten_singleton]at hp;have hlen:=hp.length_eq;have hS:=hS.callNew hS2;have hgl:=Ml r
 refine jq ⟨?_⟩;refine(Vp (hv2.arr hS2 (T':=[]) AB) hv2.cap AA).mono ?_;rintro _ w3⟨a3,c3,xs,L3,rfl,hL3,hv3,hS3⟩;have hL4:=hL3.old hS3;have ha3:Arr w3 [] a3 xs:=hv3.arr hS3 (T':=[]) AB;have hxl:=hL4.len;have hS0:=hS.callNew hS3;clear hS hS2 hS3 hv3 hL3 hL hv2;have hS:=St.start w3;refine jq ⟨?_⟩;refine AL.loop (λi:Nat×Option Addr×Nat=>[(1,.int .i64 t),(5,.slice i.2.1 (((BC r).take i.1).flatMap (Ez t)).length i.2.2),(12,.slice a3 (BC r).length c3),(13,.int .i64 (BC r).length),(14,.int .i64 i.1)])
  (λi w'=>i.1≤(BC r).length∧ ∃L,AT Aq 4 i.2.1 (((BC r).take i.1).flatMap (Ez t)).length i.2.2 ((((BC r).take i.1).flatMap (Ez t)).flatMap AU) L∧St w3 [] L w') (λi=>(BC r).length-i.1) (0,none,0)
  ⟨rfl,rfl,rfl,rfl,rfl,trivial⟩ ⟨Ag _,[],AT.nil,hS⟩ ?_
 clear hS;rintro⟨k,a4,c4⟩w4⟨hk,L,hv,hS⟩;simp only at hk hv hS⊢;by_cases hkl:k<(BC r).length
 ·obtain⟨a5,c5,hx,ha5,hc5⟩:=hL4.get k hkl;obtain⟨g,off,rfl, -, -⟩:=ha3.get (j:=k) AA;have hgr:((BC r)[k]).length≤r.length:=by
   have:=(List.sublist_flatten_of_mem (Ca hkl)).length_le;rw[Iq]at this;exact this
  have htk:=xF t (BC r) k;have hsucc:((BC r).take (k+1)).flatMap (Ez t)=((BC r).take k).flatMap (Ez t)++Ez t (BC r)[k]:=by
   rw[Bs hkl,Hn];simp
  refine jq ⟨?_⟩;refine Arr.ldc (j:=k) hS ha3 hx AA ?_;refine jq ⟨?_⟩;refine(Wl (hS.arrOld ha5) AA).mono ?_;rintro _ w5⟨rfl,hS'⟩;have hS:=hS.call0 hS';have hsee:=uN (t:=t) (g:=(BC r)[k]);generalize(BC r)[k]=q at ha5 hc5 hgr hsucc hsee⊢;unfold K5;cases hni:GC t q with
  |none=>
   have hs:=hsee.1 hni;rw[hs,BU]at hsucc;simp only;refine jq ⟨?_⟩;exact⟨(k+1,a4,c4),⟨rfl,by rw[hsucc];rfl,rfl,rfl,rfl,trivial⟩,⟨hkl,L,by rw[hsucc];exact hv,hS⟩,by simp;omega⟩
  |some i=>
   have hil:i<q.length:=(Mo.1 hni).1;have hs:=hsee.2 i hil hni;obtain⟨g5,o5,rfl,hx5⟩:=FO ha5 hil;generalize q[i]=u at hs hx5;simp only;refine jq ⟨?_⟩;refine hS.ldOld AB (by have:=hx5 2 _ rfl;rw[show o5+((i:Int)).toNat*4+2=o5+i*4+2 by omega];exact this) ?_;cases hd:u.d with
   |true=>
    rw[hs,if_pos hd,BU]at hsucc;refine jq ⟨?_⟩;exact⟨(k+1,a4,c4),⟨rfl,by rw[hsucc];rfl,rfl,rfl,rfl,trivial⟩,⟨hkl,L,by rw[hsucc];exact hv,hS⟩,by simp;omega⟩
   |false=>
    rw[hs,hd,if_neg AB]at hsucc;refine jq ⟨?_⟩;refine IQ (cs:=[AG u.k,.int .i64 u.s,.bool u.d,AG u.v]) rfl (λj x hj=>hS.oldCell AB (by have:=hx5 j x hj;rw[show o5+((i:Int)).toNat*4+j=o5+i*4+j by omega];exact this)) ?_;refine jq ⟨?_⟩;refine hS.al ?_;intro b6 w6 _ hS;refine jq ⟨?_⟩;refine St.app (sz:=4) (m:=1) AK rfl rfl rfl rfl hS hv (news:=AU u) (by rfl) (hS.arr (b:=b6) (T':=[]) AB) (by rfl) (by show(_+_)*48≤_;omega) AA ?_
    intro a7 c7 L7 w7 hv7 hS;refine jq ⟨?_⟩;exact⟨(k+1,a7,c7),⟨rfl,by rw[hsucc,AP];rfl,rfl,rfl,rfl,trivial⟩,⟨hkl,L7,by rw[hsucc,AP,Hj];exact hv7,hS.sub (AS _ _)⟩,by simp;omega⟩
 ·obtain rfl:k=(BC r).length:=AA;rw[Bz]at hv⊢;refine jq ⟨?_⟩;exact⟨r,a4,c4,L,hp,hr,rfl,hv,(hS0.callNew hS).sub (CC _ _)⟩
theorem V7(g:List AF)(seen:List Int)(n:Int)(i:Nat):De g (seen++[n]) i=(De g seen i||decide (GC n g=some i)):=by
 unfold De;rw[List.any_append,←Bool.or_assoc];simp
def H5(g:List AF)(seen:List Int)(kvs:List (Int×Int)):Prop:=∀i:Nat,(Al (i:Int) kvs).getD 0=if De g seen i then 1 else 0
theorem H5.start(g:List AF):H5 g [] (Ba 0 1 []):=λi=>by
 rw[G6];unfold De;by_cases h:i=0
 ·subst h;simp
 ·rw[if_neg AA];simp[h,Al]
theorem H5.none{g:List AF}{seen:List Int}{kvs:List (Int×Int)}(h:H5 g seen kvs){n:Int}(hn:GC n g=none):H5 g (seen++[n]) kvs:=λi=>by
 rw[V7,hn,h i];simp
theorem H5.some{g:List AF}{seen:List Int}{kvs:List (Int×Int)}(h:H5 g seen kvs){n:Int}{j:Nat}(hn:GC n g= .some j):H5 g (seen++[n]) (Ba (j:Int) 1 kvs):=λi=>by
 rw[V7,hn,G6];by_cases e:i=j
 ·subst e;simp
 ·rw[if_neg AA,h i];have: ¬j=i:=λh=>e h.symm;simp[this]
theorem yX{w:World}{a b:Option Addr}{c d:Nat}{g:List AF}{seen:List Int}(ha:Arr w [] a (g.flatMap AU))(hg:g.length≤16777216)(hb:Arr w [] b (seen.map AY))(hs:seen.length≤1099511627776):
  Cl Tryz.prog nZ [.slice a g.length c,.bool true,.slice b seen.length d] w λv w'=>∃a' c' L,v= .slice a' (E4 seen g).length c'∧AT Aq 4 a' (E4 seen g).length c' ((E4 seen g).flatMap AU) L∧St w [] L w':=by
 have hS:=St.start w;refine fZ rfl ?_;refine jq ⟨?_⟩;refine hS.al ?_;intro m w1 _ hS;refine jq ⟨?_⟩;refine St.mapSet (val:=AY) (v:=1) (k:=0) (kvs:=[]) AK Bq.i64 rfl rfl Eo hS (es:= #[]) ⟨rfl,by simp[E5]⟩ ?_;intro es1 cl1 w2 hm1 hS;refine jq ⟨?_⟩;refine AL.loop (λk:Nat=>[(0,.slice a g.length c),(1,.bool true),(7,.map (some m)),(16,.slice b seen.length d),(17,.int .i64 seen.length),(18,.int .i64 k)])
  (λk w'=>k≤seen.length∧ ∃es cl kvs,MapC AY AY es cl kvs∧H5 g (seen.take k) kvs∧St w [] [(m,.map es cl)] w') (λk=>seen.length-k) 0
  ⟨rfl,rfl,rfl,rfl,rfl,rfl,trivial⟩ ⟨Ag _,es1,cl1,_,hm1,H5.start g,hS⟩ ?_
 clear hS hm1;rintro k w3⟨hk,es,cl,kvs,hm,hkeep,hS⟩;by_cases hkl:k<seen.length
 ·have hx:(seen.map AY)[k]?=some (AY seen[k]):=by rw[Ex,CB hkl];rfl
  obtain⟨q,off,rfl, -, -⟩:=hb.get (j:=k) (by rw[BM];exact hkl);have hsucc:=Bs hkl;generalize seen[k]=n at hx hsucc;refine jq ⟨?_⟩;refine Arr.ldc hS hb hx AB ?_;unfold AY;refine jq ⟨?_⟩;refine(Wl (hS.arrOld ha) AA).mono ?_;rintro _ w4⟨rfl,hS'⟩;have hS:=hS.call0 hS';unfold K5;cases hni:GC n g with
  |none=>
   simp only;refine jq ⟨?_⟩;exact⟨k+1,⟨rfl,rfl,rfl,rfl,rfl,rfl,trivial⟩,⟨hkl,es,cl,kvs,hm,by rw[hsucc];exact hkeep.none hni,hS⟩,AA⟩
  |some i=>
   have hil:i<g.length:=(Mo.1 hni).1;simp only;refine jq ⟨?_⟩;refine St.mapSet (val:=AY) (v:=1) AK Bq.i64 rfl rfl Eo hS hm ?_;intro es2 cl2 w5 hm2 hS;refine jq ⟨?_⟩;exact⟨k+1,⟨rfl,rfl,rfl,rfl,rfl,rfl,trivial⟩,⟨hkl,es2,cl2,_,hm2,by rw[hsucc];exact hkeep.some hni,hS⟩,AA⟩
 ·obtain rfl:k=seen.length:=AA;rw[Bz]at hkeep;clear hk hkl;refine jq ⟨?_⟩;refine AL.loop (λi:Nat×Option Addr×Nat=>[(1,.bool true),(7,.map (some m)),(11,.slice i.2.1 (Dq (De g seen) 0 (g.take i.1)).length i.2.2),(30,.slice a g.length c),(31,.int .i64 g.length),(32,.int .i64 i.1)])
   (λi w'=>i.1≤g.length∧ ∃L,AT Aq 4 i.2.1 (Dq (De g seen) 0 (g.take i.1)).length i.2.2 ((Dq (De g seen) 0 (g.take i.1)).flatMap AU) L∧St w [] (L++[(m,.map es cl)]) w') (λi=>g.length-i.1) (0,none,0)
   ⟨rfl,rfl,rfl,rfl,rfl,rfl,trivial⟩ ⟨Ag _,[],AT.nil,hS⟩ ?_
  clear hS;rintro⟨k,a2,c2⟩w4⟨hk,L,hv,hS⟩;simp only at hk hv hS⊢;by_cases hkl:k<g.length
  ·obtain⟨q,off,rfl,hx⟩:=FO ha hkl;have hkk:=hkeep k;have hlen:(Dq (De g seen) 0 (g.take k)).length≤k:=by
    have:=(K1 (De g seen) (g.take k) 0).length_le;rw[BR]at this;omega
   have hsucc:Dq (De g seen) 0 (g.take (k+1))=Dq (De g seen) 0 (g.take k)++if De g seen k then [g[k]]else []:=by
    rw[Bs hkl,WE,BR,Nat.min_eq_left AA,Cs]
   generalize g[k]=u at hx hsucc;refine jq ⟨?_⟩;refine IQ (cs:=[AG u.k,.int .i64 u.s,.bool u.d,AG u.v]) rfl (λj x hj=>hS.oldCell AB (by have:=hx j x hj;rw[show off+((k:Int)).toNat*4+j=off+k*4+j by omega];exact this)) ?_;refine jq ⟨?_⟩;refine hS.al ?_;intro b3 w5 _ hS;(repeat(refine jt ⟨?_⟩;refine hS.q ?_;intro _ hS));refine jt ⟨?_⟩;refine K3 (kvs:=kvs) (λw'' hw'=>⟨es,cl,by subst hw';exact hS.mem (b:=m),hm.of⟩) ?_
   rw[hkk];cases hb:De g seen k with
   |false=>
    rw[hb]at hsucc;simp only[Bool.false_eq_true,if_false,BU]at hsucc⊢;refine jq ⟨?_⟩;exact⟨(k+1,a2,c2),⟨rfl,rfl,by rw[hsucc];rfl,rfl,rfl,rfl,trivial⟩,⟨hkl,L,by rw[hsucc];exact hv,hS.sub (AS _ _)⟩,by simp;omega⟩
   |true=>
    rw[hb]at hsucc;simp only[if_true]at hsucc⊢;(repeat(refine jt ⟨?_⟩;refine hS.q ?_;intro _ hS));refine jt ⟨?_⟩;refine hS.al ?_;intro b6 w6 _ hS;refine jq ⟨?_⟩;refine St.app (sz:=4) (m:=1) AK rfl rfl rfl rfl hS hv (news:=AU u) (by rfl) (hS.arr (b:=b6) (T':=[]) AB) (by rfl) (by show(_+_)*48≤_;omega) AA ?_;intro a7 c7 L7 w7 hv7 hS;refine jq ⟨?_⟩;exact⟨(k+1,a7,c7),⟨rfl,rfl,by rw[hsucc,AP];rfl,rfl,rfl,rfl,trivial⟩,⟨hkl,L7,by rw[hsucc,AP,Hj];exact hv7,hS.sub ((AS _ _).trans (AS _ _))⟩,by simp;omega⟩
  ·obtain rfl:k=g.length:=AA;rw[Bz]at hv⊢;clear hk hkl;have hlen:(Dq (De g seen) 0 g).length≤g.length:=(K1 (De g seen) g 0).length_le;unfold E4;generalize Dq (De g seen) 0 g=K at hv hlen⊢;refine jq ⟨?_⟩;refine AL.loop (λP:List AF=>[(1,.bool true),(11,.slice a2 P.length c2)])
    (λP w'=>IF P=IF K∧P.length≤g.length∧ ∃L,AT Aq 4 a2 P.length c2 (P.flatMap AU) L∧St w [] L w') (λP=>P.length) K
    ⟨rfl,rfl,trivial⟩ ⟨rfl,hlen,L,hv,hS.sub (CC _ _)⟩ ?_
   clear hS hv hlen;rintro P w5⟨hP,hlen,L,hv,hS⟩;rcases J2 P with rfl|⟨Q,x,rfl⟩
   ·refine jq ⟨?_⟩;rw[←hP];exact⟨a2,c2,L,rfl,hv,hS⟩
   ·rw[List.concat_eq_append]at hP hlen hv⊢;rw[cZ]at hP;have hlx:(Q++[x]).length=Q.length+1:=AB;have hq4:=Hi Q;rcases hv.inv with⟨-,h0, -, -, -⟩|⟨q,tl,rfl,hx4,hx5,hx6,rfl⟩
    ·omega
    ·rw[hlx]at hlen hx6;have hcell: ∀j v,(AU x)[j]?=some v→((Q++[x]).flatMap AU++tl)[Q.length*4+j]?=some v:=λj v hj=>by
      rw[Hj,Aj,Dp AA,show Q.length*4+j-(Q.flatMap AU).length=j by omega];simp only[FA,List.flatMap_nil,BU];rw[Cn (FR.1 hj).1];exact hj
     rw[hlx];(repeat(refine jt ⟨?_⟩;refine hS.q ?_;intro _ hS));refine jt ⟨?_⟩;refine hS.ld (v:= .bool x.d) (by have:=hcell 2 _ rfl;rw[show 0+(((Q.length+1:Nat):Int)-1).toNat*4+2=Q.length*4+2 by omega];exact this) ?_;cases hd:x.d with
     |true=>
      rw[if_pos hd]at hP;(repeat(refine jt ⟨?_⟩;refine hS.q ?_;intro _ hS));refine jt ⟨?_⟩;refine⟨Q,⟨rfl,by rw[show(((Q.length+1:Nat):Int)-1).toNat=Q.length by omega];rfl,trivial⟩,⟨hP,AA,_,AT.row q Q.length c2 (Q.flatMap AU) (AU x++tl) hq4 ?_ AA,?_⟩,AA⟩
      ·rw[AP,show(AU x).length=4 from rfl];rw[hx4,hlx]at hx5;omega
      ·rw[Hj,Aj]at hS;simpa using hS
     |false=>
      rw[if_neg (by rw[hd];simp)]at hP;(repeat(refine jt ⟨?_⟩;refine hS.q ?_;intro _ hS));refine jt ⟨?_⟩;rw[←hP];exact⟨_,c2,_,by rw[hlx],hv,hS⟩
theorem yY(seen:List Int)(gs:List (List AF))(k:Nat):((gs.take k).flatMap (E4 seen)).length≤gs.flatten.length:=by
 induction k generalizing gs with
 |zero=>simp
 |succ k ih=>
  cases gs with
  |nil=>simp
  |cons g gs=>
   have h1:=ih gs;have h2:=(KJ seen g).length_le;rw[List.take_succ_cons,FA,Dc,AP,AP];omega
theorem aJ{w:World}{a b:Option Addr}{c d:Nat}{l:List AF}{seen:List Int}(ha:Arr w [] a (l.flatMap AU))(hc:l.length≤c)(hn:l.length≤16777216)(h1:C1 l)(hb:Arr w [] b (seen.map AY))(hs:seen.length≤1099511627776):
  Cl Tryz.prog nU [.slice a l.length c,.bool true,.slice b seen.length d] w λv w'=>∃r a' c' L,r.Perm l∧Az r∧v= .slice a' (BD seen r).length c'∧AT Aq 4 a' (BD seen r).length c' ((BD seen r).flatMap AU) L∧St w [] L w':=by
 have hS:=St.start w;refine fT rfl ?_;refine jq ⟨?_⟩;refine hS.al ?_;intro b1 w1 _ hS;refine jq ⟨?_⟩;have hL:EC w1 [.slice a l.length c] [l]:= .cons (hS.arrOld ha) hc .nil;refine(NY (ls:=[l]) (hS.arr (b:=b1) (T':=[]) AB) hL AB (by simpa using hn) (by simpa using h1)).mono ?_;rintro _ w2⟨r,a2,c2,L2,hp,hr,rfl,hv2,hS2⟩;rw[List.flatten_singleton]at hp;have hlen:=hp.length_eq;have hS:=hS.callNew hS2;have hgl:=Ml r
 refine jq ⟨?_⟩;refine(Vp (hv2.arr hS2 (T':=[]) AB) hv2.cap AA).mono ?_;rintro _ w3⟨a3,c3,xs,L3,rfl,hL3,hv3,hS3⟩;have hL4:=hL3.old hS3;have ha3:Arr w3 [] a3 xs:=hv3.arr hS3 (T':=[]) AB;have hxl:=hL4.len;have hS0:=hS.callNew hS3;have hb3:=hS0.arrOld hb;clear hS hS2 hS3 hv3 hL3 hL hv2;have hS:=St.start w3;refine jq ⟨?_⟩;refine AL.loop (λi:Nat×Option Addr×Nat=>[(1,.bool true),(2,.slice b seen.length d),(7,.slice i.2.1 (((BC r).take i.1).flatMap (E4 seen)).length i.2.2),(13,.slice a3 (BC r).length c3),(14,.int .i64 (BC r).length),(15,.int .i64 i.1)])
  (λi w'=>i.1≤(BC r).length∧ ∃L,AT Aq 4 i.2.1 (((BC r).take i.1).flatMap (E4 seen)).length i.2.2 ((((BC r).take i.1).flatMap (E4 seen)).flatMap AU) L∧St w3 [] L w') (λi=>(BC r).length-i.1) (0,none,0)
  ⟨rfl,rfl,rfl,rfl,rfl,rfl,trivial⟩ ⟨Ag _,[],AT.nil,hS⟩ ?_
 clear hS;rintro⟨k,a4,c4⟩w4⟨hk,L,hv,hS⟩;simp only at hk hv hS⊢;by_cases hkl:k<(BC r).length
 ·obtain⟨a5,c5,hx,ha5,hc5⟩:=hL4.get k hkl;obtain⟨g,off,rfl, -, -⟩:=ha3.get (j:=k) AA;have hgr:((BC r)[k]).length≤r.length:=by
   have:=(List.sublist_flatten_of_mem (Ca hkl)).length_le;rw[Iq]at this;exact this
  have htk:=yY seen (BC r) (k+1);rw[Iq]at htk;have hsucc:((BC r).take (k+1)).flatMap (E4 seen)=((BC r).take k).flatMap (E4 seen)++E4 seen (BC r)[k]:=by
   rw[Bs hkl,Hn];simp
  rw[hsucc,AP]at htk;generalize(BC r)[k]=q at hx ha5 hc5 hgr hsucc htk;refine jq ⟨?_⟩;refine Arr.ldc (j:=k) hS ha3 hx AA ?_;refine jq ⟨?_⟩;refine(yX (hS.arrOld ha5) AA (hS.arrOld hb3) hs).mono ?_;rintro _ w5⟨a6,c6,L6,rfl,hv6,hS6⟩;have ha6:=hv6.arr hS6 (T':=[]) AB;have hS:St w3 [] (L++L6) w5:=(hS.callNew hS6).perm Gp;refine jq ⟨?_⟩;refine St.app (sz:=4) (m:=(E4 seen q).length) AK rfl rfl rfl rfl hS hv (news:=(E4 seen q).flatMap AU) (Hi _) (hv6.arr hS (T':=[]) AB) (OB _) (by show(_+_)*48≤_;omega) AA ?_
  intro a7 c7 L7 w7 hv7 hS;refine jq ⟨?_⟩;exact⟨(k+1,a7,c7),⟨rfl,rfl,by rw[hsucc,AP];rfl,rfl,rfl,rfl,trivial⟩,⟨hkl,L7,by rw[hsucc,AP,Hj];exact hv7,hS.sub (CC _ _)⟩,by simp;omega⟩
 ·obtain rfl:k=(BC r).length:=AA;rw[Bz]at hv⊢;refine jq ⟨?_⟩;exact⟨r,a4,c4,L,hp,hr,rfl,hv,(hS0.callNew hS).sub (CC _ _)⟩
def Ck(n:Int):Prop:= -9223372036854775808≤n∧n≤9223372036854775807
theorem J1{n:Int}(h:Ck n):(Lib.itoa n).length≤21:=Lib.itoa_length_le n h.1 h.2
theorem Ps{w:World}{n:Int}(hn:Ck n)(hT:F1 w):Cl Tryz.prog mX [.int .i64 n] w λv w'=>v=AG (116::Lib.itoa n)∧St w [] [] w':=by
 have hS:=St.start w;refine eU rfl ?_;refine jq ⟨?_⟩;refine Cl.mono (NV hn.1 hn.2 hT) ?_;rintro _ w1⟨rfl,hS'⟩;have hS:=hS.call0 hS';have hil:=J1 hn;refine jq ⟨?_⟩;refine Ae.mk (by simp;omega) ?_;refine jq ⟨?_⟩;exact⟨rfl,hS⟩
theorem MG{w:World}{n:Int}(hn:Ck n)(hT:F1 w):Cl Tryz.prog mU [.int .i64 n] w λv w'=>v=AG (119::Lib.itoa n)∧St w [] [] w':=by
 have hS:=St.start w;refine eQ rfl ?_;refine jq ⟨?_⟩;refine Cl.mono (NV hn.1 hn.2 hT) ?_;rintro _ w1⟨rfl,hS'⟩;have hS:=hS.call0 hS';have hil:=J1 hn;refine jq ⟨?_⟩;refine Ae.mk (by simp;omega) ?_;refine jq ⟨?_⟩;exact⟨rfl,hS⟩
theorem KZ{w:World}{n:Int}(hn:Ck n)(hT:F1 w):Cl Tryz.prog mT [.int .i64 n] w λv w'=>v=AG (109::Lib.itoa n)∧St w [] [] w':=by
 have hS:=St.start w;refine eP rfl ?_;refine jq ⟨?_⟩;refine Cl.mono (NV hn.1 hn.2 hT) ?_;rintro _ w1⟨rfl,hS'⟩;have hS:=hS.call0 hS';have hil:=J1 hn;refine jq ⟨?_⟩;refine Ae.mk (by simp;omega) ?_;refine jq ⟨?_⟩;exact⟨rfl,hS⟩
theorem uW{c:UInt8}(h1:c.toNat≠116)(h2:c.toNat≠119)(h3:c.toNat≠109):JT c=false:=by
 unfold JT;have e1:(c==116)=false:=beq_eq_false_iff_ne.2 λe=>h1 (by rw[e];rfl);have e2:(c==119)=false:=beq_eq_false_iff_ne.2 λe=>h2 (by rw[e];rfl);have e3:(c==109)=false:=beq_eq_false_iff_ne.2 λe=>h3 (by rw[e];rfl);rw[e1,e2,e3];rfl
theorem TB{w:World}{t:AE}(ht:t.length≤281474976710656)(hE:H1 w)(hT:F1 w):Cl Tryz.prog mV [AG t] w λv w'=>v=Jc t∧St w [] [] w':=by
 have hS:=St.start w;refine eS rfl ?_;cases t with
 |nil=>
  refine jq ⟨?_⟩;exact⟨rfl,hS⟩
 |cons c r=>
  have hlen:(c::r).length=r.length+1:=rfl;refine jq ⟨?_⟩;rw[decide_eq_false (List.cons_ne_nil c r)];refine jq ⟨?_⟩;refine Cl.mono (Yv (s:=r) AA hE) ?_;rintro _ w2⟨hS',n,ev,rfl,hrng,hev⟩;have hS:=hS.call0 hS';have hp:=XL (c:=c) (r:=r) (n:=n) hrng (hev.imp (λh=>h.1) (λh=>h.1));have hfalse:EE c r n=false→Value.tuple ⟨[.int .u8 0,.int .i64 0,.bool false]⟩=Jc (c::r):=λh=>by
   unfold Jc;rw[hp,h];rfl
  have htrue:EE c r n=true→Value.tuple ⟨[.int .u8 (c.toNat:Nat),.int .i64 n,.bool true]⟩=Jc (c::r):=λh=>by
   unfold Jc;rw[hp,h];rfl
  have hil:=J1 hrng;rcases hev with⟨ha,rfl⟩|⟨ha, -,t,p,rfl⟩
  ·refine jq ⟨?_⟩;refine AL.draw AK mixed (λw'=>St w [] [] w') [] [0,1,2,3,4,5,6,7,9,10,8,11,12] AD hS.drew ?_;have hS:=hS.drew;generalize w2.drew=w2 at hS;refine jr ⟨?_⟩;refine uL AK rfl rfl ?_;by_cases hn1:n<1
   ·have hf:EE c r n=false:=by unfold EE;rw[decide_eq_false AA];rfl
    refine jr ⟨?_⟩;refine jq ⟨?_⟩;exact⟨hfalse hf,hS⟩
   ·refine jr ⟨?_⟩;refine Cl.mono (NV hrng.1 hrng.2 (hT.keep hS)) ?_;rintro _ w3⟨rfl,hS'⟩;have hS:=hS.call0 hS';refine jr ⟨?_⟩;rw[show List.drop (Int.toNat 1) (c::r)=r from rfl];by_cases hr:Lib.itoa n=r
    ·rw[decide_eq_true hr];refine jq ⟨?_⟩;rw[show(c::r).getD (Int.toNat 0) 0=c from rfl];by_cases h1:c.toNat=116
     ·have hc:JT c=true:=by
       have:c=116:=UInt8.toNat_inj.1 h1;subst this;rfl
      have ht:EE c r n=true:=by unfold EE;rw[decide_eq_true hr,hc,decide_eq_true AA];rfl
      refine jq ⟨?_⟩;exact⟨htrue ht,hS⟩
     by_cases h2:c.toNat=119
     ·have hc:JT c=true:=by
       have:c=119:=UInt8.toNat_inj.1 h2;subst this;rfl
      have ht:EE c r n=true:=by unfold EE;rw[decide_eq_true hr,hc,decide_eq_true AA];rfl
      refine jq ⟨?_⟩;exact⟨htrue ht,hS⟩
     by_cases h3:c.toNat=109
     ·have hc:JT c=true:=by
       have:c=109:=UInt8.toNat_inj.1 h3;subst this;rfl
      have ht:EE c r n=true:=by unfold EE;rw[decide_eq_true hr,hc,decide_eq_true AA];rfl
      refine jq ⟨?_⟩;exact⟨htrue ht,hS⟩
     have hc:JT c=false:=uW h1 h2 h3;have hf:EE c r n=false:=by unfold EE;rw[hc];simp
     refine jq ⟨?_⟩;exact⟨hfalse hf,hS⟩
    ·have hf:EE c r n=false:=by unfold EE;rw[decide_eq_false hr];simp
     rw[decide_eq_false hr];refine jq ⟨?_⟩;exact⟨hfalse hf,hS⟩
  ·have hne:Lib.itoa n≠r:=λe=>ha n (by rw[←e];exact MT hrng.1 hrng.2);have hf:EE c r n=false:=by unfold EE;rw[decide_eq_false hne];simp
   refine jq ⟨?_⟩;refine AL.draw AK mixed (λw'=>St w [] [] w') [] [0,1,2,3,4,5,6,7,9,10,8,11,12] AD hS.drew ?_;have hS:=hS.drew;generalize w2.drew=w2 at hS;refine jr ⟨?_⟩;refine uK AK rfl rfl ?_;refine jr ⟨?_⟩;refine jq ⟨?_⟩;exact⟨hfalse hf,hS⟩
end Go.Proofs.YtkgibdhpijdbfaaGreatDoor
namespace Go.Proofs.YtkgibdhpijdbfaaGreatDoor
open Go Go.Eng Go.Proofs
abbrev Rk:String:= "internal/strconv.uint64pow10"
structure Bp(w:World)(T:List Nat):Prop where
 err:H1 w
 tab:F1 w
 e0:Mc∉T
 e1:Me∉T
 pow: ∀g,Tryz.prog.globalNamed Rk=some g→g∉T
theorem F1.keepT{w0 w:World}{T:List Nat}{H:AH}(h:F1 w0)(hS:St w0 T H w)(hT: ∀g,Tryz.prog.globalNamed Rk=some g→g∉T):F1 w∧ ∀g,Tryz.prog.globalNamed Rk=some g→g<w0.heap.size:=by
 unfold F1 Lib.TabIs World.var? at*;cases hg:Tryz.prog.globalNamed "internal/strconv.uint64pow10" with
 |none=>simp[hg]at h
 |some g=>
  simp only[hg,Option.bind_some]at h⊢;have hlt:g<w0.heap.size:=by
   rcases Nat.lt_or_ge g w0.heap.size with h'|h'
   ·exact h'
   ·rw[Array.getElem?_eq_none h']at h;simp at h
  refine⟨?_,λg' e=>by cases e;exact hlt⟩;rw[hS.old g hlt (hT g hg)];exact h
theorem Bp.keep{w0 w:World}{T:List Nat}{H:AH}(h:Bp w0 T)(hS:St w0 T H w):Bp w T:=⟨h.err.keep hS h.e0 h.e1,(h.tab.keepT hS h.pow).1,h.e0,h.e1,h.pow⟩
theorem T9{w:World}{b:Nat}{v:Value}(h:w.cell? ⟨b,0,none⟩=some v):b<w.heap.size:=by
 rcases Nat.lt_or_ge b w.heap.size with h'|h'
 ·exact h'
 ·simp[World.cell?,Array.getElem?_eq_none h']at h
theorem Bp.step{w0 w:World}{T:List Nat}{H:AH}(h:Bp w0 T)(hS:St w0 T H w):Bp w (keys H):=by
 have hk: ∀b,b<w0.heap.size→b∉T→b∉keys H:=λb h1 h2 h3=>by
  unfold keys at h3;obtain⟨p,hp,rfl⟩:=BV.1 h3;exact h2 (hS.fresh p hp h1)
 obtain⟨⟨_,_,e0⟩,⟨_,_,e1⟩⟩:=h.err;exact⟨h.err.keep hS h.e0 h.e1,(h.tab.keepT hS h.pow).1,hk _ (T9 e0) h.e0,hk _ (T9 e1) h.e1,λg hg=>hk _ ((h.tab.keepT hS h.pow).2 g hg) (h.pow g hg)⟩
theorem Bp.sub{w:World}{T T':List Nat}(h:Bp w T)(hs: ∀b,b∈T'→b∈T):Bp w T':=⟨h.err,h.tab,λx=>h.e0 (hs _ x),λx=>h.e1 (hs _ x),λg hg x=>h.pow g hg (hs _ x)⟩
end Go.Proofs.YtkgibdhpijdbfaaGreatDoor
namespace Go.Proofs.YtkgibdhpijdbfaaGreatDoor
open Go Go.Eng Go.Proofs Go.Srt
theorem aP{w:World}{a:Option Addr}{c:Nat}{v:VM}(hv:G0 w a c v)(hlen:v.files.length≤16777216):
  Cl Tryz.prog mY [.agg ⟨DC a c v⟩] w λr w'=>∃a' c' L,r= .agg ⟨Dv a' none c' 0 (Ep v)⟩∧AT BE 2 a' v.files.length c' (v.files.flatMap Ad) L∧St w [] L w':=by
 have hS:=St.start w;unfold DC;refine eV rfl ?_;refine jq ⟨?_⟩;refine hS.al ?_;intro b1 w1 _ hS;refine jq ⟨?_⟩;refine hS.al ?_;intro b2 w2 _ hS;refine jq ⟨?_⟩;refine AL.draw AK mixed (λw'=>St w [] [(b2,.cells ⟨[.slice none 0 0,.slice none 0 0,.int .i64 0,.int .i64 0,.int .i64 0]⟩ Bu (0,0)),(b1,.cells ⟨[.slice a v.files.length c,.int .i64 v.wal,.int .i64 v.next,.int .i64 v.seq]⟩ Ee (0,0))] w') [10] [0,1,3,4,5,6,7,8,2,9,10] AD hS.drew ?_
 have hS:=hS.drew;generalize w2.drew=w2 at hS;refine jr ⟨?_⟩;refine(Si (hv.files.keep hS.nil) hlen).mono ?_;rintro _ w3⟨a3,c3,L3,rfl,hv3,hS'⟩;have hS:=hS.callNew hS';refine Ae.mk (hS.sub (Ah _ _)) ?_;(repeat(refine jt ⟨?_⟩;refine hS.q ?_;intro _ hS));refine jt ⟨?_⟩;exact⟨a3,c3,L3,rfl,hv3,hS.sub (CC _ _)⟩
end Go.Proofs.YtkgibdhpijdbfaaGreatDoor
namespace Go.Proofs.YtkgibdhpijdbfaaGreatDoor
open Go Go.Eng Go.Proofs
theorem sN(l:List Int):(l.map AY).all Value.oneCell'=true:=by
 induction l with
 |nil=>rfl
 |cons p ps ih=>rw[A4,List.all_cons,ih];rfl
theorem bY{w:World}{a:Option Addr}{cap:Nat}{l:List Int}(ha:Arr w [] a (l.map AY))(hlen:l.length≤1099511627776):
  Cl Tryz.prog oN [.slice a l.length cap] w λv w'=>∃a' c' L,v= .slice a' l.length c'∧AT BP 1 a' l.length c' (l.map AY) L∧St w [] L w':=by
 have hS:=St.start w;refine gP rfl ?_;rcases a with _|p
 ·have hl:l=[]:=by
   cases l with
   |nil=>rfl
   |cons x l=>obtain⟨g,off,h, -⟩:=ha.get (j:=0) AB;cases h
  subst hl;refine jq ⟨?_⟩;refine Kk AK rfl rfl ?_;refine jq ⟨?_⟩;exact⟨_,_,[],rfl,AT.nil,hS⟩
 ·refine jq ⟨?_⟩;refine Kk AK rfl rfl ?_;refine jq ⟨?_⟩;refine hS.al ?_;intro r w1 _ hS;have hv:AT BP 1 (some ⟨r,0,none⟩) 0 0 [] [(r,.cells ⟨[]⟩ BP (0,0))]:=AT.row r 0 0 [] [] rfl rfl (AV _);refine jq ⟨?_⟩;refine St.app (sz:=1) (m:=l.length) AK rfl rfl rfl rfl hS hv (news:=l.map AY) AB (hS.arrOld ha) (sN l) (by show(_+_)*8≤_;omega) AA ?_;intro a1 c1 L1 w2 hv hS;rw[CU,Cs]at hv;rw[Cs];refine jq ⟨?_⟩
  exact⟨a1,c1,L1,rfl,hv,hS⟩
end Go.Proofs.YtkgibdhpijdbfaaGreatDoor
