/- Texts of this claim, one behind the other. -/
import Derived.Test.YtkgibdhpijdbfaaGreatDoorZ28
import Derived.Test.YtkgibdhpijdbfaaGreatDoorZ26
import Derived.Test.YtkgibdhpijdbfaaGreatDoorZ9
import Derived.Test.YtkgibdhpijdbfaaGreatDoorZ18
import Derived.Test.YtkgibdhpijdbfaaGreatDoorZ1
import Derived.Test.YtkgibdhpijdbfaaGreatDoorZ29
import Derived.Test.YtkgibdhpijdbfaaGreatDoorZ12
set_option linter.unusedVariables false
set_option linter.unusedSimpArgs false
set_option maxHeartbeats 16000000
namespace Go.Proofs.YtkgibdhpijdbfaaGreatDoor
open Go Go.Eng Go.Proofs Go.Srt
theorem Do{z:Int}(h:0≤z∧z≤4611686018427387904):CA z:=by unfold CA;omega
theorem Hx{f:Af}:HQ f=true↔1≤f.2∧0≤f.1∧f.1≤1:=by
 unfold HQ;simp only[Bool.not_eq_true',Bool.or_eq_false_iff,decide_eq_false_iff_not];omega
theorem N9{e:EM}(ho:EQ e)(hl:e.add.length<1099511627776)(hd:e.del=[]):(Al e).length≤50+20*e.add.length:=by
 have h1:=DI (n:=e.add.length) AA;have h2:=Qk e.add ho.add;have h3:=DI (n:=0) AA;have h4:=Ms _ ho.wal;have h5:=Ms _ ho.next;have h6:=Ms _ ho.seq;unfold Al;rw[hd];simp only[AP,Bv,Ci,GV,Gj];omega
theorem Mf{v:VM}(ho:EQ (En v))(hl:v.files.length≤8388608):BG (Ay v)+8*(Ay v).length≤268435456:=by
 have h1: ∀p∈Ay v,p.length≤40050:=by
  intro p hp;obtain⟨e,he,rfl⟩:=BU.1 hp;obtain⟨i, -,rfl⟩:=BU.1 he;have hpl:(C3 v i).add.length≤2000:=by
   show((v.files.drop (i*2000)).take 2000).length≤2000;rw[Ba];omega
  have:=N9 (M7 ho i) AA rfl;omega
 have h2:=R8 40050 (Ay v) h1;rw[JT]at h2⊢;have h3:EU v≤4196:=by unfold EU;omega
 have h4:40050*EU v≤40050*4196:=KF _ h3;omega
structure DA(v:VM):Prop where
 good:Good v
 num:v.files.length≤8388608
 wal:v.wal≤2305843009213693952
 next:v.next≤2305843009213693952
 seq:v.seq≤2305843009213693952
theorem DA.whole{v:VM}(h:DA v):C6 (En v)=true∧EQ (En v):=by
 obtain⟨h1,h2, -⟩:=h.good;have hn:=h.next;have hw:=h.wal;have hs:=h.seq;refine⟨?_,λf hf=>?_,λn hn=>(by cases hn),Do ⟨h2.1,by show v.wal≤_;omega⟩,Do ⟨h2.2.1,by show v.next≤_;omega⟩,Do ⟨h2.2.2,by show v.seq≤_;omega⟩⟩
 ·unfold C6;simp only[Bool.and_eq_true,Db];exact⟨⟨λf hf=>(h1.1 f hf).1,λn hn=>(by cases hn)⟩,decide_eq_true h2⟩
 ·obtain⟨h3,h4⟩:=h1.1 f hf;have h5:=Hx.1 h3;exact⟨Do AA,Do AA⟩
theorem DA.succ{v:VM}(h:DA v)(hn:v.next+1≤2305843009213693952):DA {v with next:=v.next+1}:=
 ⟨⟨⟨λf hf=>⟨(h.good.files.1 f hf).1,by have:=(h.good.files.1 f hf).2;simp only;omega⟩,h.good.files.2⟩,⟨h.good.nn.1,by have:=h.good.nn.2.1;simp only;omega,h.good.nn.2.2⟩,by have h2:Dj v.files=v.files:=congrArg VM.files h.good.so;unfold FR;rw[h2]⟩,h.num,h.wal,hn,h.seq⟩
theorem DA.next_fine{v:VM}(h:DA v)(hn:v.next+1≤2305843009213693952):C6 (En {v with next:=v.next+1})=true∧EQ (En {v with next:=v.next+1})∧(BG (Ay {v with next:=v.next+1})+8*(Ay {v with next:=v.next+1}).length≤268435456)∧0≤v.next∧v.next≤2305843009213693952:=
 have h2:=h.succ hn
 ⟨h2.whole.1,h2.whole.2,Mf h2.whole.2 h.num,h.good.nn.2.1,h.next⟩
end Go.Proofs.YtkgibdhpijdbfaaGreatDoor
namespace Go.Proofs.YtkgibdhpijdbfaaGreatDoor
open Go Go.Eng Go.Proofs
theorem _root_.Go.Eng.St.rangeO{P:Program}{T0:BL}(hT:BR P T0){t kt et:TypeId}{i:TI}(hi:tf T0 t=some i)(hk:i.k= .map kt et){w0 w:World}{T:List Nat}{H:AH}{m:Nat}{es:Array MapEntry}{c:Nat}(hS:St w0 T H w)(hm:w.heap[m]?=some (.map es c))
  {K:Value→World→Prop}(h: ∀it w',w0.heap.size≤it→St w0 T ((it,.mapIter (some m) c #[] c)::H) w'→K (.pointer (some ⟨it,0,none⟩)) w'):Bm P (Instr.range t (.map (some m))) w K:=by
 have hu:P.underlying t=some (.map kt et):=by have:=CZ hT hi;rw[hk]at this;exact this
 refine Bm.of (v:= .pointer (some ⟨w.heap.size,0,none⟩)) (w':=w.alloc (.mapIter (some m) c #[] c)) ?_ (h _ _ hS.size (hS.alloc _));simp only[Instr.range,Sem.run_bind,run_underlying hu,Result.andThen_ok,getObj,Sem.run,hm,Sem.run_pure]
 rfl
structure aR where
 seen:Array Nat
 dn:List (Int×Int)
 td:List (Int×Int)
theorem aS{w0 w:World}{T:List Nat}{b1 m l:Nat}{es:Array MapEntry}{c:Nat}{kvs:List (Int×Int)}(hM:MapC AY AY es c kvs)(hm:w0.heap[m]?=some (.map es c))(hmT:m∉T)(hb:w0.cell? ⟨b1,0,none⟩=some (.map (some m)))(hbT:b1∉T)
  (G:List (Int×Int)→AH→Prop)
  (hy: ∀dn x(p:Nat×Obj)H w',dn.length<kvs.length→G dn H→St w0 T (p::H) w'→ ∀K:Value→World→Prop,(∀H2 w2,G (dn++[x]) H2→St w0 T (p::H2) w2→K (.bool true) w2)→Kk Tryz.prog l [AY x.2] w' K)
  {H0:AH}(h0:G [] H0)(hS:St w0 T H0 w):Cl Tryz.prog OI [.func (.yield l) ⟨[]⟩ ⟨[]⟩,ptr b1] w λ_ w'=>∃dn H,dn.Perm kvs∧G dn H∧St w0 T H w':=by
 refine fI rfl ?_;refine Ao.toW ?_;repeat(first|refine Ao.run AK ?_|((first|refine jA ?_ ?_|refine jB ?_ ?_|refine jC ?_ ?_|refine jD ?_ ?_);omega)|refine jE rfl ?_|refine jF (by first|omega|exact Bc AK rfl rfl|decide) ?_|(refine jG ?_;first|with_reducible (first|apply jH|apply jI|apply jJ|apply jK|apply jL)|refine jM AA ?_|refine jN AA ?_|with_reducible refine jM rfl ?_|refine jM (by first|assumption|decide) ?_|refine jN (by first|assumption|decide) ?_)|refine jO (λ_=>AD) ?_)
 refine hS.ldOld hbT hb ?_;repeat(first|refine Ao.run AK ?_|((first|refine jA ?_ ?_|refine jB ?_ ?_|refine jC ?_ ?_|refine jD ?_ ?_);omega)|refine jE rfl ?_|refine jF (by first|omega|exact Bc AK rfl rfl|decide) ?_|(refine jG ?_;first|with_reducible (first|apply jH|apply jI|apply jJ|apply jK|apply jL)|refine jM AA ?_|refine jN AA ?_|with_reducible refine jM rfl ?_|refine jM (by first|assumption|decide) ?_|refine jN (by first|assumption|decide) ?_)|refine jO (λ_=>AD) ?_)
 refine St.rangeO AK rfl rfl hS (hS.oldBlock hmT hm) ?_;intro it w1 _ hS;repeat(first|refine Ao.run AK ?_|((first|refine jA ?_ ?_|refine jB ?_ ?_|refine jC ?_ ?_|refine jD ?_ ?_);omega)|refine jE rfl ?_|refine jF (by first|omega|exact Bc AK rfl rfl|decide) ?_|(refine jG ?_;first|with_reducible (first|apply jH|apply jI|apply jJ|apply jK|apply jL)|refine jM AA ?_|refine jN AA ?_|with_reducible refine jM rfl ?_|refine jM (by first|assumption|decide) ?_|refine jN (by first|assumption|decide) ?_)|refine jO (λ_=>AD) ?_)
 refine Ao.loop (λz:aR=>[(0,.func (.yield l) ⟨[]⟩ ⟨[]⟩),(6,ptr it)])
  (λz w'=>H7 AY AY es z.seen kvs z.dn z.td∧ ∃H,G z.dn H∧St w0 T ((it,.mapIter (some m) c z.seen c)::H) w') (λz=>z.td.length) ⟨#[],[],kvs⟩
  ⟨rfl,rfl,trivial⟩ ⟨H7.start hM,H0,h0,hS⟩ ?_
 clear hS;rintro⟨seen,dn,td⟩w2⟨hR,H,hG,hS⟩;simp only at hR hG hS⊢;repeat(first|refine Ao.run AK ?_|((first|refine jA ?_ ?_|refine jB ?_ ?_|refine jC ?_ ?_|refine jD ?_ ?_);omega)|refine jE rfl ?_|refine jF (by first|omega|exact Bc AK rfl rfl|decide) ?_|(refine jG ?_;first|with_reducible (first|apply jH|apply jI|apply jJ|apply jK|apply jL)|refine jM AA ?_|refine jN AA ?_|with_reducible refine jM rfl ?_|refine jM (by first|assumption|decide) ?_|refine jN (by first|assumption|decide) ?_)|refine jO (λ_=>AD) ?_)
 refine St.nextM (kvs:=kvs) hS (hS.oldBlock hmT hm) hM hR (λhtd=>?_) (λA x B e w5 htd hR2 he1 he2 he3 hS=>?_)
 ·repeat(first|refine Ao.run AK ?_|((first|refine jA ?_ ?_|refine jB ?_ ?_|refine jC ?_ ?_|refine jD ?_ ?_);omega)|refine jE rfl ?_|refine jF (by first|omega|exact Bc AK rfl rfl|decide) ?_|(refine jG ?_;first|with_reducible (first|apply jH|apply jI|apply jJ|apply jK|apply jL)|refine jM AA ?_|refine jN AA ?_|with_reducible refine jM rfl ?_|refine jM (by first|assumption|decide) ?_|refine jN (by first|assumption|decide) ?_)|refine jO (λ_=>AD) ?_)
  subst htd;have hp:=hR.perm;rw[BT]at hp;exact⟨dn,H,hp,hG,hS.sub (AS _ _)⟩
 ·repeat(first|refine Ao.run AK ?_|((first|refine jA ?_ ?_|refine jB ?_ ?_|refine jC ?_ ?_|refine jD ?_ ?_);omega)|refine jE rfl ?_|refine jF (by first|omega|exact Bc AK rfl rfl|decide) ?_|(refine jG ?_;first|with_reducible (first|apply jH|apply jI|apply jJ|apply jK|apply jL)|refine jM AA ?_|refine jN AA ?_|with_reducible refine jM rfl ?_|refine jM (by first|assumption|decide) ?_|refine jN (by first|assumption|decide) ?_)|refine jO (λ_=>AD) ?_)
  refine St.entryM (kvs:=kvs) hS (hS.oldBlock hmT hm) hM he1 he2 he3 ?_;repeat(first|refine Ao.run AK ?_|((first|refine jA ?_ ?_|refine jB ?_ ?_|refine jC ?_ ?_|refine jD ?_ ?_);omega)|refine jE rfl ?_|refine jF (by first|omega|exact Bc AK rfl rfl|decide) ?_|(refine jG ?_;first|with_reducible (first|apply jH|apply jI|apply jJ|apply jK|apply jL)|refine jM AA ?_|refine jN AA ?_|with_reducible refine jM rfl ?_|refine jM (by first|assumption|decide) ?_|refine jN (by first|assumption|decide) ?_)|refine jO (λ_=>AD) ?_)
  refine hy dn x _ H _ (by have:=hR.perm.length_eq;rw[htd]at this;simp at this;omega) hG hS _ (λH2 w6 hG2 hS=>?_);repeat(first|refine Ao.run AK ?_|((first|refine jA ?_ ?_|refine jB ?_ ?_|refine jC ?_ ?_|refine jD ?_ ?_);omega)|refine jE rfl ?_|refine jF (by first|omega|exact Bc AK rfl rfl|decide) ?_|(refine jG ?_;first|with_reducible (first|apply jH|apply jI|apply jJ|apply jK|apply jL)|refine jM AA ?_|refine jN AA ?_|with_reducible refine jM rfl ?_|refine jM (by first|assumption|decide) ?_|refine jN (by first|assumption|decide) ?_)|refine jO (λ_=>AD) ?_)
  exact⟨⟨seen.push e.born,dn++[x],A++B⟩,⟨rfl,rfl,trivial⟩,⟨hR2,H2,hG2,hS⟩,by rw[htd];simp⟩
theorem Y5{w:World}{b1 m:Nat}{es:Array MapEntry}{c:Nat}{kvs:List (Int×Int)}(hM:MapC AY AY es c kvs)(hm:w.heap[m]?=some (.map es c))(hb:w.cell? ⟨b1,0,none⟩=some (.map (some m)))(hl:kvs.length≤1099511627776):
  Cl Tryz.prog oO [.func (.func OI) ⟨[]⟩ ⟨[ptr b1]⟩] w λv w'=>∃dn:List (Int×Int),dn.Perm kvs∧ ∃a c L,v= .slice a dn.length c∧AT BX 1 a dn.length c ((dn.map (·.2)).map AY) L∧St w [] L w':=by
 have hS:=St.start w;refine gT rfl ?_;refine jq ⟨?_⟩;have key:Cl Tryz.prog oJ [.slice none 0 0,.func (.func OI) ⟨[]⟩ ⟨[ptr b1]⟩] w λv w'=>∃dn:List (Int×Int),dn.Perm kvs∧ ∃a c L,v= .slice a dn.length c∧AT BX 1 a dn.length c ((dn.map (·.2)).map AY) L∧St w [] L w':=by
  refine dM rfl ?_;refine EF.seq ?_;refine jq ⟨?_⟩;refine hS.al ?_;intro b2 w1 _ hS;(repeat(refine jt ⟨?_⟩;refine hS.q ?_;intro _ hS));refine jt ⟨?_⟩;refine EF.rangeB rfl ?_;(repeat(refine jt ⟨?_⟩;refine hS.q ?_;intro _ hS));refine jt ⟨?_⟩;refine⟨_,[ptr b1],bZ,rfl,?_⟩;intro lo hy;have hS:=hS.rng (.deferred (some [])) (lo .ready none);generalize hlp:w1.heap.size+1=lp at hS hy⊢;generalize hD:w1.heap.size=D at hS⊢
  refine Cl.mono (aS (w0:=w) (T:=[]) hM hm AB hb AB
   (λdn H=>∃a c2 L,AT BX 1 a dn.length c2 ((dn.map (·.2)).map AY) L∧H=(lp,lo .ready none)::(D,.deferred (some []))::(b2,.cells ⟨[.slice a dn.length c2]⟩ TV (0,0))::L) ?_ ⟨none,0,[],AT.nil,rfl⟩ hS) ?_
  ·rintro dn x p H w' hdl⟨a,c2,L,hV,rfl⟩hS K hK;refine hy _ w' K (hS.mem (b:=lp)) ?_;repeat(first|refine Ao.run AK ?_|((first|refine jA ?_ ?_|refine jB ?_ ?_|refine jC ?_ ?_|refine jD ?_ ?_);omega)|refine jE rfl ?_|refine jF (by first|omega|exact Bc AK rfl rfl|decide) ?_|(refine jG ?_;first|with_reducible (first|apply jH|apply jI|apply jJ|apply jK|apply jL)|refine jM AA ?_|refine jN AA ?_|with_reducible refine jM rfl ?_|refine jM (by first|assumption|decide) ?_|refine jN (by first|assumption|decide) ?_)|refine jO (λ_=>AD) ?_)
   refine⟨hS.mem (b:=lp),?_⟩;have hS:=hS.put (b:=lp) (lo .busy none);generalize w'.putObj lp (lo .busy none)=w2 at hS⊢;have hS:=hS;repeat(first|refine Ao.run AK ?_|((first|refine jA ?_ ?_|refine jB ?_ ?_|refine jC ?_ ?_|refine jD ?_ ?_);omega)|refine jE rfl ?_|refine jF (by first|omega|exact Bc AK rfl rfl|decide) ?_|(refine jG ?_;first|with_reducible (first|apply jH|apply jI|apply jJ|apply jK|apply jL)|refine jM AA ?_|refine jN AA ?_|with_reducible refine jM rfl ?_|refine jM (by first|assumption|decide) ?_|refine jN (by first|assumption|decide) ?_)|refine jO (λ_=>AD) ?_|refine hS.ld rfl ?_|refine hS.ldn rfl ?_|(refine hS.q ?_;intro _ hS))
   refine hS.al ?_;intro b10 w3 _ hS;repeat(first|refine Ao.run AK ?_|((first|refine jA ?_ ?_|refine jB ?_ ?_|refine jC ?_ ?_|refine jD ?_ ?_);omega)|refine jE rfl ?_|refine jF (by first|omega|exact Bc AK rfl rfl|decide) ?_|(refine jG ?_;first|with_reducible (first|apply jH|apply jI|apply jJ|apply jK|apply jL)|refine jM AA ?_|refine jN AA ?_|with_reducible refine jM rfl ?_|refine jM (by first|assumption|decide) ?_|refine jN (by first|assumption|decide) ?_)|refine jO (λ_=>AD) ?_|refine hS.ld rfl ?_|refine hS.ldn rfl ?_|(refine hS.q ?_;intro _ hS))
   refine St.app (sz:=1) (m:=1) AK rfl rfl rfl rfl hS hV (news:=[AY x.2]) rfl (by have:=hS.arr (b:=b10) (T':=[]) AB;exact this) rfl (by show(_+_)*8≤_;omega) AA ?_;intro a2 c3 L2 w4 hV2 hS;repeat(first|refine Ao.run AK ?_|((first|refine jA ?_ ?_|refine jB ?_ ?_|refine jC ?_ ?_|refine jD ?_ ?_);omega)|refine jE rfl ?_|refine jF (by first|omega|exact Bc AK rfl rfl|decide) ?_|(refine jG ?_;first|with_reducible (first|apply jH|apply jI|apply jJ|apply jK|apply jL)|refine jM AA ?_|refine jN AA ?_|with_reducible refine jM rfl ?_|refine jM (by first|assumption|decide) ?_|refine jN (by first|assumption|decide) ?_)|refine jO (λ_=>AD) ?_|refine hS.ld rfl ?_|refine hS.ldn rfl ?_|(refine hS.q ?_;intro _ hS))
   have hS:=hS.sub (AS _ _);have e1:((dn++[x]).map (·.2)).map AY=(dn.map (·.2)).map AY++[AY x.2]:=AB;have e2:(dn++[x]).length=dn.length+1:=AB;exact⟨hS.mem (b:=lp),hK _ _ ⟨a2,c3,L2,by rw[e1,e2];exact hV2,rfl⟩ (by rw[e2];exact hS.put (b:=lp) (lo .ready none))⟩
  ·rintro _ w3⟨dn,H,hp,⟨a,c2,L,hV,rfl⟩,hS⟩;refine⟨.ready,none,hS.mem (b:=lp),AC,?_⟩;have hS:=hS.put (b:=lp) (lo .exhausted none);generalize w3.putObj lp (lo .exhausted none)=w4 at hS⊢;have hS:=hS;repeat(first|refine Ao.run AK ?_|((first|refine jA ?_ ?_|refine jB ?_ ?_|refine jC ?_ ?_|refine jD ?_ ?_);omega)|refine jE rfl ?_|refine jF (by first|omega|exact Bc AK rfl rfl|decide) ?_|(refine jG ?_;first|with_reducible (first|apply jH|apply jI|apply jJ|apply jK|apply jL)|refine jM AA ?_|refine jN AA ?_|with_reducible refine jM rfl ?_|refine jM (by first|assumption|decide) ?_|refine jN (by first|assumption|decide) ?_)|refine jO (λ_=>AD) ?_|refine hS.ld rfl ?_|refine hS.ldn rfl ?_|(refine hS.q ?_;intro _ hS))
   refine⟨hS.mem (b:=D),?_⟩;have hS:=hS.put (b:=D) (.deferred none);generalize w4.putObj D (.deferred none)=w5 at hS⊢;have hS:=hS;repeat(first|refine Ao.run AK ?_|((first|refine jA ?_ ?_|refine jB ?_ ?_|refine jC ?_ ?_|refine jD ?_ ?_);omega)|refine jE rfl ?_|refine jF (by first|omega|exact Bc AK rfl rfl|decide) ?_|(refine jG ?_;first|with_reducible (first|apply jH|apply jI|apply jJ|apply jK|apply jL)|refine jM AA ?_|refine jN AA ?_|with_reducible refine jM rfl ?_|refine jM (by first|assumption|decide) ?_|refine jN (by first|assumption|decide) ?_)|refine jO (λ_=>AD) ?_|refine hS.ld rfl ?_|refine hS.ldn rfl ?_|(refine hS.q ?_;intro _ hS))
   exact⟨dn,hp,a,c2,L,rfl,hV,hS.sub (.cons _ (.cons _ (.cons _ (List.Sublist.refl _))))⟩
 refine key.mono ?_;rintro _ w1⟨dn,hp,a,c2,L,rfl,hv,hS'⟩;refine jq ⟨?_⟩;exact⟨dn,hp,a,c2,L,rfl,hv,hS'⟩
theorem aU{w:World}{mb:Option Nat}:Cl Tryz.prog nH [.map mb] w λv w'=>∃b1,v= .func (.func OI) ⟨[]⟩ ⟨[ptr b1]⟩∧St w [] [(b1,.cells ⟨[.map mb]⟩ Nq (0,0))] w':=by
 have hS:=St.start w;refine fH rfl ?_;refine jq ⟨?_⟩;refine hS.al ?_;intro b1 w1 _ hS;(repeat(refine jt ⟨?_⟩;refine hS.q ?_;intro _ hS));refine jt ⟨?_⟩;refine Bm.of rfl ?_;refine jq ⟨?_⟩;exact⟨b1,rfl,hS⟩
def Pa(v:VM)(ts:List (Int×List AF))(ps:List AE)(w:World)(T0:List Nat)(L:AH)(r:Value)(w':World):Prop:=
 ∃a ca La tm et ct ks Lt pa pc Lp,r= .tuple ⟨[.agg ⟨[.slice a v.files.length ca,.int .i64 v.wal,.int .i64 v.next,.int .i64 v.seq,.map (some tm),.slice pa ps.length pc]⟩,.int .i64 0]⟩∧
  Ds a ca v La∧MapC AY (λb:Nat=>ptr b) et ct ks∧Cj ks ts Lt∧AT C0 1 pa ps.length pc (ps.map AG) Lp∧St w T0 (Lp++(La++((tm,.map et ct)::(Lt++L)))) w'
def FX:VM:=⟨[],0,1,0⟩
theorem Ds.new:Ds none 0 FX []:=⟨AT.nil,AC⟩
set_option maxRecDepth 4000 in
theorem TL{w:World}{f:Nat}{m:AJ}{L:AH}(hF:BI f m L)(hh:Holds L w)(h5:(BA m Bf).2=5):
  Cl Tryz.prog Qg [ptr f] w λr w'=>Pa FX [] [] w (keys L) L r w':=by
 have hS:=St.enter hh;generalize keys L=T0 at hS⊢;refine Uh rfl ?_;(repeat(refine jt ⟨?_⟩;refine hS.q ?_;intro _ hS));refine jt ⟨?_⟩;refine hS.al ?_;intro b2 w1 _ hS;(repeat(refine jt ⟨?_⟩;refine hS.q ?_;intro _ hS));refine jt ⟨?_⟩;refine hS.al ?_;intro tm w2 _ hS;(repeat(refine jt ⟨?_⟩;refine hS.q ?_;intro _ hS));refine jt ⟨?_⟩;refine hS.al ?_;intro b4 w3 _ hS;(repeat(refine jt ⟨?_⟩;refine hS.q ?_;intro _ hS));refine jt ⟨?_⟩
 refine Cl.mono (Kf hF (hS.part (L:=L)) Bf) ?_;rintro _ w4⟨rfl,hS'⟩;have hS:=hS.call (L:=L) hS';rw[h5];(repeat(refine jt ⟨?_⟩;refine hS.q ?_;intro _ hS));refine jt ⟨?_⟩;refine⟨none,0,[],tm, #[],0,[],[],none,0,[],rfl,Ds.new,⟨rfl,by simp[E3]⟩,.nil,AT.nil,?_⟩;exact hS.sub (.cons _ (.cons_cons _ (.cons _ (List.Sublist.refl _))))
theorem Wx(l:AE)(n:Nat)(h:4≤n):Co (l.take n)=Co l:=by
 unfold Co;have e: ∀i,i<4→(l.take n).getD i 0=l.getD i 0:=by
  intro i hi;simp only[Gk,IJ,if_pos (show i<n by omega)]
 rw[e 0 AA,e 1 AA,e 2 AA,e 3 AA]
theorem qZ{t:AE}{k:Nat}(h:(B7 t k).2.2=0): ¬t.length<k+8∧ ¬(65536<Co (t.drop k)∨(t.drop k).length<Co (t.drop k)+8)∧Fj [(t.drop k).take 4,((t.drop k).take (8+Co (t.drop k))).drop 8]=Co ((t.drop k).drop 4)∧
  B7 t k=(((t.drop k).take (8+Co (t.drop k))).drop 8,k+8+Co (t.drop k),0):=by
 unfold B7 at h⊢
 split at h
 ·cases h
 ·next h1=>
  split at h
  ·cases h
  ·next h2=>
   split at h
   ·next h3=>exact⟨h1,h2,h3,by rw[if_neg h1,if_neg h2,if_pos h3]⟩
   ·cases h
theorem q6{t:AE}{k n:Nat}(h:(B7 t k).2.2=0)(hn:(B7 t k).2.1≤n):B7 (t.take n) k=B7 t k:=by
 obtain⟨h1,h2,h3,h4⟩:=qZ h;rw[h4]at hn⊢;simp only at hn;have hl:(t.take n).length=min n t.length:=Ba;have hdl:(t.drop k).length=t.length-k:=D3;have hd:(t.take n).drop k=(t.drop k).take (n-k):=List.drop_take;have e1:Co ((t.take n).drop k)=Co (t.drop k):=by rw[hd,Wx _ _ AA]
 have e2:((t.take n).drop k).take 4=(t.drop k).take 4:=by rw[hd,List.take_take,IM AA]
 have e3:((t.take n).drop k).take (8+Co (t.drop k))=(t.drop k).take (8+Co (t.drop k)):=by rw[hd,List.take_take,IM AA]
 have e4:Co (((t.take n).drop k).drop 4)=Co ((t.drop k).drop 4):=by
  rw[hd,List.drop_take,Wx _ _ AA]
 have e5:((t.take n).drop k).length=min (n-k) (t.drop k).length:=by rw[hd,Ba]
 unfold B7;rw[if_neg AA,e1,e2,e3,e4,if_neg (by rw[e5];omega),if_pos h3]
theorem q5{t:AE}{k:Nat}(h:t.length<k+8):(B7 t k).2.2≠0:=by
 unfold B7;rw[if_pos h];decide
end Go.Proofs.YtkgibdhpijdbfaaGreatDoor
namespace Go.Proofs.YtkgibdhpijdbfaaGreatDoor
open Go Go.Eng Go.Proofs Go.Srt
def next(t:AE)(v:VM)(k:Nat):Option (VM×Nat):=
 if(B7 t k).2.2=0 then match Fk (B7 t k).1 with
  |none=>none
  |some e=>match BN v e with
   |none=>none
   |some v'=>some (v',(B7 t k).2.1)
 else none
inductive Rd(t:AE):VM→Nat→VM×Nat→Prop where
 |stop {v:VM} {k:Nat} (h:next t v k=none):Rd t v k (v,k)
 |step {v v':VM} {k k':Nat} {X:VM×Nat} (h:next t v k=some (v',k')) (r:Rd t v' k' X):Rd t v k X
theorem Rd.unique{t:AE}{v:VM}{k:Nat}{X Y:VM×Nat}(h:Rd t v k X):Rd t v k Y→X=Y:=by
 induction h with
 |stop h=>
  intro h2;cases h2 with
  |stop _=>rfl
  |step h' _=>rw[h]at h';cases h'
 |step h r ih=>
  intro h2;cases h2 with
  |stop h'=>rw[h]at h';cases h'
  |step h' r'=>rw[h]at h';cases h';exact ih r'
theorem Wo{t:AE}{v v':VM}{k k':Nat}(h:next t v k=some (v',k')):k+8≤k'∧k'≤t.length:=by
 unfold next at h
 split at h
 ·next h0=>
  have:=Qn t k h0
  split at h
  ·cases h
  ·split at h
   ·cases h
   ·simp only[Option.some.injEq,Prod.mk.injEq]at h;omega
 ·cases h
theorem Rd.le{t:AE}{v:VM}{k:Nat}{X:VM×Nat}(h:Rd t v k X):k≤X.2:=by
 induction h with
 |stop h=>exact AW _
 |step h r ih=>have:=Wo h;omega
theorem Rd.take{t:AE}{v:VM}{k:Nat}{X:VM×Nat}(h:Rd t v k X):Rd (t.take X.2) v k X:=by
 induction h with
 |@stop v k h=>
  refine .stop ?_;unfold next
  rw[if_neg (q5 (by rw[Ba];show min k _<_;omega))]
 |@step v v' k k' X h r ih=>
  refine .step (v':=v') (k':=k') ?_ ih;have hle:=r.le;have hk:=Wo h;unfold next at h⊢
  split at h
  ·next h0=>
   have hend:(B7 t k).2.1=k':=by
    split at h
    ·cases h
    ·split at h
     ·cases h
     ·simp only[Option.some.injEq,Prod.mk.injEq]at h;exact h.2
   have e:=q6 h0 (n:=X.2) AA;rw[e,if_pos h0];exact h
  ·cases h
theorem bC{t:AE}{e:EM}(h:Fk t=some e)(ht:t.length<18446744073709551616):e.add.length≤t.length:=by
 obtain⟨rfl, -, -⟩:=(Mc ht).1 h;have hfl: ∀l:List Af,l.length≤(DY l).length:=by
  intro l
  induction l with
  |nil=>exact Ag _
  |cons f l ih=>
   have:=LG (Eb f.1);simp only[DY,Hk,A4,Dc,AP,Ah,Bg]at ih⊢;omega
 have:=hfl e.add;unfold Al;simp only[AP];omega
def QW(o:Option EM):Int:=match o with
 |none=>11
 |some _=>0
theorem JG.zero:JG none none 0 0 Kd [] []:=⟨AT.nil,AT.nil,AC,AC⟩
theorem PY.out{o:Option EM}{r:Value}{w w':World}(h:PY o r w w'): ∃a b ca cb La Lb,r= .tuple ⟨[.agg ⟨Du a b ca cb (o.getD Kd)⟩,.int .i64 (QW o)]⟩∧JG a b ca cb (o.getD Kd) La Lb∧St w [] (La++Lb) w':=by
 cases o with
 |none=>obtain⟨h1,h2⟩:=h;exact⟨_,_,_,_,[],[],h1,JG.zero,h2⟩
 |some v=>exact h
theorem PU.out{o:Option VM}{r:Value}{w w':World}(h:PU o r w w'): ∃a c L,r= .tuple ⟨[.agg ⟨C8 a c (o.getD Cs)⟩,.bool o.isSome]⟩∧Ds a c (o.getD Cs) L∧St w [] L w':=by
 cases o with
 |none=>obtain⟨h1,h2⟩:=h;exact⟨none,0,[],h1,Ds.zero,h2⟩
 |some v=>exact h
end Go.Proofs.YtkgibdhpijdbfaaGreatDoor
