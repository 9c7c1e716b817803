/- Texts of this claim, one behind the other. -/
import Derived.Test.YtkgibdhpijdbfaaGreatDoorZ18
import Derived.Test.YtkgibdhpijdbfaaGreatDoorZ3
import Derived.Test.YtkgibdhpijdbfaaGreatDoorZ16
import Derived.Test.YtkgibdhpijdbfaaGreatDoorZ22
import Derived.Test.YtkgibdhpijdbfaaGreatDoorZ1
set_option linter.unusedVariables false
set_option linter.unusedSimpArgs false
set_option maxHeartbeats 16000000
namespace Go.Proofs.YtkgibdhpijdbfaaGreatDoor
open Go Go.Eng Go.Proofs
def IS(f:Nat)(name:AE)(n:Nat)(torn dead:Bool):Obj:= .cells ⟨[.int .i64 n,ptr f,AG name,.bool torn,.bool dead]⟩ MN (0,0)
def C9(m:AJ)(name:AE):Int:=if m.off then 7 else if named name then 0 else 4
theorem Wh(s:AE):named s= !(decide (s=[])||decide (40<s.length)):=by
 unfold named;by_cases h:s=[]
 ·simp[h]
 ·simp[h,←Nat.not_lt]
set_option maxRecDepth 4000 in
theorem S9{w:World}{f:Nat}{m:AJ}{L:AH}(hF:BI f m L)(hh:Holds L w)(name:AE)(h0:C9 m name=0)(hlen:(BB m name).1.1.length≤1099511627776):
  Cl Tryz.prog OH [ptr f,AG name] w λv w'=>∃bl a cap Lv,w.heap.size≤bl∧v= .tuple ⟨[ptr bl,.slice a (scan (BB m name).1.1).1.length cap,.int .i64 0]⟩∧
   AT C3 1 a (scan (BB m name).1.1).1.length cap ((scan (BB m name).1.1).1.map AG) Lv∧
   St w (keys L) (Lv++(bl,IS f name (scan (BB m name).1.1).1.length (!decide ((scan (BB m name).1.1).2=(BB m name).1.1.length)) false)::L) w':=by
 have hS:=St.enter hh;refine Uj rfl ?_;unfold C9 at h0;have hoff:m.off=false:=by
  cases h:m.off with
  |false=>rfl
  |true=>rw[h]at h0;simp at h0
 rw[hoff]at h0;have hnm:named name=true:=by
  cases h:named name with
  |true=>rfl
  |false=>rw[h]at h0;simp at h0
 rw[Wh]at hnm;simp at hnm;refine jq ⟨?_⟩;refine(Ie hF hS.holds).mono ?_;rintro _ w1⟨rfl,hS'⟩;have hS:=hS.call hS';rw[hoff];refine jq ⟨?_⟩;refine Ax.neg hnm.1 ?_;refine jq ⟨?_⟩;refine(KX hF hS.holds name).mono ?_;rintro _ w2⟨rfl,hS'⟩;have hS:=hS.call hS';generalize BB m name=y at hlen⊢;obtain⟨⟨t,s⟩,e⟩:=y;simp only at hlen⊢;refine jq ⟨?_⟩;refine(TG t hlen).mono ?_;rintro _ w3⟨a,cap,Lv,rfl,hv,hS'⟩;have hS:=hS.callNew hS'
 generalize scan t=sc at hv⊢;obtain⟨ps,k⟩:=sc;simp only at hv⊢;refine jq ⟨?_⟩;refine hS.al ?_;intro bl w4 hbl hS;refine jq ⟨?_⟩;refine⟨bl,a,cap,Lv,hbl,rfl,hv,?_⟩;have e1:decide ((k:Int)=(t.length:Int))=decide (k=t.length):=by simp[Int.ofNat_inj]
 rw[e1]at hS;exact hS.perm Dd.symm
theorem Zh{w:World}{f:Nat}{m:AJ}{L:AH}(hF:BI f m L)(hh:Holds L w)(name:AE)(h0:C9 m name≠0):
  Cl Tryz.prog OH [ptr f,AG name] w λv w'=>v= .tuple ⟨[.pointer none,.slice none 0 0,.int .i64 (C9 m name)]⟩∧St w (keys L) L w':=by
 have hS:=St.enter hh;refine Uj rfl ?_;unfold C9 at h0⊢;refine jq ⟨?_⟩;refine(Ie hF hS.holds).mono ?_;rintro _ w1⟨rfl,hS'⟩;have hS:=hS.call hS';by_cases hoff:m.off=true
 ·rw[if_pos hoff];rw[hoff];refine jq ⟨?_⟩;exact⟨rfl,hS⟩
 ·have hoff':m.off=false:=by simpa using hoff
  rw[if_neg hoff]at h0⊢;rw[hoff'];have hnm: ¬named name=true:=λh=>by rw[if_pos h]at h0;exact h0 rfl
  rw[if_neg hnm];rw[Wh]at hnm;refine jq ⟨?_⟩;by_cases he:name=[]
  ·refine Ax.pos he ?_;refine jq ⟨?_⟩;exact⟨rfl,hS⟩
  ·have:40<name.length:=by
    apply Nat.lt_of_not_le;intro h;apply hnm;simp[he];omega
   refine Ax.neg he ?_;refine jq ⟨?_⟩;exact⟨rfl,hS⟩
def DJ(m:AJ)(name:AE)(n:Nat)(torn dead:Bool)(ps:List AE):Int×(Nat×Bool)×AJ:=
 if dead||m.off then(7,(n,true),m)
 else if torn then(8,(n,false),m)
 else if Bc ps=false then(2,(n,false),m)
 else if ps=[]then(0,(n,false),m)
 else if(A9 m name [AQ ps]).1≠0 then((A9 m name [AQ ps]).1,(n,decide ((A9 m name [AQ ps]).1=7)),(A9 m name [AQ ps]).2)
 else((CW (A9 m name [AQ ps]).2 name).1,(if(CW (A9 m name [AQ ps]).2 name).1=0 then n+ps.length else n,decide ((CW (A9 m name [AQ ps]).2 name).1=7)),(CW (A9 m name [AQ ps]).2 name).2)
theorem S6{w:World}{bl f:Nat}{m:AJ}{L:AH}{name:AE}{n:Nat}{torn dead:Bool}(hF:BI f m L)(hh:Holds ((bl,IS f name n torn dead)::L) w){a:Option Addr}{cap:Nat}{ps:List AE}
  (ha:Arr w (keys ((bl,IS f name n torn dead)::L)) a (ps.map AG))(hps:BG ps+8*ps.length+((AN m name).getD ([],0)).1.length≤140737488355328)(hn:n+ps.length≤9223372036854775807)
  (h1:m.armed+2≤9223372036854775807)(h2:m.acts+2≤9223372036854775807):
  Cl Tryz.prog Qi [ptr bl,.slice a ps.length cap] w λv w'=>v= .int .i64 (DJ m name n torn dead ps).1∧
   ∃L',BI f (DJ m name n torn dead ps).2.2 L'∧St w (keys ((bl,IS f name n torn dead)::L)) ((bl,IS f name (DJ m name n torn dead ps).2.1.1 torn (DJ m name n torn dead ps).2.1.2)::L') w':=by
 have hS:=St.enter hh;unfold IS at hS ha⊢;refine lJ rfl ?_;by_cases hd:dead=true
 ·subst hd;have hM:DJ m name n torn true ps=(7,(n,true),m):=by simp[DJ]
  rw[hM];(repeat(refine jt ⟨?_⟩;refine hS.q ?_;intro _ hS));refine jt ⟨?_⟩;exact⟨rfl,L,hF,hS⟩
 ·have hd':dead=false:=by simpa using hd
  subst hd';(repeat(refine jt ⟨?_⟩;refine hS.q ?_;intro _ hS));refine jt ⟨?_⟩;refine(Ie hF (hS.part (L:=L))).mono ?_;rintro _ w1⟨rfl,hS'⟩;have hS:=hS.call (L:=L) hS';by_cases hoff:m.off=true
  ·rw[hoff];have hM:DJ m name n torn false ps=(7,(n,true),m):=by simp[DJ,hoff]
   rw[hM];(repeat(refine jt ⟨?_⟩;refine hS.q ?_;intro _ hS));refine jt ⟨?_⟩;exact⟨rfl,L,hF,hS⟩
  ·have hoff':m.off=false:=by simpa using hoff
   rw[hoff'];(repeat(refine jt ⟨?_⟩;refine hS.q ?_;intro _ hS));refine jt ⟨?_⟩;cases torn with
   |true=>
    have hM:DJ m name n true false ps=(8,(n,false),m):=by simp[DJ,hoff']
    rw[hM];(repeat(refine jt ⟨?_⟩;refine hS.q ?_;intro _ hS));refine jt ⟨?_⟩;exact⟨rfl,L,hF,hS⟩
   |false=>
    (repeat(refine jt ⟨?_⟩;refine hS.q ?_;intro _ hS));refine jt ⟨?_⟩;refine(Pi AA ((hS.arrOld ha).sub AB)).mono ?_;rintro _ w2⟨rfl,hS'⟩;have hS:=hS.call0 hS';by_cases hok:Bc ps=false
    ·have hM:DJ m name n false false ps=(2,(n,false),m):=by simp[DJ,hoff',hok]
     rw[hM,hok];refine jq ⟨?_⟩;exact⟨rfl,L,hF,hS⟩
    ·have hok':Bc ps=true:=by simpa using hok
     rw[hok',if_pos rfl];by_cases he:ps=[]
     ·have hM:DJ m name n false false ps=(0,(n,false),m):=by simp[DJ,hoff',he,Bc]
      rw[hM];have hl0:ps.length=0:=by rw[he];rfl
      refine jq ⟨?_⟩;exact⟨rfl,L,hF,hS⟩
     ·have hl0:0<ps.length:=by cases ps with|nil=>exact absurd rfl he|cons=>simp
      have hM:DJ m name n false false ps=if(A9 m name [AQ ps]).1≠0 then((A9 m name [AQ ps]).1,(n,decide ((A9 m name [AQ ps]).1=7)),(A9 m name [AQ ps]).2)
        else((CW (A9 m name [AQ ps]).2 name).1,(if(CW (A9 m name [AQ ps]).2 name).1=0 then n+ps.length else n,decide ((CW (A9 m name [AQ ps]).2 name).1=7)),(CW (A9 m name [AQ ps]).2 name).2):=by
       simp only[DJ,hoff',hok',he];rfl
      rw[hM];have hsl:=Ds ps;generalize AQ ps=sb at hsl⊢;refine jq ⟨?_⟩;refine AL.draw AK mixed (λw'=>St w (keys ((bl,.cells ⟨[.int .i64 n,ptr f,AG name,.bool false,.bool false]⟩ MN (0,0))::L)) ((bl,.cells ⟨[.int .i64 n,ptr f,AG name,.bool false,.bool false]⟩ MN (0,0))::L) w')
       [10,11] [0,1,2,3,4,5,6,7,8,9,10,11] AD hS.drew ?_
      have hS:=hS.drew;refine jr ⟨?_⟩;refine hS.al ?_;intro b2 w3 _ hS;refine Ae.mk (hS.sub (AS _ _)) ?_;refine(KV hF (hS.part (L:=L)) name (ps:=[sb]) (hS.arr (b:=b2) (λh=>by have:=hS.nd;simp only[keys,A4,Ew,As,not_or]at this h;exact this.1.2 h)) AB AB ?_ AA AA).mono ?_
      ·have:BG [sb]=sb.length:=by simp[BG]
       omega
      rintro _ w4⟨rfl,L1,hF1,hS'⟩;have hS:=(hS.call (L:=L) hS').sub (AS _ _);have hm1:(A9 m name [sb]).2.armed≤m.armed+1:=by
       unfold A9 acted;(repeat' split)<;>first|exact AV _|exact Dz _
      have hm2:(A9 m name [sb]).2.acts≤m.acts+1:=by
       unfold A9 acted;(repeat' split)<;>first|exact AV _|exact Dz _
      generalize A9 m name [sb]=am at hF1 hm1 hm2⊢;obtain⟨e1,m1⟩:=am;simp only at hF1 hm1 hm2⊢;by_cases h0:e1=0
      ·subst h0;rw[if_neg AB];refine jq ⟨?_⟩;refine AL.draw AK mixed (λw'=>St w (keys ((bl,.cells ⟨[.int .i64 n,ptr f,AG name,.bool false,.bool false]⟩ MN (0,0))::L)) ((bl,.cells ⟨[.int .i64 n,ptr f,AG name,.bool false,.bool false]⟩ MN (0,0))::L1) w')
        [8,9] [0,1,2,3,4,5,6,7,8,9] AD hS.drew ?_
       have hS:=hS.drew;refine jr ⟨?_⟩;refine(MJ hF1 (hS.part (L:=L1)) name AA AA).mono ?_;rintro _ w5⟨rfl,L2,hF2,hS'⟩;have hS:=hS.call (L:=L1) hS';generalize CW m1 name=am at hF2⊢;obtain⟨e2,m2⟩:=am;simp only at hF2⊢;by_cases h7:e2=0
       ·subst h7;rw[if_pos rfl];(repeat(refine jt ⟨?_⟩;refine hS.q ?_;intro _ hS));refine jt ⟨?_⟩;exact⟨rfl,L2,hF2,hS⟩
       ·rw[if_neg h7];(repeat(refine jt ⟨?_⟩;refine hS.q ?_;intro _ hS));refine jt ⟨?_⟩;exact⟨rfl,L2,hF2,hS⟩
      ·rw[if_pos h0];(repeat(refine jt ⟨?_⟩;refine hS.q ?_;intro _ hS));refine jt ⟨?_⟩;exact⟨rfl,L1,hF1,hS⟩
theorem _root_.Go.Eng.St.rangeO{P:Program}{T0:BO}(hT:BX P T0){t kt et:TypeId}{i:TI}(hi:tf T0 t=some i)(hk:i.k= .map kt et){w0 w:World}{T:List Nat}{H:AH}{m:Nat}{es:Array MapEntry}{c:Nat}(hS:St w0 T H w)(hm:w.heap[m]?=some (.map es c))
  {K:Value→World→Prop}(h: ∀it w',w0.heap.size≤it→St w0 T ((it,.mapIter (some m) c #[] c)::H) w'→K (.pointer (some ⟨it,0,none⟩)) w'):Bk P (Instr.range t (.map (some m))) w K:=by
 have hu:P.underlying t=some (.map kt et):=by have:=CZ hT hi;rw[hk]at this;exact this
 refine Bk.of (v:= .pointer (some ⟨w.heap.size,0,none⟩)) (w':=w.alloc (.mapIter (some m) c #[] c)) ?_ (h _ _ hS.size (hS.alloc _));simp only[Instr.range,Sem.run_bind,run_underlying hu,Result.andThen_ok,getObj,Sem.run,hm,Sem.run_pure]
 rfl
structure aK where
 seen:Array Nat
 dn:List (Int×Int)
 td:List (Int×Int)
theorem aL{w0 w:World}{T:List Nat}{b1 m l:Nat}{es:Array MapEntry}{c:Nat}{kvs:List (Int×Int)}(hM:MapC AY AY es c kvs)(hm:w0.heap[m]?=some (.map es c))(hmT:m∉T)(hb:w0.cell? ⟨b1,0,none⟩=some (.map (some m)))(hbT:b1∉T)
  (G:List (Int×Int)→AH→Prop)
  (hy: ∀dn x(p:Nat×Obj)H w',dn.length<kvs.length→G dn H→St w0 T (p::H) w'→ ∀K:Value→World→Prop,(∀H2 w2,G (dn++[x]) H2→St w0 T (p::H2) w2→K (.bool true) w2)→Kd Tryz.prog l [AY x.2] w' K)
  {H0:AH}(h0:G [] H0)(hS:St w0 T H0 w):Cl Tryz.prog OD [.func (.yield l) ⟨[]⟩ ⟨[]⟩,ptr b1] w λ_ w'=>∃dn H,dn.Perm kvs∧G dn H∧St w0 T H w':=by
 refine fF rfl ?_;refine Ao.toW ?_;repeat(first|refine Ao.run AK ?_|((first|refine jA ?_ ?_|refine jB ?_ ?_|refine jC ?_ ?_|refine jD ?_ ?_);omega)|refine jE rfl ?_|refine jF (by first|omega|exact Bd AK rfl rfl|decide) ?_|(refine jG ?_;first|with_reducible (first|apply jH|apply jI|apply jJ|apply jK|apply jL)|refine jM AA ?_|refine jN AA ?_|with_reducible refine jM rfl ?_|refine jM (by first|assumption|decide) ?_|refine jN (by first|assumption|decide) ?_)|refine jO (λ_=>AD) ?_)
 refine hS.ldOld hbT hb ?_;repeat(first|refine Ao.run AK ?_|((first|refine jA ?_ ?_|refine jB ?_ ?_|refine jC ?_ ?_|refine jD ?_ ?_);omega)|refine jE rfl ?_|refine jF (by first|omega|exact Bd AK rfl rfl|decide) ?_|(refine jG ?_;first|with_reducible (first|apply jH|apply jI|apply jJ|apply jK|apply jL)|refine jM AA ?_|refine jN AA ?_|with_reducible refine jM rfl ?_|refine jM (by first|assumption|decide) ?_|refine jN (by first|assumption|decide) ?_)|refine jO (λ_=>AD) ?_)
 refine St.rangeO AK rfl rfl hS (hS.oldBlock hmT hm) ?_;intro it w1 _ hS;repeat(first|refine Ao.run AK ?_|((first|refine jA ?_ ?_|refine jB ?_ ?_|refine jC ?_ ?_|refine jD ?_ ?_);omega)|refine jE rfl ?_|refine jF (by first|omega|exact Bd AK rfl rfl|decide) ?_|(refine jG ?_;first|with_reducible (first|apply jH|apply jI|apply jJ|apply jK|apply jL)|refine jM AA ?_|refine jN AA ?_|with_reducible refine jM rfl ?_|refine jM (by first|assumption|decide) ?_|refine jN (by first|assumption|decide) ?_)|refine jO (λ_=>AD) ?_)
 refine Ao.loop (λz:aK=>[(0,.func (.yield l) ⟨[]⟩ ⟨[]⟩),(6,ptr it)])
  (λz w'=>H6 AY AY es z.seen kvs z.dn z.td∧ ∃H,G z.dn H∧St w0 T ((it,.mapIter (some m) c z.seen c)::H) w') (λz=>z.td.length) ⟨#[],[],kvs⟩
  ⟨rfl,rfl,trivial⟩ ⟨H6.start hM,H0,h0,hS⟩ ?_
 clear hS;rintro⟨seen,dn,td⟩w2⟨hR,H,hG,hS⟩;simp only at hR hG hS⊢;repeat(first|refine Ao.run AK ?_|((first|refine jA ?_ ?_|refine jB ?_ ?_|refine jC ?_ ?_|refine jD ?_ ?_);omega)|refine jE rfl ?_|refine jF (by first|omega|exact Bd AK rfl rfl|decide) ?_|(refine jG ?_;first|with_reducible (first|apply jH|apply jI|apply jJ|apply jK|apply jL)|refine jM AA ?_|refine jN AA ?_|with_reducible refine jM rfl ?_|refine jM (by first|assumption|decide) ?_|refine jN (by first|assumption|decide) ?_)|refine jO (λ_=>AD) ?_)
 refine St.nextM (kvs:=kvs) hS (hS.oldBlock hmT hm) hM hR (λhtd=>?_) (λA x B e w5 htd hR2 he1 he2 he3 hS=>?_)
 ·repeat(first|refine Ao.run AK ?_|((first|refine jA ?_ ?_|refine jB ?_ ?_|refine jC ?_ ?_|refine jD ?_ ?_);omega)|refine jE rfl ?_|refine jF (by first|omega|exact Bd AK rfl rfl|decide) ?_|(refine jG ?_;first|with_reducible (first|apply jH|apply jI|apply jJ|apply jK|apply jL)|refine jM AA ?_|refine jN AA ?_|with_reducible refine jM rfl ?_|refine jM (by first|assumption|decide) ?_|refine jN (by first|assumption|decide) ?_)|refine jO (λ_=>AD) ?_)
  subst htd;have hp:=hR.perm;rw[BU]at hp;exact⟨dn,H,hp,hG,hS.sub (AS _ _)⟩
 ·repeat(first|refine Ao.run AK ?_|((first|refine jA ?_ ?_|refine jB ?_ ?_|refine jC ?_ ?_|refine jD ?_ ?_);omega)|refine jE rfl ?_|refine jF (by first|omega|exact Bd AK rfl rfl|decide) ?_|(refine jG ?_;first|with_reducible (first|apply jH|apply jI|apply jJ|apply jK|apply jL)|refine jM AA ?_|refine jN AA ?_|with_reducible refine jM rfl ?_|refine jM (by first|assumption|decide) ?_|refine jN (by first|assumption|decide) ?_)|refine jO (λ_=>AD) ?_)
  refine St.entryM (kvs:=kvs) hS (hS.oldBlock hmT hm) hM he1 he2 he3 ?_;repeat(first|refine Ao.run AK ?_|((first|refine jA ?_ ?_|refine jB ?_ ?_|refine jC ?_ ?_|refine jD ?_ ?_);omega)|refine jE rfl ?_|refine jF (by first|omega|exact Bd AK rfl rfl|decide) ?_|(refine jG ?_;first|with_reducible (first|apply jH|apply jI|apply jJ|apply jK|apply jL)|refine jM AA ?_|refine jN AA ?_|with_reducible refine jM rfl ?_|refine jM (by first|assumption|decide) ?_|refine jN (by first|assumption|decide) ?_)|refine jO (λ_=>AD) ?_)
  refine hy dn x _ H _ (by have:=hR.perm.length_eq;rw[htd]at this;simp at this;omega) hG hS _ (λH2 w6 hG2 hS=>?_);repeat(first|refine Ao.run AK ?_|((first|refine jA ?_ ?_|refine jB ?_ ?_|refine jC ?_ ?_|refine jD ?_ ?_);omega)|refine jE rfl ?_|refine jF (by first|omega|exact Bd AK rfl rfl|decide) ?_|(refine jG ?_;first|with_reducible (first|apply jH|apply jI|apply jJ|apply jK|apply jL)|refine jM AA ?_|refine jN AA ?_|with_reducible refine jM rfl ?_|refine jM (by first|assumption|decide) ?_|refine jN (by first|assumption|decide) ?_)|refine jO (λ_=>AD) ?_)
  exact⟨⟨seen.push e.born,dn++[x],A++B⟩,⟨rfl,rfl,trivial⟩,⟨hR2,H2,hG2,hS⟩,by rw[htd];simp⟩
theorem Yz{w:World}{b1 m:Nat}{es:Array MapEntry}{c:Nat}{kvs:List (Int×Int)}(hM:MapC AY AY es c kvs)(hm:w.heap[m]?=some (.map es c))(hb:w.cell? ⟨b1,0,none⟩=some (.map (some m)))(hl:kvs.length≤1099511627776):
  Cl Tryz.prog oO [.func (.func OD) ⟨[]⟩ ⟨[ptr b1]⟩] w λv w'=>∃dn:List (Int×Int),dn.Perm kvs∧ ∃a c L,v= .slice a dn.length c∧AT BP 1 a dn.length c ((dn.map (·.2)).map AY) L∧St w [] L w':=by
 have hS:=St.start w;refine gQ rfl ?_;refine jq ⟨?_⟩;have key:Cl Tryz.prog oJ [.slice none 0 0,.func (.func OD) ⟨[]⟩ ⟨[ptr b1]⟩] w λv w'=>∃dn:List (Int×Int),dn.Perm kvs∧ ∃a c L,v= .slice a dn.length c∧AT BP 1 a dn.length c ((dn.map (·.2)).map AY) L∧St w [] L w':=by
  refine dI rfl ?_;refine ED.seq ?_;refine jq ⟨?_⟩;refine hS.al ?_;intro b2 w1 _ hS;(repeat(refine jt ⟨?_⟩;refine hS.q ?_;intro _ hS));refine jt ⟨?_⟩;refine ED.rangeB rfl ?_;(repeat(refine jt ⟨?_⟩;refine hS.q ?_;intro _ hS));refine jt ⟨?_⟩;refine⟨_,[ptr b1],bT,rfl,?_⟩;intro lo hy;have hS:=hS.rng (.deferred (some [])) (lo .ready none);generalize hlp:w1.heap.size+1=lp at hS hy⊢;generalize hD:w1.heap.size=D at hS⊢
  refine Cl.mono (aL (w0:=w) (T:=[]) hM hm AB hb AB
   (λdn H=>∃a c2 L,AT BP 1 a dn.length c2 ((dn.map (·.2)).map AY) L∧H=(lp,lo .ready none)::(D,.deferred (some []))::(b2,.cells ⟨[.slice a dn.length c2]⟩ TZ (0,0))::L) ?_ ⟨none,0,[],AT.nil,rfl⟩ hS) ?_
  ·rintro dn x p H w' hdl⟨a,c2,L,hV,rfl⟩hS K hK;refine hy _ w' K (hS.mem (b:=lp)) ?_;repeat(first|refine Ao.run AK ?_|((first|refine jA ?_ ?_|refine jB ?_ ?_|refine jC ?_ ?_|refine jD ?_ ?_);omega)|refine jE rfl ?_|refine jF (by first|omega|exact Bd AK rfl rfl|decide) ?_|(refine jG ?_;first|with_reducible (first|apply jH|apply jI|apply jJ|apply jK|apply jL)|refine jM AA ?_|refine jN AA ?_|with_reducible refine jM rfl ?_|refine jM (by first|assumption|decide) ?_|refine jN (by first|assumption|decide) ?_)|refine jO (λ_=>AD) ?_)
   refine⟨hS.mem (b:=lp),?_⟩;have hS:=hS.put (b:=lp) (lo .busy none);generalize w'.putObj lp (lo .busy none)=w2 at hS⊢;have hS:=hS;repeat(first|refine Ao.run AK ?_|((first|refine jA ?_ ?_|refine jB ?_ ?_|refine jC ?_ ?_|refine jD ?_ ?_);omega)|refine jE rfl ?_|refine jF (by first|omega|exact Bd AK rfl rfl|decide) ?_|(refine jG ?_;first|with_reducible (first|apply jH|apply jI|apply jJ|apply jK|apply jL)|refine jM AA ?_|refine jN AA ?_|with_reducible refine jM rfl ?_|refine jM (by first|assumption|decide) ?_|refine jN (by first|assumption|decide) ?_)|refine jO (λ_=>AD) ?_|refine hS.ld rfl ?_|refine hS.ldn rfl ?_|(refine hS.q ?_;intro _ hS))
   refine hS.al ?_;intro b10 w3 _ hS;repeat(first|refine Ao.run AK ?_|((first|refine jA ?_ ?_|refine jB ?_ ?_|refine jC ?_ ?_|refine jD ?_ ?_);omega)|refine jE rfl ?_|refine jF (by first|omega|exact Bd AK rfl rfl|decide) ?_|(refine jG ?_;first|with_reducible (first|apply jH|apply jI|apply jJ|apply jK|apply jL)|refine jM AA ?_|refine jN AA ?_|with_reducible refine jM rfl ?_|refine jM (by first|assumption|decide) ?_|refine jN (by first|assumption|decide) ?_)|refine jO (λ_=>AD) ?_|refine hS.ld rfl ?_|refine hS.ldn rfl ?_|(refine hS.q ?_;intro _ hS))
   refine St.app (sz:=1) (m:=1) AK rfl rfl rfl rfl hS hV (news:=[AY x.2]) rfl (by have:=hS.arr (b:=b10) (T':=[]) AB;exact this) rfl (by show(_+_)*8≤_;omega) AA ?_;intro a2 c3 L2 w4 hV2 hS;repeat(first|refine Ao.run AK ?_|((first|refine jA ?_ ?_|refine jB ?_ ?_|refine jC ?_ ?_|refine jD ?_ ?_);omega)|refine jE rfl ?_|refine jF (by first|omega|exact Bd AK rfl rfl|decide) ?_|(refine jG ?_;first|with_reducible (first|apply jH|apply jI|apply jJ|apply jK|apply jL)|refine jM AA ?_|refine jN AA ?_|with_reducible refine jM rfl ?_|refine jM (by first|assumption|decide) ?_|refine jN (by first|assumption|decide) ?_)|refine jO (λ_=>AD) ?_|refine hS.ld rfl ?_|refine hS.ldn rfl ?_|(refine hS.q ?_;intro _ hS))
   have hS:=hS.sub (AS _ _);have e1:((dn++[x]).map (·.2)).map AY=(dn.map (·.2)).map AY++[AY x.2]:=AB;have e2:(dn++[x]).length=dn.length+1:=AB;exact⟨hS.mem (b:=lp),hK _ _ ⟨a2,c3,L2,by rw[e1,e2];exact hV2,rfl⟩ (by rw[e2];exact hS.put (b:=lp) (lo .ready none))⟩
  ·rintro _ w3⟨dn,H,hp,⟨a,c2,L,hV,rfl⟩,hS⟩;refine⟨.ready,none,hS.mem (b:=lp),AC,?_⟩;have hS:=hS.put (b:=lp) (lo .exhausted none);generalize w3.putObj lp (lo .exhausted none)=w4 at hS⊢;have hS:=hS;repeat(first|refine Ao.run AK ?_|((first|refine jA ?_ ?_|refine jB ?_ ?_|refine jC ?_ ?_|refine jD ?_ ?_);omega)|refine jE rfl ?_|refine jF (by first|omega|exact Bd AK rfl rfl|decide) ?_|(refine jG ?_;first|with_reducible (first|apply jH|apply jI|apply jJ|apply jK|apply jL)|refine jM AA ?_|refine jN AA ?_|with_reducible refine jM rfl ?_|refine jM (by first|assumption|decide) ?_|refine jN (by first|assumption|decide) ?_)|refine jO (λ_=>AD) ?_|refine hS.ld rfl ?_|refine hS.ldn rfl ?_|(refine hS.q ?_;intro _ hS))
   refine⟨hS.mem (b:=D),?_⟩;have hS:=hS.put (b:=D) (.deferred none);generalize w4.putObj D (.deferred none)=w5 at hS⊢;have hS:=hS;repeat(first|refine Ao.run AK ?_|((first|refine jA ?_ ?_|refine jB ?_ ?_|refine jC ?_ ?_|refine jD ?_ ?_);omega)|refine jE rfl ?_|refine jF (by first|omega|exact Bd AK rfl rfl|decide) ?_|(refine jG ?_;first|with_reducible (first|apply jH|apply jI|apply jJ|apply jK|apply jL)|refine jM AA ?_|refine jN AA ?_|with_reducible refine jM rfl ?_|refine jM (by first|assumption|decide) ?_|refine jN (by first|assumption|decide) ?_)|refine jO (λ_=>AD) ?_|refine hS.ld rfl ?_|refine hS.ldn rfl ?_|(refine hS.q ?_;intro _ hS))
   exact⟨dn,hp,a,c2,L,rfl,hV,hS.sub (.cons _ (.cons _ (.cons _ (List.Sublist.refl _))))⟩
 refine key.mono ?_;rintro _ w1⟨dn,hp,a,c2,L,rfl,hv,hS'⟩;refine jq ⟨?_⟩;exact⟨dn,hp,a,c2,L,rfl,hv,hS'⟩
theorem aM{w:World}{mb:Option Nat}:Cl Tryz.prog nH [.map mb] w λv w'=>∃b1,v= .func (.func OD) ⟨[]⟩ ⟨[ptr b1]⟩∧St w [] [(b1,.cells ⟨[.map mb]⟩ Nk (0,0))] w':=by
 have hS:=St.start w;refine fE rfl ?_;refine jq ⟨?_⟩;refine hS.al ?_;intro b1 w1 _ hS;(repeat(refine jt ⟨?_⟩;refine hS.q ?_;intro _ hS));refine jt ⟨?_⟩;refine Bk.of rfl ?_;refine jq ⟨?_⟩;exact⟨b1,rfl,hS⟩
end Go.Proofs.YtkgibdhpijdbfaaGreatDoor
