/- Texts of this claim, one behind the other. -/
import Derived.Test.YtkgibdhpijdbfaaGreatDoorZ17
import Derived.Test.YtkgibdhpijdbfaaGreatDoorZ12
import Derived.Test.YtkgibdhpijdbfaaGreatDoorZ19
import Derived.Test.YtkgibdhpijdbfaaGreatDoorZ9
set_option linter.unusedVariables false
set_option linter.unusedSimpArgs false
set_option maxHeartbeats 16000000
namespace Go.Proofs.YtkgibdhpijdbfaaGreatDoor
open Go Go.Eng Go.Proofs
def IR(f:Nat)(name:AE)(n:Nat)(torn dead:Bool):Obj:= .cells ⟨[.int .i64 n,ptr f,AG name,.bool torn,.bool dead]⟩ MR (0,0)
def C5(m:AJ)(name:AE):Int:=if m.off then 7 else if named name then 0 else 4
theorem Wj(s:AE):named s= !(decide (s=[])||decide (40<s.length)):=by
 unfold named;by_cases h:s=[]
 ·simp[h]
 ·simp[h,←Nat.not_lt]
set_option maxRecDepth 4000 in
theorem S6{w:World}{f:Nat}{m:AJ}{L:AH}(hF:BI f m L)(hh:Holds L w)(name:AE)(h0:C5 m name=0)(hlen:(BA m name).1.1.length≤1099511627776):
  Cl Tryz.prog OJ [ptr f,AG name] w λv w'=>∃bl a cap Lv,w.heap.size≤bl∧v= .tuple ⟨[ptr bl,.slice a (DU (BA m name).1.1).1.length cap,.int .i64 0]⟩∧
   AT C0 1 a (DU (BA m name).1.1).1.length cap ((DU (BA m name).1.1).1.map AG) Lv∧
   St w (keys L) (Lv++(bl,IR f name (DU (BA m name).1.1).1.length (!decide ((DU (BA m name).1.1).2=(BA m name).1.1.length)) false)::L) w':=by
 have hS:=St.enter hh;refine Ui rfl ?_;unfold C5 at h0;have hoff:m.off=false:=by
  cases h:m.off with
  |false=>rfl
  |true=>rw[h]at h0;simp at h0
 rw[hoff]at h0;have hnm:named name=true:=by
  cases h:named name with
  |true=>rfl
  |false=>rw[h]at h0;simp at h0
 rw[Wj]at hnm;simp at hnm;refine jq ⟨?_⟩;refine(Ic hF hS.holds).mono ?_;rintro _ w1⟨rfl,hS'⟩;have hS:=hS.call hS';rw[hoff];refine jq ⟨?_⟩;refine Ax.neg hnm.1 ?_;refine jq ⟨?_⟩;refine(Kf hF hS.holds name).mono ?_;rintro _ w2⟨rfl,hS'⟩;have hS:=hS.call hS';generalize BA m name=y at hlen⊢;obtain⟨⟨t,s⟩,e⟩:=y;simp only at hlen⊢;refine jq ⟨?_⟩;refine(TF t hlen).mono ?_;rintro _ w3⟨a,cap,Lv,rfl,hv,hS'⟩;have hS:=hS.callNew hS'
 generalize DU t=sc at hv⊢;obtain⟨ps,k⟩:=sc;simp only at hv⊢;refine jq ⟨?_⟩;refine hS.al ?_;intro bl w4 hbl hS;refine jq ⟨?_⟩;refine⟨bl,a,cap,Lv,hbl,rfl,hv,?_⟩;have e1:decide ((k:Int)=(t.length:Int))=decide (k=t.length):=by simp[Int.ofNat_inj]
 rw[e1]at hS;exact hS.perm Dd.symm
theorem Zn{w:World}{f:Nat}{m:AJ}{L:AH}(hF:BI f m L)(hh:Holds L w)(name:AE)(h0:C5 m name≠0):
  Cl Tryz.prog OJ [ptr f,AG name] w λv w'=>v= .tuple ⟨[.pointer none,.slice none 0 0,.int .i64 (C5 m name)]⟩∧St w (keys L) L w':=by
 have hS:=St.enter hh;refine Ui rfl ?_;unfold C5 at h0⊢;refine jq ⟨?_⟩;refine(Ic hF hS.holds).mono ?_;rintro _ w1⟨rfl,hS'⟩;have hS:=hS.call hS';by_cases hoff:m.off=true
 ·rw[if_pos hoff];rw[hoff];refine jq ⟨?_⟩;exact⟨rfl,hS⟩
 ·have hoff':m.off=false:=by simpa using hoff
  rw[if_neg hoff]at h0⊢;rw[hoff'];have hnm: ¬named name=true:=λh=>by rw[if_pos h]at h0;exact h0 rfl
  rw[if_neg hnm];rw[Wj]at hnm;refine jq ⟨?_⟩;by_cases he:name=[]
  ·refine Ax.pos he ?_;refine jq ⟨?_⟩;exact⟨rfl,hS⟩
  ·have:40<name.length:=by
    apply Nat.lt_of_not_le;intro h;apply hnm;simp[he];omega
   refine Ax.neg he ?_;refine jq ⟨?_⟩;exact⟨rfl,hS⟩
def DG(m:AJ)(name:AE)(n:Nat)(torn dead:Bool)(ps:List AE):Int×(Nat×Bool)×AJ:=
 if dead||m.off then(7,(n,true),m)
 else if torn then(8,(n,false),m)
 else if Bb ps=false then(2,(n,false),m)
 else if ps=[]then(0,(n,false),m)
 else if(BB m name [AQ ps]).1≠0 then((BB m name [AQ ps]).1,(n,decide ((BB m name [AQ ps]).1=7)),(BB m name [AQ ps]).2)
 else((CV (BB m name [AQ ps]).2 name).1,(if(CV (BB m name [AQ ps]).2 name).1=0 then n+ps.length else n,decide ((CV (BB m name [AQ ps]).2 name).1=7)),(CV (BB m name [AQ ps]).2 name).2)
theorem S2{w:World}{bl f:Nat}{m:AJ}{L:AH}{name:AE}{n:Nat}{torn dead:Bool}(hF:BI f m L)(hh:Holds ((bl,IR f name n torn dead)::L) w){a:Option Addr}{cap:Nat}{ps:List AE}
  (ha:Arr w (keys ((bl,IR f name n torn dead)::L)) a (ps.map AG))(hps:BG ps+8*ps.length+((AN m name).getD ([],0)).1.length≤140737488355328)(hn:n+ps.length≤9223372036854775807)
  (h1:m.armed+2≤9223372036854775807)(h2:m.acts+2≤9223372036854775807):
  Cl Tryz.prog Qi [ptr bl,.slice a ps.length cap] w λv w'=>v= .int .i64 (DG m name n torn dead ps).1∧
   ∃L',BI f (DG m name n torn dead ps).2.2 L'∧St w (keys ((bl,IR f name n torn dead)::L)) ((bl,IR f name (DG m name n torn dead ps).2.1.1 torn (DG m name n torn dead ps).2.1.2)::L') w':=by
 have hS:=St.enter hh;unfold IR at hS ha⊢;refine lK rfl ?_;by_cases hd:dead=true
 ·subst hd;have hM:DG m name n torn true ps=(7,(n,true),m):=by simp[DG]
  rw[hM];(repeat(refine jt ⟨?_⟩;refine hS.q ?_;intro _ hS));refine jt ⟨?_⟩;exact⟨rfl,L,hF,hS⟩
 ·have hd':dead=false:=by simpa using hd
  subst hd';(repeat(refine jt ⟨?_⟩;refine hS.q ?_;intro _ hS));refine jt ⟨?_⟩;refine(Ic hF (hS.part (L:=L))).mono ?_;rintro _ w1⟨rfl,hS'⟩;have hS:=hS.call (L:=L) hS';by_cases hoff:m.off=true
  ·rw[hoff];have hM:DG m name n torn false ps=(7,(n,true),m):=by simp[DG,hoff]
   rw[hM];(repeat(refine jt ⟨?_⟩;refine hS.q ?_;intro _ hS));refine jt ⟨?_⟩;exact⟨rfl,L,hF,hS⟩
  ·have hoff':m.off=false:=by simpa using hoff
   rw[hoff'];(repeat(refine jt ⟨?_⟩;refine hS.q ?_;intro _ hS));refine jt ⟨?_⟩;cases torn with
   |true=>
    have hM:DG m name n true false ps=(8,(n,false),m):=by simp[DG,hoff']
    rw[hM];(repeat(refine jt ⟨?_⟩;refine hS.q ?_;intro _ hS));refine jt ⟨?_⟩;exact⟨rfl,L,hF,hS⟩
   |false=>
    (repeat(refine jt ⟨?_⟩;refine hS.q ?_;intro _ hS));refine jt ⟨?_⟩;refine(Pk AA ((hS.arrOld ha).sub AB)).mono ?_;rintro _ w2⟨rfl,hS'⟩;have hS:=hS.call0 hS';by_cases hok:Bb ps=false
    ·have hM:DG m name n false false ps=(2,(n,false),m):=by simp[DG,hoff',hok]
     rw[hM,hok];refine jq ⟨?_⟩;exact⟨rfl,L,hF,hS⟩
    ·have hok':Bb ps=true:=by simpa using hok
     rw[hok',if_pos rfl];by_cases he:ps=[]
     ·have hM:DG m name n false false ps=(0,(n,false),m):=by simp[DG,hoff',he,Bb]
      rw[hM];have hl0:ps.length=0:=by rw[he];rfl
      refine jq ⟨?_⟩;exact⟨rfl,L,hF,hS⟩
     ·have hl0:0<ps.length:=by cases ps with|nil=>exact absurd rfl he|cons=>simp
      have hM:DG m name n false false ps=if(BB m name [AQ ps]).1≠0 then((BB m name [AQ ps]).1,(n,decide ((BB m name [AQ ps]).1=7)),(BB m name [AQ ps]).2)
        else((CV (BB m name [AQ ps]).2 name).1,(if(CV (BB m name [AQ ps]).2 name).1=0 then n+ps.length else n,decide ((CV (BB m name [AQ ps]).2 name).1=7)),(CV (BB m name [AQ ps]).2 name).2):=by
       simp only[DG,hoff',hok',he];rfl
      rw[hM];have hsl:=Dr ps;generalize AQ ps=sb at hsl⊢;refine jq ⟨?_⟩;refine AM.draw AK mixed (λw'=>St w (keys ((bl,.cells ⟨[.int .i64 n,ptr f,AG name,.bool false,.bool false]⟩ MR (0,0))::L)) ((bl,.cells ⟨[.int .i64 n,ptr f,AG name,.bool false,.bool false]⟩ MR (0,0))::L) w')
       [10,11] [0,1,2,3,4,5,6,7,8,9,10,11] AD hS.drew ?_
      have hS:=hS.drew;refine jr ⟨?_⟩;refine hS.al ?_;intro b2 w3 _ hS;refine Ae.mk (hS.sub (AS _ _)) ?_;refine(MD hF (hS.part (L:=L)) name (ps:=[sb]) (hS.arr (b:=b2) (λh=>by have:=hS.nd;simp only[keys,A4,Eu,As,not_or]at this h;exact this.1.2 h)) AB AB ?_ AA AA).mono ?_
      ·have:BG [sb]=sb.length:=by simp[BG]
       omega
      rintro _ w4⟨rfl,L1,hF1,hS'⟩;have hS:=(hS.call (L:=L) hS').sub (AS _ _);have hm1:(BB m name [sb]).2.armed≤m.armed+1:=by
       unfold BB acted;(repeat' split)<;>first|exact AW _|exact D5 _
      have hm2:(BB m name [sb]).2.acts≤m.acts+1:=by
       unfold BB acted;(repeat' split)<;>first|exact AW _|exact D5 _
      generalize BB m name [sb]=am at hF1 hm1 hm2⊢;obtain⟨e1,m1⟩:=am;simp only at hF1 hm1 hm2⊢;by_cases h0:e1=0
      ·subst h0;rw[if_neg AB];refine jq ⟨?_⟩;refine AM.draw AK mixed (λw'=>St w (keys ((bl,.cells ⟨[.int .i64 n,ptr f,AG name,.bool false,.bool false]⟩ MR (0,0))::L)) ((bl,.cells ⟨[.int .i64 n,ptr f,AG name,.bool false,.bool false]⟩ MR (0,0))::L1) w')
        [8,9] [0,1,2,3,4,5,6,7,8,9] AD hS.drew ?_
       have hS:=hS.drew;refine jr ⟨?_⟩;refine(MN hF1 (hS.part (L:=L1)) name AA AA).mono ?_;rintro _ w5⟨rfl,L2,hF2,hS'⟩;have hS:=hS.call (L:=L1) hS';generalize CV m1 name=am at hF2⊢;obtain⟨e2,m2⟩:=am;simp only at hF2⊢;by_cases h7:e2=0
       ·subst h7;rw[if_pos rfl];(repeat(refine jt ⟨?_⟩;refine hS.q ?_;intro _ hS));refine jt ⟨?_⟩;exact⟨rfl,L2,hF2,hS⟩
       ·rw[if_neg h7];(repeat(refine jt ⟨?_⟩;refine hS.q ?_;intro _ hS));refine jt ⟨?_⟩;exact⟨rfl,L2,hF2,hS⟩
      ·rw[if_pos h0];(repeat(refine jt ⟨?_⟩;refine hS.q ?_;intro _ hS));refine jt ⟨?_⟩;exact⟨rfl,L1,hF1,hS⟩
theorem Zx{w:World}{b:Nat}{m:AJ}{L:AH}(hF:BI b m L)(hh:Holds L w)(x y:AE)(h1:m.armed+1≤9223372036854775807)(h2:m.acts+1≤9223372036854775807):
  Cl Tryz.prog VO [ptr b,AG x,AG y] w λv w'=>v= .int .i64 (Cv m x y).1∧ ∃L',BI b (Cv m x y).2 L'∧St w (keys L) L' w':=by
 have hS:=St.enter hh;refine lA rfl ?_;unfold Cv;have hS0:=hS;have hex: ∃mf es c,∃(_:MapC AG JF es c m.files),∃ft Lf,∃(_:JH ft m.fates Lf),L=(b,.cells ⟨[.map ft,.int .i64 m.armed,.int .i64 m.acts,.bool m.off,.map (some mf)]⟩ C1 (0,0))::(mf,.map es c)::Lf:=by
  obtain⟨mf,es,c,hes,ft,Lf,hf⟩:=hF;exact⟨mf,es,c,hes,ft,Lf,hf,rfl⟩
 obtain⟨mf,es,c,hes,ft,Lf,hf,hL⟩:=hex;have hSL:=hS;rw[hL]at hSL;have hS:=hSL;(repeat(refine jt ⟨?_⟩;refine hS.q ?_;intro _ hS));refine jt ⟨?_⟩;have hS:=hS0;by_cases hoff:m.off=true
 ·have hM:(if m.off=false∧named y=false then((4:Int),m)else if(BA m x).2≠0 then((BA m x).2,m)else(if(acted m).off then 7 else 0,if DN m=1 then acted m else{acted m with files:=BV y (BA m x).1 (Cn x m.files)}))=(7,m):=by
   have:BA m x=(([],0),7):=by unfold BA;rw[hoff];rfl
   rw[this,hoff];simp
  rw[hM];repeat(refine Ax.eqt hoff ?_;(repeat(refine jt ⟨?_⟩;refine hS.q ?_;intro _ hS));refine jt ⟨?_⟩)
  refine(Mm hF hS.holds x).mono ?_;rw[show BA m x=(([],0),7) by unfold BA;rw[hoff];rfl];rintro _ w1⟨rfl,hS'⟩;have hS:=hS.call hS';refine jq ⟨?_⟩;refine hS.al ?_;intro r w2 _ hS;(repeat(refine jt ⟨?_⟩;refine hS.q ?_;intro _ hS));refine jt ⟨?_⟩;exact⟨rfl,L,hF,hS.sub (AS _ _)⟩
 ·have hoff':m.off=false:=by simpa using hoff
  repeat(refine Ax.eqf hoff' ?_;(repeat(refine jt ⟨?_⟩;refine hS.q ?_;intro _ hS));refine jt ⟨?_⟩)
  refine(Wl y).mono ?_;rintro _ w1⟨rfl,hS'⟩;have hS:=hS.call0 hS';cases hn:named y with
  |false=>
   rw[if_pos ⟨hoff',rfl⟩];repeat(refine Ax.eqf hoff' ?_;refine jq ⟨?_⟩)
   refine jq ⟨?_⟩;exact⟨rfl,L,hF,hS⟩
  |true=>
   rw[if_neg AB];repeat(refine Ax.eqf hoff' ?_;refine jq ⟨?_⟩)
   refine jq ⟨?_⟩;refine(Mm hF hS.holds x).mono ?_;rintro _ w2⟨rfl,hS'⟩;have hS:=hS.call hS';generalize BA m x=z;obtain⟨u,e⟩:=z;refine jq ⟨?_⟩;refine hS.al ?_;intro r w3 _ hS;(repeat(refine jt ⟨?_⟩;refine hS.q ?_;intro _ hS));refine jt ⟨?_⟩;by_cases he:e=0
   ·subst he;rw[if_neg AB];(repeat(refine jt ⟨?_⟩;refine hS.q ?_;intro _ hS));refine jt ⟨?_⟩;refine(Ns hF (hS.part (L:=L)) h1 h2).mono ?_;rintro _ w4⟨rfl,L1,hF1,hS'⟩;have hS:=hS.call (L:=L) hS';generalize keys L=T0 at hS⊢;by_cases h4:DN m=1
    ·rw[if_pos h4];(repeat(refine jt ⟨?_⟩;refine hS.q ?_;intro _ hS));refine jt ⟨?_⟩;refine(J0 hF1 (hS.part (L:=L1))).mono ?_;rintro _ w6⟨rfl,hS'⟩;have hS:=hS.call (L:=L1) hS';refine jq ⟨?_⟩;exact⟨rfl,_,hF1,hS.sub (AS _ _)⟩
    ·rw[if_neg h4];obtain⟨mf1,es1,c1,hes1,ft1,Lf1,hf1⟩:=hF1;generalize hac:(acted m).off=off1 at hS⊢;(repeat(refine jt ⟨?_⟩;refine hS.q ?_;intro _ hS));refine jt ⟨?_⟩;refine St.mapDel AK Bn.str rfl rfl JD hS hes1 ?_;intro es2 c2 w5 hes2 hS;(repeat(refine jt ⟨?_⟩;refine hS.q ?_;intro _ hS));refine jt ⟨?_⟩;refine AM.draw AK mixed (λw'=>St w T0 _ w') [6] [0,1,2,3,4,5,6] AD hS.drew ?_;have hS:=hS.drew
     refine jr ⟨?_⟩;refine St.mapSet AK Bn.str rfl rfl JD hS (v:=u) hes2 ?_;intro es3 c3 w6 hes3 hS;have hS:=hS.sub (AS _ _);refine jq ⟨?_⟩;have hF2:=BI.mk (b:=b) (m:={acted m with files:=BV y u (Cn x m.files)}) mf1 es3 c3 hes3 ft1 Lf1 hf1;subst hac;refine(J0 hF2 hS.holds).mono ?_;rintro _ w7⟨rfl,hS'⟩;have hS:=hS.call hS';refine jq ⟨?_⟩;exact⟨rfl,_,hF2,hS⟩
   ·rw[if_pos he];(repeat(refine jt ⟨?_⟩;refine hS.q ?_;intro _ hS));refine jt ⟨?_⟩;exact⟨rfl,L,hF,hS.sub (AS _ _)⟩
theorem ZD{w:World}{b A:Nat}{m:AJ}{L:AH}(hF:BI b m L)(hh:Holds L w)(hB:FB A m)(hN:m.files.length≤1099511627776):
  Cl Tryz.prog VL [ptr b] w λv w'=>(m.off=true∧v= .tuple ⟨[.slice none 0 0,.int .i64 7]⟩∧St w (keys L) L w')∨(m.off=false∧ ∃(ns:List AE)(a:Option Addr)(cap:Nat)(Lv:AH),ns.Perm (m.files.map (·.1))∧v= .tuple ⟨[.slice a ns.length cap,.int .i64 0]⟩∧AT C0 1 a ns.length cap (ns.map AG) Lv∧St w (keys L) (Lv++L) w'):=by
 have hS:=St.enter hh;have hmx:1099511627776≤maxLen:=AC;refine kY rfl ?_;have hS0:=hS;have hex: ∃mf es c,∃(_:MapC AG JF es c m.files),∃ft Lf,∃(_:JH ft m.fates Lf),L=(b,.cells ⟨[.map ft,.int .i64 m.armed,.int .i64 m.acts,.bool m.off,.map (some mf)]⟩ C1 (0,0))::(mf,.map es c)::Lf:=by
  obtain⟨mf,es,c,hes,ft,Lf,hf⟩:=hF;exact⟨mf,es,c,hes,ft,Lf,hf,rfl⟩
 obtain⟨mf,es,c,hes,ft,Lf,hf,hL⟩:=hex;have hSL:=hS;rw[hL]at hSL;have hS:=hSL;(repeat(refine jt ⟨?_⟩;refine hS.q ?_;intro _ hS));refine jt ⟨?_⟩;have hS:=hS0;cases hoff:m.off with
 |true=>
  repeat(refine Ax.eqt rfl ?_;(repeat(refine jt ⟨?_⟩;refine hS.q ?_;intro _ hS));refine jt ⟨?_⟩)
  exact .inl ⟨rfl,rfl,hS⟩
 |false=>
  repeat(refine Ax.eqf rfl ?_;(repeat(refine jt ⟨?_⟩;refine hS.q ?_;intro _ hS));refine jt ⟨?_⟩)
  refine(VW hF hS.holds hN (λx hx=>by have:=hB.name x hx;omega)).mono ?_;rintro _ w1⟨ns,a,cap,Lv,hp,rfl,hv,hS'⟩;have hS:=hS.call hS';refine jq ⟨?_⟩;exact .inr ⟨rfl,ns,a,cap,Lv,hp,rfl,hv,hS⟩
theorem Zy{w:World}{b A:Nat}{m:AJ}{L:AH}(hF:BI b m L)(hh:Holds L w)(name:AE){a:Option Addr}{cap:Nat}{ps:List AE}(ha:Arr w (keys L) a (ps.map AG))(hlen:BG ps+8*ps.length≤1099511627776)(hB:FB A m)(hA:A+3≤9223372036854775807):
  Cl Tryz.prog VQ [ptr b,AG name,.slice a ps.length cap] w λv w'=>v= .int .i64 (Cd m name ps).1∧ ∃L',BI b (Cd m name ps).2 L'∧St w (keys L) L' w':=by
 have hS:=St.enter hh;refine lL rfl ?_;unfold Cd;refine jq ⟨?_⟩;refine(Pk AA (ha.sub AB)).mono ?_;rintro _ w1⟨rfl,hS'⟩;have hS:=hS.call0 hS';cases hok:Bb ps with
 |false=>
  rw[if_neg AB,if_neg AB];refine jq ⟨?_⟩;exact⟨rfl,L,hF,hS⟩
 |true=>
  rw[if_pos rfl,if_pos rfl];have ht:(AQ ps).length≤1099511627776:=by rw[Dr];omega
  generalize AQ ps=t at ht⊢;refine jq ⟨?_⟩;have hd1:=hB.del name;have hdg:=N4 (n:=name) hB.nd;unfold CE;refine(id (PZ hF (hS.holds) name (by have:=hB.armed;omega) (by have:=hB.acts;omega))).mono ?_;rintro _ w2⟨rfl,L1,hF1,hS'⟩;have hS:=hS.call (L:=L) hS';generalize A9 m name=dm at hF1 hd1 hdg⊢;obtain⟨e1,m1⟩:=dm;simp only at hF1 hd1 hdg⊢;by_cases hbad:e1≠0∧e1≠5
  ·rw[if_pos hbad];obtain⟨hb0,hb5⟩:=hbad;(repeat(refine jt ⟨?_⟩;refine hS.q ?_;intro _ hS));refine jt ⟨?_⟩;exact⟨rfl,L1,hF1,hS⟩
  ·rw[if_neg hbad];have hok:e1=0∨e1=5:=AA;have hdn:=hdg hok;have ha1:=hd1.app name [t] (by rw[hdn];simpa using ht);by_cases hz:e1=0
   ·subst hz;(repeat(refine jt ⟨?_⟩;refine hS.q ?_;intro _ hS));refine jt ⟨?_⟩
    skip
    refine hS.al ?_;intro b2 w3 _ hS;(repeat(refine jt ⟨?_⟩;refine hS.q ?_;intro _ hS));refine jt ⟨?_⟩;refine Cl.mono (MD hF1 (hS.part (L:=L1)) name (ps:=[t]) (hS.arr (b:=b2) (Cu hS)) AB AB (by rw[hdn];simp[BG];omega) (by have:=hd1.armed;omega) (by have:=hd1.acts;omega)) ?_;rintro _ w4⟨rfl,L2,hF2,hS'⟩;have hS:=(hS.call (L:=L1) hS').sub (AS _ _);generalize BB m1 name [t]=am at hF2 ha1⊢;obtain⟨e2,m2⟩:=am
    simp only at hF2 ha1⊢;by_cases h0:e2=0
    ·subst h0;rw[if_neg AB];(repeat(refine jt ⟨?_⟩;refine hS.q ?_;intro _ hS));refine jt ⟨?_⟩
     skip
     refine Cl.mono (MN hF2 (hS.part (L:=L2)) name (by have:=ha1.armed;omega) (by have:=ha1.acts;omega)) ?_;rintro _ w5⟨rfl,L3,hF3,hS'⟩;have hS:=hS.call (L:=L2) hS';(repeat(refine jt ⟨?_⟩;refine hS.q ?_;intro _ hS));refine jt ⟨?_⟩;exact⟨rfl,L3,hF3,hS⟩
    ·rw[if_pos h0];(repeat(refine jt ⟨?_⟩;refine hS.q ?_;intro _ hS));refine jt ⟨?_⟩;exact⟨rfl,L2,hF2,hS⟩
   ·obtain rfl:e1=5:=AA;(repeat(refine jt ⟨?_⟩;refine hS.q ?_;intro _ hS));refine jt ⟨?_⟩
    skip
    refine hS.al ?_;intro b2 w3 _ hS;(repeat(refine jt ⟨?_⟩;refine hS.q ?_;intro _ hS));refine jt ⟨?_⟩;refine Cl.mono (MD hF1 (hS.part (L:=L1)) name (ps:=[t]) (hS.arr (b:=b2) (Cu hS)) AB AB (by rw[hdn];simp[BG];omega) (by have:=hd1.armed;omega) (by have:=hd1.acts;omega)) ?_;rintro _ w4⟨rfl,L2,hF2,hS'⟩;have hS:=(hS.call (L:=L1) hS').sub (AS _ _);generalize BB m1 name [t]=am at hF2 ha1⊢;obtain⟨e2,m2⟩:=am
    simp only at hF2 ha1⊢;by_cases h0:e2=0
    ·subst h0;rw[if_neg AB];(repeat(refine jt ⟨?_⟩;refine hS.q ?_;intro _ hS));refine jt ⟨?_⟩
     skip
     refine Cl.mono (MN hF2 (hS.part (L:=L2)) name (by have:=ha1.armed;omega) (by have:=ha1.acts;omega)) ?_;rintro _ w5⟨rfl,L3,hF3,hS'⟩;have hS:=hS.call (L:=L2) hS';(repeat(refine jt ⟨?_⟩;refine hS.q ?_;intro _ hS));refine jt ⟨?_⟩;exact⟨rfl,L3,hF3,hS⟩
    ·rw[if_pos h0];(repeat(refine jt ⟨?_⟩;refine hS.q ?_;intro _ hS));refine jt ⟨?_⟩;exact⟨rfl,L2,hF2,hS⟩
theorem VR{w:World}{sb b A:Nat}{m:AJ}{L:AH}(hF:BI b m L)(hh:Holds L w)(hc:w.cell? ⟨sb,2,none⟩=some (ptr b))(hsb:sb∉keys L)(name t:AE)(ht:t.length≤1099511627776)(hB:FB A m)(hA:A+3≤9223372036854775807):
  Cl Tryz.prog U7 [ptr sb,AG name,AG t] w λv w'=>v= .int .i64 (CE m name t).1∧ ∃L',BI b (CE m name t).2 L'∧St w (keys L) L' w':=by
 have hS:=St.enter hh;refine iQ rfl ?_;refine jq ⟨?_⟩;refine hS.ldOld hsb hc ?_;refine jq ⟨?_⟩;have hd1:=hB.del name;have hdg:=N4 (n:=name) hB.nd;unfold CE;refine(id (PZ hF (hS.holds) name (by have:=hB.armed;omega) (by have:=hB.acts;omega))).mono ?_;rintro _ w2⟨rfl,L1,hF1,hS'⟩;have hS:=hS.call (L:=L) hS';generalize A9 m name=dm at hF1 hd1 hdg⊢;obtain⟨e1,m1⟩:=dm;simp only at hF1 hd1 hdg⊢;by_cases hbad:e1≠0∧e1≠5
 ·rw[if_pos hbad];obtain⟨hb0,hb5⟩:=hbad;(repeat(refine jt ⟨?_⟩;refine hS.q ?_;intro _ hS));refine jt ⟨?_⟩;exact⟨rfl,L1,hF1,hS⟩
 ·rw[if_neg hbad];have hok:e1=0∨e1=5:=AA;have hdn:=hdg hok;have ha1:=hd1.app name [t] (by rw[hdn];simpa using ht);by_cases hz:e1=0
  ·subst hz;(repeat(refine jt ⟨?_⟩;refine hS.q ?_;intro _ hS));refine jt ⟨?_⟩
   (refine hS.ldOld hsb hc ?_;(repeat(refine jt ⟨?_⟩;refine hS.q ?_;intro _ hS));refine jt ⟨?_⟩)
   refine hS.al ?_;intro b2 w3 _ hS;(repeat(refine jt ⟨?_⟩;refine hS.q ?_;intro _ hS));refine jt ⟨?_⟩;refine Cl.mono (MD hF1 (hS.part (L:=L1)) name (ps:=[t]) (hS.arr (b:=b2) (Cu hS)) AB AB (by rw[hdn];simp[BG];omega) (by have:=hd1.armed;omega) (by have:=hd1.acts;omega)) ?_;rintro _ w4⟨rfl,L2,hF2,hS'⟩;have hS:=(hS.call (L:=L1) hS').sub (AS _ _);generalize BB m1 name [t]=am at hF2 ha1⊢;obtain⟨e2,m2⟩:=am
   simp only at hF2 ha1⊢;by_cases h0:e2=0
   ·subst h0;rw[if_neg AB];(repeat(refine jt ⟨?_⟩;refine hS.q ?_;intro _ hS));refine jt ⟨?_⟩
    (refine hS.ldOld hsb hc ?_;(repeat(refine jt ⟨?_⟩;refine hS.q ?_;intro _ hS));refine jt ⟨?_⟩)
    refine Cl.mono (MN hF2 (hS.part (L:=L2)) name (by have:=ha1.armed;omega) (by have:=ha1.acts;omega)) ?_;rintro _ w5⟨rfl,L3,hF3,hS'⟩;have hS:=hS.call (L:=L2) hS';(repeat(refine jt ⟨?_⟩;refine hS.q ?_;intro _ hS));refine jt ⟨?_⟩;exact⟨rfl,L3,hF3,hS⟩
   ·rw[if_pos h0];(repeat(refine jt ⟨?_⟩;refine hS.q ?_;intro _ hS));refine jt ⟨?_⟩;exact⟨rfl,L2,hF2,hS⟩
  ·obtain rfl:e1=5:=AA;(repeat(refine jt ⟨?_⟩;refine hS.q ?_;intro _ hS));refine jt ⟨?_⟩
   (refine hS.ldOld hsb hc ?_;(repeat(refine jt ⟨?_⟩;refine hS.q ?_;intro _ hS));refine jt ⟨?_⟩)
   refine hS.al ?_;intro b2 w3 _ hS;(repeat(refine jt ⟨?_⟩;refine hS.q ?_;intro _ hS));refine jt ⟨?_⟩;refine Cl.mono (MD hF1 (hS.part (L:=L1)) name (ps:=[t]) (hS.arr (b:=b2) (Cu hS)) AB AB (by rw[hdn];simp[BG];omega) (by have:=hd1.armed;omega) (by have:=hd1.acts;omega)) ?_;rintro _ w4⟨rfl,L2,hF2,hS'⟩;have hS:=(hS.call (L:=L1) hS').sub (AS _ _);generalize BB m1 name [t]=am at hF2 ha1⊢;obtain⟨e2,m2⟩:=am
   simp only at hF2 ha1⊢;by_cases h0:e2=0
   ·subst h0;rw[if_neg AB];(repeat(refine jt ⟨?_⟩;refine hS.q ?_;intro _ hS));refine jt ⟨?_⟩
    (refine hS.ldOld hsb hc ?_;(repeat(refine jt ⟨?_⟩;refine hS.q ?_;intro _ hS));refine jt ⟨?_⟩)
    refine Cl.mono (MN hF2 (hS.part (L:=L2)) name (by have:=ha1.armed;omega) (by have:=ha1.acts;omega)) ?_;rintro _ w5⟨rfl,L3,hF3,hS'⟩;have hS:=hS.call (L:=L2) hS';(repeat(refine jt ⟨?_⟩;refine hS.q ?_;intro _ hS));refine jt ⟨?_⟩;exact⟨rfl,L3,hF3,hS⟩
   ·rw[if_pos h0];(repeat(refine jt ⟨?_⟩;refine hS.q ?_;intro _ hS));refine jt ⟨?_⟩;exact⟨rfl,L2,hF2,hS⟩
end Go.Proofs.YtkgibdhpijdbfaaGreatDoor
