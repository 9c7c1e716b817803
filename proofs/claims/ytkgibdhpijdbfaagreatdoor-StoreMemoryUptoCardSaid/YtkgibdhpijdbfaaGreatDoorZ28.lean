/- Texts of this claim, one behind the other. -/
import Derived.Test.YtkgibdhpijdbfaaGreatDoorZ18
import Derived.Test.YtkgibdhpijdbfaaGreatDoorZ27
import Derived.Test.YtkgibdhpijdbfaaGreatDoorZ25
import Derived.Test.YtkgibdhpijdbfaaGreatDoorZ16
set_option linter.unusedVariables false
set_option linter.unusedSimpArgs false
set_option maxHeartbeats 16000000
namespace Go.Proofs.YtkgibdhpijdbfaaGreatDoor
open Go Go.Eng Go.Proofs
theorem Zr{w:World}{b:Nat}{m:AJ}{L:AH}(hF:BI b m L)(hh:Holds L w)(x y:AE)(h1:m.armed+1≤9223372036854775807)(h2:m.acts+1≤9223372036854775807):
  Cl Tryz.prog VL [ptr b,AG x,AG y] w λv w'=>v= .int .i64 (Cx m x y).1∧ ∃L',BI b (Cx m x y).2 L'∧St w (keys L) L' w':=by
 have hS:=St.enter hh;refine kZ rfl ?_;unfold Cx;have hS0:=hS;have hex: ∃mf es c,∃(_:MapC AG JC es c m.files),∃ft Lf,∃(_:JE ft m.fates Lf),L=(b,.cells ⟨[.map ft,.int .i64 m.armed,.int .i64 m.acts,.bool m.off,.map (some mf)]⟩ C4 (0,0))::(mf,.map es c)::Lf:=by
  obtain⟨mf,es,c,hes,ft,Lf,hf⟩:=hF;exact⟨mf,es,c,hes,ft,Lf,hf,rfl⟩
 obtain⟨mf,es,c,hes,ft,Lf,hf,hL⟩:=hex;have hSL:=hS;rw[hL]at hSL;have hS:=hSL;(repeat(refine jt ⟨?_⟩;refine hS.q ?_;intro _ hS));refine jt ⟨?_⟩;have hS:=hS0;by_cases hoff:m.off=true
 ·have hM:(if m.off=false∧named y=false then((4:Int),m)else if(BB m x).2≠0 then((BB m x).2,m)else(if(acted m).off then 7 else 0,if Cw m=1 then acted m else{acted m with files:=Ba y (BB m x).1 (Co x m.files)}))=(7,m):=by
   have:BB m x=(([],0),7):=by unfold BB;rw[hoff];rfl
   rw[this,hoff];simp
  rw[hM];repeat(refine Ax.eqt hoff ?_;(repeat(refine jt ⟨?_⟩;refine hS.q ?_;intro _ hS));refine jt ⟨?_⟩)
  refine(Mh hF hS.holds x).mono ?_;rw[show BB m x=(([],0),7) by unfold BB;rw[hoff];rfl];rintro _ w1⟨rfl,hS'⟩;have hS:=hS.call hS';refine jq ⟨?_⟩;refine hS.al ?_;intro r w2 _ hS;(repeat(refine jt ⟨?_⟩;refine hS.q ?_;intro _ hS));refine jt ⟨?_⟩;exact⟨rfl,L,hF,hS.sub (AS _ _)⟩
 ·have hoff':m.off=false:=by simpa using hoff
  repeat(refine Ax.eqf hoff' ?_;(repeat(refine jt ⟨?_⟩;refine hS.q ?_;intro _ hS));refine jt ⟨?_⟩)
  refine(Wj y).mono ?_;rintro _ w1⟨rfl,hS'⟩;have hS:=hS.call0 hS';cases hn:named y with
  |false=>
   rw[if_pos ⟨hoff',rfl⟩];repeat(refine Ax.eqf hoff' ?_;refine jq ⟨?_⟩)
   refine jq ⟨?_⟩;exact⟨rfl,L,hF,hS⟩
  |true=>
   rw[if_neg AB];repeat(refine Ax.eqf hoff' ?_;refine jq ⟨?_⟩)
   refine jq ⟨?_⟩;refine(Mh hF hS.holds x).mono ?_;rintro _ w2⟨rfl,hS'⟩;have hS:=hS.call hS';generalize BB m x=z;obtain⟨u,e⟩:=z;refine jq ⟨?_⟩;refine hS.al ?_;intro r w3 _ hS;(repeat(refine jt ⟨?_⟩;refine hS.q ?_;intro _ hS));refine jt ⟨?_⟩;by_cases he:e=0
   ·subst he;rw[if_neg AB];(repeat(refine jt ⟨?_⟩;refine hS.q ?_;intro _ hS));refine jt ⟨?_⟩;refine(Nm hF (hS.part (L:=L)) h1 h2).mono ?_;rintro _ w4⟨rfl,L1,hF1,hS'⟩;have hS:=hS.call (L:=L) hS';generalize keys L=T0 at hS⊢;by_cases h4:Cw m=1
    ·rw[if_pos h4];(repeat(refine jt ⟨?_⟩;refine hS.q ?_;intro _ hS));refine jt ⟨?_⟩;refine(Jt hF1 (hS.part (L:=L1))).mono ?_;rintro _ w6⟨rfl,hS'⟩;have hS:=hS.call (L:=L1) hS';refine jq ⟨?_⟩;exact⟨rfl,_,hF1,hS.sub (AS _ _)⟩
    ·rw[if_neg h4];obtain⟨mf1,es1,c1,hes1,ft1,Lf1,hf1⟩:=hF1;generalize hac:(acted m).off=off1 at hS⊢;(repeat(refine jt ⟨?_⟩;refine hS.q ?_;intro _ hS));refine jt ⟨?_⟩;refine St.mapDel AK Bq.str rfl rfl JA hS hes1 ?_;intro es2 c2 w5 hes2 hS;(repeat(refine jt ⟨?_⟩;refine hS.q ?_;intro _ hS));refine jt ⟨?_⟩;refine AL.draw AK mixed (λw'=>St w T0 _ w') [6] [0,1,2,3,4,5,6] AD hS.drew ?_;have hS:=hS.drew
     refine jr ⟨?_⟩;refine St.mapSet AK Bq.str rfl rfl JA hS (v:=u) hes2 ?_;intro es3 c3 w6 hes3 hS;have hS:=hS.sub (AS _ _);refine jq ⟨?_⟩;have hF2:=BI.mk (b:=b) (m:={acted m with files:=Ba y u (Co x m.files)}) mf1 es3 c3 hes3 ft1 Lf1 hf1;subst hac;refine(Jt hF2 hS.holds).mono ?_;rintro _ w7⟨rfl,hS'⟩;have hS:=hS.call hS';refine jq ⟨?_⟩;exact⟨rfl,_,hF2,hS⟩
   ·rw[if_pos he];(repeat(refine jt ⟨?_⟩;refine hS.q ?_;intro _ hS));refine jt ⟨?_⟩;exact⟨rfl,L,hF,hS.sub (AS _ _)⟩
theorem Y7{w:World}{b A:Nat}{m:AJ}{L:AH}(hF:BI b m L)(hh:Holds L w)(hB:FB A m)(hN:m.files.length≤1099511627776):
  Cl Tryz.prog VJ [ptr b] w λv w'=>(m.off=true∧v= .tuple ⟨[.slice none 0 0,.int .i64 7]⟩∧St w (keys L) L w')∨(m.off=false∧ ∃(ns:List AE)(a:Option Addr)(cap:Nat)(Lv:AH),ns.Perm (m.files.map (·.1))∧v= .tuple ⟨[.slice a ns.length cap,.int .i64 0]⟩∧AT C3 1 a ns.length cap (ns.map AG) Lv∧St w (keys L) (Lv++L) w'):=by
 have hS:=St.enter hh;have hmx:1099511627776≤maxLen:=AC;refine kX rfl ?_;have hS0:=hS;have hex: ∃mf es c,∃(_:MapC AG JC es c m.files),∃ft Lf,∃(_:JE ft m.fates Lf),L=(b,.cells ⟨[.map ft,.int .i64 m.armed,.int .i64 m.acts,.bool m.off,.map (some mf)]⟩ C4 (0,0))::(mf,.map es c)::Lf:=by
  obtain⟨mf,es,c,hes,ft,Lf,hf⟩:=hF;exact⟨mf,es,c,hes,ft,Lf,hf,rfl⟩
 obtain⟨mf,es,c,hes,ft,Lf,hf,hL⟩:=hex;have hSL:=hS;rw[hL]at hSL;have hS:=hSL;(repeat(refine jt ⟨?_⟩;refine hS.q ?_;intro _ hS));refine jt ⟨?_⟩;have hS:=hS0;cases hoff:m.off with
 |true=>
  repeat(refine Ax.eqt rfl ?_;(repeat(refine jt ⟨?_⟩;refine hS.q ?_;intro _ hS));refine jt ⟨?_⟩)
  exact .inl ⟨rfl,rfl,hS⟩
 |false=>
  repeat(refine Ax.eqf rfl ?_;(repeat(refine jt ⟨?_⟩;refine hS.q ?_;intro _ hS));refine jt ⟨?_⟩)
  refine(VU hF hS.holds hN (λx hx=>by have:=hB.name x hx;omega)).mono ?_;rintro _ w1⟨ns,a,cap,Lv,hp,rfl,hv,hS'⟩;have hS:=hS.call hS';refine jq ⟨?_⟩;exact .inr ⟨rfl,ns,a,cap,Lv,hp,rfl,hv,hS⟩
theorem Zs{w:World}{b A:Nat}{m:AJ}{L:AH}(hF:BI b m L)(hh:Holds L w)(name:AE){a:Option Addr}{cap:Nat}{ps:List AE}(ha:Arr w (keys L) a (ps.map AG))(hlen:BG ps+8*ps.length≤1099511627776)(hB:FB A m)(hA:A+3≤9223372036854775807):
  Cl Tryz.prog VO [ptr b,AG name,.slice a ps.length cap] w λv w'=>v= .int .i64 (Cd m name ps).1∧ ∃L',BI b (Cd m name ps).2 L'∧St w (keys L) L' w':=by
 have hS:=St.enter hh;refine lK rfl ?_;unfold Cd;refine jq ⟨?_⟩;refine(Pi AA (ha.sub AB)).mono ?_;rintro _ w1⟨rfl,hS'⟩;have hS:=hS.call0 hS';cases hok:Bc ps with
 |false=>
  rw[if_neg AB,if_neg AB];refine jq ⟨?_⟩;exact⟨rfl,L,hF,hS⟩
 |true=>
  rw[if_pos rfl,if_pos rfl];have ht:(AQ ps).length≤1099511627776:=by rw[Ds];omega
  generalize AQ ps=t at ht⊢;refine jq ⟨?_⟩;have hd1:=hB.del name;have hdg:=Nz (n:=name) hB.nd;unfold CE;refine(id (PV hF (hS.holds) name (by have:=hB.armed;omega) (by have:=hB.acts;omega))).mono ?_;rintro _ w2⟨rfl,L1,hF1,hS'⟩;have hS:=hS.call (L:=L) hS';generalize BA m name=dm at hF1 hd1 hdg⊢;obtain⟨e1,m1⟩:=dm;simp only at hF1 hd1 hdg⊢;by_cases hbad:e1≠0∧e1≠5
  ·rw[if_pos hbad];obtain⟨hb0,hb5⟩:=hbad;(repeat(refine jt ⟨?_⟩;refine hS.q ?_;intro _ hS));refine jt ⟨?_⟩;exact⟨rfl,L1,hF1,hS⟩
  ·rw[if_neg hbad];have hok:e1=0∨e1=5:=AA;have hdn:=hdg hok;have ha1:=hd1.app name [t] (by rw[hdn];simpa using ht);by_cases hz:e1=0
   ·subst hz;(repeat(refine jt ⟨?_⟩;refine hS.q ?_;intro _ hS));refine jt ⟨?_⟩
    skip
    refine hS.al ?_;intro b2 w3 _ hS;(repeat(refine jt ⟨?_⟩;refine hS.q ?_;intro _ hS));refine jt ⟨?_⟩;refine Cl.mono (KV hF1 (hS.part (L:=L1)) name (ps:=[t]) (hS.arr (b:=b2) (Cp hS)) AB AB (by rw[hdn];simp[BG];omega) (by have:=hd1.armed;omega) (by have:=hd1.acts;omega)) ?_;rintro _ w4⟨rfl,L2,hF2,hS'⟩;have hS:=(hS.call (L:=L1) hS').sub (AS _ _);generalize A9 m1 name [t]=am at hF2 ha1⊢;obtain⟨e2,m2⟩:=am
    simp only at hF2 ha1⊢;by_cases h0:e2=0
    ·subst h0;rw[if_neg AB];(repeat(refine jt ⟨?_⟩;refine hS.q ?_;intro _ hS));refine jt ⟨?_⟩
     skip
     refine Cl.mono (MJ hF2 (hS.part (L:=L2)) name (by have:=ha1.armed;omega) (by have:=ha1.acts;omega)) ?_;rintro _ w5⟨rfl,L3,hF3,hS'⟩;have hS:=hS.call (L:=L2) hS';(repeat(refine jt ⟨?_⟩;refine hS.q ?_;intro _ hS));refine jt ⟨?_⟩;exact⟨rfl,L3,hF3,hS⟩
    ·rw[if_pos h0];(repeat(refine jt ⟨?_⟩;refine hS.q ?_;intro _ hS));refine jt ⟨?_⟩;exact⟨rfl,L2,hF2,hS⟩
   ·obtain rfl:e1=5:=AA;(repeat(refine jt ⟨?_⟩;refine hS.q ?_;intro _ hS));refine jt ⟨?_⟩
    skip
    refine hS.al ?_;intro b2 w3 _ hS;(repeat(refine jt ⟨?_⟩;refine hS.q ?_;intro _ hS));refine jt ⟨?_⟩;refine Cl.mono (KV hF1 (hS.part (L:=L1)) name (ps:=[t]) (hS.arr (b:=b2) (Cp hS)) AB AB (by rw[hdn];simp[BG];omega) (by have:=hd1.armed;omega) (by have:=hd1.acts;omega)) ?_;rintro _ w4⟨rfl,L2,hF2,hS'⟩;have hS:=(hS.call (L:=L1) hS').sub (AS _ _);generalize A9 m1 name [t]=am at hF2 ha1⊢;obtain⟨e2,m2⟩:=am
    simp only at hF2 ha1⊢;by_cases h0:e2=0
    ·subst h0;rw[if_neg AB];(repeat(refine jt ⟨?_⟩;refine hS.q ?_;intro _ hS));refine jt ⟨?_⟩
     skip
     refine Cl.mono (MJ hF2 (hS.part (L:=L2)) name (by have:=ha1.armed;omega) (by have:=ha1.acts;omega)) ?_;rintro _ w5⟨rfl,L3,hF3,hS'⟩;have hS:=hS.call (L:=L2) hS';(repeat(refine jt ⟨?_⟩;refine hS.q ?_;intro _ hS));refine jt ⟨?_⟩;exact⟨rfl,L3,hF3,hS⟩
    ·rw[if_pos h0];(repeat(refine jt ⟨?_⟩;refine hS.q ?_;intro _ hS));refine jt ⟨?_⟩;exact⟨rfl,L2,hF2,hS⟩
theorem VP{w:World}{sb b A:Nat}{m:AJ}{L:AH}(hF:BI b m L)(hh:Holds L w)(hc:w.cell? ⟨sb,2,none⟩=some (ptr b))(hsb:sb∉keys L)(name t:AE)(ht:t.length≤1099511627776)(hB:FB A m)(hA:A+3≤9223372036854775807):
  Cl Tryz.prog U4 [ptr sb,AG name,AG t] w λv w'=>v= .int .i64 (CE m name t).1∧ ∃L',BI b (CE m name t).2 L'∧St w (keys L) L' w':=by
 have hS:=St.enter hh;refine iP rfl ?_;refine jq ⟨?_⟩;refine hS.ldOld hsb hc ?_;refine jq ⟨?_⟩;have hd1:=hB.del name;have hdg:=Nz (n:=name) hB.nd;unfold CE;refine(id (PV hF (hS.holds) name (by have:=hB.armed;omega) (by have:=hB.acts;omega))).mono ?_;rintro _ w2⟨rfl,L1,hF1,hS'⟩;have hS:=hS.call (L:=L) hS';generalize BA m name=dm at hF1 hd1 hdg⊢;obtain⟨e1,m1⟩:=dm;simp only at hF1 hd1 hdg⊢;by_cases hbad:e1≠0∧e1≠5
 ·rw[if_pos hbad];obtain⟨hb0,hb5⟩:=hbad;(repeat(refine jt ⟨?_⟩;refine hS.q ?_;intro _ hS));refine jt ⟨?_⟩;exact⟨rfl,L1,hF1,hS⟩
 ·rw[if_neg hbad];have hok:e1=0∨e1=5:=AA;have hdn:=hdg hok;have ha1:=hd1.app name [t] (by rw[hdn];simpa using ht);by_cases hz:e1=0
  ·subst hz;(repeat(refine jt ⟨?_⟩;refine hS.q ?_;intro _ hS));refine jt ⟨?_⟩
   (refine hS.ldOld hsb hc ?_;(repeat(refine jt ⟨?_⟩;refine hS.q ?_;intro _ hS));refine jt ⟨?_⟩)
   refine hS.al ?_;intro b2 w3 _ hS;(repeat(refine jt ⟨?_⟩;refine hS.q ?_;intro _ hS));refine jt ⟨?_⟩;refine Cl.mono (KV hF1 (hS.part (L:=L1)) name (ps:=[t]) (hS.arr (b:=b2) (Cp hS)) AB AB (by rw[hdn];simp[BG];omega) (by have:=hd1.armed;omega) (by have:=hd1.acts;omega)) ?_;rintro _ w4⟨rfl,L2,hF2,hS'⟩;have hS:=(hS.call (L:=L1) hS').sub (AS _ _);generalize A9 m1 name [t]=am at hF2 ha1⊢;obtain⟨e2,m2⟩:=am
   simp only at hF2 ha1⊢;by_cases h0:e2=0
   ·subst h0;rw[if_neg AB];(repeat(refine jt ⟨?_⟩;refine hS.q ?_;intro _ hS));refine jt ⟨?_⟩
    (refine hS.ldOld hsb hc ?_;(repeat(refine jt ⟨?_⟩;refine hS.q ?_;intro _ hS));refine jt ⟨?_⟩)
    refine Cl.mono (MJ hF2 (hS.part (L:=L2)) name (by have:=ha1.armed;omega) (by have:=ha1.acts;omega)) ?_;rintro _ w5⟨rfl,L3,hF3,hS'⟩;have hS:=hS.call (L:=L2) hS';(repeat(refine jt ⟨?_⟩;refine hS.q ?_;intro _ hS));refine jt ⟨?_⟩;exact⟨rfl,L3,hF3,hS⟩
   ·rw[if_pos h0];(repeat(refine jt ⟨?_⟩;refine hS.q ?_;intro _ hS));refine jt ⟨?_⟩;exact⟨rfl,L2,hF2,hS⟩
  ·obtain rfl:e1=5:=AA;(repeat(refine jt ⟨?_⟩;refine hS.q ?_;intro _ hS));refine jt ⟨?_⟩
   (refine hS.ldOld hsb hc ?_;(repeat(refine jt ⟨?_⟩;refine hS.q ?_;intro _ hS));refine jt ⟨?_⟩)
   refine hS.al ?_;intro b2 w3 _ hS;(repeat(refine jt ⟨?_⟩;refine hS.q ?_;intro _ hS));refine jt ⟨?_⟩;refine Cl.mono (KV hF1 (hS.part (L:=L1)) name (ps:=[t]) (hS.arr (b:=b2) (Cp hS)) AB AB (by rw[hdn];simp[BG];omega) (by have:=hd1.armed;omega) (by have:=hd1.acts;omega)) ?_;rintro _ w4⟨rfl,L2,hF2,hS'⟩;have hS:=(hS.call (L:=L1) hS').sub (AS _ _);generalize A9 m1 name [t]=am at hF2 ha1⊢;obtain⟨e2,m2⟩:=am
   simp only at hF2 ha1⊢;by_cases h0:e2=0
   ·subst h0;rw[if_neg AB];(repeat(refine jt ⟨?_⟩;refine hS.q ?_;intro _ hS));refine jt ⟨?_⟩
    (refine hS.ldOld hsb hc ?_;(repeat(refine jt ⟨?_⟩;refine hS.q ?_;intro _ hS));refine jt ⟨?_⟩)
    refine Cl.mono (MJ hF2 (hS.part (L:=L2)) name (by have:=ha1.armed;omega) (by have:=ha1.acts;omega)) ?_;rintro _ w5⟨rfl,L3,hF3,hS'⟩;have hS:=hS.call (L:=L2) hS';(repeat(refine jt ⟨?_⟩;refine hS.q ?_;intro _ hS));refine jt ⟨?_⟩;exact⟨rfl,L3,hF3,hS⟩
   ·rw[if_pos h0];(repeat(refine jt ⟨?_⟩;refine hS.q ?_;intro _ hS));refine jt ⟨?_⟩;exact⟨rfl,L2,hF2,hS⟩
end Go.Proofs.YtkgibdhpijdbfaaGreatDoor
