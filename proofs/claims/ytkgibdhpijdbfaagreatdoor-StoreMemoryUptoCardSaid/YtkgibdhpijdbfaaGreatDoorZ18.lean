/- Texts of this claim, one behind the other. -/
import Derived.Test.YtkgibdhpijdbfaaGreatDoorZ16
import Derived.Test.YtkgibdhpijdbfaaGreatDoorZ3
import Derived.Test.YtkgibdhpijdbfaaGreatDoorZ7
import Derived.Test.YtkgibdhpijdbfaaGreatDoorZ8
import Derived.Test.YtkgibdhpijdbfaaGreatDoorZ6
import Derived.Laws.MakeOwn
import Derived.Laws.OwnMore
set_option linter.unusedVariables false
set_option linter.unusedSimpArgs false
set_option maxHeartbeats 16000000
namespace Go.Proofs.YtkgibdhpijdbfaaGreatDoor
open Go Go.Eng Go.Proofs
def JC(x:AE×Nat):Value:= .agg ⟨[AG x.1,.int .i64 x.2]⟩
structure AJ where
 files:List (AE×(AE×Nat))
 fates:List (Int×Int)
 armed:Nat
 acts:Nat
 off:Bool
inductive JE:Option Nat→List (Int×Int)→AH→Prop where
 |nil:JE none [] []
 |made (f:Nat) (es:Array MapEntry) (c:Nat) (fs:List (Int×Int)) (h:MapC AY AY es c fs):JE (some f) fs [(f,.map es c)]
inductive BI(b:Nat)(m:AJ):AH→Prop where
 |mk (mf:Nat) (es:Array MapEntry) (c:Nat) (hes:MapC AG JC es c m.files) (ft:Option Nat) (Lf:AH) (hf:JE ft m.fates Lf):
  BI b m ((b,.cells ⟨[.map ft,.int .i64 m.armed,.int .i64 m.acts,.bool m.off,.map (some mf)]⟩ C4 (0,0))::(mf,.map es c)::Lf)
theorem JA:Tryz.prog.underlying C3=some .string:=CZ AK (t:=C3) rfl
theorem NZ{w:World}:Cl Tryz.prog qK [] w λv w'=>∃b L,v=ptr b∧w.heap.size≤b∧BI b ⟨[],[],0,0,false⟩ L∧St w [] L w':=by
 have hS:=St.start w;refine lD rfl ?_;refine jq ⟨?_⟩;refine hS.al ?_;intro mf w1 _ hS;refine jq ⟨?_⟩;refine hS.al ?_;intro b w2 hb hS;refine jq ⟨?_⟩;exact⟨b,_,rfl,hb,BI.mk (m:=⟨[],[],0,0,false⟩) mf #[] 0 ⟨rfl,by simp[E5]⟩ none [] JE.nil,hS⟩
theorem Ie{w:World}{b:Nat}{m:AJ}{L:AH}(hF:BI b m L)(hh:Holds L w):Cl Tryz.prog VN [ptr b] w λv w'=>v= .bool m.off∧St w (keys L) L w':=by
 have hS:=St.enter hh;obtain⟨mf,es,c,hes,ft,Lf,hf⟩:=hF;refine lG rfl ?_;(repeat(refine jt ⟨?_⟩;refine hS.q ?_;intro _ hS));refine jt ⟨?_⟩;exact⟨rfl,hS⟩
theorem Jt{w:World}{b:Nat}{m:AJ}{L:AH}(hF:BI b m L)(hh:Holds L w):Cl Tryz.prog qN [ptr b] w λv w'=>v= .int .i64 (if m.off then 7 else 0)∧St w (keys L) L w':=by
 have hS:=St.enter hh;obtain⟨mf,es,c,hes,ft,Lf,hf⟩:=hF;refine lI rfl ?_;(repeat(refine jt ⟨?_⟩;refine hS.q ?_;intro _ hS));refine jt ⟨?_⟩;refine Ax.bool (λh=>?_) (λh=>?_)
 ·(repeat(refine jt ⟨?_⟩;refine hS.q ?_;intro _ hS));refine jt ⟨?_⟩;exact⟨by rw[h];rfl,hS⟩
 ·(repeat(refine jt ⟨?_⟩;refine hS.q ?_;intro _ hS));refine jt ⟨?_⟩;exact⟨by rw[h];rfl,hS⟩
def named(s:AE):Bool:=decide (s≠[])&&decide (s.length≤40)
theorem Wj{w:World}(s:AE):Cl Tryz.prog qL [AG s] w λv w'=>v= .bool (named s)∧St w [] [] w':=by
 have hS:=St.start w;refine lE rfl ?_;refine jq ⟨?_⟩;refine Ax.dec (λh=>?_) (λh=>?_)
 ·refine jq ⟨?_⟩;subst h;exact⟨rfl,hS⟩
 ·refine jq ⟨?_⟩;refine⟨?_,hS⟩;unfold named;rw[decide_eq_true h,Bool.true_and];exact congrArg Value.bool (decide_eq_decide.2 AA)
def Cw(m:AJ):Int:=(Al (m.armed:Int) m.fates).getD 0
def acted(m:AJ):AJ:={m with armed:=m.armed+1,acts:=m.acts+1,off:=decide (Cw m=1)||decide (Cw m=2)}
theorem Nm{w:World}{b:Nat}{m:AJ}{L:AH}(hF:BI b m L)(hh:Holds L w)(h1:m.armed+1≤9223372036854775807)(h2:m.acts+1≤9223372036854775807):
  Cl Tryz.prog qM [ptr b] w λv w'=>v= .int .i64 (Cw m)∧ ∃L',BI b (acted m) L'∧St w (keys L) L' w':=by
 have hS:=St.enter hh;obtain⟨mf,es,c,hes,ft,Lf,hf⟩:=hF;refine lH rfl ?_;refine jq ⟨?_⟩;refine AL.draw AK mixed (λw'=>St w (keys ((b,.cells ⟨[.map ft,.int .i64 m.armed,.int .i64 m.acts,.bool m.off,.map (some mf)]⟩ C4 (0,0))::(mf,.map es c)::Lf)) ((b,.cells ⟨[.map ft,.int .i64 m.armed,.int .i64 m.acts,.bool m.off,.map (some mf)]⟩ C4 (0,0))::(mf,.map es c)::Lf) w')
  [] [0,1,2,3,4,5,6,7,8,9] AD hS.drew ?_
 have hS:=hS.drew;generalize w.drew=w1 at hS⊢;refine jr ⟨?_⟩;have key: ∀{K:Value→Prop},K (.int .i64 (Cw m))→Fz Tryz.prog (Instr.lookup Nk (.map ft) (AY m.armed) false) (λw'=>St w (keys ((b,.cells ⟨[.map ft,.int .i64 m.armed,.int .i64 m.acts,.bool m.off,.map (some mf)]⟩ C4 (0,0))::(mf,.map es c)::Lf)) ((b,.cells ⟨[.map ft,.int .i64 m.armed,.int .i64 m.acts,.bool m.off,.map (some mf)]⟩ C4 (0,0))::(mf,.map es c)::Lf) w') K:=by
  intro K hK;generalize hfs:m.fates=fs at hf;cases hf with
  |nil=>
   refine tH AK Bq.i64 rfl rfl Eo rfl ?_;have:Cw m=0:=by unfold Cw;rw[hfs];rfl
   rw[this]at hK;exact hK
  |made f es' c' _ hm=>
   refine IT AK Bq.i64 rfl rfl Eo rfl (kvs:=fs) (λw' hw'=>⟨es',c',hw'.mem (b:=f),hm.of⟩) ?_;have:((Al (m.armed:Int) fs).map AY).getD (.int .i64 0)= .int .i64 (Cw m):=by
    unfold Cw;rw[hfs];cases Al (m.armed:Int) fs<;>rfl
   rw[←this]at hK;exact hK
 refine key ?_;generalize hfm:Cw m=fm;have fin: ∀w',St w (keys ((b,.cells ⟨[.map ft,.int .i64 m.armed,.int .i64 m.acts,.bool m.off,.map (some mf)]⟩ C4 (0,0))::(mf,.map es c)::Lf)) ((b,.cells ⟨[.map ft,.int .i64 (m.armed+1:Nat),.int .i64 (m.acts+1:Nat),.bool (decide (fm=1)||decide (fm=2)),.map (some mf)]⟩ C4 (0,0))::(mf,.map es c)::Lf) w'→
   ∃L',BI b (acted m) L'∧St w (keys ((b,.cells ⟨[.map ft,.int .i64 m.armed,.int .i64 m.acts,.bool m.off,.map (some mf)]⟩ C4 (0,0))::(mf,.map es c)::Lf)) L' w':=λw' h=>
  ⟨_,BI.mk (m:=acted m) mf es c hes ft Lf hf,by unfold acted;rw[hfm];exact h⟩
 (repeat(refine jt ⟨?_⟩;refine hS.q ?_;intro _ hS));refine jt ⟨?_⟩;refine Ax.dec (λh=>?_) (λh=>?_)
 ·subst h;(repeat(refine jt ⟨?_⟩;refine hS.q ?_;intro _ hS));refine jt ⟨?_⟩;exact⟨rfl,fin _ hS⟩
 ·have e1:decide (fm=1)=false:=by simp[h]
  rw[e1]at fin;(repeat(refine jt ⟨?_⟩;refine hS.q ?_;intro _ hS));refine jt ⟨?_⟩;exact⟨rfl,fin _ hS⟩
def AN(m:AJ)(name:AE):Option (AE×Nat):=Al name m.files
def BB(m:AJ)(name:AE):(AE×Nat)×Int:=if m.off then(([],0),7)else match AN m name with|none=>(([],0),5)|some x=>(x,0)
theorem Mh{w:World}{b:Nat}{m:AJ}{L:AH}(hF:BI b m L)(hh:Holds L w)(name:AE):
  Cl Tryz.prog qI [ptr b,AG name] w λv w'=>v= .tuple ⟨[JC (BB m name).1,.int .i64 (BB m name).2]⟩∧St w (keys L) L w':=by
 have hS:=St.enter hh;obtain⟨mf,es,c,hes,ft,Lf,hf⟩:=hF;refine lB rfl ?_;refine jq ⟨?_⟩;refine hS.al ?_;intro r w1 _ hS;(repeat(refine jt ⟨?_⟩;refine hS.q ?_;intro _ hS));refine jt ⟨?_⟩;refine IT AK Bq.str rfl rfl JA rfl (kvs:=m.files) (λw' hw'=>⟨es,c,by subst hw';exact hS.mem (b:=mf),hes.of⟩) ?_;have hv: ∃x:AE×Nat,((Al name m.files).map JC).getD (.agg ⟨[.string ⟨⟨[]⟩⟩,.int .i64 0]⟩)= .agg ⟨[AG x.1,.int .i64 x.2]⟩∧((Al name m.files).isSome=true→Al name m.files=some x):=by
  cases Al name m.files with
  |none=>exact⟨([],0),rfl,nofun⟩
  |some x=>exact⟨x,rfl,λ_=>rfl⟩
 obtain⟨x,hx1,hx2⟩:=hv;have hx1':((Al name m.files).map JC).getD (TI.zero ⟨.struct [(0,1),(1,1)],2,24,.agg ⟨[.string ⟨⟨[]⟩⟩,.int .i64 0]⟩⟩)= .agg ⟨[AG x.1,.int .i64 x.2]⟩:=hx1;simp only[hx1'];refine jq ⟨?_⟩;refine hS.al ?_;intro r2 w2 _ hS;(repeat(refine jt ⟨?_⟩;refine hS.q ?_;intro _ hS));refine jt ⟨?_⟩;have hS:=hS;refine Ax.bool (λh=>?_) (λh=>?_)
 ·(repeat(refine jt ⟨?_⟩;refine hS.q ?_;intro _ hS));refine jt ⟨?_⟩;have e:BB m name=(([],0),7):=by unfold BB;rw[h];rfl
  rw[e];exact⟨rfl,hS.sub (((List.Sublist.refl _).cons _).cons _)⟩
 ·(repeat(refine jt ⟨?_⟩;refine hS.q ?_;intro _ hS));refine jt ⟨?_⟩;refine Ax.bool (λh2=>?_) (λh2=>?_)
  ·have e:BB m name=(x,0):=by unfold BB AN;rw[h,hx2 h2];rfl
   rw[e];(repeat(refine jt ⟨?_⟩;refine hS.q ?_;intro _ hS));refine jt ⟨?_⟩;exact⟨rfl,hS.sub (((List.Sublist.refl _).cons _).cons _)⟩
  ·have hn:Al name m.files=none:=by simpa using h2
   have e:BB m name=(([],0),5):=by unfold BB AN;rw[h,hn];rfl
   rw[e];(repeat(refine jt ⟨?_⟩;refine hS.q ?_;intro _ hS));refine jt ⟨?_⟩;exact⟨rfl,hS.sub (((List.Sublist.refl _).cons _).cons _)⟩
theorem KX{w:World}{b:Nat}{m:AJ}{L:AH}(hF:BI b m L)(hh:Holds L w)(name:AE):
  Cl Tryz.prog VK [ptr b,AG name] w λv w'=>v= .tuple ⟨[AG (BB m name).1.1,.int .i64 (BB m name).2]⟩∧St w (keys L) L w':=by
 refine kY rfl ?_;refine jq ⟨?_⟩;refine(Mh hF hh name).mono ?_;rintro _ w1⟨rfl,hS⟩;refine jq ⟨?_⟩;refine hS.al ?_;intro r w2 _ hS;(repeat(refine jt ⟨?_⟩;refine hS.q ?_;intro _ hS));refine jt ⟨?_⟩;exact⟨rfl,hS.sub (AS _ _)⟩
theorem WW{C:World→Prop}{mf:Nat}{name:AE}{fs:List (AE×(AE×Nat))}(hm: ∀w,C w→ ∃es clock,w.heap[mf]?=some (.map es clock)∧Ff AG JC es fs){K:Value→Prop}
  (hK:K (JC ((Al name fs).getD ([],0)))):Fz Tryz.prog (Instr.lookup MM (.map (some mf)) (AG name) false) C K:=by
 refine IT AK Bq.str rfl rfl JA rfl hm ?_;cases h:Al name fs with
 |none=>rw[h]at hK;exact hK
 |some x=>rw[h]at hK;exact hK
def A9(m:AJ)(name:AE)(ps:List AE):Int×AJ:=
 if m.off then(7,m)
 else if !named name then(4,m)
 else if Cw m=3 then(6,acted m)
 else if Cw m=1 then(7,acted m)
 else(if(acted m).off then 7 else 0,{acted m with files:=Ba name (((AN m name).getD ([],0)).1++ps.flatten,((AN m name).getD ([],0)).2) m.files})
theorem KV{w:World}{b:Nat}{m:AJ}{L:AH}(hF:BI b m L)(hh:Holds L w)(name:AE){a:Option Addr}{cap:Nat}{ps:List AE}(ha:Arr w (keys L) a (ps.map AG))
  (hc:ps.length≤cap)(hcc:cap≤140737488355328)(hlen:BG ps+((AN m name).getD ([],0)).1.length≤140737488355328)(h1:m.armed+1≤9223372036854775807)(h2:m.acts+1≤9223372036854775807):
  Cl Tryz.prog VF [ptr b,AG name,.slice a ps.length cap] w λv w'=>v= .int .i64 (A9 m name ps).1∧ ∃L',BI b (A9 m name ps).2 L'∧St w (keys L) L' w':=by
 have hS:=St.enter hh;refine kU rfl ?_;unfold A9;have hoff: ∃mf es c,∃(_:MapC AG JC es c m.files),∃ft Lf,∃(_:JE ft m.fates Lf),L=(b,.cells ⟨[.map ft,.int .i64 m.armed,.int .i64 m.acts,.bool m.off,.map (some mf)]⟩ C4 (0,0))::(mf,.map es c)::Lf:=by
  obtain⟨mf,es,c,hes,ft,Lf,hf⟩:=hF;exact⟨mf,es,c,hes,ft,Lf,hf,rfl⟩
 obtain⟨mf,es,c,hes,ft,Lf,hf,hL⟩:=hoff;have hSL:=hS;rw[hL]at hSL;have hS0:=hS;have hS:=hSL;(repeat(refine jt ⟨?_⟩;refine hS.q ?_;intro _ hS));refine jt ⟨?_⟩;have hS:=hS0;by_cases hoff:m.off=true
 ·rw[if_pos hoff];refine Ax.eqt hoff ?_;refine jq ⟨?_⟩;exact⟨rfl,L,hF,hS⟩
 ·have hoff':m.off=false:=by simpa using hoff
  rw[if_neg hoff];refine Ax.eqf hoff' ?_;refine jq ⟨?_⟩;refine(Wj name).mono ?_;rintro _ w1⟨rfl,hS'⟩;have hS:=hS.call0 hS';refine jq ⟨?_⟩;by_cases hnm:named name=true
  ·refine Ax.eqt hnm ?_;rw[hnm];refine jq ⟨?_⟩;refine(Nm hF hS.holds h1 h2).mono ?_;rintro _ w2⟨rfl,L1,hF1,hS'⟩;have hS:=hS.call hS';refine jq ⟨?_⟩;by_cases h3:Cw m=3
   ·rw[if_neg AB,if_pos h3];refine jq ⟨?_⟩;exact⟨rfl,L1,hF1,hS⟩
   ·rw[if_neg AB,if_neg h3];refine jq ⟨?_⟩;by_cases h4:Cw m=1
    ·rw[if_pos h4];refine jq ⟨?_⟩;exact⟨rfl,L1,hF1,hS⟩
    ·rw[if_neg h4];obtain⟨x,hx⟩: ∃x,(AN m name).getD ([],0)=x:=⟨_,rfl⟩;rw[hx]at hlen⊢;obtain⟨mf1,es1,c1,hes1,ft1,Lf1,hf1⟩:=hF1;have ha0:=ha;generalize keys L=T0 at hS ha0⊢;generalize hac:(acted m).off=off1 at hS⊢;(repeat(refine jt ⟨?_⟩;refine hS.q ?_;intro _ hS));refine jt ⟨?_⟩;refine WW (λw' hw'=>⟨es1,c1,by subst hw';exact hS.mem (b:=mf1),hes1.of⟩) ?_;rw[show(Al name (acted m).files).getD ([],0)=x from hx]
     refine jq ⟨?_⟩;refine hS.al ?_;intro r w3 _ hS;(repeat(refine jt ⟨?_⟩;refine hS.q ?_;intro _ hS));refine jt ⟨?_⟩;refine AL.draw AK mixed (λw'=>St w T0 ((r,.cells ⟨[AG x.1,.int .i64 x.2]⟩ Jq (0,0))::(b,.cells ⟨[.map ft1,.int .i64 (acted m).armed,.int .i64 (acted m).acts,.bool off1,.map (some mf1)]⟩ C4 (0,0))::(mf1,.map es1 c1)::Lf1) w')
      [6] [0,1,2,3,4,5,6] AD hS.drew ?_
     have hS:=hS.drew;refine jr ⟨?_⟩;refine(ZT (sep:=[]) ((hS.arrOld ha0).sub AB) hc hcc (by simp;omega)).mono ?_;rintro _ w4⟨rfl,hS'⟩;have hS:=hS.call0 hS';refine Ae.mk hS ?_;rw[sR];refine Ae.mk (by rw[show ps.flatten.length=BG ps from by simp[BG,List.length_flatten]];omega) ?_;(repeat(refine jt ⟨?_⟩;refine hS.q ?_;intro _ hS));refine jt ⟨?_⟩;refine AL.draw AK mixed (λw'=>St w T0 ((r,.cells ⟨[AG (x.1++ps.flatten),.int .i64 x.2]⟩ Jq (0,0))::(b,.cells ⟨[.map ft1,.int .i64 (acted m).armed,.int .i64 (acted m).acts,.bool off1,.map (some mf1)]⟩ C4 (0,0))::(mf1,.map es1 c1)::Lf1) w')
      [6] [0,1,2,3,4,5,6] AD hS.drew ?_
     have hS:=hS.drew;refine jr ⟨?_⟩;refine St.mapSet AK Bq.str rfl rfl JA hS (v:=(x.1++ps.flatten,x.2)) hes1 ?_;intro es2 c2 w5 hes2 hS;have hS:=hS.sub (AS _ _);refine jq ⟨?_⟩;have hF2:=BI.mk (b:=b) (m:={acted m with files:=Ba name (x.1++ps.flatten,x.2) m.files}) mf1 es2 c2 hes2 ft1 Lf1 hf1;subst hac;refine(Jt hF2 hS.holds).mono ?_;rintro _ w6⟨rfl,hS'⟩;have hS:=hS.call hS';refine jq ⟨?_⟩;exact⟨rfl,_,hF2,hS⟩
  ·have hnm':named name=false:=by simpa using hnm
   refine Ax.eqf hnm' ?_;rw[hnm'];refine jq ⟨?_⟩;exact⟨rfl,L,hF,hS⟩
def CW(m:AJ)(name:AE):Int×AJ:=
 if(BB m name).2≠0 then((BB m name).2,m)
 else(if(acted m).off then 7 else 0,if Cw m=1 then acted m else{acted m with files:=Ba name ((BB m name).1.1,(BB m name).1.1.length) m.files})
theorem MJ{w:World}{b:Nat}{m:AJ}{L:AH}(hF:BI b m L)(hh:Holds L w)(name:AE)(h1:m.armed+1≤9223372036854775807)(h2:m.acts+1≤9223372036854775807):
  Cl Tryz.prog qH [ptr b,AG name] w λv w'=>v= .int .i64 (CW m name).1∧ ∃L',BI b (CW m name).2 L'∧St w (keys L) L' w':=by
 refine lA rfl ?_;unfold CW;refine jq ⟨?_⟩;refine(Mh hF hh name).mono ?_;rintro _ w1⟨rfl,hS⟩;generalize BB m name=y;obtain⟨x,e⟩:=y;refine jq ⟨?_⟩;refine hS.al ?_;intro r w2 _ hS;(repeat(refine jt ⟨?_⟩;refine hS.q ?_;intro _ hS));refine jt ⟨?_⟩;by_cases he:e=0
 ·subst he;rw[if_neg AB];refine jq ⟨?_⟩;refine(Nm hF (hS.part (L:=L)) h1 h2).mono ?_;rintro _ w3⟨rfl,L1,hF1,hS'⟩;have hS:=hS.call (L:=L) hS';generalize keys L=T0 at hS⊢;by_cases h4:Cw m=1
  ·rw[if_pos h4];refine jq ⟨?_⟩;refine(Jt hF1 (hS.part (L:=L1))).mono ?_;rintro _ w6⟨rfl,hS'⟩;have hS:=hS.call (L:=L1) hS';refine jq ⟨?_⟩;exact⟨rfl,_,hF1,hS.sub (AS _ _)⟩
  ·rw[if_neg h4];obtain⟨mf1,es1,c1,hes1,ft1,Lf1,hf1⟩:=hF1;generalize hac:(acted m).off=off1 at hS⊢;(repeat(refine jt ⟨?_⟩;refine hS.q ?_;intro _ hS));refine jt ⟨?_⟩;refine AL.draw AK mixed (λw'=>St w T0 ((r,.cells ⟨[AG x.1,.int .i64 x.1.length]⟩ Jq (0,0))::(b,.cells ⟨[.map ft1,.int .i64 (acted m).armed,.int .i64 (acted m).acts,.bool off1,.map (some mf1)]⟩ C4 (0,0))::(mf1,.map es1 c1)::Lf1) w')
    [6] [0,1,2,3,4,5,6] AD hS.drew ?_
   have hS:=hS.drew;refine jr ⟨?_⟩;refine St.mapSet AK Bq.str rfl rfl JA hS (v:=(x.1,x.1.length)) hes1 ?_;intro es2 c2 w5 hes2 hS;have hS:=hS.sub (AS _ _);refine jq ⟨?_⟩;have hF2:=BI.mk (b:=b) (m:={acted m with files:=Ba name (x.1,x.1.length) m.files}) mf1 es2 c2 hes2 ft1 Lf1 hf1;subst hac;refine(Jt hF2 hS.holds).mono ?_;rintro _ w6⟨rfl,hS'⟩;have hS:=hS.call hS';refine jq ⟨?_⟩;exact⟨rfl,_,hF2,hS⟩
 ·rw[if_pos he];refine jq ⟨?_⟩;exact⟨rfl,L,hF,hS.sub (AS _ _)⟩
def BA(m:AJ)(name:AE):Int×AJ:=
 if(BB m name).2≠0 then((BB m name).2,m)
 else(if(acted m).off then 7 else 0,if Cw m=1 then acted m else{acted m with files:=Co name m.files})
theorem PV{w:World}{b:Nat}{m:AJ}{L:AH}(hF:BI b m L)(hh:Holds L w)(name:AE)(h1:m.armed+1≤9223372036854775807)(h2:m.acts+1≤9223372036854775807):
  Cl Tryz.prog VH [ptr b,AG name] w λv w'=>v= .int .i64 (BA m name).1∧ ∃L',BI b (BA m name).2 L'∧St w (keys L) L' w':=by
 refine kW rfl ?_;unfold BA;refine jq ⟨?_⟩;refine(Mh hF hh name).mono ?_;rintro _ w1⟨rfl,hS⟩;generalize BB m name=y;obtain⟨x,e⟩:=y;refine jq ⟨?_⟩;refine hS.al ?_;intro r w2 _ hS;(repeat(refine jt ⟨?_⟩;refine hS.q ?_;intro _ hS));refine jt ⟨?_⟩;by_cases he:e=0
 ·subst he;rw[if_neg AB];refine jq ⟨?_⟩;refine(Nm hF (hS.part (L:=L)) h1 h2).mono ?_;rintro _ w3⟨rfl,L1,hF1,hS'⟩;have hS:=hS.call (L:=L) hS';generalize keys L=T0 at hS⊢;by_cases h4:Cw m=1
  ·rw[if_pos h4];refine jq ⟨?_⟩;refine(Jt hF1 (hS.part (L:=L1))).mono ?_;rintro _ w6⟨rfl,hS'⟩;have hS:=hS.call (L:=L1) hS';refine jq ⟨?_⟩;exact⟨rfl,_,hF1,hS.sub (AS _ _)⟩
  ·rw[if_neg h4];obtain⟨mf1,es1,c1,hes1,ft1,Lf1,hf1⟩:=hF1;generalize hac:(acted m).off=off1 at hS⊢;(repeat(refine jt ⟨?_⟩;refine hS.q ?_;intro _ hS));refine jt ⟨?_⟩;refine St.mapDel AK Bq.str rfl rfl JA hS hes1 ?_;intro es2 c2 w5 hes2 hS;have hS:=hS.sub (AS _ _);refine jq ⟨?_⟩;have hF2:=BI.mk (b:=b) (m:={acted m with files:=Co name m.files}) mf1 es2 c2 hes2 ft1 Lf1 hf1;subst hac;refine(Jt hF2 hS.holds).mono ?_
   rintro _ w6⟨rfl,hS'⟩;have hS:=hS.call hS';refine jq ⟨?_⟩;exact⟨rfl,_,hF2,hS⟩
 ·rw[if_pos he];refine jq ⟨?_⟩;exact⟨rfl,L,hF,hS.sub (AS _ _)⟩
structure FB(A:Nat)(m:AJ):Prop where
 armed:m.armed≤A
 acts:m.acts≤A
 num:m.files.length≤A
 nd:(m.files.map (·.1)).Nodup
 name: ∀x∈m.files,x.1.length≤40
 text: ∀x∈m.files,x.2.1.length≤1099511627776
theorem FB.mono{A B:Nat}{m:AJ}(h:FB A m)(hl:A≤B):FB B m:=⟨Au h.armed hl,Au h.acts hl,Au h.num hl,h.nd,h.name,h.text⟩
theorem FB.get{A:Nat}{m:AJ}(h:FB A m)(n:AE):((AN m n).getD ([],0)).1.length≤1099511627776:=by
 cases e:AN m n with
 |none=>simp
 |some x=>exact h.text _ (JW e)
theorem FB.find{A:Nat}{m:AJ}(h:FB A m)(n:AE):(BB m n).1.1.length≤1099511627776:=by
 have:=h.get n;unfold BB
 split
 ·simp
 ·cases e:AN m n with
  |none=>simp
  |some x=>rw[e]at this;exact this
theorem FB.acted{A:Nat}{m:AJ}(h:FB A m):FB (A+1) (acted m):=⟨Nat.succ_le_succ h.armed,Nat.succ_le_succ h.acts,Nat.le_succ_of_le h.num,h.nd,h.name,h.text⟩
theorem FB.put{A:Nat}{m:AJ}(h:FB A m){n:AE}{x:AE×Nat}(hn:n.length≤40)(hx:x.1.length≤1099511627776):FB (A+1) {Proofs.YtkgibdhpijdbfaaGreatDoor.acted m with files:=Ba n x m.files}:=
 ⟨h.acted.armed,h.acted.acts,Au (JY _ _ _) (Nat.succ_le_succ h.num),Mq h.nd,λy hy=>(IP hy).elim (λe=>by rw[e];exact hn) (h.name y),λy hy=>(IP hy).elim (λe=>by rw[e];exact hx) (h.text y)⟩
theorem FB.dele{A:Nat}{m:AJ}(h:FB A m)(n:AE):FB (A+1) {Proofs.YtkgibdhpijdbfaaGreatDoor.acted m with files:=Co n m.files}:=
 ⟨h.acted.armed,h.acted.acts,Au (GZ n _).length_le h.acted.num,OX h.nd,λy hy=>h.name y ((GZ n _).mem hy),λy hy=>h.text y ((GZ n _).mem hy)⟩
theorem Wi{n:AE}(h:named n=true):n.length≤40:=by
 unfold named at h;simp at h;exact h.2
theorem FB.del{A:Nat}{m:AJ}(h:FB A m)(n:AE):FB (A+1) (BA m n).2:=by
 unfold BA
 split
 ·exact h.mono (Dz _)
 ·simp only
  split
  ·exact h.acted
  ·exact h.dele n
theorem FB.app{A:Nat}{m:AJ}(h:FB A m)(n:AE)(ps:List AE)(hl:((AN m n).getD ([],0)).1.length+ps.flatten.length≤1099511627776):FB (A+1) (A9 m n ps).2:=by
 unfold A9
 split
 ·exact h.mono (Dz _)
 split
 ·exact h.mono (Dz _)
 rename_i hn
 split
 ·exact h.acted
 split
 ·exact h.acted
 ·exact h.put (Wi (by simpa using hn)) (by simpa using hl)
theorem qY{A:Nat}{m:AJ}(h:FB A m){n:AE}(hf:(BB m n).2=0):n.length≤40:=by
 unfold BB at hf
 split at hf
 ·simp at hf
 ·cases e:AN m n with
  |none=>rw[e]at hf;simp at hf
  |some x=>exact h.name _ (JW e)
theorem FB.sync{A:Nat}{m:AJ}(h:FB A m)(n:AE):FB (A+1) (CW m n).2:=by
 unfold CW
 split
 ·exact h.mono (Dz _)
 rename_i hf;have hf:(BB m n).2=0:=by simpa using hf
 simp only
 split
 ·exact h.acted
 ·exact h.put (qY h hf) (h.find n)
def Cx(m:AJ)(a b:AE):Int×AJ:=
 if m.off=false∧named b=false then(4,m)
 else if(BB m a).2≠0 then((BB m a).2,m)
 else(if(acted m).off then 7 else 0,if Cw m=1 then acted m else{acted m with files:=Ba b (BB m a).1 (Co a m.files)})
theorem FB.ren{A:Nat}{m:AJ}(h:FB A m)(a b:AE):FB (A+1) (Cx m a b).2:=by
 unfold Cx
 split
 ·exact h.mono (Dz _)
 rename_i hn
 split
 ·exact h.mono (Dz _)
 rename_i hf;have hf:(BB m a).2=0:=by simpa using hf
 have hoff:m.off=false:=by
  cases e:m.off with
  |false=>rfl
  |true=>unfold BB at hf;rw[e]at hf;simp at hf
 have hnb:named b=true:=by
  cases e:named b with
  |true=>rfl
  |false=>exact absurd ⟨hoff,e⟩ hn
 simp only
 split
 ·exact h.acted
 ·have hd:FB A {m with files:=Co a m.files}:=⟨h.armed,h.acts,Au (GZ a _).length_le h.num,OX h.nd,λy hy=>h.name y ((GZ a _).mem hy),λy hy=>h.text y ((GZ a _).mem hy)⟩;have:=hd.put (n:=b) (x:=(BB m a).1) (Wi hnb) (h.find a);exact this
def CE(m:AJ)(nm t:AE):Int×AJ:=
 if(BA m nm).1≠0∧(BA m nm).1≠5 then BA m nm
 else if(A9 (BA m nm).2 nm [t]).1≠0 then A9 (BA m nm).2 nm [t]
 else CW (A9 (BA m nm).2 nm [t]).2 nm
def Cd(m:AJ)(nm:AE)(ps:List AE):Int×AJ:=if Bc ps then CE m nm (AQ ps)else(2,m)
theorem Nz{m:AJ}{n:AE}(hnd:(m.files.map (·.1)).Nodup)(h:(BA m n).1=0∨(BA m n).1=5):AN (BA m n).2 n=none:=by
 unfold BA at h⊢
 split
 ·rename_i hf;rw[if_pos hf]at h;simp only at h⊢;unfold BB at h hf
  split at h
  ·simp at h
  ·cases e:AN m n with
   |none=>rfl
   |some x=>rename_i ho;rw[if_neg ho]at hf;rw[e]at hf;simp at hf
 ·rename_i hf;rw[if_neg hf]at h;simp only at h⊢
  split
  ·rename_i h1;exfalso;have:(acted m).off=true:=by unfold acted;simp[h1]
   rw[this]at h;simp at h
  ·unfold AN;rw[J7 _ _ hnd,if_pos rfl]
theorem FB.file{A:Nat}{m:AJ}(h:FB A m)(n t:AE)(ht:t.length≤1099511627776):FB (A+3) (CE m n t).2:=by
 unfold CE
 split
 ·exact(h.del n).mono AA
 rename_i hd;have hg:=Nz (n:=n) h.nd AA;have ha:=(h.del n).app n [t] (by rw[hg];simpa using ht)
 split
 ·exact ha.mono AA
 ·exact ha.sync n
theorem FB.rewrite{A:Nat}{m:AJ}(h:FB A m)(n:AE)(ps:List AE)(ht:(AQ ps).length≤1099511627776):FB (A+3) (Cd m n ps).2:=by
 unfold Cd
 split
 ·exact h.file n _ ht
 ·exact h.mono AA
def scan(t:List UInt8):List (List UInt8)×Nat:=I7 t (t.length+1) 0
theorem TG{w:World}(t:List UInt8)(ht:t.length≤1099511627776):
  Cl Tryz.prog mI [AG t] w λv w'=>∃a cap L,v= .tuple ⟨[.slice a (scan t).1.length cap,.int .i64 (scan t).2]⟩∧AT C3 1 a (scan t).1.length cap ((scan t).1.map AG) L∧St w [] L w':=by
 have hS:=St.start w;refine eD rfl ?_;refine jq ⟨?_⟩;refine AL.loop (λ(x:Nat×List (List UInt8)×Option Addr×Nat)=>[(0,AG t),(4,.slice x.2.2.1 x.2.1.length x.2.2.2),(5,.int .i64 x.1)])
  (λx w'=>x.1≤t.length∧x.2.1.length*8≤x.1∧scan t=(x.2.1++(I7 t (t.length+1-x.2.1.length) x.1).1,(I7 t (t.length+1-x.2.1.length) x.1).2)∧ ∃L,AT C3 1 x.2.2.1 x.2.1.length x.2.2.2 (x.2.1.map AG) L∧St w [] L w') (λx=>t.length-x.1) (0,[],none,0)
  ⟨rfl,rfl,rfl,trivial⟩ ⟨Ag _,Ag _,by simp[scan],[],AT.nil,hS⟩ ?_
 rintro⟨k,ps,a,cap⟩w1⟨hk,hk8,hsc,L,hv,hS⟩;simp only at hk hk8 hsc hv⊢;have hfu:t.length+1-ps.length=(t.length-ps.length)+1:=AA;rw[hfu]at hsc;simp only[I7]at hsc;refine jq ⟨?_⟩;refine(Sr t k AA hk).mono ?_;rintro _ w2⟨rfl,hS'⟩;have hS:=hS.call0 hS';have hnx:=Qn t k;generalize B7 t k=y at hnx hsc⊢;obtain⟨p,e,er⟩:=y;simp only at hnx hsc⊢;by_cases h0:er=0
 ·subst h0;obtain⟨n1,n2,n3,n4⟩:=hnx rfl;rw[if_neg AB]at hsc;refine jq ⟨?_⟩;refine hS.al ?_;intro b2 w3 _ hS;refine St.app (sz:=1) AK rfl rfl rfl rfl hS hv (news:=[AG p]) rfl (hS.arr (b:=b2) AB) rfl (by show(_+_)*16≤_;omega) AA ?_;intro a' cap' L' w4 hv' hS;have hS:=hS.sub (AS _ _);refine jq ⟨?_⟩;refine⟨(e,ps++[p],a',cap'),⟨rfl,?_,rfl,trivial⟩,⟨n2,by simp;omega,?_,L',by simpa using hv',hS⟩,by simp only;omega⟩
  ·show _=(_:Value);simp
  ·simp only[AP,Ai,Bo];rw[show t.length+1-(ps.length+(0+1))=t.length-ps.length by omega,hsc];simp
 ·rw[if_pos h0]at hsc;refine jq ⟨?_⟩;refine⟨a,cap,L,?_,?_,hS⟩
  ·rw[hsc];simp
  ·rw[hsc];simpa using hv
def E3(ss:List AE):AE:=(ss.map Be).flatten
theorem yR(ss:List AE)(k:Nat)(hk:k<ss.length):E3 (ss.take (k+1))=E3 (ss.take k)++Be ss[k]:=by
 unfold E3;rw[Bs hk,A7,GW,A4,kC,Dc,Gm,BU]
theorem yQ(ss:List AE)(h:BG ss≤18446744073709551615):(E3 ss).length≤10*ss.length+BG ss:=by
 induction ss with
 |nil=>simp[E3]
 |cons z r ih=>
  have e:BG (z::r)=z.length+BG r:=by simp[BG]
  have h1:=EP z.length AA;have h2:=ih AA;rw[e];simp only[E3,A4,Dc,AP,Ai,Be]at h2⊢;omega
theorem MO{w:World}{b:Nat}{bs:AE}{L:AH}(hW:DO b bs L)(hh:Holds L w){a:Option Addr}{cap:Nat}{ss:List AE}(ha:Arr w (keys L) a (ss.map AG))(hlen:bs.length+10*ss.length+BG ss≤140737488355328):
  Cl Tryz.prog oH [ptr b,.slice a ss.length cap] w λ_ w'=>∃L',DO b (bs++E3 ss) L'∧St w (keys L) L' w':=by
 have hS:=St.enter hh;generalize hT:keys L=T0 at hS ha⊢;refine gJ rfl ?_;refine jq ⟨?_⟩;refine AL.loop (λk:Nat=>[(0,ptr b),(6,.slice a ss.length cap),(7,.int .i64 ss.length),(8,.int .i64 k)])
  (λk w'=>k≤ss.length∧ ∃L',DO b (bs++E3 (ss.take k)) L'∧St w T0 L' w') (λk=>ss.length-k) 0
  ⟨rfl,rfl,rfl,rfl,trivial⟩ ⟨Ag _,L,by simpa[E3]using hW,hS⟩ ?_
 rintro k w1⟨hk,L1,hW1,hS⟩;by_cases hkl:k<ss.length
 ·obtain⟨b',off',rfl,hbT,hck⟩:=ha.get (j:=k) (by simp;omega);simp only[G5]at hck;have hs:=yR ss k hkl;have h1:=NJ ss k hkl;have h2:=Jh ss (k+1);have hln:=yQ (ss.take k) AA;have hlt:(ss.take k).length=k:=by simp;omega
  have h10:=EP ss[k].length AA;refine jq ⟨?_⟩;refine hS.ldOld hbT (by simpa using hck) ?_;refine jq ⟨?_⟩;refine hS.al ?_;intro r w3 _ hS;refine jq ⟨?_⟩;refine Cl.mono (Gg hW1 (hS.part (L:=L1)) (ns:=[ss[k].length]) (hS.arr (b:=r) (Mv hS)) (by simp;omega) AB (by rw[AP,D4];omega)) ?_;rintro _ w4⟨L3,hW3,hS'⟩;have hS:=(hS.call (L:=L1) hS').sub (AS _ _);have hW3:DO b (bs++E3 (ss.take k)++Ak ss[k].length) L3:=by simpa using hW3
  refine jq ⟨?_⟩;refine St.toBytes AK rfl rfl rfl rfl rfl rfl hS ?_;intro r2 c2 z fz w5 hc hS;refine jq ⟨?_⟩;refine Cl.mono (Pv hW3 (hS.part (L:=L3)) (xs:=ss[k]) (Arr.take (hS.arr (b:=r2) (Mv hS))) (by rw[AP,AP];omega)) ?_;rintro _ w6⟨L4,hW4,hS'⟩;have hS:=(hS.call (L:=L3) hS').sub (AS _ _);refine jq ⟨?_⟩;refine⟨k+1,⟨rfl,rfl,rfl,rfl,trivial⟩,⟨AA,L4,?_,hS⟩,AA⟩;rw[hs,Be];simpa using hW4
 ·have hke:k=ss.length:=AA;subst hke;rw[Bz]at hW1;refine jq ⟨?_⟩;exact⟨L1,hW1,hS⟩
end Go.Proofs.YtkgibdhpijdbfaaGreatDoor
namespace Go.Eng
open Go
theorem St.mkN{P:Program}{T0:BO}(hT:BX P T0){t e:TypeId}{i ie:TI}(hi:tf T0 t=some i)(hk:i.k= .slice e 1)(hie:tf T0 e=some ie)(v:Value)(hz:ie.zero=v)(hc:v.cells= #[v])(hb:ie.bytes≤64){w0 w:World}{T:List Nat}{H:AH}(hS:St w0 T H w)(n:Nat)(hn:n≤1099511627776)
  {K:Value→World→Prop}(h: ∀b w',St w0 T ((b,.cells ⟨List.replicate n v⟩ e (0,0))::H) w'→K (.slice (some ⟨b,0,none⟩) n n) w'):Bk P (Instr.makeSlice t (.int .i64 (n:Int)) (.int .i64 (n:Int))) w K:=by
 obtain⟨inf,hinf,hzz,hs1,hby⟩:=OS hT hie;have ht:=CZ hT hi;rw[hk]at ht;have hsz:inf.size=1:=by have:=ht.2;rw[hinf]at this;simpa using this
 have hr:=run_make w t e inf ie.zero ht.1 hinf hzz .i64 .i64 (n:Int) (n:Int) AA AA (by
  rw[hby];have:(ie.bytes:Int)*(n:Int)≤64*(n:Int):=Int.mul_le_mul_of_nonneg_right AA AA;omega) AA
 rw[hsz,hz,hc,Nat.mul_one,Int.toNat_natCast]at hr;have e1:madeCells #[v] n=⟨List.replicate n v⟩:=Array.ext' (toList_madeCells_one v n);rw[e1]at hr;exact Bk.of hr (h _ _ (hS.alloc _))
end Go.Eng
namespace Go.Proofs.YtkgibdhpijdbfaaGreatDoor
open Go Go.Eng Go.Proofs
theorem Kg(m:AJ)(n:AE):(BA m n).2.files.length≤m.files.length:=by
 unfold BA
 split
 ·exact AV _
 ·simp only
  split
  ·exact AV _
  ·exact(GZ n m.files).length_le
theorem Tn(m:AJ)(n:AE)(ps:List AE):(A9 m n ps).2.files.length≤m.files.length+1:=by
 unfold A9
 split
 ·exact Dz _
 split
 ·exact Dz _
 split
 ·exact Dz _
 split
 ·exact Dz _
 ·exact JY _ _ _
theorem YO(m:AJ)(n:AE):(CW m n).2.files.length≤m.files.length+1:=by
 unfold CW
 split
 ·exact Dz _
 ·simp only
  split
  ·exact Dz _
  ·exact JY _ _ _
theorem O2(m:AJ)(a b:AE):(Cx m a b).2.files.length≤m.files.length+1:=by
 unfold Cx
 split
 ·exact Dz _
 split
 ·exact Dz _
 ·simp only
  split
  ·exact Dz _
  ·exact Au (JY _ _ _) (Nat.succ_le_succ (GZ a m.files).length_le)
theorem Kl(m:AJ)(n t:AE):(CE m n t).2.files.length≤m.files.length+2:=by
 have h1:=Kg m n;have h2:=Tn (BA m n).2 n [t];have h3:=YO (A9 (BA m n).2 n [t]).2 n;unfold CE
 split
 ·omega
 split<;>omega
theorem KG(m:AJ)(n:AE)(ps:List AE):(Cd m n ps).2.files.length≤m.files.length+2:=by
 unfold Cd
 split
 ·exact Kl m n _
 ·exact Nat.le_add_right _ _
end Go.Proofs.YtkgibdhpijdbfaaGreatDoor
