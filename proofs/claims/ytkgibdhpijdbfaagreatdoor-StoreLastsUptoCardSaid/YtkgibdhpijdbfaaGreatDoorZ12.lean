/- Texts of this claim, one behind the other. -/
import Derived.Test.YtkgibdhpijdbfaaGreatDoorZ9
import Derived.Test.YtkgibdhpijdbfaaGreatDoorZ3
import Derived.Test.YtkgibdhpijdbfaaGreatDoorZ7
import Derived.Test.YtkgibdhpijdbfaaGreatDoorZ8
import Derived.Test.YtkgibdhpijdbfaaGreatDoorZ6
import Derived.Maps.Own
set_option linter.unusedVariables false
set_option linter.unusedSimpArgs false
set_option maxHeartbeats 16000000
namespace Go.Proofs.YtkgibdhpijdbfaaGreatDoor
open Go Go.Eng Go.Proofs
def JF(x:AE×Nat):Value:= .agg ⟨[AG x.1,.int .i64 x.2]⟩
structure AJ where
 files:List (AE×(AE×Nat))
 fates:List (Int×Int)
 armed:Nat
 acts:Nat
 off:Bool
inductive JH:Option Nat→List (Int×Int)→AH→Prop where
 |nil:JH none [] []
 |made (f:Nat) (es:Array MapEntry) (c:Nat) (fs:List (Int×Int)) (h:MapC AY AY es c fs):JH (some f) fs [(f,.map es c)]
inductive BI(b:Nat)(m:AJ):AH→Prop where
 |mk (mf:Nat) (es:Array MapEntry) (c:Nat) (hes:MapC AG JF es c m.files) (ft:Option Nat) (Lf:AH) (hf:JH ft m.fates Lf):
  BI b m ((b,.cells ⟨[.map ft,.int .i64 m.armed,.int .i64 m.acts,.bool m.off,.map (some mf)]⟩ C1 (0,0))::(mf,.map es c)::Lf)
theorem JD:Tryz.prog.underlying C0=some .string:=CZ AK (t:=C0) rfl
theorem Pc{w:World}:Cl Tryz.prog qL [] w λv w'=>∃b L,v=ptr b∧w.heap.size≤b∧BI b ⟨[],[],0,0,false⟩ L∧St w [] L w':=by
 have hS:=St.start w;refine lE rfl ?_;refine jq ⟨?_⟩;refine hS.al ?_;intro mf w1 _ hS;refine jq ⟨?_⟩;refine hS.al ?_;intro b w2 hb hS;refine jq ⟨?_⟩;exact⟨b,_,rfl,hb,BI.mk (m:=⟨[],[],0,0,false⟩) mf #[] 0 ⟨rfl,by simp[E3]⟩ none [] JH.nil,hS⟩
theorem Ic{w:World}{b:Nat}{m:AJ}{L:AH}(hF:BI b m L)(hh:Holds L w):Cl Tryz.prog Qh [ptr b] w λv w'=>v= .bool m.off∧St w (keys L) L w':=by
 have hS:=St.enter hh;obtain⟨mf,es,c,hes,ft,Lf,hf⟩:=hF;refine lH rfl ?_;(repeat(refine jt ⟨?_⟩;refine hS.q ?_;intro _ hS));refine jt ⟨?_⟩;exact⟨rfl,hS⟩
theorem J0{w:World}{b:Nat}{m:AJ}{L:AH}(hF:BI b m L)(hh:Holds L w):Cl Tryz.prog qO [ptr b] w λv w'=>v= .int .i64 (if m.off then 7 else 0)∧St w (keys L) L w':=by
 have hS:=St.enter hh;obtain⟨mf,es,c,hes,ft,Lf,hf⟩:=hF;refine lJ rfl ?_;(repeat(refine jt ⟨?_⟩;refine hS.q ?_;intro _ hS));refine jt ⟨?_⟩;refine Ax.bool (λh=>?_) (λh=>?_)
 ·(repeat(refine jt ⟨?_⟩;refine hS.q ?_;intro _ hS));refine jt ⟨?_⟩;exact⟨by rw[h];rfl,hS⟩
 ·(repeat(refine jt ⟨?_⟩;refine hS.q ?_;intro _ hS));refine jt ⟨?_⟩;exact⟨by rw[h];rfl,hS⟩
def named(s:AE):Bool:=decide (s≠[])&&decide (s.length≤40)
theorem Wl{w:World}(s:AE):Cl Tryz.prog qM [AG s] w λv w'=>v= .bool (named s)∧St w [] [] w':=by
 have hS:=St.start w;refine lF rfl ?_;refine jq ⟨?_⟩;refine Ax.dec (λh=>?_) (λh=>?_)
 ·refine jq ⟨?_⟩;subst h;exact⟨rfl,hS⟩
 ·refine jq ⟨?_⟩;refine⟨?_,hS⟩;unfold named;rw[decide_eq_true h,Bool.true_and];exact congrArg Value.bool (decide_eq_decide.2 AA)
def DN(m:AJ):Int:=(Am (m.armed:Int) m.fates).getD 0
def acted(m:AJ):AJ:={m with armed:=m.armed+1,acts:=m.acts+1,off:=decide (DN m=1)||decide (DN m=2)}
theorem Ns{w:World}{b:Nat}{m:AJ}{L:AH}(hF:BI b m L)(hh:Holds L w)(h1:m.armed+1≤9223372036854775807)(h2:m.acts+1≤9223372036854775807):
  Cl Tryz.prog qN [ptr b] w λv w'=>v= .int .i64 (DN m)∧ ∃L',BI b (acted m) L'∧St w (keys L) L' w':=by
 have hS:=St.enter hh;obtain⟨mf,es,c,hes,ft,Lf,hf⟩:=hF;refine lI rfl ?_;refine jq ⟨?_⟩;refine AM.draw AK mixed (λw'=>St w (keys ((b,.cells ⟨[.map ft,.int .i64 m.armed,.int .i64 m.acts,.bool m.off,.map (some mf)]⟩ C1 (0,0))::(mf,.map es c)::Lf)) ((b,.cells ⟨[.map ft,.int .i64 m.armed,.int .i64 m.acts,.bool m.off,.map (some mf)]⟩ C1 (0,0))::(mf,.map es c)::Lf) w')
  [] [0,1,2,3,4,5,6,7,8,9] AD hS.drew ?_
 have hS:=hS.drew;generalize w.drew=w1 at hS⊢;refine jr ⟨?_⟩;have key: ∀{K:Value→Prop},K (.int .i64 (DN m))→Fz Tryz.prog (Instr.lookup Nq (.map ft) (AY m.armed) false) (λw'=>St w (keys ((b,.cells ⟨[.map ft,.int .i64 m.armed,.int .i64 m.acts,.bool m.off,.map (some mf)]⟩ C1 (0,0))::(mf,.map es c)::Lf)) ((b,.cells ⟨[.map ft,.int .i64 m.armed,.int .i64 m.acts,.bool m.off,.map (some mf)]⟩ C1 (0,0))::(mf,.map es c)::Lf) w') K:=by
  intro K hK;generalize hfs:m.fates=fs at hf;cases hf with
  |nil=>
   refine tI AK Bn.i64 rfl rfl Em rfl ?_;have:DN m=0:=by unfold DN;rw[hfs];rfl
   rw[this]at hK;exact hK
  |made f es' c' _ hm=>
   refine IS AK Bn.i64 rfl rfl Em rfl (kvs:=fs) (λw' hw'=>⟨es',c',hw'.mem (b:=f),hm.of⟩) ?_;have:((Am (m.armed:Int) fs).map AY).getD (.int .i64 0)= .int .i64 (DN m):=by
    unfold DN;rw[hfs];cases Am (m.armed:Int) fs<;>rfl
   rw[←this]at hK;exact hK
 refine key ?_;generalize hfm:DN m=fm;have fin: ∀w',St w (keys ((b,.cells ⟨[.map ft,.int .i64 m.armed,.int .i64 m.acts,.bool m.off,.map (some mf)]⟩ C1 (0,0))::(mf,.map es c)::Lf)) ((b,.cells ⟨[.map ft,.int .i64 (m.armed+1:Nat),.int .i64 (m.acts+1:Nat),.bool (decide (fm=1)||decide (fm=2)),.map (some mf)]⟩ C1 (0,0))::(mf,.map es c)::Lf) w'→
   ∃L',BI b (acted m) L'∧St w (keys ((b,.cells ⟨[.map ft,.int .i64 m.armed,.int .i64 m.acts,.bool m.off,.map (some mf)]⟩ C1 (0,0))::(mf,.map es c)::Lf)) L' w':=λw' h=>
  ⟨_,BI.mk (m:=acted m) mf es c hes ft Lf hf,by unfold acted;rw[hfm];exact h⟩
 (repeat(refine jt ⟨?_⟩;refine hS.q ?_;intro _ hS));refine jt ⟨?_⟩;refine Ax.dec (λh=>?_) (λh=>?_)
 ·subst h;(repeat(refine jt ⟨?_⟩;refine hS.q ?_;intro _ hS));refine jt ⟨?_⟩;exact⟨rfl,fin _ hS⟩
 ·have e1:decide (fm=1)=false:=by simp[h]
  rw[e1]at fin;(repeat(refine jt ⟨?_⟩;refine hS.q ?_;intro _ hS));refine jt ⟨?_⟩;exact⟨rfl,fin _ hS⟩
def AN(m:AJ)(name:AE):Option (AE×Nat):=Am name m.files
def BA(m:AJ)(name:AE):(AE×Nat)×Int:=if m.off then(([],0),7)else match AN m name with|none=>(([],0),5)|some x=>(x,0)
theorem Mm{w:World}{b:Nat}{m:AJ}{L:AH}(hF:BI b m L)(hh:Holds L w)(name:AE):
  Cl Tryz.prog qJ [ptr b,AG name] w λv w'=>v= .tuple ⟨[JF (BA m name).1,.int .i64 (BA m name).2]⟩∧St w (keys L) L w':=by
 have hS:=St.enter hh;obtain⟨mf,es,c,hes,ft,Lf,hf⟩:=hF;refine lC rfl ?_;refine jq ⟨?_⟩;refine hS.al ?_;intro r w1 _ hS;(repeat(refine jt ⟨?_⟩;refine hS.q ?_;intro _ hS));refine jt ⟨?_⟩;refine IS AK Bn.str rfl rfl JD rfl (kvs:=m.files) (λw' hw'=>⟨es,c,by subst hw';exact hS.mem (b:=mf),hes.of⟩) ?_;have hv: ∃x:AE×Nat,((Am name m.files).map JF).getD (.agg ⟨[.string ⟨⟨[]⟩⟩,.int .i64 0]⟩)= .agg ⟨[AG x.1,.int .i64 x.2]⟩∧((Am name m.files).isSome=true→Am name m.files=some x):=by
  cases Am name m.files with
  |none=>exact⟨([],0),rfl,nofun⟩
  |some x=>exact⟨x,rfl,λ_=>rfl⟩
 obtain⟨x,hx1,hx2⟩:=hv;have hx1':((Am name m.files).map JF).getD (TI.zero ⟨.struct [(0,1),(1,1)],2,24,.agg ⟨[.string ⟨⟨[]⟩⟩,.int .i64 0]⟩⟩)= .agg ⟨[AG x.1,.int .i64 x.2]⟩:=hx1;simp only[hx1'];refine jq ⟨?_⟩;refine hS.al ?_;intro r2 w2 _ hS;(repeat(refine jt ⟨?_⟩;refine hS.q ?_;intro _ hS));refine jt ⟨?_⟩;have hS:=hS;refine Ax.bool (λh=>?_) (λh=>?_)
 ·(repeat(refine jt ⟨?_⟩;refine hS.q ?_;intro _ hS));refine jt ⟨?_⟩;have e:BA m name=(([],0),7):=by unfold BA;rw[h];rfl
  rw[e];exact⟨rfl,hS.sub (((List.Sublist.refl _).cons _).cons _)⟩
 ·(repeat(refine jt ⟨?_⟩;refine hS.q ?_;intro _ hS));refine jt ⟨?_⟩;refine Ax.bool (λh2=>?_) (λh2=>?_)
  ·have e:BA m name=(x,0):=by unfold BA AN;rw[h,hx2 h2];rfl
   rw[e];(repeat(refine jt ⟨?_⟩;refine hS.q ?_;intro _ hS));refine jt ⟨?_⟩;exact⟨rfl,hS.sub (((List.Sublist.refl _).cons _).cons _)⟩
  ·have hn:Am name m.files=none:=by simpa using h2
   have e:BA m name=(([],0),5):=by unfold BA AN;rw[h,hn];rfl
   rw[e];(repeat(refine jt ⟨?_⟩;refine hS.q ?_;intro _ hS));refine jt ⟨?_⟩;exact⟨rfl,hS.sub (((List.Sublist.refl _).cons _).cons _)⟩
theorem Kf{w:World}{b:Nat}{m:AJ}{L:AH}(hF:BI b m L)(hh:Holds L w)(name:AE):
  Cl Tryz.prog VN [ptr b,AG name] w λv w'=>v= .tuple ⟨[AG (BA m name).1.1,.int .i64 (BA m name).2]⟩∧St w (keys L) L w':=by
 refine kZ rfl ?_;refine jq ⟨?_⟩;refine(Mm hF hh name).mono ?_;rintro _ w1⟨rfl,hS⟩;refine jq ⟨?_⟩;refine hS.al ?_;intro r w2 _ hS;(repeat(refine jt ⟨?_⟩;refine hS.q ?_;intro _ hS));refine jt ⟨?_⟩;exact⟨rfl,hS.sub (AS _ _)⟩
theorem WY{C:World→Prop}{mf:Nat}{name:AE}{fs:List (AE×(AE×Nat))}(hm: ∀w,C w→ ∃es clock,w.heap[mf]?=some (.map es clock)∧Fc AG JF es fs){K:Value→Prop}
  (hK:K (JF ((Am name fs).getD ([],0)))):Fz Tryz.prog (Instr.lookup MQ (.map (some mf)) (AG name) false) C K:=by
 refine IS AK Bn.str rfl rfl JD rfl hm ?_;cases h:Am name fs with
 |none=>rw[h]at hK;exact hK
 |some x=>rw[h]at hK;exact hK
def BB(m:AJ)(name:AE)(ps:List AE):Int×AJ:=
 if m.off then(7,m)
 else if !named name then(4,m)
 else if DN m=3 then(6,acted m)
 else if DN m=1 then(7,acted m)
 else(if(acted m).off then 7 else 0,{acted m with files:=BV name (((AN m name).getD ([],0)).1++ps.flatten,((AN m name).getD ([],0)).2) m.files})
theorem MD{w:World}{b:Nat}{m:AJ}{L:AH}(hF:BI b m L)(hh:Holds L w)(name:AE){a:Option Addr}{cap:Nat}{ps:List AE}(ha:Arr w (keys L) a (ps.map AG))
  (hc:ps.length≤cap)(hcc:cap≤140737488355328)(hlen:BG ps+((AN m name).getD ([],0)).1.length≤140737488355328)(h1:m.armed+1≤9223372036854775807)(h2:m.acts+1≤9223372036854775807):
  Cl Tryz.prog qH [ptr b,AG name,.slice a ps.length cap] w λv w'=>v= .int .i64 (BB m name ps).1∧ ∃L',BI b (BB m name ps).2 L'∧St w (keys L) L' w':=by
 have hS:=St.enter hh;refine kV rfl ?_;unfold BB;have hoff: ∃mf es c,∃(_:MapC AG JF es c m.files),∃ft Lf,∃(_:JH ft m.fates Lf),L=(b,.cells ⟨[.map ft,.int .i64 m.armed,.int .i64 m.acts,.bool m.off,.map (some mf)]⟩ C1 (0,0))::(mf,.map es c)::Lf:=by
  obtain⟨mf,es,c,hes,ft,Lf,hf⟩:=hF;exact⟨mf,es,c,hes,ft,Lf,hf,rfl⟩
 obtain⟨mf,es,c,hes,ft,Lf,hf,hL⟩:=hoff;have hSL:=hS;rw[hL]at hSL;have hS0:=hS;have hS:=hSL;(repeat(refine jt ⟨?_⟩;refine hS.q ?_;intro _ hS));refine jt ⟨?_⟩;have hS:=hS0;by_cases hoff:m.off=true
 ·rw[if_pos hoff];refine Ax.eqt hoff ?_;refine jq ⟨?_⟩;exact⟨rfl,L,hF,hS⟩
 ·have hoff':m.off=false:=by simpa using hoff
  rw[if_neg hoff];refine Ax.eqf hoff' ?_;refine jq ⟨?_⟩;refine(Wl name).mono ?_;rintro _ w1⟨rfl,hS'⟩;have hS:=hS.call0 hS';refine jq ⟨?_⟩;by_cases hnm:named name=true
  ·refine Ax.eqt hnm ?_;rw[hnm];refine jq ⟨?_⟩;refine(Ns hF hS.holds h1 h2).mono ?_;rintro _ w2⟨rfl,L1,hF1,hS'⟩;have hS:=hS.call hS';refine jq ⟨?_⟩;by_cases h3:DN m=3
   ·rw[if_neg AB,if_pos h3];refine jq ⟨?_⟩;exact⟨rfl,L1,hF1,hS⟩
   ·rw[if_neg AB,if_neg h3];refine jq ⟨?_⟩;by_cases h4:DN m=1
    ·rw[if_pos h4];refine jq ⟨?_⟩;exact⟨rfl,L1,hF1,hS⟩
    ·rw[if_neg h4];obtain⟨x,hx⟩: ∃x,(AN m name).getD ([],0)=x:=⟨_,rfl⟩;rw[hx]at hlen⊢;obtain⟨mf1,es1,c1,hes1,ft1,Lf1,hf1⟩:=hF1;have ha0:=ha;generalize keys L=T0 at hS ha0⊢;generalize hac:(acted m).off=off1 at hS⊢;(repeat(refine jt ⟨?_⟩;refine hS.q ?_;intro _ hS));refine jt ⟨?_⟩;refine WY (λw' hw'=>⟨es1,c1,by subst hw';exact hS.mem (b:=mf1),hes1.of⟩) ?_;rw[show(Am name (acted m).files).getD ([],0)=x from hx]
     refine jq ⟨?_⟩;refine hS.al ?_;intro r w3 _ hS;(repeat(refine jt ⟨?_⟩;refine hS.q ?_;intro _ hS));refine jt ⟨?_⟩;refine AM.draw AK mixed (λw'=>St w T0 ((r,.cells ⟨[AG x.1,.int .i64 x.2]⟩ Jx (0,0))::(b,.cells ⟨[.map ft1,.int .i64 (acted m).armed,.int .i64 (acted m).acts,.bool off1,.map (some mf1)]⟩ C1 (0,0))::(mf1,.map es1 c1)::Lf1) w')
      [6] [0,1,2,3,4,5,6] AD hS.drew ?_
     have hS:=hS.drew;refine jr ⟨?_⟩;refine(Za (sep:=[]) ((hS.arrOld ha0).sub AB) hc hcc (by simp;omega)).mono ?_;rintro _ w4⟨rfl,hS'⟩;have hS:=hS.call0 hS';refine Ae.mk hS ?_;rw[sS];refine Ae.mk (by rw[show ps.flatten.length=BG ps from by simp[BG,List.length_flatten]];omega) ?_;(repeat(refine jt ⟨?_⟩;refine hS.q ?_;intro _ hS));refine jt ⟨?_⟩;refine AM.draw AK mixed (λw'=>St w T0 ((r,.cells ⟨[AG (x.1++ps.flatten),.int .i64 x.2]⟩ Jx (0,0))::(b,.cells ⟨[.map ft1,.int .i64 (acted m).armed,.int .i64 (acted m).acts,.bool off1,.map (some mf1)]⟩ C1 (0,0))::(mf1,.map es1 c1)::Lf1) w')
      [6] [0,1,2,3,4,5,6] AD hS.drew ?_
     have hS:=hS.drew;refine jr ⟨?_⟩;refine St.mapSet AK Bn.str rfl rfl JD hS (v:=(x.1++ps.flatten,x.2)) hes1 ?_;intro es2 c2 w5 hes2 hS;have hS:=hS.sub (AS _ _);refine jq ⟨?_⟩;have hF2:=BI.mk (b:=b) (m:={acted m with files:=BV name (x.1++ps.flatten,x.2) m.files}) mf1 es2 c2 hes2 ft1 Lf1 hf1;subst hac;refine(J0 hF2 hS.holds).mono ?_;rintro _ w6⟨rfl,hS'⟩;have hS:=hS.call hS';refine jq ⟨?_⟩;exact⟨rfl,_,hF2,hS⟩
  ·have hnm':named name=false:=by simpa using hnm
   refine Ax.eqf hnm' ?_;rw[hnm'];refine jq ⟨?_⟩;exact⟨rfl,L,hF,hS⟩
def CV(m:AJ)(name:AE):Int×AJ:=
 if(BA m name).2≠0 then((BA m name).2,m)
 else(if(acted m).off then 7 else 0,if DN m=1 then acted m else{acted m with files:=BV name ((BA m name).1.1,(BA m name).1.1.length) m.files})
theorem MN{w:World}{b:Nat}{m:AJ}{L:AH}(hF:BI b m L)(hh:Holds L w)(name:AE)(h1:m.armed+1≤9223372036854775807)(h2:m.acts+1≤9223372036854775807):
  Cl Tryz.prog qI [ptr b,AG name] w λv w'=>v= .int .i64 (CV m name).1∧ ∃L',BI b (CV m name).2 L'∧St w (keys L) L' w':=by
 refine lB rfl ?_;unfold CV;refine jq ⟨?_⟩;refine(Mm hF hh name).mono ?_;rintro _ w1⟨rfl,hS⟩;generalize BA m name=y;obtain⟨x,e⟩:=y;refine jq ⟨?_⟩;refine hS.al ?_;intro r w2 _ hS;(repeat(refine jt ⟨?_⟩;refine hS.q ?_;intro _ hS));refine jt ⟨?_⟩;by_cases he:e=0
 ·subst he;rw[if_neg AB];refine jq ⟨?_⟩;refine(Ns hF (hS.part (L:=L)) h1 h2).mono ?_;rintro _ w3⟨rfl,L1,hF1,hS'⟩;have hS:=hS.call (L:=L) hS';generalize keys L=T0 at hS⊢;by_cases h4:DN m=1
  ·rw[if_pos h4];refine jq ⟨?_⟩;refine(J0 hF1 (hS.part (L:=L1))).mono ?_;rintro _ w6⟨rfl,hS'⟩;have hS:=hS.call (L:=L1) hS';refine jq ⟨?_⟩;exact⟨rfl,_,hF1,hS.sub (AS _ _)⟩
  ·rw[if_neg h4];obtain⟨mf1,es1,c1,hes1,ft1,Lf1,hf1⟩:=hF1;generalize hac:(acted m).off=off1 at hS⊢;(repeat(refine jt ⟨?_⟩;refine hS.q ?_;intro _ hS));refine jt ⟨?_⟩;refine AM.draw AK mixed (λw'=>St w T0 ((r,.cells ⟨[AG x.1,.int .i64 x.1.length]⟩ Jx (0,0))::(b,.cells ⟨[.map ft1,.int .i64 (acted m).armed,.int .i64 (acted m).acts,.bool off1,.map (some mf1)]⟩ C1 (0,0))::(mf1,.map es1 c1)::Lf1) w')
    [6] [0,1,2,3,4,5,6] AD hS.drew ?_
   have hS:=hS.drew;refine jr ⟨?_⟩;refine St.mapSet AK Bn.str rfl rfl JD hS (v:=(x.1,x.1.length)) hes1 ?_;intro es2 c2 w5 hes2 hS;have hS:=hS.sub (AS _ _);refine jq ⟨?_⟩;have hF2:=BI.mk (b:=b) (m:={acted m with files:=BV name (x.1,x.1.length) m.files}) mf1 es2 c2 hes2 ft1 Lf1 hf1;subst hac;refine(J0 hF2 hS.holds).mono ?_;rintro _ w6⟨rfl,hS'⟩;have hS:=hS.call hS';refine jq ⟨?_⟩;exact⟨rfl,_,hF2,hS⟩
 ·rw[if_pos he];refine jq ⟨?_⟩;exact⟨rfl,L,hF,hS.sub (AS _ _)⟩
def B7(t:List UInt8)(k:Nat):List UInt8×Nat×Int:=
 if t.length<k+8 then([],0,1)
 else if 65536<Co (t.drop k)∨(t.drop k).length<Co (t.drop k)+8 then([],0,1)
 else if Fj [(t.drop k).take 4,((t.drop k).take (8+Co (t.drop k))).drop 8]=Co ((t.drop k).drop 4)then(((t.drop k).take (8+Co (t.drop k))).drop 8,k+8+Co (t.drop k),0)
 else([],0,1)
theorem Sn{w:World}(t:List UInt8)(k:Nat)(ht:t.length≤140737488355328)(hk:k≤t.length):
  Cl Tryz.prog mH [AG t,.int .i64 k] w λv w'=>v= .tuple ⟨[AG (B7 t k).1,.int .i64 (B7 t k).2.1,.int .i64 (B7 t k).2.2]⟩∧St w [] [] w':=by
 have hS:=St.start w;refine eF rfl ?_;unfold B7;by_cases h1:t.length<k+8
 ·rw[if_pos h1];refine jq ⟨?_⟩;exact⟨rfl,hS⟩
 ·rw[if_neg h1];refine jq ⟨?_⟩;refine(W3 (t.drop k) (by simp;omega)).mono ?_;rintro _ w1⟨rfl,hS'⟩;have hS:=hS.call0 hS';have hrl:(t.drop k).length=t.length-k:=AB;rw[show List.drop (k:Int).toNat t=t.drop k from rfl];generalize t.drop k=rest at hrl⊢;have hn:=uZ rest;generalize Co rest=n at hn⊢;by_cases h2:65536<n
  ·rw[if_pos (.inl h2)];refine jq ⟨?_⟩;exact⟨rfl,hS⟩
  ·refine jq ⟨?_⟩;by_cases h3:rest.length<n+8
   ·rw[if_pos (.inr h3)];refine jq ⟨?_⟩;exact⟨rfl,hS⟩
   ·rw[if_neg AA];refine jq ⟨?_⟩;refine AM.draw AK mixed (λw'=>St w [] [] w') [7,8] [0,1,2,5,6,3,4,7,8] AD hS.drew ?_;have hS:=hS.drew;refine jq ⟨?_⟩;refine hS.al ?_;intro b2 w2 _ hS;refine Ae.mk hS.nil ?_;refine(TP (ps:=[rest.take 4,(rest.take (8+n)).drop 8]) AB (by simp;omega) (hS.arr (b:=b2) AB)).mono ?_;rintro _ w3⟨rfl,hS'⟩;have hS:=(hS.call0 hS').nil;refine Ae.mk hS ?_;refine(W3 (rest.drop 4) (by simp;omega)).mono ?_
    rintro _ w4⟨rfl,hS'⟩;have hS:=hS.call0 hS';by_cases h5:Fj [rest.take 4,(rest.take (8+n)).drop 8]=Co (rest.drop 4)
    ·rw[if_pos h5];refine jq ⟨?_⟩;exact⟨rfl,hS⟩
    ·rw[if_neg h5];refine jq ⟨?_⟩;exact⟨rfl,hS⟩
def JA(t:List UInt8):Nat→Nat→List (List UInt8)×Nat
 |0,k=>([],k)
 |fuel+1,k=>if(B7 t k).2.2≠0 then([],k)else((B7 t k).1::(JA t fuel (B7 t k).2.1).1,(JA t fuel (B7 t k).2.1).2)
theorem Qn(t:List UInt8)(k:Nat)(h:(B7 t k).2.2=0):k+8≤(B7 t k).2.1∧(B7 t k).2.1≤t.length∧(B7 t k).2.1=k+8+(B7 t k).1.length∧(B7 t k).1.length≤65536:=by
 unfold B7 at h⊢
 split at h
 ·simp at h
 ·rename_i h1;rw[if_neg h1]
  split at h
  ·simp at h
  ·rename_i h2;rw[if_neg h2]
   split at h
   ·rename_i h3;rw[if_pos h3];simp only[D3,Ba]at*;omega
   ·simp at h
def Ez(ss:List AE):AE:=(ss.map Bd).flatten
theorem yN(ss:List AE)(k:Nat)(hk:k<ss.length):Ez (ss.take (k+1))=Ez (ss.take k)++Bd ss[k]:=by
 unfold Ez;rw[Bq hk,A7,kC,A4,GV,Dc,Gj,BT]
theorem yM(ss:List AE)(h:BG ss≤18446744073709551615):(Ez ss).length≤10*ss.length+BG ss:=by
 induction ss with
 |nil=>simp[Ez]
 |cons z r ih=>
  have e:BG (z::r)=z.length+BG r:=by simp[BG]
  have h1:=EO z.length AA;have h2:=ih AA;rw[e];simp only[Ez,A4,Dc,AP,Ah,Bd]at h2⊢;omega
theorem MS{w:World}{b:Nat}{bs:AE}{L:AH}(hW:DK b bs L)(hh:Holds L w){a:Option Addr}{cap:Nat}{ss:List AE}(ha:Arr w (keys L) a (ss.map AG))(hlen:bs.length+10*ss.length+BG ss≤140737488355328):
  Cl Tryz.prog oH [ptr b,.slice a ss.length cap] w λ_ w'=>∃L',DK b (bs++Ez ss) L'∧St w (keys L) L' w':=by
 have hS:=St.enter hh;generalize hT:keys L=T0 at hS ha⊢;refine gM rfl ?_;refine jq ⟨?_⟩;refine AM.loop (λk:Nat=>[(0,ptr b),(6,.slice a ss.length cap),(7,.int .i64 ss.length),(8,.int .i64 k)])
  (λk w'=>k≤ss.length∧ ∃L',DK b (bs++Ez (ss.take k)) L'∧St w T0 L' w') (λk=>ss.length-k) 0
  ⟨rfl,rfl,rfl,rfl,trivial⟩ ⟨Ag _,L,by simpa[Ez]using hW,hS⟩ ?_
 rintro k w1⟨hk,L1,hW1,hS⟩;by_cases hkl:k<ss.length
 ·obtain⟨b',off',rfl,hbT,hck⟩:=ha.get (j:=k) (by simp;omega);simp only[G4]at hck;have hs:=yN ss k hkl;have h1:=NQ ss k hkl;have h2:=Jn ss (k+1);have hln:=yM (ss.take k) AA;have hlt:(ss.take k).length=k:=by simp;omega
  have h10:=EO ss[k].length AA;refine jq ⟨?_⟩;refine hS.ldOld hbT (by simpa using hck) ?_;refine jq ⟨?_⟩;refine hS.al ?_;intro r w3 _ hS;refine jq ⟨?_⟩;refine Cl.mono (Ge hW1 (hS.part (L:=L1)) (ns:=[ss[k].length]) (hS.arr (b:=r) (M0 hS)) (by simp;omega) AB (by rw[AP,D4];omega)) ?_;rintro _ w4⟨L3,hW3,hS'⟩;have hS:=(hS.call (L:=L1) hS').sub (AS _ _);have hW3:DK b (bs++Ez (ss.take k)++Ak ss[k].length) L3:=by simpa using hW3
  refine jq ⟨?_⟩;refine St.toBytes AK rfl rfl rfl rfl rfl rfl hS ?_;intro r2 c2 z fz w5 hc hS;refine jq ⟨?_⟩;refine Cl.mono (Pw hW3 (hS.part (L:=L3)) (xs:=ss[k]) (Arr.take (hS.arr (b:=r2) (M0 hS))) (by rw[AP,AP];omega)) ?_;rintro _ w6⟨L4,hW4,hS'⟩;have hS:=(hS.call (L:=L3) hS').sub (AS _ _);refine jq ⟨?_⟩;refine⟨k+1,⟨rfl,rfl,rfl,rfl,trivial⟩,⟨AA,L4,?_,hS⟩,AA⟩;rw[hs,Bd];simpa using hW4
 ·have hke:k=ss.length:=AA;subst hke;rw[Bz]at hW1;refine jq ⟨?_⟩;exact⟨L1,hW1,hS⟩
theorem lM(last:AE)(x:AF)(hk:x.k.length≤1099511627776)(hv:x.v.length≤1099511627776)(hl:last.length≤1099511627776)(hs:CA x.s):(GU last x).length≤60+x.k.length+x.v.length:=by
 have h1:=NL last x.k;have h2:=EO (Di last x.k) AA;have h3:=EO (x.k.drop (Di last x.k)).length (by rw[D3];omega);have h4:=EO x.v.length AA;have h5:=EO 0 AA;have h6:=EO 1 AA;have h7:=OW [x.s] (λz hz=>by simp only[Cm]at hz;subst hz;exact hs);have h8:(Bg x.s).length≤10:=by simpa[Ci]using h7
 unfold GU Bd;rw[D3]at h3
 split<;>simp only[AP,D3]<;>omega
theorem lP{w:World}{wb pb:Nat}{bs last:AE}{L:AH}{x:AF}(hW:DK pb bs L)(hh:Holds ((wb,.cells ⟨[ptr pb,AG last]⟩ Gf (0,0))::L) w)
  (hk:x.k.length≤1099511627776)(hv:x.v.length≤1099511627776)(hl:last.length≤1099511627776)(hs:CA x.s)(hb:bs.length≤70368744177664):
  Cl Tryz.prog l9 [ptr wb,B9 x] w λ_ w'=>∃L',DK pb (bs++GU last x) L'∧St w (wb::keys L) ((wb,.cells ⟨[ptr pb,AG x.k]⟩ Gf (0,0))::L') w':=by
 have hS:=St.enter hh;have hsh:=NL last x.k;have hn10:=EO (Di last x.k) AA;unfold GU;generalize hT:keys ((wb,Obj.cells ⟨[ptr pb,AG last]⟩ Gf (0,0))::L)=T0 at hS;have hT':wb::keys L=T0:=hT;rw[hT'];unfold B9 AU;refine dX rfl ?_;refine jq ⟨?_⟩;refine hS.al ?_;intro b3 w1 _ hS;refine jq ⟨?_⟩;refine AM.draw AK mixed (λw'=>St w _ _ w') [6,7] [0,1,2,3,4,5,6,7] AD hS.drew ?_;have hS:=hS.drew;refine jr ⟨?_⟩
 refine(TM last x.k hl hk _).mono ?_;rintro _ w2⟨rfl,hS'⟩;have hS:=hS.call0 hS';generalize Di last x.k=n at hsh hn10⊢;refine jr ⟨?_⟩;(repeat(refine jt ⟨?_⟩;refine hS.q ?_;intro _ hS));refine jt ⟨?_⟩;refine hS.al ?_;intro b5 w3 _ hS;(repeat(refine jt ⟨?_⟩;refine hS.q ?_;intro _ hS));refine jt ⟨?_⟩;refine Cl.mono (Ge hW (hS.part (L:=L)) (ns:=[n]) (hS.arr (b:=b5) (Cu hS)) (by intro m hm;simp only[Cm]at hm;subst hm;omega) AB (by simp;omega)) ?_
 rintro _ w4⟨L1,hW,hS'⟩;have hS:=hS.call (L:=L) hS';have hS:=hS.sub (AS _ _);rw[show([n].map Ak).flatten=Ak n by simp]at hW;(repeat(refine jt ⟨?_⟩;refine hS.q ?_;intro _ hS));refine jt ⟨?_⟩;refine AM.draw AK mixed (λw'=>St w _ _ w') [9] [0,1,2,3,4,5,6,7,8,9] AD hS.drew ?_;have hS:=hS.drew;refine jr ⟨?_⟩;rw[show((n:Int)).toNat=n by omega];refine hS.al ?_;intro b6 w5 _ hS;refine Ae.mk (hS.sub (AS _ _)) ?_
 refine jr ⟨?_⟩;have hdl:(x.k.drop n).length=x.k.length-n:=D3;refine Cl.mono (MS hW (hS.part (L:=L1)) (ss:=[x.k.drop n]) (hS.arr (b:=b6) (Cu hS)) (by simp[BG];omega)) ?_;rintro _ w6⟨L2,hW,hS'⟩;have hS:=hS.call (L:=L1) hS';have hS:=hS.sub (AS _ _);rw[show Ez [x.k.drop n]=Bd (x.k.drop n) by simp[Ez]]at hW;refine jr ⟨?_⟩;(repeat(refine jt ⟨?_⟩;refine hS.q ?_;intro _ hS));refine jt ⟨?_⟩;refine AM.draw AK mixed (λw'=>St w _ _ w') [7] [0,1,2,3,4,5,6,7] AD hS.drew ?_
 have hS:=hS.drew;refine jr ⟨?_⟩;refine hS.al ?_;intro b7 w7 _ hS;refine Ae.mk (hS.sub (AS _ _)) ?_;refine jr ⟨?_⟩;have htl:(Bd (x.k.drop n)).length≤10+x.k.length:=by
  have:=EO (x.k.length-n) AA;unfold Bd;rw[AP,hdl];omega
 refine Cl.mono (MK hW (hS.part (L:=L2)) (zs:=[x.s]) (hS.arr (b:=b7) (Cu hS)) (λz hz=>by simp only[Cm]at hz;subst hz;exact hs) AB (by simp only[AP,Ah,Bv];omega)) ?_;rintro _ w8⟨L3,hW,hS'⟩;have hS:=hS.call (L:=L2) hS';have hS:=hS.sub (AS _ _);have hil:=OW [x.s] (λz hz=>by simp only[Cm]at hz;subst hz;exact hs);simp only[Ah,Bv]at hil;rw[show Ci [x.s]=Bg x.s by simp[Ci]]at hW hil;refine jr ⟨?_⟩;cases hd:x.d with
 |true=>
  rw[hd]at hS;(repeat(refine jt ⟨?_⟩;refine hS.q ?_;intro _ hS));refine jt ⟨?_⟩;refine hS.al ?_;intro b8 w9 _ hS;(repeat(refine jt ⟨?_⟩;refine hS.q ?_;intro _ hS));refine jt ⟨?_⟩;refine Cl.mono (Ge hW (hS.part (L:=L3)) (ns:=[1]) (hS.arr (b:=b8) (Cu hS)) (by intro m hm;simp only[Cm]at hm;subst hm;omega) AB (by simp only[AP,Ah,Bv];omega)) ?_;rintro _ w10⟨L4,hW,hS'⟩;have hS:=hS.call (L:=L3) hS';have hS:=hS.sub (AS _ _)
  rw[show([1].map Ak).flatten=Ak 1 by simp]at hW;(repeat(refine jt ⟨?_⟩;refine hS.q ?_;intro _ hS));refine jt ⟨?_⟩;refine⟨L4,?_,hS.sub (AS _ _)⟩;simpa using hW
 |false=>
  rw[hd]at hS;(repeat(refine jt ⟨?_⟩;refine hS.q ?_;intro _ hS));refine jt ⟨?_⟩;refine hS.al ?_;intro b8 w9 _ hS;(repeat(refine jt ⟨?_⟩;refine hS.q ?_;intro _ hS));refine jt ⟨?_⟩;refine Cl.mono (Ge hW (hS.part (L:=L3)) (ns:=[0]) (hS.arr (b:=b8) (Cu hS)) (by intro m hm;simp only[Cm]at hm;subst hm;omega) AB (by simp only[AP,Ah,Bv];omega)) ?_;rintro _ w10⟨L4,hW,hS'⟩;have hS:=hS.call (L:=L3) hS';have hS:=hS.sub (AS _ _)
  have hz0:=EO 0 AA;rw[show([0].map Ak).flatten=Ak 0 by simp]at hW;(repeat(refine jt ⟨?_⟩;refine hS.q ?_;intro _ hS));refine jt ⟨?_⟩;refine AM.draw AK mixed (λw'=>St w _ _ w') [7] [0,1,2,3,4,5,6,7] AD hS.drew ?_;have hS:=hS.drew;refine jr ⟨?_⟩;refine hS.al ?_;intro b9 w11 _ hS;refine Ae.mk (hS.sub (AS _ _)) ?_;refine jr ⟨?_⟩;refine Cl.mono (MS hW (hS.part (L:=L4)) (ss:=[x.v]) (hS.arr (b:=b9) (Cu hS)) (by simp only[AP,Ah,Bv,BG,A4,GV,HK,List.sum_nil];omega)) ?_
  rintro _ w12⟨L5,hW,hS'⟩;have hS:=hS.call (L:=L4) hS';have hS:=hS.sub (AS _ _);rw[show Ez [x.v]=Bd x.v by simp[Ez]]at hW;refine jr ⟨?_⟩;(repeat(refine jt ⟨?_⟩;refine hS.q ?_;intro _ hS));refine jt ⟨?_⟩;refine⟨L5,?_,hS.sub (AS _ _)⟩;simpa using hW
end Go.Proofs.YtkgibdhpijdbfaaGreatDoor
namespace Go.Proofs.YtkgibdhpijdbfaaGreatDoor
open Go Go.Eng Go.Proofs
open Go.RowKit (Below)
abbrev Gr:Value→Option (DataW Unit×List MemPlace):=λ_=>some (.nil,[])
theorem Xm{P:Program}{k:TypeId}(hk:P.underlying k=some .string){x:MapEntry}{s:AE}(hx:x.key=AG s)(hs:s.length≤maxLen):Go.WideElems.rd P k Gr x=some (.string s,.nil):=by
 have hsz:(ByteArray.mk ⟨s⟩).size≤maxLen:=by simpa[ByteArray.size]using hs
 have h1:=Go.WideMaps.keyOf_string_mk hk hsz;unfold Go.WideElems.rd;rw[hx];show(keyOf P k (.string ⟨⟨s⟩⟩)).bind _=_;rw[h1];rfl
theorem vT{α:Type}{P:Program}{k:TypeId}(hk:P.underlying k=some .string){w:World}{m:Nat}{es:Array MapEntry}{c:Nat}(hm:w.heap[m]?=some (.map es c)){val:α→Value}{kvs:List (AE×α)}(h:MapC AG val es c kvs)
  (hl:kvs.length≤maxLen)(hs: ∀x∈kvs,x.1.length≤maxLen):
  ∃D:DataW Unit,w.ownsMap P k Gr m kvs.length D∧(strKeys D).Perm (kvs.map (·.1))∧Maps.size D=kvs.length:=by
 have hkeys:=h.of.keys Bn.str;have hlen:es.size=kvs.length:=by have:=congrArg List.length hkeys;simpa using this
 have hr: ∀x∈es.toList,∃s,x.key=AG s∧s.length≤maxLen:=by
  intro x hx;have:x.key∈es.toList.map (·.key):=CC hx;rw[hkeys]at this;obtain⟨y,hy,hye⟩:=BU.1 this;exact⟨y.1,hye.symm,hs y hy⟩
 have hmap:(es.toList.map (Go.WideElems.rg P k Gr)).map (λp=>strOf p.1)=kvs.map (·.1):=by
  have e1:(es.toList.map (Go.WideElems.rg P k Gr)).map (λp=>AG (strOf p.1))=es.toList.map (·.key):=by
   rw[Fo];apply KC;intro x hx;obtain⟨s,hxs,hss⟩:=hr x hx;simp only[Function.comp_def,Go.WideElems.rg,Xm hk hxs hss,FA,strOf,hxs]
  rw[hkeys]at e1;have inj: ∀l1 l2:List AE,l1.map AG=l2.map AG→l1=l2:=by
   intro l1
   induction l1 with
   |nil=>intro l2 h;cases l2 with|nil=>rfl|cons=>simp at h
   |cons a l1 ih=>
    intro l2 h;cases l2 with
    |nil=>simp at h
    |cons b l2=>
     simp only[A4,List.cons.injEq]at h;rw[Bn.str.inj h.1,ih l2 h.2]
  apply inj;simp only[Fo,Function.comp_def]at e1⊢;exact e1
 refine⟨_,⟨es,c,hm,⟨AA,h.st,λx hx=>?_⟩,AA,rfl⟩,?_,?_⟩
 ·obtain⟨s,hxs,hss⟩:=hr x hx;exact⟨_,Xm hk hxs hss⟩
 ·show((List.foldr DataW.insert [] (es.toList.map (Go.WideElems.rg P k Gr))).map λp=>strOf p.1).Perm _;rw[←hmap];exact(Go.WideShapes.sorted_perm _).map _
 ·show(List.foldr DataW.insert [] (es.toList.map (Go.WideElems.rg P k Gr))).length=_;rw[(Go.WideShapes.sorted_perm _).length_eq];simp[hlen]
abbrev WH(b:Nat):Value:= .func (.func nG) #[] #[.pointer (some ⟨b,0,none⟩)]
theorem sW(mb:Option Nat)(w:World):Cl Tryz.prog nF [.map mb] w λv w'=>v=WH w.heap.size∧w'=w.alloc (.cells #[.map mb] MQ):=by
 refine .inl ⟨Tryz.callKeys _ _,Calls.mono (callsIn_wide.1 (Tryz.mapsKeys mb w)) ?_⟩;rintro e w'⟨rfl,rfl⟩;exact⟨_,rfl,rfl,rfl⟩
theorem Ys{e:TypeId}{W w':World}{v:Value}{n:Nat}{xs:List Value}(h:w'.ownsRow W.heap.size e 1 v n xs)(hb:Below W.heap.size W w'): ∃a cap Lv,v= .slice a n cap∧AT e 1 a n cap xs Lv∧St W [] Lv w':=by
 have hst: ∀Lv:AH,(∀p∈Lv,w'.heap[p.1]?=some p.2)→(keys Lv).Nodup→(∀p∈Lv,W.heap.size≤p.1)→St W [] Lv w':=λLv h1 h2 h3=>
  ⟨hb.os,hb.tape,hb.output,hb.size,λb hlt _=>hb.block b hlt,h1,h2,λp hp hlt=>absurd hlt (Nat.not_lt.2 (h3 p hp))⟩
 obtain⟨hl,⟨rfl,rfl⟩|⟨g,cap,cur,rfl,hg,hcell,hn,_,hsz,htk⟩⟩:=h
 ·have:xs=[]:=by cases xs with|nil=>rfl|cons=>simp at hl
  subst this;exact⟨none,0,[],rfl,AT.nil,hst [] AB (by simp[keys]) AB⟩
 ·have e1:cur=⟨xs++cur.toList.drop (n*1)⟩:=by
   rw[←htk,CN]
  refine⟨_,cap,[(g,.cells ⟨xs++cur.toList.drop (n*1)⟩ e (0,0))],rfl,AT.row g n cap xs _ hl ?_ hn,hst _ ?_ (by simp[keys]) ?_⟩
  ·have:cur.toList.length=cap*1:=by simpa using hsz
   rw[D3];omega
  ·intro p hp;rw[Cm]at hp;subst hp;show w'.heap[g]?=some (.cells ⟨xs++cur.toList.drop (n*1)⟩ e (0,0));rw[hcell,←e1]
  ·intro p hp;rw[Cm]at hp;subst hp;exact hg
theorem xR{α:Type}{w:World}{m:Nat}{es:Array MapEntry}{c:Nat}(hm:w.heap[m]?=some (.map es c)){val:α→Value}{kvs:List (AE×α)}(h:MapC AG val es c kvs)(hl:kvs.length≤1099511627776)(hs: ∀x∈kvs,x.1.length≤maxLen):
  Cl Tryz.prog oW [WH w.heap.size] (w.alloc (.cells #[.map (some m)] MQ)) λv w'=>∃(ns:List AE)(a:Option Addr)(cap:Nat)(Lv:AH),ns.Perm (kvs.map (·.1))∧v= .slice a ns.length cap∧AT C0 1 a ns.length cap (ns.map AG) Lv∧
   St (w.alloc (.cells #[.map (some m)] MQ)) [] Lv w':=by
 have hmx:1099511627776≤maxLen:=AC;obtain⟨D,ho,hp,hsz⟩:=vT (k:=C0) (CZ AK (t:=C0) rfl) hm h AA hs;refine .inl ⟨Tryz.callSorted _ _,Calls.mono (callsIn_wide.1 (Tryz.sortedKeys m kvs.length D Gr w ho (by rw[hsz];omega) (by rw[hsz];omega))) ?_⟩;rintro e w'⟨v,ss,rfl,hS,hrow, -,hb⟩;have hl2:(ss.mergeSort (λx y=>decide (x≤y))).length=ss.length:=(List.mergeSort_perm ss _).length_eq;rw[←hl2]at hrow;obtain⟨a,cap,Lv,rfl,hv,hst⟩:=Ys hrow hb
 exact⟨_,rfl,_,a,cap,Lv,((List.mergeSort_perm ss _).trans hS).trans hp,rfl,hv,hst⟩
theorem VW{w:World}{b:Nat}{m:AJ}{L:AH}(hF:BI b m L)(hh:Holds L w)(hl:m.files.length≤1099511627776)(hs: ∀x∈m.files,x.1.length≤maxLen):
  Cl Tryz.prog qK [ptr b] w λv w'=>∃(ns:List AE)(a:Option Addr)(cap:Nat)(Lv:AH),ns.Perm (m.files.map (·.1))∧v= .slice a ns.length cap∧AT C0 1 a ns.length cap (ns.map AG) Lv∧St w (keys L) (Lv++L) w':=by
 have hS:=St.enter hh;obtain⟨mf,es,c,hes,ft,Lf,hf⟩:=hF;refine lD rfl ?_;(repeat(refine jt ⟨?_⟩;refine hS.q ?_;intro _ hS));refine jt ⟨?_⟩;refine(sW _ _).mono ?_;rintro _ w1⟨rfl,rfl⟩;have hmf:=hS.mem (b:=mf);have hS:=hS.alloc (.cells #[.map (some mf)] MQ);refine jq ⟨?_⟩;refine(xR hmf hes hl hs).mono ?_;rintro _ w2⟨ns,a,cap,Lv,hp,rfl,hv,hS'⟩;have hS:=hS.callNew hS';refine jq ⟨?_⟩;exact⟨ns,a,cap,Lv,hp,rfl,hv,hS.sub (List.Sublist.append (List.Sublist.refl _) (AS _ _))⟩
end Go.Proofs.YtkgibdhpijdbfaaGreatDoor
