/- Texts of this claim, one behind the other. -/
import Derived.Test.YtkgibdhpijdbfaaGreatDoorZ1
import Derived.RangeFuncRecord
import Derived.TacticsIn
import Derived.OrdersIn
set_option linter.unusedVariables false
set_option linter.unusedSimpArgs false
set_option maxHeartbeats 16000000
namespace Go.Eng
open Go
section
variable {P : Program} {ops : Array Oper} {Q : Exit → Act → World → Prop} {md : Region.Mode} {S : Nat → World → World → Prop}
def KT(P:Program)(md:Region.Mode)(ops:Array Oper)(Q:Exit→Act→World→Prop)(S:Nat→World→World→Prop):Nat→Array Bool→Act→World→Prop
 |0,listed,a,w=>Region.ready md ops listed=[]∧Q .normal a w
 |fuel+1,listed,a,w=>
  (Region.ready md ops listed=[]→Q .normal a w)∧
  ∀i∈Region.ready md ops listed,wpOp P ops Q i (λa' w'=>S i w w'∧KT P md ops Q S fuel (listed.setIfInBounds i true) a' w') a w
theorem Yq: ∀(fuel:Nat)(listed:Array Bool)(a:Act)(w:World),KT P md ops Q S fuel listed a w→wpAny P md ops Q fuel listed a w
 |0,_,_,_,h=>h
 |fuel+1,_,_,_,h=>⟨h.1,λi hi=>wpOp_mono (λa' w' h'=>Yq fuel _ a' w' h'.2) (h.2 i hi)⟩
theorem Yp{C:World→Prop}{n i:Nat}{oi:Oper}{v:Value}(hi:ops[i]?=some oi)(hsel: ∀(j:Nat)(o:Oper)cs b,ops[j]?=some o→o.op≠ .select cs b)
  (hQ: ∀c a w,Q (.panic c) (a.put oi.dst v) w→Q (.panic c) a w)(hSi: ∀w,S i w w):
  ∀(fuel:Nat)(listed:Array Bool)(a:Act)(w:World),Hb ops listed→
   (∀j oj,ops[j]?=some oj→j≠i→listed.getD j true=false→Ev ops n j i=false→oi.apart ops oj=true∧ ∀w1 w2,C w1→S j w1 w2→C w2)→
   i∈Region.ready .any ops listed→YieldsIf P ops C oi v a→C w→
   KT P .any ops Q S fuel (listed.setIfInBounds i true) (a.put oi.dst v) w→KT P .any ops Q S (fuel+1) listed a w:=by
 intro fuel
 induction fuel with
 |zero=>
  intro listed a w _ _ hr hy hS H;refine⟨λh=>(by rw[h]at hr;cases hr),λj hj=>?_⟩;by_cases hji:j=i
  ·subst hji;exact hy.wpOp hi hS ⟨hSi _,H⟩
  ·have:=ready_mono hj hji;rw[H.1]at this;cases this
 |succ fuel ih=>
  intro listed a w hcl hfree hr hy hS H;refine⟨λh=>(by rw[h]at hr;cases hr),λj hj=>?_⟩;by_cases hji:j=i
  ·subst hji;exact hy.wpOp hi hS ⟨hSi _,H⟩
  ·have h1:=H.2 j (ready_mono hj hji);obtain⟨hjun,oj,hoj,hall⟩:=mem_ready.1 hj;have hnot:=Xk (n:=n) hcl (mem_ready.1 hr).1 hj;obtain⟨hap,hkeep⟩:=hfree j oj hoj hji hjun hnot;have h2:=wpOp_putIf hoj hap (λcs b=>hsel i oi cs b hi) (λcs b=>hsel j oj cs b hoj) hQ hy h1;have hfree': ∀k ok,ops[k]?=some ok→k≠i→(listed.setIfInBounds j true).getD k true=false→
     Ev ops n k i=false→oi.apart ops ok=true∧ ∀w1 w2,C w1→S k w1 w2→C w2:=λk ok hk hki hun hno=>by
    refine hfree k ok hk hki ?_ hno;by_cases hjk:j=k
    ·subst hjk;exact hjun
    ·rw[getD_set_ne true hjk]at hun;exact hun
   refine wpOp_mono (λa' w' h3=>⟨h3.2.1,ih (listed.setIfInBounds j true) a' w' (hcl.set hj) hfree' (ready_mono hr (Ne.symm hji)) h3.1 (hkeep _ _ hS h3.2.1) ?_⟩) h2;rw[Array.setIfInBounds_comm _ _ hji];exact h3.2.2
end
abbrev Er(w w':World):Prop:=St w [] [] w'
theorem Er.refl(w:World):Er w w:=St.start w
theorem Er.trans{w w1 w2:World}(h:Er w w1)(h':Er w1 w2):Er w w2:=St.call0 h h'
def Qw(fin:List Nat)(i:Nat)(w w':World):Prop:=i∈fin∨Er w w'
theorem St.alG{w0 w:World}{T:List Nat}{H:AH}(hS:St w0 T H w){o:Obj}{K:Nat→World→Prop}(h: ∀b w',Er w w'→St w0 T ((b,o)::H) w'→K b w'):Ib w o K:=
 ⟨h _ _ ((St.start w).alloc o).nil (hS.alloc o)⟩
theorem St.ldG{w0 w:World}{T:List Nat}{H:AH}{b off:Nat}{l:List Value}{t:TypeId}{fz:Nat×Nat}{F:Obj→AH}(hS:St w0 T H w) [Slot H b (.cells ⟨l⟩ t fz) F]{v:Value}(hv:l[off]?=some v)
  {K:Value→Prop}(hk:K v):FK (Er w) ⟨b,off,none⟩ K:=
 ⟨⟨v,λ_ h=>h.oldCell AB (hS.cell hv),hk⟩⟩
theorem St.ldnG{w0 w:World}{T:List Nat}{H:AH}{n b off:Nat}{l:List Value}{t:TypeId}{fz:Nat×Nat}{F:Obj→AH}(hS:St w0 T H w) [Slot H b (.cells ⟨l⟩ t fz) F](hn:Nat.ble (off+n) l.length=true)
  {K:List Value→Prop}(hk:Kr ((l.drop off).take n) K):GN (Er w) n b off K:=by
 have hle:=J6 hn;refine⟨⟨_,by simp;omega,λ_ h j v hv=>?_,(Mj _ _).1 hk⟩⟩;refine h.oldCell AB (hS.cell ?_);rw[IM]at hv
 split at hv
 ·rw[It]at hv;exact hv
 ·cases hv
def YZ(ops:Array Oper)(kd:Op→JF)(fin:List Nat)(listed:Array Bool)(i:Nat):Bool:=match ops[i]? with
 |none=>false
 |some o=>(match kd o.op with| .eff=>false|_=>true)&&(Region.ready .any ops listed).contains i&&IH ops listed i&& !fin.elem i&&Jv ops listed fin i
structure Cg(P:Program)(T:BO)(N:Nat)(all:List Oper)(fin:List Nat)(Q:Exit→AZ→World→Prop)(n:Nat)(listed:Array Bool)(e:AZ)(w:World):Prop where
 out: ∀a,Hb ⟨all⟩ listed→BS [] N e a→KT P .any ⟨all⟩ (J8 N Q) (Qw fin) n listed a w
def KP(P:Program)(T:BO)(N:Nat)(all:List Oper)(fin:List Nat)(Q:Exit→AZ→World→Prop)(n:Nat):List Nat→Array Bool→AZ→World→Prop
 |[],listed,e,w=>Cg P T N all fin Q n listed e w
 |i::r,listed,e,w=>MR all i λo=>Jx all o.guard e
  (λe=>match kind T o.op with
   |.pure=>LJ P T e o.op λv=>Ek N o.dst v e λe'=>KP P T N all fin Q n r (listed.setIfInBounds i true) e' w
   |.read=>LN P T e (Er w) o λv=>Ek N o.dst v e λe'=>KP P T N all fin Q n r (listed.setIfInBounds i true) e' w
   |.eff=>False)
  (λe=>Ek N o.dst undef e λe'=>KP P T N all fin Q n r (listed.setIfInBounds i true) e' w)
def SH(ops:Array Oper)(kd:Op→JF)(fin:List Nat):List Nat→Array Bool→Bool
 |[],_=>true
 |i::r,listed=>YZ ops kd fin listed i&&SH ops kd fin r (listed.setIfInBounds i true)
section
variable {P : Program} {T : BO} (hT : BX P T) {N : Nat} {all : List Oper} {fin : List Nat} {Q : Exit → AZ → World → Prop}
include hT
theorem Cg.takes(hsel:Region.noSelect ⟨all⟩=true)(n:Nat): ∀(is:List Nat){listed:Array Bool}{e:AZ}{w:World}(_h:SH ⟨all⟩ (kind T) fin is listed=true)(_g:KP P T N all fin Q n is listed e w),Cg P T N all fin Q (n+is.length) listed e w
 |[],_,_,_,_,g=>g
 |i::r,listed,e,w,h,g=>by
  refine⟨λa hcl hr=>?_⟩;simp only[SH,Bool.and_eq_true]at h;obtain⟨h1,h2⟩:=h;obtain⟨o,ho,g⟩:=MS g;have ho':(Array.mk all)[i]?=some o:=by simpa using ho
  unfold YZ at h1;simp only[ho',Bool.and_eq_true]at h1;obtain⟨⟨⟨⟨hk,hrd⟩,hf⟩,hnf⟩,hw⟩:=h1;have hready:i∈Region.ready .any ⟨all⟩ listed:=by simpa using hrd
  have key: ∀(v:Value)(e':AZ),YieldsIf P ⟨all⟩ (Er w) o v a→BS [] N e' (a.put o.dst v)→KP P T N all fin Q n r (listed.setIfInBounds i true) e' w→
    KT P .any ⟨all⟩ (J8 N Q) (Qw fin) (n+(i::r).length) listed a w:=by
   intro v e' hy hr' hv;rw[Ai,←Gq];refine Yp (C:=Er w) (n:=all.length) ho' (Region.noSelect_spec hsel) (λc a w h=>h.elim) (λw=> .inr (Er.refl w)) (n+r.length) listed a w hcl ?_ hready hy (Er.refl w) ?_
   ·intro j oj hj hne hun hd;have hjlt:j<all.length:=by have:=(Array.getElem?_eq_some_iff.1 hj).1;simpa using this
    simp only[IH,ho',C8,List.mem_range]at hf;have h1:=hf j (by simpa using hjlt);have hd':Ev ⟨all⟩ (Array.mk all).size j i=false:=hd;simp only[hj,Bool.or_eq_true,beq_iff_eq,hne,false_or,hun,hd',Bool.false_eq_true]at h1;refine⟨h1,λw1 w2 hw1 hw2=>?_⟩;rcases hw2 with hw2|hw2
    ·simp only[Jv,C8]at hw;have h3:=hw j hw2;simp only[Bool.or_eq_true,beq_iff_eq,hne,false_or,hun,hd',Bool.false_eq_true]at h3
    ·exact hw1.trans hw2
   ·exact(Cg.takes hsel n r h2 hv).out _ (hcl.set hready) hr'
  rcases Ku hr g with⟨e1,h1,h2,h3⟩|⟨e1,h1,h2,h3⟩
  ·cases hk':kind T o.op<;>simp only[hk']at h3 hk
   case pure=>
    obtain⟨v,h4,h5⟩:=NA hT h1 h3;obtain⟨e',h6,h7⟩:=El h4 h1;exact key v e' (.inl ⟨h2,λw _=>h5 w⟩) h6 h7
   case read=>
    obtain⟨v,h4,h5⟩:=O1 hT h1 h3;obtain⟨e',h6,h7⟩:=El h4 h1;exact key v e' (.inl ⟨h2,λw hw=>h5 w hw⟩) h6 h7
  ·obtain⟨e',h6,h7⟩:=El h3 h1;exact key undef e' (.inr ⟨h2,rfl⟩) h6 h7
theorem Cg.alt{n:Nat}{listed:Array Bool}{e:AZ}{w:World}(j:Nat)(js:List Nat)(h:Region.ready .any ⟨all⟩ listed=j::js)
  (g:Pw (j::js) λi=>MR all i λo=>Jx all o.guard e
   (λe=>match kind T o.op with
    |.pure=>LJ P T e o.op λv=>Ek N o.dst v e λe'=>Cg P T N all fin Q n (listed.setIfInBounds i true) e' w
    |.read=>LN P T e (λw'=>w=w') o λv=>Ek N o.dst v e λe'=>Cg P T N all fin Q n (listed.setIfInBounds i true) e' w
    |.eff=>Ma P T e o w λv w'=>(match fin.elem i with
     |true=>Ek N o.dst v e λe'=>Cg P T N all fin Q n (listed.setIfInBounds i true) e' w'
     |false=>Ae (Er w w') (Ek N o.dst v e λe'=>Cg P T N all fin Q n (listed.setIfInBounds i true) e' w')))
   (λe=>Ek N o.dst undef e λe'=>Cg P T N all fin Q n (listed.setIfInBounds i true) e' w)):Cg P T N all fin Q (n+1) listed e w:=by
 refine⟨λa hcl hr=>⟨λh0=>(by rw[h]at h0;cases h0),λi hi=>?_⟩⟩;have hcl':=hcl.set hi;rw[h]at hi;obtain⟨o,ho,g⟩:=MS (Th g i hi);have ho':(Array.mk all)[i]?=some o:=by simpa using ho
 rcases Ku hr g with⟨e1,h1,h2,h3⟩|⟨e1,h1,h2,h3⟩
 ·unfold wpOp;simp only[ho',h2,if_true];refine .inl ?_;cases hk:kind T o.op<;>simp only[hk]at h3
  case pure=>
   obtain⟨v,h4,h5⟩:=NA hT h1 h3;obtain⟨e',h6,h7⟩:=El h4 h1;exact Oper.wp_value (h5 w) ⟨.inr (Er.refl w),h7.out _ hcl' h6⟩
  case read=>
   obtain⟨v,h4,h5⟩:=O1 hT h1 h3;obtain⟨e',h6,h7⟩:=El h4 h1;exact Oper.wp_value (h5 w rfl) ⟨.inr (Er.refl w),h7.out _ hcl' h6⟩
  case eff=>
   refine QN hT h1 h3 λv w' hk'=>?_;cases hf:fin.elem i<;>rw[hf]at hk'
   ·obtain⟨e',h6,h7⟩:=El hk'.q h1;exact⟨.inr hk'.p,h7.out _ hcl' h6⟩
   ·obtain⟨e',h6,h7⟩:=El hk' h1;exact⟨.inl (by simpa using hf),h7.out _ hcl' h6⟩
 ·obtain⟨e',h6,h7⟩:=El h3 h1;unfold wpOp;simp only[ho',h2,Bool.false_eq_true,if_false];exact⟨.inr (Er.refl w),h7.out _ hcl' h6⟩
omit hT in
theorem Cg.done{n:Nat}{listed:Array Bool}{e:AZ}{w:World}(h:Region.ready .any ⟨all⟩ listed=[])(hk:Q .normal e w):Cg P T N all fin Q n listed e w:=by
 refine⟨λa _ hr=>?_⟩;cases n with
 |zero=>exact⟨h,e,hr,hk⟩
 |succ n=>exact⟨λ_=>⟨e,hr,hk⟩,λi hi=>by rw[h]at hi;cases hi⟩
end
theorem AL.drawR{P:Program}{T:BO}(_hT:BX P T){N:Nat}{all:List Oper}{Q:Exit→AZ→World→Prop}{id:Nat}{e:AZ}{w:World}(hm:P.follows .mixedOrders=true)(fin:List Nat)(h:Cg P T N all fin Q all.length (Array.replicate (Array.mk all).size false) e w.drew):JI P N (.region id ⟨all⟩ true) Q e w:=
 ⟨λa hr=>wp_region_any hm (Yq _ _ _ _ (h.out a (by
  intro j oj _ hl;simp only[Array.getD_eq_getD_getElem?,Array.getElem?_replicate]at hl
  split at hl<;>simp at hl) hr))⟩
end Go.Eng
namespace Go.Eng
open Go
structure Md where
 r:Option Nat
 ds:List Deferred
abbrev Md.F(m:Md):Fence:={Fence.wide with round:=m.r}
variable {P : Program} {T : BO}
def Ht(o:Oper):Bool:=match o.op with| .defer _=>false|_=>true
theorem Wo{o:Oper}(h:Ht o=true): ∀c,o.op≠ .defer c:=by intro c hc;simp[Ht,hc]at h
theorem wU{m:Md}{row:String}{args:Array Value}{w:World}{R:Value→World→Prop}(h:Rows P row args w R):RowsIn m.F 0 P row args w R:=
 λc cs _=>let⟨v,w',r,s⟩:=h c cs;⟨v,w',r,stepsIn_wide.2 s⟩
theorem bU{m:Md}{f:FuncId}{args:Array Value}{w:World}{R:Ending→World→Prop}(h:Calls P f args w R):CallsIn m.F 0 P f args w R:=
 (callsIn_wide (n:=0)).2 h
theorem Yr{m:Md}{o:Oper}{a:Act}{w:World}{next:Act→World→Prop}{Q:Exit→Act→World→Prop}(hd:Ht o=true)(h:o.wp P a w next Q):o.wpIn m.F 0 P a w next Q:=by
 refine⟨λ_ _=>trivial,?_⟩;rw[Oper.semAt_eq _ _ _ (Wo hd)];unfold Oper.wp Oper.upon at h;unfold Oper.uponIn;generalize(execOp a.eval o).run P w=r at h⊢;cases r with
 |ok n w'=>cases n with
  |value v=>exact h
  |skip=>exact h
  |defer d=>exact h
  |enter f args=>exact⟨nofun,bU h⟩
  |row row args=>exact⟨nofun,wU h⟩
  |_=>exact h.elim
 |halt s w'=>cases s<;>exact h
def liftM(ds:List Deferred)(N:Nat)(Q:Exit→AZ→World→Prop):Exit→Act→World→Prop
 |.panic _,_,_=>False
 |.outgrown,_,_=>False
 |x,a,w=>∃e,BS ds N e a∧Q x e w
def Ao(P:Program)(N:Nat)(m:Md)(c:Code)(Q:Exit→AZ→World→Prop)(e:AZ)(w:World):Prop:=∀a,BS m.ds N e a→c.wpIn m.F 0 P (liftM m.ds N Q) a w
theorem tB(N:Nat)(Q:Exit→AZ→World→Prop):J8 N Q=liftM [] N Q:=by
 funext x a w;cases x<;>rfl
theorem Ao.toW{N:Nat}{c:Code}{Q:Exit→AZ→World→Prop}{e:AZ}{w:World}(h:Ao P N ⟨none,[]⟩ c Q e w):AL P N c Q e w:=
 λa hr=>by rw[tB];exact(wpIn_wide (n:=0)).1 (h a hr)
theorem Ao.mono{N:Nat}{m:Md}{c:Code}{Q Q':Exit→AZ→World→Prop}{e:AZ}{w:World}(h:Ao P N m c Q e w)(hq: ∀x e w,Q x e w→Q' x e w):Ao P N m c Q' e w:=
 λa hr=>wpIn_mono (h a hr) (λx a w hl=>by
  cases x<;>first|exact hl|(obtain⟨e,h1,h2⟩:=hl;exact⟨e,h1,hq _ _ _ h2⟩))
theorem Ao.seq{N:Nat}{m:Md}{x y:Code}{Q:Exit→AZ→World→Prop}{e:AZ}{w:World}(h:Ao P N m x (Gt (Ao P N m y Q) Q) e w):Ao P N m (.seq x y) Q e w:=by
 intro a hr;refine wpIn_seq (wpIn_mono (h a hr) (λx a w hl=>?_));cases x
 case normal=>obtain⟨e,h1,h2⟩:=hl;exact h2 a h1
 all_goals exact hl
theorem Ao.block{N:Nat}{m:Md}{id:Nat}{c:Code}{Q:Exit→AZ→World→Prop}{e:AZ}{w:World}(h:Ao P N m c (JN id Q) e w):Ao P N m (.block id c) Q e w:=by
 intro a hr;refine wpIn_block (wpIn_mono (h a hr) (λx a w hl=>?_));cases x
 case exit id'=>
  obtain⟨e,h1,h2⟩:=hl;simp only[JN]at h2;simp only[Exit.inBlock];cases hb:Nat.beq id' id with
  |true=>rw[hb]at h2;rw[if_pos (Nat.eq_of_beq_eq_true hb)];exact⟨e,h1,h2⟩
  |false=>
   rw[hb]at h2;rw[if_neg (by intro he;subst he;simp at hb)];exact⟨e,h1,h2⟩
 all_goals exact hl
theorem Ao.cond{N:Nat}{m:Md}{c:Operand}{x y:Code}{Q:Exit→AZ→World→Prop}{e:AZ}{w:World}
  (h:BK e c λv=>match v with| .bool t=>Ax t (Ao P N m x Q e w) (Ao P N m y Q e w)|_=>False):Ao P N m (.cond c x y) Q e w:=by
 intro a hr;have h:=BT hr h;cases hc:a.eval c<;>simp only[hc]at h
 case bool t=>exact wpIn_cond_split hc (λht=>h.t' ht a hr) (λhf=>h.f' hf a hr)
structure Kd(P:Program)(l:Nat)(vs:List Value)(w:World)(K:Value→World→Prop):Prop where
 out: ∃f tmps assign body,(Instr.yield l ⟨vs⟩).run P w= .ok (.round l f tmps assign body) w∧RoundIn Fence.wide 0 P l f tmps assign body w λe w'=>∃v,e= .returned v∧K v w'
def PA(P:Program)(T:BO)(N:Nat)(e:AZ)(o:Oper)(w:World)(K:AZ→World→Prop):Prop:=
 match o.op with
 |.call ⟨.value f,args,_⟩=>BK e f λv=>(match v with
  |.func (.yield l) ⟨[]⟩ ⟨[]⟩=>Hk e args.toList λvs=>Kd P l vs w λv w'=>Ek N o.dst v e λe'=>K e' w'
  |_=>stepG P T N e o w K)
 |_=>stepG P T N e o w K
theorem yF(hT:BX P T){m:Md}{N:Nat}{e:AZ}{a:Act}(hr:BS m.ds N e a){o:Oper}(hd:Ht o=true){w:World}{K:AZ→World→Prop}(h:PA P T N e o w K)
  {next:Act→World→Prop}{Q:Exit→Act→World→Prop}(hn: ∀e' a' w',K e' w'→BS m.ds N e' a'→next a' w'):o.wpIn m.F 0 P a w next Q:=by
 have base:stepG P T N e o w K→o.wpIn m.F 0 P a w next Q:=λh=>Yr hd (YK hT hr h hn)
 unfold PA at h;obtain⟨dst,op,ty,pos,after,guard⟩:=o
 split at h
 case h_1 f args at' heq=>
  simp only at heq;subst heq;have h:=BT hr h
  split at h
  ·rename_i l hf;have h:=IG hr h;have e2:(⟨List.map a.eval args.toList⟩:Array Value)=args.map a.eval:=by rw[←Array.toList_map]
   obtain⟨f',tmps,assign,body,h1,h2⟩:=h.out;refine⟨λ_ _=>trivial,?_⟩;rw[Oper.semAt_eq _ _ _ (Wo hd)];have hx:(execOp a.eval ⟨dst,.call ⟨.value f,args,at'⟩,ty,pos,after,guard⟩).run P w= .ok (.round l f' tmps assign body) w:=by
    rw[e2]at h1;simp only[execOp,resolve,hf,Deferred.ofValue,Sem.run_bind,Sem.run_pure,Result.andThen_ok,invoke];simpa using h1
   rw[hx];refine⟨nofun,?_⟩;refine RoundIn.mono (F:=m.F) h2 ?_;rintro e' w'⟨v,rfl,hv⟩;obtain⟨e',h3,h4⟩:=El hv hr;exact hn _ _ _ h4 h3
  ·exact base h
 ·exact base h
def NO(P:Program)(T:BO)(N:Nat)(all:List Oper):List Oper→AZ→World→(AZ→World→Prop)→Prop
 |[],e,w,K=>K e w
 |o::r,e,w,K=>(match Ht o with
  |true=>Jx all o.guard e (λe=>PA P T N e o w λe' w'=>NO P T N all r e' w' K) (λe=>Ek N o.dst undef e λe'=>NO P T N all r e' w K)
  |false=>False)
theorem SY(hT:BX P T){m:Md}{N:Nat}{all:List Oper}{Q:Exit→Act→World→Prop}{K:AZ→World→Prop}
  (hK: ∀e' a' w',K e' w'→BS m.ds N e' a'→Q .normal a' w'): ∀(r:List Oper)(e:AZ)(a:Act)(w:World),BS m.ds N e a→NO P T N all r e w K→wpListIn m.F 0 P all.toArray Q r a w
 |[],e,a,w,hr,h=>hK _ _ _ h hr
 |o::r,e,a,w,hr,h=>by
  simp only[NO]at h;cases hd:Ht o with
  |false=>rw[hd]at h;exact h.elim
  |true=>
   rw[hd]at h;unfold wpListIn;rcases Ku hr h with⟨e',h1,h2,h3⟩|⟨e',h1,h2,h3⟩
   ·rw[if_pos h2];exact yF hT h1 hd h3 λe' a' w' hv hr'=>SY hT hK r _ _ _ hr' hv
   ·rw[if_neg (by rw[h2];simp)];obtain⟨e'',h4,h5⟩:=El h3 h1;exact⟨λ_ _=>trivial,SY hT hK r _ _ _ h4 h5⟩
structure Pk(P:Program)(N:Nat)(m:Md)(c:Code)(Q:Exit→AZ→World→Prop)(e:AZ)(w:World):Prop where
 out:Ao P N m c Q e w
def KN(P:Program)(T:BO)(N:Nat)(m:Md):Code→(Exit→AZ→World→Prop)→AZ→World→Prop
 |.skip,Q,e,w=>Q .normal e w
 |.ret,Q,e,w=>Q .ret e w
 |.exit id,Q,e,w=>Q (.exit id) e w
 |.region _ ops false,Q,e,w=>NO P T N ops.toList ops.toList e w λe' w'=>Q .normal e' w'
 |.seq a b,Q,e,w=>KN P T N m a (Gt (Ao P N m b Q) Q) e w
 |.cond c a b,Q,e,w=>BK e c λv=>match v with| .bool t=>Ax t (KN P T N m a Q e w) (KN P T N m b Q e w)|_=>False
 |.block id c,Q,e,w=>KN P T N m c (JN id Q) e w
 |c,Q,e,w=>Pk P N m c Q e w
theorem KO(hT:BX P T){N:Nat}{m:Md}: ∀(c:Code)(Q:Exit→AZ→World→Prop)(e:AZ)(w:World),KN P T N m c Q e w→Ao P N m c Q e w
 |.skip,Q,e,w,h=>λa hr=>wpIn_skip ⟨e,hr,h⟩
 |.ret,Q,e,w,h=>λa hr=>wpIn_ret ⟨e,hr,h⟩
 |.exit id,Q,e,w,h=>λa hr=>wpIn_exit ⟨e,hr,h⟩
 |.region id ops false,Q,e,w,h=>λa hr=>by
  obtain⟨ops⟩:=ops;exact wpIn_region_lit (SY (Q:=liftM m.ds N Q) hT (λe' a' w' hk hr'=>⟨e',hr',hk⟩) _ _ _ _ hr h)
 |.seq a b,Q,e,w,h=>Ao.seq (KO hT a _ e w h)
 |.cond c a b,Q,e,w,h=>Ao.cond (by
   simp only[KN]at h;cases c with
   |tmp n=>
    obtain⟨v,h1,h2⟩:=(IR _ _ _).1 h;refine(IR _ _ _).2 ⟨v,h1,?_⟩;cases v<;>first|exact h2|exact⟨λht=>KO hT a _ e w (h2.t' ht),λhf=>KO hT b _ e w (h2.f' hf)⟩
   |const v=>cases v<;>first|exact h|exact⟨λht=>KO hT a _ e w (h.t' ht),λhf=>KO hT b _ e w (h.f' hf)⟩
   |global g=>exact h
   |func f=>exact h)
 |.block id c,Q,e,w,h=>Ao.block (KO hT c _ e w h)
 |.region id ops true,Q,e,w,h=>h.out
 |.loop c,Q,e,w,h=>h.out
 |.rangeFunc ..,Q,e,w,h=>h.out
 |.scope c,Q,e,w,h=>h.out
 |.label l,Q,e,w,h=>h.out
 |.goto l,Q,e,w,h=>h.out
 |.refuse s,Q,e,w,h=>h.out
theorem Ao.run(hT:BX P T){N:Nat}{m:Md}{c:Code}{Q:Exit→AZ→World→Prop}{e:AZ}{w:World}(h:KN P T N m c Q e w):Ao P N m c Q e w:=KO hT c Q e w h
theorem Ao.loop{N:Nat}{m:Md}{c:Code}{Q:Exit→AZ→World→Prop}{e:AZ}{w:World}{ι:Type}(I:ι→AZ)(J:ι→World→Prop)(μ:ι→Nat)(i0:ι)
  (hs:I9 (I i0) e)(hJ:J i0 w)
  (round: ∀i w,J i w→Ao P N m c (Gt (λe' w'=>∃i',I9 (I i') e'∧J i' w'∧μ i'<μ i) Q) (I i) w):Pk P N m (.loop c) Q e w:=by
 refine⟨λa hr b k cs hro hb hroom=>?_⟩;have key: ∀n i a w,μ i=n→BS m.ds N (I i) a→J i w→
   ∃x a' w',liftM m.ds N Q x a' w'∧ArrivesIn (Machine.fenced P m.F) P (lone (b.atR a (.code c:: .inLoop c::k)) cs w) b k cs x a' w':=by
  intro n
  induction n using Nat.strongRecOn with
  |_ n ih=>
   intro i a w hn hr hJ;obtain⟨x,a₁,w₁,hq,harr⟩:=round i w hJ a hr b (.inLoop c::k) cs hro hb hroom;cases x with
   |normal=>
    obtain⟨e',hr',i',hs',hJ',hlt⟩:=hq;obtain⟨e₂,a₂,w₂,hq₂,harr₂⟩:=ih (μ i') (hn▸hlt) i' a₁ w₁ rfl (hr'.sub (LU hs')) hJ';exact⟨e₂,a₂,w₂,hq₂,.of_steps (StepsIn.trans harr (.one (fenced_calm hb hroom rfl) stepR_inLoop)) harr₂⟩
   |exit id=>exact⟨.exit id,a₁,w₁,hq,.pass (x:= .inLoop c) rfl (λ_ _=> .inl AB) harr⟩
   |goto l=>exact⟨.goto l,a₁,w₁,hq,.pass (x:= .inLoop c) rfl (λ_ _=> .inl AB) harr⟩
   |ret=>exact⟨.ret,a₁,w₁,hq,.pass (x:= .inLoop c) rfl (λ_ _=> .inl AB) harr⟩
   |panic ch=>exact hq.elim
   |outgrown=>exact hq.elim
 obtain⟨x,a',w',hq,harr⟩:=key _ i0 a w rfl (hr.sub (LU hs)) hJ;exact⟨x,a',w',hq,.of_steps (.one (fenced_calm hb hroom rfl) stepR_loop) harr⟩
theorem uO(ds:List Deferred)(N:Nat)(Q:Exit→AZ→World→Prop): ¬LetsOut (liftM ds N Q):=by
 rintro⟨a,w,h⟩;exact h
theorem zI{m:Md}{ops:Array Oper}{Q:Exit→Act→World→Prop}(hQ: ¬LetsOut Q)(hnd: ∀(i:Nat)(o:Oper),ops[i]?=some o→Ht o=true){i:Nat}{K K':Act→World→Prop}{a:Act}{w:World}
  (hK: ∀a w,K a w→K' a w)(h:wpOp P ops Q i K a w):wpOpIn m.F 0 P ops Q i K' a w:=by
 unfold wpOp at h;unfold wpOpIn;cases ho:ops[i]? with
 |none=>rw[ho]at h;exact hK _ _ h
 |some o=>
  rw[ho]at h;simp only at h⊢
  split
  ·rename_i hw;rw[if_pos hw]at h;rcases h with h|⟨_,h⟩
   ·exact Oper.wpIn_mono hK (Yr (hnd i o ho) h)
   ·exact absurd h hQ
  ·rename_i hw;rw[if_neg hw]at h;exact⟨λ_ _=>trivial,hK _ _ h⟩
theorem Yo{m:Md}{ops:Array Oper}{Q:Exit→Act→World→Prop}(hQ: ¬LetsOut Q)(hnd: ∀(i:Nat)(o:Oper),ops[i]?=some o→Ht o=true): ∀(fuel:Nat)(listed:Array Bool)(a:Act)(w:World),
  wpAny P .any ops Q fuel listed a w→wpAnyIn m.F 0 P .any ops Q fuel listed a w
 |0,_,_,_,h=>h
 |fuel+1,_,_,_,h=>⟨h.1,λi hi=>zI hQ hnd (λa w=>Yo hQ hnd fuel _ a w) (h.2 i hi)⟩
theorem aX{l:List Oper}(h:l.all Ht=true): ∀(i:Nat)(o:Oper),(Array.mk l)[i]?=some o→Ht o=true:=λi o ho=>
 C8.1 h o (List.mem_of_getElem? (by simpa using ho))
theorem Ao.draw(hT:BX P T){N:Nat}{m:Md}{id:Nat}{all:List Oper}{Q:Exit→AZ→World→Prop}{e:AZ}{w:World}(hm:P.follows .mixedOrders=true)
  (C:World→Prop)(fin ord:List Nat)(hok:(all.all Ht&&(Region.noSelect ⟨all⟩&&Nat.beq ord.length all.length&&Je ⟨all⟩ (kind T) fin ord true (Array.replicate (Array.mk all).size false)))=true)
  (hC:C w.drew)(h:HA P T N all C fin ord e w.drew λe' w'=>Q .normal e' w'):Pk P N m (.region id ⟨all⟩ true) Q e w:=by
 simp only[Bool.and_eq_true]at hok;obtain⟨h0,⟨h1,h2⟩,h3⟩:=hok;refine⟨λa hr=>wpIn_region_any hm ?_⟩;have hl:=Nat.eq_of_beq_eq_true h2;have hcl:Hb ⟨all⟩ (Array.replicate (Array.mk all).size false):=by
  intro j oj _ hl;simp only[Array.getD_eq_getD_getElem?,Array.getElem?_replicate]at hl
  split at hl<;>simp at hl
 have:=PL (Q:=liftM m.ds N Q) hT h1 (λ_ _ _ h=>h) (λe' a' w' hk hr'=>⟨e',hr',hk⟩) ord true _ e a w.drew hcl (λ_=>hC) hr h3 h;rw[hl]at this;exact Yo (uO _ _ _) (aX h0) _ _ _ _ (Sa _ _ _ _ this)
/-! ## A function that holds a range over a function-/
abbrev HH(D:Nat):Deferred:={target:= .collected D,args:= #[]}
def WN(N:Nat)(Q:Exit→AZ→World→Prop):Exit→Act→World→Prop
 |.panic _,_,_=>False
 |.outgrown,_,_=>False
 |x,a,w=>(∃e,BS [] N e a∧Q x e w)∨ ∃e D,BS [HH D] N e a∧w.heap[D]?=some (.deferred (some []))∧Q x e (w.putObj D (.deferred none))
def ED(P:Program)(N:Nat)(c:Code)(Q:Exit→AZ→World→Prop)(e:AZ)(w:World):Prop:=∀a,BS [] N e a→c.wp P (WN N Q) a w
theorem ED.seq{N:Nat}{x y:Code}{Q:Exit→AZ→World→Prop}{e:AZ}{w:World}(h:AL P N x (Gt (ED P N y Q) Q) e w):ED P N (.seq x y) Q e w:=by
 intro a hr;refine wp_seq (Code.wp_mono (λx a w hl=>?_) (h a hr));cases x
 case normal=>obtain⟨e,h1,h2⟩:=hl;exact h2 a h1
 case panic=>exact hl.elim
 case outgrown=>exact hl.elim
 all_goals exact .inl hl
def Rz(l:Nat)(lo:LoopState→Option Code→Obj)(K:Value→World→Prop):Exit→AZ→World→Prop
 |.normal,_,w=>w.heap[l]?=some (lo .busy none)∧K (.bool true) (w.putObj l (lo .ready none))
 |.ret,_,w=>w.heap[l]?=some (lo .busy none)∧K (.bool false) (w.putObj l (lo .done (some .ret)))
 |_,_,_=>False
def I4(D:Nat)(Q:Exit→AZ→World→Prop)(x:Exit)(e:AZ)(w:World):Prop:=w.heap[D]?=some (.deferred (some []))∧Q x e (w.putObj D (.deferred none))
theorem XG{N D:Nat}{Q:Exit→AZ→World→Prop}{x:Exit}{a:Act}{w:World}(h:liftM [HH D] N (I4 D Q) x a w):WN N Q x a w:=by
 cases x<;>first|exact h|(obtain⟨e,h1,h2,h3⟩:=h;exact .inr ⟨e,D,h1,h2,h3⟩)
theorem XX{N:Nat}{g:Operand}{p:Tmp}{assign body:Code}{A B:World→Prop}{X:Exit→Act→World→Prop}{e:AZ}{w:World}{gf:FuncId}{cap:List Value}
  (hcall: ∀(args:Array Value)(w:World),(callFunc gf args).run P w= .ok (.enter gf args) w)(hg:BK e g λv=>v= .func (.func gf) #[] ⟨cap⟩)(hp:Nat.ble (p+1) N=true)
  (h: ∀(lo:LoopState→Option Code→Obj),
   (∀(v:Value)(w1:World)(K:Value→World→Prop),w1.heap[w.heap.size+1]?=some (lo .ready none)→
    Ao P N ⟨some (w.heap.size+1),[]⟩ assign (Gt (λe1 w2=>w2.heap[w.heap.size+1]?=some (lo .ready none)∧Ao P N ⟨some (w.heap.size+1),[]⟩ body (Rz (w.heap.size+1) lo K) e1 (w2.putObj (w.heap.size+1) (lo .busy none))) (λ_ _ _=>False)) ((p,v)::e) w1→
    Kd P (w.heap.size+1) [v] w1 K)→
   Cl P gf (.func (.yield (w.heap.size+1)) #[] #[]::cap) ((w.alloc (.deferred (some []))).alloc (lo .ready none)) λ_ w3=>
    ∃st pe,w3.heap[w.heap.size+1]?=some (lo st pe)∧st≠ .busy∧(match pe with
     |none=>A (w3.putObj (w.heap.size+1) (lo .exhausted none))
     |some .ret=>B (w3.putObj (w.heap.size+1) (lo .exhausted (some .ret)))
     |some _=>False))
  (hA: ∀a' w',BS [HH w.heap.size] N e a'→A w'→X .normal a' w')(hB: ∀a' w',BS [HH w.heap.size] N e a'→B w'→X .ret a' w'){a:Act}(hr:BS [] N e a):
  (Code.rangeFunc g #[p] assign body).wpIn Fence.wide 0 P X a w:=by
 refine wpIn_rangeFunc (λfn _=>?_);have hg:=BT hr hg;obtain⟨rec,hrec⟩: ∃rec:LoopState→Option Code→Loop,rec= λst pe=>{state:=st,pending:=pe,fn,tmps:=a.tmps,params:= #[p],assign,body,defers:=w.heap.size}:=⟨_,rfl⟩;have hcl:=h (λst pe=> .loop (rec st pe)) (by
  intro v w1 K hl hs;have hy:=run_yield (P:=P) (args:= #[v]) hl (by rw[hrec];rfl);rw[hrec]at hy;refine⟨fn,_,assign,body,hy,roundIn_of_wpIn trivial ?_⟩;have hr':BS [] N ((p,v)::e) {tmps:=((#[p]:Array Tmp).zip #[v]).foldl (λtmps(t,a)=>tmps.setIfInBounds t a) a.tmps,defers:=[]}:=by
   have:=BS.put (a:={a with defers:=[]}) ⟨hr.size,rfl,hr.get⟩ (J6 hp) v;simpa[Act.put]using this
  refine wpIn_mono (hs _ hr') ?_;intro x a1 w2 hl2;cases x
  case normal=>
   obtain⟨e1,hr1,hl3,hb⟩:=hl2;refine⟨_,run_beginRound hl3 (by rw[hrec]),?_⟩;have hbusy:({rec .ready none with state:= .busy}:Loop)=rec .busy none:=by rw[hrec]
   rw[hbusy];refine wpIn_mono (hb a1 hr1) ?_;intro x2 a2 w4 hl4;cases x2
   case normal=>
    obtain⟨_,_,h5,h6⟩:=hl4;refine⟨_,_,run_endRound none h5,_,rfl,?_⟩;have:({rec .busy none with state:=if(none:Option Code).isNone then .ready else .done,pending:=none}:Loop)=rec .ready none:=by rw[hrec];rfl
    rw[this];exact h6
   case ret=>
    obtain⟨_,_,h5,h6⟩:=hl4;refine⟨_,_,run_endRound (some .ret) h5,_,rfl,?_⟩;have:({rec .busy none with state:=if(some Code.ret).isNone then .ready else .done,pending:=some .ret}:Loop)=rec .done (some .ret):=by rw[hrec];rfl
    rw[this];exact h6
   case panic=>exact hl4.elim
   case outgrown=>exact hl4.elim
   case exit=>obtain⟨_,_,h⟩:=hl4;exact h.elim
   case goto=>obtain⟨_,_,h⟩:=hl4;exact h.elim
  all_goals first|exact hl2.elim|(obtain⟨_,_,h⟩:=hl2;exact h.elim))
 obtain⟨W1,hW1⟩: ∃W1,(w.alloc (.deferred (some []))).alloc (.loop (rec .ready none))=W1:=⟨_,rfl⟩;rw[hW1]at hcl;rcases hcl with⟨hc1,hc2⟩|⟨v,w',hc1,hc2⟩
 ·refine⟨w.heap.size+1,[HH w.heap.size],W1,{target:= .fn (.func gf) ⟨cap⟩,args:= #[.func (.yield (w.heap.size+1)) #[] #[]]},W1,gf,⟨.func (.yield (w.heap.size+1)) #[] #[]::cap⟩,W1,?_,?_,λ_ _=>trivial,?_,nofun,?_⟩
  ·rw[←hW1,hrec];exact run_enterLoop_outer _ _ _ _ _
  ·simp only[resolve,hg];simp[go_sem]
  ·have e2:(#[Value.func (.yield (w.heap.size+1)) #[] #[]]:Array Value)++(⟨cap⟩:Array Value)=⟨.func (.yield (w.heap.size+1)) #[] #[]::cap⟩:=by apply Array.ext';simp
   simp only[invoke,e2];exact hc1
  ·refine(callsIn_wide (n:=0)).2 (Calls.mono hc2 ?_);rintro e' w3⟨v,rfl,st,pe,hl,hst,hm⟩;subst hrec;refine⟨_,_,run_endLoop hl hst,?_⟩;have hr2:BS [HH w.heap.size] N e {a with defers:=[HH w.heap.size]++a.defers}:=⟨hr.size,by simp[hr.dz],hr.get⟩;cases pe with
   |none=>
    exact hA _ _ hr2 hm
   |some c=>
    cases c
    case ret=>exact wpIn_ret (hB _ _ hr2 hm)
    all_goals exact hm.elim
 ·rw[hcall]at hc1;cases hc1
theorem ED.range{N:Nat}{g:Operand}{p:Tmp}{assign body y:Code}{Q:Exit→AZ→World→Prop}{e:AZ}{w:World}{gf:FuncId}{cap:List Value}
  (hcall: ∀(args:Array Value)(w:World),(callFunc gf args).run P w= .ok (.enter gf args) w)(hg:BK e g λv=>v= .func (.func gf) #[] ⟨cap⟩)(hp:Nat.ble (p+1) N=true)
  (h: ∀(lo:LoopState→Option Code→Obj),
   (∀(v:Value)(w1:World)(K:Value→World→Prop),w1.heap[w.heap.size+1]?=some (lo .ready none)→
    Ao P N ⟨some (w.heap.size+1),[]⟩ assign (Gt (λe1 w2=>w2.heap[w.heap.size+1]?=some (lo .ready none)∧Ao P N ⟨some (w.heap.size+1),[]⟩ body (Rz (w.heap.size+1) lo K) e1 (w2.putObj (w.heap.size+1) (lo .busy none))) (λ_ _ _=>False)) ((p,v)::e) w1→
    Kd P (w.heap.size+1) [v] w1 K)→
   Cl P gf (.func (.yield (w.heap.size+1)) #[] #[]::cap) ((w.alloc (.deferred (some []))).alloc (lo .ready none)) λ_ w3=>
    ∃st pe,w3.heap[w.heap.size+1]?=some (lo st pe)∧st≠ .busy∧(match pe with
     |none=>Ao P N ⟨none,[HH w.heap.size]⟩ y (I4 w.heap.size Q) e (w3.putObj (w.heap.size+1) (lo .exhausted none))
     |some .ret=>I4 w.heap.size Q .ret e (w3.putObj (w.heap.size+1) (lo .exhausted (some .ret)))
     |some _=>False)):ED P N (.seq (.rangeFunc g #[p] assign body) y) Q e w:=by
 intro a hr;refine(wpIn_wide (n:=0)).1 (wpIn_seq (XX (A:=λw'=>Ao P N ⟨none,[HH w.heap.size]⟩ y (I4 w.heap.size Q) e w') (B:=λw'=>I4 w.heap.size Q .ret e w') hcall hg hp h (λa' w' hr2 hm=>?_) (λa' w' hr2 hm=>?_) hr))
 ·exact wpIn_mono (hm _ hr2) (λx a w hl=>XG hl)
 ·exact .inr ⟨e,_,hr2,hm⟩
def Zt(P:Program)(N:Nat)(g:Operand)(p:Tmp)(assign body y:Code)(Q:Exit→AZ→World→Prop)(e:AZ)(w:World):Prop:=
 ∃gf cap,(∀(args:Array Value)(w:World),(callFunc gf args).run P w= .ok (.enter gf args) w)∧(BK e g λv=>v= .func (.func gf) #[] ⟨cap⟩)∧
  ∀(lo:LoopState→Option Code→Obj),
   (∀(v:Value)(w1:World)(K:Value→World→Prop),w1.heap[w.heap.size+1]?=some (lo .ready none)→
    Ao P N ⟨some (w.heap.size+1),[]⟩ assign (Gt (λe1 w2=>w2.heap[w.heap.size+1]?=some (lo .ready none)∧Ao P N ⟨some (w.heap.size+1),[]⟩ body (Rz (w.heap.size+1) lo K) e1 (w2.putObj (w.heap.size+1) (lo .busy none))) (λ_ _ _=>False)) ((p,v)::e) w1→
    Kd P (w.heap.size+1) [v] w1 K)→
   Cl P gf (.func (.yield (w.heap.size+1)) #[] #[]::cap) ((w.alloc (.deferred (some []))).alloc (lo .ready none)) λ_ w3=>
    ∃st pe,w3.heap[w.heap.size+1]?=some (lo st pe)∧st≠ .busy∧(match pe with
     |none=>Ao P N ⟨none,[HH w.heap.size]⟩ y (I4 w.heap.size Q) e (w3.putObj (w.heap.size+1) (lo .exhausted none))
     |some .ret=>I4 w.heap.size Q .ret e (w3.putObj (w.heap.size+1) (lo .exhausted (some .ret)))
     |some _=>False)
theorem ED.rangeB{N id:Nat}{g:Operand}{p:Tmp}{r assign body y:Code}{Q:Exit→AZ→World→Prop}{e:AZ}{w:World}(hp:Nat.ble (p+1) N=true)
  (h:AL P N r (Gt (Zt P N g p assign body y Q) λ_ _ _=>False) e w):ED P N (.seq (.seq r (.block id (.rangeFunc g #[p] assign body))) y) Q e w:=by
 intro a hr;refine wp_seq (wp_seq (Code.wp_mono (λx a w hl=>?_) (h a hr)));cases x
 case normal=>
  obtain⟨e,hr,gf,cap,hcall,hg,h⟩:=hl;refine(wpIn_wide (n:=0)).1 (wpIn_block (XX (A:=λw'=>Ao P N ⟨none,[HH w.heap.size]⟩ y (I4 w.heap.size Q) e w') (B:=λw'=>I4 w.heap.size Q .ret e w') hcall hg hp h (λa' w' hr2 hm=>?_) (λa' w' hr2 hm=>?_) hr))
  ·exact(wpIn_wide (n:=0)).1 (wpIn_mono (hm _ hr2) (λx a w hl=>XG hl))
  ·exact .inr ⟨e,_,hr2,hm⟩
 case panic=>exact hl.elim
 case outgrown=>exact hl.elim
 all_goals (obtain⟨_,_,h⟩:=hl;exact h.elim)
theorem Cl.enterX{P:Program}{T:BO}(hT:BX P T){f:FuncId}{fn:Func}{c:Code}{N:Nat}{args:List Value}{w:World}{R:Value→World→Prop}
  (hcall: ∀(args:Array Value)(w:World),(callFunc f args).run P w= .ok (.enter f args) w)(hf:P.funcs[f]?=some fn)(hN:fn.ntmps=N)(hb:fn.body=some c){rs:List ResultVar}(hrs:fn.results=⟨rs⟩)
  (hlen:Nat.ble args.length N=true)(h:ED P N c (LP T rs R) (HG 0 args) w):Cl P f args w R:=by
 refine .inl ⟨hcall _ _,(callsIn_wide (n:=0)).1 (callsIn_of_wp_marks hf hb trivial ?_)⟩;have hle:=J6 hlen;have hr:BS [] N (HG 0 args) ⟨⟨args⟩++Array.replicate (fn.ntmps-(Array.mk args).size) undef,[]⟩:=by
  refine⟨by simp[hN];omega,rfl,λn v hv=>?_⟩;obtain⟨_,h2⟩:=Py args 0 n v hv;simp only[Nat.sub_zero]at h2;have hlt:n<args.length:=(FR.1 h2).1;rw[Array.getElem?_append_left (by simpa using hlt)];simpa using h2
 refine(wpIn_wide (n:=0)).2 (Code.wp_mono (λx a w hl=>?_) (h _ hr));have fin: ∀e w ds,BS ds N e a→(IW T e w rs λvs=>Jg vs λv=>R v w)→ ∃v,(results fn a.tmps).run P w= .ok v w∧ ∃v',Ending.returned v= .returned v'∧R v' w:=by
  intro e w ds hr h;obtain⟨vs,h1,h2⟩:=NB hT hr h;have hm:(results fn a.tmps).run P w= .ok (if h:vs.length=1 then vs[0]else .tuple ⟨vs⟩) w:=by
   unfold results;rw[hrs];simp only[Sem.run_bind];rw[Array.mapM_eq_mapM_toList];simp only[Sem.run_map];generalize hM:Sem.run P (List.mapM _ rs) w=r;have h1':r= .ok vs w:=hM.symm.trans h1;subst h1';simp
  refine⟨_,hm,_,rfl,?_⟩;unfold Jg at h2
  split at h2
  ·simpa using h2
  ·rename_i hne;rw[dif_neg (by intro hl;obtain⟨v,rfl⟩:=Kz.1 hl;exact hne v rfl)];exact h2
 have out:((∃e,BS [] N e a∧(IW T e w rs λvs=>Jg vs λv=>R v w))∨ ∃e D,BS [HH D] N e a∧w.heap[D]?=some (.deferred (some []))∧(IW T e (w.putObj D (.deferred none)) rs λvs=>Jg vs λv=>R v (w.putObj D (.deferred none))))→
   LeavesInM Fence.wide 0 P fn a.tmps (λe w'=>∃v,e= .returned v∧R v w') a.defers .returning w:=by
  rintro(⟨e,h1,h2⟩|⟨e,D,h1,h2,h3⟩)
  ·rw[h1.dz];exact fin e w _ h1 h2
  ·rw[h1.dz];exact⟨nofun,.inl ⟨D,_,rfl,run_takeDeferred h2,fin e _ _ h1 h3⟩⟩
 cases x with
 |normal=>exact out hl
 |ret=>exact out hl
 |exit id=>
  rcases hl with⟨e,_,h⟩|⟨e,D,_,_,h⟩<;>exact h.elim
 |goto l=>
  rcases hl with⟨e,_,h⟩|⟨e,D,_,_,h⟩<;>exact h.elim
 |panic c=>exact hl.elim
 |outgrown=>exact hl.elim
theorem St.rng{w0 w:World}{T:List Nat}{H:AH}(hS:St w0 T H w)(x y:Obj):St w0 T ((w.heap.size+1,y)::(w.heap.size,x)::H) ((w.alloc x).alloc y):=by
 have:=(hS.alloc x).alloc y;rwa[show(w.alloc x).heap.size=w.heap.size+1 by simp]at this
theorem St.put{w0 w:World}{T:List Nat}{H:AH}{b:Nat}{o:Obj}{F:Obj→AH}(hS:St w0 T H w) [hs:Slot H b o F](o':Obj):St w0 T (F o') (w.putObj b o'):=
 hS.setBlock (o':=o') rfl rfl rfl AB (λk hk=>World.putObj_heap_other hk) (World.putObj_heap_same (Array.getElem?_eq_some_iff.1 hS.mem).1)
end Go.Eng
