/- Texts of this claim, one behind the other. -/
import Derived.Test.YtkgibdhpijdbfaaGreatDoorZ45
import Derived.Test.YtkgibdhpijdbfaaGreatDoorZ22
import Derived.Test.YtkgibdhpijdbfaaGreatDoorZ32
import Derived.Test.YtkgibdhpijdbfaaGreatDoorZ12
import Derived.Test.YtkgibdhpijdbfaaGreatDoorZ8
import Derived.Test.YtkgibdhpijdbfaaGreatDoorZ37
import Derived.Test.YtkgibdhpijdbfaaGreatDoorZ43
import Derived.Test.YtkgibdhpijdbfaaGreatDoorZ44
import Derived.Test.YtkgibdhpijdbfaaGreatDoorZ19
import Derived.Test.YtkgibdhpijdbfaaGreatDoorZ27
import Derived.Test.YtkgibdhpijdbfaaGreatDoorZ33
import Derived.Test.YtkgibdhpijdbfaaGreatDoorZ39
import Derived.Test.YtkgibdhpijdbfaaGreatDoorZ1
set_option linter.unusedVariables false
set_option linter.unusedSimpArgs false
set_option maxHeartbeats 16000000
namespace Go.Proofs.YtkgibdhpijdbfaaGreatDoor
open Go Go.Eng Go.Proofs Go.Srt
open Go.ChangeShapes Go.WideShapes Go.ChangeAt Go.RowKit
theorem YM{α:Type}(l:List α)(c:Nat):(l.map λ_=>c).sum=c*l.length:=by
 induction l with
 |nil=>rfl
 |cons a l ih=>rw[A4,HL,ih,Ai,Nat.mul_succ,Nat.add_comm]
theorem vG:Bm Tryz.prog aE (Bt 2 (Ij 1 (HD .i64) (HD .i64))) (λxs=>3*xs.length+1):=
 Bm.map (Bm.slice Tryz.underlying47 (show Tryz.prog.cellsOf ML=2 by kernel_rfl) AC (Bm.pair (s0:=1) (s1:=1) Tryz.underlying75 rfl rfl AD AD AD (Bm.int Tryz.underlying3) (Bm.int Tryz.underlying3))) id (λ_ _ _ h=>h) (λx=>by simp only[id];rw[YM];omega)
theorem vH:Bm Tryz.prog TZ (Bt 1 (HD .i64)) (λxs=>xs.length+1):=
 Bm.map (Bm.slice Tryz.underlying22 (show Tryz.prog.cellsOf BP=1 by kernel_rfl) AC (Bm.int Tryz.underlying3)) id (λ_ _ _ h=>h) (λx=>by simp only[id];rw[YM];omega)
def GE(x:H9):Nat:=x.key.length+x.to.length+(x.ops.map Ga).sum+3*x.fates.length+x.keep.length+8
theorem vJ:Bm Tryz.prog F0 MI GE:=by
 refine Bm.map (Bm.struct (sz:=7) Tryz.underlying49 AD (ES.cons (s:=1) rfl AD (Bm.int Tryz.underlying3) (ES.cons (s:=1) rfl AD (Bm.int Tryz.underlying3) (ES.cons (s:=1) rfl AD (Bm.str Tryz.underlying9) (ES.cons (s:=1) rfl AD (Bm.str Tryz.underlying9)
  (ES.cons (s:=1) rfl AD XD (ES.cons (s:=1) rfl AD vG (ES.cons (s:=1) rfl AD vH ES.nil))))))))
  (λx=>⟨x.1,x.2.1,x.2.2.1,x.2.2.2.1,x.2.2.2.2.1,x.2.2.2.2.2.1,x.2.2.2.2.2.2.1⟩) ?_ (λx=>by unfold GE Tu;(try simp only);omega)
 intro W cs x h;obtain⟨e1,w1,h⟩:=M7 h;obtain⟨e2,w2,h⟩:=M7 h;obtain⟨e3,h⟩:=Oq h;obtain⟨e4,h⟩:=Oq h;obtain⟨vo,e5,h5,h⟩:=Oo h;obtain⟨vf,e6,h6,h⟩:=Oo h;obtain⟨vk,e7,h7,h⟩:=Oo h;have h:(((((((cs.drop 1).drop 1).drop 1).drop 1).drop 1).drop 1).drop 1)=[]:=h;rw[h]at e7;rw[e7]at e6;rw[e6]at e5;rw[e5]at e4;rw[e4]at e3;rw[e3]at e2;rw[e2]at e1;exact⟨vo,vf,vk,e1,h5,h6,h7,zF w2⟩
theorem vK:Bm Tryz.prog aF (Bt 7 MI) (λxs=>(xs.map GE).sum+1):=
 Bm.slice Tryz.underlying42 (show Tryz.prog.cellsOf F0=7 by kernel_rfl) AC vJ
theorem R4: ∀(scr:List H9),8*scr.length≤(scr.map GE).sum∧4*F7 scr≤(scr.map GE).sum∧ ∀x∈scr,Ap x.ops≤4*(scr.map GE).sum∧GE x≤(scr.map GE).sum
 |[]=>⟨AV _,AV _,by nofun⟩
 |y::scr=>by
  obtain⟨h1,h2,h3⟩:=R4 scr;obtain⟨h4,h5⟩:=Rb y.ops;have e1:((y::scr).map GE).sum=GE y+(scr.map GE).sum:=AB;have e2:F7 (y::scr)=y.ops.length+F7 scr:=by unfold F7;simp
  have e3:(y.ops.map Ga).sum+8≤GE y:=by unfold GE;omega
  rw[Ai];refine⟨AA,AA,λx hx=>?_⟩;rcases As.1 hx with rfl|hx
  ·omega
  ·have:=h3 x hx;omega
end Go.Proofs.YtkgibdhpijdbfaaGreatDoor
namespace Go.Proofs.YtkgibdhpijdbfaaGreatDoor
open Go Go.Eng Go.Proofs
theorem Rc(ps qs:List AE):Bc (ps++qs)=(Bc ps&&Bc qs):=by simp[Bc]
theorem vA(ps:List AE)(h:Bc ps=true)(i:Nat):Bc (ps.take i)=true:=by
 unfold Bc at h⊢;rw[C8]at h⊢
 exactλx hx=>h x (HN hx)
theorem R5: ∀(b:List AE)(j:Nat),Bc b=true→ ∃i,i≤b.length∧ ∃t,(AQ b).take j=AQ (b.take i)++t∧(t=[]∨ ∃p,p.length≤65536∧t.length<p.length+8∧t=(Dl p).take t.length)
 |[],j,_=>⟨0,AV _,[],by simp[AQ],.inl rfl⟩
 |p::r,j,h=>by
  have hl:=Mk p;have e:AQ (p::r)=Dl p++AQ r:=by simp[AQ]
  simp only[Bc,List.all_cons,Bool.and_eq_true,decide_eq_true_eq]at h;by_cases hj:j<(Dl p).length
  ·refine⟨0,Ag _,(Dl p).take j,?_,.inr ⟨p,h.1,by simp;omega,AB⟩⟩;rw[e,List.take_append_of_le_length AA];simp[AQ]
  ·obtain⟨i,hi,t,h1,h2⟩:=R5 r (j-(Dl p).length) h.2;refine⟨i+1,by simp;omega,t,?_,h2⟩;rw[e,List.take_append,HO AA,h1,List.take_succ_cons];simp[AQ]
theorem Ql(pre t:AE)(h:t=[]∨ ∃p:AE,p.length≤65536∧t.length<p.length+8∧t=(Dl p).take t.length):(B7 (pre++t) pre.length).2.2≠0:=by
 by_cases h8:t.length<8
 ·rw[Qm _ _ (by simp;omega)];simp
 ·rcases h with rfl|⟨p,hp,hl,ht⟩
  ·simp at h8
  ·unfold B7;rw[if_neg (by simp;omega),if_pos]
   ·simp
   ·right;rw[List.drop_left];have h4:Cq t=p.length:=by
     rw[ht];have:(Dl p).take t.length=B6 p.length++(B6 (Fl [B6 p.length,p])++p).take (t.length-4):=by
      rw[show Dl p=B6 p.length++(B6 (Fl [B6 p.length,p])++p) by simp[Dl],List.take_append,HO (by simp[B6];omega)]
      rfl
     rw[this,RV _ _ AA]
    rw[h4];omega
theorem xA(ps b:List AE)(hp:Bc ps=true)(hb:Bc b=true)(j:Nat): ∃i,i≤b.length∧(∃t,AQ ps++(AQ b).take j=AQ (ps++b.take i)++t)∧(scan (AQ ps++(AQ b).take j)).1=ps++b.take i∧
  (scan (AQ ps++(AQ b).take j)).2=(AQ (ps++b.take i)).length:=by
 obtain⟨i,hi,t,h1,h2⟩:=R5 b j hb;refine⟨i,hi,⟨t,by rw[h1,ND,Aj]⟩,?_⟩;have e:AQ ps++(AQ b).take j=[]++(AQ (ps++b.take i)++t):=by rw[h1,ND];simp
 have hok:Bc (ps++b.take i)=true:=by rw[Rc,hp,vA b hb];rfl
 have hc:=Ql (AQ (ps++b.take i)) t h2;rw[e];unfold scan;have h3:=R0 t 0 (ps++b.take i) [] (([]++(AQ (ps++b.take i)++t)).length+1) hok (by
  have:=Ds (ps++b.take i);simp only[CU,AP]at this⊢;omega) (by simpa using hc)
 have h4:([]:AE).length=0:=rfl;rw[h4]at h3;rw[h3];exact⟨rfl,AB⟩
end Go.Proofs.YtkgibdhpijdbfaaGreatDoor
namespace Go.Proofs.YtkgibdhpijdbfaaGreatDoor
open Go Go.Eng Go.Proofs Go.Srt
theorem IZ{α:Type}(p q x y:α)(L:List α):[x,y].Sublist (p::q::x::y::L):= .cons _ (.cons _ (.cons_cons _ (.cons_cons _ (List.nil_sublist _))))
theorem St.callAll{w0 w w':World}{T:List Nat}{H H':AH}(hS:St w0 T H w)(h:St w (keys H) H' w'):St w0 T H' w':=by
 have hS:St w0 T (H++[]) w:=by rw[BU];exact hS
 have:=hS.call (L:=H) h;rwa[BU]at this
abbrev Fs(rb:Nat)(bad:Bool):Obj:= .cells ⟨[ptr rb,.bool bad]⟩ DP (0,0)
theorem LQ{w:World}{rr rb:Nat}{s:RB}(hh:Holds [(rr,Fs rb s.bad),(rb,A6 s.t)] w)(ht:s.t.length≤70368744177664):
  Cl Tryz.prog m5 [ptr rr] w λv w'=>v= .int .i64 (BL s).1∧St w [rr,rb] [(rr,Fs rb (BL s).2.bad),(rb,A6 (BL s).2.t)] w':=by
 have hS:St w [rr,rb] [(rr,Fs rb s.bad),(rb,A6 s.t)] w:=St.enter hh;refine eY rfl ?_;(repeat(refine jt ⟨?_⟩;refine hS.q ?_;intro _ hS));refine jt ⟨?_⟩;refine Cl.mono (Pe (hS.part (L:=[(rb,A6 s.t)])) ht) ?_;rintro _ w1⟨rfl,hS'⟩;have hS:=hS.call (L:=[(rb,A6 s.t)]) hS';have hS:St w [rr,rb] [(rr,.cells ⟨[ptr rb,.bool s.bad]⟩ DP (0,0)),(rb,.cells ⟨[AG (Db s.t).2.2]⟩ DQ (0,0))] w1:=hS;(repeat(refine jt ⟨?_⟩;refine hS.q ?_;intro _ hS));refine jt ⟨?_⟩
 obtain⟨t,bad⟩:=s;have he:=sL t;unfold BL;simp only at hS he⊢;generalize Db t=x at hS he⊢;obtain⟨z,er,r⟩:=x;simp only at hS he⊢;cases bad with
 |true=>
  (repeat(refine jt ⟨?_⟩;refine hS.q ?_;intro _ hS));refine jt ⟨?_⟩;exact⟨rfl,hS⟩
 |false=>
  rcases he with rfl|rfl
  ·(repeat(refine jt ⟨?_⟩;refine hS.q ?_;intro _ hS));refine jt ⟨?_⟩;exact⟨rfl,hS⟩
  ·(repeat(refine jt ⟨?_⟩;refine hS.q ?_;intro _ hS));refine jt ⟨?_⟩;exact⟨rfl,hS⟩
def GF(s:RB):Af×RB:=(((BL s).1,(BL (BL s).2).1),(BL (BL s).2).2)
theorem wG{w:World}{rr rb b4 b5:Nat}{s:RB}{a:Option Addr}{c:Nat}{l:List Af}{L:AH}(hv:AT BE 2 a l.length c (l.flatMap Ad) L)(hh:Holds ((rr,.cells ⟨[ptr rb,.bool s.bad]⟩ DP (0,0))::(rb,.cells ⟨[AG s.t]⟩ DQ (0,0))::(b4,.cells ⟨[ptr rr]⟩ Cv (0,0))::(b5,.cells ⟨[.slice a l.length c,.slice none 0 0,.int .i64 0,.int .i64 0,.int .i64 0]⟩ Bu (0,0))::L) w)(ht:s.t.length≤70368744177664)(hl:l.length≤4398046511104):
  Cl Tryz.prog QW [ptr b4,ptr b5] w λ_ w'=>∃a' c' L',AT BE 2 a' (l++[(GF s).1]).length c' ((l++[(GF s).1]).flatMap Ad) L'∧St w (rr::rb::b4::b5::keys L) ((rr,.cells ⟨[ptr rb,.bool (GF s).2.bad]⟩ DP (0,0))::(rb,.cells ⟨[AG (GF s).2.t]⟩ DQ (0,0))::(b4,.cells ⟨[ptr rr]⟩ Cv (0,0))::(b5,.cells ⟨[.slice a' (l++[(GF s).1]).length c',.slice none 0 0,.int .i64 0,.int .i64 0,.int .i64 0]⟩ Bu (0,0))::L') w':=by
 have hS:St w (rr::rb::b4::b5::keys L) ((rr,.cells ⟨[ptr rb,.bool s.bad]⟩ DP (0,0))::(rb,.cells ⟨[AG s.t]⟩ DQ (0,0))::(b4,.cells ⟨[ptr rr]⟩ Cv (0,0))::(b5,.cells ⟨[.slice a l.length c,.slice none 0 0,.int .i64 0,.int .i64 0,.int .i64 0]⟩ Bu (0,0))::L) w:=St.enter hh;have hlen:=Kx s.t;generalize(rr::rb::b4::b5::keys L)=T at hS⊢;refine eM rfl ?_;(repeat(refine jt ⟨?_⟩;refine hS.q ?_;intro _ hS));refine jt ⟨?_⟩
 refine Cl.mono (LQ (s:=s) (hS.part (L:=[(rr,Fs rb s.bad),(rb,A6 s.t)])) ht) ?_;rintro _ w1⟨rfl,hS'⟩;have hS:=hS.call (L:=[(rr,Fs rb s.bad),(rb,A6 s.t)]) hS';unfold GF;have hlen2:(BL s).2.t.length≤s.t.length:=hlen;generalize BL s=x1 at hS hlen2⊢;obtain⟨z1,s1⟩:=x1;simp only at hS hlen2⊢;have hS:St w T ((rr,.cells ⟨[ptr rb,.bool s1.bad]⟩ DP (0,0))::(rb,.cells ⟨[AG s1.t]⟩ DQ (0,0))::(b4,.cells ⟨[ptr rr]⟩ Cv (0,0))::(b5,.cells ⟨[.slice a l.length c,.slice none 0 0,.int .i64 0,.int .i64 0,.int .i64 0]⟩ Bu (0,0))::L) w1:=hS
 (repeat(refine jt ⟨?_⟩;refine hS.q ?_;intro _ hS));refine jt ⟨?_⟩;refine AL.draw AK mixed (λw'=>St w T [(b4,.cells ⟨[ptr rr]⟩ Cv (0,0)),(b5,.cells ⟨[.slice a l.length c,.slice none 0 0,.int .i64 0,.int .i64 0,.int .i64 0]⟩ Bu (0,0))] w') [9] [0,1,2,3,4,5,6,7,8,9] AD (hS.drew.sub (IZ _ _ _ _ _)) ?_;have hV:=hS.drew;have hS:St w T [(b4,.cells ⟨[ptr rr]⟩ Cv (0,0)),(b5,.cells ⟨[.slice a l.length c,.slice none 0 0,.int .i64 0,.int .i64 0,.int .i64 0]⟩ Bu (0,0))] _:=hV.sub (IZ _ _ _ _ _)
 refine jr ⟨?_⟩;refine Cl.mono (LQ (s:=s1) (hV.part (L:=[(rr,Fs rb s1.bad),(rb,A6 s1.t)])) AA) ?_;rintro _ w2⟨rfl,hS'⟩;have hV:=hV.call (L:=[(rr,Fs rb s1.bad),(rb,A6 s1.t)]) hS';generalize BL s1=x2 at hV⊢;obtain⟨z2,s2⟩:=x2;simp only at hV⊢;have hV:St w T ((rr,.cells ⟨[ptr rb,.bool s2.bad]⟩ DP (0,0))::(rb,.cells ⟨[AG s2.t]⟩ DQ (0,0))::(b4,.cells ⟨[ptr rr]⟩ Cv (0,0))::(b5,.cells ⟨[.slice a l.length c,.slice none 0 0,.int .i64 0,.int .i64 0,.int .i64 0]⟩ Bu (0,0))::L) w2:=hV
 refine Ae.mk (hV.sub (IZ _ _ _ _ _)) ?_;refine jr ⟨?_⟩;refine hV.al ?_;intro r w3 _ hV;refine Ae.mk ((St.tl1 hV).sub (IZ _ _ _ _ _)) ?_;refine jr ⟨?_⟩;refine St.app (sz:=2) (m:=1) AK rfl rfl rfl rfl hV hv (news:=Ad (z1,z2)) rfl (by have:=hV.arr (b:=r) (T':=[]) AB;exact this) rfl (by show(_+_)*16≤_;omega) AA ?_;intro a2 c2 L2 w4 hv hV;have e9:l.flatMap Ad++Ad (z1,z2)=(l++[(z1,z2)]).flatMap Ad:=AB;have e8:l.length+1=(l++[(z1,z2)]).length:=AB
 rw[e9,e8]at hv;rw[e8];refine Ae.mk ((St.tl1 hV).sub (IZ _ _ _ _ _)) ?_;have hS:=St.tl1 hV;(repeat(refine jt ⟨?_⟩;refine hS.q ?_;intro _ hS));refine jt ⟨?_⟩;exact⟨a2,c2,L2,hv,hS⟩
def FN(b:Bool):Nat:=if b=true then 1 else 0
theorem X6{s:RB}(h:s.bad=false):(GF s).2.t.length+1≤s.t.length+FN (GF s).2.bad:=by
 have h1:=Kx s.t;have h2:=Kx (Db s.t).2.2;unfold GF BL FN;simp only[h,Bool.false_or];by_cases e1:(Db s.t).2.1=0
 ·have h3:=V3 e1
  split<;>omega
 ·rw[decide_eq_true e1,Bool.true_or,if_pos rfl];omega
structure Y5 where
 i:Nat
 s:RB
 l:List Af
 a:Option Addr
 c:Nat
def UA(b4 b5:Nat):Value:= .func (.func QW) ⟨[]⟩ ⟨[ptr b4,ptr b5]⟩
theorem Xd(n:Nat)(s:RB)(l:List Af)(h:s.bad=false):Dr (n+1) (s,l)=Dr n ((GF s).2,l++[(GF s).1]):=by
 conv=>lhs;unfold Dr
 rw[if_neg (by rw[h];nofun)];rfl
theorem Rr(n:Nat)(s:RB)(l:List Af)(h:s.bad=true):Dr n (s,l)=(s,l):=by
 cases n with
 |zero=>rfl
 |succ n=>unfold Dr;rw[if_pos h]
theorem dB{w:World}{rr rb b4 b5 N:Nat}{s:RB}{a:Option Addr}{c:Nat}{l:List Af}{L:AH}(hv:AT BE 2 a l.length c (l.flatMap Ad) L)(hh:Holds ((rr,.cells ⟨[ptr rb,.bool s.bad]⟩ DP (0,0))::(rb,.cells ⟨[AG s.t]⟩ DQ (0,0))::(b4,.cells ⟨[ptr rr]⟩ Cv (0,0))::(b5,.cells ⟨[.slice a l.length c,.slice none 0 0,.int .i64 0,.int .i64 0,.int .i64 0]⟩ Bu (0,0))::L) w)(hb:s.bad=false)(hN:l.length+s.t.length≤N)(hN2:N≤1099511627776):
  Cl Tryz.prog Ut [ptr rr,UA b4 b5] w λ_ w'=>∃a' c' L',AT BE 2 a' (Dr (CR s).1 ((CR s).2,l)).2.length c' ((Dr (CR s).1 ((CR s).2,l)).2.flatMap Ad) L'∧St w (rr::rb::b4::b5::keys L) ((rr,.cells ⟨[ptr rb,.bool (Dr (CR s).1 ((CR s).2,l)).1.bad]⟩ DP (0,0))::(rb,.cells ⟨[AG (Dr (CR s).1 ((CR s).2,l)).1.t]⟩ DQ (0,0))::(b4,.cells ⟨[ptr rr]⟩ Cv (0,0))::(b5,.cells ⟨[.slice a' (Dr (CR s).1 ((CR s).2,l)).2.length c',.slice none 0 0,.int .i64 0,.int .i64 0,.int .i64 0]⟩ Bu (0,0))::L') w':=by
 have hS:St w (rr::rb::b4::b5::keys L) ((rr,.cells ⟨[ptr rb,.bool s.bad]⟩ DP (0,0))::(rb,.cells ⟨[AG s.t]⟩ DQ (0,0))::(b4,.cells ⟨[ptr rr]⟩ Cv (0,0))::(b5,.cells ⟨[.slice a l.length c,.slice none 0 0,.int .i64 0,.int .i64 0,.int .i64 0]⟩ Bu (0,0))::L) w:=St.enter hh;have hnl:=K8 s.t;have hlt:=K9 s.t;have hne:=Wx s.t;generalize(rr::rb::b4::b5::keys L)=T at hS⊢;unfold UA;refine Ub rfl ?_;(repeat(refine jt ⟨?_⟩;refine hS.q ?_;intro _ hS));refine jt ⟨?_⟩
 refine Cl.mono (JH (hS.part (L:=[(rb,A6 s.t)])) AA) ?_;rintro _ w1⟨rfl,hS'⟩;have hS:=hS.call (L:=[(rb,A6 s.t)]) hS';obtain⟨t,bad⟩:=s;simp only at hb hS hnl hlt hne hN⊢;subst hb;have hrn:CR ⟨t,false⟩=((CQ t).1,⟨(CQ t).2.2,decide ((CQ t).2.1≠0)⟩):=rfl;rw[hrn];simp only;generalize CQ t=x1 at hS hnl hlt hne⊢;obtain⟨n,er,t1⟩:=x1;simp only at hS hnl hlt hne⊢;have hS:St w T ((rr,.cells ⟨[ptr rb,.bool false]⟩ DP (0,0))::(rb,.cells ⟨[AG t1]⟩ DQ (0,0))::(b4,.cells ⟨[ptr rr]⟩ Cv (0,0))::(b5,.cells ⟨[.slice a l.length c,.slice none 0 0,.int .i64 0,.int .i64 0,.int .i64 0]⟩ Bu (0,0))::L) w1:=hS
 have hbd:(!decide (er=0))=decide (er≠0):=AB;generalize hX:Dr n (⟨t1,decide (er≠0)⟩,l)=X;have hj:(0≤n∧Dr (n-0) (⟨t1,decide (er≠0)⟩,l)=X∧l.length+t1.length≤N+FN (decide (er≠0))):=⟨Ag _,hX,by unfold FN;split<;>omega⟩;(repeat(refine jt ⟨?_⟩;refine hS.q ?_;intro _ hS));refine jt ⟨?_⟩;refine AL.loop (λz:Y5=>[(0,ptr rr),(1,.func (.func QW) ⟨[]⟩ ⟨[ptr b4,ptr b5]⟩),(4,.int .u64 n),(6,.int .u64 z.i)])
  (λz w'=>(z.i≤n∧Dr (n-z.i) (z.s,z.l)=X∧z.l.length+z.s.t.length≤N+FN z.s.bad)∧ ∃L,AT BE 2 z.a z.l.length z.c (z.l.flatMap Ad) L∧St w T ((rr,.cells ⟨[ptr rb,.bool z.s.bad]⟩ DP (0,0))::(rb,.cells ⟨[AG z.s.t]⟩ DQ (0,0))::(b4,.cells ⟨[ptr rr]⟩ Cv (0,0))::(b5,.cells ⟨[.slice z.a z.l.length z.c,.slice none 0 0,.int .i64 0,.int .i64 0,.int .i64 0]⟩ Bu (0,0))::L) w') (λz=>n-z.i) ⟨0,⟨t1,decide (er≠0)⟩,l,a,c⟩
  ⟨rfl,rfl,rfl,rfl,trivial⟩ ⟨hj,L,hv,by rw[hbd]at hS;exact hS⟩ ?_
 clear hS hj hX hbd hv hS' hrn;rintro⟨i,s,l,a,c⟩w2⟨⟨hi,hx,hsz⟩,L,hv,hS⟩;simp only at hi hx hsz hv hS⊢;by_cases hin:i<n
 ·cases hb:s.bad with
  |true=>
   rw[Rr _ _ _ hb]at hx;subst hx;rw[hb]at hS;(repeat(refine jt ⟨?_⟩;refine hS.q ?_;intro _ hS));refine jt ⟨?_⟩;rw[←hb]at hS;exact⟨a,c,L,hv,hS⟩
  |false=>
   have hsl:=X6 hb;rw[show n-i=(n-(i+1))+1 by omega,Xd _ _ _ hb]at hx;have hb0:FN s.bad=0:=by rw[hb];rfl
   have hSb:=hS;rw[hb]at hS;(repeat(refine jt ⟨?_⟩;refine hS.q ?_;intro _ hS));refine jt ⟨?_⟩;refine Cl.mono (wG (s:=s) hv hSb.holds AA AA) ?_;rintro _ w3⟨a',c',L',hv',hS'⟩;have hS:=St.callAll hSb hS';(repeat(refine jt ⟨?_⟩;refine hS.q ?_;intro _ hS));refine jt ⟨?_⟩;exact⟨⟨i+1,(GF s).2,l++[(GF s).1],a',c'⟩,⟨rfl,rfl,rfl,rfl,trivial⟩,⟨⟨by simp only;omega,hx,by simp only[AP,D4];omega⟩,L',hv',hS⟩,by simp only;omega⟩
 ·have hie:n-i=0:=AA;rw[hie]at hx;have hx:(s,l)=X:=hx;subst hx;(repeat(refine jt ⟨?_⟩;refine hS.q ?_;intro _ hS));refine jt ⟨?_⟩;exact⟨a,c,L,hv,hS⟩
theorem Xh{w:World}{rr rb b4 b5:Nat}{s:RB}{fa a:Option Addr}{fn fc c:Nat}{l:List Int}{L:AH}(hv:AT BP 1 a l.length c (l.map AY) L)(hh:Holds ((rr,.cells ⟨[ptr rb,.bool s.bad]⟩ DP (0,0))::(rb,.cells ⟨[AG s.t]⟩ DQ (0,0))::(b4,.cells ⟨[ptr rr]⟩ Cv (0,0))::(b5,.cells ⟨[.slice fa fn fc,.slice a l.length c,.int .i64 0,.int .i64 0,.int .i64 0]⟩ Bu (0,0))::L) w)(ht:s.t.length≤70368744177664)(hl:l.length≤4398046511104):
  Cl Tryz.prog OC [ptr b5,ptr b4] w λ_ w'=>∃a' c' L',AT BP 1 a' (l++[(BL s).1]).length c' ((l++[(BL s).1]).map AY) L'∧St w (rr::rb::b4::b5::keys L) ((rr,.cells ⟨[ptr rb,.bool (BL s).2.bad]⟩ DP (0,0))::(rb,.cells ⟨[AG (BL s).2.t]⟩ DQ (0,0))::(b4,.cells ⟨[ptr rr]⟩ Cv (0,0))::(b5,.cells ⟨[.slice fa fn fc,.slice a' (l++[(BL s).1]).length c',.int .i64 0,.int .i64 0,.int .i64 0]⟩ Bu (0,0))::L') w':=by
 have hS:St w (rr::rb::b4::b5::keys L) ((rr,.cells ⟨[ptr rb,.bool s.bad]⟩ DP (0,0))::(rb,.cells ⟨[AG s.t]⟩ DQ (0,0))::(b4,.cells ⟨[ptr rr]⟩ Cv (0,0))::(b5,.cells ⟨[.slice fa fn fc,.slice a l.length c,.int .i64 0,.int .i64 0,.int .i64 0]⟩ Bu (0,0))::L) w:=St.enter hh;generalize(rr::rb::b4::b5::keys L)=T at hS⊢;refine eN rfl ?_;refine jq ⟨?_⟩;refine AL.draw AK mixed (λw'=>St w T [(b4,.cells ⟨[ptr rr]⟩ Cv (0,0)),(b5,.cells ⟨[.slice fa fn fc,.slice a l.length c,.int .i64 0,.int .i64 0,.int .i64 0]⟩ Bu (0,0))] w') [7] [0,1,2,3,4,5,6,7] AD (hS.drew.sub (IZ _ _ _ _ _)) ?_
 have hV:=hS.drew;have hS:St w T [(b4,.cells ⟨[ptr rr]⟩ Cv (0,0)),(b5,.cells ⟨[.slice fa fn fc,.slice a l.length c,.int .i64 0,.int .i64 0,.int .i64 0]⟩ Bu (0,0))] _:=hV.sub (IZ _ _ _ _ _);refine jr ⟨?_⟩;refine Cl.mono (LQ (s:=s) (hV.part (L:=[(rr,Fs rb s.bad),(rb,A6 s.t)])) ht) ?_;rintro _ w2⟨rfl,hS'⟩;have hV:=hV.call (L:=[(rr,Fs rb s.bad),(rb,A6 s.t)]) hS';generalize BL s=x2 at hV⊢;obtain⟨z2,s2⟩:=x2
 simp only at hV⊢;have hV:St w T ((rr,.cells ⟨[ptr rb,.bool s2.bad]⟩ DP (0,0))::(rb,.cells ⟨[AG s2.t]⟩ DQ (0,0))::(b4,.cells ⟨[ptr rr]⟩ Cv (0,0))::(b5,.cells ⟨[.slice fa fn fc,.slice a l.length c,.int .i64 0,.int .i64 0,.int .i64 0]⟩ Bu (0,0))::L) w2:=hV;refine Ae.mk (hV.sub (IZ _ _ _ _ _)) ?_;refine jr ⟨?_⟩;refine hV.al ?_;intro r w3 _ hV;refine Ae.mk ((St.tl1 hV).sub (IZ _ _ _ _ _)) ?_;refine jr ⟨?_⟩
 refine St.app (sz:=1) (m:=1) AK rfl rfl rfl rfl hV hv (news:=[AY z2]) rfl (by have:=hV.arr (b:=r) (T':=[]) AB;exact this) rfl (by show(_+_)*8≤_;omega) AA ?_;intro a2 c2 L2 w4 hv hV;have e9:l.map AY++[AY z2]=(l++[z2]).map AY:=AB;have e8:l.length+1=(l++[z2]).length:=AB;rw[e9,e8]at hv;rw[e8];refine Ae.mk ((St.tl1 hV).sub (IZ _ _ _ _ _)) ?_;have hS:=St.tl1 hV;(repeat(refine jt ⟨?_⟩;refine hS.q ?_;intro _ hS));refine jt ⟨?_⟩
 exact⟨a2,c2,L2,hv,hS⟩
theorem Rm{s:RB}(h:s.bad=false):(BL s).2.t.length+1≤s.t.length+FN (BL s).2.bad:=by
 have h1:=Kx s.t;unfold BL FN;simp only[h,Bool.false_or];by_cases e1:(Db s.t).2.1=0
 ·have h3:=V3 e1
  split<;>omega
 ·rw[decide_eq_true e1,if_pos rfl];omega
structure Sn where
 i:Nat
 s:RB
 l:List Int
 a:Option Addr
 c:Nat
def UB(b4 b5:Nat):Value:= .func (.func OC) ⟨[]⟩ ⟨[ptr b5,ptr b4]⟩
theorem Ru(n:Nat)(s:RB)(l:List Int)(h:s.bad=false):Df (n+1) (s,l)=Df n ((BL s).2,l++[(BL s).1]):=by
 conv=>lhs;unfold Df
 rw[if_neg (by rw[h];nofun)]
theorem O0(n:Nat)(s:RB)(l:List Int)(h:s.bad=true):Df n (s,l)=(s,l):=by
 cases n with
 |zero=>rfl
 |succ n=>unfold Df;rw[if_pos h]
theorem dC{w:World}{rr rb b4 b5 N:Nat}{s:RB}{fa a:Option Addr}{fn fc c:Nat}{l:List Int}{L:AH}(hv:AT BP 1 a l.length c (l.map AY) L)(hh:Holds ((rr,.cells ⟨[ptr rb,.bool s.bad]⟩ DP (0,0))::(rb,.cells ⟨[AG s.t]⟩ DQ (0,0))::(b4,.cells ⟨[ptr rr]⟩ Cv (0,0))::(b5,.cells ⟨[.slice fa fn fc,.slice a l.length c,.int .i64 0,.int .i64 0,.int .i64 0]⟩ Bu (0,0))::L) w)(hN:l.length+s.t.length≤N)(hN2:N≤1099511627776):
  Cl Tryz.prog Ut [ptr rr,UB b4 b5] w λ_ w'=>∃a' c' L',AT BP 1 a' (Df (CR s).1 ((CR s).2,l)).2.length c' ((Df (CR s).1 ((CR s).2,l)).2.map AY) L'∧St w (rr::rb::b4::b5::keys L) ((rr,.cells ⟨[ptr rb,.bool (Df (CR s).1 ((CR s).2,l)).1.bad]⟩ DP (0,0))::(rb,.cells ⟨[AG (Df (CR s).1 ((CR s).2,l)).1.t]⟩ DQ (0,0))::(b4,.cells ⟨[ptr rr]⟩ Cv (0,0))::(b5,.cells ⟨[.slice fa fn fc,.slice a' (Df (CR s).1 ((CR s).2,l)).2.length c',.int .i64 0,.int .i64 0,.int .i64 0]⟩ Bu (0,0))::L') w':=by
 have hS:St w (rr::rb::b4::b5::keys L) ((rr,.cells ⟨[ptr rb,.bool s.bad]⟩ DP (0,0))::(rb,.cells ⟨[AG s.t]⟩ DQ (0,0))::(b4,.cells ⟨[ptr rr]⟩ Cv (0,0))::(b5,.cells ⟨[.slice fa fn fc,.slice a l.length c,.int .i64 0,.int .i64 0,.int .i64 0]⟩ Bu (0,0))::L) w:=St.enter hh;have hnl:=K8 s.t;have hlt:=K9 s.t;generalize(rr::rb::b4::b5::keys L)=T at hS⊢;unfold UB;refine Ub rfl ?_;(repeat(refine jt ⟨?_⟩;refine hS.q ?_;intro _ hS));refine jt ⟨?_⟩
 refine Cl.mono (JH (hS.part (L:=[(rb,A6 s.t)])) AA) ?_;rintro _ w1⟨rfl,hS'⟩;have hS:=hS.call (L:=[(rb,A6 s.t)]) hS';obtain⟨t,bad⟩:=s;simp only at hS hnl hlt hN⊢;have hrn:CR ⟨t,bad⟩=((CQ t).1,⟨(CQ t).2.2,bad||decide ((CQ t).2.1≠0)⟩):=rfl;rw[hrn];simp only;generalize CQ t=x1 at hS hnl hlt⊢;obtain⟨n,er,t1⟩:=x1;simp only at hS hnl hlt⊢;have hS:St w T ((rr,.cells ⟨[ptr rb,.bool bad]⟩ DP (0,0))::(rb,.cells ⟨[AG t1]⟩ DQ (0,0))::(b4,.cells ⟨[ptr rr]⟩ Cv (0,0))::(b5,.cells ⟨[.slice fa fn fc,.slice a l.length c,.int .i64 0,.int .i64 0,.int .i64 0]⟩ Bu (0,0))::L) w1:=hS
 generalize hbd:(bad||decide (er≠0))=bd;generalize hX:Df n (⟨t1,bd⟩,l)=X;have hj:(0≤n∧Df (n-0) (⟨t1,bd⟩,l)=X∧l.length+t1.length≤N+FN bd):=⟨Ag _,hX,by unfold FN;split<;>omega⟩;have hbd2:bad=false→(!decide (er=0))=bd:=by rintro rfl;rw[←hbd];simp
 cases bad with
 |true=>
  have hbt:bd=true:=by rw[←hbd];rfl
  subst hbt;(repeat(refine jt ⟨?_⟩;refine hS.q ?_;intro _ hS));refine jt ⟨?_⟩;refine AL.loop (λz:Sn=>[(0,ptr rr),(1,.func (.func OC) ⟨[]⟩ ⟨[ptr b5,ptr b4]⟩),(4,.int .u64 n),(6,.int .u64 z.i)])
   (λz w'=>(z.i≤n∧Df (n-z.i) (z.s,z.l)=X∧z.l.length+z.s.t.length≤N+FN z.s.bad)∧ ∃L,AT BP 1 z.a z.l.length z.c (z.l.map AY) L∧St w T ((rr,.cells ⟨[ptr rb,.bool z.s.bad]⟩ DP (0,0))::(rb,.cells ⟨[AG z.s.t]⟩ DQ (0,0))::(b4,.cells ⟨[ptr rr]⟩ Cv (0,0))::(b5,.cells ⟨[.slice fa fn fc,.slice z.a z.l.length z.c,.int .i64 0,.int .i64 0,.int .i64 0]⟩ Bu (0,0))::L) w') (λz=>n-z.i) ⟨0,⟨t1,_⟩,l,a,c⟩
   ⟨rfl,rfl,rfl,rfl,trivial⟩ ⟨hj,L,hv,hS⟩ ?_
  clear hS hj hX hv hS' hrn hbd hbd2;rintro⟨i,s,l,a,c⟩w2⟨⟨hi,hx,hsz⟩,L,hv,hS⟩;simp only at hi hx hsz hv hS⊢;by_cases hin:i<n
  ·cases hb:s.bad with
   |true=>
    rw[O0 _ _ _ hb]at hx;subst hx;rw[hb]at hS;(repeat(refine jt ⟨?_⟩;refine hS.q ?_;intro _ hS));refine jt ⟨?_⟩;rw[←hb]at hS;exact⟨a,c,L,hv,hS⟩
   |false=>
    have hsl:=Rm hb;rw[show n-i=(n-(i+1))+1 by omega,Ru _ _ _ hb]at hx;have hb0:FN s.bad=0:=by rw[hb];rfl
    have hSb:=hS;rw[hb]at hS;(repeat(refine jt ⟨?_⟩;refine hS.q ?_;intro _ hS));refine jt ⟨?_⟩;refine Cl.mono (Xh (s:=s) hv hSb.holds AA AA) ?_;rintro _ w3⟨a',c',L',hv',hS'⟩;have hS:=St.callAll hSb hS';(repeat(refine jt ⟨?_⟩;refine hS.q ?_;intro _ hS));refine jt ⟨?_⟩;exact⟨⟨i+1,(BL s).2,l++[(BL s).1],a',c'⟩,⟨rfl,rfl,rfl,rfl,trivial⟩,⟨⟨by simp only;omega,hx,by simp only[AP,D4];omega⟩,L',hv',hS⟩,by simp only;omega⟩
  ·have hie:n-i=0:=AA;rw[hie]at hx;have hx:(s,l)=X:=hx;subst hx;(repeat(refine jt ⟨?_⟩;refine hS.q ?_;intro _ hS));refine jt ⟨?_⟩;exact⟨a,c,L,hv,hS⟩
 |false=>
  have hbd3:=hbd2 rfl;(repeat(refine jt ⟨?_⟩;refine hS.q ?_;intro _ hS));refine jt ⟨?_⟩;rw[hbd3]at hS;refine AL.loop (λz:Sn=>[(0,ptr rr),(1,.func (.func OC) ⟨[]⟩ ⟨[ptr b5,ptr b4]⟩),(4,.int .u64 n),(6,.int .u64 z.i)])
   (λz w'=>(z.i≤n∧Df (n-z.i) (z.s,z.l)=X∧z.l.length+z.s.t.length≤N+FN z.s.bad)∧ ∃L,AT BP 1 z.a z.l.length z.c (z.l.map AY) L∧St w T ((rr,.cells ⟨[ptr rb,.bool z.s.bad]⟩ DP (0,0))::(rb,.cells ⟨[AG z.s.t]⟩ DQ (0,0))::(b4,.cells ⟨[ptr rr]⟩ Cv (0,0))::(b5,.cells ⟨[.slice fa fn fc,.slice z.a z.l.length z.c,.int .i64 0,.int .i64 0,.int .i64 0]⟩ Bu (0,0))::L) w') (λz=>n-z.i) ⟨0,⟨t1,_⟩,l,a,c⟩
   ⟨rfl,rfl,rfl,rfl,trivial⟩ ⟨hj,L,hv,hS⟩ ?_
  clear hS hj hX hv hS' hrn hbd hbd2;rintro⟨i,s,l,a,c⟩w2⟨⟨hi,hx,hsz⟩,L,hv,hS⟩;simp only at hi hx hsz hv hS⊢;by_cases hin:i<n
  ·cases hb:s.bad with
   |true=>
    rw[O0 _ _ _ hb]at hx;subst hx;rw[hb]at hS;(repeat(refine jt ⟨?_⟩;refine hS.q ?_;intro _ hS));refine jt ⟨?_⟩;rw[←hb]at hS;exact⟨a,c,L,hv,hS⟩
   |false=>
    have hsl:=Rm hb;rw[show n-i=(n-(i+1))+1 by omega,Ru _ _ _ hb]at hx;have hb0:FN s.bad=0:=by rw[hb];rfl
    have hSb:=hS;rw[hb]at hS;(repeat(refine jt ⟨?_⟩;refine hS.q ?_;intro _ hS));refine jt ⟨?_⟩;refine Cl.mono (Xh (s:=s) hv hSb.holds AA AA) ?_;rintro _ w3⟨a',c',L',hv',hS'⟩;have hS:=St.callAll hSb hS';(repeat(refine jt ⟨?_⟩;refine hS.q ?_;intro _ hS));refine jt ⟨?_⟩;exact⟨⟨i+1,(BL s).2,l++[(BL s).1],a',c'⟩,⟨rfl,rfl,rfl,rfl,trivial⟩,⟨⟨by simp only;omega,hx,by simp only[AP,D4];omega⟩,L',hv',hS⟩,by simp only;omega⟩
  ·have hie:n-i=0:=AA;rw[hie]at hx;have hx:(s,l)=X:=hx;subst hx;(repeat(refine jt ⟨?_⟩;refine hS.q ?_;intro _ hS));refine jt ⟨?_⟩;exact⟨a,c,L,hv,hS⟩
theorem vX{α:Type}(a b c d e:α):[a,b,c,d,e].Perm [c,d,b,a,e]:=by
 have h1:([a,b]++[c,d]).Perm ([c,d]++[a,b]):=Gp;have h2:([c,d]++[a,b]).Perm ([c,d]++[b,a]):=List.Perm.append_left _ (List.Perm.swap _ _ _);exact(h1.trans h2).append_right [e]
theorem Holds.tl1{p:Nat×Obj}{R:AH}{w:World}(h:Holds (p::R) w):Holds R w:=((St.enter h).sub (AS _ _)).holds
def KU:EM:=⟨[],[],0,0,0⟩
structure JD(a b:Option Addr)(ca cb:Nat)(e:EM)(La Lb:AH):Prop where
 fv:AT BE 2 a e.add.length ca (e.add.flatMap Ad) La
 dv:AT BP 1 b e.del.length cb (e.del.map AY) Lb
 len:e.add.length+e.del.length≤16777216
 rng: -9223372036854775808≤e.wal∧e.wal≤9223372036854775807∧ -9223372036854775808≤e.next∧e.next≤9223372036854775807∧ -9223372036854775808≤e.seq∧e.seq≤9223372036854775807
theorem JD.at{w0 w:World}{T:List Nat}{H La Lb:AH}{F G:AH→AH}{a b:Option Addr}{ca cb:Nat}{e:EM}(h:JD a b ca cb e La Lb)(hS:St w0 T H w) [hc:Chunk H La F] [hd:Chunk H Lb G]:Hc w a b ca cb e:=
 ⟨Km hS h.fv,h.dv.arr hS AB,h.dv.cap,h.len,h.rng⟩
def PU(o:Option EM)(r:Value)(w w':World):Prop:=match o with
 |none=>r= .tuple ⟨[.agg ⟨Dv none none 0 0 KU⟩,.int .i64 11]⟩∧St w [] [] w'
 |some e=>∃a b ca cb La Lb,r= .tuple ⟨[.agg ⟨Dv a b ca cb e⟩,.int .i64 0]⟩∧JD a b ca cb e La Lb∧St w [] (La++Lb) w'
theorem Xc: ∀(n:Nat)(s:RB)(l:List Af),(Dr n (s,l)).2.length+(Dr n (s,l)).1.t.length≤l.length+s.t.length+1
 |0,s,l=>by show l.length+s.t.length≤_;omega
 |n+1,s,l=>by
  cases hb:s.bad with
  |true=>rw[Rr _ _ _ hb];simp only;omega
  |false=>
   have h1:=X6 hb;rw[Xd _ _ _ hb];cases hb2:(GF s).2.bad with
   |true=>
    rw[Rr _ _ _ hb2];rw[hb2]at h1;simp only[AP,D4,FN,if_true]at h1⊢;omega
   |false=>
    have h2:=Xc n (GF s).2 (l++[(GF s).1]);rw[hb2]at h1;simp only[AP,D4,FN]at h1 h2⊢;simp at h1;omega
theorem Xg: ∀(n:Nat)(s:RB)(l:List Int),(Df n (s,l)).2.length+(Df n (s,l)).1.t.length≤l.length+s.t.length+1
 |0,s,l=>by show l.length+s.t.length≤_;omega
 |n+1,s,l=>by
  cases hb:s.bad with
  |true=>rw[O0 _ _ _ hb];simp only;omega
  |false=>
   have h1:=Rm hb;rw[Ru _ _ _ hb];cases hb2:(BL s).2.bad with
   |true=>
    rw[O0 _ _ _ hb2];rw[hb2]at h1;simp only[AP,D4,FN,if_true]at h1⊢;omega
   |false=>
    have h2:=Xg n (BL s).2 (l++[(BL s).1]);rw[hb2]at h1;simp only[AP,D4,FN]at h1 h2⊢;simp at h1;omega
theorem Ro(s:RB):CA (BL s).1:=W9 (by unfold BL Db;simp only[Sd];exact K9 s.t)
set_option maxRecDepth 4000 in
theorem Y4{w:World}{t:AE}(ht:t.length≤16777000):
  Cl Tryz.prog mR [AG t] w λr w'=>PU (Fm t) r w w':=by
 have hS:=St.start w;refine eK rfl ?_;refine jq ⟨?_⟩;refine hS.al ?_;intro b2 w1 _ hS;refine jq ⟨?_⟩;refine Cl.mono Pc ?_;rintro _ w2⟨rb,rfl,hS'⟩;have hS:=hS.callNew hS';refine jq ⟨?_⟩;refine hS.al ?_;intro rr w3 _ hS;refine jq ⟨?_⟩;refine hS.al ?_;intro b4 w4 _ hS;(repeat(refine jt ⟨?_⟩;refine hS.q ?_;intro _ hS));refine jt ⟨?_⟩;refine hS.al ?_;intro b5 w5 _ hS;have hS:St w [] ([(b5,.cells ⟨[.slice none 0 0,.slice none 0 0,.int .i64 0,.int .i64 0,.int .i64 0]⟩ Bu (0,0)),(b4,.cells ⟨[ptr rr]⟩ Cv (0,0))]++([(rr,.cells ⟨[ptr rb,.bool false]⟩ DP (0,0)),(rb,.cells ⟨[AG t]⟩ DQ (0,0))]++[(b2,.cells ⟨[.slice none 0 0,.slice none 0 0,.int .i64 0,.int .i64 0,.int .i64 0]⟩ Bu (0,0))])) w5:=hS
 have hS:St w [] (((rr,.cells ⟨[ptr rb,.bool false]⟩ DP (0,0))::(rb,.cells ⟨[AG t]⟩ DQ (0,0))::(b4,.cells ⟨[ptr rr]⟩ Cv (0,0))::(b5,.cells ⟨[.slice none 0 0,.slice none 0 0,.int .i64 0,.int .i64 0,.int .i64 0]⟩ Bu (0,0))::[])++[(b2,.cells ⟨[.slice none 0 0,.slice none 0 0,.int .i64 0,.int .i64 0,.int .i64 0]⟩ Bu (0,0))]) w5:=hS.perm (vX _ _ _ _ _);(repeat(refine jt ⟨?_⟩;refine hS.q ?_;intro _ hS));refine jt ⟨?_⟩
 refine Bk.of rfl ?_;(repeat(refine jt ⟨?_⟩;refine hS.q ?_;intro _ hS));refine jt ⟨?_⟩;refine Cl.mono (dB (N:=t.length) (s:=⟨t,false⟩) (l:=[]) AT.nil (hS.part (L:=(rr,.cells ⟨[ptr rb,.bool false]⟩ DP (0,0))::(rb,.cells ⟨[AG t]⟩ DQ (0,0))::(b4,.cells ⟨[ptr rr]⟩ Cv (0,0))::(b5,.cells ⟨[.slice none 0 0,.slice none 0 0,.int .i64 0,.int .i64 0,.int .i64 0]⟩ Bu (0,0))::[])) rfl AB AA) ?_;rintro _ w6⟨fa,fc,La,hfv,hS'⟩
 have hS:=hS.call (L:=(rr,.cells ⟨[ptr rb,.bool false]⟩ DP (0,0))::(rb,.cells ⟨[AG t]⟩ DQ (0,0))::(b4,.cells ⟨[ptr rr]⟩ Cv (0,0))::(b5,.cells ⟨[.slice none 0 0,.slice none 0 0,.int .i64 0,.int .i64 0,.int .i64 0]⟩ Bu (0,0))::[]) hS';have hrl:=Xc (CR ⟨t,false⟩).1 (CR ⟨t,false⟩).2 [];have hnl:(CR ⟨t,false⟩).2.t.length≤t.length:=K8 t;unfold Fm HY;simp only;generalize Dr (CR ⟨t,false⟩).1 ((CR ⟨t,false⟩).2,[])=X1 at hS hfv hrl⊢
 obtain⟨s1,l1⟩:=X1;simp only[Bo]at hS hfv hrl⊢;have hS:St w [] (((rr,.cells ⟨[ptr rb,.bool s1.bad]⟩ DP (0,0))::(rb,.cells ⟨[AG s1.t]⟩ DQ (0,0))::(b4,.cells ⟨[ptr rr]⟩ Cv (0,0))::(b5,.cells ⟨[.slice fa l1.length fc,.slice none 0 0,.int .i64 0,.int .i64 0,.int .i64 0]⟩ Bu (0,0))::[])++(La++[(b2,.cells ⟨[.slice none 0 0,.slice none 0 0,.int .i64 0,.int .i64 0,.int .i64 0]⟩ Bu (0,0))])) w6:=hS;(repeat(refine jt ⟨?_⟩;refine hS.q ?_;intro _ hS));refine jt ⟨?_⟩
 refine Bk.of rfl ?_;(repeat(refine jt ⟨?_⟩;refine hS.q ?_;intro _ hS));refine jt ⟨?_⟩;refine Cl.mono (dC (N:=s1.t.length) (s:=s1) (l:=[]) (fa:=fa) (fn:=l1.length) (fc:=fc) AT.nil (hS.part (L:=(rr,.cells ⟨[ptr rb,.bool s1.bad]⟩ DP (0,0))::(rb,.cells ⟨[AG s1.t]⟩ DQ (0,0))::(b4,.cells ⟨[ptr rr]⟩ Cv (0,0))::(b5,.cells ⟨[.slice fa l1.length fc,.slice none 0 0,.int .i64 0,.int .i64 0,.int .i64 0]⟩ Bu (0,0))::[])) AB AA) ?_
 rintro _ w7⟨ia,ic,Lb,hiv,hS'⟩;have hS:=hS.call (L:=(rr,.cells ⟨[ptr rb,.bool s1.bad]⟩ DP (0,0))::(rb,.cells ⟨[AG s1.t]⟩ DQ (0,0))::(b4,.cells ⟨[ptr rr]⟩ Cv (0,0))::(b5,.cells ⟨[.slice fa l1.length fc,.slice none 0 0,.int .i64 0,.int .i64 0,.int .i64 0]⟩ Bu (0,0))::[]) hS';have hrl2:=Xg (CR s1).1 (CR s1).2 [];have hnl2:(CR s1).2.t.length≤s1.t.length:=K8 s1.t;generalize Df (CR s1).1 ((CR s1).2,[])=X2 at hS hiv hrl2⊢
 obtain⟨s2,l2⟩:=X2;simp only[Bo]at hS hiv hrl2⊢;have hS:St w [] ([(rr,Fs rb s2.bad),(rb,A6 s2.t)]++((b4,.cells ⟨[ptr rr]⟩ Cv (0,0))::(b5,.cells ⟨[.slice fa l1.length fc,.slice ia l2.length ic,.int .i64 0,.int .i64 0,.int .i64 0]⟩ Bu (0,0))::(Lb++(La++[(b2,.cells ⟨[.slice none 0 0,.slice none 0 0,.int .i64 0,.int .i64 0,.int .i64 0]⟩ Bu (0,0))])))) w7:=hS;(repeat(refine jt ⟨?_⟩;refine hS.q ?_;intro _ hS));refine jt ⟨?_⟩
 refine Cl.mono (LQ (s:=s2) (hS.part (L:=[(rr,Fs rb s2.bad),(rb,A6 s2.t)])) AA) ?_;rintro _ w8⟨rfl,hS'⟩;have hS:=hS.call (L:=[(rr,Fs rb s2.bad),(rb,A6 s2.t)]) hS';have hz1:=Ro s2;have hl3:(BL s2).2.t.length≤s2.t.length:=Kx s2.t;generalize BL s2=X3 at hS hz1 hl3⊢;obtain⟨z1,s3⟩:=X3;simp only at hS hz1 hl3⊢;(repeat(refine jt ⟨?_⟩;refine hS.q ?_;intro _ hS));refine jt ⟨?_⟩;refine Cl.mono (LQ (s:=s3) (hS.part (L:=[(rr,Fs rb s3.bad),(rb,A6 s3.t)])) AA) ?_
 rintro _ w9⟨rfl,hS'⟩;have hS:=hS.call (L:=[(rr,Fs rb s3.bad),(rb,A6 s3.t)]) hS';have hz2:=Ro s3;have hl4:(BL s3).2.t.length≤s3.t.length:=Kx s3.t;generalize BL s3=X4 at hS hz2 hl4⊢;obtain⟨z2,s4⟩:=X4;simp only at hS hz2 hl4⊢;(repeat(refine jt ⟨?_⟩;refine hS.q ?_;intro _ hS));refine jt ⟨?_⟩;refine Cl.mono (LQ (s:=s4) (hS.part (L:=[(rr,Fs rb s4.bad),(rb,A6 s4.t)])) AA) ?_;rintro _ w10⟨rfl,hS'⟩;have hS:=hS.call (L:=[(rr,Fs rb s4.bad),(rb,A6 s4.t)]) hS'
 have hz3:=Ro s4;generalize BL s4=X5 at hS hz3⊢;obtain⟨z3,s5⟩:=X5;simp only at hS hz3⊢;(repeat(refine jt ⟨?_⟩;refine hS.q ?_;intro _ hS));refine jt ⟨?_⟩;cases hb:s5.bad with
 |true=>
  rw[if_neg (by rintro⟨h, -⟩;cases h)];rw[hb]at hS;(repeat(refine jt ⟨?_⟩;refine hS.q ?_;intro _ hS));refine jt ⟨?_⟩;exact⟨rfl,hS.nil⟩
 |false=>
  have hSb:=hS;rw[hb]at hS;(repeat(refine jt ⟨?_⟩;refine hS.q ?_;intro _ hS));refine jt ⟨?_⟩;refine Cl.mono (Pd (t:=s5.t) (Holds.tl1 (hSb.part (L:=[(rr,Fs rb s5.bad),(rb,A6 s5.t)])))) ?_;rintro _ w11⟨rfl,hS'⟩;have hS:=hS.call0 hS';by_cases hd:s5.t=[]
  ·rw[decide_eq_true hd];have hE:JD fa ia fc ic ⟨l1,l2,z1,z2,z3⟩ La Lb:=⟨hfv,hiv,by simp only;omega,⟨hz1.1,hz1.2,hz2.1,hz2.2,hz3.1,hz3.2⟩⟩;have hSv:=hS;(repeat(refine jt ⟨?_⟩;refine hS.q ?_;intro _ hS));refine jt ⟨?_⟩;refine Cl.mono (Rx (hE.at hS)) ?_;rintro _ w12⟨rfl,hS'⟩;have hS:=hS.call0 hS';cases hr:DA ⟨l1,l2,z1,z2,z3⟩with
   |true=>
    rw[if_pos ⟨rfl,hd,rfl⟩];(repeat(refine jt ⟨?_⟩;refine hS.q ?_;intro _ hS));refine jt ⟨?_⟩;exact⟨fa,ia,fc,ic,La,Lb,rfl,hE,((St.tl2 (St.tl2 hS)).sub (List.Sublist.append_left (CC _ _) Lb)).perm Gp⟩
   |false=>
    rw[if_neg (by rintro⟨-, -,h⟩;cases h)];(repeat(refine jt ⟨?_⟩;refine hS.q ?_;intro _ hS));refine jt ⟨?_⟩;exact⟨rfl,hS.nil⟩
  ·rw[decide_eq_false hd,if_neg (by rintro⟨-,h, -⟩;exact hd h)];(repeat(refine jt ⟨?_⟩;refine hS.q ?_;intro _ hS));refine jt ⟨?_⟩;exact⟨rfl,hS.nil⟩
end Go.Proofs.YtkgibdhpijdbfaaGreatDoor
namespace Go.Proofs.YtkgibdhpijdbfaaGreatDoor
open Go Go.Eng Go.Proofs
theorem Wv(l:AE)(n:Nat)(h:4≤n):Cq (l.take n)=Cq l:=by
 unfold Cq;have e: ∀i,i<4→(l.take n).getD i 0=l.getD i 0:=by
  intro i hi;simp only[Gn,IM,if_pos (show i<n by omega)]
 rw[e 0 AA,e 1 AA,e 2 AA,e 3 AA]
theorem qZ{t:AE}{k:Nat}(h:(B7 t k).2.2=0): ¬t.length<k+8∧ ¬(65536<Cq (t.drop k)∨(t.drop k).length<Cq (t.drop k)+8)∧Fl [(t.drop k).take 4,((t.drop k).take (8+Cq (t.drop k))).drop 8]=Cq ((t.drop k).drop 4)∧
  B7 t k=(((t.drop k).take (8+Cq (t.drop k))).drop 8,k+8+Cq (t.drop k),0):=by
 unfold B7 at h⊢
 split at h
 ·cases h
 ·next h1=>
  split at h
  ·cases h
  ·next h2=>
   split at h
   ·next h3=>exact⟨h1,h2,h3,by rw[if_neg h1,if_neg h2,if_pos h3]⟩
   ·cases h
theorem q6{t:AE}{k n:Nat}(h:(B7 t k).2.2=0)(hn:(B7 t k).2.1≤n):B7 (t.take n) k=B7 t k:=by
 obtain⟨h1,h2,h3,h4⟩:=qZ h;rw[h4]at hn⊢;simp only at hn;have hl:(t.take n).length=min n t.length:=BR;have hdl:(t.drop k).length=t.length-k:=Do;have hd:(t.take n).drop k=(t.drop k).take (n-k):=List.drop_take;have e1:Cq ((t.take n).drop k)=Cq (t.drop k):=by rw[hd,Wv _ _ AA]
 have e2:((t.take n).drop k).take 4=(t.drop k).take 4:=by rw[hd,List.take_take,Nat.min_eq_left AA]
 have e3:((t.take n).drop k).take (8+Cq (t.drop k))=(t.drop k).take (8+Cq (t.drop k)):=by rw[hd,List.take_take,Nat.min_eq_left AA]
 have e4:Cq (((t.take n).drop k).drop 4)=Cq ((t.drop k).drop 4):=by
  rw[hd,List.drop_take,Wv _ _ AA]
 have e5:((t.take n).drop k).length=min (n-k) (t.drop k).length:=by rw[hd,BR]
 unfold B7;rw[if_neg AA,e1,e2,e3,e4,if_neg (by rw[e5];omega),if_pos h3]
theorem q5{t:AE}{k:Nat}(h:t.length<k+8):(B7 t k).2.2≠0:=by
 unfold B7;rw[if_pos h];decide
end Go.Proofs.YtkgibdhpijdbfaaGreatDoor
namespace Go.Proofs.YtkgibdhpijdbfaaGreatDoor
open Go Go.Eng Go.Proofs Go.Srt
def next(t:AE)(v:VM)(k:Nat):Option (VM×Nat):=
 if(B7 t k).2.2=0 then match Fm (B7 t k).1 with
  |none=>none
  |some e=>match BQ v e with
   |none=>none
   |some v'=>some (v',(B7 t k).2.1)
 else none
inductive Rd(t:AE):VM→Nat→VM×Nat→Prop where
 |stop {v:VM} {k:Nat} (h:next t v k=none):Rd t v k (v,k)
 |step {v v':VM} {k k':Nat} {X:VM×Nat} (h:next t v k=some (v',k')) (r:Rd t v' k' X):Rd t v k X
theorem Rd.unique{t:AE}{v:VM}{k:Nat}{X Y:VM×Nat}(h:Rd t v k X):Rd t v k Y→X=Y:=by
 induction h with
 |stop h=>
  intro h2;cases h2 with
  |stop _=>rfl
  |step h' _=>rw[h]at h';cases h'
 |step h r ih=>
  intro h2;cases h2 with
  |stop h'=>rw[h]at h';cases h'
  |step h' r'=>rw[h]at h';cases h';exact ih r'
theorem Wm{t:AE}{v v':VM}{k k':Nat}(h:next t v k=some (v',k')):k+8≤k'∧k'≤t.length:=by
 unfold next at h
 split at h
 ·next h0=>
  have:=Qn t k h0
  split at h
  ·cases h
  ·split at h
   ·cases h
   ·simp only[Option.some.injEq,Prod.mk.injEq]at h;omega
 ·cases h
theorem Rd.le{t:AE}{v:VM}{k:Nat}{X:VM×Nat}(h:Rd t v k X):k≤X.2:=by
 induction h with
 |stop h=>exact AV _
 |step h r ih=>have:=Wm h;omega
theorem Rd.take{t:AE}{v:VM}{k:Nat}{X:VM×Nat}(h:Rd t v k X):Rd (t.take X.2) v k X:=by
 induction h with
 |@stop v k h=>
  refine .stop ?_;unfold next
  rw[if_neg (q5 (by rw[BR];show min k _<_;omega))]
 |@step v v' k k' X h r ih=>
  refine .step (v':=v') (k':=k') ?_ ih;have hle:=r.le;have hk:=Wm h;unfold next at h⊢
  split at h
  ·next h0=>
   have hend:(B7 t k).2.1=k':=by
    split at h
    ·cases h
    ·split at h
     ·cases h
     ·simp only[Option.some.injEq,Prod.mk.injEq]at h;exact h.2
   have e:=q6 h0 (n:=X.2) AA;rw[e,if_pos h0];exact h
  ·cases h
theorem aV{t:AE}{e:EM}(h:Fm t=some e)(ht:t.length<18446744073709551616):e.add.length≤t.length:=by
 obtain⟨rfl, -, -⟩:=(MX ht).1 h;have hfl: ∀l:List Af,l.length≤(DZ l).length:=by
  intro l
  induction l with
  |nil=>exact Ag _
  |cons f l ih=>
   have:=K7 (Ed f.1);simp only[DZ,Hl,A4,Dc,AP,Ai,Bh]at ih⊢;omega
 have:=hfl e.add;unfold Am;simp only[AP];omega
def QV(o:Option EM):Int:=match o with
 |none=>11
 |some _=>0
theorem JD.zero:JD none none 0 0 KU [] []:=⟨AT.nil,AT.nil,AC,AC⟩
theorem PU.out{o:Option EM}{r:Value}{w w':World}(h:PU o r w w'): ∃a b ca cb La Lb,r= .tuple ⟨[.agg ⟨Dv a b ca cb (o.getD KU)⟩,.int .i64 (QV o)]⟩∧JD a b ca cb (o.getD KU) La Lb∧St w [] (La++Lb) w':=by
 cases o with
 |none=>obtain⟨h1,h2⟩:=h;exact⟨_,_,_,_,[],[],h1,JD.zero,h2⟩
 |some v=>exact h
theorem PQ.out{o:Option VM}{r:Value}{w w':World}(h:PQ o r w w'): ∃a c L,r= .tuple ⟨[.agg ⟨DC a c (o.getD Cu)⟩,.bool o.isSome]⟩∧Dt a c (o.getD Cu) L∧St w [] L w':=by
 cases o with
 |none=>obtain⟨h1,h2⟩:=h;exact⟨none,0,[],h1,Dt.zero,h2⟩
 |some v=>exact h
def Rp(n:Nat):VM→List EM→VM→Prop
 |v,[],v'=>v=v'
 |v,e::es,v'=>(Am e).length≤65536∧Fm (Am e)=some e∧ ∃u,BQ v e=some u∧u.files.length≤n∧Rp n u es v'
theorem Rp.app{n:Nat}: ∀{es fs:List EM}{v u x:VM},Rp n v es u→Rp n u fs x→Rp n v (es++fs) x
 |[],fs,v,u,x,h1,h2=>by cases h1;exact h2
 |e::es,fs,v,u,x,⟨h1,h2,y,h3,h4,h5⟩,h6=>⟨h1,h2,y,h3,h4,h5.app h6⟩
theorem Rp.mono{n m:Nat}(hl:n≤m): ∀{es:List EM}{v u:VM},Rp n v es u→Rp m v es u
 |[],v,u,h=>h
 |e::es,v,u,⟨h1,h2,y,h3,h4,h5⟩=>⟨h1,h2,y,h3,Au h4 hl,h5.mono hl⟩
theorem Rp.ok{n:Nat}: ∀{es:List EM}{v u:VM},Rp n v es u→Bc (es.map Am)=true
 |[],v,u,h=>rfl
 |e::es,v,u,⟨h1,h2,y,h3,h4,h5⟩=>by
  have:=h5.ok;simp only[Bc,A4,List.all_cons,Bool.and_eq_true,decide_eq_true_eq]at this⊢;exact⟨h1,this⟩
theorem Rp.one{n:Nat}{v u:VM}{e:EM}(h1:(Am e).length≤65536)(h2:Fm (Am e)=some e)(h3:BQ v e=some u)(h4:u.files.length≤n):Rp n v [e] u:=⟨h1,h2,u,h3,h4,rfl⟩
inductive Rt(t:AE):VM→Nat→VM→Nat→Prop where
 |refl (v:VM) (k:Nat):Rt t v k v k
 |head {v v' u:VM} {k k' j:Nat} (h:next t v k=some (v',k')) (r:Rt t v' k' u j):Rt t v k u j
theorem Rt.snoc{t:AE}{v u x:VM}{k j i:Nat}(h:Rt t v k u j)(hn:next t u j=some (x,i)):Rt t v k x i:=by
 induction h with
 |refl v k=>exact .head hn (.refl _ _)
 |head h _ ih=>exact .head h (ih hn)
theorem Rp.read{n:Nat}(tail:AE): ∀{es:List EM}{u v:VM}(pre:AE),u.files.length≤n→Rp n u es v→(B7 (pre++(AQ (es.map Am)++tail)) (pre.length+(AQ (es.map Am)).length)).2.2≠0→
  Rd (pre++(AQ (es.map Am)++tail)) u pre.length (v,pre.length+(AQ (es.map Am)).length)∧ ∀x j,Rt (pre++(AQ (es.map Am)++tail)) u pre.length x j→x.files.length≤n
 |[],u,v,pre,hu,h,hf=>by
  cases h;have hno:next (pre++(AQ (([]:List EM).map Am)++tail)) u pre.length=none:=by
   have hf:(B7 (pre++(AQ (([]:List EM).map Am)++tail)) pre.length).2.2≠0:=hf;unfold next
   rw[if_neg hf]
  refine⟨.stop hno,λx j hr=>?_⟩;cases hr with
  |refl=>exact hu
  |head h' _=>rw[hno]at h';cases h'
 |e::es,u,v,pre,hu,⟨h1,h2,y,h3,h4,h5⟩,hf=>by
  have he:pre++(AQ ((e::es).map Am)++tail)=(pre++Dl (Am e))++(AQ (es.map Am)++tail):=by simp[AQ]
  have hl:(AQ ((e::es).map Am)).length=(Dl (Am e)).length+(AQ (es.map Am)).length:=by simp[AQ]
  have hfl:=Mk (Am e);have hff:=VS pre (Am e) (AQ (es.map Am)++tail) h1;rw[he,hl,←Gq,←AP]at hf;obtain⟨i1,i2⟩:=Rp.read tail (pre++Dl (Am e)) h4 h5 hf;have hnx:next (pre++(AQ ((e::es).map Am)++tail)) u pre.length=some (y,(pre++Dl (Am e)).length):=by
   have e3:pre++(AQ ((e::es).map Am)++tail)=pre++(Dl (Am e)++(AQ (es.map Am)++tail)):=by simp[AQ]
   unfold next
   rw[e3,hff];simp only[if_true,h2,h3];rw[AP,hfl,Nat.add_comm (Am e).length 8]
  rw[he]at hnx⊢;rw[hl,←Gq,←AP];refine⟨.step hnx i1,λx j hr=>?_⟩;cases hr with
  |refl=>exact hu
  |head h' r=>rw[hnx]at h';cases h';exact i2 x j r
/-! ## The list of a version-/
theorem bC{v:VM}{e:EM}(hst:GG v e=true)(hd:e.del=[])(hg:Gd e.next (v.files++e.add)):BQ v e=some ⟨Di (v.files++e.add),e.wal,e.next,e.seq⟩:=by
 have hdl:Gk e v.files=true:=by unfold Gk;rw[hd];rfl
 have hk:Ei e v.files=v.files:=by unfold Ei;rw[hd];simp
 unfold BQ;rw[hst,hdl,hk,Pu e.add v.files hg];rfl
theorem dA{α:Type}(l:List α)(i:Nat):l.take (i*2000)++(l.drop (i*2000)).take 2000=l.take ((i+1)*2000):=by
 rw[Nat.succ_mul,List.take_add]
theorem UZ{v:VM}(hv:DE v){n:Nat}(hn:v.files.length≤n):Rp n Cu (JQ v) v:=by
 obtain⟨w1,w2⟩:=hv.whole;have hso:Di v.files=v.files:=congrArg VM.files hv.good.so;have hnn:=hv.good.nn;have hpart: ∀i,(Am (C6 v i)).length≤65536∧Fm (Am (C6 v i))=some (C6 v i):=λi=>by
  have hpl:(C6 v i).add.length≤2000:=by
   show((v.files.drop (i*2000)).take 2000).length≤2000;rw[BR];omega
  have h1:=N4 (M0 w2 i) AA rfl;refine⟨AA,(MX AA).2 ⟨rfl,M0 w2 i,?_⟩⟩;unfold DA at w1⊢;simp only[Bool.and_eq_true,C8]at w1⊢;exact⟨⟨λf hf=>w1.1.1 f (List.mem_of_mem_drop (HN hf)),w1.1.2⟩,w1.2⟩
 have hgood: ∀i,Gd v.next (v.files.take i):=λi=>⟨λf hf=>hv.good.files.1 f (HN hf),hv.good.files.2.sublist ((List.take_sublist i v.files).map _)⟩;have step: ∀i(u:VM),u.next≤v.next→u.seq≤v.seq→u.files.Perm (v.files.take (i*2000))→BQ u (C6 v i)=some ⟨Di (v.files.take ((i+1)*2000)),v.wal,v.next,v.seq⟩:=λi u h1 h2 h3=>by
  have hp:(u.files++(C6 v i).add).Perm (v.files.take ((i+1)*2000)):=by
   rw[←dA];exact h3.append_right _
  have hst:GG u (C6 v i)=true:=by
   have:=((MX (by have:=(hpart i).1;omega)).1 (hpart i).2).2.2;unfold GG;rw[this];simp only[Bool.true_and,Bool.and_eq_true,decide_eq_true_eq];exact⟨h1,h2⟩
  rw[bC hst rfl ((hgood _).perm hp),SA hp];rfl
 have hz:(Cu.files).Perm (v.files.take (0*2000)):=by simp[Cu]
 have key: ∀k,1≤k→Rp n Cu ((List.range k).map (C6 v)) ⟨Di (v.files.take (k*2000)),v.wal,v.next,v.seq⟩:=by
  intro k
  induction k with
  |zero=>intro h;omega
  |succ k ih=>
   intro _;rw[List.range_succ,A7];have hlen:(Di (v.files.take ((k+1)*2000))).length≤n:=by rw[LS,BR];omega
   by_cases hk:k=0
   ·subst hk;exact Rp.one (hpart 0).1 (hpart 0).2 (step 0 Cu hnn.2.1 hnn.2.2 hz) hlen
   ·refine(ih AA).app (Rp.one (hpart k).1 (hpart k).2 (step k _ (Ea _) (Ea _) (I8 _)) hlen)
 have hN:1≤EV v:=by unfold EV;omega
 have h:=key (EV v) hN;rw[HO (by unfold EV;omega),hso]at h;exact h
theorem N6(v:VM):Ay v=(JQ v).map Am:=rfl
structure DW(m:AJ)(P:AE→Prop)(r:Int×AJ):Prop where
 down:r.2.off=true↔r.1=7
 same: ∀k,¬P k→AN r.2 k=AN m k
theorem DW.mono{m:AJ}{P Q:AE→Prop}{r:Int×AJ}(h:DW m P r)(hp: ∀k,P k→Q k):DW m Q r:=⟨h.down,λk hk=>h.same k λh=>hk (hp k h)⟩
theorem DW.up{m:AJ}{P:AE→Prop}{r:Int×AJ}(h:DW m P r)(he:r.1≠7):r.2.off=false:=by
 cases ho:r.2.off with
 |false=>rfl
 |true=>exact absurd (h.down.1 ho) he
theorem DW.up'{m m':AJ}{P:AE→Prop}{e:Int}(h:DW m P (e,m'))(he:e≠7):m'.off=false:=h.up he
theorem DW.trans{m:AJ}{P:AE→Prop}{a b:Int×AJ}(h:DW m P a)(h2:DW a.2 P b):DW m P b:=⟨h2.down,λk hk=>(h2.same k hk).trans (h.same k hk)⟩
theorem Nn(m:AJ):(acted m).off=true↔Cw m=1∨Cw m=2:=by unfold acted;simp
theorem O6(b:Bool):(if b=true then(7:Int)else 0)=7↔b=true:=by cases b<;>simp
theorem Ve{m:AJ}{n k:AE}{x:AE×Nat}(h:k≠n):AN {m with files:=Ba n x m.files} k=AN m k:=by rw[Mf,if_neg h]
theorem To{m:AJ}(h:m.off=false){n:AE}(hn:named n=true)(ps:List AE):
  DW m (· =n) (A9 m n ps)∧((A9 m n ps).1=0∨(A9 m n ps).1=6∨(A9 m n ps).1=7)∧((A9 m n ps).1=6→AN (A9 m n ps).2 n=AN m n)∧
   ((A9 m n ps).1=0→AN (A9 m n ps).2 n=some (((AN m n).getD ([],0)).1++ps.flatten,((AN m n).getD ([],0)).2))∧
   (AN (A9 m n ps).2 n=AN m n∨AN (A9 m n ps).2 n=some (((AN m n).getD ([],0)).1++ps.flatten,((AN m n).getD ([],0)).2)):=by
 have ha:=Nn m;unfold A9;rw[h,hn];simp only[Bool.false_eq_true,if_false,Bool.not_true];by_cases h3:Cw m=3
 ·rw[if_pos h3];refine⟨⟨?_,λk _=>rfl⟩,.inr (.inl rfl),λ_=>rfl,λh6=>(by cases h6),.inl rfl⟩;show(acted m).off=true↔(6:Int)=7;rw[ha,h3];decide
 ·rw[if_neg h3];by_cases h1:Cw m=1
  ·rw[if_pos h1];refine⟨⟨?_,λk _=>rfl⟩,.inr (.inr rfl),λ_=>rfl,λh6=>(by cases h6),.inl rfl⟩;show(acted m).off=true↔(7:Int)=7;rw[ha,h1];decide
  ·rw[if_neg h1];have hg:AN {acted m with files:=Ba n (((AN m n).getD ([],0)).1++ps.flatten,((AN m n).getD ([],0)).2) m.files} n=some (((AN m n).getD ([],0)).1++ps.flatten,((AN m n).getD ([],0)).2):=by
    have:=Mf (acted m) n n (((AN m n).getD ([],0)).1++ps.flatten,((AN m n).getD ([],0)).2);rw[if_pos rfl]at this;exact this
   refine⟨⟨(O6 _).symm,λk hk=>Ve (m:=acted m) hk⟩,?_,λh6=>?_,λ_=>hg,.inr hg⟩
   ·cases(acted m).off<;>simp
   ·exfalso
    revert h6
    cases(acted m).off<;>simp
theorem Hm{m:AJ}(h:m.off=false)(n:AE):BB m n=match AN m n with|none=>(([],0),5)|some x=>(x,0):=by unfold BB;rw[h];rfl
theorem YP{m:AJ}(h:m.off=false){n:AE}{x:AE×Nat}(hx:AN m n=some x):
  DW m (· =n) (CW m n)∧((CW m n).1=0∨(CW m n).1=7)∧((CW m n).1=0→AN (CW m n).2 n=some (x.1,x.1.length))∧
   (AN (CW m n).2 n=AN m n∨AN (CW m n).2 n=some (x.1,x.1.length)):=by
 have ha:=Nn m;have hf:BB m n=(x,0):=by rw[Hm h,hx]
 unfold CW;rw[hf];simp only[ne_eq,not_true_eq_false,if_false];by_cases h1:Cw m=1
 ·have ho:(acted m).off=true:=ha.2 (.inl h1);rw[if_pos h1,ho];exact⟨⟨by simp[ho],λk _=>rfl⟩,.inr rfl,λh0=>absurd h0 AC,.inl rfl⟩
 ·rw[if_neg h1];have hg:AN {acted m with files:=Ba n (x.1,x.1.length) m.files} n=some (x.1,x.1.length):=by
   have:=Mf (acted m) n n (x.1,x.1.length);rw[if_pos rfl]at this;exact this
  refine⟨⟨(O6 _).symm,λk hk=>Ve (m:=acted m) hk⟩,?_,λ_=>hg,.inr hg⟩;cases(acted m).off<;>simp
theorem N0{m:AJ}(h:m.off=false)(hnd:(m.files.map (·.1)).Nodup)(n:AE):
  DW m (· =n) (BA m n)∧((BA m n).1=0∨(BA m n).1=5∨(BA m n).1=7)∧((BA m n).1≠7→AN (BA m n).2 n=none)∧
   (AN (BA m n).2 n=AN m n∨AN (BA m n).2 n=none)∧((AN m n).isSome=true→(BA m n).1≠5):=by
 have ha:=Nn m;unfold BA;cases hx:AN m n with
 |none=>
  have hf:BB m n=(([],0),5):=by rw[Hm h,hx]
  rw[hf];simp only[ne_eq,show¬(5:Int)=0 by decide,not_false_eq_true,if_true];exact⟨⟨by rw[h];simp,λk _=>rfl⟩,AB,λ_=>hx,.inl hx,λh0=>by cases h0⟩
 |some x=>
  have hf:BB m n=(x,0):=by rw[Hm h,hx]
  rw[hf];simp only[ne_eq,not_true_eq_false,if_false];by_cases h1:Cw m=1
  ·have ho:(acted m).off=true:=ha.2 (.inl h1);rw[if_pos h1,ho];exact⟨⟨by simp[ho],λk _=>rfl⟩,.inr (.inr rfl),λh0=>absurd rfl h0,.inl hx,λ_=>AC⟩
  ·rw[if_neg h1];have hg: ∀k,AN {acted m with files:=Co n m.files} k=if k=n then none else AN m k:=λk=>J7 n k hnd
   refine⟨⟨(O6 _).symm,λk hk=>by rw[hg,if_neg hk]⟩,?_,λ_=>by rw[hg,if_pos rfl],.inr (by rw[hg,if_pos rfl]),λ_=>?_⟩
   ·cases(acted m).off<;>simp
   ·cases(acted m).off<;>simp
theorem OJ{A:Nat}{m:AJ}(h:m.off=false)(hB:FB A m){n:AE}(hn:named n=true)(t:AE):
  DW m (· =n) (CE m n t)∧((CE m n t).1=0∨(CE m n t).1=6∨(CE m n t).1=7)∧((CE m n t).1=0→AN (CE m n t).2 n=some (t,t.length)):=by
 obtain⟨d1,d2,d3, -, -⟩:=N0 h hB.nd n;unfold CE;by_cases h7:(BA m n).1=7
 ·rw[if_pos ⟨by rw[h7];decide,by rw[h7];decide⟩];exact⟨d1,.inr (.inr h7),λh0=>by rw[h7]at h0;cases h0⟩
 ·have hd: ¬((BA m n).1≠0∧(BA m n).1≠5):=AA;rw[if_neg hd];have hu:=d1.up h7;obtain⟨a1,a2, -,a4, -⟩:=To hu hn [t];have hda:=d1.trans a1;by_cases h0:(A9 (BA m n).2 n [t]).1=0
  ·rw[if_neg (by simp[h0])];have hg:AN (A9 (BA m n).2 n [t]).2 n=some (t,0):=by rw[a4 h0,d3 h7];simp
   obtain⟨s1,s2,s3, -⟩:=YP (a1.up (by rw[h0];decide)) hg;exact⟨hda.trans s1,AA,s3⟩
  ·rw[if_pos h0];exact⟨hda,a2,λh=>absurd h h0⟩
theorem Rv{A:Nat}{m:AJ}(h:m.off=false)(hB:FB A m){n:AE}(hn:named n=true){ps:List AE}(hp:Bc ps=true):
  DW m (· =n) (Cd m n ps)∧((Cd m n ps).1=0∨(Cd m n ps).1=6∨(Cd m n ps).1=7)∧((Cd m n ps).1=0→AN (Cd m n ps).2 n=some (AQ ps,(AQ ps).length)):=by
 unfold Cd;rw[hp];exact OJ h hB hn _
theorem Xo{A:Nat}{m:AJ}(h:m.off=false)(hB:FB A m){a b:AE}(hb:named b=true)(_hab:a≠b){x:AE×Nat}(hx:AN m a=some x):
  DW m (λk=>k=a∨k=b) (Cx m a b)∧((Cx m a b).1=0∨(Cx m a b).1=7)∧((Cx m a b).1=0→AN (Cx m a b).2 b=some x)∧
   ((∀k,AN (Cx m a b).2 k=AN m k)∨AN (Cx m a b).2 b=some x):=by
 have ha:=Nn m;have hf:BB m a=(x,0):=by rw[Hm h,hx]
 unfold Cx;rw[hb,hf];simp only[Bool.true_eq_false,and_false,if_false,ne_eq,not_true_eq_false];by_cases h1:Cw m=1
 ·have ho:(acted m).off=true:=ha.2 (.inl h1);rw[if_pos h1,ho];exact⟨⟨by simp[ho],λk _=>rfl⟩,.inr rfl,λh0=>absurd h0 AC,.inl λk=>rfl⟩
 ·rw[if_neg h1];have hg: ∀k,AN {acted m with files:=Ba b x (Co a m.files)} k=if k=b then some x else if k=a then none else AN m k:=λk=>by
   show Al k (Ba b x (Co a m.files))=_;rw[G6,J7 _ _ hB.nd]
   rfl
  refine⟨⟨(O6 _).symm,λk hk=>by rw[not_or]at hk;rw[hg,if_neg hk.2,if_neg hk.1]⟩,?_,λ_=>by rw[hg,if_pos rfl],.inr (by rw[hg,if_pos rfl])⟩;cases(acted m).off<;>simp
theorem Tl{m:AJ}(h:m.off=false){g:BF}{N:Nat}(hg:GM g N){ps:List AE}(hp:Bc ps=true)(hne:ps≠[]):
  DW m (· =g.name) ((appL m g ps).1,(appL m g ps).2.2)∧((appL m g ps).1=0∨(appL m g ps).1=6∨(appL m g ps).1=7)∧
   ((appL m g ps).1=6→(appL m g ps).2.1=g∧AN (appL m g ps).2.2 g.name=AN m g.name)∧
   ((appL m g ps).1=0→(appL m g ps).2.1={g with n:=g.n+ps.length}∧AN (appL m g ps).2.2 g.name=some (((AN m g.name).getD ([],0)).1++AQ ps,(((AN m g.name).getD ([],0)).1++AQ ps).length))∧
   (AN (appL m g ps).2.2 g.name=AN m g.name∨AN (appL m g ps).2.2 g.name=some (((AN m g.name).getD ([],0)).1++AQ ps,((AN m g.name).getD ([],0)).2)∨
    AN (appL m g ps).2.2 g.name=some (((AN m g.name).getD ([],0)).1++AQ ps,(((AN m g.name).getD ([],0)).1++AQ ps).length)):=by
 obtain⟨a1,a2,a3,a4,a5⟩:=To h hg.name [AQ ps];simp only[Dc,Gm,BU]at a4 a5;have hd:=hg.dead;have hgg:({g with n:=g.n,dead:=false}:BF)=g:=by cases g;simp only at hd;subst hd;rfl
 by_cases h0:(A9 m g.name [AQ ps]).1=0
 ·have hx:=a4 h0;obtain⟨s1,s2,s3,s4⟩:=YP (a1.up (by rw[h0];decide)) hx;have hos:=a1.trans s1;have e:DJ m g.name g.n g.torn g.dead ps=((CW (A9 m g.name [AQ ps]).2 g.name).1,(if(CW (A9 m g.name [AQ ps]).2 g.name).1=0 then g.n+ps.length else g.n,decide ((CW (A9 m g.name [AQ ps]).2 g.name).1=7)),(CW (A9 m g.name [AQ ps]).2 g.name).2):=by
   unfold DJ;rw[hg.dead,h,hg.torn,hp,h0];simp[hne]
  unfold appL;rw[e];simp only;generalize CW (A9 m g.name [AQ ps]).2 g.name=q at s1 s2 s3 s4 hos⊢;refine⟨⟨hos.down,hos.same⟩,AA,λh6=>AA,λh0'=>?_,?_⟩
  ·rw[if_pos h0',h0',hd];refine⟨?_,s3 h0'⟩;simp
  ·rcases s4 with s4|s4
   ·exact .inr (.inl (s4.trans hx))
   ·exact .inr (.inr s4)
 ·have e:DJ m g.name g.n g.torn g.dead ps=((A9 m g.name [AQ ps]).1,(g.n,decide ((A9 m g.name [AQ ps]).1=7)),(A9 m g.name [AQ ps]).2):=by
   unfold DJ;rw[hg.dead,h,hg.torn,hp];simp[hne,h0]
  unfold appL;rw[e];simp only;generalize A9 m g.name [AQ ps]=q at a1 a2 a3 a5 h0⊢;refine⟨⟨a1.down,a1.same⟩,a2,λh6=>⟨?_,a3 h6⟩,λh0'=>absurd h0' h0,?_⟩
  ·rw[h6];exact hgg
  ·rcases a5 with a5|a5
   ·exact .inl a5
   ·exact .inr (.inl a5)
theorem RF{T:Nat}(hT:1048576≤T∧T≤1099511627776): ∀(cs:List (List AF)){A:Nat}{m:AJ}(n:Int),m.off=false→FT A T m→(∀c∈cs,B8 c)→0≤n→n+cs.length≤4611686018427387904→
  DW m (λk=>∃i,n≤i∧i<n+cs.length∧k=Aw i) (Bi m n cs)∧((Bi m n cs).1=0∨(Bi m n cs).1=6∨(Bi m n cs).1=7)∧((Bi m n cs).1=0→ ∀x∈Ar n cs,AN (Bi m n cs).2 (Aw x.1)=some (B5 x.2,(B5 x.2).length))
 |[],A,m,n,h,_,_,_,_=>⟨⟨by show m.off=true↔(0:Int)=7;rw[h];simp,λk _=>rfl⟩,.inl rfl,λ_ x hx=>by cases hx⟩
 |c::cs,A,m,n,h,hF,hc,h0,hn=>by
  rw[Ai]at hn;have hi:Ck n:=⟨AA,AA⟩;have hb:=(hc c AB).bytes;obtain⟨f1,f2,f3⟩:=OJ h hF.fb (Wk hi) (B5 c);have hF2:=hF.file (Aw n) (B5 c) AA hT.2;have f1':DW m (λk=>∃i,n≤i∧i<n+(c::cs).length∧k=Aw i) (CE m (Aw n) (B5 c)):=f1.mono λk hk=>⟨n,Ea _,by rw[Ai];omega,hk⟩;unfold Bi;by_cases he:(CE m (Aw n) (B5 c)).1=0
  ·rw[if_neg (by simp[he])];obtain⟨i1,i2,i3⟩:=RF hT cs (n+1) (f1.up (by rw[he];decide)) hF2 (λc hc'=>hc c (by simp[hc'])) AA AA;refine⟨f1'.trans (i1.mono λk⟨i,h1,h2,h3⟩=>⟨i,AA,by rw[Ai];omega,h3⟩),i2,λh9 x hx=>?_⟩;rw[Ar]at hx;rcases As.1 hx with rfl|hx
   ·rw[i1.same (Aw n) λ⟨i,h1,h2,h3⟩=>by have:=LW hi ⟨AA,AA⟩ h3;omega];exact f3 he
   ·exact i3 h9 x hx
  ·rw[if_pos he];exact⟨f1',f2,λh=>absurd h he⟩
theorem UN{T:Nat}: ∀(ns:List AE){A:Nat}{m:AJ},m.off=false→FT A T m→DW m (· ∈ns) (delAll ns m)∧((delAll ns m).1=0∨(delAll ns m).1=5∨(delAll ns m).1=7)∧(ns.Nodup→(∀n∈ns,(AN m n).isSome=true)→(delAll ns m).1≠5)
 |[],A,m,h,_=>⟨⟨by show m.off=true↔(0:Int)=7;rw[h];simp,λk _=>rfl⟩,.inl rfl,λ_ _=>(by decide:(0:Int)≠5)⟩
 |n::ns,A,m,h,hF=>by
  obtain⟨d1,d2,d3,d4,d5⟩:=N0 h hF.fb.nd n;have d1':DW m (· ∈n::ns) (BA m n):=d1.mono λk hk=>by rw[hk];simp
  unfold delAll;by_cases he:(BA m n).1=0
  ·rw[if_neg (by simp[he])];obtain⟨i1,i2,i3⟩:=UN ns (d1.up (by rw[he];decide)) (hF.del n);refine⟨d1'.trans (i1.mono λk hk=>CJ _ hk),i2,λhnd hall=>i3 (Ew.1 hnd).2 λx hx=>?_⟩;rw[d1.same x (λe:x=n=>(Ew.1 hnd).1 (e▸hx))];exact hall x (by simp[hx])
  ·rw[if_pos he];exact⟨d1',d2,λ_ hall=>d5 (hall n AB)⟩
theorem QD{T:Nat}(s:AM)(list:Int): ∀(ns:List AE){A:Nat}{m:AJ},m.off=false→FT A T m→ns.Nodup→(∀n∈ns,(AN m n).isSome=true)→
  DW m (λk=>k∈ns∧Ct s list k=false) (DF s list ns m)∧((DF s list ns m).1=0∨(DF s list ns m).1=7)∧FT (A+ns.length) T (DF s list ns m).2∧
   ((DF s list ns m).1=0→ ∀k,k∈ns→Ct s list k=false→AN (DF s list ns m).2 k=none)
 |[],A,m,h,hF,_,_=>⟨⟨by show m.off=true↔(0:Int)=7;rw[h];simp,λk _=>rfl⟩,.inl rfl,hF,λ_ k hk=>by cases hk⟩
 |n::ns,A,m,h,hF,hnd,hall=>by
  obtain⟨hn1,hn2⟩:=Ew.1 hnd;unfold DF;cases hk:Ct s list n with
  |true=>
   rw[if_pos rfl];obtain⟨i1,i2,i3,i4⟩:=QD s list ns h hF hn2 λx hx=>hall x (by simp[hx]);refine⟨i1.mono λk hk=>⟨CJ _ hk.1,hk.2⟩,i2,i3.mono (by rw[Ai];omega) (AV _),λh0 k hk1 hk2=>?_⟩;rcases As.1 hk1 with rfl|hk1
   ·rw[hk]at hk2;cases hk2
   ·exact i4 h0 k hk1 hk2
  |false=>
   rw[if_neg AB];obtain⟨d1,d2,d3, -,d5⟩:=N0 h hF.fb.nd n;have d1':DW m (λk=>k∈n::ns∧Ct s list k=false) (BA m n):=d1.mono λk hk'=>by rw[hk'];exact⟨AB,hk⟩
   have hn5:=d5 (hall n AB);by_cases he:(BA m n).1=0
   ·rw[if_neg (by simp[he])];obtain⟨i1,i2,i3,i4⟩:=QD s list ns (d1.up (by rw[he];decide)) (hF.del n) hn2 λx hx=>by rw[d1.same x (λe:x=n=>hn1 (e▸hx))];exact hall x (by simp[hx])
    refine⟨d1'.trans (i1.mono λk hk=>⟨CJ _ hk.1,hk.2⟩),i2,i3.mono (by rw[Ai];omega) (AV _),λh0 k hk1 hk2=>?_⟩;by_cases hkn:k∈ns
    ·exact i4 h0 k hkn hk2
    ·have hk3:k=n:=by rcases As.1 hk1 with h|h;exact h;exact absurd h hkn
     subst hk3;rw[i1.same k λh=>hkn h.1];exact d3 (by rw[he];decide)
   ·rw[if_pos he];exact⟨d1',AA,(hF.del n).mono (by rw[Ai];omega) (AV _),λh0=>absurd h0 he⟩
def EX:AJ:=⟨[],[],0,0,false⟩
abbrev DD:=AE→Option (AE×Nat)
def HB(F G:DD):Prop:=∀n,match F n with
 |none=>G n=none
 |some x=>∃k,x.2≤k∧k≤x.1.length∧G n=some (x.1.take k,k)
theorem HB.no{F G:DD}(h:HB F G){n:AE}(hn:F n=none):G n=none:=by have:=h n;rw[hn]at this;exact this
theorem HB.at{F G:DD}(h:HB F G){n:AE}{x:AE×Nat}(hn:F n=some x): ∃k,x.2≤k∧k≤x.1.length∧G n=some (x.1.take k,k):=by have:=h n;rw[hn]at this;exact this
theorem HB.full{F G:DD}(h:HB F G){n t:AE}(hn:F n=some (t,t.length)):G n=some (t,t.length):=by
 obtain⟨k,h1,h2,h3⟩:=h.at hn;have h1:t.length≤k:=h1;have h2:k≤t.length:=h2;obtain rfl:k=t.length:=AA;rw[h3,Bz]
theorem HB.fullD{F G:DD}(h:HB F G){n:AE}(hn:((F n).getD ([],0)).2=((F n).getD ([],0)).1.length):(G n).getD ([],0)=(F n).getD ([],0):=by
 cases hf:F n with
 |none=>rw[h.no hf]
 |some x=>
  rw[hf]at hn;obtain⟨t,y⟩:=x;have hn:y=t.length:=hn;subst hn;rw[h.full hf]
def Ge(n:Nat)(t:AE)(v:VM):Prop:=∃es tail,t=AQ (es.map Am)++tail∧Rp n Cu es v∧(B7 t (AQ (es.map Am)).length).2.2≠0
theorem Ge.mono{n m:Nat}{t:AE}{v:VM}(h:Ge n t v)(hl:n≤m):Ge m t v:=by
 obtain⟨es,tail,h1,h2,h3⟩:=h;exact⟨es,tail,h1,h2.mono hl,h3⟩
theorem Ge.whole{n:Nat}{es:List EM}{v:VM}(h:Rp n Cu es v):Ge n (AQ (es.map Am)) v:=⟨es,[],AB,h,by rw[Qm _ _ AA];decide⟩
theorem tJ{n k:Nat}{es:List EM}{x:EM}{v nx:VM}(h:Rp n Cu es v)(hx:Rp n v [x] nx)(hk:(AQ (es.map Am)).length≤k):
  Ge n ((AQ (es.map Am)++AQ [Am x]).take k) v∨Ge n ((AQ (es.map Am)++AQ [Am x]).take k) nx:=by
 have hok:Bc [Am x]=true:=by unfold Bc;simp;exact hx.1
 rw[List.take_append,HO hk];obtain⟨i,hi,t,h1,h2⟩:=R5 [Am x] (k-(AQ (es.map Am)).length) hok;rw[h1];have hi:i≤1:=hi;by_cases h0:i=0
 ·subst h0;left;refine⟨es,t,by simp[AQ],h,?_⟩;have:=Ql (AQ (es.map Am)) t h2;simpa[AQ]using this
 ·obtain rfl:i=1:=AA;right;have hap:=h.app hx;refine⟨es++[x],t,by simp[AQ],hap,?_⟩;have:=Ql (AQ ((es++[x]).map Am)) t h2;have e:AQ (es.map Am)++(AQ ([Am x].take 1)++t)=AQ ((es++[x]).map Am)++t:=by simp[AQ]
  rw[e];exact this
structure Gc(n:Nat)(F:DD)(j:Int)(v:VM)(T:List (Int×List AF))(bs:List (Int×List Ac)):Prop where
 cur:F Bg=some (AX j,(AX j).length)
 j1:1≤j
 jn:j<v.next
 list: ∃lt,F (AX j)=some (lt,lt.length)∧Ge n lt v
 tab: ∀x∈T,F (Aw x.1)=some (B5 x.2,(B5 x.2).length)
 log:(scan ((F (Aa v.wal)).getD ([],0)).1).1=Ab bs∧((F (Aa v.wal)).getD ([],0)).2=((F (Aa v.wal)).getD ([],0)).1.length
def Fd(n:Nat)(F:DD)(v:VM)(T:List (Int×List AF))(bs:List (Int×List Ac)):Prop:=(F Bg=none∧v=Fa∧T=[]∧bs=[])∨ ∃j,Gc n F j v T bs
def NW(j wal:Int)(T:List (Int×List AF))(k:AE):Prop:=k=Bg∨k=AX j∨k=Aa wal∨ ∃x∈T,k=Aw x.1
theorem Gc.frame{n:Nat}{F G:DD}{j:Int}{v:VM}{T:List (Int×List AF)}{bs:List (Int×List Ac)}(h:Gc n F j v T bs)(hk: ∀k,NW j v.wal T k→G k=F k):Gc n G j v T bs:=by
 obtain⟨lt,h1,h2⟩:=h.list;have hw:G (Aa v.wal)=F (Aa v.wal):=hk _ (.inr (.inr (.inl rfl)));exact⟨by rw[hk _ (.inl rfl)];exact h.cur,h.j1,h.jn,⟨lt,by rw[hk _ (.inr (.inl rfl))];exact h1,h2⟩,λx hx=>by rw[hk _ (.inr (.inr (.inr ⟨x,hx,rfl⟩)))];exact h.tab x hx,by rw[hw];exact h.log⟩
theorem Gc.cut{n:Nat}{F G:DD}{j:Int}{v:VM}{T:List (Int×List AF)}{bs:List (Int×List Ac)}(h:Gc n F j v T bs)(hc:HB F G):Gc n G j v T bs:=by
 obtain⟨lt,h1,h2⟩:=h.list;have hw:=hc.fullD h.log.2;exact⟨hc.full h.cur,h.j1,h.jn,⟨lt,hc.full h1,h2⟩,λx hx=>hc.full (h.tab x hx),by rw[hw];exact h.log⟩
theorem Gc.mono{n m:Nat}{F:DD}{j:Int}{v:VM}{T:List (Int×List AF)}{bs:List (Int×List Ac)}(h:Gc n F j v T bs)(hl:n≤m):Gc m F j v T bs:=by
 obtain⟨lt,h1,h2⟩:=h.list;exact⟨h.cur,h.j1,h.jn,⟨lt,h1,h2.mono hl⟩,h.tab,h.log⟩
theorem Fd.cut{n:Nat}{F G:DD}{v:VM}{T:List (Int×List AF)}{bs:List (Int×List Ac)}(h:Fd n F v T bs)(hc:HB F G):Fd n G v T bs:=by
 rcases h with⟨h1,h2⟩|⟨j,h⟩
 ·exact .inl ⟨hc.no h1,h2⟩
 ·exact .inr ⟨j,h.cut hc⟩
/-! ## What is in the files-/
abbrev Bw(v:VM)(T:List (Int×List AF))(bs:List (Int×List Ac)):AM:=CK (Cc 1 1 [] v T) bs
structure Cz(c e:Nat)(v:VM)(T:List (Int×List AF))(bs:List (Int×List Ac))(now:List AO):Prop where
 mem:Gf (Bw v T bs).mem
 tab: ∀x∈T,B8 x.2∧x.2≠[]
 one:C1 ((Bw v T bs).mem++(T.map (·.2)).flatten)
 num:((Bw v T bs).mem++(T.map (·.2)).flatten).length≤e
 nlen:now.length≤e
 adds:(Bw v T bs).adds≤e
 good:Good v
 files:(v.files.map (·.2)).Perm (T.map (·.1))
 next:1≤v.next
 wal:v.wal<v.next
 bnext:v.next≤c*2097152
 top: ∀x∈(Bw v T bs).mem++(T.map (·.2)).flatten,x.s≤(Bw v T bs).seq
 bseq:(Bw v T bs).seq≤c
 view:Bf ((Bw v T bs).mem++(T.map (·.2)).flatten) (Bw v T bs).seq now
 bq: ∀b∈bs,0≤b.1∧b.1≤4611686018427387904
 bsz: ∀b∈bs,Ap b.2≤4096
 blen:bs.length≤c
theorem Cz.mono{c c' e e':Nat}{v:VM}{T:List (Int×List AF)}{bs:List (Int×List Ac)}{now:List AO}(h:Cz c e v T bs now)(hc:c≤c')(he:e≤e'):Cz c' e' v T bs now:=
 {h with num:=Au h.num he,nlen:=Au h.nlen he,adds:=Au h.adds he,bnext:=by have:=h.bnext;omega,bseq:=by have:=h.bseq;omega,blen:=Au h.blen hc}
def GP(c e:Nat)(F:DD)(S:List AO→Prop):Prop:=∀G,HB F G→ ∃v T bs now,S now∧Fd e G v T bs∧Cz c e v T bs now
theorem GP.mono{c c' e e':Nat}{F:DD}{S S':List AO→Prop}(h:GP c e F S)(hc:c≤c')(he:e≤e')(hs: ∀r,S r→S' r):GP c' e' F S':=λG hG=>by
 obtain⟨v,T,bs,now,h1,h2,h3⟩:=h G hG;refine⟨v,T,bs,now,hs _ h1,?_,h3.mono hc he⟩;rcases h2 with h2|⟨j,h2⟩
 ·exact .inl h2
 ·exact .inr ⟨j,h2.mono he⟩
theorem Fd.rec{c e:Nat}{F:DD}{v:VM}{T:List (Int×List AF)}{bs:List (Int×List Ac)}{now:List AO}(h:Fd e F v T bs)(hc:Cz c e v T bs now):GP c e F (· =now):=λG hG=>⟨v,T,bs,now,rfl,h.cut hG,hc⟩
/-! ## A store in use,and its files-/
structure Dk(e:Nat)(s:AM)(F:DD)(j:Int)(es:List EM)(g:BF)(bs:List (Int×List Ac)):Prop where
 sl:s.list=some g
 gn:g.name=AX j
 j1:1≤j
 jn:j<s.v.next
 cur:F Bg=some (AX j,(AX j).length)
 list:F (AX j)=some (AQ (es.map Am),(AQ (es.map Am)).length)
 rp:Rp e Cu es s.v
 tab: ∀x∈s.tabs,F (Aw x.1)=some (B5 x.2,(B5 x.2).length)
 log:(F (Aa s.v.wal)).getD ([],0)=(AQ (Ab bs),(AQ (Ab bs)).length)
 ok:Bc (Ab bs)=true
 free: ∀k,s.v.next≤k→k≤4611686018427387904→F (Aa k)=none
 mem:(Bw s.v s.tabs bs).mem=s.mem
 seq:(Bw s.v s.tabs bs).seq=s.seq
 adds:(Bw s.v s.tabs bs).adds=s.adds
 bq: ∀b∈bs,0≤b.1∧b.1≤4611686018427387904
 bsz: ∀b∈bs,Ap b.2≤4096
theorem Dk.fdl{e:Nat}{s:AM}{F:DD}{j:Int}{es:List EM}{g:BF}{bs:List (Int×List Ac)}(h:Dk e s F j es g bs):Gc e F j s.v s.tabs bs:=by
 refine⟨h.cur,h.j1,h.jn,⟨_,h.list,Ge.whole h.rp⟩,h.tab,?_⟩;rw[h.log];exact⟨by rw[IY _ h.ok],rfl⟩
theorem Dk.frame{e:Nat}{s:AM}{F G:DD}{j:Int}{es:List EM}{g:BF}{bs:List (Int×List Ac)}(h:Dk e s F j es g bs)(hk: ∀k,(NW j s.v.wal s.tabs k∨ ∃i,k=Aa i)→G k=F k):Dk e s G j es g bs:=
 {h with cur:=by rw[hk _ (.inl (.inl rfl))];exact h.cur,list:=by rw[hk _ (.inl (.inr (.inl rfl)))];exact h.list,tab:=λx hx=>by rw[hk _ (.inl (.inr (.inr (.inr ⟨x,hx,rfl⟩))))];exact h.tab x hx,log:=by rw[hk _ (.inr ⟨_,rfl⟩)];exact h.log,free:=λk h1 h2=>by rw[hk _ (.inr ⟨_,rfl⟩)];exact h.free k h1 h2}
theorem Dk.cont{c e:Nat}{s:AM}{F:DD}{j:Int}{es:List EM}{g:BF}{bs:List (Int×List Ac)}{m:AJ}{now:List AO}{lk:Int→Option (List AO)}(h:Dk e s F j es g bs)(hC:BH e s m now lk)(hX:s.v.next≤c*2097152)(hQ:s.seq≤c)(hb:bs.length≤c):Cz c e s.v s.tabs bs now:=by
 have hE:(Bw s.v s.tabs bs).mem++(s.tabs.map (·.2)).flatten=BZ s:=by rw[h.mem];rfl
 exact⟨by rw[h.mem];exact hC.mem,hC.tab,by rw[hE];exact hC.one,by rw[hE];exact hC.num,hC.nlen,by rw[h.adds];exact hC.adds,hC.good,hC.files,hC.next,hC.wal,hX,by rw[hE,h.seq];exact hC.top,by rw[h.seq];exact hQ,by rw[hE,h.seq];exact hC.view,h.bq,h.bsz,hb⟩
/-! ## A batch-/
theorem lN(q:Int)(o:Ac):C7 q (EN o)=C7 q o:=by
 unfold C7 EN;simp only
 split<;>simp_all
theorem Ya(q:Int): ∀(ops:List Ac)(l:List AF),Cy q (ops.map EN) l=Cy q ops l
 |[],l=>rfl
 |o::ops,l=>by
  show Cy q (ops.map EN) (DS (C7 q (EN o)) l)=Cy q ops (DS (C7 q o) l);rw[lN,Ya q ops]
theorem SN(s:AM)(bs:List (Int×List Ac))(b:Int×List Ac):CK s (bs++[b])=Ia (CK s bs) b:=by unfold CK;rw[Hq];rfl
theorem QA(bs:List (Int×List Ac))(b:Int×List Ac):Ab (bs++[b])=Ab bs++[B0 b.1 b.2]:=by unfold Ab;rw[A7];rfl
theorem Dk.took{e e':Nat}{s:AM}{F G:DD}{j:Int}{es:List EM}{g g':BF}{bs:List (Int×List Ac)}{ops:List Ac}(h:Dk e s F j es g bs)(he:e≤e')(hs:0≤s.seq∧s.seq+1≤4611686018427387904)(hsz:Ap ops≤4096)(hwn:s.v.wal<s.v.next)(hw0:0≤s.v.wal)(hn:s.v.next≤4611686018427387904)
  (hok:Bc [B0 (s.seq+1) ops]=true)(hk: ∀k,k≠Aa s.v.wal→G k=F k)(hG:G (Aa s.v.wal)=some (AQ (Ab bs)++AQ [B0 (s.seq+1) ops],(AQ (Ab bs)++AQ [B0 (s.seq+1) ops]).length)):Dk e' (Gu s g' ops) G j es g (bs++[(s.seq+1,ops)]):=by
 have hcl:=λi=>EG s.v.wal i;refine⟨h.sl,h.gn,h.j1,h.jn,by rw[hk _ (EB _).1.symm];exact h.cur,by rw[hk _ (hcl _).symm];exact h.list,h.rp.mono he,λx hx=>by rw[hk _ (FH _ _).symm];exact h.tab x hx,?_,?_,λk h1 h2=>?_,?_,?_,?_,?_,?_⟩
 ·show(G (Aa s.v.wal)).getD ([],0)=_;rw[hG,QA,ND];rfl
 ·rw[QA,Rc,h.ok,hok];rfl
 ·have h1:s.v.next≤k:=h1;rw[hk _ λe=>by have:=KR ⟨AA,AA⟩ ⟨AA,AA⟩ e;omega];exact h.free k h1 h2
 ·show(CK (Cc 1 1 [] s.v s.tabs) (bs++[(s.seq+1,ops)])).mem=_;rw[SN];show Cy (s.seq+1) (ops.map EN) (Bw s.v s.tabs bs).mem=Cy (s.seq+1) ops s.mem;rw[Ya,h.mem]
 ·show(CK (Cc 1 1 [] s.v s.tabs) (bs++[(s.seq+1,ops)])).seq=_;rw[SN];show(if(Bw s.v s.tabs bs).seq<s.seq+1 then s.seq+1 else(Bw s.v s.tabs bs).seq)=s.seq+1;rw[h.seq,if_pos AA]
 ·show(CK (Cc 1 1 [] s.v s.tabs) (bs++[(s.seq+1,ops)])).adds=_;rw[SN];show(Bw s.v s.tabs bs).adds+ops.length=s.adds+ops.length;rw[h.adds]
 ·intro b hb;rcases Bl.1 hb with hb|hb
  ·exact h.bq b hb
  ·rw[Cm]at hb;subst hb;simp only;omega
 ·intro b hb;rcases Bl.1 hb with hb|hb
  ·exact h.bsz b hb
  ·rw[Cm]at hb;subst hb;exact hsz
theorem Dk.recLog{c e:Nat}{s:AM}{F G:DD}{j:Int}{es:List EM}{g:BF}{bs:List (Int×List Ac)}{b:Int×List Ac}{now now2:List AO}(h:Dk e s F j es g bs)(h1:Cz c e s.v s.tabs bs now)(h2:Cz c e s.v s.tabs (bs++[b]) now2)(hok:Bc [B0 b.1 b.2]=true)
  (hk: ∀k,k≠Aa s.v.wal→G k=F k){y:Nat}(hG:G (Aa s.v.wal)=some (AQ (Ab bs)++AQ [B0 b.1 b.2],y))(hy:(AQ (Ab bs)).length≤y):GP c e G (λr=>r=now∨r=now2):=by
 intro H hH;obtain⟨k,k1,k2,k3⟩:=hH.at hG;have k1:y≤k:=k1;have k2:k≤(AQ (Ab bs)++AQ [B0 b.1 b.2]).length:=k2;have k3:H (Aa s.v.wal)=some ((AQ (Ab bs)++AQ [B0 b.1 b.2]).take k,k):=k3;have hfd: ∀bs',(scan ((AQ (Ab bs)++AQ [B0 b.1 b.2]).take k)).1=Ab bs'→Gc e H j s.v s.tabs bs':=λbs' hs=>by
  refine⟨hH.full (by rw[hk _ (EB _).1.symm];exact h.cur),h.j1,h.jn,⟨_,hH.full (by rw[hk _ (EG _ _).symm];exact h.list),Ge.whole h.rp⟩,λx hx=>hH.full (by rw[hk _ (FH _ _).symm];exact h.tab x hx),?_⟩;rw[k3];refine⟨hs,?_⟩;show k=((AQ (Ab bs)++AQ [B0 b.1 b.2]).take k).length;rw[BR];omega
 obtain⟨i,hi, -,h3, -⟩:=xA (Ab bs) [B0 b.1 b.2] h.ok hok (k-(AQ (Ab bs)).length);have hi:i≤1:=hi;have e1:(AQ (Ab bs)++AQ [B0 b.1 b.2]).take k=AQ (Ab bs)++(AQ [B0 b.1 b.2]).take (k-(AQ (Ab bs)).length):=by
  rw[List.take_append,HO AA]
 rw[←e1]at h3;by_cases h0:i=0
 ·subst h0;exact⟨s.v,s.tabs,bs,now,.inl rfl,.inr ⟨j,hfd bs (by rw[h3];simp)⟩,h1⟩
 ·obtain rfl:i=1:=AA;exact⟨s.v,s.tabs,bs++[b],now2,.inr rfl,.inr ⟨j,hfd _ (by rw[h3,QA];simp)⟩,h2⟩
theorem Rg{m:AJ}(h:m.off=false){n:AE}{ps:List AE}{y:Nat}(hp:Bc ps=true)(hx:AN m n=some (AQ ps,y)):D6 m n=⟨ps.length,n,false,false⟩:=by
 unfold D6;rw[Hm h,hx];simp only[IY ps hp];simp
theorem vE{m:AJ}(h:m.off=false){n:AE}(hx:AN m n=none):D6 m n=⟨0,n,false,false⟩:=by
 unfold D6;rw[Hm h,hx];have:=IY [] rfl;unfold AQ at this;simp only[kC,Gm]at this;simp only[this];simp
theorem M4{m:AJ}(h:m.off=false){n:AE}(hn:named n=true):C9 m n=0:=by unfold C9;rw[h,hn];rfl
theorem Xv{v v':VM}{e:EM}(h:BQ v e=some v'):DA e=true:=by
 unfold BQ at h
 split at h
 ·rename_i hc;unfold GG at hc;simp only[Bool.and_eq_true]at hc;exact hc.1.1.1
 ·cases h
def JO(s:AM)(g:BF)(x:EM)(nx:VM)(mk:List (Int×List AF)):AM:=
 if 65536<(Am x).length then{s with list:=some ⟨(Ay {nx with next:=nx.next+1}).length,AX nx.next,false,false⟩,v:={nx with next:=nx.next+1},tabs:=FZ s.tabs mk x.del}
 else{s with list:=some {g with n:=g.n+1},v:=nx,tabs:=FZ s.tabs mk x.del}
def Ih(n:Int)(k:AE):Prop:=k=AX n∨k=Bb
structure Y6(e:Nat)(s:AM)(G:DD)(j:Int)(es:List EM)(g:BF):Prop where
 sl:s.list=some g
 gn:g.name=AX j
 j1:1≤j
 jn:j<s.v.next
 cur:G Bg=some (AX j,(AX j).length)
 list:G (AX j)=some (AQ (es.map Am),(AQ (es.map Am)).length)
 rp:Rp e Cu es s.v
inductive NR(e c:Nat)(s:AM)(m:AJ)(g:BF)(x:EM)(nx:VM)(mk:List (Int×List AF))(T:List (Int×List AF))(bs:List (Int×List Ac))(now:List AO)(j:Int)(N:Nat):Int×AM×AJ→Prop where
 |ok (m':AJ) (j':Int) (es':List EM) (g':BF) (h1:m'.off=false) (h2:Y6 e (JO s g x nx mk) (AN m') j' es' g') (h3:GM g' (N+1)) (h4: ∀k,k≠AX j→ ¬Ih nx.next k→k≠Bg→AN m' k=AN m k):NR e c s m g x nx mk T bs now j N (0,JO s g x nx mk,m')
 |space (m':AJ) (h1:m'.off=false) (h2: ∀k,¬Ih nx.next k→AN m' k=AN m k):NR e c s m g x nx mk T bs now j N (6,s,m')
 |down (s':AM) (m':AJ) (h1:m'.off=true) (h2:GP c e (AN m') (· =now)) (h3:s'.v=s.v):NR e c s m g x nx mk T bs now j N (7,s',m')
theorem UW{A U N e c:Nat}{s:AM}{m:AJ}{x:EM}{nx:VM}{g:BF}{j:Int}{es:List EM}{bs bs2:List (Int×List Ac)}{T2:List (Int×List AF)}{now:List AO}(mk:List (Int×List AF))(h:m.off=false)(hF:FT A U m)(hgl:GM g N)(hN:4200≤N)
  (hD:Dk e s (AN m) j es g bs)(ha:BQ s.v x=some nx)(hnx:DE nx)(hn:0≤nx.next∧nx.next+1≤2305843009213693952)(hxB:Fm (Am x)=some x)
  (hnn:s.v.next≤nx.next)(hfe:nx.files.length≤e)
  (hT2: ∀y∈T2,AN m (Aw y.1)=some (B5 y.2,(B5 y.2).length))(hl2:(AN m (Aa nx.wal)).getD ([],0)=(AQ (Ab bs2),(AQ (Ab bs2)).length))(hok2:Bc (Ab bs2)=true)
  (hc1:Cz c e s.v s.tabs bs now)(hc2:Cz c e nx T2 bs2 now)(hc3:Cz c e {nx with next:=nx.next+1} T2 bs2 now):NR e c s m g x nx mk T2 bs2 now j N (DY s m x mk):=by
 have hjn:=hD.jn;have hj1:=hD.j1;have hln:Ck nx.next:=⟨AA,AA⟩;have hlj:AX j≠AX nx.next:=λe=>by
  have:=Ky (show Ck j from⟨AA,AA⟩) hln (by unfold AX at e;exact(List.cons.inj e).2);omega
 have hlive: ∀{G:DD},(∀k,¬Ih nx.next k→G k=AN m k)→Gc e G j s.v s.tabs bs:=λ{G}hk=>hD.fdl.frame λk hl=>hk k λhn=>by
  rcases hl with rfl|rfl|rfl|⟨y, -,rfl⟩<;>rcases hn with hn|hn
  ·exact(G7 nx.next).1 hn.symm
  ·exact Iz hn.symm
  ·exact hlj hn
  ·exact(G7 j).2 hn
  ·exact EG _ _ hn
  ·exact(EB _).2 hn
  ·exact Fv _ _ hn
  ·exact(E0 _).2 hn
 have hold: ∀{G:DD},(∀k,¬Ih nx.next k→G k=AN m k)→GP c e G (· =now):=λhk=>Fd.rec (.inr ⟨j,hlive hk⟩) hc1;have hrx: ∀hs:(Am x).length≤65536,Rp e s.v [x] nx:=λhs=>Rp.one hs hxB ha hfe;unfold DY;rw[ha];simp only;by_cases hlong:65536<(Am x).length
 ·rw[if_pos hlong];have hedS:JO s g x nx mk={s with list:=some ⟨(Ay {nx with next:=nx.next+1}).length,AX nx.next,false,false⟩,v:={nx with next:=nx.next+1},tabs:=FZ s.tabs mk x.del}:=if_pos hlong;obtain⟨n1,n2,n3, -, -⟩:=hnx.next_fine hn.2;have hw:=hnx.succ hn.2;have hok:Bc (Ay {nx with next:=nx.next+1})=true:=N7 n2;have hes:(Ay {nx with next:=nx.next+1}).length≤4196:=by rw[JP];exact N5 hnx.num
  have hrp:=UZ hw (n:=e) hfe;unfold FW;simp only;obtain⟨a1,a2,a3⟩:=Rv h hF.fb (HR hln) hok;have hB1:=hF.fb.rewrite (AX nx.next) (Ay {nx with next:=nx.next+1}) (by rw[Ds];omega);generalize Cd m (AX nx.next) (Ay {nx with next:=nx.next+1})=q1 at a1 a2 a3 hB1⊢;obtain⟨e1,m1⟩:=q1;simp only at a1 a2 a3 hB1⊢;have s1: ∀k,¬Ih nx.next k→AN m1 k=AN m k:=λk hk=>a1.same k λe=>hk (.inl e);rcases a2 with rfl|rfl|rfl
  rotate_left
  ·exact .space m1 (a1.up' AC) s1
  ·exact .down _ m1 (a1.down.2 rfl) (hold s1) rfl
  have u1:=a1.up' AC;simp only[ne_eq,not_true_eq_false,if_false];have hnm:=(Fr hln).2.2;obtain⟨b1,b2,b3⟩:=OJ u1 hB1 Of (AX nx.next);have hB2:=hB1.file Bb (AX nx.next) AA;generalize CE m1 Bb (AX nx.next)=q2 at b1 b2 b3 hB2⊢;obtain⟨e2,m2⟩:=q2;simp only at b1 b2 b3 hB2⊢;have s2: ∀k,¬Ih nx.next k→AN m2 k=AN m k:=λk hk=>(b1.same k λe=>hk (.inr e)).trans (s1 k hk);rcases b2 with rfl|rfl|rfl
  rotate_left
  ·exact .space m2 (b1.up' AC) s2
  ·exact .down _ m2 (b1.down.2 rfl) (hold s2) rfl
  have u2:=b1.up' AC;simp only[ne_eq,not_true_eq_false,if_false];obtain⟨l1,l2⟩:=G7 nx.next;have gl2:AN m2 (AX nx.next)=some (AQ (Ay {nx with next:=nx.next+1}),(AQ (Ay {nx with next:=nx.next+1})).length):=by rw[b1.same _ l2];exact a3 rfl
  obtain⟨c1,c2,c3,c4⟩:=Xo u2 hB2 Oe Iz (b3 rfl);generalize Cx m2 Bb Bg=q3 at c1 c2 c3 c4⊢;obtain⟨e3,m3⟩:=q3;simp only at c1 c2 c3 c4⊢;have s3: ∀k,k≠Bg→ ¬Ih nx.next k→AN m3 k=AN m k:=λk hk hk2=>(c1.same k λe=>e.elim (λe=>hk2 (.inr e)) hk).trans (s2 k hk2);have gl3:AN m3 (AX nx.next)=some (AQ (Ay {nx with next:=nx.next+1}),(AQ (Ay {nx with next:=nx.next+1})).length):=by rw[c1.same _ λe=>e.elim l2 l1];exact gl2
  have hnew:AN m3 Bg=some (AX nx.next,(AX nx.next).length)→Gc e (AN m3) nx.next {nx with next:=nx.next+1} T2 bs2:=λhcu=>by
   refine⟨hcu,AA,by show nx.next<nx.next+1;omega,⟨_,gl3,?_⟩,λy hy=>by rw[s3 _ (E0 _).1 λe=>e.elim (Fv _ _) (E0 _).2];exact hT2 y hy,?_⟩
   ·rw[N6];exact Ge.whole hrp
   ·have hw3:AN m3 (Aa nx.wal)=AN m (Aa nx.wal):=s3 _ (EB _).1 λe=>e.elim (EG _ _) (EB _).2;show(scan ((AN m3 (Aa nx.wal)).getD ([],0)).1).1=Ab bs2∧_;rw[hw3,hl2];exact⟨by rw[IY _ hok2],rfl⟩
  rcases c2 with rfl|rfl
  rotate_left
  ·refine .down _ m3 (c1.down.2 rfl) ?_ rfl;rcases c4 with c4|c4
   ·exact hold λk hk=>(c4 k).trans (s2 k hk)
   ·exact Fd.rec (.inr ⟨_,hnew c4⟩) hc3
  have u3:=c1.up' AC;have hcu:=c3 rfl;simp only[ne_eq,not_true_eq_false,if_false];rw[M4 u3 (HR hln)];simp only[ne_eq,not_true_eq_false,if_false];rw[Rg u3 hok gl3,←hedS];refine .ok m3 nx.next (JQ {nx with next:=nx.next+1}) ⟨(Ay {nx with next:=nx.next+1}).length,AX nx.next,false,false⟩ u3 ?_ ⟨rfl,rfl,HR hln,by simp only;omega⟩ λk hk1 hk2 hk3=>s3 k hk3 hk2;rw[hedS];exact⟨rfl,rfl,AA,by show nx.next<nx.next+1;omega,hcu,by rw[←N6];exact gl3,hrp⟩
 ·rw[if_neg hlong,hD.sl];simp only;have hedS:JO s g x nx mk={s with list:=some {g with n:=g.n+1},v:=nx,tabs:=FZ s.tabs mk x.del}:=if_neg hlong;have hok:Bc [Am x]=true:=by unfold Bc;simp;omega
  have hr:=hrx AA;obtain⟨a1,a2,a3,a4,a5⟩:=Tl h hgl hok AB;have hg0:(AN m g.name).getD ([],0)=(AQ (es.map Am),(AQ (es.map Am)).length):=by rw[hD.gn,hD.list];rfl
  rw[hg0]at a4 a5;have hgn:=hD.gn;generalize appL m g [Am x]=q at a1 a2 a3 a4 a5⊢;obtain⟨e1,g1,m1⟩:=q;simp only at a1 a2 a3 a4 a5⊢;rcases a2 with rfl|rfl|rfl
  ·rw[hgn]at a1;obtain⟨rfl,a6⟩:=a4 rfl;rw[hgn]at a6;simp only[ne_eq,not_true_eq_false,if_false,Ai,Bo,Cs];rw[←hedS];refine .ok m1 j (es++[x]) {g with n:=g.n+1} (a1.up' AC) ?_ ⟨hgl.torn,hgl.dead,hgl.name,by have:=hgl.num;simp only;omega⟩ λk hk1 _ _=>a1.same k hk1;rw[hedS];have e9:AQ ((es++[x]).map Am)=AQ (es.map Am)++AQ [Am x]:=by rw[A7,ND];rfl
   exact⟨rfl,hD.gn,hj1,by show j<nx.next;omega,by rw[a1.same _ (G7 j).1.symm];exact hD.cur,by rw[e9];exact a6,hD.rp.app hr⟩
  ·rw[hgn]at a1;obtain⟨hg1,a6⟩:=a3 rfl;rw[hgn]at a6;subst hg1;simp only[ne_eq,show¬(6:Int)=0 by decide,not_false_eq_true,if_true];rw[show({s with list:=some g1}:AM)=s by have:=hD.sl;cases s;simp only at this;rw[this]];refine .space m1 (a1.up' AC) λk _=>?_;by_cases hk:k=AX j
   ·rw[hk];exact a6
   ·exact a1.same k hk
  ·rw[hgn]at a1 a5;simp only[ne_eq,show¬(7:Int)=0 by decide,not_false_eq_true,if_true];refine .down _ m1 (a1.down.2 rfl) ?_ rfl;have key: ∀y,(AQ (es.map Am)).length≤y→AN m1 (AX j)=some (AQ (es.map Am)++AQ [Am x],y)→GP c e (AN m1) (· =now):=by
    intro y hy hG H hH;obtain⟨k,k1,k2,k3⟩:=hH.at hG;have k1:y≤k:=k1;have k2:k≤(AQ (es.map Am)++AQ [Am x]).length:=k2;have k3:H (AX j)=some ((AQ (es.map Am)++AQ [Am x]).take k,k):=k3;have hlen:k=((AQ (es.map Am)++AQ [Am x]).take k).length:=by rw[BR];omega
    have hsame: ∀k,k≠AX j→AN m1 k=AN m k:=λk hk=>a1.same k hk;have hcur:H Bg=some (AX j,(AX j).length):=hH.full (by rw[hsame _ (G7 j).1.symm];exact hD.cur);have hls: ∀v,Ge e ((AQ (es.map Am)++AQ [Am x]).take k) v→ ∃lt,H (AX j)=some (lt,lt.length)∧Ge e lt v:=λv hv=>⟨_,by rw[←hlen];exact k3,hv⟩;rcases tJ hD.rp hr (k:=k) AA with h1|h1
    ·refine⟨s.v,s.tabs,bs,now,rfl,.inr ⟨j,hcur,hj1,hjn,hls _ h1,λy hy=>hH.full (by rw[hsame _ (Fv _ _)];exact hD.tab y hy),?_⟩,hc1⟩;have hw1:(AN m1 (Aa s.v.wal)).getD ([],0)=(AQ (Ab bs),(AQ (Ab bs)).length):=by rw[hsame _ (EG _ _)];exact hD.log
     rw[hH.fullD (by rw[hw1]),hw1];exact⟨by rw[IY _ hD.ok],rfl⟩
    ·refine⟨nx,T2,bs2,now,rfl,.inr ⟨j,hcur,hj1,AA,hls _ h1,λy hy=>hH.full (by rw[hsame _ (Fv _ _)];exact hT2 y hy),?_⟩,hc2⟩;have hw1:(AN m1 (Aa nx.wal)).getD ([],0)=(AQ (Ab bs2),(AQ (Ab bs2)).length):=by rw[hsame _ (EG _ _)];exact hl2
     rw[hH.fullD (by rw[hw1]),hw1];exact⟨by rw[IY _ hok2],rfl⟩
   rcases a5 with a5|a5|a5
   ·refine hold λk _=>?_;by_cases hk:k=AX j
    ·rw[hk];exact a5
    ·exact a1.same k hk
   ·exact key _ (AV _) a5
   ·exact key _ (by rw[AP];omega) a5
theorem PK:Up EX:=⟨rfl,rfl⟩
theorem ON: ∀(n:Int)k,n≤k→k≤4611686018427387904→AN EX (Aa k)=none:=λ_ _ _ _=>rfl
theorem BH.goodN{e:Nat}{s:AM}{m:AJ}{now:List AO}{lk:Int→Option (List AO)}(h:BH e s m now lk)(he:e≤1048576)(hX:s.v.next≤1152921504606846976)(hQ:s.seq≤1152921504606846976):DE s.v:=⟨h.good,by have:=h.cnt;omega,by have:=h.wal;omega,AA,by have:=h.vseq;omega⟩
theorem BH.flushG{e:Nat}{s:AM}{now:List AO}{lk:Int→Option (List AO)}(h:BH e s EX now lk){mk:List (Int×List AF)}{v':VM}{g' g2:BF}(hp:mk.Perm (Ar s.v.next (AR 64 s.mem)))(hf:v'.files.Perm (s.v.files++Bx 0 (Ar s.v.next (AR 64 s.mem))))(hw:v'.wal=s.v.next+(AR 64 s.mem).length)
  (hn:s.v.next+(AR 64 s.mem).length+1≤v'.next)(hs:v'.seq=s.seq)(hg:Good v')(hgn: ∃j,g'.name=AX j)(hg2:g2.name=Aa v'.wal):
  BH e {s with list:=some g',v:=v',tabs:=s.tabs++mk,mem:=[],adds:=0,log:=some g2} EX now lk:=by
 have hE:(BZ {s with list:=some g',v:=v',tabs:=s.tabs++mk,mem:=[],adds:=0,log:=some g2}).Perm (BZ s):=by
  show(([]:List AF)++((s.tabs++mk).map (λx:Int×List AF=>x.2)).flatten).Perm (s.mem++(s.tabs.map (λx:Int×List AF=>x.2)).flatten);rw[CU,A7,GW];refine Gp.trans (List.Perm.append_right _ ?_);have h1:=(List.Perm.map (λx:Int×List AF=>x.2) hp).flatten;rw[I0,KD AA]at h1;exact h1
 have hk:=h.next;refine⟨h.dead,PK,⟨List.Pairwise.nil,λx hx=>(by cases hx),λx hx=>(by cases hx),λx hx=>(by cases hx),Ag _⟩,λx hx=>?_,C1.perm h.one hE.symm,by rw[hE.length_eq];exact h.num,h.nlen,Ag _,hg,?_,by show 1≤v'.next;omega,by show v'.wal<v'.next;omega,λg3 hg3=>by cases hg3;exact hgn,λg3 hg3=>by cases hg3;exact hg2,ON _,by show v'.seq≤s.seq;omega,h.seq,λx hx=>h.top x (hE.mem_iff.1 hx),h.given,h.sqn,h.sqnd,h.hts,h.view.mem λx=>(hE.mem_iff).symm,h.lookq rfl (m':=EX) λq rs _ _ hv=>hv.mem λx=>(hE.mem_iff).symm⟩
 ·rcases Bl.1 hx with hx|hx
  ·exact h.tab x hx
  ·have h2:x.2∈AR 64 s.mem:=by
    have:=CD (f:=(·.2)) (hp.mem_iff.1 hx);rwa[I0]at this
   exact⟨h.mem.tab x.2 h2,(KE AA h2).1⟩
 ·show(v'.files.map (·.2)).Perm ((s.tabs++mk).map (·.1));rw[A7];refine(hf.map _).trans ?_;rw[A7];refine List.Perm.append h.files ?_;rw[JR];exact(hp.map _).symm
theorem BH.compactG{e:Nat}{s:AM}{now:List AO}{lk:Int→Option (List AO)}(h:BH e s EX now lk)(hm:s.mem=[]){r:List AF}{seen:List Int}(h1:r.Perm (D1 s))(h2:Az r)(h3:seen.Perm (Hy s)){mk:List (Int×List AF)}{v':VM}{g':BF}(hp:mk.Perm (Ar s.v.next (AR 64 (BD seen r))))(hmem:Gf (BD seen r))
  (hf:v'.files.Perm (Bx 1 (Ar s.v.next (AR 64 (BD seen r)))))(hw:v'.wal=s.v.wal)(hn:s.v.next+(AR 64 (BD seen r)).length≤v'.next)(hs:v'.seq=s.v.seq)(hg:Good v')(hgn: ∃j,g'.name=AX j):
  BH e {s with list:=some g',v:=v',tabs:=mk} EX now lk:=by
 have hA:(BZ s)=D1 s:=by rw[GT,hm,CU]
 have hE:(BZ {s with list:=some g',v:=v',tabs:=mk}).Perm (BD seen r):=by
  show(s.mem++(mk.map (·.2)).flatten).Perm _;rw[hm,CU];have h4:=(List.Perm.map (λx:Int×List AF=>x.2) hp).flatten;rw[I0,KD AA]at h4;exact h4
 have hk:=h.next;have hwl:=h.wal;have htop: ∀x∈r,x.s≤s.seq:=λx hx=>h.top x (by rw[hA];exact h1.mem_iff.1 hx);have hview: ∀q rs,(q∈seen∨ ∀x∈r,x.s≤q)→Bf (BZ s) q rs→Bf (BZ {s with list:=some g',v:=v',tabs:=mk}) q rs:=λq rs hq hv=>by
  have hv1:Bf r q rs:=hv.mem λx=>by rw[hA];exact h1.mem_iff.symm
  have hv2:Bf (BD seen r) q rs:=hv1.same λk v=>Yg h2 seen hq k v;exact hv2.mem λx=>hE.mem_iff.symm
 refine⟨h.dead,PK,by show Gf s.mem;exact h.mem,λx hx=>?_,C1.perm (Az.one (SR h2 seen)) hE.symm,?_,h.nlen,h.adds,hg,?_,by show 1≤v'.next;omega,by show v'.wal<v'.next;omega,λg3 hg3=>by cases hg3;exact hgn,λg3 hg3=>by show g3.name=Aa v'.wal;rw[h.wname g3 hg3,hw],ON _,by show v'.seq≤s.seq;rw[hs];exact h.vseq,h.seq,λx hx=>htop x (SS seen x (hE.mem_iff.1 hx)),h.given,h.sqn,h.sqnd,h.hts,hview _ _ (.inr htop) h.view,h.lookq rfl (m':=EX) λq rs hq _ hv=>hview q rs (.inl (h3.mem_iff.2 hq)) hv⟩
 ·have h4:x.2∈AR 64 (BD seen r):=by
   have:=CD (f:=(·.2)) (hp.mem_iff.1 hx);rwa[I0]at this
  exact⟨hmem.tab x.2 h4,(KE AA h4).1⟩
 ·rw[hE.length_eq];have h4:=(Ld seen r).length_le;have h5:=h1.length_eq;have h6:=h.num;rw[hA]at h6;omega
 ·show(v'.files.map (·.2)).Perm (mk.map (·.1));refine(hf.map _).trans ?_;rw[JR];exact(hp.map _).symm
theorem UD{c e:Nat}{s:AM}{now:List AO}{lk:Int→Option (List AO)}{bs:List (Int×List Ac)}(hC:BH e s EX now lk)(h1:(Bw s.v s.tabs bs).mem=s.mem)(h2:(Bw s.v s.tabs bs).seq=s.seq)(h3:(Bw s.v s.tabs bs).adds≤e)(hX:s.v.next≤c*2097152)(hQ:s.seq≤c)(hb:bs.length≤c)
  (hq: ∀b∈bs,0≤b.1∧b.1≤4611686018427387904)(hz: ∀b∈bs,Ap b.2≤4096):Cz c e s.v s.tabs bs now:=by
 have hE:(Bw s.v s.tabs bs).mem++(s.tabs.map (·.2)).flatten=BZ s:=by rw[h1];rfl
 exact⟨by rw[h1];exact hC.mem,hC.tab,by rw[hE];exact hC.one,by rw[hE];exact hC.num,hC.nlen,h3,hC.good,hC.files,hC.next,hC.wal,hX,by rw[hE,h2];exact hC.top,by rw[h2];exact hQ,by rw[hE,h2];exact hC.view,hq,hz,hb⟩
def Gw(e:Nat)(s:AM)(m:AJ)(B:Nat):Prop:=∃j es g bs,Dk e s (AN m) j es g bs∧bs.length≤B
inductive MB(A U X N Q c e B:Nat)(s:AM)(now:List AO)(lk:Int→Option (List AO)):Int×AM×AJ→Prop where
 |ok (s':AM) (m':AJ) (h1:m'.off=false) (h2:BH e s' EX now lk) (h3:Gw e s' m' B) (h4:DN A U X N Q s' m') (h5:s'.mem=[]) (h6:s'.given=s.given):MB A U X N Q c e B s now lk (0,s',m')
 |space (m':AJ) (h1:m'.off=false) (h3:Gw e s m' B) (h4:DN A U X N Q s m'):MB A U X N Q c e B s now lk (6,s,m')
 |down (s':AM) (m':AJ) (h1:m'.off=true) (h2:GP c e (AN m') (· =now)) (h3:FT A U m') (h4:s'.v.files.length≤e):MB A U X N Q c e B s now lk (7,s',m')
theorem rF{A U X N Q c e B:Nat}{s:AM}{m:AJ}{now:List AO}{lk:Int→Option (List AO)}(hC:BH e s EX now lk)(h:m.off=false)(hDs:Gw e s m B)(hb:DN A U X N Q s m)(he:e≤1048576)(hT:536870912≤U∧U+1048576≤1099511627776)(hX:X≤576460752303423488)(hQ:Q≤576460752303423488)(hN:4200≤N)
  (hcX:X+e+2≤c*2097152)(hcQ:Q≤c)(hB:B≤c){mk:List (Int×List AF)}(hp:mk.Perm (Ar s.v.next (AR 64 s.mem))):MB (A+3*e+8) (U+65544) (X+e+2) (N+1) Q c e B s now lk (By s m mk):=by
 by_cases hne:s.mem=[]
 ·have e0:By s m mk=(0,s,m):=by unfold By;simp[hne]
  rw[e0];exact .ok s m h hC hDs (hb.mono AA AA AA AA (AV _)) hne rfl
 obtain⟨j,es,g,bs,hD,hbl⟩:=hDs;have hcn:=hC.cnt;have hn:=hb.next;have hq:=hb.seq;have hnx1:=hC.next;have hv:=hC.goodN he AA AA;have hcs:=I5 64 s.mem AA;obtain⟨g0,hg0,hgl⟩:=hb.list;rw[hD.sl]at hg0;cases hg0;obtain⟨k1,k2⟩:=Od hC hp;obtain⟨l1,l2,l3⟩:=RF ⟨AA,AA⟩ (AR 64 s.mem) s.v.next h hb.ft hC.mem.tab AA AA;have hF1:=FT.lay ⟨AA,AA⟩ (AR 64 s.mem) s.v.next hb.ft hC.mem.tab;have hfo:=Ko 0 (AR 64 s.mem) s.v.next
 have hfl:(Bx 0 (Ar s.v.next (AR 64 s.mem))).length=(AR 64 s.mem).length:=by rw[Ju,Jb]
 obtain⟨X0,hX0⟩: ∃X0:EM,X0=⟨Bx 0 (Ar s.v.next (AR 64 s.mem)),[],s.v.next+(AR 64 s.mem).length,s.v.next+(AR 64 s.mem).length+1,s.seq⟩:=⟨_,rfl⟩;obtain⟨nx,ha,hw,hx,hs,hpf⟩:=Nr (v:=s.v) (e:=X0) hv.good
  (λf hf=>by rw[hX0]at hf;obtain⟨f1,f2,f3⟩:=hfo f hf;exact⟨Hw.2 ⟨AA,AA,AA⟩,f2,by rw[hX0];show f.2<s.v.next+(AR 64 s.mem).length+1;omega⟩)
  (by rw[hX0];show((Bx 0 (Ar s.v.next (AR 64 s.mem))).map (·.2)).Nodup;rw[JR];exact LB _ _) (.inl (by rw[hX0])) (by rw[hX0];show s.v.next≤s.v.next+(AR 64 s.mem).length+1;omega) (by rw[hX0];exact hC.vseq) (by rw[hX0];show 0≤s.v.next+(AR 64 s.mem).length;omega)
 have hdel:X0.del=[]:=by rw[hX0]
 have hadd:X0.add=Bx 0 (Ar s.v.next (AR 64 s.mem)):=by rw[hX0]
 rw[if_pos hdel,hadd]at hpf;have hw:nx.wal=s.v.next+(AR 64 s.mem).length:=by rw[hw,hX0]
 have hx:nx.next=s.v.next+(AR 64 s.mem).length+1:=by rw[hx,hX0]
 have hs:nx.seq=s.seq:=by rw[hs,hX0]
 obtain⟨hnx,hnn⟩:=Ki hv (by rw[hadd,hfl];omega) (by rw[hX0];show s.v.next+(AR 64 s.mem).length≤_;omega) (by rw[hX0];show s.v.next+(AR 64 s.mem).length+1≤_;omega) (by rw[hX0];show s.seq≤_;omega) nx ha;have hxB:Fm (Am X0)=some X0:=by
  have hr:=Xv ha;have hok:ER X0:=by
   rw[hX0];refine⟨λf hf=>?_,λn hn=>(by cases hn),Dm ⟨by show 0≤s.v.next+(AR 64 s.mem).length;omega,by show s.v.next+(AR 64 s.mem).length≤_;omega⟩,Dm ⟨by show 0≤s.v.next+(AR 64 s.mem).length+1;omega,by show s.v.next+(AR 64 s.mem).length+1≤_;omega⟩,Dm ⟨hC.seq,by show s.seq≤_;omega⟩⟩;obtain⟨f1,f2,f3⟩:=hfo f hf;exact⟨Dm AA,Dm AA⟩
  have hl:=N4 hok (by rw[hadd,hfl];omega) hdel;rw[hadd,hfl]at hl;exact(MX AA).2 ⟨rfl,hok,hr⟩
 have hfe:nx.files.length≤e:=by
  have h1:=hpf.length_eq;have h2:=hC.files.length_eq;have h3:=hC.num;have h4:=OM (s.tabs.map (·.2)) λl hl=>by
   obtain⟨x,hx,rfl⟩:=BV.1 hl;exact(hC.tab x hx).2
  rw[GT,AP]at h3;rw[AP,hfl]at h1;simp only[BM]at h2 h4;have h5:(D1 s).length=((s.tabs.map (·.2)).flatten).length:=rfl;omega
 have htab:FZ s.tabs mk X0.del=s.tabs++mk:=by rw[hdel];exact YY k1 k2
 have hv3: ∀v':VM,(v'=nx∨v'={nx with next:=nx.next+1})→v'.files=nx.files∧v'.wal=nx.wal∧v'.seq=nx.seq∧nx.next≤v'.next∧v'.next≤nx.next+1∧DE v':=λv' hv'=>by
  rcases hv' with rfl|rfl
  ·exact⟨rfl,rfl,rfl,Ea _,AA,hnx⟩
  ·exact⟨rfl,rfl,rfl,by simp only;omega,Ea _,hnx.succ hnn⟩
 have hcore: ∀(v':VM)(g' g2:BF),(v'=nx∨v'={nx with next:=nx.next+1})→(∃j,g'.name=AX j)→g2.name=Aa nx.wal→BH e {s with list:=some g',v:=v',tabs:=s.tabs++mk,mem:=[],adds:=0,log:=some g2} EX now lk:=λv' g' g2 hv' hgn hg2=>by
  obtain⟨a1,a2,a3,a4, -,a6⟩:=hv3 v' hv';exact hC.flushG hp (by rw[a1];exact hpf) (by rw[a2];exact hw) AA (by rw[a3];exact hs) a6.good hgn (by rw[a2];exact hg2)
 have hcont: ∀v':VM,(v'=nx∨v'={nx with next:=nx.next+1})→Cz c e v' (s.tabs++mk) [] now:=λv' hv'=>by
  obtain⟨a1,a2,a3,a4,a5,a6⟩:=hv3 v' hv';exact UD (hcore v' ⟨0,AX 0,false,false⟩ ⟨0,Aa nx.wal,false,false⟩ hv' ⟨0,rfl⟩ rfl) rfl (by show v'.seq=s.seq;rw[a3];exact hs) (Ag _) (by show v'.next≤_;omega) (by show s.seq≤_;omega) (Ag _) (λb hb=>by cases hb) (λb hb=>by cases hb)
 have hc1:Cz c e s.v s.tabs bs now:=hD.cont hC AA AA AA;have hF0:By s m mk=By s m mk:=rfl
 conv at hF0=>rhs;unfold By
 simp only at hF0;rw[if_neg hne,←hX0]at hF0;generalize hqq:Bi m s.v.next (AR 64 s.mem)=q at l1 l2 l3 hF1 hF0;obtain⟨e1,m1⟩:=q;simp only at l1 l2 l3 hF1 hF0;have hlayL: ∀k,(NW j s.v.wal s.tabs k∨ ∃i,k=Aa i)→AN m1 k=AN m k:=λk hk=>l1.same k λ⟨i,i1,i2,hi⟩=>by
  subst hi;rcases hk with(hk|hk|hk|⟨y,hy,hk⟩)|⟨z,hk⟩
  ·exact(E0 i).1 hk
  ·exact Fv _ _ hk
  ·exact FH _ _ hk.symm
  ·have h5:=hC.keys.2 y.1 (CD hy);have:=LW ⟨AA,AA⟩ ⟨AA,AA⟩ hk;omega
  ·exact FH _ _ hk.symm
 have hD1:Dk e s (AN m1) j es g bs:=hD.frame hlayL;have hb1:DN (A+3*e+8) (U+65544) (X+e+2) (N+1) Q s m1:={hb.mono (A':=A+3*e+8) (T':=U+65544) (X':=X+e+2) (N':=N+1) (Q':=Q) AA AA AA AA (AV _)with ft:=hF1.mono AA AA};rcases l2 with rfl|rfl|rfl
 rotate_left
 ·rw[if_pos AC]at hF0;rw[hF0];exact .space m1 (l1.up' AC) ⟨j,es,g,bs,hD1,hbl⟩ hb1
 ·rw[if_pos AC]at hF0;rw[hF0];exact .down _ m1 (l1.down.2 rfl) (Fd.rec (.inr ⟨j,hD1.fdl⟩) hc1) hb1.ft hcn.2.2.2
 rw[if_neg AC]at hF0;have u1:=l1.up' AC;have hlaid:=l3 rfl;have hi:Ck (s.v.next+(AR 64 s.mem).length):=⟨AA,AA⟩;have hw0:AN m1 (Aa nx.wal)=none:=by rw[hw];exact hD1.free _ AA AA
 have hF2:=hF1.edit s X0 mk (by
  intro nx' hnx';rw[ha]at hnx';cases hnx';obtain⟨h3,h4,h5,h6⟩:=hnx.next_fine hnn;have:=(Fr (n:=nx.next) ⟨AA,AA⟩).2.2;exact⟨by rw[Ds];omega,AA⟩) AA
 have hT2: ∀y∈s.tabs++mk,AN m1 (Aw y.1)=some (B5 y.2,(B5 y.2).length):=λy hy=>by
  rcases Bl.1 hy with hy|hy
  ·exact hD1.tab y hy
  ·exact hlaid y (hp.mem_iff.1 hy)
 have hed:=UW (c:=c) (T2:=s.tabs++mk) (bs2:=[]) mk u1 hF1 hgl hN hD1 ha hnx ⟨AA,hnn⟩ hxB AA hfe hT2 (by rw[hw0];rfl) rfl hc1 (hcont nx (.inl rfl)) (hcont _ (.inr rfl));generalize DY s m1 X0 mk=q2 at hed hF0 hF2;cases hed with
 |space m2 a1 a2=>
  simp only at hF0 hF2;rw[if_pos AC]at hF0;rw[hF0];have hD2:Dk e s (AN m2) j es g bs:=hD1.frame λk hk=>a2 k λhn=>by
   have hlj:AX j≠AX nx.next:=λe=>by
    have h5:=hD.jn;have h6:=hD.j1;have:=Ky (show Ck j from⟨AA,AA⟩) (show Ck nx.next from⟨AA,AA⟩) (by unfold AX at e;exact(List.cons.inj e).2);omega
   rcases hk with(rfl|rfl|rfl|⟨y, -,rfl⟩)|⟨z,rfl⟩<;>rcases hn with hn|hn
   ·exact(G7 nx.next).1 hn.symm
   ·exact Iz hn.symm
   ·exact hlj hn
   ·exact(G7 j).2 hn
   ·exact EG _ _ hn
   ·exact(EB _).2 hn
   ·exact Fv _ _ hn
   ·exact(E0 _).2 hn
   ·exact EG _ _ hn
   ·exact(EB _).2 hn
  exact .space m2 a1 ⟨j,es,g,bs,hD2,hbl⟩ {hb1 with ft:=hF2.mono AA (AV _)}
 |down s2 m2 a1 a2 a5=>
  simp only at hF0 hF2;rw[if_pos AC]at hF0;rw[hF0];exact .down _ m2 a1 a2 (hF2.mono AA (AV _)) (by rw[a5];exact hcn.2.2.2)
 |ok m2 j' es' g' a1 a2 a3 a4=>
  simp only at hF0 hF2;rw[if_neg AC,M4 a1 (Hs hi),if_neg AC]at hF0;have hfr: ∀k,k≠AX j→ ¬Ih nx.next k→k≠Bg→AN m2 k=AN m1 k:=a4;have hwk: ∀i,AN m2 (Aa i)=AN m1 (Aa i):=λi=>hfr _ (EG _ _) (λhn=>hn.elim (EG _ _) (EB _).2) (EB _).1;have htk: ∀i,AN m2 (Aw i)=AN m1 (Aw i):=λi=>hfr _ (Fv _ _) (λhn=>hn.elim (Fv _ _) (E0 _).2) (E0 _).1;rw[vE a1 (by rw[hwk,←hw];exact hw0)]at hF0;obtain⟨d1,d2, -,d4, -⟩:=N0 a1 hF2.fb.nd (Aa s.v.wal)
  have hF3:=hF2.del (Aa s.v.wal);generalize BA m2 (Aa s.v.wal)=q3 at d1 d2 d4 hF0 hF3;obtain⟨e3,m3⟩:=q3;simp only at d1 d2 d4 hF0 hF3;have hwn:=hC.wal;have hw00:=hC.good.nn.1;have hed2: ∃v',(v'=nx∨v'={nx with next:=nx.next+1})∧ ∃g'',JO s g X0 nx mk={s with list:=some g'',v:=v',tabs:=s.tabs++mk}:=by
   unfold JO
   split
   ·exact⟨_,.inr rfl,_,by rw[htab]⟩
   ·exact⟨_,.inl rfl,_,by rw[htab]⟩
  obtain⟨v',hv',g'',hes⟩:=hed2;rw[hes]at hF0 a2;have hgg:g'=g'':=by have:=a2.sl;simp only[Option.some.injEq]at this;exact this.symm
  subst hgg;obtain⟨b1,b2,b3,b4,b5,b6⟩:=hv3 v' hv';have hcr:=hcore v' g' ⟨0,Aa (s.v.next+(AR 64 s.mem).length),false,false⟩ hv' ⟨j',a2.gn⟩ (by rw[hw]);have hnw: ∀k,k≠Aa s.v.wal→AN m3 k=AN m2 k:=λk hk=>d1.same k hk;have hDk:Dk e {s with list:=some g',v:=v',tabs:=s.tabs++mk,mem:=[],adds:=0,log:=some ⟨0,Aa (s.v.next+(AR 64 s.mem).length),false,false⟩} (AN m3) j' es' g' []:=by
   have hjn:j'<v'.next:=a2.jn;refine⟨rfl,a2.gn,a2.j1,a2.jn,by rw[hnw _ (EB _).1.symm];exact a2.cur,by rw[hnw _ (EG _ _).symm];exact a2.list,a2.rp,λy hy=>by rw[hnw _ (FH _ _).symm,htk];exact hT2 y hy,?_,rfl,λk h1 h2=>?_,rfl,?_,rfl,λb hb=>(by cases hb),λb hb=>(by cases hb)⟩
   ·show(AN m3 (Aa v'.wal)).getD ([],0)=_;rw[b2,hnw _ λe=>by have:=KR ⟨AA,AA⟩ ⟨AA,AA⟩ e;omega,hwk,hw0]
    rfl
   ·have h1:v'.next≤k:=h1;rw[hnw _ λe=>by have:=KR ⟨AA,AA⟩ ⟨AA,AA⟩ e;omega,hwk];exact hD1.free k AA h2
   ·show v'.seq=s.seq;rw[b3];exact hs
  have hbud:DN (A+3*e+8) (U+65544) (X+e+2) (N+1) Q {s with list:=some g',v:=v',tabs:=s.tabs++mk,mem:=[],adds:=0,log:=some ⟨0,Aa (s.v.next+(AR 64 s.mem).length),false,false⟩} m3:=
   ⟨hF3.mono AA (AV _),by show v'.next≤_;omega,hb.seq,hb.given,hb.sn,⟨g',rfl,a3⟩,⟨_,rfl,rfl,rfl,Hs hi,Ag _⟩⟩
  rcases d2 with rfl|rfl|rfl
  ·rw[if_neg AC]at hF0;rw[hF0];exact .ok _ m3 (d1.up' AC) hcr ⟨j',es',g',[],hDk,Ag _⟩ hbud rfl rfl
  ·rw[if_neg AC]at hF0;rw[hF0];exact .ok _ m3 (d1.up' AC) hcr ⟨j',es',g',[],hDk,Ag _⟩ hbud rfl rfl
  ·rw[if_pos AC]at hF0;rw[hF0];refine .down _ m3 (d1.down.2 rfl) ?_ hbud.ft (by show v'.files.length≤e;rw[b1];exact hfe);exact Fd.rec (.inr ⟨j',hDk.fdl⟩) (hcont v' hv')
theorem LZ: ∀(bs:List (Int×List Ac)){s t:AM},s.mem=t.mem→s.seq=t.seq→s.adds=t.adds→(CK s bs).mem=(CK t bs).mem∧(CK s bs).seq=(CK t bs).seq∧(CK s bs).adds=(CK t bs).adds
 |[],s,t,h1,h2,h3=>⟨h1,h2,h3⟩
 |b::bs,s,t,h1,h2,h3=>by
  have:=LZ bs (s:=Ia s b) (t:=Ia t b) (by show Cy _ _ s.mem=Cy _ _ t.mem;rw[h1]) (by show(if s.seq<b.1 then b.1 else s.seq)=(if t.seq<b.1 then b.1 else t.seq);rw[h2]) (by show s.adds+_=t.adds+_;rw[h3]);exact this
theorem dD{e:EM}(ho:ER e)(hl:e.add.length<1099511627776)(hd:e.del.length<1099511627776):(Am e).length≤50+20*e.add.length+10*e.del.length:=by
 have hnum: ∀n:Nat,n<18446744073709551616→(Ak n).length≤10:=λn h=>EP n h;have hint: ∀z,CA z→(Bh z).length≤10:=λz h=>hnum _ (Lk h);have hfl: ∀l:List Af,(∀f∈l,CA f.1∧CA f.2)→(DZ l).length≤20*l.length:=by
  intro l
  induction l with
  |nil=>intro _;exact Ag _
  |cons f l ih=>
   intro h;have h1:=hint _ (h f AB).1;have h2:=hint _ (h f AB).2;have h3:=ih λg hg=>h g (by simp[hg]);have e1:DZ (f::l)=Hl f++DZ l:=by simp[DZ]
   rw[e1,AP,Ai];unfold Hl;rw[AP];omega
 have hdl: ∀l:List Int,(∀z∈l,CA z)→(Ci l).length≤10*l.length:=by
  intro l
  induction l with
  |nil=>intro _;exact Ag _
  |cons z l ih=>
   intro h;have h1:=hint _ (h z AB);have h3:=ih λg hg=>h g (by simp[hg]);have e1:Ci (z::l)=Bh z++Ci l:=by simp[Ci]
   rw[e1,AP,Ai];omega
 have h1:=hfl e.add ho.add;have h2:=hdl e.del ho.del;have h3:=hnum e.add.length AA;have h4:=hnum e.del.length AA;have h5:=hint _ ho.wal;have h6:=hint _ ho.next;have h7:=hint _ ho.seq;unfold Am;simp only[AP];omega
theorem cI{A U X N Q c e B:Nat}{s:AM}{m:AJ}{now:List AO}{lk:Int→Option (List AO)}(hC:BH e s EX now lk)(hmm:s.mem=[])(h:m.off=false)(hDs:Gw e s m B)(hb:DN A U X N Q s m)(he:e≤1048576)(hT:536870912≤U∧U+1048576≤1099511627776)(hX:X≤576460752303423488)(hQ:Q≤1099511627776)(hN:4200≤N)
  (hcX:X+e+2≤c*2097152)(hcQ:Q≤c)(hB:B≤c){r:List AF}{seen:List Int}(h1:r.Perm (D1 s))(h2:Az r)(h3:seen.Perm (Hy s)){mk:List (Int×List AF)}(hp:mk.Perm (Ar s.v.next (AR 64 (BD seen r)))):
  MB (A+4*e+8) (U+65544) (X+e+2) (N+1) Q c e B s now lk (DG s m (BD seen r) mk):=by
 by_cases hne:s.v.files=[]
 ·have e0:DG s m (BD seen r) mk=(0,s,m):=by unfold DG;simp[hne]
  rw[e0];exact .ok s m h hC hDs (hb.mono AA AA AA AA (AV _)) hmm rfl
 obtain⟨j,es,g,bs,hD,hbl⟩:=hDs;have hcn:=hC.cnt;have hn:=hb.next;have hq:=hb.seq;have hnx1:=hC.next;have hwl:=hC.wal;have hvs:=hC.vseq;have hw00:=hC.good.nn;have hv:=hC.goodN he AA AA;have hmf:=(hC.co he (by have:=hb.sn;omega)).mem h1 h2 seen;have hl1:=(Ld seen r).length_le;have hl2:=h1.length_eq;have hcs:=I5 64 (BD seen r) AA;obtain⟨g0,hg0,hgl⟩:=hb.list;rw[hD.sl]at hg0;cases hg0;obtain⟨k1,k2⟩:=Od hC hp
 obtain⟨l1,l2,l3⟩:=RF ⟨AA,AA⟩ (AR 64 (BD seen r)) s.v.next h hb.ft hmf.tab AA AA;have hF1:=FT.lay ⟨AA,AA⟩ (AR 64 (BD seen r)) s.v.next hb.ft hmf.tab;have hfo:=Ko 1 (AR 64 (BD seen r)) s.v.next;have hfl:(Bx 1 (Ar s.v.next (AR 64 (BD seen r)))).length=(AR 64 (BD seen r)).length:=by rw[Ju,Jb]
 have hgn:s.v.files.map (·.2)≠[]:=by simpa using hne
 obtain⟨X0,hX0⟩: ∃X0:EM,X0=⟨Bx 1 (Ar s.v.next (AR 64 (BD seen r))),s.v.files.map (·.2),s.v.wal,s.v.next+(AR 64 (BD seen r)).length,s.v.seq⟩:=⟨_,rfl⟩;have hdel:X0.del=s.v.files.map (·.2):=by rw[hX0]
 have hadd:X0.add=Bx 1 (Ar s.v.next (AR 64 (BD seen r))):=by rw[hX0]
 obtain⟨nx,ha,hw,hx,hs,hpf⟩:=Nr (v:=s.v) (e:=X0) hv.good
  (λf hf=>by rw[hadd]at hf;obtain⟨f1,f2,f3⟩:=hfo f hf;exact⟨Hw.2 ⟨AA,AA,AA⟩,f2,by rw[hX0];exact f3⟩)
  (by rw[hadd];show((Bx 1 (Ar s.v.next (AR 64 (BD seen r)))).map (·.2)).Nodup;rw[JR];exact LB _ _) (.inr hdel) (by rw[hX0];show s.v.next≤s.v.next+(AR 64 (BD seen r)).length;omega) (by rw[hX0];exact Ea _) (by rw[hX0];exact hw00.1)
 rw[if_neg (by rw[hdel];exact hgn),CU,hadd]at hpf;have hw:nx.wal=s.v.wal:=by rw[hw,hX0]
 have hx:nx.next=s.v.next+(AR 64 (BD seen r)).length:=by rw[hx,hX0]
 have hs:nx.seq=s.v.seq:=by rw[hs,hX0]
 obtain⟨hnx,hnn⟩:=Ki hv (by rw[hadd,hfl];omega) (by rw[hX0];show s.v.wal≤_;omega) (by rw[hX0];show s.v.next+(AR 64 (BD seen r)).length≤_;omega) (by rw[hX0];show s.v.seq≤_;omega) nx ha;have hxB:Fm (Am X0)=some X0:=by
  have hr:=Xv ha;have hok:ER X0:=by
   rw[hX0];refine⟨λf hf=>?_,λn hn'=>?_,Dm ⟨hw00.1,by show s.v.wal≤_;omega⟩,Dm ⟨by show 0≤s.v.next+(AR 64 (BD seen r)).length;omega,by show s.v.next+(AR 64 (BD seen r)).length≤_;omega⟩,Dm ⟨hw00.2.2,by show s.v.seq≤_;omega⟩⟩
   ·obtain⟨f1,f2,f3⟩:=hfo f hf;exact⟨Dm AA,Dm AA⟩
   ·obtain⟨f,hf,rfl⟩:=BV.1 hn';obtain⟨h5,h6⟩:=hC.good.files.1 f hf;have:=Hw.1 h5;exact Dm AA
  have hl:=dD hok (by rw[hadd,hfl];omega) (by rw[hdel,BM];omega);rw[hadd,hfl,hdel,BM]at hl;exact(MX AA).2 ⟨rfl,hok,hr⟩
 have hfe:nx.files.length≤e:=by
  have h5:=hpf.length_eq;rw[hfl]at h5;have h6:=hC.num;rw[GT,AP]at h6;omega
 have htab:FZ s.tabs mk X0.del=mk:=by rw[hdel];exact YW hC.keys.1 k1 k2 hC.files
 have hv3: ∀v':VM,(v'=nx∨v'={nx with next:=nx.next+1})→v'.files=nx.files∧v'.wal=nx.wal∧v'.seq=nx.seq∧nx.next≤v'.next∧v'.next≤nx.next+1∧DE v':=λv' hv'=>by
  rcases hv' with rfl|rfl
  ·exact⟨rfl,rfl,rfl,Ea _,AA,hnx⟩
  ·exact⟨rfl,rfl,rfl,by simp only;omega,Ea _,hnx.succ hnn⟩
 have hcore: ∀(v':VM)(g':BF),(v'=nx∨v'={nx with next:=nx.next+1})→(∃j,g'.name=AX j)→BH e {s with list:=some g',v:=v',tabs:=mk} EX now lk:=λv' g' hv' hgn'=>by
  obtain⟨a1,a2,a3,a4, -,a6⟩:=hv3 v' hv';exact hC.compactG hmm h1 h2 h3 hp hmf (by rw[a1];exact hpf) (by rw[a2];exact hw) AA (by rw[a3];exact hs) a6.good hgn'
 have hbs: ∀v':VM,(v'=nx∨v'={nx with next:=nx.next+1})→(Bw v' mk bs).mem=s.mem∧(Bw v' mk bs).seq=s.seq∧(Bw v' mk bs).adds=s.adds:=λv' hv'=>by
  obtain⟨-, -,a3, -, -, -⟩:=hv3 v' hv';obtain⟨t1,t2,t3⟩:=LZ bs (s:=Cc 1 1 [] v' mk) (t:=Cc 1 1 [] s.v s.tabs) rfl (by show v'.seq=s.v.seq;rw[a3];exact hs) rfl;exact⟨t1.trans hD.mem,t2.trans hD.seq,t3.trans hD.adds⟩
 have hcont: ∀v':VM,(v'=nx∨v'={nx with next:=nx.next+1})→Cz c e v' mk bs now:=λv' hv'=>by
  obtain⟨a1,a2,a3,a4,a5,a6⟩:=hv3 v' hv';obtain⟨t1,t2,t3⟩:=hbs v' hv';exact UD (hcore v' ⟨0,AX 0,false,false⟩ hv' ⟨0,rfl⟩) t1 t2 (by show(Bw v' mk bs).adds≤e;rw[t3];exact hC.adds) (by show v'.next≤_;omega) (by show s.seq≤_;omega) AA hD.bq hD.bsz
 have hc1:Cz c e s.v s.tabs bs now:=hD.cont hC AA AA AA;have hF0:DG s m (BD seen r) mk=DG s m (BD seen r) mk:=rfl
 conv at hF0=>rhs;unfold DG
 simp only at hF0;rw[if_neg hne,←hX0]at hF0;generalize hqq:Bi m s.v.next (AR 64 (BD seen r))=q at l1 l2 l3 hF1 hF0;obtain⟨e1,m1⟩:=q;simp only at l1 l2 l3 hF1 hF0;have hlayL: ∀k,(NW j s.v.wal s.tabs k∨ ∃i,k=Aa i)→AN m1 k=AN m k:=λk hk=>l1.same k λ⟨i,i1,i2,hi⟩=>by
  subst hi;rcases hk with(hk|hk|hk|⟨y,hy,hk⟩)|⟨z,hk⟩
  ·exact(E0 i).1 hk
  ·exact Fv _ _ hk
  ·exact FH _ _ hk.symm
  ·have h5:=hC.keys.2 y.1 (CD hy);have:=LW ⟨AA,AA⟩ ⟨AA,AA⟩ hk;omega
  ·exact FH _ _ hk.symm
 have hD1:Dk e s (AN m1) j es g bs:=hD.frame hlayL;have hb1:DN (A+4*e+8) (U+65544) (X+e+2) (N+1) Q s m1:={hb.mono (A':=A+4*e+8) (T':=U+65544) (X':=X+e+2) (N':=N+1) (Q':=Q) AA AA AA AA (AV _)with ft:=hF1.mono AA AA};rcases l2 with rfl|rfl|rfl
 rotate_left
 ·rw[if_pos AC]at hF0;rw[hF0];exact .space m1 (l1.up' AC) ⟨j,es,g,bs,hD1,hbl⟩ hb1
 ·rw[if_pos AC]at hF0;rw[hF0];exact .down _ m1 (l1.down.2 rfl) (Fd.rec (.inr ⟨j,hD1.fdl⟩) hc1) hb1.ft hcn.2.2.2
 rw[if_neg AC]at hF0;have u1:=l1.up' AC;have hlaid:=l3 rfl;have hF2:=hF1.edit s X0 mk (by
  intro nx' hnx';rw[ha]at hnx';cases hnx';obtain⟨h3,h4,h5,h6⟩:=hnx.next_fine hnn;have:=(Fr (n:=nx.next) ⟨AA,AA⟩).2.2;exact⟨by rw[Ds];omega,AA⟩) AA
 have hT2: ∀y∈mk,AN m1 (Aw y.1)=some (B5 y.2,(B5 y.2).length):=λy hy=>hlaid y (hp.mem_iff.1 hy);have hed:=UW (c:=c) (T2:=mk) (bs2:=bs) mk u1 hF1 hgl hN hD1 ha hnx ⟨AA,hnn⟩ hxB AA hfe hT2 (by rw[hw];exact hD1.log) hD1.ok hc1 (hcont nx (.inl rfl)) (hcont _ (.inr rfl));generalize DY s m1 X0 mk=q2 at hed hF0 hF2;cases hed with
 |space m2 a1 a2=>
  simp only at hF0 hF2;rw[if_pos AC]at hF0;rw[hF0];have hD2:Dk e s (AN m2) j es g bs:=hD1.frame λk hk=>a2 k λhn=>by
   have hlj:AX j≠AX nx.next:=λe=>by
    have h5:=hD.jn;have h6:=hD.j1;have:=Ky (show Ck j from⟨AA,AA⟩) (show Ck nx.next from⟨AA,AA⟩) (by unfold AX at e;exact(List.cons.inj e).2);omega
   rcases hk with(rfl|rfl|rfl|⟨y, -,rfl⟩)|⟨z,rfl⟩<;>rcases hn with hn|hn
   ·exact(G7 nx.next).1 hn.symm
   ·exact Iz hn.symm
   ·exact hlj hn
   ·exact(G7 j).2 hn
   ·exact EG _ _ hn
   ·exact(EB _).2 hn
   ·exact Fv _ _ hn
   ·exact(E0 _).2 hn
   ·exact EG _ _ hn
   ·exact(EB _).2 hn
  exact .space m2 a1 ⟨j,es,g,bs,hD2,hbl⟩ {hb1 with ft:=hF2.mono AA (AV _)}
 |down s2 m2 a1 a2 a5=>
  simp only at hF0 hF2;rw[if_pos AC]at hF0;rw[hF0];exact .down _ m2 a1 a2 (hF2.mono AA (AV _)) (by rw[a5];exact hcn.2.2.2)
 |ok m2 j' es' g' a1 a2 a3 a4=>
  simp only at hF0 hF2;rw[if_neg AC]at hF0;have hfr: ∀k,k≠AX j→ ¬Ih nx.next k→k≠Bg→AN m2 k=AN m1 k:=a4;have hwk: ∀i,AN m2 (Aa i)=AN m1 (Aa i):=λi=>hfr _ (EG _ _) (λhn=>hn.elim (EG _ _) (EB _).2) (EB _).1;have htk: ∀i,AN m2 (Aw i)=AN m1 (Aw i):=λi=>hfr _ (Fv _ _) (λhn=>hn.elim (Fv _ _) (E0 _).2) (E0 _).1;obtain⟨d1,d2,d3⟩:=UN ((s.v.files.map (·.2)).map Aw) a1 hF2;have hF3:=FT.delAll ((s.v.files.map (·.2)).map Aw) hF2
  simp only[BM]at hF3;have hgone: ∀n∈s.v.files.map (·.2),n∈s.tabs.map (·.1):=λn hn'=>hC.files.mem_iff.1 hn';have hrng: ∀n∈s.v.files.map (·.2),1≤n∧n<s.v.next:=λn hn'=>hC.keys.2 n (hgone n hn');have h5:=d3 (by
   have hndf:(s.v.files.map (·.2)).Nodup:=hC.good.files.2;refine List.pairwise_map.2 (hndf.imp_of_mem λ{a b}ha' hb' hab e=>hab ?_);have:=hrng a ha';have:=hrng b hb';exact LW ⟨AA,AA⟩ ⟨AA,AA⟩ e) (λn hn'=>by
   obtain⟨i,hi,rfl⟩:=BV.1 hn';obtain⟨y,hy,rfl⟩:=BV.1 (hgone i hi);rw[htk,hD1.tab y hy];rfl)
  generalize delAll ((s.v.files.map (·.2)).map Aw) m2=q3 at d1 d2 h5 hF0 hF3;obtain⟨e3,m3⟩:=q3;simp only at d1 d2 h5 hF0 hF3;have hed2: ∃v',(v'=nx∨v'={nx with next:=nx.next+1})∧ ∃g'',JO s g X0 nx mk={s with list:=some g'',v:=v',tabs:=mk}:=by
   unfold JO
   split
   ·exact⟨_,.inr rfl,_,by rw[htab]⟩
   ·exact⟨_,.inl rfl,_,by rw[htab]⟩
  obtain⟨v',hv',g'',hes⟩:=hed2;rw[hes]at hF0 a2;have hgg:g'=g'':=by have:=a2.sl;simp only[Option.some.injEq]at this;exact this.symm
  subst hgg;obtain⟨b1,b2,b3,b4,b5,b6⟩:=hv3 v' hv';have hcr:=hcore v' g' hv' ⟨j',a2.gn⟩;obtain⟨t1,t2,t3⟩:=hbs v' hv';have hnt: ∀k,(∀i,k=Aw i→ ¬(1≤i∧i<s.v.next))→AN m3 k=AN m2 k:=λk hk=>d1.same k λhm=>by
   obtain⟨i,hi,rfl⟩:=BV.1 hm;exact hk i rfl (hrng i hi)
  have hmkr: ∀y∈mk,s.v.next≤y.1∧y.1<s.v.next+(AR 64 (BD seen r)).length:=λy hy=>(LA _ _ _).1 ((hp.map _).mem_iff.1 (CD hy));have hDk:Dk e {s with list:=some g',v:=v',tabs:=mk} (AN m3) j' es' g' bs:=by
   have hjn:j'<v'.next:=a2.jn;refine⟨rfl,a2.gn,a2.j1,a2.jn,by rw[hnt _ λi e=>absurd e.symm (E0 i).1];exact a2.cur,by rw[hnt _ λi e=>absurd e.symm (Fv _ _)];exact a2.list,a2.rp,λy hy=>?_,?_,hD1.ok,λk h1 h2=>?_,t1,t2,t3,hD.bq,hD.bsz⟩
   ·have:=hmkr y hy;rw[hnt _ λi e hi=>by have:=LW ⟨AA,AA⟩ ⟨AA,AA⟩ e;omega,htk];exact hT2 y hy
   ·show(AN m3 (Aa v'.wal)).getD ([],0)=_;rw[b2,hw,hnt _ λi e=>absurd e (FH _ _),hwk];exact hD1.log
   ·have h1:v'.next≤k:=h1;rw[hnt _ λi e=>absurd e (FH _ _),hwk];exact hD1.free k AA h2
  obtain⟨lg,hlg,hlg2⟩:=hb.log;have hbud:DN (A+4*e+8) (U+65544) (X+e+2) (N+1) Q {s with list:=some g',v:=v',tabs:=mk} m3:=
   ⟨hF3.mono AA (AV _),by show v'.next≤_;omega,hb.seq,hb.given,hb.sn,⟨g',rfl,a3⟩,⟨lg,hlg,hlg2.mono AA⟩⟩
  rcases d2 with rfl|rfl|rfl
  ·rw[hF0];exact .ok _ m3 (d1.up' AC) hcr ⟨j',es',g',bs,hDk,hbl⟩ hbud hmm rfl
  ·exact absurd rfl h5
  ·rw[hF0];refine .down _ m3 (d1.down.2 rfl) ?_ hbud.ft (by show v'.files.length≤e;rw[b1];exact hfe);exact Fd.rec (.inr ⟨j',hDk.fdl⟩) (hcont v' hv')
theorem Yf: ∀(bs:List (Int×List Ac))(s:AM),(CK s bs).v=s.v∧(CK s bs).tabs=s.tabs∧(CK s bs).given=s.given∧(CK s bs).seqs=s.seqs∧(CK s bs).dead=s.dead∧(CK s bs).hts=s.hts
 |[],_=>⟨rfl,rfl,rfl,rfl,rfl,rfl⟩
 |b::bs,s=>Yf bs (Ia s b)
theorem DE.renew{v:VM}(h:Good v)(hl:v.files.length≤8388608)(hn:v.next+2≤2305843009213693952)(hs:v.seq≤2305843009213693952):DE {v with wal:=v.next,next:=v.next+2}:=
 ⟨⟨⟨λf hf=>⟨(h.files.1 f hf).1,by have:=(h.files.1 f hf).2;simp only;omega⟩,h.files.2⟩,⟨h.nn.2.1,by have:=h.nn.2.1;simp only;omega,h.nn.2.2⟩,by have h2:Di v.files=v.files:=congrArg VM.files h.so;unfold FX;rw[h2]⟩,hl,by simp only;omega,hn,hs⟩
theorem Cz.cnt{c e:Nat}{v:VM}{T:List (Int×List AF)}{bs:List (Int×List Ac)}{now:List AO}(h:Cz c e v T bs now):v.files.length≤e∧T.length≤e:=by
 have h1:=h.num;rw[AP]at h1;have h2:=OM (T.map (·.2)) λl hl=>by
  obtain⟨x,hx,rfl⟩:=BV.1 hl;exact(h.tab x hx).2
 have h3:=h.files.length_eq;simp only[BM]at h2 h3;omega
theorem SK: ∀(bs:List (Int×List Ac))(s:AM),s.seq≤(CK s bs).seq
 |[],_=>Ea _
 |b::bs,s=>by
  have h:=SK bs (Ia s b);have h2:s.seq≤(Ia s b).seq:=by show s.seq≤(if s.seq<b.1 then b.1 else s.seq);split<;>omega
  exact Int.le_trans h2 h
theorem Cz.ok{c e:Nat}{v:VM}{T:List (Int×List AF)}{bs:List (Int×List Ac)}{now:List AO}(h:Cz c e v T bs now):Bc (Ab bs)=true∧(AQ (Ab bs)).length≤c*16384:=by
 have key: ∀l:List (Int×List Ac),(∀b∈l,0≤b.1∧b.1≤4611686018427387904)→(∀b∈l,Ap b.2≤4096)→Bc (Ab l)=true∧(AQ (Ab l)).length≤l.length*16384:=by
  intro l
  induction l with
  |nil=>intro _ _;exact⟨rfl,AV _⟩
  |cons b l ih=>
   intro h1 h2;obtain⟨i1,i2⟩:=ih (λx hx=>h1 x (by simp[hx])) (λx hx=>h2 x (by simp[hx]));have hb1:=h1 b AB;have hb2:=h2 b AB;have hp:=M8 b.1 b.2 ⟨AA,AA⟩ AA;have e:Ab (b::l)=[B0 b.1 b.2]++Ab l:=rfl;rw[e,Rc,ND,AP,Ai];have e2:(AQ [B0 b.1 b.2]).length=(B0 b.1 b.2).length+8:=by rw[Ds];simp[BG]
   refine⟨?_,AA⟩;rw[i1,Bool.and_true];unfold Bc;simp;omega
 obtain⟨h1,h2⟩:=key bs h.bq h.bsz;have h3:=h.blen;refine⟨h1,Au h2 (GY _ h3)⟩
theorem Cz.renew{c e:Nat}{v:VM}{T:List (Int×List AF)}{bs:List (Int×List Ac)}{now:List AO}(h:Cz c e v T bs now):Cz (c+1) e {v with wal:=v.next,next:=v.next+2} T bs now:=by
 obtain⟨t1,t2,t3⟩:=LZ bs (s:=Cc 1 1 [] {v with wal:=v.next,next:=v.next+2} T) (t:=Cc 1 1 [] v T) rfl rfl rfl;have hn:=h.next;have hb:=h.bnext;refine⟨by rw[show(Bw _ T bs).mem=_ from t1];exact h.mem,h.tab,by rw[show(Bw _ T bs).mem=_ from t1];exact h.one,by rw[show(Bw _ T bs).mem=_ from t1];exact h.num,h.nlen,by rw[show(Bw _ T bs).adds=_ from t3];exact h.adds,?_,h.files,by show 1≤v.next+2;omega,by show v.next<v.next+2;omega,by show v.next+2≤_;omega,by rw[show(Bw _ T bs).mem=_ from t1,show(Bw _ T bs).seq=_ from t2];exact h.top,by rw[show(Bw _ T bs).seq=_ from t2];have:=h.bseq;show(Bw v T bs).seq≤_;omega,by rw[show(Bw _ T bs).mem=_ from t1,show(Bw _ T bs).seq=_ from t2];exact h.view,h.bq,h.bsz,Nat.le_succ_of_le h.blen⟩
 exact⟨⟨λf hf=>⟨(h.good.files.1 f hf).1,by have:=(h.good.files.1 f hf).2;simp only;omega⟩,h.good.files.2⟩,⟨h.good.nn.2.1,by have:=h.good.nn.2.1;simp only;omega,h.good.nn.2.2⟩,by have h2:Di v.files=v.files:=congrArg VM.files h.good.so;unfold FX;rw[h2]⟩
abbrev Oh:Int→Option (List AO):=λ_=>none
inductive Nd(A U Nf c e:Nat)(v:VM)(ts:List (Int×List AF))(bs:List (Int×List Ac))(now:List AO):Int→AM→AJ→Prop where
 |ok (s':AM) (m':AJ) (h1:m'.off=false) (h2:BH e s' EX now Oh) (h3:Gw e s' m' c) (h4:DN (A+Nf+17) U ((c+1)*2097152) (4200+4*(c+1)) (c+1) s' m') (h5:m'.files.length≤Nf+7) (h6:s'.given=0):Nd A U Nf c e v ts bs now 0 s' m'
 |space (s':AM) (m':AJ) (h1:m'.off=false) (h2:Fd e (AN m') v ts bs) (h3:FT (A+Nf+17) U m') (h4:m'.files.length≤Nf+7):Nd A U Nf c e v ts bs now 6 s' m'
 |down (s':AM) (m':AJ) (h1:m'.off=true) (h2:GP (c+1) e (AN m') (· =now)) (h3:FT (A+Nf+17) U m') (h4:m'.files.length≤Nf+7):Nd A U Nf c e v ts bs now 7 s' m'
theorem QC(s:AM)(l:Int): ∀(ns:List AE)(m:AJ),(DF s l ns m).2.files.length≤m.files.length
 |[],m=>AV _
 |n::ns,m=>by
  unfold DF
  split
  ·exact QC s l ns m
  ·split
   ·exact Kg m n
   ·exact Au (QC s l ns _) (Kg m n)
theorem wL{A U Nf c e:Nat}{v:VM}{ts:List (Int×List AF)}{bs:List (Int×List Ac)}{now:List AO}{s:AM}{m:AJ}{r:Int}{s':AM}{m':AJ}(h:m.off=false)(hF:FT A U m)(hT:536870912≤U∧U≤1099511627776)(hcU:c*16384≤U)(hc:c≤8388608)(he:e≤1048576)(hnf:m.files.length≤Nf)
  (hfd:Fd e (AN m) v ts bs)(hct:Cz c e v ts bs now)(k1:s.v=v)(k2:s.tabs=ts)(k3:s.mem=(Bw v ts bs).mem)(k4:s.seq=(Bw v ts bs).seq)(k5:s.adds=(Bw v ts bs).adds)(k6:s.given=0)(k7:s.seqs=[])(k8:s.dead=false)(k9:s.hts.length≤1099511627776)
  (hr:FL s m (Ab bs) r s' m'):Nd A U Nf c e v ts bs now r s' m':=by
 have z3:A+3≤A+Nf+17:=AA;have z6:A+3+3≤A+Nf+17:=AA;have z9:A+3+3+3≤A+Nf+17:=AA;have z10:A+3+3+3+1≤A+Nf+17:=AA;have z17: ∀k,k≤Nf+7→A+3+3+3+1+k≤A+Nf+17:=λk _=>AA;subst k1 k2;have hn1:=hct.next;have hbn:=hct.bnext;have hwl:=hct.wal;have hnn:=hct.good.nn;have hcn:=hct.cnt;obtain⟨hps,hpl⟩:=hct.ok;have hi:Ck s.v.next:=⟨AA,AA⟩;have hi1:Ck (s.v.next+1):=⟨AA,AA⟩;have hsq:s.v.seq≤s.seq:=by rw[k4];exact SK bs (Cc 1 1 [] s.v s.tabs)
 have hbq:=hct.bseq;rw[←k4]at hbq;have hv:DE (BJ s).v:=DE.renew hct.good AA AA AA;have hct2:Cz (c+1) e (BJ s).v s.tabs bs now:=hct.renew;obtain⟨w1,w2⟩:=hv.whole;have hok:=N7 w2;have hsum:=MZ w2 hv.num;have hrp:=UZ hv (n:=e) hcn.1;have hne:=G7 (s.v.next+1);have hnw:=EB s.v.next;have hFr: ∀{G:DD},(∀k,k≠Aa s.v.next→k≠AX (s.v.next+1)→k≠Bb→G k=AN m k)→Fd e G s.v s.tabs bs:=λ{G}hk=>by
  rcases hfd with⟨f1,f2⟩|⟨j,f⟩
  ·exact .inl ⟨by rw[hk _ hnw.1.symm hne.1.symm Iz.symm];exact f1,f2⟩
  ·refine .inr ⟨j,f.frame λk hl=>hk k (λe1=>?_) (λe1=>?_) λe1=>?_⟩
   ·rcases hl with rfl|rfl|rfl|⟨y, -,rfl⟩
    ·exact hnw.1 e1.symm
    ·exact EG _ _ e1.symm
    ·have:=KR ⟨AA,AA⟩ hi e1;omega
    ·exact FH _ _ e1.symm
   ·rcases hl with rfl|rfl|rfl|⟨y, -,rfl⟩
    ·exact hne.1 e1.symm
    ·have hj:=f.jn;have hj1:=f.j1;have:=Ky (show Ck j from⟨AA,AA⟩) hi1 (by unfold AX at e1;exact(List.cons.inj e1).2);omega
    ·exact EG _ _ e1
    ·exact Fv _ _ e1
   ·rcases hl with rfl|rfl|rfl|⟨y, -,rfl⟩
    ·exact Iz e1.symm
    ·exact(G7 j).2 e1
    ·exact(EB _).2 e1
    ·exact(E0 _).2 e1
 have hRo: ∀{G:DD},(∀k,k≠Aa s.v.next→k≠AX (s.v.next+1)→k≠Bb→G k=AN m k)→GP (c+1) e G (· =now):=λhk=>(Fd.rec (hFr hk) hct).mono (Dz _) (AV _) λ_ h=>h;obtain⟨a1,a2,a3⟩:=Rv h hF.fb (Hs hi) hps;have hF1:=hF.rewrite (Aa s.v.next) (Ab bs) AA hT.2;have n1:=KG m (Aa s.v.next) (Ab bs);have a1:DW m (· =Aa s.v.next) (Cr s m (Ab bs)):=a1;have a2:(Cr s m (Ab bs)).1=0∨(Cr s m (Ab bs)).1=6∨(Cr s m (Ab bs)).1=7:=a2
 have a3:(Cr s m (Ab bs)).1=0→AN (Cr s m (Ab bs)).2 (Aa s.v.next)=some (AQ (Ab bs),(AQ (Ab bs)).length):=a3;have hF1:FT (A+3) U (Cr s m (Ab bs)).2:=hF1;have n1:(Cr s m (Ab bs)).2.files.length≤m.files.length+2:=n1;have s1: ∀k,k≠Aa s.v.next→k≠AX (s.v.next+1)→k≠Bb→AN (Cr s m (Ab bs)).2 k=AN m k:=λk x1 _ _=>a1.same k x1;have go1:(Cr s m (Ab bs)).1=0→(Cr s m (Ab bs)).2.off=false:=λh0=>a1.up (by rw[h0];decide)
 have B2:=λh0=>Rv (go1 h0) hF1.fb (HR hi1) hok;have hF2:FT (A+3+3) U (DB s m (Ab bs)).2:=hF1.rewrite (AX (s.v.next+1)) (Ay (BJ s).v) (by rw[Ds];omega) hT.2;have n2:(DB s m (Ab bs)).2.files.length≤(Cr s m (Ab bs)).2.files.length+2:=KG _ _ _;have B2:(Cr s m (Ab bs)).1=0→DW (Cr s m (Ab bs)).2 (· =AX (s.v.next+1)) (DB s m (Ab bs))∧((DB s m (Ab bs)).1=0∨(DB s m (Ab bs)).1=6∨(DB s m (Ab bs)).1=7)∧((DB s m (Ab bs)).1=0→AN (DB s m (Ab bs)).2 (AX (s.v.next+1))=some (AQ (Ay (BJ s).v),(AQ (Ay (BJ s).v)).length)):=B2
 have hll:=(Fr hi1).2.2;have hF3:FT (A+3+3+3) U (DV s m (Ab bs)).2:=hF2.file Bb (AX (s.v.next+1)) AA hT.2;have n3:(DV s m (Ab bs)).2.files.length≤(DB s m (Ab bs)).2.files.length+2:=Kl _ _ _;have B3:(Cr s m (Ab bs)).1=0→(DB s m (Ab bs)).1=0→DW (DB s m (Ab bs)).2 (· =Bb) (DV s m (Ab bs))∧((DV s m (Ab bs)).1=0∨(DV s m (Ab bs)).1=6∨(DV s m (Ab bs)).1=7)∧((DV s m (Ab bs)).1=0→AN (DV s m (Ab bs)).2 Bb=some (AX (s.v.next+1),(AX (s.v.next+1)).length)):=λh0 h1=>OJ ((B2 h0).1.up (by rw[h1];decide)) hF2.fb Of _
 have hF4:FT (A+3+3+3+1) U (Bj s m (Ab bs)).2:=hF3.ren Bb Bg;have n4:(Bj s m (Ab bs)).2.files.length≤(DV s m (Ab bs)).2.files.length+1:=O2 _ _ _;have B4:(Cr s m (Ab bs)).1=0→(DB s m (Ab bs)).1=0→(DV s m (Ab bs)).1=0→DW (DV s m (Ab bs)).2 (λk=>k=Bb∨k=Bg) (Bj s m (Ab bs))∧((Bj s m (Ab bs)).1=0∨(Bj s m (Ab bs)).1=7)∧((Bj s m (Ab bs)).1=0→AN (Bj s m (Ab bs)).2 Bg=some (AX (s.v.next+1),(AX (s.v.next+1)).length))∧((∀k,AN (Bj s m (Ab bs)).2 k=AN (DV s m (Ab bs)).2 k)∨AN (Bj s m (Ab bs)).2 Bg=some (AX (s.v.next+1),(AX (s.v.next+1)).length)):=λh0 h1 h2=>Xo ((B3 h0 h1).1.up (by rw[h2];decide)) hF3.fb Oe Iz ((B3 h0 h1).2.2 h2)
 have s2:(Cr s m (Ab bs)).1=0→ ∀k,k≠Aa s.v.next→k≠AX (s.v.next+1)→k≠Bb→AN (DB s m (Ab bs)).2 k=AN m k:=λh0 k x1 x2 x3=>((B2 h0).1.same k x2).trans (s1 k x1 x2 x3);have s3:(Cr s m (Ab bs)).1=0→(DB s m (Ab bs)).1=0→ ∀k,k≠Aa s.v.next→k≠AX (s.v.next+1)→k≠Bb→AN (DV s m (Ab bs)).2 k=AN m k:=λh0 h1 k x1 x2 x3=>((B3 h0 h1).1.same k x3).trans (s2 h0 k x1 x2 x3);have hnew:(Cr s m (Ab bs)).1=0→(DB s m (Ab bs)).1=0→(DV s m (Ab bs)).1=0→AN (Bj s m (Ab bs)).2 (Aa s.v.next)=some (AQ (Ab bs),(AQ (Ab bs)).length)∧AN (Bj s m (Ab bs)).2 (AX (s.v.next+1))=some (AQ (Ay (BJ s).v),(AQ (Ay (BJ s).v)).length):=λh0 h1 h2=>by
  constructor
  ·rw[(B4 h0 h1 h2).1.same _ λe1=>e1.elim hnw.2 hnw.1,(B3 h0 h1).1.same _ hnw.2,(B2 h0).1.same _ (EG _ _)];exact a3 h0
  ·rw[(B4 h0 h1 h2).1.same _ λe1=>e1.elim hne.2 hne.1,(B3 h0 h1).1.same _ hne.2];exact(B2 h0).2.2 h1
 have htabF: ∀x∈s.tabs,AN m (Aw x.1)=some (B5 x.2,(B5 x.2).length):=λx hx=>by
  rcases hfd with⟨-, -,f2, -⟩|⟨j,f⟩
  ·rw[f2]at hx;cases hx
  ·exact f.tab x hx
 have hFN: ∀{G:DD},G Bg=some (AX (s.v.next+1),(AX (s.v.next+1)).length)→G (Aa s.v.next)=some (AQ (Ab bs),(AQ (Ab bs)).length)→G (AX (s.v.next+1))=some (AQ (Ay (BJ s).v),(AQ (Ay (BJ s).v)).length)→(∀x∈s.tabs,G (Aw x.1)=AN m (Aw x.1))→Fd e G (BJ s).v s.tabs bs:=λ{G}g1 g2 g3 g4=>by
  refine .inr ⟨s.v.next+1,g1,AA,by show s.v.next+1<s.v.next+2;omega,⟨_,g3,?_⟩,λx hx=>(g4 x hx).trans (htabF x hx),?_⟩
  ·rw[N6];exact Ge.whole hrp
  ·show(scan ((G (Aa s.v.next)).getD ([],0)).1).1=Ab bs∧_;rw[show G (Aa (BJ s).v.wal)=_ from g2,g2];exact⟨by show(scan (AQ (Ab bs))).1=_;rw[IY _ hps],rfl⟩
 have y1:(Cr s m (Ab bs)).2.files.length≤Nf+7:=Au n1 AA;have y2':(DB s m (Ab bs)).2.files.length≤Nf+4:=Au n2 (Au (Nat.add_le_add_right n1 2) AA);have y3':(DV s m (Ab bs)).2.files.length≤Nf+6:=Au n3 (Nat.add_le_add_right y2' 2);have y4:(Bj s m (Ab bs)).2.files.length≤Nf+7:=Au n4 (Nat.add_le_add_right y3' 1);have y2:(DB s m (Ab bs)).2.files.length≤Nf+7:=Au y2' (Nat.add_le_add_left AC Nf);have y3:(DV s m (Ab bs)).2.files.length≤Nf+7:=Au y3' (Nat.add_le_add_left AC Nf)
 cases hr with
 |e1 he1=>
  rcases a2 with h6|h6|h7
  ·exact absurd h6 he1
  ·rw[h6];exact .space _ _ (a1.up (by rw[h6];decide)) (hFr s1) (hF1.mono z3 (AV _)) y1
  ·rw[h7];exact .down _ _ (a1.down.2 h7) (hRo s1) (hF1.mono z3 (AV _)) y1
 |e2 h0 he2=>
  obtain⟨b1,b2, -⟩:=B2 h0;rcases b2 with h6|h6|h7
  ·exact absurd h6 he2
  ·rw[h6];exact .space _ _ (b1.up (by rw[h6];decide)) (hFr (s2 h0)) (hF2.mono z6 (AV _)) y2
  ·rw[h7];exact .down _ _ (b1.down.2 h7) (hRo (s2 h0)) (hF2.mono z6 (AV _)) y2
 |e3 h0 h1 he3=>
  obtain⟨b1,b2, -⟩:=B3 h0 h1;rcases b2 with h6|h6|h7
  ·exact absurd h6 he3
  ·rw[h6];exact .space _ _ (b1.up (by rw[h6];decide)) (hFr (s3 h0 h1)) (hF3.mono z9 (AV _)) y3
  ·rw[h7];exact .down _ _ (b1.down.2 h7) (hRo (s3 h0 h1)) (hF3.mono z9 (AV _)) y3
 |e4 h0 h1 h2 he4=>
  obtain⟨b1,b2, -,b4⟩:=B4 h0 h1 h2;have h7:(Bj s m (Ab bs)).1=7:=b2.resolve_left he4;rw[h7];refine .down _ _ (b1.down.2 h7) ?_ (hF4.mono z10 (AV _)) y4;rcases b4 with b4|b4
  ·exact hRo λk x1 x2 x3=>(b4 k).trans (s3 h0 h1 k x1 x2 x3)
  ·obtain⟨g1,g2⟩:=hnew h0 h1 h2;exact Fd.rec (hFN b4 g1 g2 λx _=>by rw[b1.same _ λe1=>e1.elim (E0 _).2 (E0 _).1];exact s3 h0 h1 _ (FH _ _).symm (Fv _ _) (E0 _).2) hct2
 |e5 _ h0 h1 h2 h3 he5=>exact absurd (M4 ((B4 h0 h1 h2).1.up (by rw[h3];decide)) (Hs hi)) he5
 |e6 _ h0 h1 h2 h3 _ he6=>exact absurd (M4 ((B4 h0 h1 h2).1.up (by rw[h3];decide)) (HR hi1)) he6
 |e7 h0 h1 h2 h3 _ _ ns hp=>
  obtain⟨b1,b2,b3, -⟩:=B4 h0 h1 h2;have u4:=b1.up (by rw[h3];decide);obtain⟨g1,g2⟩:=hnew h0 h1 h2;have g3:=b3 h3;have g4: ∀x∈s.tabs,AN (Bj s m (Ab bs)).2 (Aw x.1)=AN m (Aw x.1):=λx _=>by rw[b1.same _ λe1=>e1.elim (E0 _).2 (E0 _).1];exact s3 h0 h1 _ (FH _ _).symm (Fv _ _) (E0 _).2
  have hst:GD s (Bj s m (Ab bs)).2={BJ s with log:=some ⟨(Ab bs).length,Aa s.v.next,false,false⟩,list:=some ⟨(Ay (BJ s).v).length,AX (s.v.next+1),false,false⟩}:=by
   unfold GD NC;rw[Rg u4 hps g1,Rg u4 hok g2]
  have hnd:ns.Nodup:=hp.nodup_iff.2 hF4.fb.nd;obtain⟨i1,i2,i3,i4⟩:=QD (GD s (Bj s m (Ab bs)).2) (s.v.next+1) ns u4 hF4 hnd λx hx=>OI.2 (hp.mem_iff.1 hx);have ncl:=QC (GD s (Bj s m (Ab bs)).2) (s.v.next+1) ns (Bj s m (Ab bs)).2;have hnl:ns.length≤Nf+7:=by rw[hp.length_eq,BM];exact y4
  rw[hst]at i1 i2 i3 i4 ncl⊢;generalize hQ:DF {BJ s with log:=some ⟨(Ab bs).length,Aa s.v.next,false,false⟩,list:=some ⟨(Ay (BJ s).v).length,AX (s.v.next+1),false,false⟩} (s.v.next+1) ns (Bj s m (Ab bs)).2=q at i1 i2 i3 i4 ncl⊢;obtain⟨e9,m9⟩:=q;simp only at i1 i2 i3 i4 ncl⊢;have hF9:FT (A+Nf+17) U m9:=i3.mono (z17 _ hnl) (AV _);obtain⟨S,hS⟩: ∃S:AM,S={BJ s with log:=some ⟨(Ab bs).length,Aa s.v.next,false,false⟩,list:=some ⟨(Ay (BJ s).v).length,AX (s.v.next+1),false,false⟩}:=⟨_,rfl⟩
  rw[←hS]at i1 i4⊢;have hSv:S.v=(BJ s).v:=by rw[hS]
  have hSt:S.tabs=s.tabs:=by rw[hS];rfl
  have hSw:S.v.wal=s.v.next:=by rw[hSv];rfl
  have hkeep: ∀k,Ct S (s.v.next+1) k=true→AN m9 k=AN (Bj s m (Ab bs)).2 k:=λk hk=>i1.same k λhh=>by rw[hk]at hh;cases hh.2
  have j1:AN m9 Bg=some (AX (s.v.next+1),(AX (s.v.next+1)).length):=by rw[hkeep _ (V9 _ _)];exact g3
  have j2:AN m9 (Aa s.v.next)=some (AQ (Ab bs),(AQ (Ab bs)).length):=by
   rw[hkeep (Aa s.v.next) (by rw[←hSw];exact WC S _ (by rw[hSw];omega) (by rw[hSw];exact hi))];exact g1
  have j3:AN m9 (AX (s.v.next+1))=some (AQ (Ay (BJ s).v),(AQ (Ay (BJ s).v)).length):=by rw[hkeep _ (WA _ AA hi1)];exact g2
  have hkr: ∀x∈s.tabs,1≤x.1∧x.1<s.v.next:=λx hx=>by
   obtain⟨f,hf,hfx⟩:=BV.1 (hct.files.mem_iff.2 (CD hx));obtain⟨h5,h6⟩:=hct.good.files.1 f hf;have:=Hw.1 h5;rw[←hfx];omega
  have j4: ∀x∈s.tabs,AN m9 (Aw x.1)=AN m (Aw x.1):=λx hx=>by
   have:=hkr x hx;rw[hkeep _ (WB S _ AA ⟨AA,AA⟩ (by
    rw[hSt];cases hq:Al x.1 s.tabs with
    |some _=>rfl
    |none=>exact absurd (CD hx) (JX.1 hq)))]
   exact g4 x hx
  have hfd9:Fd e (AN m9) (BJ s).v s.tabs bs:=hFN j1 j2 j3 j4;rcases i2 with rfl|rfl
  ·have hup:=i1.up' AC;have hall: ∀k,(AN m9 k).isSome=true→Ct S (s.v.next+1) k=true:=λk hk=>by
    cases hq:Ct S (s.v.next+1) k with
    |true=>rfl
    |false=>
     exfalso;by_cases hkn:k∈ns
     ·rw[i4 rfl k hkn hq]at hk;cases hk
     ·rw[i1.same k λhh=>hkn hh.1]at hk;exact hkn (hp.mem_iff.2 (OI.1 hk))
   obtain⟨t1,t2,t3⟩:=LZ bs (s:=Cc 1 1 [] (BJ s).v s.tabs) (t:=Cc 1 1 [] s.v s.tabs) rfl rfl rfl;have hfree: ∀k,s.v.next+2≤k→k≤4611686018427387904→AN m9 (Aa k)=none:=λk x1 x2=>by
    cases hq:AN m9 (Aa k)with
    |none=>rfl
    |some x=>
     have hk:=hall (Aa k) (by rw[hq];rfl);rcases V8 hk with hk|hk|hk|⟨n, -,hk⟩
     ·exact absurd hk (EB k).1
     ·exact absurd hk (EG _ _)
     ·rw[hSw]at hk;have:=KR ⟨AA,AA⟩ hi hk;omega
     ·exact absurd hk (FH _ _)
   have hDk:Dk e S (AN m9) (s.v.next+1) (JQ (BJ s).v) ⟨(Ay (BJ s).v).length,AX (s.v.next+1),false,false⟩ bs:=by
    rw[hS];exact⟨rfl,rfl,AA,by show s.v.next+1<s.v.next+2;omega,j1,by rw[←N6];exact j3,hrp,λx hx=>(j4 x hx).trans (htabF x hx),by show(AN m9 (Aa s.v.next)).getD ([],0)=_;rw[j2];rfl,hps,hfree,t1.trans k3.symm,t2.trans k4.symm,t3.trans k5.symm,hct.bq,hct.bsz⟩
   have hCo:BH e S EX now Oh:=by
    rw[hS];have hE: ∀X Y,BZ {BJ s with log:=X,list:=Y}=(Bw s.v s.tabs bs).mem++(s.tabs.map (·.2)).flatten:=λX Y=>by rw[←k3];rfl
    refine⟨k8,PK,by show Gf s.mem;rw[k3];exact hct.mem,hct.tab,by rw[hE];exact hct.one,by rw[hE];exact hct.num,hct.nlen,by show s.adds≤e;rw[k5];exact hct.adds,hv.good,hct.files,by show 1≤s.v.next+2;omega,by show s.v.next<s.v.next+2;omega,λg hg=>by cases hg;exact⟨_,rfl⟩,λg hg=>by cases hg;rfl,ON _,hsq,by show 0≤s.seq;omega,by rw[hE];show∀x:AF,x∈_→x.s≤s.seq;rw[k4];exact hct.top,by show 0≤s.given;omega,λx hx=>?_,?_,k9,by rw[hE];show Bf _ s.seq now;rw[k4];exact hct.view,λn=>?_⟩
    ·have hx:x∈s.seqs:=hx;rw[k7]at hx;cases hx
    ·show(s.seqs.map (·.1)).Nodup;rw[k7];exact List.nodup_nil
    ·show match Al n s.seqs with
      |some q=>∃rs,Oh n=some rs∧Bf _ q rs
      |none=>Oh n=none
     rw[k7]
     rfl
   refine .ok S m9 hup hCo ⟨_,_,_,bs,hDk,hct.blen⟩ ⟨hF9,?_,?_,?_,?_,?_,?_⟩ (Au ncl y4) (by rw[hS];exact k6)
   ·rw[hSv];show s.v.next+2≤_;omega
   ·rw[hS];show s.seq≤_;omega
   ·rw[hS];show s.given≤_;omega
   ·rw[hS];show s.seqs.length≤_;rw[k7];exact Ag _
   ·have hes:(Ay (BJ s).v).length≤4196:=by rw[JP];exact N5 hv.num
    rw[hS];exact⟨_,rfl,rfl,rfl,HR hi1,by simp only;omega⟩
   ·have hbl:=hct.blen;have hbl2:(Ab bs).length=bs.length:=by unfold Ab;rw[BM]
    rw[hS];exact⟨_,rfl,rfl,rfl,Hs hi,by simp only;omega⟩
  ·exact .down S m9 (i1.down.2 rfl) (Fd.rec hfd9 hct2) hF9 (Au ncl y4)
theorem Tk(m:AJ)(g:BF)(ps:List AE):(appL m g ps).2.2.files.length≤m.files.length+2:=by
 have h1:=Tn m g.name [AQ ps];have h2:=YO (A9 m g.name [AQ ps]).2 g.name;show(DJ m g.name g.n g.torn g.dead ps).2.2.files.length≤_;unfold DJ
 repeat' split
 all_goals first|exact Nat.le_add_right _ _|(exact Au h1 (Dz _))|exact Au h2 (Nat.succ_le_succ h1)
theorem RE: ∀(cs:List (List AF))(m:AJ)(n:Int),(Bi m n cs).2.files.length≤m.files.length+2*cs.length
 |[],m,n=>AV _
 |c::cs,m,n=>by
  have h1:=Kl m (Aw n) (B5 c);have h2:=RE cs (CE m (Aw n) (B5 c)).2 (n+1);unfold Bi;rw[Ai]
  split
  ·exact Au h1 AA
  ·exact Au h2 (Au (Nat.add_le_add_right h1 _) AA)
theorem wK(s:AM)(m:AJ)(v:VM):(FW s m v).2.2.2.files.length≤m.files.length+5:=by
 have h1:=KG m (AX v.next) (Ay {v with next:=v.next+1});have h2:=Kl (Cd m (AX v.next) (Ay {v with next:=v.next+1})).2 Bb (AX v.next);have h3:=O2 (CE (Cd m (AX v.next) (Ay {v with next:=v.next+1})).2 Bb (AX v.next)).2 Bb Bg;unfold FW;simp only
 repeat' split
 all_goals first
  |exact Au h1 (Nat.add_le_add_left AC _)
  |exact Au h2 (Au (Nat.add_le_add_right h1 2) (Nat.add_le_add_left (by decide:2+2≤5) m.files.length))
  |exact Au h3 (Au (Nat.add_le_add_right (Au h2 (Nat.add_le_add_right h1 2)) 1) (Nat.add_le_add_left (by decide:2+2+1≤5) m.files.length))
theorem UV(s:AM)(m:AJ)(x:EM)(mk:List (Int×List AF)):(DY s m x mk).2.2.files.length≤m.files.length+5:=by
 unfold DY;cases BQ s.v x with
 |none=>exact Nat.le_add_right _ _
 |some nx=>
  simp only;have h1:=wK s m nx
  split
  ·split<;>exact h1
  ·cases s.list with
   |none=>exact Nat.le_add_right _ _
   |some g=>
    have h2:=Tk m g [Am x];simp only
    split<;>exact Au h2 (Nat.add_le_add_left AC _)
theorem UM: ∀(ns:List AE)(m:AJ),(delAll ns m).2.files.length≤m.files.length
 |[],m=>AV _
 |n::ns,m=>by
  unfold delAll
  split
  ·exact Kg m n
  ·exact Au (UM ns _) (Kg m n)
theorem rE(s:AM)(m:AJ)(mk:List (Int×List AF)):(By s m mk).2.2.files.length≤m.files.length+2*(AR 64 s.mem).length+5:=by
 have h1:=RE (AR 64 s.mem) m s.v.next;unfold By
 split
 ·exact Au (Nat.le_add_right _ (2*(AR 64 s.mem).length+5)) (by rw[Gq];exact AV _)
 ·simp only;have h2:=UV s (Bi m s.v.next (AR 64 s.mem)).2 ⟨Bx 0 (Ar s.v.next (AR 64 s.mem)),[],s.v.next+(AR 64 s.mem).length,s.v.next+(AR 64 s.mem).length+1,s.seq⟩ mk;have h3:=Au h2 (Nat.add_le_add_right h1 5);have h4:=Kg (DY s (Bi m s.v.next (AR 64 s.mem)).2 ⟨Bx 0 (Ar s.v.next (AR 64 s.mem)),[],s.v.next+(AR 64 s.mem).length,s.v.next+(AR 64 s.mem).length+1,s.seq⟩ mk).2.2 (Aa s.v.wal)
  split
  ·exact Au h1 (Nat.le_add_right _ _)
  ·split
   ·exact h3
   ·split
    ·exact h3
    ·exact Au h4 h3
theorem cH(s:AM)(m:AJ)(es:List AF)(mk:List (Int×List AF)):(DG s m es mk).2.2.files.length≤m.files.length+2*(AR 64 es).length+5:=by
 have h1:=RE (AR 64 es) m s.v.next;unfold DG
 split
 ·exact Au (Nat.le_add_right _ (2*(AR 64 es).length+5)) (by rw[Gq];exact AV _)
 ·simp only;have h2:=UV s (Bi m s.v.next (AR 64 es)).2 ⟨Bx 1 (Ar s.v.next (AR 64 es)),s.v.files.map (·.2),s.v.wal,s.v.next+(AR 64 es).length,s.v.seq⟩ mk;have h3:=Au h2 (Nat.add_le_add_right h1 5);have h4:=UM ((s.v.files.map (·.2)).map Aw) (DY s (Bi m s.v.next (AR 64 es)).2 ⟨Bx 1 (Ar s.v.next (AR 64 es)),s.v.files.map (·.2),s.v.wal,s.v.next+(AR 64 es).length,s.v.seq⟩ mk).2.2
  split
  ·exact Au h1 (Nat.le_add_right _ _)
  ·split
   ·exact h3
   ·exact Au h4 h3
theorem XM{α:Type}{l:List α}(h:l.length≤262144):(AR 64 l).length≤4097:=by
 rw[Jd];omega
structure H4(c:Nat)(m:AJ):Prop where
 ft:FT (c*274877906944) (536870912+c*150000) m
 nf:m.files.length≤c*32768
structure Rn(c e:Nat)(s:AM)(m:AJ)(now:List AO)(lk:Int→Option (List AO)):Prop where
 core:BH e s EX now lk
 off:m.off=false
 dk:Gw e s m c
 bud:DN (c*274877906944) (536870912+c*150000) (c*2097152) (4200+4*c) c s m
 nf:m.files.length≤c*32768
 c1:c≤7000000
 e1:e≤262144
theorem Rn.down{c e:Nat}{s:AM}{m:AJ}{now:List AO}{lk:Int→Option (List AO)}(h:Rn c e s m now lk):C5 s m=false:=by unfold C5;rw[h.core.dead,h.off];rfl
theorem Dk.mono{e e':Nat}{s:AM}{F:DD}{j:Int}{es:List EM}{g:BF}{bs:List (Int×List Ac)}(h:Dk e s F j es g bs)(hl:e≤e'):Dk e' s F j es g bs:={h with rp:=h.rp.mono hl}
theorem Gw.mono{e e':Nat}{s:AM}{m:AJ}{B B':Nat}(h:Gw e s m B)(hl:e≤e')(hB:B≤B'):Gw e' s m B':=by
 obtain⟨j,es,g,bs,h1,h2⟩:=h;exact⟨j,es,g,bs,h1.mono hl,Au h2 hB⟩
theorem Rn.more{c c' e e':Nat}{s:AM}{m:AJ}{now:List AO}{lk:Int→Option (List AO)}(h:Rn c e s m now lk)(hc:c≤c')(he:e≤e')(hc1:c'≤7000000)(he1:e'≤262144):Rn c' e' s m now lk:=
 ⟨h.core.more he,h.off,h.dk.mono he hc,h.bud.mono (GY _ hc) (Nat.add_le_add_left (GY _ hc) _) (GY _ hc) (Nat.add_le_add_left (Nat.mul_le_mul_left _ hc) _) hc,Au h.nf (GY _ hc),hc1,he1⟩
structure Dn(c e:Nat)(m:AJ)(S:List AO→Prop):Prop where
 off:m.off=true
 found:GP c e (AN m) S
 fs:H4 c m
theorem BH.wrN{e A T X N Q:Nat}{s:AM}{m:AJ}{now:List AO}{lk:Int→Option (List AO)}(h:BH e s EX now lk)(hb:DN A T X N Q s m)(he:e≤1048576)(hX:X≤1152921504606846976)(hQ:Q≤1152921504606846976)(hN:N≤2305843009213693952)(hA:A≤2305843009213693952)(hT:536870912≤T∧T+1048576≤1099511627776):Ik A T s m:=by
 have h1:=h.cnt;obtain⟨g,hg,hg2⟩:=hb.list;have h3:=hb.next;have h5:=hb.seq;have h6:=hg2.num;exact⟨h.mem,h.goodN he AA AA,AA,AA,⟨h.seq,AA⟩,⟨g,hg,AA⟩,hb.ft,hA,hT.1,hT.2,h.hts⟩
inductive NP(c e:Nat)(now:List AO)(lk:Int→Option (List AO))(gv:Int):AM→AJ→Prop where
 |run (s:AM) (m:AJ) (h:Rn c e s m now lk) (hg:s.given=gv):NP c e now lk gv s m
 |down (s:AM) (m:AJ) (h:Dn c e m (· =now)):NP c e now lk gv s m
structure H7(c e k z:Nat)(s:AM)(m:AJ)(now:List AO)(lk:Int→Option (List AO)):Prop where
 core:BH e s EX now lk
 off:m.off=false
 dk:Gw e s m (c+1)
 bud:DN (c*274877906944+2+z*2097152) (536870912+c*150000+16384+z*65544) (c*2097152+z*262146) (4200+4*c+1+z) (c+1) s m
 nf:m.files.length≤c*32768+k
 c1:c+1≤7000000
 e1:e≤262144
theorem H7.run{c e k z:Nat}{s:AM}{m:AJ}{now:List AO}{lk:Int→Option (List AO)}(h:H7 c e k z s m now lk)(hk:k≤32768)(hz:z≤2):Rn (c+1) e s m now lk:=
 ⟨h.core,h.off,h.dk,h.bud.mono AA AA AA AA (AV _),Au h.nf AA,h.c1,h.e1⟩
theorem Vh{c k z:Nat}{m:AJ}(h:FT (c*274877906944+2+z*2097152) (536870912+c*150000+16384+z*65544) m)(hk:m.files.length≤c*32768+k)(h1:k≤32768)(h2:z≤2):H4 (c+1) m:=⟨h.mono AA AA,Au hk AA⟩
inductive Ig(c e k z:Nat)(s:AM)(now:List AO)(lk:Int→Option (List AO)):Int×AM×AJ→Prop where
 |ok (s':AM) (m':AJ) (h:H7 c e (k+8199) (z+1) s' m' now lk) (hm:s'.mem=[]) (hg:s'.given=s.given):Ig c e k z s now lk (0,s',m')
 |space (m':AJ) (h:H7 c e (k+8199) (z+1) s m' now lk):Ig c e k z s now lk (6,s,m')
 |down (s':AM) (m':AJ) (h:Dn (c+1) e m' (· =now)) (hl:s'.v.files.length≤e):Ig c e k z s now lk (7,s',m')
theorem J9{c e k z:Nat}{s:AM}{m:AJ}{now:List AO}{lk:Int→Option (List AO)}(h:H7 c e k z s m now lk)(hk:k+8199≤32768)(hz:z+1≤2){mk:List (Int×List AF)}(hp:mk.Perm (Ar s.v.next (AR 64 s.mem))):Ig c e k z s now lk (By s m mk):=by
 have he:=h.e1;have hc:=h.c1;have hcn:=h.core.cnt;have hpf:=XM (l:=s.mem) AA;have hn:=rE s m mk;have hnf:=h.nf;have hg:=rF (c:=c+1) h.core h.off h.dk h.bud AA ⟨AA,AA⟩ AA AA AA AA (AV _) (AV _) hp;generalize By s m mk=q at hg hn;have hn2:q.2.2.files.length≤c*32768+(k+8199):=Au hn AA;cases hg with
 |ok s' m' g1 g2 g3 g4 g5 g6=>exact .ok s' m' ⟨g2,g1,g3,g4.mono AA AA AA AA (AV _),hn2,h.c1,h.e1⟩ g5 g6
 |space m' g1 g2 g3=>exact .space m' ⟨h.core,g1,g2,g3.mono AA AA AA AA (AV _),hn2,h.c1,h.e1⟩
 |down s' m' g1 g2 g3 g4=>exact .down s' m' ⟨g1,g2,Vh (z:=z+1) (g3.mono AA AA) hn2 hk hz⟩ g4
theorem Wa{c e k z:Nat}{s:AM}{m:AJ}{now:List AO}{lk:Int→Option (List AO)}(h:H7 c e k z s m now lk)(hmm:s.mem=[])(hk:k+8199≤32768)(hz:z+1≤2){r:List AF}{seen:List Int}(h1:r.Perm (D1 s))(h2:Az r)(h3:seen.Perm (Hy s)){mk:List (Int×List AF)}(hp:mk.Perm (Ar s.v.next (AR 64 (BD seen r)))):Ig c e k z s now lk (DG s m (BD seen r) mk):=by
 have he:=h.e1;have hc:=h.c1;have hcn:=h.core.cnt;have hl1:=(Ld seen r).length_le;have hl2:=h1.length_eq;have hpf:=XM (l:=BD seen r) AA;have hn:=cH s m (BD seen r) mk;have hnf:=h.nf;have hg:=cI (c:=c+1) h.core hmm h.off h.dk h.bud AA ⟨AA,AA⟩ AA AA AA AA (AV _) (AV _) h1 h2 h3 hp;generalize DG s m (BD seen r) mk=q at hg hn;have hn2:q.2.2.files.length≤c*32768+(k+8199):=Au hn AA;cases hg with
 |ok s' m' g1 g2 g3 g4 g5 g6=>exact .ok s' m' ⟨g2,g1,g3,g4.mono AA AA AA AA (AV _),hn2,h.c1,h.e1⟩ g5 g6
 |space m' g1 g2 g3=>exact .space m' ⟨h.core,g1,g2,g3.mono AA AA AA AA (AV _),hn2,h.c1,h.e1⟩
 |down s' m' g1 g2 g3 g4=>exact .down s' m' ⟨g1,g2,Vh (z:=z+1) (g3.mono AA AA) hn2 hk hz⟩ g4
theorem Ig.after{c e k z:Nat}{s:AM}{now:List AO}{lk:Int→Option (List AO)}{q:Int×AM×AJ}(h:Ig c e k z s now lk q)(hk:k+8199≤32768)(hz:z+1≤2):NP (c+1) e now lk s.given q.2.1 q.2.2:=by
 cases h with
 |ok s' m' h hm hg=>exact .run s' m' (h.run hk hz) hg
 |space m' h=>exact .run s m' (h.run hk hz) rfl
 |down s' m' h _=>exact .down s' m' h
theorem tO{c e:Nat}{s:AM}{m:AJ}{now:List AO}{lk:Int→Option (List AO)}(h:H7 c e 2 0 s m now lk){s2:AM}{m2:AJ}(hf:H3 s m s2 m2):NP (c+1) e now lk s.given s2 m2:=by
 cases hf with
 |no _=>exact .run s m (h.run AA AA) rfl
 |fl mk hp _=>exact(J9 h AA AA hp).after AA AA
 |co mk hp _ s1 m1 h0 r seen mk2 r1 r2 r3 r4=>
  have h1:=J9 h AA AA hp;rw[h0]at h1;cases h1 with
  |ok _ _ h2 hm hg=>
   have h3:=(Wa h2 hm AA AA r1 r2 r3 r4).after AA AA;rw[hg]at h3;exact h3
theorem tP{c e k z:Nat}{s:AM}{m:AJ}{now:List AO}{lk:Int→Option (List AO)}(h:H7 c e k z s m now lk)(hk:k+8199≤32768)(hz:z+1≤2):NT s m:=by
 have he:=h.e1;have hc:=h.c1;refine⟨_,_,h.core.wrN h.bud AA AA AA AA AA ⟨AA,AA⟩,λmk hp=>?_⟩;have h1:=J9 h hk hz hp;generalize By s m mk=q at h1;cases h1 with
 |ok s' m' h2 hm hg=>
  have hcn:=h2.core.cnt;exact⟨by show s'.v.files.length≤_;omega,λ_=>⟨_,_,h2.core.wrN h2.bud AA AA AA AA AA ⟨AA,AA⟩,h2.core.co AA (by have:=h2.bud.sn;omega)⟩⟩
 |space m' h2=>
  have hcn:=h2.core.cnt;exact⟨by show s.v.files.length≤_;omega,λh6=>by cases h6⟩
 |down s' m' h2 hl=>exact⟨by show s'.v.files.length≤_;omega,λh6=>by cases h6⟩
theorem vW{s:AM}{ops:List Ac}(h1:0≤s.seq∧s.seq+1≤4611686018427387904)(h2:Ap ops≤4096):Bc [B0 (s.seq+1) ops]=true∧(AQ [B0 (s.seq+1) ops]).length≤16384:=by
 have hpl:=M8 (s.seq+1) ops ⟨AA,AA⟩ AA;refine⟨by unfold Bc;simp;omega,by rw[Ds];simp[BG];omega⟩
inductive Nl(c e:Nat)(s:AM)(ops:List Ac)(now:List AO)(lk:Int→Option (List AO)):Int×BF×AJ→Prop where
 |ok (g':BF) (m1:AJ) (h:H7 c (e+ops.length) 2 0 (Gu s g' ops) m1 (Cf now ops) lk):Nl c e s ops now lk (0,g',m1)
 |space (g':BF) (m1:AJ) (hg:s.log=some g') (h:Rn (c+1) e s m1 now lk):Nl c e s ops now lk (6,g',m1)
 |down (g':BF) (m1:AJ) (h:Dn (c+1) (e+ops.length) m1 λr=>r=now∨r=Cf now ops):Nl c e s ops now lk (7,g',m1)
set_option maxRecDepth 4000 in
theorem SF{c e:Nat}{s:AM}{m:AJ}{now:List AO}{lk:Int→Option (List AO)}(h:Rn c e s m now lk){ops:List Ac}(hsz:Ap ops≤4096)(he:e+ops.length≤262144)(hc:c+1≤7000000){g:BF}(hg:s.log=some g):Nl c e s ops now lk (appL m g [B0 (s.seq+1) ops]):=by
 obtain⟨g0,hg0,hgl⟩:=h.bud.log;rw[hg]at hg0;cases hg0;have hs0:=h.core.seq;have hs1:=h.bud.seq;have hc1:=h.c1;have he1:=h.e1;have hnm:=h.core.wname g hg;have hwl:=h.core.wal;have hw0:=h.core.good.nn;have hnx:=h.bud.next;have hnf:=h.nf;obtain⟨hok,hsl⟩:=vW (s:=s) (ops:=ops) ⟨hs0,AA⟩ hsz;obtain⟨a1,a2,a3,a4,a5⟩:=Tl h.off hgl hok AB;have hft:=h.bud.ft.appL g [B0 (s.seq+1) ops] AA;have hcn:=Tk m g [B0 (s.seq+1) ops]
 obtain⟨j,es,gl,bs,hD,hbl⟩:=h.dk;have hlog:=hD.log;have hg0:(AN m g.name).getD ([],0)=(AQ (Ab bs),(AQ (Ab bs)).length):=by rw[hnm];exact hlog
 rw[hg0]at a4 a5;obtain⟨gw,hgw,hgw2⟩:=h.bud.list;have hcore:=λg'(hgn:g'.name=Aa s.v.wal)=>h.core.take (m1:=EX) ops g' PK hgn (ON _) hsz AA AA;have hne1: ∀F:DD,(∀k,k≠Aa s.v.wal→F k=AN m k)→F (Aa s.v.wal)=AN m (Aa s.v.wal)→F=AN m:=λF h1 h2=>by
  funext k
  by_cases hk:k=Aa s.v.wal
  ·rw[hk];exact h2
  ·exact h1 k hk
 have hc1':Cz (c+1) (e+ops.length) s.v s.tabs bs now:=(hD.cont h.core AA AA AA).mono (AV _) AA;have hctk: ∀(F:DD),(∀k,k≠Aa s.v.wal→F k=AN m k)→F (Aa s.v.wal)=some (AQ (Ab bs)++AQ [B0 (s.seq+1) ops],(AQ (Ab bs)++AQ [B0 (s.seq+1) ops]).length)→Dk (e+ops.length) (Gu s g ops) F j es gl (bs++[(s.seq+1,ops)]):=λF h1 h2=>hD.took AA ⟨hs0,AA⟩ hsz hwl hw0.1 AA hok h1 h2;have hc2':Cz (c+1) (e+ops.length) s.v s.tabs (bs++[(s.seq+1,ops)]) (Cf now ops):=by
  have hF:=hctk (λk=>if k=Aa s.v.wal then some (AQ (Ab bs)++AQ [B0 (s.seq+1) ops],(AQ (Ab bs)++AQ [B0 (s.seq+1) ops]).length)else AN m k) (λk hk=>by simp only[if_neg hk]) (by simp only[if_true]);exact hF.cont (hcore g hnm) (by show s.v.next≤_;omega) (by show s.seq+1≤_;omega) (by rw[AP,D4];omega)
 generalize appL m g [B0 (s.seq+1) ops]=q at a1 a2 a3 a4 a5 hft hcn⊢;obtain⟨e1,g1,m1⟩:=q;simp only at a1 a2 a3 a4 a5 hft hcn⊢;rcases a2 with rfl|rfl|rfl
 ·obtain⟨rfl,a6⟩:=a4 rfl;rw[hnm]at a1 a6;have f1:FT (c*274877906944+2+0*2097152) (536870912+c*150000+16384+0*65544) m1:=hft.mono (AV _) (Nat.add_le_add_left hsl _);have f2:m1.files.length≤c*32768+2:=Au hcn (Nat.add_le_add_right hnf 2);have f3:s.v.next≤((c*2097152+0*262146:Nat):Int):=by rw[Nat.zero_mul,Nat.add_zero];exact h.bud.next
  have f4:s.seq+1≤((c+1:Nat):Int):=AA;have f5:s.given≤((c+1:Nat):Int):=by have:=h.bud.given;omega
  have f6:s.seqs.length≤c+1:=by have:=h.bud.sn;omega
  have f7:GM {g with n:=g.n+[B0 (s.seq+1) ops].length} (4200+4*c+1+0):=⟨hgl.torn,hgl.dead,hgl.name,Nat.add_le_add_right hgl.num 1⟩;refine .ok _ m1 ⟨hcore _ hnm,a1.up' AC,⟨j,es,gl,bs++[(s.seq+1,ops)],?_,by rw[AP,D4];omega⟩,⟨f1,f3,f4,f5,f6,⟨gw,hgw,hgw2.mono AA⟩,⟨_,rfl,f7⟩⟩,f2,hc,he⟩;have:=hctk (AN m1) (λk hk=>a1.same k hk) a6;exact{this with}
 ·obtain⟨rfl,a6⟩:=a3 rfl;rw[hnm]at a1 a6;refine .space _ m1 hg ⟨h.core,a1.up' AC,?_,{(h.bud.mono (A':=(c+1)*274877906944) (T':=536870912+(c+1)*150000) (X':=(c+1)*2097152) (N':=4200+4*(c+1)) (Q':=c+1) AA AA AA AA AA)with ft:=hft.mono AA AA},AA,hc,he1⟩;have:=hne1 (AN m1) (λk hk=>a1.same k hk) a6;exact⟨j,es,gl,bs,by rw[this];exact hD,AA⟩
 ·rw[hnm]at a1 a5;refine .down _ m1 ⟨a1.down.2 rfl,?_,⟨hft.mono AA AA,AA⟩⟩;have hDm:=hD.mono (e':=e+ops.length) AA;rcases a5 with a5|a5|a5
  ·have:=hne1 (AN m1) (λk hk=>a1.same k hk) a5;rw[this];exact(Fd.rec (.inr ⟨j,hDm.fdl⟩) hc1').mono (AV _) (AV _) λ_ h=> .inl h
  ·exact hDm.recLog (b:=(s.seq+1,ops)) hc1' hc2' hok (λk hk=>a1.same k hk) a5 (AV _)
  ·exact hDm.recLog (b:=(s.seq+1,ops)) hc1' hc2' hok (λk hk=>a1.same k hk) a5 (by rw[AP];omega)
theorem N2{e:Nat}{s:AM}{m m0:AJ}{now:List AO}{lk:Int→Option (List AO)}(h:BH e s m0 now lk)(ho:m.off=false){z:Int}(hz:z≠7):Dj s m z=(z,s):=by
 unfold Dj;rw[h.dead,ho];rw[if_neg (by simp[hz])];have:=h.dead;cases s;simp only at this;subst this
 rfl
theorem QL{s:AM}{m:AJ}(ho:m.off=true)(z:Int):Dj s m z=(7,{s with dead:=true}):=by
 unfold Dj;rw[ho,if_pos AB]
inductive MP(c e:Nat)(ops:List Ac)(now:List AO)(lk:Int→Option (List AO))(gv:Int):Int→AM→AJ→Prop where
 |ok (s:AM) (m:AJ) (hl:Ap ops≤4096) (h:Rn (c+1) (e+ops.length) s m (Cf now ops) lk) (hg:s.given=gv):MP c e ops now lk gv 0 s m
 |long (s:AM) (m:AJ) (hl:4096<Ap ops) (h:Rn c e s m now lk) (hg:s.given=gv):MP c e ops now lk gv 2 s m
 |space (s:AM) (m:AJ) (h:Rn (c+1) e s m now lk) (hg:s.given=gv):MP c e ops now lk gv 6 s m
 |down (s:AM) (m:AJ) (hd:s.dead=true) (h:Dn (c+1) (e+ops.length) m λr=>r=now∨r=Cf now ops):MP c e ops now lk gv 7 s m
theorem Dn.mono{c e:Nat}{m:AJ}{S S':List AO→Prop}(h:Dn c e m S)(hs: ∀r,S r→S' r):Dn c e m S':=⟨h.off,h.found.mono (AV _) (AV _) hs,h.fs⟩
theorem zN{c e:Nat}{s:AM}{m:AJ}{now:List AO}{lk:Int→Option (List AO)}(h:Rn c e s m now lk){ops:List Ac}(he:e+ops.length≤262144)(hc:c+1≤7000000){r:Int}{s':AM}{m':AJ}(hw:IC s m ops r s' m'):MP c e ops now lk s.given r s' m':=by
 cases hw with
 |down hd=>rw[h.down]at hd;cases hd
 |long hd hl=>exact .long s m hl h rfl
 |none hd hn=>
  subst hn;exact .ok s m (Ag _) (h.more AA AA hc AA) rfl
 |bad hd h1 h2 g g' m1 e1 hg ha hne=>
  have ht:=SF h h1 he hc hg;rw[ha]at ht;cases ht with
  |ok=>exact absurd rfl hne
  |space _ _ hg' hr=>
   have e:({s with log:=some g'}:AM)=s:=by cases s;simp only at hg';rw[hg']
   rw[e,N2 h.core hr.off AC];exact .space s _ hr rfl
  |down _ _ hr=>
   rw[QL hr.off];exact .down _ _ rfl hr
 |ok hd h1 h2 g g' m1 hg ha s2 m2 hf=>
  have ht:=SF h h1 he hc hg;rw[ha]at ht;cases ht with
  |ok _ _ hm=>
   have h3:=tO hm hf;cases h3 with
   |run h4 h5=>
    rw[N2 h4.core h4.off AC];exact .ok _ _ h1 h4 h5
   |down h4=>
    rw[QL h4.off];exact .down _ _ rfl (h4.mono λ_ h=>Or.inr h)
theorem zM{c e:Nat}{s:AM}{m:AJ}{now:List AO}{lk:Int→Option (List AO)}(h:Rn c e s m now lk){ops:List Ac}(he:e+ops.length≤262144)(hc:c+1≤7000000)(hsz:Ap ops≤4096){g g':BF}{m1:AJ}(hg:s.log=some g)(ha:appL m g [B0 (s.seq+1) ops]=(0,g',m1)):NT (Gu s g' ops) m1:=by
 have ht:=SF h hsz he hc hg;rw[ha]at ht;cases ht with
 |ok _ _ hm=>exact tP hm AA AA
theorem Rn.md{c e:Nat}{s:AM}{m:AJ}{now:List AO}{lk:Int→Option (List AO)}(h:Rn c e s m now lk)(hc:c+1≤7000000):H7 c e 2 0 s m now lk:=
 ⟨h.core,h.off,h.dk.mono (AV _) (Dz _),h.bud.mono AA AA AA AA (Dz _),Au h.nf (Nat.le_add_right _ _),hc,h.e1⟩
inductive Ii(c e:Nat)(now:List AO)(lk:Int→Option (List AO))(gv:Int):Int→AM→AJ→Prop where
 |run (z:Int) (hz:z=0∨z=6) (s:AM) (m:AJ) (h:Rn (c+1) e s m now lk) (hg:s.given=gv):Ii c e now lk gv z s m
 |down (s:AM) (m:AJ) (hd:s.dead=true) (h:Dn (c+1) e m (· =now)):Ii c e now lk gv 7 s m
theorem Ig.done{c e k z:Nat}{s:AM}{now:List AO}{lk:Int→Option (List AO)}{q:Int×AM×AJ}(h:Ig c e k z s now lk q)(hk:k+8199≤32768)(hz:z+1≤2):Ii c e now lk s.given (Dj q.2.1 q.2.2 q.1).1 (Dj q.2.1 q.2.2 q.1).2 q.2.2:=by
 cases h with
 |ok s' m' h hm hg=>
  have h1:=h.run hk hz;show Ii c e now lk s.given (Dj s' m' 0).1 (Dj s' m' 0).2 m';rw[N2 h1.core h1.off AC];exact .run 0 (.inl rfl) s' m' h1 hg
 |space m' h=>
  have h1:=h.run hk hz;show Ii c e now lk s.given (Dj s m' 6).1 (Dj s m' 6).2 m';rw[N2 h1.core h1.off AC];exact .run 6 (.inr rfl) s m' h1 rfl
 |down s' m' h _=>
  simp only;rw[QL h.off];exact .down _ m' rfl h
theorem rC{c e:Nat}{s:AM}{m:AJ}{now:List AO}{lk:Int→Option (List AO)}(h:Rn c e s m now lk)(hc:c+1≤7000000){r:Int}{s':AM}{m':AJ}(hw:MC s m r s' m'):Ii c e now lk s.given r s' m':=by
 cases hw with
 |down hd=>rw[h.down]at hd;cases hd
 |up hd mk hp e1 s1 m1 h0=>
  have h1:=(J9 (h.md hc) AA AA hp).done AA AA;rw[h0]at h1;exact h1
theorem cG{c e:Nat}{s:AM}{m:AJ}{now:List AO}{lk:Int→Option (List AO)}(h:Rn c e s m now lk)(hc:c+1≤7000000){r:Int}{s':AM}{m':AJ}(hw:Jj s m r s' m'):Ii c e now lk s.given r s' m':=by
 cases hw with
 |down hd=>rw[h.down]at hd;cases hd
 |bad hd mk hp e1 s1 m1 h0 hne=>
  have h1:=(J9 (h.md hc) AA AA hp).done AA AA;rw[h0]at h1;exact h1
 |up hd mk hp s1 m1 h0 r seen mk2 r1 r2 r3 r4 e2 s2 m2 h5=>
  have h1:=J9 (h.md hc) AA AA hp;rw[h0]at h1;cases h1 with
  |ok _ _ h2 hm hg=>
   have h3:=(Wa h2 hm AA AA r1 r2 r3 r4).done AA AA;rw[h5,hg]at h3;exact h3
def Ch(sb f c e:Nat)(gv:Int)(now:List AO)(lk:CH)(L:AH):Prop:=∃s m,AW sb f s m L∧Rn c e s m now lk∧s.given=gv
def Nh(sb f c e:Nat)(S:List AO→Prop)(L:AH):Prop:=∃s m,AW sb f s m L∧s.dead=true∧Dn c e m S
theorem Ch.more{sb f c c' e e':Nat}{gv:Int}{now:List AO}{lk:CH}{L:AH}(h:Ch sb f c e gv now lk L)(hc:c≤c')(he:e≤e')(hc1:c'≤7000000)(he1:e'≤262144):Ch sb f c' e' gv now lk L:=by
 obtain⟨s,m,h1,h2,h3⟩:=h;exact⟨s,m,h1,h2.more hc he hc1 he1,h3⟩
theorem BH.rdN{e A T X N Q:Nat}{s:AM}{m:AJ}{now:List AO}{lk:Int→Option (List AO)}(h:BH e s EX now lk)(hb:DN A T X N Q s m)(he:e≤1048576)(hX:X≤1152921504606846976):Hd s:=by
 have h1:=h.cnt;have h2:=h.num;refine⟨h.mem.rise,h.mem.seqs,λx hx=>(h.tab x hx).1,h.one,AA,AA,λx hx=>?_⟩;have h3:=h.keys.2 x.1 (CD hx);have h4:=hb.next;omega
theorem Rn.rd{c e:Nat}{s:AM}{m:AJ}{now:List AO}{lk:CH}(h:Rn c e s m now lk):Hd s:=h.core.rdN h.bud (by have:=h.e1;omega) (by have:=h.c1;omega)
theorem Rn.tabRise{c e:Nat}{s:AM}{m:AJ}{now:List AO}{lk:CH}(h:Rn c e s m now lk): ∀x∈s.tabs,Az x.2:=λx hx=>(h.core.tab x hx).1.rise
inductive MD(sb f c e:Nat)(gv:Int)(ops:List Ac)(now:List AO)(lk:CH)(w:World)(T0:List Nat):Value→World→Prop where
 |ok (L':AH) (w':World) (hl:Ap ops≤4096) (h:Ch sb f (c+1) (e+ops.length) gv (Cf now ops) lk L') (hS:St w T0 L' w'):MD sb f c e gv ops now lk w T0 (.int .i64 0) w'
 |long (L':AH) (w':World) (hl:4096<Ap ops) (h:Ch sb f c e gv now lk L') (hS:St w T0 L' w'):MD sb f c e gv ops now lk w T0 (.int .i64 2) w'
 |space (L':AH) (w':World) (h:Ch sb f (c+1) e gv now lk L') (hS:St w T0 L' w'):MD sb f c e gv ops now lk w T0 (.int .i64 6) w'
 |down (L':AH) (w':World) (h:Nh sb f (c+1) (e+ops.length) (λr=>r=now∨r=Cf now ops) L') (hS:St w T0 L' w'):MD sb f c e gv ops now lk w T0 (.int .i64 7) w'
theorem ZI{w:World}{sb f c e:Nat}{gv:Int}{now:List AO}{lk:CH}{L:AH}(h:Ch sb f c e gv now lk L)(hh:Holds L w)(hG:Bp w (keys L)){a:Option Addr}{cp:Nat}{ops:List Ac}(ha:Arr w (keys L) a (ops.flatMap A8))(hl:Ap ops≤1099511627776)(he:e+ops.length≤262144)(hc:c+1≤7000000):
  Cl Tryz.prog OG [ptr sb,.slice a ops.length cp] w λv w'=>MD sb f c e gv ops now lk w (keys L) v w':=by
 obtain⟨s,m,hO,hI,rfl⟩:=h;obtain⟨g,hg,hgl⟩:=hI.bud.log;have hcnt:=hI.core.cnt;have hsq:=hI.bud.seq;have had:=hI.core.adds;have hgn:=hgl.num;have hsz:An s.mem≤549755813888:=by
  have h1:=NK 4096 s.mem hI.core.mem.sz;have h2:4096*s.mem.length≤4096*262144:=Nat.mul_le_mul_left _ AA;omega
 refine(Pg hO hh hG ha hl hI.bud.ft AA AA hg AA hI.core.mem.rise hsz AA AA ⟨hI.core.seq,AA⟩ ?_).mono ?_
 ·intro g' m1 h1 h2 h3 h4;exact zM hI he hc h1 hg h4
 ·rintro v w'⟨r,s',m',L',hw,rfl,hO',hS⟩;have h1:=zN hI he hc hw;cases h1 with
  |ok _ _ hl h hg=>exact .ok L' w' hl ⟨_,_,hO',h,hg⟩ hS
  |long _ _ hl h hg=>exact .long L' w' hl ⟨_,_,hO',h,hg⟩ hS
  |space _ _ h hg=>exact .space L' w' ⟨_,_,hO',h,hg⟩ hS
  |down _ _ hd h=>exact .down L' w' ⟨_,_,hO',hd,h⟩ hS
theorem ZE{w:World}{sb f c e:Nat}{gv:Int}{now:List AO}{lk:CH}{L:AH}(h:Ch sb f c e gv now lk L)(hh:Holds L w)(k:AE)(hk:k.length≤1099511627776):
  Cl Tryz.prog Qd [ptr sb,AG k] w λv w'=>v= .tuple ⟨[AG ((FV now k).getD []),.bool (FV now k).isSome,.int .i64 0]⟩∧St w (keys L) L w':=by
 obtain⟨s,m,hO,hI,rfl⟩:=h;refine(Sz hO hh k hk hI.rd).mono ?_;rintro v w'(⟨hd, -⟩|⟨-,b,hb,rfl,hS⟩)
 ·rw[hI.down]at hd;cases hd
 ·obtain⟨h1,h2⟩:=Qv hI.core.mem.rise hI.tabRise hI.core.one hI.core.fine hb hI.core.view;rw[h1,h2];exact⟨rfl,hS⟩
theorem Sx{w:World}{sb f c e:Nat}{gv:Int}{now:List AO}{lk:CH}{L:AH}(h:Ch sb f c e gv now lk L)(hh:Holds L w)(k to:AE):
  Cl Tryz.prog OF [ptr sb,AG k,AG to] w λv w'=>∃a cp Lv,v= .tuple ⟨[.slice a ((now.filter (Eh k to)).map DM).length cp,.int .i64 0]⟩∧AT Bn 3 a ((now.filter (Eh k to)).map DM).length cp (((now.filter (Eh k to)).map DM).flatMap A8) Lv∧St w (keys L) (Lv++L) w':=by
 obtain⟨s,m,hO,hI,rfl⟩:=h;refine(Ph hO hh k to hI.rd).mono ?_;rintro v w'(⟨hd, -⟩|⟨-,ops,hs,a,cp,Lv,rfl,hv,hS⟩)
 ·rw[hI.down]at hd;cases hd
 ·obtain rfl:=R3 hs hI.core.view;exact⟨a,cp,Lv,rfl,hv,hS⟩
theorem Ts{c e:Nat}{s:AM}{m:AJ}{now:List AO}{lk:CH}(h:Rn c e s m now lk)(n:Int):(DX s m n).2=E6 lk n∧(ID s m=s)∧((DX s m n).2=0→ ∃rs,lk n=some rs∧Bf (BZ s) (DX s m n).1 rs):=by
 have hd:=h.down;have hl:=h.core.looks n;unfold E6;rw[←RK h.core n];unfold C5 at hd;refine⟨?_,Ns h.down,?_⟩
 ·unfold DX;rw[hd];cases Al n s.seqs<;>rfl
 ·unfold DX;rw[hd];cases hk:Al n s.seqs with
  |none=>intro h0;cases h0
  |some q=>rw[hk]at hl;intro _;exact hl
theorem ZF{w:World}{sb f c e:Nat}{gv:Int}{now:List AO}{lk:CH}{L:AH}(h:Ch sb f c e gv now lk L)(hh:Holds L w)(n:Int)(k:AE)(hk:k.length≤1099511627776):
  Cl Tryz.prog Qe [ptr sb,.int .i64 n,AG k] w λv w'=>v= .tuple ⟨[AG ((FV ((lk n).getD []) k).getD []),.bool (FV ((lk n).getD []) k).isSome,.int .i64 (E6 lk n)]⟩∧ ∃L',Ch sb f c e gv now lk L'∧St w (keys L) L' w':=by
 obtain⟨s,m,hO,hI,rfl⟩:=h;obtain⟨h1,h2,h3⟩:=Ts hI n;refine(Sy hO hh n k hk hI.rd).mono ?_;rintro v w'(⟨hd,rfl,L',hO',hS⟩|⟨hd,b,hb,rfl,L',hO',hS⟩)
 ·rw[h2]at hO';rw[h1]at hd⊢;have hn:lk n=none:=by
   unfold E6 at hd;cases hl:lk n with
   |none=>rfl
   |some rs=>rw[hl]at hd;exact absurd rfl hd
  rw[hn];exact⟨rfl,L',⟨s,m,hO',hI,rfl⟩,hS⟩
 ·obtain⟨rs,h4,h5⟩:=h3 hd;obtain⟨h6,h7⟩:=Qv hI.core.mem.rise hI.tabRise hI.core.one hI.core.fine hb h5;rw[←h1,hd,h6,h7,h4];exact⟨rfl,L',⟨s,m,hO',hI,rfl⟩,hS⟩
theorem ZG{w:World}{sb f c e:Nat}{gv:Int}{now:List AO}{lk:CH}{L:AH}(h:Ch sb f c e gv now lk L)(hh:Holds L w)(n:Int)(k to:AE):
  Cl Tryz.prog U3 [ptr sb,.int .i64 n,AG k,AG to] w λv w'=>∃a cp Lv L',v= .tuple ⟨[.slice a ((((lk n).getD []).filter (Eh k to)).map DM).length cp,.int .i64 (E6 lk n)]⟩∧AT Bn 3 a ((((lk n).getD []).filter (Eh k to)).map DM).length cp (((((lk n).getD []).filter (Eh k to)).map DM).flatMap A8) Lv∧Ch sb f c e gv now lk L'∧St w (keys L) (Lv++L') w':=by
 obtain⟨s,m,hO,hI,rfl⟩:=h;obtain⟨h1,h2,h3⟩:=Ts hI n;refine(Z2 hO hh n k to hI.rd).mono ?_;rintro v w'(⟨hd,rfl,L',hO',hS⟩|⟨hd,ops,hs,a,cp,Lv,rfl,hv,L',hO',hS⟩)
 ·rw[h2]at hO';rw[h1]at hd⊢;have hn:lk n=none:=by
   unfold E6 at hd;cases hl:lk n with
   |none=>rfl
   |some rs=>rw[hl]at hd;exact absurd rfl hd
  rw[hn];exact⟨none,0,[],L',rfl,AT.nil,⟨s,m,hO',hI,rfl⟩,hS⟩
 ·obtain⟨rs,h4,h5⟩:=h3 hd;obtain rfl:=R3 hs h5;rw[←h1,hd,h4];exact⟨a,cp,Lv,L',rfl,hv,⟨s,m,hO',hI,rfl⟩,hS⟩
theorem Gw.looks{e B:Nat}{s:AM}{m:AJ}(h:Gw e s m B)(g:Int)(q:List (Int×Int)):Gw e {s with given:=g,seqs:=q} m B:=by
 obtain⟨j,es,gl,bs,hD,hl⟩:=h;exact⟨j,es,gl,bs,{hD with},hl⟩
theorem xN{c e:Nat}{s:AM}{m:AJ}{now:List AO}{lk:CH}(h:Rn c e s m now lk)(hc:c+1≤7000000):Rn (c+1) e (O9 s) m now (λn=>if n=s.given+1 then some now else lk n):=by
 have hb:=h.bud.mono (A':=(c+1)*274877906944) (T':=536870912+(c+1)*150000) (X':=(c+1)*2097152) (N':=4200+4*(c+1)) (Q':=c+1) AA AA AA AA AA;have hg:=h.core.given;have hgb:=h.bud.given;have hsb:=h.bud.sn;have hl:=JY (s.given+1) s.seq s.seqs;refine⟨{h.core with given:=?_,sqn:=?_,sqnd:=Mq h.core.sqnd,looks:=?_},h.off,(h.dk.mono (AV _) (Dz _)).looks _ _,⟨hb.ft,hb.next,hb.seq,?_,?_,hb.list,hb.log⟩,Au h.nf AA,hc,h.e1⟩
 ·show 0≤s.given+1;omega
 ·intro x hx;show 1≤x.1∧x.1≤s.given+1∧x.2≤s.seq;rcases IP hx with rfl|hx
  ·simp only;omega
  ·have:=h.core.sqn x hx;omega
 ·intro n;show match Al n (Ba (s.given+1) s.seq s.seqs)with
   |some q=>∃rs,(if n=s.given+1 then some now else lk n)=some rs∧Bf (BZ s) q rs
   |none=>(if n=s.given+1 then some now else lk n)=none
  rw[G6];by_cases hn:n=s.given+1
  ·rw[if_pos hn,if_pos hn];exact⟨now,rfl,h.core.view⟩
  ·rw[if_neg hn,if_neg hn];exact h.core.looks n
 ·show s.given+1≤_;omega
 ·show(Ba (s.given+1) s.seq s.seqs).length≤_;omega
theorem ZH{w:World}{sb f c e:Nat}{gv:Int}{now:List AO}{lk:CH}{L:AH}(h:Ch sb f c e gv now lk L)(hh:Holds L w)(hc:c+1≤7000000):
  Cl Tryz.prog Qf [ptr sb] w λv w'=>v= .int .i64 (gv+1)∧ ∃L',Ch sb f (c+1) e (gv+1) now (λn=>if n=gv+1 then some now else lk n) L'∧St w (keys L) L' w':=by
 obtain⟨s,m,hO,hI,rfl⟩:=h;have hg:=hI.bud.given;refine(TP hO hh hI.core.given AA).mono ?_;rintro v w'⟨rfl,L',hO',hS⟩;exact⟨rfl,L',⟨_,m,hO',xN hI hc,rfl⟩,hS⟩
theorem rJ{c e:Nat}{s:AM}{m:AJ}{now:List AO}{lk:CH}(h:Rn c e s m now lk)(n:Int):(Jw s n).1=(if(lk n).isSome then 0 else 3)∧Rn c e (Jw s n).2 m now (λk=>if k=n then none else lk k)∧(Jw s n).2.given=s.given:=by
 have hls:=RK h.core n;unfold Jw;rw[hls];cases hk:(lk n).isSome with
 |false=>
  have hn:lk n=none:=by simpa using hk
  have he:(λk=>if k=n then none else lk k)=lk:=by
   funext k
   by_cases h1:k=n
   ·rw[if_pos h1,h1,hn]
   ·rw[if_neg h1]
  rw[he];exact⟨rfl,h,rfl⟩
 |true=>
  have hsub:=GZ n s.seqs;refine⟨rfl,⟨{h.core with sqn:=λx hx=>h.core.sqn x (hsub.mem hx),sqnd:=OX h.core.sqnd,looks:=?_},h.off,h.dk.looks _ _,⟨h.bud.ft,h.bud.next,h.bud.seq,h.bud.given,?_,h.bud.list,h.bud.log⟩,h.nf,h.c1,h.e1⟩,rfl⟩
  ·intro k;show match Al k (Co n s.seqs)with
    |some q=>∃rs,(if k=n then none else lk k)=some rs∧Bf (BZ s) q rs
    |none=>(if k=n then none else lk k)=none
   rw[J7 _ _ h.core.sqnd];by_cases hkn:k=n
   ·rw[if_pos hkn,if_pos hkn]
   ·rw[if_neg hkn,if_neg hkn];exact h.core.looks k
  ·have:=h.bud.sn;have:=hsub.length_le;show(Co n s.seqs).length≤_;omega
theorem ZD{w:World}{sb f c e:Nat}{gv:Int}{now:List AO}{lk:CH}{L:AH}(h:Ch sb f c e gv now lk L)(hh:Holds L w)(n:Int):
  Cl Tryz.prog U9 [ptr sb,.int .i64 n] w λv w'=>v= .int .i64 (E6 lk n)∧ ∃L',Ch sb f c e gv now (λk=>if k=n then none else lk k) L'∧St w (keys L) L' w':=by
 obtain⟨s,m,hO,hI,rfl⟩:=h;refine(Y8 hO hh n).mono ?_;rintro v w'⟨rfl,L',hO',hS⟩;obtain⟨h1,h2,h3⟩:=rJ hI n;exact⟨by rw[h1];rfl,L',⟨_,m,hO',h2,h3⟩,hS⟩
inductive Jl(sb f c e:Nat)(gv:Int)(now:List AO)(lk:CH)(w:World)(T0:List Nat):Value→World→Prop where
 |run (z:Int) (hz:z=0∨z=6) (L':AH) (w':World) (h:Ch sb f (c+1) e gv now lk L') (hS:St w T0 L' w'):Jl sb f c e gv now lk w T0 (.int .i64 z) w'
 |down (L':AH) (w':World) (h:Nh sb f (c+1) e (· =now) L') (hS:St w T0 L' w'):Jl sb f c e gv now lk w T0 (.int .i64 7) w'
theorem Ii.out{c e sb f:Nat}{now:List AO}{lk:CH}{gv:Int}{r:Int}{s':AM}{m':AJ}(h:Ii c e now lk gv r s' m'){L':AH}(hO:AW sb f s' m' L'){w w':World}{T0:List Nat}(hS:St w T0 L' w'):Jl sb f c e gv now lk w T0 (.int .i64 r) w':=by
 cases h with
 |run _ hz _ _ h hg=>exact .run _ hz L' w' ⟨_,_,hO,h,hg⟩ hS
 |down _ _ hd h=>exact .down L' w' ⟨_,_,hO,hd,h⟩ hS
theorem ZC{w:World}{sb f c e:Nat}{gv:Int}{now:List AO}{lk:CH}{L:AH}(h:Ch sb f c e gv now lk L)(hh:Holds L w)(hG:Bp w (keys L))(hc:c+1≤7000000):
  Cl Tryz.prog Qc [ptr sb] w λv w'=>Jl sb f c e gv now lk w (keys L) v w':=by
 obtain⟨s,m,hO,hI,rfl⟩:=h;have he:=hI.e1;refine(TR hO hh hG λ_=>hI.core.wrN hI.bud AA AA AA AA AA ⟨AA,AA⟩).mono ?_;rintro v w'⟨r,s',m',L',hw,rfl,hO',hS⟩;exact(rC hI hc hw).out hO' hS
theorem ZA{w:World}{sb f c e:Nat}{gv:Int}{now:List AO}{lk:CH}{L:AH}(h:Ch sb f c e gv now lk L)(hh:Holds L w)(hG:Bp w (keys L))(hc:c+1≤7000000):
  Cl Tryz.prog Qb [ptr sb] w λv w'=>Jl sb f c e gv now lk w (keys L) v w':=by
 obtain⟨s,m,hO,hI,rfl⟩:=h;have he:=hI.e1;refine(TQ hO hh hG (λ_=>hI.core.wrN hI.bud AA AA AA AA AA ⟨AA,AA⟩) ?_).mono ?_
 ·intro mk _ hp h0;have h1:=J9 (hI.md hc) AA AA hp;generalize By s m mk=q at h0 h1;cases h1 with
  |ok s' m' h2 hm hg=>exact⟨_,_,h2.core.wrN h2.bud AA AA AA AA AA ⟨AA,AA⟩,h2.core.co AA (by have:=h2.bud.sn;omega)⟩
  |space m' h2=>cases h0
  |down s' m' h2 hl=>cases h0
 ·rintro v w'⟨r,s',m',L',hw,rfl,hO',hS⟩;exact(cG hI hc hw).out hO' hS
def Zp(t:AE)(r:Value)(w w':World):Prop:=∃v k a c L,r= .tuple ⟨[.agg ⟨DC a c v⟩,.int .i64 (k:Nat)]⟩∧Dt a c v L∧St w [] L w'∧Rd t Cu 0 (v,k)
structure Zk where
 v:VM
 k:Nat
 a:Option Addr
 c:Nat
set_option maxRecDepth 4000 in
theorem Zq{w:World}{t:AE}(ht:t.length≤1099511627776)(hN: ∀x j,Rt t Cu 0 x j→x.files.length≤8388608):
  Cl Tryz.prog mW [AG t] w λr w'=>Zp t r w w':=by
 have hS:=St.start w;refine eT rfl ?_;refine jq ⟨?_⟩;refine hS.al ?_;intro b2 w1 _ hS;refine jq ⟨?_⟩;refine hS.al ?_;intro b4 w2 _ hS;refine jq ⟨?_⟩;have hS:St w [] ([]++[(b4,.cells ⟨[.slice none 0 0,.int .i64 0,.int .i64 0,.int .i64 0]⟩ Ee (0,0)),(b2,.cells ⟨[.slice none 0 0,.int .i64 0,.int .i64 0,.int .i64 0]⟩ Ee (0,0))]) w2:=hS;refine AL.loop (λz:Zk=>[(0,AG t),(2,ptr b2),(4,ptr b4),(5,.int .i64 z.k)])
  (λz w'=>(z.k≤t.length∧Rt t Cu 0 z.v z.k∧ ∀X,Rd t z.v z.k X→Rd t Cu 0 X)∧ ∃L,Dt z.a z.c z.v L∧St w [] (L++[(b4,.cells ⟨[.slice z.a z.v.files.length z.c,.int .i64 z.v.wal,.int .i64 z.v.next,.int .i64 z.v.seq]⟩ Ee (0,0)),(b2,.cells ⟨[.slice none 0 0,.int .i64 0,.int .i64 0,.int .i64 0]⟩ Ee (0,0))]) w') (λz=>t.length-z.k) ⟨Cu,0,none,0⟩
  ⟨rfl,rfl,rfl,rfl,trivial⟩ ⟨⟨Ag _,.refl _ _,λX h=>h⟩,[],Dt.zero,hS⟩ ?_
 clear hS;rintro⟨v1,k,a1,c1⟩w3⟨⟨hk,hfk,hto⟩,L,hvv,hS⟩;simp only at hk hfk hto hvv hS⊢;have hfn:=hN _ _ hfk;refine jq ⟨?_⟩;refine Cl.mono (Sr t k AA hk) ?_;rintro _ w4⟨rfl,hS'⟩;have hS:=hS.call0 hS';by_cases h0:(B7 t k).2.2=0
 ·have hnx:=Qn t k h0;have hstep: ∀o,next t v1 k=o→o=(match Fm (B7 t k).1 with
   |none=>none
   |some e=>match BQ v1 e with
    |none=>none
    |some v'=>some (v',(B7 t k).2.1)):=by
   intro o ho;rw[←ho];unfold next;rw[if_pos h0];all_goals rfl
  have hnext:=hstep _ rfl;clear hstep;generalize hF:B7 t k=F at h0 hnx hnext⊢;obtain⟨p,en,er⟩:=F;simp only at h0 hnx hnext⊢;subst h0;refine jq ⟨?_⟩;refine Cl.mono (Y4 (t:=p) AA) ?_;intro r w5 hpost;obtain⟨a9,b9,ca9,cb9,Lx,Ly,rfl,hE,hS'⟩:=hpost.out;have hS:=hS.callNew hS';rw[Aj]at hS;clear hpost;have hadd:((Fm p).getD KU).add.length≤p.length:=by
   cases hD:Fm p with
   |none=>exact Ag _
   |some e=>exact aV hD AA
  generalize hD:Fm p=D at hE hadd hnext;unfold Dv;(repeat(refine jt ⟨?_⟩;refine hS.q ?_;intro _ hS));refine jt ⟨?_⟩;refine hS.al ?_;intro r9 w6 _ hS;(repeat(refine jt ⟨?_⟩;refine hS.q ?_;intro _ hS));refine jt ⟨?_⟩;refine Cl.mono (Tq (hvv.at hS) (hE.at hS) AA) ?_;intro r w7 hpost;obtain⟨a10,c10,L10,rfl,hv10,hS'⟩:=hpost.out;have hS:=hS.callNew hS';clear hpost;have hln: ∀v',BQ v1 (D.getD KU)=some v'→v'.files.length≤v1.files.length+(D.getD KU).add.length:=λv' h=>Nq h
  unfold DC;(repeat(refine jt ⟨?_⟩;refine hS.q ?_;intro _ hS));refine jt ⟨?_⟩;refine hS.al ?_;intro r10 w8 _ hS;(repeat(refine jt ⟨?_⟩;refine hS.q ?_;intro _ hS));refine jt ⟨?_⟩;cases D with
  |none=>
   have hno:next t v1 k=none:=hnext
   have hrd:Rd t Cu 0 (v1,k):=hto _ (.stop hno);unfold QV;(repeat(refine jt ⟨?_⟩;refine hS.q ?_;intro _ hS));refine jt ⟨?_⟩;exact⟨v1,k,a1,c1,L,rfl,hvv,(St.tl1 hS).sub ((CC L _).trans ((Ah Ly _).trans ((Ah Lx _).trans ((AS _ _).trans (Ah L10 _))))),hrd⟩
  |some e=>
   simp only[FD]at hadd hln hv10 hS⊢;have hnext':next t v1 k=(match BQ v1 e with
    |none=>none
    |some v'=>some (v',en)):=hnext
   generalize BQ v1 e=o at hnext' hv10 hln hS⊢;unfold QV;cases o with
   |none=>
    have hrd:Rd t Cu 0 (v1,k):=hto _ (.stop hnext');rw[Iy];(repeat(refine jt ⟨?_⟩;refine hS.q ?_;intro _ hS));refine jt ⟨?_⟩;exact⟨v1,k,a1,c1,L,rfl,hvv,(St.tl1 hS).sub ((CC L _).trans ((Ah Ly _).trans ((Ah Lx _).trans ((AS _ _).trans (Ah L10 _))))),hrd⟩
   |some v2=>
    have hl2:=hln v2 rfl;have hv2:Dt a10 c10 v2 L10:=hv10;rw[Option.isSome_some];(repeat(refine jt ⟨?_⟩;refine hS.q ?_;intro _ hS));refine jt ⟨?_⟩;refine⟨⟨v2,en,a10,c10⟩,⟨rfl,rfl,rfl,rfl,trivial⟩,⟨⟨by simp only;omega,hfk.snoc hnext',λX hX=>hto X (.step hnext' hX)⟩,L10,hv2,?_⟩,by simp only;omega⟩;have hS2:=St.tl1 hS;simp only[FD]at hS2;exact hS2.sub (List.Sublist.append_left ((Ah L _).trans ((Ah Ly _).trans ((Ah Lx _).trans (AS _ _)))) L10)
 ·have hno:next t v1 k=none:=by unfold next;rw[if_neg h0]
  have hrd:Rd t Cu 0 (v1,k):=hto _ (.stop hno);(repeat(refine jt ⟨?_⟩;refine hS.q ?_;intro _ hS));refine jt ⟨?_⟩;exact⟨v1,k,a1,c1,L,rfl,hvv,hS.sub (CC _ _),hrd⟩
theorem qX{m:AJ}(h:m.off=false)(n:AE):(BB m n).1=(AN m n).getD ([],0):=by
 rw[Hm h];cases AN m n<;>rfl
def GJ(v:VM)(ts:List (Int×List AF)):List (Int×List AF):=v.files.map λf=>(f.2,Ce ts f.2)
theorem yZ{v:VM}{ts:List (Int×List AF)}(hp:(v.files.map (·.2)).Perm (ts.map (·.1)))(hn:(ts.map (·.1)).Nodup){f:Af}(hf:f∈v.files):(f.2,Ce ts f.2)∈ts:=by
 obtain⟨x,hx,hxf⟩:=BV.1 (hp.mem_iff.1 (CD hf));have h1:=F9 hn (show(x.1,x.2)∈ts from hx);have hxf:x.1=f.2:=hxf;unfold Ce;rw[←hxf,h1];exact hx
theorem y5{v:VM}{ts:List (Int×List AF)}(hp:(v.files.map (·.2)).Perm (ts.map (·.1)))(hn:(v.files.map (·.2)).Nodup):(GJ v ts).Perm ts:=by
 have hn2:(ts.map (·.1)).Nodup:=hp.nodup_iff.1 hn;have e:ts=(ts.map (·.1)).map λn=>(n,Ce ts n):=by
  rw[Fp]
  conv=>lhs;rw[←List.map_id ts]
  refine List.map_congr_left λx hx=>?_;have h1:=F9 hn2 (show(x.1,x.2)∈ts from hx);show x=(x.1,Ce ts x.1);unfold Ce;rw[h1];rfl
 have e2:GJ v ts=(v.files.map (·.2)).map λn=>(n,Ce ts n):=by unfold GJ;rw[Fp];rfl
 rw[e2]
 conv=>rhs;rw[e]
 exact hp.map _
theorem vV{j:Int}(h1:1≤j)(h2:j≤4611686018427387904):Jc (AX j)= .tuple ⟨[.int .u8 109,.int .i64 j,.bool true]⟩:=by
 unfold Jc AX;rw[Ot AC ⟨AA,AA⟩,if_pos h1]
 rfl
set_option maxRecDepth 8000 in
theorem Z5{w:World}{f A e:Nat}{m:AJ}{L:AH}(hF:BI f m L)(hh:Holds L w)(hG:Bp w (keys L))(hoff:m.off=false)(hB:FB A m){v:VM}{ts:List (Int×List AF)}{bs:List (Int×List Ac)}(hfd:Fd e (AN m) v ts bs)(he:e≤8388608)
  (htab: ∀x∈ts,B8 x.2)(hp:(v.files.map (·.2)).Perm (ts.map (·.1)))(hnd:(v.files.map (·.2)).Nodup)(hfn: ∀f∈v.files,1≤f.2∧f.2<v.next)(hn:1≤v.next∧v.next≤1152921504606846976)(hw:0≤v.wal∧v.wal<v.next)(hfl:v.files.length≤8388608):
  Cl Tryz.prog Qg [ptr f] w λr w'=>PW v (GJ v ts) (Ab bs) w (keys L) L r w':=by
 rcases hfd with⟨h0,rfl,rfl,rfl⟩|⟨j,hL⟩
 ·exact TN hF hh (by rw[Hm hoff,h0])
 obtain⟨lt,hlt,es,tail,hlte,hrp,hfe⟩:=hL.list;have hj1:=hL.j1;have hjn:=hL.jn;have hllen:lt.length≤1099511627776:=by have:=hB.get (AX j);rw[hlt]at this;exact this
 obtain⟨hrd,hrt⟩:=hrp.read tail [] (Ag _) (by rw[CU,Bo,Cs,←hlte];exact hfe);rw[CU,←hlte]at hrd hrt;have hrd:Rd lt Cu 0 (v,(AQ (es.map Am)).length):=by simpa using hrd
 have hrt: ∀x i,Rt lt Cu 0 x i→x.files.length≤8388608:=λx i h=>Au (hrt x i h) he;have hn2:(ts.map (·.1)).Nodup:=hp.nodup_iff.1 hnd;have hS:=St.enter hh;generalize hT:keys L=T0 at hS hG⊢;refine Ui rfl ?_;(repeat(refine jt ⟨?_⟩;refine hS.q ?_;intro _ hS));refine jt ⟨?_⟩;refine hS.al ?_;intro b2 w1 _ hS;(repeat(refine jt ⟨?_⟩;refine hS.q ?_;intro _ hS));refine jt ⟨?_⟩;refine hS.al ?_;intro tm w2 _ hS
 (repeat(refine jt ⟨?_⟩;refine hS.q ?_;intro _ hS));refine jt ⟨?_⟩;refine hS.al ?_;intro b4 w3 _ hS;(repeat(refine jt ⟨?_⟩;refine hS.q ?_;intro _ hS));refine jt ⟨?_⟩;refine Cl.mono (KX hF (hS.part (L:=L)) Bg) ?_;rintro _ w4⟨rfl,hS'⟩;have hS:=hS.call (L:=L) hS';rw[Hm hoff,hL.cur];simp only;have hGk:=λ(w':World)(H:AH)(h:St w T0 H w')=>hG.keep h;have hln:=(Fr (n:=j) ⟨AA,AA⟩).2.2;have hpl:=vV hj1 AA;have hlr:(BB m (AX j))=((lt,lt.length),0):=by rw[Hm hoff,hlt]
 generalize AX j=nm at hln hpl hlr⊢;(repeat(refine jt ⟨?_⟩;refine hS.q ?_;intro _ hS));refine jt ⟨?_⟩;refine Cl.mono (TB (t:=nm) AA (hGk _ _ hS).err (hGk _ _ hS).tab) ?_;rintro _ w5⟨rfl,hS'⟩;have hS:=hS.call0 hS';rw[hpl];(repeat(refine jt ⟨?_⟩;refine hS.q ?_;intro _ hS));refine jt ⟨?_⟩;refine Cl.mono (KX hF (hS.part (L:=L)) nm) ?_;rintro _ w6⟨rfl,hS'⟩;have hS:=hS.call (L:=L) hS';rw[hlr];simp only;(repeat(refine jt ⟨?_⟩;refine hS.q ?_;intro _ hS));refine jt ⟨?_⟩
 refine Cl.mono (Zq hllen hrt) ?_;rintro _ w7⟨v',k',a,ca,La,rfl,hvv,hS',hrd'⟩;have hS:=hS.callNew hS';have heq:=hrd'.unique hrd;cases heq;clear hrd' hrd hrt;unfold DC;(repeat(refine jt ⟨?_⟩;refine hS.q ?_;intro _ hS));refine jt ⟨?_⟩;have hS:=hS;have hlen:(GJ v ts).length=v.files.length:=by unfold GJ;rw[BM]
 refine AL.loop (λk:Nat=>[(0,ptr f),(2,ptr b2),(4,ptr b4),(63,.slice a v.files.length ca),(64,.int .i64 v.files.length),(65,.int .i64 k)])
  (λk w'=>k≤v.files.length∧ ∃et ct ks Lt,MapC AY (λb:Nat=>ptr b) et ct ks∧Cj ks ((GJ v ts).take k) Lt∧
   St w T0 (Lt++(La++((b4,.cells ⟨[.slice a v.files.length ca,.int .i64 v.wal,.int .i64 v.next,.int .i64 v.seq,.map (some tm),.slice none 0 0]⟩ Jp (0,0))::(tm,.map et ct)::(b2,.cells ⟨[.slice none 0 0,.int .i64 0,.int .i64 0,.int .i64 0,.map none,.slice none 0 0]⟩ Jp (0,0))::L))) w') (λk=>v.files.length-k) 0
  ⟨rfl,rfl,rfl,rfl,rfl,rfl,trivial⟩ ⟨Ag _, #[],0,[],[],⟨rfl,by simp[E5]⟩,.nil,by exact hS⟩ ?_
 clear hS;rintro k w8⟨hk,et,ct,ks,Lt,hM,hTb,hS⟩;by_cases hkl:k<v.files.length
 ·have hva:=hvv.vec.arr hS (T':=[]) AB;obtain⟨g,off,rfl, -, -⟩:=hva.get (j:=k*2) (by rw[G4];omega);have hat:((v.files.flatMap Ad).drop (k*2)).take 2=Ad v.files[k]:=by
   have:=Mi (cv:=Ad) (sz:=2) (λ_=>rfl) v.files [] k hkl;rwa[BU]at this
  have hmem:=yZ hp hn2 (Ca hkl);have hr:=hfn _ (Ca hkl);have hsucc:(GJ v ts).take (k+1)=(GJ v ts).take k++[(v.files[k].2,Ce ts v.files[k].2)]:=by
   rw[Bs AA]
   congr 2
   unfold GJ;rw[G5]
  have hkn:v.files[k].2∉ks.map (·.1):=by
   rw[hTb.keys];unfold GJ;rw[←List.map_take,Fp];intro hm;obtain⟨y,hy,hye⟩:=BV.1 hm;have hye:y.2=v.files[k].2:=hye;have hd:(((v.files.map (·.2)).take k)++(v.files.map (·.2)).drop k).Nodup:=by rw[CO];exact hnd
   refine(FU.1 hd).2.2 y.2 (by rw[←List.map_take];exact CD hy) _ ?_ hye;rw[FQ (by rw[BM];exact hkl)];rw[G5];exact CN
  generalize v.files[k]=fl at hat hmem hr hsucc hkn;generalize Ce ts fl.2=l at hmem hsucc;have htf:=htab _ hmem;have hrf:=hL.tab _ hmem;simp only at htf hrf;have hff:BB m (Aw fl.2)=((B5 l,(B5 l).length),0):=by rw[Hm hoff,hrf]
  (repeat(refine jt ⟨?_⟩;refine hS.q ?_;intro _ hS));refine jt ⟨?_⟩;refine Arr.ldn (St.start w8) hva rfl (k:=k*2) hat rfl ?_;unfold Ad;(repeat(refine jt ⟨?_⟩;refine hS.q ?_;intro _ hS));refine jt ⟨?_⟩;refine hS.al ?_;intro b13 w9 _ hS;(repeat(refine jt ⟨?_⟩;refine hS.q ?_;intro _ hS));refine jt ⟨?_⟩;refine Cl.mono (Ps (n:=fl.2) ⟨AA,AA⟩ (hGk _ _ hS).tab) ?_;rintro _ w10⟨rfl,hS'⟩;have hS:=hS.call0 hS'
  (repeat(refine jt ⟨?_⟩;refine hS.q ?_;intro _ hS));refine jt ⟨?_⟩;refine Cl.mono (KX hF (hS.part (L:=L)) (Aw fl.2)) ?_;rintro _ w11⟨rfl,hS'⟩;have hS:=hS.call (L:=L) hS';rw[hff];simp only;have hop:=λ(w:World)=>TV (w:=w) htf;generalize B5 l=t at hop⊢;(repeat(refine jt ⟨?_⟩;refine hS.q ?_;intro _ hS));refine jt ⟨?_⟩;refine Cl.mono (hop _) ?_;rintro _ w12⟨tb,Ltb,rfl,hTO,hS'⟩;have hS:=hS.callNew hS';(repeat(refine jt ⟨?_⟩;refine hS.q ?_;intro _ hS));refine jt ⟨?_⟩
  refine St.mapSet AK Bq.i64 rfl rfl Eo hS (k:=fl.2) (v:=tb) hM ?_;intro et2 ct2 w13 hM2 hS;rw[OY hkn]at hM2;have hTb2:=hTb.snoc (n:=fl.2) hTO;rw[←hsucc]at hTb2;(repeat(refine jt ⟨?_⟩;refine hS.q ?_;intro _ hS));refine jt ⟨?_⟩;refine⟨k+1,⟨rfl,rfl,rfl,rfl,rfl,rfl,trivial⟩,⟨AA,et2,ct2,_,Lt++Ltb,hM2,hTb2,?_⟩,AA⟩;have hS2:=hS.sub (H':=Ltb++(Lt++(La++((b4,.cells ⟨[.slice (some ⟨g,off,none⟩) v.files.length ca,.int .i64 v.wal,.int .i64 v.next,.int .i64 v.seq,.map (some tm),.slice none 0 0]⟩ Jp (0,0))::(tm,.map et2 ct2)::(b2,.cells ⟨[.slice none 0 0,.int .i64 0,.int .i64 0,.int .i64 0,.map none,.slice none 0 0]⟩ Jp (0,0))::L)))) ((List.Sublist.refl Ltb).append (AS _ _))
  refine St.perm hS2 ?_;rw[Aj];exact GX Ltb Lt _
 ·obtain rfl:k=v.files.length:=AA;rw[←hlen,Bz]at hTb;have hwr:Ck v.wal:=⟨AA,AA⟩;(repeat(refine jt ⟨?_⟩;refine hS.q ?_;intro _ hS));refine jt ⟨?_⟩;refine Cl.mono (MG (n:=v.wal) hwr (hGk _ _ hS).tab) ?_;rintro _ w9⟨rfl,hS'⟩;have hS:=hS.call0 hS';(repeat(refine jt ⟨?_⟩;refine hS.q ?_;intro _ hS));refine jt ⟨?_⟩;refine Cl.mono (S9 hF (hS.part (L:=L)) (Aa v.wal) (M4 hoff (Hs hwr)) (hB.find _)) ?_;rw[qX hoff,hL.log.1]
  rintro _ w10⟨bl,pa,pc,Lp, -,rfl,hvp,hS'⟩;have hS:=hS.call (L:=L) hS';(repeat(refine jt ⟨?_⟩;refine hS.q ?_;intro _ hS));refine jt ⟨?_⟩;refine⟨a,ca,La,tm,et,ct,ks,Lt,pa,pc,Lp,rfl,hvv,hM,hTb,hvp,?_⟩;have hS2:=hS.sub (H':=Lt++(La++((tm,.map et ct)::(Lp++L)))) ((List.Sublist.refl Lt).append ((List.Sublist.refl La).append (.cons _ (.cons_cons _ (.cons _ ((List.Sublist.refl Lp).append (AS _ _)))))));refine St.perm hS2 ?_
  classical
  refine Ix.2 λa=>?_;simp only[Hp,Iw,List.count_nil];omega
end Go.Proofs.YtkgibdhpijdbfaaGreatDoor
namespace Go.Proofs.YtkgibdhpijdbfaaGreatDoor
open Go Go.Eng Go.Proofs
def E9(files:List (AE×(AE×Nat)))(n:AE):AE×Nat:=(Al n files).getD ([],0)
def HP(x:AE×Nat)(cuts:List Int)(k:Nat):Nat:=if k<cuts.length then min (cuts.getD k 0).toNat (x.1.length-x.2)else 0
def IE(x:AE×Nat)(j:Nat):AE×Nat:=(x.1.take (x.2+j),x.2+j)
def EU(files:List (AE×(AE×Nat)))(ns:List AE)(cuts:List Int):Nat→List (AE×(AE×Nat))
 |0=>[]
 |k+1=>Ba (ns.getD k []) (IE (E9 files (ns.getD k [])) (HP (E9 files (ns.getD k [])) cuts k)) (EU files ns cuts k)
theorem Q9(x:AE×Nat)(cuts:List Int)(k:Nat):HP x cuts k≤x.1.length-x.2:=by
 unfold HP;split<;>omega
theorem Y2{w:World}{b:Nat}{m:AJ}{L:AH}(hF:BI b m L)(hh:Holds L w){a:Option Addr}{cap:Nat}{cuts:List Int}(ha:Arr w (keys L) a (cuts.map AY))(hcl:cuts.length≤1099511627776)
  (hl:m.files.length≤1099511627776)(hs: ∀x∈m.files,x.1.length≤maxLen)(hsy: ∀n,(E9 m.files n).2≤(E9 m.files n).1.length)(htl: ∀n,(E9 m.files n).1.length≤1099511627776):
  Cl Tryz.prog VG [ptr b,.slice a cuts.length cap] w λv w'=>∃(ns:List AE)(g:Nat)(Lg:AH),ns.Perm (m.files.map (·.1))∧v=ptr g∧BI g ⟨EU m.files ns cuts ns.length,[],0,0,false⟩ Lg∧St w (keys L) (Lg++L) w':=by
 have hS:=St.enter hh;refine kV rfl ?_;refine jq ⟨?_⟩;refine NZ.mono ?_;rintro _ w1⟨g,Lg,rfl,hg,hFg,hS'⟩;have hS:=hS.callNew hS';refine jq ⟨?_⟩;refine(VU hF (hS.part (L:=L)) hl hs).mono ?_;rintro _ w2⟨ns,an,capn,Lv,hp,rfl,hv,hS'⟩;have hS:=hS.call (L:=L) hS';have hnl:ns.length=m.files.length:=by have:=hp.length_eq;simpa using this
 generalize hT:keys L=T0 at hS ha⊢;obtain⟨mf,es,c,hes,ft,Lf,hf⟩:=hF;refine jq ⟨?_⟩;refine AL.loop (λk:Nat=>[(0,ptr b),(1,.slice a cuts.length cap),(5,ptr g),(13,.slice an ns.length capn),(14,.int .i64 ns.length),(15,.int .i64 k)])
  (λk w'=>k≤ns.length∧ ∃Lg,BI g ⟨EU m.files ns cuts k,[],0,0,false⟩ Lg∧St w T0 (Lg++(Lv++(b,.cells ⟨[.map ft,.int .i64 m.armed,.int .i64 m.acts,.bool m.off,.map (some mf)]⟩ C4 (0,0))::(mf,.map es c)::Lf)) w') (λk=>ns.length-k) 0
  ⟨rfl,rfl,rfl,rfl,rfl,rfl,trivial⟩ ⟨Ag _,Lg,hFg,hS⟩ ?_
 rintro k w3⟨hk,Lg,hFg,hS⟩;by_cases hkl:k<ns.length
 ·obtain⟨gv,lv,rfl,hvx,hvl,hvn,rfl⟩: ∃g l,an=some ⟨g,0,none⟩∧(ns.map AG).length=ns.length*1∧(ns.map AG).length+l.length=capn*1∧ns.length≤capn∧Lv=[(g,.cells ⟨ns.map AG++l⟩ C3 (0,0))]:=by
   rcases hv.inv with⟨_,h,_⟩|h
   ·omega
   ·exact h
  obtain⟨mg,eg,cg,heg,fg,Lfg,hfg⟩:=hFg;have hS:St w T0 (((g,.cells ⟨[.map fg,.int .i64 (0:Nat),.int .i64 (0:Nat),.bool false,.map (some mg)]⟩ C4 (0,0))::(mg,.map eg cg)::Lfg)++((gv,.cells ⟨ns.map AG++lv⟩ C3 (0,0))::(b,.cells ⟨[.map ft,.int .i64 m.armed,.int .i64 m.acts,.bool m.off,.map (some mf)]⟩ C4 (0,0))::(mf,.map es c)::Lf)) w3:=hS;refine jq ⟨?_⟩;refine hS.ld (v:=AG ns[k]) (by simp[List.getElem?_append,hkl]) ?_
  have hgd:ns.getD k []=ns[k]:=by simp[hkl]
  (repeat(refine jt ⟨?_⟩;refine hS.q ?_;intro _ hS));refine jt ⟨?_⟩;refine WW (λw' hw'=>⟨es,c,by subst hw';exact hS.mem (b:=mf),hes.of⟩) ?_;have hx1:=hsy ns[k];have hx2:=htl ns[k];have hkp:=Q9 (E9 m.files ns[k]) cuts k;have hcf:EU m.files ns cuts (k+1)=Ba ns[k] (IE (E9 m.files ns[k]) (HP (E9 m.files ns[k]) cuts k)) (EU m.files ns cuts k):=by
   simp only[EU,hgd]
  rw[show(Al ns[k] m.files).getD ([],0)=E9 m.files ns[k]from rfl];generalize E9 m.files ns[k]=x at hx1 hx2 hkp hcf⊢;obtain⟨t,s⟩:=x;simp only at hx1 hx2 hkp;refine hS.al ?_;intro r w4 _ hS;(repeat(refine jt ⟨?_⟩;refine hS.q ?_;intro _ hS));refine jt ⟨?_⟩;have hS:St w T0 ((r,.cells ⟨[AG t,.int .i64 s]⟩ Jq (0,0))::(((g,.cells ⟨[.map fg,.int .i64 (0:Nat),.int .i64 (0:Nat),.bool false,.map (some mg)]⟩ C4 (0,0))::(mg,.map eg cg)::Lfg)++((gv,.cells ⟨ns.map AG++lv⟩ C3 (0,0))::(b,.cells ⟨[.map ft,.int .i64 m.armed,.int .i64 m.acts,.bool m.off,.map (some mf)]⟩ C4 (0,0))::(mf,.map es c)::Lf))) _:=hS
  by_cases hkc:k<cuts.length
  ·obtain⟨bc,offc,rfl,hbc,hcc⟩:=ha.get (j:=k) (by simp;omega);simp only[G5]at hcc;refine jq ⟨?_⟩;refine AL.draw AK mixed (λw'=>St w T0 ((r,.cells ⟨[AG t,.int .i64 s]⟩ Jq (0,0))::(((g,.cells ⟨[.map fg,.int .i64 (0:Nat),.int .i64 (0:Nat),.bool false,.map (some mg)]⟩ C4 (0,0))::(mg,.map eg cg)::Lfg)++((gv,.cells ⟨ns.map AG++lv⟩ C3 (0,0))::(b,.cells ⟨[.map ft,.int .i64 m.armed,.int .i64 m.acts,.bool m.off,.map (some mf)]⟩ C4 (0,0))::(mf,.map es c)::Lf))) w')
    [] [0,1,2,3,4,5,6,7,8,9,10,11,12] AD hS.drew ?_
   have hS:=hS.drew;refine jr ⟨?_⟩;refine hS.ldOldC hbc (by simpa using hcc) ?_;refine jr ⟨?_⟩;generalize hz:(if(t.length:Int)-s<(if cuts[k]<0 then 0 else cuts[k])then(t.length:Int)-s else(if cuts[k]<0 then 0 else cuts[k]))=z;have hze:z=(HP (t,s) cuts k:Int):=by
    rw[←hz];unfold HP;rw[if_pos hkc];have:cuts.getD k 0=cuts[k]:=by simp[hkc]
    rw[this];simp only
    split<;>split<;>omega
   subst hze;generalize HP (t,s) cuts k=j at hkp hcf⊢;(repeat(refine jt ⟨?_⟩;refine hS.q ?_;intro _ hS));refine jt ⟨?_⟩;refine AL.draw AK mixed (λw'=>St w T0 ((r,.cells ⟨[AG t,.int .i64 s]⟩ Jq (0,0))::(((g,.cells ⟨[.map fg,.int .i64 (0:Nat),.int .i64 (0:Nat),.bool false,.map (some mg)]⟩ C4 (0,0))::(mg,.map eg cg)::Lfg)++((gv,.cells ⟨ns.map AG++lv⟩ C3 (0,0))::(b,.cells ⟨[.map ft,.int .i64 m.armed,.int .i64 m.acts,.bool m.off,.map (some mf)]⟩ C4 (0,0))::(mf,.map es c)::Lf))) w')
    [11] [0,1,2,3,4,5,6,7,8,9,10,11] AD hS.drew ?_
   have hS:=hS.drew;refine jr ⟨?_⟩;refine St.mapSet AK Bq.str rfl rfl JA hS (v:=IE (t,s) j) heg ?_;intro es2 c2 w6 hes2 hS;have hS:=hS.sub (AS _ _);refine jq ⟨?_⟩;refine⟨k+1,⟨rfl,rfl,rfl,rfl,rfl,rfl,trivial⟩,⟨AA,_,BI.mk (m:=⟨EU m.files ns cuts (k+1),[],0,0,false⟩) mg es2 c2 (by rw[hcf];exact hes2) fg Lfg hfg,hS⟩,AA⟩
  ·have hke:HP (t,s) cuts k=0:=by unfold HP;rw[if_neg hkc]
   rw[hke]at hcf;(repeat(refine jt ⟨?_⟩;refine hS.q ?_;intro _ hS));refine jt ⟨?_⟩;refine AL.draw AK mixed (λw'=>St w T0 ((r,.cells ⟨[AG t,.int .i64 s]⟩ Jq (0,0))::(((g,.cells ⟨[.map fg,.int .i64 (0:Nat),.int .i64 (0:Nat),.bool false,.map (some mg)]⟩ C4 (0,0))::(mg,.map eg cg)::Lfg)++((gv,.cells ⟨ns.map AG++lv⟩ C3 (0,0))::(b,.cells ⟨[.map ft,.int .i64 m.armed,.int .i64 m.acts,.bool m.off,.map (some mf)]⟩ C4 (0,0))::(mf,.map es c)::Lf))) w')
    [11] [0,1,2,3,4,5,6,7,8,9,10,11] AD hS.drew ?_
   have hS:=hS.drew;refine jr ⟨?_⟩;refine St.mapSet AK Bq.str rfl rfl JA hS (v:=IE (t,s) 0) heg ?_;intro es2 c2 w6 hes2 hS;have hS:=hS.sub (AS _ _);refine jq ⟨?_⟩;refine⟨k+1,⟨rfl,rfl,rfl,rfl,rfl,rfl,trivial⟩,⟨AA,_,BI.mk (m:=⟨EU m.files ns cuts (k+1),[],0,0,false⟩) mg es2 c2 (by rw[hcf];exact hes2) fg Lfg hfg,hS⟩,AA⟩
 ·have hke:k=ns.length:=AA;subst hke;refine jq ⟨?_⟩;exact⟨ns,g,Lg,hp,rfl,hFg,hS.sub (List.Sublist.append (List.Sublist.refl _) (Ah _ _))⟩
end Go.Proofs.YtkgibdhpijdbfaaGreatDoor
namespace Go.Proofs.YtkgibdhpijdbfaaGreatDoor
open Go Go.Eng Go.Proofs Go.Srt
theorem QF(files:List (AE×(AE×Nat)))(ns:List AE)(cuts:List Int)(hn:ns.Nodup): ∀k,k≤ns.length→ ∀n,(n∉ns.take k→Al n (EU files ns cuts k)=none)∧ ∀i(hi:i<k)(h:i<ns.length),Al ns[i] (EU files ns cuts k)=some (IE (E9 files ns[i]) (HP (E9 files ns[i]) cuts i))
 |0,_,n=>⟨λ_=>rfl,λi hi=>absurd hi (Nat.not_lt_zero i)⟩
 |k+1,hk,n=>by
  have hgd:ns.getD k []=ns[k]:=by simp[show k<ns.length by omega]
  have ih:=QF files ns cuts hn k AA;have e:EU files ns cuts (k+1)=Ba ns[k] (IE (E9 files ns[k]) (HP (E9 files ns[k]) cuts k)) (EU files ns cuts k):=by simp only[EU,hgd]
  rw[e];refine⟨λhni=>?_,λi hi h=>?_⟩
  ·rw[Bs AA,Bl,not_or]at hni;rw[G6,if_neg (λe=>hni.2 (by rw[e];simp))];exact(ih n).1 hni.1
  ·rw[G6];by_cases hik:i=k
   ·subst hik;rw[if_pos rfl]
   ·rw[if_neg λe=>hik ((List.getElem_inj hn).1 e)];exact(ih n).2 i AA h
theorem cN{files:List (AE×(AE×Nat))}{ns:List AE}{cuts:List Int}(hnd:(files.map (·.1)).Nodup)(hp:ns.Perm (files.map (·.1)))(hs: ∀x∈files,x.2.2≤x.2.1.length):HB (λn=>Al n files) (λn=>Al n (EU files ns cuts ns.length)):=by
 intro n;have hnn:=hp.nodup_iff.2 hnd;have h:=QF files ns cuts hnn ns.length (AV _) n;rw[Bz]at h;show match Al n files with
  |none=>Al n (EU files ns cuts ns.length)=none
  |some x=>∃k,x.2≤k∧k≤x.1.length∧Al n (EU files ns cuts ns.length)=some (x.1.take k,k)
 cases hk:Al n files with
 |none=>exact h.1 λhm=>(JX.1 hk) (hp.mem_iff.1 hm)
 |some x=>
  have hm:=JW hk;have hx:=hs _ hm;obtain⟨i,hi,rfl⟩:=Hr.1 (hp.mem_iff.2 (CD (f:=(·.1)) hm));have hf:E9 files ns[i]=x:=by unfold E9;rw[hk];rfl
  have h2:=h.2 i hi hi;have hl:=Q9 x cuts i;rw[hf]at h2;have hx:x.2≤x.1.length:=hx;exact⟨x.2+HP x cuts i,AA,AA,h2⟩
theorem UG(files:List (AE×(AE×Nat)))(ns:List AE)(cuts:List Int): ∀k,(EU files ns cuts k).length≤k∧((EU files ns cuts k).map (·.1)).Nodup∧ ∀x∈EU files ns cuts k,x.1∈ns.take k∨x.1=[]
 |0=>⟨AV _,List.nodup_nil,λx hx=>by cases hx⟩
 |k+1=>by
  obtain⟨h1,h2,h3⟩:=UG files ns cuts k;refine⟨Au (JY _ _ _) (Nat.succ_le_succ h1),Mq h2,λx hx=>?_⟩;rcases IP hx with rfl|hx
  ·by_cases hk:k<ns.length
   ·have hgd:ns.getD k []=ns[k]:=by simp[hk]
    have h4:ns[k]∈ns.take (k+1):=by rw[Bs hk];exact FC _ (List.mem_singleton_self _)
    left;show ns.getD k []∈_;rw[hgd];exact h4
   ·right;show ns.getD k []=[];simp[Gn,List.getElem?_eq_none (Nat.not_lt.1 hk)]
  ·rcases h3 x hx with h|h
   ·exact .inl (HN (i:=k) (by rw[List.take_take,Nat.min_eq_left (Dz k)];exact h))
   ·exact .inr h
structure Gx(c e:Nat)(m:AJ)(now:List AO):Prop where
 off:m.off=false
 has: ∃v ts bs,Fd e (AN m) v ts bs∧Cz c e v ts bs now
 fs:H4 c m
theorem rL:Gx 1 0 EX []:=by
 refine⟨rfl,⟨Fa,[],[],.inl ⟨rfl,rfl,rfl,rfl⟩,?_⟩,⟨⟨⟨Ag _,Ag _,Ag _,List.nodup_nil,λx hx=>(by cases hx),λx hx=>(by cases hx)⟩,λx hx=>(by cases hx),λx hx=>(by cases hx)⟩,Ag _⟩⟩;have hE:(Bw Fa [] []).mem++(([]:List (Int×List AF)).map (·.2)).flatten=[]:=rfl;exact⟨⟨List.Pairwise.nil,λx hx=>(by cases hx),λx hx=>(by cases hx),λx hx=>(by cases hx),Ag _⟩,λx hx=>(by cases hx),List.Pairwise.nil,AV _,AV _,AV _,(⟨⟨λf hf=>(by cases hf),List.nodup_nil⟩,AC,rfl⟩:Good Fa),List.Perm.refl _,AC,AC,AC,(by rw[hE];intro x hx;cases hx),by show(0:Int)≤1;decide,by rw[hE];exact Bf.nil _,λb hb=>(by cases hb),λb hb=>(by cases hb),Ag _⟩
theorem H4.more{c c':Nat}{m:AJ}(h:H4 c m)(hc:c≤c'):H4 c' m:=⟨h.ft.mono (GY _ hc) (Nat.add_le_add_left (GY _ hc) _),Au h.nf (GY _ hc)⟩
theorem cO{c:Nat}{m:AJ}(h:H4 c m)(hc:c≤7000000){ns:List AE}(hp:ns.Perm (m.files.map (·.1)))(cuts:List Int):H4 c ⟨EU m.files ns cuts ns.length,[],0,0,false⟩:=by
 obtain⟨h1,h2,h3⟩:=UG m.files ns cuts ns.length;have hnn:=hp.nodup_iff.2 h.ft.fb.nd;have hln:ns.length=m.files.length:=by rw[hp.length_eq,BM]
 rw[Bz]at h3;have hx: ∀x∈EU m.files ns cuts ns.length,∃y∈m.files,x.1=y.1∧ ∃j,j≤y.2.1.length-y.2.2∧x.2=IE y.2 j:=λx hx=>by
  have hg:=F9 h2 (show(x.1,x.2)∈_ from hx);have hcr:=QF m.files ns cuts hnn ns.length (AV _) x.1;rw[Bz]at hcr;by_cases hm:x.1∈ns
  ·obtain⟨i,hi,he⟩:=Hr.1 hm;have h5:=hcr.2 i hi hi;rw[he,hg]at h5;obtain⟨y,hy,hyn⟩:=BV.1 (hp.mem_iff.1 hm);have hyn:y.1=x.1:=hyn;have hf:E9 m.files x.1=y.2:=by
    unfold E9;rw[←hyn,F9 h.ft.fb.nd (show(y.1,y.2)∈m.files from hy)];rfl
   rw[hf]at h5;simp only[Option.some.injEq]at h5;exact⟨y,hy,hyn.symm,_,Q9 _ _ _,h5⟩
  ·rw[hcr.1 hm]at hg;cases hg
 refine⟨⟨⟨Ag _,Ag _,?_,h2,λx hm=>?_,λx hm=>?_⟩,λx hm=>?_,λx hm=>?_⟩,Au h1 (by rw[hln];exact h.nf)⟩
 ·exact Au h1 (by rw[hln];exact h.ft.fb.num)
 ·obtain⟨y,hy,he, -⟩:=hx x hm;rw[he];exact h.ft.fb.name y hy
 ·obtain⟨y,hy, -,j, -,he⟩:=hx x hm;rw[he];unfold IE;simp only[BR];exact Au (Nat.min_le_right _ _) (h.ft.fb.text y hy)
 ·obtain⟨y,hy, -,j, -,he⟩:=hx x hm;rw[he];unfold IE;simp only[BR];exact Au (Nat.min_le_right _ _) (h.ft.tx y hy)
 ·obtain⟨y,hy, -,j,hj,he⟩:=hx x hm;have hs:=h.ft.sf y hy;rw[he];unfold IE;simp only[BR];omega
theorem Sv{w:World}{f c e:Nat}{m:AJ}{L:AH}{S:List AO→Prop}(hF:BI f m L)(hh:Holds L w)(hB:H4 c m)(hR:GP c e (AN m) S)(hc:c≤7000000){a:Option Addr}{cap:Nat}{cuts:List Int}(ha:Arr w (keys L) a (cuts.map AY))(hcl:cuts.length≤1099511627776):
  Cl Tryz.prog VG [ptr f,.slice a cuts.length cap] w λv w'=>∃g Lg m' now,v=ptr g∧S now∧Gx c e m' now∧m'.fates=[]∧BI g m' Lg∧St w (keys L) (Lg++L) w':=by
 have hnf:=hB.nf;have hmx:(1099511627776:Nat)≤maxLen:=AC;have hfo: ∀n,E9 m.files n=(AN m n).getD ([],0):=λn=>rfl;refine(Y2 hF hh ha hcl AA (λx hx=>by have:=hB.ft.fb.name x hx;omega) (λn=>by rw[hfo];exact hB.ft.getS n) (λn=>by rw[hfo];exact hB.ft.fb.get n)).mono ?_;rintro v w'⟨ns,g,Lg,hp,rfl,hF',hS⟩;obtain⟨v,T,bs,now,h1,h2,h3⟩:=hR _ (cN (cuts:=cuts) hB.ft.fb.nd hp hB.ft.sf);exact⟨g,Lg,⟨EU m.files ns cuts ns.length,[],0,0,false⟩,now,rfl,h1,⟨rfl,⟨v,T,bs,h2,h3⟩,cO hB hc hp cuts⟩,rfl,hF',hS⟩
/-! ## Open-/
theorem Fd.perm{n:Nat}{F:DD}{v:VM}{T T':List (Int×List AF)}{bs:List (Int×List Ac)}(h:Fd n F v T bs)(hp:T'.Perm T):Fd n F v T' bs:=by
 rcases h with⟨h1,h2,rfl,h4⟩|⟨j,h⟩
 ·exact .inl ⟨h1,h2,hp.eq_nil,h4⟩
 ·exact .inr ⟨j,{h with tab:=λx hx=>h.tab x (hp.mem_iff.1 hx)}⟩
theorem Cz.perm{c e:Nat}{v:VM}{T T':List (Int×List AF)}{bs:List (Int×List Ac)}{now:List AO}(h:Cz c e v T bs now)(hp:T'.Perm T):Cz c e v T' bs now:=by
 obtain⟨t1,t2,t3⟩:=LZ bs (s:=Cc 1 1 [] v T') (t:=Cc 1 1 [] v T) rfl rfl rfl;have t1:(Bw v T' bs).mem=(Bw v T bs).mem:=t1;have t2:(Bw v T' bs).seq=(Bw v T bs).seq:=t2;have t3:(Bw v T' bs).adds=(Bw v T bs).adds:=t3;have hE:((Bw v T' bs).mem++(T'.map (·.2)).flatten).Perm ((Bw v T bs).mem++(T.map (·.2)).flatten):=by
  rw[t1];exact List.Perm.append_left _ (hp.map _).flatten
 exact⟨by rw[t1];exact h.mem,λx hx=>h.tab x (hp.mem_iff.1 hx),C1.perm h.one hE.symm,by rw[hE.length_eq];exact h.num,h.nlen,by rw[t3];exact h.adds,h.good,h.files.trans (hp.map _).symm,h.next,h.wal,h.bnext,λx hx=>by rw[t2];exact h.top x (hE.mem_iff.1 hx),by rw[t2];exact h.bseq,by rw[t2];exact h.view.mem λx=>hE.mem_iff.symm,h.bq,h.bsz,h.blen⟩
theorem YR: ∀{bs:List (Int×List Ac)},(∀b∈bs,Ap b.2≤4096)→Gb bs≤4096*bs.length
 |[],_=>AV _
 |b::bs,h=>by
  have h1:=h b AB;have h2:=YR (bs:=bs) λx hx=>h x (by simp[hx]);have e:Gb (b::bs)=Ap b.2+Gb bs:=by unfold Gb;simp
  rw[e,Ai];omega
inductive NU(f c e:Nat)(m:AJ)(now:List AO)(w:World)(T0:List Nat):Value→World→Prop where
 |ok (sb:Nat) (L':AH) (w':World) (h:Ch sb f (c+1) e 0 now Hu L') (hS:St w T0 L' w'):NU f c e m now w T0 (.tuple ⟨[ptr sb,.int .i64 0]⟩) w'
 |space (m':AJ) (L':AH) (w':World) (hf:m.fates≠[]) (h:Gx (c+1) e m' now) (hF:BI f m' L') (hS:St w T0 L' w'):NU f c e m now w T0 (.tuple ⟨[.pointer none,.int .i64 6]⟩) w'
 |down (m':AJ) (L':AH) (w':World) (hf:m.fates≠[]) (h:Dn (c+1) e m' (· =now)) (hF:BI f m' L') (hS:St w T0 L' w'):NU f c e m now w T0 (.tuple ⟨[.pointer none,.int .i64 7]⟩) w'
theorem Sw{w:World}{f c e:Nat}{m:AJ}{L:AH}{now:List AO}(hF:BI f m L)(hh:Holds L w)(hG:Bp w (keys L))(hm:Gx c e m now)(hc:c+1≤7000000)(he:e≤262144){a:Option Addr}{cp:Nat}{hs:List Int}{mm fan:Int}(ha:Arr w (keys L) a (hs.map AY))(hhl:hs.length≤1099511627776):
  Cl Tryz.prog Qa [ptr f,.agg ⟨[.int .i64 mm,.int .i64 fan,.slice a hs.length cp]⟩] w λv w'=>NU f c e m now w (keys L) v w':=by
 obtain⟨hoff,⟨v,ts,bs,hfd,hct⟩,hB⟩:=hm;have hnf:=hB.nf;have hndf:(v.files.map (·.2)).Nodup:=hct.good.files.2;have hpt:=y5 hct.files hndf;have hfd':=hfd.perm hpt;have hct':=hct.perm hpt;have hcn:=hct.cnt;have hn1:=hct.next;have hbn:=hct.bnext;have hwl:=hct.wal;have hnn:=hct.good.nn;have hbq:=hct.bseq;have hbl:=hct.blen;have hsq:v.seq≤(Bw v ts bs).seq:=SK bs (Cc 1 1 [] v ts);have hv:DE {v with wal:=v.next,next:=v.next+2}:=DE.renew hct.good AA AA AA
 obtain⟨w1,w2⟩:=hv.whole;have hsum:=MZ w2 hv.num;obtain⟨hok,hsl⟩:=hct.ok;rw[Ds]at hsl;have hszb:=YR hct.bsz;obtain⟨r1,r2,r3,r4,r5,r6⟩:=Yf bs (Cc mm fan hs v (GJ v ts));obtain⟨t1,t2,t3⟩:=LZ bs (s:=Cc mm fan hs v (GJ v ts)) (t:=Cc 1 1 [] v (GJ v ts)) rfl rfl rfl;refine(TA (A:=c*274877906944) (v:=v) (ts:=GJ v ts) (bs:=bs) hF hh hG ha hhl hoff (λw1 h1 hG1=>Z5 hF h1 hG1 hoff hB.ft.fb hfd AA (λx hx=>(hct.tab x hx).1) hct.files hndf (λf hf=>by
  obtain⟨h5,h6⟩:=hct.good.files.1 f hf;have:=Hw.1 h5;omega) ⟨hn1,AA⟩ ⟨hnn.1,hwl⟩ AA) (λb hb=>by have:=hct.bq b hb;unfold CA;omega) AA AA ⟨AA,AA⟩ w1 w2 AA AA hB.ft.fb AA AA).mono ?_
 rintro r w'⟨z,s',m',hR,hO⟩;have hup:m.fates=[]→z=0:=λhf=>(Xq (A:=c*274877906944) (T:=536870912+c*150000) (Nf:=c*32768) ⟨hoff,hf⟩ hB.ft ⟨AA,AA⟩ (by unfold BJ;rw[r1];exact hv) (by rw[r1];exact⟨hn1,by show v.next≤_;omega⟩) hok (by rw[Ds];omega) hnf hR).1;have hg:=wL (now:=now) hoff hB.ft ⟨AA,AA⟩ AA AA AA hnf hfd' hct' r1 r2 t1 t2 t3 r3 r4 r5 (by rw[r6];exact hhl) hR;cases hg with
 |ok _ _ g1 g2 g3 g4 g5 g6=>
  rcases hO with⟨-,sb,L',rfl,hO',hS⟩|⟨he0, -⟩
  ·refine .ok sb L' w' ⟨s',m',hO',⟨g2,g1,g3.mono (AV _) (Dz _),g4.mono AA AA (AV _) (AV _) (AV _),Au g5 AA,hc,he⟩,g6⟩ hS
  ·exact absurd rfl he0
 |space _ _ g1 g2 g3 g4=>
  rcases hO with⟨h0, -⟩|⟨-,rfl,LF,hF',hS⟩
  ·cases h0
  ·exact .space m' LF w' (λhf=>by have:=hup hf;cases this) ⟨g1,⟨v,GJ v ts,bs,g2,hct'.mono (Dz _) (AV _)⟩,⟨g3.mono AA AA,Au g4 AA⟩⟩ hF' hS
 |down _ _ g1 g2 g3 g4=>
  rcases hO with⟨h0, -⟩|⟨-,rfl,LF,hF',hS⟩
  ·cases h0
  ·exact .down m' LF w' (λhf=>by have:=hup hf;cases this) ⟨g1,g2,⟨g3.mono AA AA,Au g4 AA⟩⟩ hF' hS
theorem Rn.rest{c e:Nat}{s:AM}{m:AJ}{now:List AO}{lk:CH}(h:Rn c e s m now lk):Gx c e m now:=by
 obtain⟨j,es,g,bs,hD,hbl⟩:=h.dk;have hn:=h.bud.next;have hq:=h.bud.seq;exact⟨h.off,⟨s.v,s.tabs,bs,.inr ⟨j,hD.fdl⟩,hD.cont h.core AA AA hbl⟩,⟨h.bud.ft,h.nf⟩⟩
theorem Gx.found{c e:Nat}{m:AJ}{now:List AO}(h:Gx c e m now):GP c e (AN m) (· =now):=by
 obtain⟨v,ts,bs,h1,h2⟩:=h.has;exact Fd.rec h1 h2
theorem Gx.arm{c e:Nat}{m:AJ}{now:List AO}(h:Gx c e m now)(fs:List (Int×Int)):Gx c e {m with fates:=fs,armed:=0} now:=
 ⟨h.off,h.has,⟨⟨⟨Ag _,h.fs.ft.fb.acts,h.fs.ft.fb.num,h.fs.ft.fb.nd,h.fs.ft.fb.name,h.fs.ft.fb.text⟩,h.fs.ft.tx,h.fs.ft.sf⟩,h.fs.nf⟩⟩
theorem Rn.arm{c e:Nat}{s:AM}{m:AJ}{now:List AO}{lk:CH}(h:Rn c e s m now lk)(fs:List (Int×Int)):Rn c e s {m with fates:=fs,armed:=0} now lk:=by
 have hf:=h.bud.ft;exact⟨h.core,h.off,h.dk,⟨⟨⟨Ag _,hf.fb.acts,hf.fb.num,hf.fb.nd,hf.fb.name,hf.fb.text⟩,hf.tx,hf.sf⟩,h.bud.next,h.bud.seq,h.bud.given,h.bud.sn,h.bud.list,h.bud.log⟩,h.nf,h.c1,h.e1⟩
structure Jn where
 a:Option Addr
 c:Nat
 l:List AO
structure LM where
 f:Nat
 sb:Nat
 mm:Int
 fan:Int
 ah:Option Addr
 hs:List Int
 ch:Nat
 an:Option Addr
 now:List AO
 cn:Nat
 sa:Option Addr
 sn:List Jn
 sc:Nat
 ga:Option Addr
 gn:List Bool
 gc:Nat
abbrev LM.obj(x:LM):Obj:= .cells ⟨[ptr x.f,ptr x.sb,.int .i64 x.mm,.int .i64 x.fan,.slice x.ah x.hs.length x.ch,.slice x.an x.now.length x.cn,.slice x.sa x.sn.length x.sc,.slice x.ga x.gn.length x.gc]⟩ Tb (0,0)
abbrev LM.fresh(x:LM)(f sb:Nat):LM:={x with f:=f,sb:=sb,sa:=none,sn:=[],sc:=0,ga:=none,gn:=[],gc:=0}
structure EH(P:AH)(x:LM):Prop where
 at_:Es P x.an (x.now.flatMap BN)
 ad:x.an=none∨ ∃g off,x.an=some ⟨g,off,none⟩
 cap:x.now.length≤x.cn
 so:x.now.Pairwise EQ
theorem Ch.len{sb f c e:Nat}{gv:Int}{now:List AO}{lk:CH}{L:AH}(h:Ch sb f c e gv now lk L):now.length≤262144:=by
 obtain⟨s,m, -,hI, -⟩:=h;exact Au hI.core.nlen hI.e1
theorem PX{w:World}{sb f c e:Nat}{gv:Int}{now:List AO}{lk:CH}{L:AH}(h:Ch sb f c e gv now lk L)(hh:Holds L w){a:Option Addr}{cap:Nat}{fs:List (Int×Int)}(ha:Arr w (keys L) a (HI fs))(hl:fs.length≤1099511627776):
  Cl Tryz.prog Qh [ptr f,.slice a fs.length cap] w λ_ w'=>∃L',Ch sb f c e gv now lk L'∧St w (keys L) L' w':=by
 obtain⟨s,m,hO,hI,hg⟩:=h;obtain⟨o,R,LF,rfl,hF,hre⟩:=hO.fs;have hS:=St.enter hh;refine(Lq hF (hS.part (L:=LF)) (ha.stay hS (L:=LF)) hl).mono ?_;rintro _ w'⟨L',hF',hS'⟩;exact⟨_,⟨s,_,hre _ _ hF',hI.arm _,hg⟩,hS.call (L:=LF) hS'⟩
theorem ZB{w:World}{sb f c e:Nat}{gv:Int}{now:List AO}{lk:CH}{L:AH}(h:Ch sb f c e gv now lk L)(hh:Holds L w):
  Cl Tryz.prog OE [ptr sb] w λv w'=>v= .bool false∧St w (keys L) L w':=by
 obtain⟨s,m,hO,hI, -⟩:=h;refine(H8 hO hh).mono ?_;rintro _ w'⟨rfl,hS⟩;rw[hI.core.dead,hI.off];exact⟨rfl,hS⟩
theorem cR{a b:List AO}(p:Prop) [Decidable p](h:p↔a=b):decide p=decide (a=b):=decide_eq_decide.2 h
theorem wQ{a b:List AO}:a.map DM=b.map DM↔a=b:=by
 constructor
 ·intro h;have hi: ∀x y:AO,DM x=DM y→x=y:=λx y h=>by
   obtain⟨x1,x2⟩:=x;obtain⟨y1,y2⟩:=y;simp only[DM,Prod.mk.injEq]at h;rw[h.1,h.2.2]
  exact(List.map_inj_right hi).1 h
 ·rintro rfl;rfl
theorem Jy{w:World}{lb c e:Nat}{gv:Int}{x:LM}{cur:List AO}{lk:CH}{L P:AH}(hO:Ch x.sb x.f c e gv cur lk L)(hh:Holds ((lb,x.obj)::(L++P)) w){a:Option Addr}{cp:Nat}{want:List AO}(ha:Es P a (want.flatMap BN))(hl:want.length≤1099511627776):
  Cl Tryz.prog VC [ptr lb,.slice a want.length cp] w λv w'=>v= .bool (decide (cur=want))∧St w (keys ((lb,x.obj)::(L++P))) ((lb,x.obj)::(L++P)) w':=by
 have hS:=St.enter hh;have hcl:=hO.len;generalize hT:keys ((lb,x.obj)::(L++P))=T0 at hS⊢;refine kI rfl ?_;(repeat(refine jt ⟨?_⟩;refine hS.q ?_;intro _ hS));refine jt ⟨?_⟩;refine Cl.mono (Sx hO (hS.part (L:=L)) [] []) ?_;rw[Q6];rintro _ w1⟨a1,c1,Lv,rfl,hv1,hS'⟩;have hS:=hS.call (L:=L) hS';(repeat(refine jt ⟨?_⟩;refine hS.q ?_;intro _ hS));refine jt ⟨?_⟩;rw[LR]at hv1;rw[←I6 want];refine Cl.mono (Kb (l:=cur.map DM) (m:=want.map DM) (by rw[LR];exact hv1.arr hS AB) (by rw[LR];exact ha.in hS) (by rw[BM];omega) (by rw[BM];omega)) ?_
 rintro _ w2⟨rfl,hS'⟩;have hS:=hS.call0 hS';rw[cR _ wQ];(repeat(refine jt ⟨?_⟩;refine hS.q ?_;intro _ hS));refine jt ⟨?_⟩;by_cases hcw:cur=want
 ·rw[decide_eq_true hcw];(repeat(refine jt ⟨?_⟩;refine hS.q ?_;intro _ hS));refine jt ⟨?_⟩;exact⟨rfl,hS.sub (((Ah Lv L).append_right P).cons_cons _)⟩
 ·rw[decide_eq_false hcw];(repeat(refine jt ⟨?_⟩;refine hS.q ?_;intro _ hS));refine jt ⟨?_⟩;exact⟨rfl,hS.sub (((Ah Lv L).append_right P).cons_cons _)⟩
theorem WX{w:World}{lb c e:Nat}{x:LM}{m:AJ}{LF P:AH}{cur:List AO}(hF:BI x.f m LF)(hm:Gx c e m cur)(hh:Holds ((lb,x.obj)::(LF++P)) w)(hG:Bp w (keys ((lb,x.obj)::(LF++P))))(hah:Arr w (keys ((lb,x.obj)::(LF++P))) x.ah (x.hs.map AY))(hhl:x.hs.length≤1099511627776)
  {af:Option Addr}{cf:Nat}{fs:List (Int×Int)}(haf:Arr w (keys ((lb,x.obj)::(LF++P))) af (HI fs))(hfl:fs.length≤1099511627776){ak:Option Addr}{ck:Nat}{keep:List Int}(hak:Arr w (keys ((lb,x.obj)::(LF++P))) ak (keep.map AY))(hkl:keep.length≤1099511627776)(hc:c+23≤7000000)(he:e≤262144):
  Cl Tryz.prog p8 [ptr lb,.slice af fs.length cf,.slice ak keep.length ck] w λv w'=>v= .bool true∧ ∃f sb L',Ch sb f (c+23) e 0 cur Hu L'∧St w (keys ((lb,x.obj)::(LF++P))) ((lb,(x.fresh f sb).obj)::(L'++P)) w':=by
 have hS:=St.enter hh;generalize hT:keys ((lb,x.obj)::(LF++P))=T0 at hS hG hah haf hak⊢;refine kK rfl ?_;(repeat(refine jt ⟨?_⟩;refine hS.q ?_;intro _ hS));refine jt ⟨?_⟩;refine Cl.mono (Lq hF (hS.part (L:=LF)) (haf.stay hS (L:=LF)) hfl) ?_;rintro _ w1⟨L1,hF,hS'⟩;have hS:=hS.call (L:=LF) hS';have hm:=hm.arm (EK fs fs.length);(repeat(refine jt ⟨?_⟩;refine hS.q ?_;intro _ hS));refine jt ⟨?_⟩;refine AL.loop (λk:Nat=>[(0,ptr lb),(2,.slice ak keep.length ck),(7,.int .i64 k)])
  (λk w'=>k≤22∧ ∃f m' L',BI f m' L'∧Gx (c+k) e m' cur∧(22≤k→m'.fates=[])∧St w T0 ((lb,(x.fresh f x.sb).obj)::(L'++P)) w') (λk=>23-k) 0
  ⟨rfl,rfl,rfl,trivial⟩ ⟨Ag _,_,_,L1,hF,hm,(λh=>absurd h AC),hS⟩ ?_
 clear hS hF hm hS' haf;rintro k w2⟨hk,f,m,L1,hF,hm,hfk,hS⟩;(repeat(refine jt ⟨?_⟩;refine hS.q ?_;intro _ hS));refine jt ⟨?_⟩;refine AL.draw AK mixed (λw'=>St w T0 ((lb,(x.fresh f x.sb).obj)::(L1++P)) w') [8,9,10,11,12,13] [0,1,2,3,4,5,6,7,8,9,10,11,12,13] AD hS.drew ?_;have hS:=hS.drew;refine jr ⟨?_⟩;refine Cl.mono (Sw hF (hS.part (L:=L1)) (hG.part hS (L:=L1)) hm AA he (hah.stay hS (L:=L1)) hhl) ?_
 rintro _ w3 hv;cases hv with
 |ok sb L2 _ h hS'=>
  have hS:=hS.call (L:=L1) hS';refine jr ⟨?_⟩;(repeat(refine jt ⟨?_⟩;refine hS.q ?_;intro _ hS));refine jt ⟨?_⟩;refine Cl.mono (PX (fs:=[]) h (hS.part (L:=L2)) (Arr.nil _ _ _) AC) ?_;rintro _ w4⟨L3,h,hS'⟩;have hS:=hS.call (L:=L2) hS';(repeat(refine jt ⟨?_⟩;refine hS.q ?_;intro _ hS));refine jt ⟨?_⟩;refine Cl.mono (ZB h (hS.part (L:=L3))) ?_;rintro _ w5⟨rfl,hS'⟩;have hS:=hS.call (L:=L3) hS';(repeat(refine jt ⟨?_⟩;refine hS.q ?_;intro _ hS));refine jt ⟨?_⟩
  exact⟨rfl,f,sb,L3,h.more AA (AV _) hc he,hS⟩
 |space m2 L2 _ hf h hF2 hS'=>
  have hS:=hS.call (L:=L1) hS';have hk21:k<22:=Nat.lt_of_not_le λh=>hf (hfk h);refine jr ⟨?_⟩;(repeat(refine jt ⟨?_⟩;refine hS.q ?_;intro _ hS));refine jt ⟨?_⟩;refine Cl.mono (Ie hF2 (hS.part (L:=L2))) ?_;rintro _ w4⟨rfl,hS'⟩;have hS:=hS.call (L:=L2) hS';rw[h.off];(repeat(refine jt ⟨?_⟩;refine hS.q ?_;intro _ hS));refine jt ⟨?_⟩;refine Ae.mk Tryz.underlying4 ?_;by_cases hk2:20<k
  ·(repeat(refine jt ⟨?_⟩;refine hS.q ?_;intro _ hS));refine jt ⟨?_⟩;refine Cl.mono (Lq (fs:=[]) hF2 (hS.part (L:=L2)) (Arr.nil _ _ _) AC) ?_;rintro _ w5⟨L3,hF3,hS'⟩;have hS:=hS.call (L:=L2) hS';(repeat(refine jt ⟨?_⟩;refine hS.q ?_;intro _ hS));refine jt ⟨?_⟩;refine⟨k+1,⟨rfl,rfl,rfl,trivial⟩,⟨AA,_,_,_,hF3,h.arm _,λ_=>rfl,hS⟩,AA⟩
  ·(repeat(refine jt ⟨?_⟩;refine hS.q ?_;intro _ hS));refine jt ⟨?_⟩;refine⟨k+1,⟨rfl,rfl,rfl,trivial⟩,⟨AA,_,_,_,hF2,h,λh=>absurd h AA,hS⟩,AA⟩
 |down m2 L2 _ hf h hF2 hS'=>
  have hS:=hS.call (L:=L1) hS';have hk21:k<22:=Nat.lt_of_not_le λh=>hf (hfk h);refine jr ⟨?_⟩;(repeat(refine jt ⟨?_⟩;refine hS.q ?_;intro _ hS));refine jt ⟨?_⟩;refine Cl.mono (Ie hF2 (hS.part (L:=L2))) ?_;rintro _ w4⟨rfl,hS'⟩;have hS:=hS.call (L:=L2) hS';rw[h.off];(repeat(refine jt ⟨?_⟩;refine hS.q ?_;intro _ hS));refine jt ⟨?_⟩;refine Ae.mk Tryz.underlying4 ?_;(repeat(refine jt ⟨?_⟩;refine hS.q ?_;intro _ hS));refine jt ⟨?_⟩
  refine Cl.mono (Sv hF2 (hS.part (L:=L2)) h.fs h.found AA (hak.stay hS (L:=L2)) hkl) ?_;rintro _ w5⟨g,Lg,m3,_,rfl,rfl,h3,hf3,hF3,hS'⟩;have hS:=hS.call (L:=L2) hS';have hS:=hS.sub (((CC Lg L2).append_right P).cons_cons _);by_cases hk2:20<k
  ·(repeat(refine jt ⟨?_⟩;refine hS.q ?_;intro _ hS));refine jt ⟨?_⟩;refine Cl.mono (Lq (fs:=[]) hF3 (hS.part (L:=Lg)) (Arr.nil _ _ _) AC) ?_;rintro _ w5⟨L3,hF4,hS'⟩;have hS:=hS.call (L:=Lg) hS';(repeat(refine jt ⟨?_⟩;refine hS.q ?_;intro _ hS));refine jt ⟨?_⟩;refine⟨k+1,⟨rfl,rfl,rfl,trivial⟩,⟨AA,_,_,_,hF4,h3.arm _,λ_=>rfl,hS⟩,AA⟩
  ·(repeat(refine jt ⟨?_⟩;refine hS.q ?_;intro _ hS));refine jt ⟨?_⟩;refine⟨k+1,⟨rfl,rfl,rfl,trivial⟩,⟨AA,_,_,_,hF3,h3,λ_=>hf3,hS⟩,AA⟩
theorem Ch.rest{sb f c e:Nat}{gv:Int}{now:List AO}{lk:CH}{L:AH}(h:Ch sb f c e gv now lk L): ∃m LF,LF.Sublist L∧BI f m LF∧Gx c e m now:=by
 obtain⟨s,m,hO,hI, -⟩:=h;obtain⟨o,R,LF,rfl,hF, -⟩:=hO.fs;exact⟨m,LF,(Ah R LF).cons _,hF,hI.rest⟩
abbrev D8(kd n:Int)(key to:AE)(ao:Option Addr)(no co:Nat)(af:Option Addr)(nf cf:Nat)(ak:Option Addr)(nk ck:Nat):List Value:=[.int .i64 kd,.int .i64 n,AG key,AG to,.slice ao no co,.slice af nf cf,.slice ak nk ck]
def Jn.v(s:Jn):Value:= .slice s.a s.l.length s.c
def DI(x:LM)(n:Int):Option (List AO):=if n<1 then none else if x.gn[(n-1).toNat]?=some false then(x.sn[(n-1).toNat]?).map (·.l)else none
structure Lf(c e:Nat)(x:LM)(L Lv Lg P:AH):Prop where
 st:Ch x.sb x.f c e x.sn.length x.now (DI x) L
 at_:EH P x
 v:AT TY 1 x.sa x.sn.length x.sc (x.sn.map Jn.v) Lv
 sn: ∀s∈x.sn,Es P s.a (s.l.flatMap BN)∧s.l.length≤262144
 g:AT Jo 1 x.ga x.gn.length x.gc (x.gn.map Value.bool) Lg
 len:x.gn.length=x.sn.length
def Gy(lb c e:Nat)(x:LM)(H:AH):Prop:=∃L Lv Lg P,H=(lb,x.obj)::(L++(Lv++(Lg++P)))∧Lf c e x L Lv Lg P
def LM.same(x y:LM):Prop:=y.ah=x.ah∧y.hs=x.hs
theorem vZ(A B P:AH)(p q:Nat×Obj):(A++(p::q::(B++P))).Perm (p::q::(B++(A++P))):=Dd.trans (.cons _ (Dd.trans (.cons _ (GX A B P))))
theorem EH.more{P Q:AH}{x:LM}(h:EH P x)(hs:P.Sublist Q):EH Q x:=⟨h.at_.more hs,h.ad,h.cap,h.so⟩
theorem Lf.anew{c e:Nat}{x:LM}{P:AH}{L:AH}{f sb:Nat}(h:Ch sb f c e 0 x.now Hu L)(hn:EH P x):Lf c e (x.fresh f sb) L [] [] P:=
 ⟨by rw[show DI (x.fresh f sb)=Hu from funext λn=>by unfold DI Hu;simp];exact h,⟨hn.at_,hn.ad,hn.cap,hn.so⟩,AT.nil,nofun,AT.nil,rfl⟩
theorem UH{w:World}{lb c e:Nat}{x:LM}{m:AJ}{LF P:AH}{under:List Ac}(hF:BI x.f m LF)(hB:H4 c m)(hR:GP c e (AN m) (λr=>r=x.now∨r=Cf x.now under))(hn:EH P x)(hh:Holds ((lb,x.obj)::(LF++P)) w)(hG:Bp w (keys ((lb,x.obj)::(LF++P))))(hah:Arr w (keys ((lb,x.obj)::(LF++P))) x.ah (x.hs.map AY))(hhl:x.hs.length≤1099511627776)
  {kd n:Int}{key to:AE}{ao:Option Addr}{no co:Nat}{af:Option Addr}{cf:Nat}{fs:List (Int×Int)}(haf:Arr w (keys ((lb,x.obj)::(LF++P))) af (HI fs))(hfl:fs.length≤1099511627776){ak:Option Addr}{ck:Nat}{keep:List Int}(hak:Arr w (keys ((lb,x.obj)::(LF++P))) ak (keep.map AY))(hkl:keep.length≤1099511627776)
  {au:Option Addr}{cu:Nat}(hau:Arr w (keys ((lb,x.obj)::(LF++P))) au (under.flatMap A8))(hul:x.now.length+under.length≤8388608)(hc:c+23≤7000000)(he:e≤262144):
  Cl Tryz.prog VB [ptr lb,.agg ⟨D8 kd n key to ao no co af fs.length cf ak keep.length ck⟩,.slice au under.length cu] w λv w'=>v= .bool true∧ ∃y H',(y.now=x.now∨y.now=Cf x.now under)∧x.same y∧Gy lb (c+23) e y H'∧St w (keys ((lb,x.obj)::(LF++P))) H' w':=by
 have hS:=St.enter hh;have hnl:x.now.length≤1099511627776:=AA;generalize hT:keys ((lb,x.obj)::(LF++P))=T0 at hS hG hah haf hak hau⊢;refine kH rfl ?_;(repeat(refine jt ⟨?_⟩;refine hS.q ?_;intro _ hS));refine jt ⟨?_⟩;refine hS.al ?_;intro b4 w1 _ hS;(repeat(refine jt ⟨?_⟩;refine hS.q ?_;intro _ hS));refine jt ⟨?_⟩;refine AL.draw AK mixed (λw'=>w'.cell? ⟨lb,0,none⟩=some (ptr x.f)∧w'.cell? ⟨b4,6,none⟩=some (.slice ak keep.length ck)) [10] [0,1,2,3,4,5,6,7,8,9,10] AD ⟨hS.drew.cell (b:=lb) (off:=0) rfl,hS.drew.cell (b:=b4) (off:=6) rfl⟩ ?_
 have hS:=hS.drew;refine jr ⟨?_⟩;refine CM (λw' h=>h.1) ?_;refine jr ⟨?_⟩;refine CM (λw' h=>h.2) ?_;refine jr ⟨?_⟩;refine Cl.mono (Sv hF (hS.part (L:=LF)) hB hR AA (hak.stay hS (L:=LF)) hkl) ?_;rintro _ w2⟨g,Lg,m2,cur,rfl,hcur,hm2, -,hF2,hS'⟩;have hS:=hS.call (L:=LF) hS';refine Ae.mk ⟨hS.cell (b:=lb) (off:=0) rfl,hS.cell (b:=b4) (off:=6) rfl⟩ ?_;(repeat(refine jt ⟨?_⟩;refine hS.q ?_;intro _ hS));refine jt ⟨?_⟩
 have hS:=hS.sub ((((CC Lg LF).append_right P).cons_cons _).cons_cons _);have hl:=WX (x:={x with f:=g}) (lb:=lb) (P:=P) hF2 hm2 (hS.part (L:=(lb,({x with f:=g}:LM).obj)::(Lg++P))) (hG.part hS (L:=(lb,({x with f:=g}:LM).obj)::(Lg++P))) (hah.stay hS (L:=(lb,({x with f:=g}:LM).obj)::(Lg++P))) hhl (haf.stay hS (L:=(lb,({x with f:=g}:LM).obj)::(Lg++P))) hfl (hak.stay hS (L:=(lb,({x with f:=g}:LM).obj)::(Lg++P))) hkl hc he (cf:=cf) (ck:=ck)
 refine Cl.mono hl ?_;clear hl;rintro _ w3⟨rfl,f2,sb2,L2,hK,hS'⟩;have hS:=hS.call (L:=(lb,({x with f:=g}:LM).obj)::(Lg++P)) hS';(repeat(refine jt ⟨?_⟩;refine hS.q ?_;intro _ hS));refine jt ⟨?_⟩;refine Cl.mono (Pt (os:=under) (hS.part (L:=P)) hn.at_ hn.ad hn.cap hn.so ((hS.arrOld hau).sub AB) hul) ?_;rintro _ w4⟨a4,c4,L4,rfl,h4,h4d,h4c,h4s,hS'⟩;have hS:=(hS.callNew hS').perm (vZ L4 L2 P _ _);have hn4:EH (L4++P) x:=hn.more (Ah L4 P)
 (repeat(refine jt ⟨?_⟩;refine hS.q ?_;intro _ hS));refine jt ⟨?_⟩;refine Cl.mono (Jy (x:=({x with f:=g}:LM).fresh f2 sb2) hK (hS.part (L:=(lb,(x.fresh f2 sb2).obj)::(L2++(L4++P)))) hn4.at_ hnl) ?_;rintro _ w5⟨rfl,hS'⟩;have hS:=hS.call (L:=(lb,(x.fresh f2 sb2).obj)::(L2++(L4++P))) hS';by_cases hcn:cur=x.now
 ·subst hcn;rw[decide_eq_true rfl];(repeat(refine jt ⟨?_⟩;refine hS.q ?_;intro _ hS));refine jt ⟨?_⟩;refine Cl.mono (Jy (x:=({x with f:=g}:LM).fresh f2 sb2) hK (hS.part (L:=(lb,(x.fresh f2 sb2).obj)::(L2++(L4++P)))) hn4.at_ hnl) ?_;rintro _ w6⟨rfl,hS'⟩;have hS:=hS.call (L:=(lb,(x.fresh f2 sb2).obj)::(L2++(L4++P))) hS';rw[decide_eq_true rfl];(repeat(refine jt ⟨?_⟩;refine hS.q ?_;intro _ hS));refine jt ⟨?_⟩
  exact⟨rfl,x.fresh f2 sb2,_,.inl rfl,⟨rfl,rfl⟩,⟨L2,[],[],L4++P,rfl,Lf.anew hK hn4⟩,hS.sub (AS _ _)⟩
 ·obtain rfl:cur=Cf x.now under:=hcur.resolve_left hcn;rw[decide_eq_false hcn];(repeat(refine jt ⟨?_⟩;refine hS.q ?_;intro _ hS));refine jt ⟨?_⟩;have hn5:EH (L4++P) {x with an:=a4,now:=Cf x.now under,cn:=c4}:=⟨h4,h4d,h4c,h4s⟩;refine Cl.mono (Jy (x:=({x with an:=a4,now:=Cf x.now under,cn:=c4}:LM).fresh f2 sb2) hK (hS.part (L:=(lb,(({x with an:=a4,now:=Cf x.now under,cn:=c4}:LM).fresh f2 sb2).obj)::(L2++(L4++P)))) h4 (Au hK.len AC)) ?_
  rintro _ w6⟨rfl,hS'⟩;have hS:=hS.call (L:=(lb,(({x with an:=a4,now:=Cf x.now under,cn:=c4}:LM).fresh f2 sb2).obj)::(L2++(L4++P))) hS';rw[decide_eq_true rfl];(repeat(refine jt ⟨?_⟩;refine hS.q ?_;intro _ hS));refine jt ⟨?_⟩;exact⟨rfl,({x with an:=a4,now:=Cf x.now under,cn:=c4}:LM).fresh f2 sb2,_,.inr rfl,⟨rfl,rfl⟩,⟨L2,[],[],L4++P,rfl,Lf.anew (x:={x with an:=a4,now:=Cf x.now under,cn:=c4}) hK hn5⟩,hS.sub (AS _ _)⟩
def NX(lb c e:Nat)(x:LM)(T:List Nat)(w:World)(v:Value)(w':World):Prop:=v= .bool true∧ ∃y H',x.same y∧Gy lb c e y H'∧St w T H' w'
structure Ji(w:World)(T:List Nat)(x:LM)(ao:Option Addr)(ops:List Ac)(af:Option Addr)(fs:List (Int×Int))(ak:Option Addr)(keep:List Int):Prop where
 ah:Arr w T x.ah (x.hs.map AY)
 hl:x.hs.length≤1099511627776
 o:Arr w T ao (ops.flatMap A8)
 ol:Ap ops≤1099511627776
 f:Arr w T af (HI fs)
 fl:fs.length≤1099511627776
 k:Arr w T ak (keep.map AY)
 kl:keep.length≤1099511627776
theorem Lf.more{c c' e e':Nat}{x:LM}{L Lv Lg P:AH}(h:Lf c e x L Lv Lg P)(hc:c≤c')(he:e≤e')(hc1:c'≤7000000)(he1:e'≤262144):Lf c' e' x L Lv Lg P:={h with st:=h.st.more hc he hc1 he1}
theorem S3{w:World}{T0:List Nat}{w1:World}{lb c e:Nat}{x:LM}{L Q P:AH}{under:List Ac}{b:Nat}{ob:Obj}(h:Nh x.sb x.f c e (λr=>r=x.now∨r=Cf x.now under) L)(hn:EH (Q++P) x)(hS:St w T0 ((b,ob)::(lb,x.obj)::(L++(Q++P))) w1)(hG:Bp w T0)
  {kd n:Int}{key to:AE}{ao:Option Addr}{co:Nat}{ops:List Ac}{af:Option Addr}{cf:Nat}{fs:List (Int×Int)}{ak:Option Addr}{ck:Nat}{keep:List Int}(hb:Ji w T0 x ao ops af fs ak keep){au:Option Addr}{cu:Nat}(hau:Arr w T0 au (under.flatMap A8))(hul:x.now.length+under.length≤8388608)(hc:c+23≤7000000)(he:e≤262144):
  Cl Tryz.prog VB [ptr lb,.agg ⟨D8 kd n key to ao ops.length co af fs.length cf ak keep.length ck⟩,.slice au under.length cu] w1 λv w'=>v= .bool true∧ ∃y H',x.same y∧Gy lb (c+23) e y H'∧(y.now=x.now∨y.now=Cf x.now under)∧St w T0 ((b,ob)::H') w':=by
 obtain⟨s,m,hO, -,hd⟩:=h;obtain⟨o,R,LF,rfl,hF, -⟩:=hO.fs;have hS:=hS.sub ((((Ah R LF).cons _).append_right (Q++P) |>.cons_cons (lb,x.obj)).cons_cons (b,ob));refine(UH hF hd.fs hd.found hn (hS.part (L:=(lb,x.obj)::(LF++(Q++P)))) (hG.part hS (L:=(lb,x.obj)::(LF++(Q++P)))) (hb.ah.stay hS (L:=(lb,x.obj)::(LF++(Q++P)))) hb.hl (hb.f.stay hS (L:=(lb,x.obj)::(LF++(Q++P)))) hb.fl (hb.k.stay hS (L:=(lb,x.obj)::(LF++(Q++P)))) hb.kl (hau.stay hS (L:=(lb,x.obj)::(LF++(Q++P)))) hul hc he).mono ?_
 rintro _ w2⟨rfl,y,H',hy,hxy,hL,hS'⟩;exact⟨rfl,y,H',hxy,hL,hy,hS.call (L:=(lb,x.obj)::(LF++(Q++P))) hS'⟩
inductive Na(c e:Nat)(x:LM)(L:AH):Int→Prop where
 |run (z:Int) (hz:z=0∨z=6) (h:Ch x.sb x.f c e x.sn.length x.now (DI x) L):Na c e x L z
 |down (h:Nh x.sb x.f c e (· =x.now) L):Na c e x L 7
theorem XW{w:World}{lb c e c0:Nat}{x:LM}{L0 L Lv Lg P:AH}(h:Lf c0 e x L0 Lv Lg P){z:Int}(hz:Na c e x L z)(hh:Holds ((lb,x.obj)::(L++(Lv++(Lg++P)))) w)(hG:Bp w (keys ((lb,x.obj)::(L++(Lv++(Lg++P))))))
  {kd n:Int}{key to:AE}{ao:Option Addr}{co:Nat}{ops:List Ac}{af:Option Addr}{cf:Nat}{fs:List (Int×Int)}{ak:Option Addr}{ck:Nat}{keep:List Int}(hb:Ji w (keys ((lb,x.obj)::(L++(Lv++(Lg++P))))) x ao ops af fs ak keep)(hc:c+23≤7000000)(he:e≤262144):
  Cl Tryz.prog p9 [ptr lb,.agg ⟨D8 kd n key to ao ops.length co af fs.length cf ak keep.length ck⟩,.int .i64 z] w (NX lb (c+23) e x (keys ((lb,x.obj)::(L++(Lv++(Lg++P))))) w):=by
 have hS:=St.enter hh;have hnl:=h.st.len;have hn:EH (Lv++(Lg++P)) x:=h.at_.more ((Ah Lg P).trans (Ah Lv _));generalize hT:keys ((lb,x.obj)::(L++(Lv++(Lg++P))))=T0 at hS hG hb⊢;refine kL rfl ?_;(repeat(refine jt ⟨?_⟩;refine hS.q ?_;intro _ hS));refine jt ⟨?_⟩;refine hS.al ?_;intro b4 w1 _ hS;(repeat(refine jt ⟨?_⟩;refine hS.q ?_;intro _ hS));refine jt ⟨?_⟩;cases hz with
 |run z hz hK=>
  have hend:Cl Tryz.prog VC [ptr lb,.slice x.an x.now.length x.cn] _ λv w'=>v= .bool true∧St w T0 _ w':=(Jy hK (hS.part (L:=(lb,x.obj)::(L++(Lv++(Lg++P))))) hn.at_ AA).mono λv w' h=>⟨by rw[h.1,decide_eq_true rfl],hS.call (L:=(lb,x.obj)::(L++(Lv++(Lg++P)))) h.2⟩;rcases hz with rfl|rfl
  ·(repeat(refine jt ⟨?_⟩;refine hS.q ?_;intro _ hS));refine jt ⟨?_⟩;refine Cl.mono hend ?_;rintro _ w2⟨rfl,hS⟩;(repeat(refine jt ⟨?_⟩;refine hS.q ?_;intro _ hS));refine jt ⟨?_⟩;exact⟨rfl,x,_,⟨rfl,rfl⟩,⟨L,Lv,Lg,P,rfl,{h with st:=hK.more AA (AV _) hc he}⟩,hS.sub (AS _ _)⟩
  ·(repeat(refine jt ⟨?_⟩;refine hS.q ?_;intro _ hS));refine jt ⟨?_⟩;refine Cl.mono hend ?_;rintro _ w2⟨rfl,hS⟩;(repeat(refine jt ⟨?_⟩;refine hS.q ?_;intro _ hS));refine jt ⟨?_⟩;exact⟨rfl,x,_,⟨rfl,rfl⟩,⟨L,Lv,Lg,P,rfl,{h with st:=hK.more AA (AV _) hc he}⟩,hS.sub (AS _ _)⟩
 |down hK=>
  obtain⟨s,m,hO,hd,hdn⟩:=hK;(repeat(refine jt ⟨?_⟩;refine hS.q ?_;intro _ hS));refine jt ⟨?_⟩;refine Cl.mono (hO.down (hS.part (L:=L))) ?_;rintro _ w2⟨rfl,hS'⟩;have hS:=hS.call (L:=L) hS';rw[hdn.off];(repeat(refine jt ⟨?_⟩;refine hS.q ?_;intro _ hS));refine jt ⟨?_⟩;refine Cl.mono (S3 (under:=[]) (Q:=Lv) (P:=Lg++P) ⟨s,m,hO,hd,hdn.off,hdn.found.mono (AV _) (AV _) (λr hr=> .inl hr),hdn.fs⟩ hn hS hG hb (Arr.nil _ _ _) (by simp only[Bo];omega) hc he) ?_
  rintro _ w3⟨rfl,y,H',hxy,hL, -,hS⟩;(repeat(refine jt ⟨?_⟩;refine hS.q ?_;intro _ hS));refine jt ⟨?_⟩;exact⟨rfl,y,H',hxy,hL,hS.sub (AS _ _)⟩
theorem bH{w:World}(hG:Bp w []){a:Option Addr}{c:Nat}{hs:List Int}{mm fan:Int}(ha:Arr w [] a (hs.map AY))(hhl:hs.length≤1099511627776):
  Cl Tryz.prog p6 [.agg ⟨[.int .i64 mm,.int .i64 fan,.slice a hs.length c]⟩] w λv w'=>∃lb x H',v= .tuple ⟨[ptr lb,.bool true]⟩∧x.ah=a∧x.hs=hs∧Gy lb 2 0 x H'∧St w [] H' w':=by
 have hS:=St.start w;refine kG rfl ?_;(repeat(refine jt ⟨?_⟩;refine hS.q ?_;intro _ hS));refine jt ⟨?_⟩;refine hS.al ?_;intro b1 w1 _ hS;(repeat(refine jt ⟨?_⟩;refine hS.q ?_;intro _ hS));refine jt ⟨?_⟩;have hcell: ∀w' H,St w [] (H++[(b1,.cells ⟨[.int .i64 mm,.int .i64 fan,.slice a hs.length c]⟩ Pq (0,0))]) w'→ ∀(j:Nat)(v:Value),([.int .i64 mm,.int .i64 fan,.slice a hs.length c]:List Value)[j]?=some v→w'.cell? ⟨b1,0+j,none⟩=some v:=by
  intro w' H hS j v hj;rw[Cs];exact hS.cell (b:=b1) (off:=j) hj
 refine AL.draw AK mixed (λw'=>∀(j:Nat)(v:Value),([.int .i64 mm,.int .i64 fan,.slice a hs.length c]:List Value)[j]?=some v→w'.cell? ⟨b1,0+j,none⟩=some v) [3,4] [1,0,2,3,4] AD (hcell _ [] hS.drew) ?_;have hS:=hS.drew;refine jr ⟨?_⟩;refine Mr (l:=[.int .i64 mm,.int .i64 fan,.slice a hs.length c]) (λw' h=>h) rfl ?_;refine jr ⟨?_⟩;refine Cl.mono NZ ?_;rintro _ w2⟨f,L0,rfl, -,hF,hS'⟩;have hS:=hS.callNew hS'
 refine Ae.mk (hcell _ L0 hS) ?_;refine jr ⟨?_⟩;refine hS.al ?_;intro lb w3 _ hS;(repeat(refine jt ⟨?_⟩;refine hS.q ?_;intro _ hS));refine jt ⟨?_⟩;refine AL.draw AK mixed (λw'=>St w [] _ w') [5,6,7,8,9,10] [0,1,2,3,4,5,6,7,8,9,10] AD hS.drew ?_;have hS:=hS.drew;refine jr ⟨?_⟩;refine Cl.mono (Sw (hs:=hs) (mm:=mm) (fan:=fan) (cp:=c) (a:=a) hF (hS.part (L:=L0)) (hG.part hS (L:=L0)) rL AA AA (ha.stay hS (L:=L0)) hhl) ?_
 rintro _ w4 hv;cases hv with
 |ok sb L1 _ h hS'=>
  have hS:=hS.call (L:=L0) hS';refine jr ⟨?_⟩;(repeat(refine jt ⟨?_⟩;refine hS.q ?_;intro _ hS));refine jt ⟨?_⟩;refine⟨lb,⟨f,sb,mm,fan,a,hs,c,none,[],0,none,[],0,none,[],0⟩,_,rfl,rfl,rfl,⟨L1,[],[],_,rfl,?_⟩,hS⟩;refine⟨?_,⟨Es.nil _,.inl rfl,Ag _,List.Pairwise.nil⟩,AT.nil,nofun,AT.nil,rfl⟩;rw[show DI (⟨f,sb,mm,fan,a,hs,c,none,[],0,none,[],0,none,[],0⟩:LM)=Hu from funext λn=>by unfold DI Hu;simp];exact h
 |space m2 L2 _ hf h hF2 hS'=>exact absurd rfl hf
 |down m2 L2 _ hf h hF2 hS'=>exact absurd rfl hf
theorem v8(A Y B C P:AH)(p q:Nat×Obj):(A++(p::q::(Y++(B++(C++P))))).Perm (p::q::(Y++(B++(C++(A++P))))):=Dd.trans (.cons _ (Dd.trans (.cons _ ((GX A Y _).trans (List.Perm.append_left Y ((GX A B _).trans (List.Perm.append_left B (GX A C P))))))))
theorem tL{w:World}{lb c e:Nat}{x:LM}{H:AH}(h:Gy lb c e x H)(hh:Holds H w)(hG:Bp w (keys H)){kd n:Int}{key to:AE}{ao:Option Addr}{co:Nat}{ops:List Ac}{af:Option Addr}{cf:Nat}{fs:List (Int×Int)}{ak:Option Addr}{ck:Nat}{keep:List Int}(hb:Ji w (keys H) x ao ops af fs ak keep)(hc:c+24≤7000000)(he:e+ops.length≤262144):
  Cl Tryz.prog qB [ptr lb,.agg ⟨D8 kd n key to ao ops.length co af fs.length cf ak keep.length ck⟩] w (NX lb (c+24) (e+ops.length) x (keys H) w):=by
 obtain⟨L,Lv,Lg,P,rfl,hf⟩:=h;have hS:=St.enter hh;have hnl:=hf.st.len;have hn:EH (Lv++(Lg++P)) x:=hf.at_.more ((Ah Lg P).trans (Ah Lv _));generalize hT:keys ((lb,x.obj)::(L++(Lv++(Lg++P))))=T0 at hS hG hb⊢;have hol:=hb.ol;refine kM rfl ?_;(repeat(refine jt ⟨?_⟩;refine hS.q ?_;intro _ hS));refine jt ⟨?_⟩;refine hS.al ?_;intro b3 w1 _ hS;(repeat(refine jt ⟨?_⟩;refine hS.q ?_;intro _ hS));refine jt ⟨?_⟩
 refine AL.draw AK mixed (λw'=>St w T0 ((b3,.cells ⟨D8 kd n key to ao ops.length co af fs.length cf ak keep.length ck⟩ F0 (0,0))::(lb,x.obj)::(L++(Lv++(Lg++P)))) w') [6,7] [0,1,2,3,4,5,6,7] AD hS.drew ?_;have hS:=hS.drew;refine jr ⟨?_⟩;refine Cl.mono (ZI hf.st (hS.part (L:=L)) (hG.part hS (L:=L)) (hb.o.stay hS (L:=L)) hol he AA) ?_;rintro _ w2 hv;cases hv with
 |ok L2 _ hl h hS'=>
  have hS:=hS.call (L:=L) hS';refine jr ⟨?_⟩;(repeat(refine jt ⟨?_⟩;refine hS.q ?_;intro _ hS));refine jt ⟨?_⟩;refine Cl.mono (Pa ((hS.arrOld hb.o).sub AB) hol AA) ?_;rintro _ w3⟨rfl,hS'⟩;have hS:=hS.call0 hS';rw[decide_eq_false AA];(repeat(refine jt ⟨?_⟩;refine hS.q ?_;intro _ hS));refine jt ⟨?_⟩;refine AL.draw AK mixed (λw'=>w'.cell? ⟨lb,5,none⟩=some (.slice x.an x.now.length x.cn)∧w'.cell? ⟨b3,4,none⟩=some (.slice ao ops.length co)) [10] [0,1,2,3,4,5,6,7,8,9,10] AD ⟨hS.drew.cell (b:=lb) (off:=5) rfl,hS.drew.cell (b:=b3) (off:=4) rfl⟩ ?_
  have hS:=hS.drew;refine jr ⟨?_⟩;refine CM (λw' h=>h.1) ?_;refine jr ⟨?_⟩;refine CM (λw' h=>h.2) ?_;refine jr ⟨?_⟩;refine Cl.mono (Pt (hS.part (L:=P)) hf.at_.at_ hn.ad hn.cap hn.so ((hS.arrOld hb.o).sub AB) AA) ?_;rintro _ w4⟨a4,c4,L4,rfl,h4,h4d,h4c,h4s,hS'⟩;have hS:=(hS.callNew hS').perm (v8 L4 L2 Lv Lg P _ _);refine Ae.mk ⟨hS.cell (b:=lb) (off:=5) rfl,hS.cell (b:=b3) (off:=4) rfl⟩ ?_;(repeat(refine jt ⟨?_⟩;refine hS.q ?_;intro _ hS));refine jt ⟨?_⟩
  exact⟨rfl,{x with an:=a4,now:=Cf x.now ops,cn:=c4},_,⟨rfl,rfl⟩,⟨L2,Lv,Lg,L4++P,rfl,⟨h.more AA (AV _) hc he,⟨h4,h4d,h4c,h4s⟩,hf.v,λs hs=>⟨(hf.sn s hs).1.more (Ah L4 P),(hf.sn s hs).2⟩,hf.g,hf.len⟩⟩,hS.sub (AS _ _)⟩
 |long L2 _ hl h hS'=>
  have hS:=hS.call (L:=L) hS';refine jr ⟨?_⟩;(repeat(refine jt ⟨?_⟩;refine hS.q ?_;intro _ hS));refine jt ⟨?_⟩;refine Cl.mono (Pa ((hS.arrOld hb.o).sub AB) hol AA) ?_;rintro _ w3⟨rfl,hS'⟩;have hS:=hS.call0 hS';rw[decide_eq_true hl];(repeat(refine jt ⟨?_⟩;refine hS.q ?_;intro _ hS));refine jt ⟨?_⟩;exact⟨rfl,x,_,⟨rfl,rfl⟩,⟨L2,Lv,Lg,P,rfl,{hf with st:=h.more AA AA hc he}⟩,hS.sub (AS _ _)⟩
 |space L2 _ h hS'=>
  have hS:=hS.call (L:=L) hS';refine jr ⟨?_⟩;(repeat(refine jt ⟨?_⟩;refine hS.q ?_;intro _ hS));refine jt ⟨?_⟩;refine Cl.mono (Jy h (hS.part (L:=(lb,x.obj)::(L2++(Lv++(Lg++P))))) hn.at_ AA) ?_;rintro _ w3⟨rfl,hS'⟩;have hS:=hS.call (L:=(lb,x.obj)::(L2++(Lv++(Lg++P)))) hS';rw[decide_eq_true rfl];(repeat(refine jt ⟨?_⟩;refine hS.q ?_;intro _ hS));refine jt ⟨?_⟩;exact⟨rfl,x,_,⟨rfl,rfl⟩,⟨L2,Lv,Lg,P,rfl,{hf with st:=h.more AA AA hc he}⟩,hS.sub (AS _ _)⟩
 |down L2 _ h hS'=>
  have hS:=hS.call (L:=L) hS';refine jr ⟨?_⟩;obtain⟨s,m,hO,hd,hdn⟩:=h;(repeat(refine jt ⟨?_⟩;refine hS.q ?_;intro _ hS));refine jt ⟨?_⟩;refine Cl.mono (hO.down (hS.part (L:=L2))) ?_;rintro _ w3⟨rfl,hS'⟩;have hS:=hS.call (L:=L2) hS';rw[hdn.off];(repeat(refine jt ⟨?_⟩;refine hS.q ?_;intro _ hS));refine jt ⟨?_⟩;refine Cl.mono (H8 hO (hS.part (L:=L2))) ?_;rintro _ w3⟨rfl,hS'⟩;have hS:=hS.call (L:=L2) hS'
  rw[hd,Bool.true_or];(repeat(refine jt ⟨?_⟩;refine hS.q ?_;intro _ hS));refine jt ⟨?_⟩;refine Cl.mono (S3 (Q:=Lv) (P:=Lg++P) ⟨s,m,hO,hd,hdn⟩ hn hS hG hb hb.o AA AA he) ?_;rintro _ w3⟨rfl,y,H',hxy,hL, -,hS⟩;(repeat(refine jt ⟨?_⟩;refine hS.q ?_;intro _ hS));refine jt ⟨?_⟩;exact⟨rfl,y,H',hxy,hL,hS.sub (AS _ _)⟩
def HE(kd:Int):Prop:=∀(w:World)(lb c e:Nat)(x:LM)(H:AH)(n:Int)(key to:AE)(ao:Option Addr)(co:Nat)(ops:List Ac)(af:Option Addr)(cf:Nat)(fs:List (Int×Int))(ak:Option Addr)(ck:Nat)(keep:List Int),
 Gy lb c e x H→Holds H w→Bp w (keys H)→Ji w (keys H) x ao ops af fs ak keep→Kv n→key.length≤1099511627776→c+24≤7000000→e+ops.length≤262144→
 Cl Tryz.prog qA [ptr lb,.agg ⟨D8 kd n key to ao ops.length co af fs.length cf ak keep.length ck⟩] w (NX lb (c+24) (e+ops.length) x (keys H) w)
theorem Ji.stay{w w':World}{T:List Nat}{H L:AH}{F:AH→AH}{x:LM}{ao:Option Addr}{ops:List Ac}{af:Option Addr}{fs:List (Int×Int)}{ak:Option Addr}{keep:List Int}(h:Ji w T x ao ops af fs ak keep)(hS:St w T H w') [hc:Chunk H L F]:Ji w' (keys L) x ao ops af fs ak keep:=
 ⟨h.ah.stay hS (L:=L),h.hl,h.o.stay hS (L:=L),h.ol,h.f.stay hS (L:=L),h.fl,h.k.stay hS (L:=L),h.kl⟩
theorem x0:HE 1:=by
 intro w lb c e x H n key to ao co ops af cf fs ak ck keep h hh hG hb hn64 hkl hc he;obtain⟨L,Lv,Lg,P,rfl,hf⟩:=h;have hS:=St.enter hh;have hnl:=hf.st.len;have hn:EH (Lv++(Lg++P)) x:=hf.at_.more ((Ah Lg P).trans (Ah Lv _));generalize hT:keys ((lb,x.obj)::(L++(Lv++(Lg++P))))=T0 at hS hG hb⊢;have hol:=hb.ol;refine Hh rfl ?_;(repeat(refine jt ⟨?_⟩;refine hS.q ?_;intro _ hS));refine jt ⟨?_⟩;refine hS.al ?_
 intro b3 w1 _ hS;(repeat(refine jt ⟨?_⟩;refine hS.q ?_;intro _ hS));refine jt ⟨?_⟩;refine Cl.mono (tL ⟨L,Lv,Lg,P,rfl,hf⟩ (hS.part (L:=(lb,x.obj)::(L++(Lv++(Lg++P))))) (hG.part hS (L:=(lb,x.obj)::(L++(Lv++(Lg++P))))) (hb.stay hS (L:=(lb,x.obj)::(L++(Lv++(Lg++P))))) hc he) ?_;rintro _ w2⟨rfl,y,H',hxy,hL,hS'⟩;have hS:=hS.call (L:=(lb,x.obj)::(L++(Lv++(Lg++P)))) hS';(repeat(refine jt ⟨?_⟩;refine hS.q ?_;intro _ hS));refine jt ⟨?_⟩
 exact⟨rfl,y,H',hxy,hL,hS.sub (AS _ _)⟩
theorem Jl.told{w w':World}{c e:Nat}{x:LM}{T:List Nat}{v:Value}(h:Jl x.sb x.f c e x.sn.length x.now (DI x) w T v w'): ∃z L',v= .int .i64 z∧Na (c+1) e x L' z∧St w T L' w':=by
 cases h with
 |run z hz L' _ h hS=>exact⟨z,L',rfl,.run z hz h,hS⟩
 |down L' _ h hS=>exact⟨7,L',rfl,.down h,hS⟩
theorem x9:HE 6:=by
 intro w lb c e x H n key to ao co ops af cf fs ak ck keep h hh hG hb hn64 hkl hc he;obtain⟨L,Lv,Lg,P,rfl,hf⟩:=h;have hS:=St.enter hh;have hnl:=hf.st.len;have hn:EH (Lv++(Lg++P)) x:=hf.at_.more ((Ah Lg P).trans (Ah Lv _));generalize hT:keys ((lb,x.obj)::(L++(Lv++(Lg++P))))=T0 at hS hG hb⊢;have hol:=hb.ol;refine Hh rfl ?_;(repeat(refine jt ⟨?_⟩;refine hS.q ?_;intro _ hS));refine jt ⟨?_⟩;refine hS.al ?_
 intro b3 w1 _ hS;(repeat(refine jt ⟨?_⟩;refine hS.q ?_;intro _ hS));refine jt ⟨?_⟩;refine AL.draw AK mixed (λw'=>w'.cell? ⟨lb,1,none⟩=some (ptr x.sb)∧ ∀(j:Nat)(v:Value),(D8 6 n key to ao ops.length co af fs.length cf ak keep.length ck)[j]?=some v→w'.cell? ⟨b3,0+j,none⟩=some v) [7,8] [0,1,2,3,4,5,6,7,8] AD ⟨hS.drew.cell (b:=lb) (off:=1) rfl,λj v hj=>by rw[Cs];exact hS.drew.cell (b:=b3) (off:=j) hj⟩ ?_
 have hS:=hS.drew;refine jr ⟨?_⟩;refine Mr (l:=D8 6 n key to ao ops.length co af fs.length cf ak keep.length ck) (λw' h=>h.2) rfl ?_;refine jr ⟨?_⟩;refine CM (λw' h=>h.1) ?_;refine jr ⟨?_⟩;refine Cl.mono (ZC hf.st (hS.part (L:=L)) (hG.part hS (L:=L)) AA) ?_;rintro _ w2 hv;obtain⟨z,L2,rfl,hz,hS'⟩:=hv.told;have hS:=hS.call (L:=L) hS';refine Ae.mk ⟨hS.cell (b:=lb) (off:=1) rfl,λj v hj=>by rw[Cs];exact hS.cell (b:=b3) (off:=j) hj⟩ ?_
 refine jr ⟨?_⟩;refine Cl.mono (XW hf hz (hS.part (L:=(lb,x.obj)::(L2++(Lv++(Lg++P))))) (hG.part hS (L:=(lb,x.obj)::(L2++(Lv++(Lg++P))))) (hb.stay hS (L:=(lb,x.obj)::(L2++(Lv++(Lg++P))))) AA AA) ?_;rintro _ w3⟨rfl,y,H',hxy,⟨L3,Lv3,Lg3,P3,rfl,hf3⟩,hS'⟩;have hS:=hS.call (L:=(lb,x.obj)::(L2++(Lv++(Lg++P)))) hS';refine jr ⟨?_⟩;(repeat(refine jt ⟨?_⟩;refine hS.q ?_;intro _ hS));refine jt ⟨?_⟩;exact⟨rfl,y,_,hxy,⟨L3,Lv3,Lg3,P3,rfl,hf3.more AA AA hc he⟩,hS.sub (AS _ _)⟩
theorem yA:HE 7:=by
 intro w lb c e x H n key to ao co ops af cf fs ak ck keep h hh hG hb hn64 hkl hc he;obtain⟨L,Lv,Lg,P,rfl,hf⟩:=h;have hS:=St.enter hh;have hnl:=hf.st.len;have hn:EH (Lv++(Lg++P)) x:=hf.at_.more ((Ah Lg P).trans (Ah Lv _));generalize hT:keys ((lb,x.obj)::(L++(Lv++(Lg++P))))=T0 at hS hG hb⊢;have hol:=hb.ol;refine Hh rfl ?_;(repeat(refine jt ⟨?_⟩;refine hS.q ?_;intro _ hS));refine jt ⟨?_⟩;refine hS.al ?_
 intro b3 w1 _ hS;(repeat(refine jt ⟨?_⟩;refine hS.q ?_;intro _ hS));refine jt ⟨?_⟩;refine AL.draw AK mixed (λw'=>w'.cell? ⟨lb,1,none⟩=some (ptr x.sb)∧ ∀(j:Nat)(v:Value),(D8 7 n key to ao ops.length co af fs.length cf ak keep.length ck)[j]?=some v→w'.cell? ⟨b3,0+j,none⟩=some v) [7,8] [0,1,2,3,4,5,6,7,8] AD ⟨hS.drew.cell (b:=lb) (off:=1) rfl,λj v hj=>by rw[Cs];exact hS.drew.cell (b:=b3) (off:=j) hj⟩ ?_
 have hS:=hS.drew;refine jr ⟨?_⟩;refine Mr (l:=D8 7 n key to ao ops.length co af fs.length cf ak keep.length ck) (λw' h=>h.2) rfl ?_;refine jr ⟨?_⟩;refine CM (λw' h=>h.1) ?_;refine jr ⟨?_⟩;refine Cl.mono (ZA hf.st (hS.part (L:=L)) (hG.part hS (L:=L)) AA) ?_;rintro _ w2 hv;obtain⟨z,L2,rfl,hz,hS'⟩:=hv.told;have hS:=hS.call (L:=L) hS';refine Ae.mk ⟨hS.cell (b:=lb) (off:=1) rfl,λj v hj=>by rw[Cs];exact hS.cell (b:=b3) (off:=j) hj⟩ ?_
 refine jr ⟨?_⟩;refine Cl.mono (XW hf hz (hS.part (L:=(lb,x.obj)::(L2++(Lv++(Lg++P))))) (hG.part hS (L:=(lb,x.obj)::(L2++(Lv++(Lg++P))))) (hb.stay hS (L:=(lb,x.obj)::(L2++(Lv++(Lg++P))))) AA AA) ?_;rintro _ w3⟨rfl,y,H',hxy,⟨L3,Lv3,Lg3,P3,rfl,hf3⟩,hS'⟩;have hS:=hS.call (L:=(lb,x.obj)::(L2++(Lv++(Lg++P)))) hS';refine jr ⟨?_⟩;(repeat(refine jt ⟨?_⟩;refine hS.q ?_;intro _ hS));refine jt ⟨?_⟩;exact⟨rfl,y,_,hxy,⟨L3,Lv3,Lg3,P3,rfl,hf3.more AA AA hc he⟩,hS.sub (AS _ _)⟩
theorem yB:HE 8:=by
 intro w lb c e x H n key to ao co ops af cf fs ak ck keep h hh hG hb hn64 hkl hc he;obtain⟨L,Lv,Lg,P,rfl,hf⟩:=h;have hS:=St.enter hh;have hnl:=hf.st.len;have hn:EH (Lv++(Lg++P)) x:=hf.at_.more ((Ah Lg P).trans (Ah Lv _));generalize hT:keys ((lb,x.obj)::(L++(Lv++(Lg++P))))=T0 at hS hG hb⊢;have hol:=hb.ol;refine Hh rfl ?_;(repeat(refine jt ⟨?_⟩;refine hS.q ?_;intro _ hS));refine jt ⟨?_⟩;refine hS.al ?_
 intro b3 w1 _ hS;(repeat(refine jt ⟨?_⟩;refine hS.q ?_;intro _ hS));refine jt ⟨?_⟩;refine AL.draw AK mixed (λw'=>St w T0 _ w') [8] [0,1,2,3,4,5,6,7,8] AD hS.drew ?_;have hS:=hS.drew;refine jr ⟨?_⟩;refine Cl.mono (PX hf.st (hS.part (L:=L)) (hb.f.stay hS (L:=L)) hb.fl) ?_;rintro _ w2⟨L2,h,hS'⟩;have hS:=hS.call (L:=L) hS';refine jr ⟨?_⟩;(repeat(refine jt ⟨?_⟩;refine hS.q ?_;intro _ hS));refine jt ⟨?_⟩
 exact⟨rfl,x,_,⟨rfl,rfl⟩,⟨L2,Lv,Lg,P,rfl,{hf with st:=h.more AA AA hc he}⟩,hS.sub (AS _ _)⟩
theorem yG(kd:Int)(h1:kd≠1)(h2:kd≠2)(h3:kd≠3)(h4:kd≠4)(h5:kd≠5)(h6:kd≠6)(h7:kd≠7)(h8:kd≠8)(h9:kd≠9)(h10:kd≠10):HE kd:=by
 intro w lb c e x H n key to ao co ops af cf fs ak ck keep h hh hG hb hn64 hkl hc he;obtain⟨L,Lv,Lg,P,rfl,hf⟩:=h;have hS:=St.enter hh;have hnl:=hf.st.len;have hn:EH (Lv++(Lg++P)) x:=hf.at_.more ((Ah Lg P).trans (Ah Lv _));generalize hT:keys ((lb,x.obj)::(L++(Lv++(Lg++P))))=T0 at hS hG hb⊢;have hol:=hb.ol;refine Hh rfl ?_;(repeat(refine jt ⟨?_⟩;refine hS.q ?_;intro _ hS));refine jt ⟨?_⟩;refine hS.al ?_
 intro b3 w1 _ hS;(repeat(refine jt ⟨?_⟩;refine hS.q ?_;intro _ hS));refine jt ⟨?_⟩;exact⟨rfl,x,_,⟨rfl,rfl⟩,⟨L,Lv,Lg,P,rfl,hf.more AA AA hc he⟩,hS.sub (AS _ _)⟩
end Go.Proofs.YtkgibdhpijdbfaaGreatDoor
namespace Go.Eng
open Go
theorem UR{ops:Array Oper}{i:Nat}: ∀{n m j:Nat},n≤m→Ev ops n j i=true→Ev ops m j i=true
 |0,_,_,_,h=>by simp[Ev]at h
 |n+1,0,_,hl,_=>absurd hl (Nat.not_succ_le_zero n)
 |n+1,m+1,j,hl,h=>by
  unfold Ev at h⊢;cases hj:ops[j]? with
  |none=>rw[hj]at h;cases h
  |some oj=>
   rw[hj]at h;simp only[Array.any_eq_true]at h⊢;obtain⟨k,hk,h⟩:=h;refine⟨k,hk,?_⟩;rw[Bool.and_eq_true,Bool.or_eq_true]at h⊢;exact⟨h.1,h.2.imp id (UR (Nat.le_of_succ_le_succ hl))⟩
def OO(q:Nat)(ops:Array Oper)(listed:Array Bool)(i:Nat):Bool:=
 match ops[i]? with
 |none=>false
 |some oi=>(List.range ops.size).all λj=>j==i||listed.getD j true||(match ops[j]? with|some oj=>oi.apart ops oj|none=>true)||Ev ops q j i
theorem Vf{q:Nat}{ops:Array Oper}{listed:Array Bool}{i:Nat}(hq:q≤ops.size)(h:OO q ops listed i=true):IH ops listed i=true:=by
 unfold OO at h;unfold IH;cases hi:ops[i]? with
 |none=>rw[hi]at h;cases h
 |some oi=>
  rw[hi]at h;simp only[C8,Bool.or_eq_true]at h⊢;intro j hj;rcases h j hj with((h1|h1)|h1)|h1
  ·exact .inl (.inl (.inl h1))
  ·exact .inl (.inl (.inr h1))
  ·exact .inr h1
  ·exact .inl (.inr (UR hq h1))
def Oy(q:Nat)(ops:Array Oper)(kd:Op→JF):List Nat→Array Bool→Bool
 |[],listed=>(Region.ready .any ops listed).isEmpty
 |i::r,listed=>match ops[i]? with
  |none=>false
  |some o=>(match kd o.op with
   |.pure=>(Region.ready .any ops listed).contains i&&OO q ops listed i
   |.read=>(Region.ready .any ops listed).contains i&&OO q ops listed i
   |.eff=>(Region.ready .any ops listed)==[i])&&Oy q ops kd r (listed.setIfInBounds i true)
theorem XQ{q:Nat}{ops:Array Oper}{kd:Op→JF}(hq:q≤ops.size): ∀{ord:List Nat}{listed:Array Bool},Oy q ops kd ord listed=true→Je ops kd [] ord true listed=true
 |[],_,h=>h
 |i::r,listed,h=>by
  unfold Oy at h;unfold Je;cases hi:ops[i]? with
  |none=>rw[hi]at h;cases h
  |some o=>
   rw[hi]at h;simp only at h⊢;have hw: ∀l j,Jv ops l [] j=true:=λ_ _=>rfl;rw[Bool.and_eq_true]at h;obtain⟨h1,h2⟩:=h;have ih:=XQ hq h2;cases hk:kd o.op with
   |pure=>
    rw[hk]at h1;simp only[Bool.and_eq_true]at h1⊢;exact⟨⟨AB,⟨⟨h1.1,Vf hq h1.2⟩,by rw[hw];simp⟩⟩,ih⟩
   |read=>
    rw[hk]at h1;simp only[Bool.and_eq_true]at h1⊢;exact⟨⟨AB,⟨⟨⟨h1.1,Vf hq h1.2⟩,AB⟩,hw _ _⟩⟩,ih⟩
   |eff=>
    rw[hk]at h1;simp only[Bool.and_eq_true]at h1⊢;exact⟨⟨AB,h1⟩,by simpa using ih⟩
theorem AL.drawQ{P:Program}{T:BO}(hT:BX P T){N:Nat}{id:Nat}{all:List Oper}{Q:Exit→AZ→World→Prop}{e:AZ}{w:World}(hm:P.follows .mixedOrders=true)
  (C:World→Prop)(ord:List Nat)(hok:(Region.noSelect ⟨all⟩&&Nat.beq ord.length all.length&&Nat.ble 3 (Array.mk all).size&&Oy 3 ⟨all⟩ (kind T) ord (Array.replicate (Array.mk all).size false))=true)
  (hC:C w.drew)(h:HA P T N all C [] ord e w.drew λe' w'=>Q .normal e' w'):JI P N (.region id ⟨all⟩ true) Q e w:=by
 simp only[Bool.and_eq_true]at hok;obtain⟨⟨⟨h1,h2⟩,h3⟩,h4⟩:=hok;refine AL.draw hT hm C [] ord ?_ hC h;simp only[Bool.and_eq_true];exact⟨⟨h1,h2⟩,XQ (J6 h3) h4⟩
end Go.Eng
namespace Go.Proofs.YtkgibdhpijdbfaaGreatDoor
open Go Go.Eng Go.Proofs Go.Srt
theorem rT(l:List AO)(k:AE):Vl (Ip (l.map DM) k)= .tuple ⟨[AG ((FV l k).getD []),.bool (FV l k).isSome]⟩:=by
 have e:Ip (l.map DM) k=(l.find? λr=>decide (r.1=k)).map DM:=by
  unfold Ip;rw[List.find?_map];rfl
 rw[e];unfold FV;cases l.find? λr=>decide (r.1=k)<;>rfl
theorem S4{w:World}{a:Option Addr}{c:Nat}{l:List AO}(ha:Arr w [] a (l.flatMap BN))(k:AE)(hl:l.length≤262144):Cl Tryz.prog VD [.slice a l.length c,AG k] w λv w'=>v= .tuple ⟨[AG ((FV l k).getD []),.bool (FV l k).isSome]⟩∧St w [] [] w':=by
 have hl2:=I6 l;rw[←I6 l,←rT];exact ZJ (by rw[LR];exact ha) k AA
theorem S5{w:World}{a:Option Addr}{c:Nat}{l:List AO}(ha:Arr w [] a (l.flatMap BN))(fr to:AE)(hl:l.length≤262144):Cl Tryz.prog VE [.slice a l.length c,AG fr,AG to] w λv w'=>∃a' c' L,v= .slice a' ((l.filter (Eh fr to)).map DM).length c'∧AT Bn 3 a' ((l.filter (Eh fr to)).map DM).length c' (((l.filter (Eh fr to)).map DM).flatMap A8) L∧St w [] L w':=by
 have hl2:=I6 l;rw[←I6 l,←sD];exact Z1 (by rw[LR];exact ha) fr to AA
theorem WP{x:LM}{n:Int}(hlen:x.gn.length=x.sn.length)(h:DI x n=none):n<1∨(1≤n∧(x.sn.length:Int)<n)∨(1≤n∧n≤x.sn.length∧x.gn[(n-1).toNat]?=some true):=by
 by_cases h1:n<1
 ·exact .inl h1
 by_cases h2:(x.sn.length:Int)<n
 ·exact .inr (.inl ⟨AA,h2⟩)
 refine .inr (.inr ⟨AA,AA,?_⟩);have hb:(n-1).toNat<x.gn.length:=AA;have hb2:(n-1).toNat<x.sn.length:=AA;unfold DI at h;rw[if_neg h1,CB hb,CB hb2]at h;rw[CB hb];cases hg:x.gn[(n-1).toNat]with
 |true=>rfl
 |false=>rw[hg,if_pos rfl]at h;cases h
theorem RI{x:LM}{n:Int}{l:List AO}(hlen:x.gn.length=x.sn.length)(h:DI x n=some l):1≤n∧n≤x.sn.length∧x.gn[(n-1).toNat]?=some false∧ ∃s,x.sn[(n-1).toNat]?=some s∧s.l=l:=by
 unfold DI at h
 split at h
 ·cases h
 split at h
 ·rename_i h1 h2;obtain⟨s,hs,rfl⟩:=Option.map_eq_some_iff.1 h;have:=(FR.1 hs).1;exact⟨AA,AA,h2,s,hs,rfl⟩
 ·cases h
theorem tE{c e:Nat}{x:LM}{L Lv Lg P:AH}(h:Lf c e x L Lv Lg P)(n:Int):((DI x n).getD []).length≤262144:=by
 cases hl:DI x n with
 |none=>exact Ag _
 |some l=>
  obtain⟨-, -, -,s,hs,rfl⟩:=RI h.len hl;exact(h.sn s (List.mem_of_getElem? hs)).2
theorem JB{e:TypeId}{sz:Nat}{a:Option Addr}{n cap:Nat}{xs:List Value}{L:AH}(h:AT e sz a n cap xs L){w0 w:World}{T:List Nat}{H:AH}{F:AH→AH}(hS:St w0 T H w) [hc:Chunk H L F]{j:Nat}{v:Value}(hx:xs[j]?=some v): ∃g off,a=some ⟨g,off,none⟩∧w.cell? ⟨g,off+j,none⟩=some v:=by
 obtain⟨g,off,h1, -,h3⟩:=(h.arr hS (T':=[]) AB) j v hx;exact⟨g,off,h1,h3⟩
theorem WV{w:World}{lb c e:Nat}{x:LM}{H:AH}(h:Gy lb c e x H)(hh:Holds H w)(n:Int)(hn64:Kv n)(key:AE)(hkl:key.length≤1099511627776)(to:AE){kd:Int}{ao:Option Addr}{no co:Nat}{af:Option Addr}{nf cf:Nat}{ak:Option Addr}{nk ck:Nat}:
  Cl Tryz.prog p7 [ptr lb,.agg ⟨D8 kd n key to ao no co af nf cf ak nk ck⟩] w λv w'=>v= .bool true∧ ∃H',Gy lb c e x H'∧St w (keys H) H' w':=by
 obtain⟨L,Lv,Lg,P,rfl,hf⟩:=h;have hS:=St.enter hh;generalize hT:keys ((lb,x.obj)::(L++(Lv++(Lg++P))))=T0 at hS⊢;have hlen:=hf.len;obtain⟨hn1,hn2⟩:=hn64;refine kJ rfl ?_;(repeat(refine jt ⟨?_⟩;refine hS.q ?_;intro _ hS));refine jt ⟨?_⟩;refine hS.al ?_;intro b3 w1 _ hS;(repeat(refine jt ⟨?_⟩;refine hS.q ?_;intro _ hS));refine jt ⟨?_⟩;refine AL.draw AK mixed (λw'=>St w T0 ((b3,.cells ⟨D8 kd n key to ao no co af nf cf ak nk ck⟩ F0 (0,0))::(lb,x.obj)::(L++(Lv++(Lg++P)))) w') [10,11,12,13,14,15] [0,1,2,3,4,5,6,7,8,9,10,11,12,13,14,15] AD hS.drew ?_
 have hS:=hS.drew;refine jr ⟨?_⟩;refine Cl.mono (ZG hf.st (hS.part (L:=L)) n key to) ?_;rintro _ w2⟨a2,c2,Lw,L2,rfl,hv2,hK,hS'⟩;have hS:=hS.call (L:=L) hS';refine jr ⟨?_⟩;have hfl:(((DI x n).getD []).filter (Eh key to)).length≤262144:=Au (List.length_filter_le _ _) (tE hf n);generalize hops:(((DI x n).getD []).filter (Eh key to))=fo at hv2 hS hfl;have hS:St w T0 ((b3,.cells ⟨D8 kd n key to ao no co af nf cf ak nk ck⟩ F0 (0,0))::(lb,x.obj)::((Lw++L2)++(Lv++(Lg++P)))) _:=hS
 (repeat(refine jt ⟨?_⟩;refine hS.q ?_;intro _ hS));refine jt ⟨?_⟩;refine AL.draw AK mixed (λw'=>St w T0 ((b3,.cells ⟨D8 kd n key to ao no co af nf cf ak nk ck⟩ F0 (0,0))::(lb,x.obj)::((Lw++L2)++(Lv++(Lg++P)))) w') [8,9,10,11,12,13,14,15] [0,1,2,3,4,5,6,7,8,9,10,11,12,13,14,15] AD hS.drew ?_;have hS:=hS.drew;refine jr ⟨?_⟩;refine Cl.mono (ZF hK (hS.part (L:=L2)) n key hkl) ?_;rintro _ w3⟨rfl,L3,hK3,hS'⟩
 have hS:=hS.call (L:=L2) hS';clear hK hS';have hf3:Lf c e x L3 Lv Lg P:={hf with st:=hK3};have hend: ∀{w' A},St w T0 (A++((b3,.cells ⟨D8 kd n key to ao no co af nf cf ak nk ck⟩ F0 (0,0))::(lb,x.obj)::((Lw++L3)++(Lv++(Lg++P))))) w'→ ∃H',Gy lb c e x H'∧St w T0 H' w':=λhS=>⟨_,⟨L3,Lv,Lg,P,rfl,hf3⟩,hS.sub ((((Ah Lw L3).append_right _).cons_cons _ |>.cons _).trans (Ah _ _))⟩;refine jr ⟨?_⟩;refine AL.drawQ AK mixed (λw'=>St w T0 ((b3,.cells ⟨D8 kd n key to ao no co af nf cf ak nk ck⟩ F0 (0,0))::(lb,x.obj)::((Lw++L3)++(Lv++(Lg++P)))) w') [0,1,2,3,4,5,6,7,8,9,10,11,12,13,14,15,16,17,18,19,20,21,22,23] AD hS.drew ?_
 have hS:=hS.drew;cases hl:DI x n with
 |none=>
  have hfo:fo=[]:=by rw[←hops,hl];rfl
  subst hfo;have hat:E6 (DI x) n=3:=by unfold E6;rw[hl];rfl
  have hlk:FV ((none:Option (List AO)).getD []) key=none:=rfl;rw[hlk,hat,Option.getD_none,Iy];rcases WP hlen hl with h1|⟨h1,h2⟩|⟨h1,h2,h3⟩
  ·refine jr ⟨?_⟩;(repeat(refine jt ⟨?_⟩;refine hS.q ?_;intro _ hS));refine jt ⟨?_⟩;exact⟨rfl,hend (A:=[]) hS⟩
  ·refine jr ⟨?_⟩;(repeat(refine jt ⟨?_⟩;refine hS.q ?_;intro _ hS));refine jt ⟨?_⟩;exact⟨rfl,hend (A:=[]) hS⟩
  ·have hc:=JB hf.g hS (j:=(n-1).toNat) (v:= .bool true) (by rw[Ex,h3];rfl);obtain⟨g,off,hga, -⟩:=hc;refine jr ⟨?_⟩;rw[hga];refine jr ⟨?_⟩;refine CM (v:= .bool true) (λw' h=>by
    obtain⟨g2,off2,e2,hc⟩:=JB hf.g h (j:=(n-1).toNat) (v:= .bool true) (by rw[Ex,h3];rfl);rw[hga]at e2;cases e2;rw[show off+(n-1).toNat*1=off+(n-1).toNat by omega];exact hc) ?_
   refine jr ⟨?_⟩;(repeat(refine jt ⟨?_⟩;refine hS.q ?_;intro _ hS));refine jt ⟨?_⟩;exact⟨rfl,hend (A:=[]) hS⟩
 |some l=>
  obtain⟨h1,h2,h3,s,hs,rfl⟩:=RI hlen hl;have hgl:x.gn.length=x.gn.length:=rfl;have hat:E6 (DI x) n=0:=by unfold E6;rw[hl];rfl
  have hfo:fo=s.l.filter (Eh key to):=by rw[←hops,hl];rfl
  subst hfo;obtain⟨hsa,hsl⟩:=hf.sn s (List.mem_of_getElem? hs);rw[hat,FD];clear hops;obtain⟨g,off,hga, -⟩:=JB hf.g hS (j:=(n-1).toNat) (v:= .bool false) (by rw[Ex,h3];rfl);obtain⟨g4,off4,hgs, -⟩:=JB hf.v hS (j:=(n-1).toNat) (v:= .slice s.a s.l.length s.c) (by rw[Ex,hs];rfl);refine jr ⟨?_⟩;rw[hga];refine jr ⟨?_⟩;refine CM (v:= .bool false) (λw' h=>by
   obtain⟨g2,off2,e2,hc⟩:=JB hf.g h (j:=(n-1).toNat) (v:= .bool false) (by rw[Ex,h3];rfl);rw[hga]at e2;cases e2;rw[show off+(n-1).toNat*1=off+(n-1).toNat by omega];exact hc) ?_
  refine jr ⟨?_⟩;refine AL.draw AK mixed (λw'=>St w T0 ((b3,.cells ⟨D8 kd n key to ao no co af nf cf ak nk ck⟩ F0 (0,0))::(lb,x.obj)::((Lw++L3)++(Lv++(Lg++P)))) w') [11,12,13,14,15,16] [0,1,2,3,4,5,6,7,8,9,10,11,12,13,14,15,16] AD hS.drew ?_;have hS:=hS.drew;refine jr ⟨?_⟩;rw[hgs];refine jr ⟨?_⟩;refine CM (v:= .slice s.a s.l.length s.c) (λw' h=>by
   obtain⟨g2,off2,e2,hc⟩:=JB hf.v h (j:=(n-1).toNat) (v:= .slice s.a s.l.length s.c) (by rw[Ex,hs];rfl);rw[hgs]at e2;cases e2;rw[show off4+(n-1).toNat*1=off4+(n-1).toNat by omega];exact hc) ?_
  refine jr ⟨?_⟩;refine Cl.mono (S4 (hsa.in hS) key hsl) ?_;rintro _ w4⟨rfl,hS'⟩;have hS:=hS.call0 hS';refine jr ⟨?_⟩;refine AL.drawQ AK mixed (λw'=>St w T0 ((b3,.cells ⟨D8 kd n key to ao no co af nf cf ak nk ck⟩ F0 (0,0))::(lb,x.obj)::((Lw++L3)++(Lv++(Lg++P)))) w') [0,1,2,3,4,5,6,7,8,9,10,11,12,13,14,15,16,17,18,19,20,21,22,23,24,25,26,27,28,29,30,31,32,33,34] AD hS.drew ?_;have hS:=hS.drew;refine jr ⟨?_⟩
  rw[hgs];refine jr ⟨?_⟩;refine CM (v:= .slice s.a s.l.length s.c) (λw' h=>by
   obtain⟨g2,off2,e2,hc⟩:=JB hf.v h (j:=(n-1).toNat) (v:= .slice s.a s.l.length s.c) (by rw[Ex,hs];rfl);rw[hgs]at e2;cases e2;rw[show off4+(n-1).toNat*1=off4+(n-1).toNat by omega];exact hc) ?_
  refine jr ⟨?_⟩;refine Cl.mono (S5 (hsa.in hS) key to hsl) ?_;rintro _ w5⟨a5,c5,L5,rfl,hv5,hS'⟩;have hS:=hS.callNew hS';refine Ae.mk (hS.sub (Ah L5 _)) ?_;refine jr ⟨?_⟩;refine Cl.mono (Kb (hv2.arr hS AB) (hv5.arr hS AB) (by rw[BM];omega) (by rw[BM];omega)) ?_;rintro _ w6⟨rfl,hS'⟩;have hS:=hS.call0 hS';refine Ae.mk (hS.sub (Ah L5 _)) ?_;rw[decide_eq_true rfl];refine jr ⟨?_⟩;refine Ae.mk Tryz.underlying4 ?_
  refine jr ⟨?_⟩;rw[beq_self_eq_true];(repeat(refine jt ⟨?_⟩;refine hS.q ?_;intro _ hS));refine jt ⟨?_⟩;exact⟨rfl,hend (A:=L5) hS⟩
theorem yC:HE 9:=by
 intro w lb c e x H n key to ao co ops af cf fs ak ck keep h hh hG hb hn64 hkl hc he;obtain⟨L,Lv,Lg,P,rfl,hf⟩:=h;have hS:=St.enter hh;have hnl:=hf.st.len;have hn:EH (Lv++(Lg++P)) x:=hf.at_.more ((Ah Lg P).trans (Ah Lv _));generalize hT:keys ((lb,x.obj)::(L++(Lv++(Lg++P))))=T0 at hS hG hb⊢;have hol:=hb.ol;refine Hh rfl ?_;(repeat(refine jt ⟨?_⟩;refine hS.q ?_;intro _ hS));refine jt ⟨?_⟩;refine hS.al ?_
 intro b3 w1 _ hS;(repeat(refine jt ⟨?_⟩;refine hS.q ?_;intro _ hS));refine jt ⟨?_⟩;obtain⟨m,LF,hsub,hF,hm⟩:=hf.st.rest;have hS:=hS.sub (((hsub.append_right (Lv++(Lg++P))).cons_cons (lb,x.obj)).cons_cons _);refine Cl.mono (UH (under:=[]) hF hm.fs (hm.found.mono (AV _) (AV _) λr hr=> .inl hr) hn (hS.part (L:=(lb,x.obj)::(LF++(Lv++(Lg++P))))) (hG.part hS (L:=(lb,x.obj)::(LF++(Lv++(Lg++P))))) (hb.ah.stay hS (L:=(lb,x.obj)::(LF++(Lv++(Lg++P))))) hb.hl (hb.f.stay hS (L:=(lb,x.obj)::(LF++(Lv++(Lg++P))))) hb.fl (hb.k.stay hS (L:=(lb,x.obj)::(LF++(Lv++(Lg++P))))) hb.kl (Arr.nil _ _ _) (by simp only[Bo];omega) AA AA) ?_
 rintro _ w2⟨rfl,y,H', -,hxy,⟨L3,Lv3,Lg3,P3,rfl,hf3⟩,hS'⟩;have hS:=hS.call (L:=(lb,x.obj)::(LF++(Lv++(Lg++P)))) hS';(repeat(refine jt ⟨?_⟩;refine hS.q ?_;intro _ hS));refine jt ⟨?_⟩;exact⟨rfl,y,_,hxy,⟨L3,Lv3,Lg3,P3,rfl,hf3.more AA AA hc he⟩,hS.sub (AS _ _)⟩
theorem x4:HE 10:=by
 intro w lb c e x H n key to ao co ops af cf fs ak ck keep h hh hG hb hn64 hkl hc he;obtain⟨L,Lv,Lg,P,rfl,hf⟩:=h;have hS:=St.enter hh;have hnl:=hf.st.len;have hn:EH (Lv++(Lg++P)) x:=hf.at_.more ((Ah Lg P).trans (Ah Lv _));generalize hT:keys ((lb,x.obj)::(L++(Lv++(Lg++P))))=T0 at hS hG hb⊢;have hol:=hb.ol;refine Hh rfl ?_;(repeat(refine jt ⟨?_⟩;refine hS.q ?_;intro _ hS));refine jt ⟨?_⟩;refine hS.al ?_
 intro b3 w1 _ hS;(repeat(refine jt ⟨?_⟩;refine hS.q ?_;intro _ hS));refine jt ⟨?_⟩;refine Cl.mono (PX (fs:=[]) hf.st (hS.part (L:=L)) (Arr.nil _ _ _) AC) ?_;rintro _ w2⟨L2,h,hS'⟩;have hS:=hS.call (L:=L) hS';obtain⟨m,LF,hsub,hF,hm⟩:=h.rest;have hS:=hS.sub (((hsub.append_right (Lv++(Lg++P))).cons_cons (lb,x.obj)).cons_cons _);(repeat(refine jt ⟨?_⟩;refine hS.q ?_;intro _ hS));refine jt ⟨?_⟩;refine Cl.mono (WX (fs:=[]) (keep:=[]) hF hm (hS.part (L:=(lb,x.obj)::(LF++(Lv++(Lg++P))))) (hG.part hS (L:=(lb,x.obj)::(LF++(Lv++(Lg++P))))) (hb.ah.stay hS (L:=(lb,x.obj)::(LF++(Lv++(Lg++P))))) hb.hl (Arr.nil _ _ _) AC (Arr.nil _ _ _) AC AA AA) ?_
 rintro _ w3⟨rfl,f2,sb2,L3,hK,hS'⟩;have hS:=hS.call (L:=(lb,x.obj)::(LF++(Lv++(Lg++P)))) hS';(repeat(refine jt ⟨?_⟩;refine hS.q ?_;intro _ hS));refine jt ⟨?_⟩;refine Cl.mono (Jy (x:=x.fresh f2 sb2) hK (hS.part (L:=(lb,(x.fresh f2 sb2).obj)::(L3++(Lv++(Lg++P))))) hn.at_ (Au hnl AC)) ?_;rintro _ w4⟨rfl,hS'⟩;have hS:=hS.call (L:=(lb,(x.fresh f2 sb2).obj)::(L3++(Lv++(Lg++P)))) hS';rw[decide_eq_true rfl]
 (repeat(refine jt ⟨?_⟩;refine hS.q ?_;intro _ hS));refine jt ⟨?_⟩;exact⟨rfl,x.fresh f2 sb2,_,⟨rfl,rfl⟩,⟨L3,[],[],Lv++(Lg++P),rfl,(Lf.anew hK hn).more AA AA hc he⟩,hS.sub (AS _ _)⟩
theorem x5:HE 2:=by
 intro w lb c e x H n key to ao co ops af cf fs ak ck keep h hh hG hb hn64 hkl hc he;obtain⟨L,Lv,Lg,P,rfl,hf⟩:=h;have hS:=St.enter hh;have hnl:=hf.st.len;have hn:EH (Lv++(Lg++P)) x:=hf.at_.more ((Ah Lg P).trans (Ah Lv _));generalize hT:keys ((lb,x.obj)::(L++(Lv++(Lg++P))))=T0 at hS hG hb⊢;have hol:=hb.ol;refine Hh rfl ?_;(repeat(refine jt ⟨?_⟩;refine hS.q ?_;intro _ hS));refine jt ⟨?_⟩;refine hS.al ?_
 intro b3 w1 _ hS;(repeat(refine jt ⟨?_⟩;refine hS.q ?_;intro _ hS));refine jt ⟨?_⟩;refine AL.draw AK mixed (λw'=>St w T0 _ w') [6,7,8,9,10,11,12,13] [0,1,2,3,4,5,6,7,8,9,10,11,12,13] AD hS.drew ?_;have hS:=hS.drew;refine jr ⟨?_⟩;refine Cl.mono (ZE hf.st (hS.part (L:=L)) key hkl) ?_;rintro _ w2⟨rfl,hS'⟩;have hS:=hS.call (L:=L) hS';refine jr ⟨?_⟩;refine AL.draw AK mixed (λw'=>St w T0 _ w') [6,7,8,9,10,11] [0,1,2,3,4,5,6,7,8,9,10,11] AD hS.drew ?_
 have hS:=hS.drew;refine jr ⟨?_⟩;refine Cl.mono (S4 (hf.at_.at_.in hS) key hnl) ?_;rintro _ w3⟨rfl,hS'⟩;have hS:=hS.call0 hS';refine jr ⟨?_⟩;(repeat(refine jt ⟨?_⟩;refine hS.q ?_;intro _ hS));refine jt ⟨?_⟩;refine Ae.mk Tryz.underlying4 ?_;rw[beq_self_eq_true];(repeat(refine jt ⟨?_⟩;refine hS.q ?_;intro _ hS));refine jt ⟨?_⟩;refine Cl.mono (WV ⟨L,Lv,Lg,P,rfl,hf⟩ (hS.part (L:=(lb,x.obj)::(L++(Lv++(Lg++P))))) n hn64 key hkl to) ?_
 rintro _ w5⟨rfl,_,⟨L3,Lv3,Lg3,P3,rfl,hf3⟩,hS'⟩;have hS:=hS.call (L:=(lb,x.obj)::(L++(Lv++(Lg++P)))) hS';(repeat(refine jt ⟨?_⟩;refine hS.q ?_;intro _ hS));refine jt ⟨?_⟩;exact⟨rfl,x,_,⟨rfl,rfl⟩,⟨L3,Lv3,Lg3,P3,rfl,hf3.more AA AA hc he⟩,hS.sub (AS _ _)⟩
theorem x6:HE 3:=by
 intro w lb c e x H n key to ao co ops af cf fs ak ck keep h hh hG hb hn64 hkl hc he;obtain⟨L,Lv,Lg,P,rfl,hf⟩:=h;have hS:=St.enter hh;have hnl:=hf.st.len;have hn:EH (Lv++(Lg++P)) x:=hf.at_.more ((Ah Lg P).trans (Ah Lv _));generalize hT:keys ((lb,x.obj)::(L++(Lv++(Lg++P))))=T0 at hS hG hb⊢;have hol:=hb.ol;refine Hh rfl ?_;(repeat(refine jt ⟨?_⟩;refine hS.q ?_;intro _ hS));refine jt ⟨?_⟩;refine hS.al ?_
 intro b3 w1 _ hS;(repeat(refine jt ⟨?_⟩;refine hS.q ?_;intro _ hS));refine jt ⟨?_⟩;have hfl:(x.now.filter (Eh key to)).length≤262144:=Au (List.length_filter_le _ _) hnl;refine AL.draw AK mixed (λw'=>St w T0 _ w') [8,9,10,11,12,13] [0,1,2,3,4,5,6,7,8,9,10,11,12,13] AD hS.drew ?_;have hS:=hS.drew;refine jr ⟨?_⟩;refine Cl.mono (Sx hf.st (hS.part (L:=L)) key to) ?_;rintro _ w2⟨a2,c2,Lw,rfl,hv2,hS'⟩;have hS:=hS.call (L:=L) hS'
 have hS:St w T0 ((b3,.cells ⟨D8 3 n key to ao ops.length co af fs.length cf ak keep.length ck⟩ F0 (0,0))::(lb,x.obj)::((Lw++L)++(Lv++(Lg++P)))) _:=hS;refine jr ⟨?_⟩;refine AL.drawQ AK mixed (λw'=>∃L',St w T0 ((b3,.cells ⟨D8 3 n key to ao ops.length co af fs.length cf ak keep.length ck⟩ F0 (0,0))::(lb,x.obj)::L') w') [0,1,2,3,4,5,6,7,8,9,10,11,12,13,14,15,16,17,18,19,20] AD ⟨_,hS.drew⟩ ?_;have hS:=hS.drew
 refine jq ⟨?_⟩;refine CM (v:= .slice x.an x.now.length x.cn) (λw'⟨L',h⟩=>h.cell (b:=lb) (off:=5) rfl) ?_;refine jq ⟨?_⟩;refine CM (v:=AG key) (λw'⟨L',h⟩=>h.cell (b:=b3) (off:=2) rfl) ?_;refine jq ⟨?_⟩;refine CM (v:=AG to) (λw'⟨L',h⟩=>h.cell (b:=b3) (off:=3) rfl) ?_;refine jq ⟨?_⟩;refine Cl.mono (S5 (hf.at_.at_.in hS) key to hnl) ?_;rintro _ w5⟨a5,c5,L5,rfl,hv5,hS'⟩;have hS:=hS.callNew hS';refine Ae.mk ⟨_,hS.sub (Ah L5 _)⟩ ?_
 refine jq ⟨?_⟩;refine Cl.mono (Kb (hv2.arr hS AB) (hv5.arr hS AB) (by rw[BM];omega) (by rw[BM];omega)) ?_;rintro _ w6⟨rfl,hS'⟩;have hS:=hS.call0 hS';refine Ae.mk ⟨_,hS.sub (Ah L5 _)⟩ ?_;have hS:St w T0 ((b3,.cells ⟨D8 3 n key to ao ops.length co af fs.length cf ak keep.length ck⟩ F0 (0,0))::(lb,x.obj)::(L++(Lv++(Lg++P)))) _:=hS.sub (((((Ah Lw L).append_right _).cons_cons _).cons_cons _).trans (Ah L5 _))
 rw[decide_eq_true rfl];refine jq ⟨?_⟩;refine Mr (l:=D8 3 n key to ao ops.length co af fs.length cf ak keep.length ck) (λw'⟨L',h⟩j v hj=>by rw[Cs];exact h.cell (b:=b3) (off:=j) hj) rfl ?_;refine jq ⟨?_⟩;refine Cl.mono (WV ⟨L,Lv,Lg,P,rfl,hf⟩ (hS.part (L:=(lb,x.obj)::(L++(Lv++(Lg++P))))) n hn64 key hkl to) ?_;rintro _ w7⟨rfl,_,⟨L3,Lv3,Lg3,P3,rfl,hf3⟩,hS'⟩;have hS:=hS.call (L:=(lb,x.obj)::(L++(Lv++(Lg++P)))) hS'
 refine Ae.mk ⟨_,hS⟩ ?_;refine jq ⟨?_⟩;exact⟨rfl,x,_,⟨rfl,rfl⟩,⟨L3,Lv3,Lg3,P3,rfl,hf3.more AA AA hc he⟩,hS.sub (AS _ _)⟩
theorem Ch.gvb{sb f c e:Nat}{gv:Int}{now:List AO}{lk:CH}{L:AH}(h:Ch sb f c e gv now lk L):gv≤7000000:=by
 obtain⟨s,m, -,hI,rfl⟩:=h;have h1:=hI.bud.given;have h2:=hI.c1;omega
theorem tF{x y:LM}{s:Jn}(hlen:x.gn.length=x.sn.length)(hg:y.gn=x.gn++[false])(hs:y.sn=x.sn++[s]):DI y= λn=>if n=(x.sn.length:Int)+1 then some s.l else DI x n:=by
 funext n
 unfold DI;rw[hg,hs];by_cases h1:n<1
 ·rw[if_pos h1,if_pos h1,if_neg AA]
 rw[if_neg h1,if_neg h1];by_cases h2:n=(x.sn.length:Int)+1
 ·rw[if_pos h2,Dp AA,Dp AA,show(n-1).toNat-x.gn.length=0 by omega,show(n-1).toNat-x.sn.length=0 by omega]
  rfl
 ·rw[if_neg h2];by_cases h3:(n-1).toNat<x.sn.length
  ·rw[Cn AA,Cn AA]
  ·rw[List.getElem?_eq_none (l:=x.gn++[false]) (by rw[AP,D4];omega),List.getElem?_eq_none (l:=x.gn) AA];simp
theorem tD{x y:LM}{n:Int}(h1:1≤n)(hlen:(n-1).toNat<x.gn.length)(hg:y.gn=x.gn.set (n-1).toNat true)(hs:y.sn=x.sn):DI y= λk=>if k=n then none else DI x k:=by
 funext k
 unfold DI;rw[hg,hs,List.getElem?_set];by_cases h2:k=n
 ·subst h2;rw[if_pos rfl,if_pos rfl,if_neg AA,if_pos hlen,if_neg AB]
 ·by_cases h3:k<1
  ·rw[if_pos h3,if_pos h3,if_neg h2]
  ·rw[if_neg h3,if_neg h3,if_neg (show¬(n-1).toNat=(k-1).toNat by omega),if_neg h2]
theorem tC{x:LM}{n:Int}(h:DI x n=none):(λk=>if k=n then none else DI x k)=DI x:=by
 funext k
 by_cases h2:k=n
 ·subst h2;rw[if_pos rfl,h]
 ·rw[if_neg h2]
theorem x7:HE 4:=by
 intro w lb c e x H n key to ao co ops af cf fs ak ck keep h hh hG hb hn64 hkl hc he;obtain⟨L,Lv,Lg,P,rfl,hf⟩:=h;have hS:=St.enter hh;have hnl:=hf.st.len;have hn:EH (Lv++(Lg++P)) x:=hf.at_.more ((Ah Lg P).trans (Ah Lv _));generalize hT:keys ((lb,x.obj)::(L++(Lv++(Lg++P))))=T0 at hS hG hb⊢;have hol:=hb.ol;refine Hh rfl ?_;(repeat(refine jt ⟨?_⟩;refine hS.q ?_;intro _ hS));refine jt ⟨?_⟩;refine hS.al ?_
 intro b3 w1 _ hS;(repeat(refine jt ⟨?_⟩;refine hS.q ?_;intro _ hS));refine jt ⟨?_⟩;have hgv:=hf.st.gvb;refine AL.draw AK mixed (λw'=>w'.cell? ⟨lb,6,none⟩=some (.slice x.sa x.sn.length x.sc)∧w'.cell? ⟨lb,5,none⟩=some (.slice x.an x.now.length x.cn)) [13] [0,1,2,3,4,5,6,7,8,9,10,11,12,13] AD ⟨hS.drew.cell (b:=lb) (off:=6) rfl,hS.drew.cell (b:=lb) (off:=5) rfl⟩ ?_;have hS:=hS.drew;refine jr ⟨?_⟩;refine CM (λw' h=>h.1) ?_
 refine jr ⟨?_⟩;refine CM (λw' h=>h.2) ?_;refine jr ⟨?_⟩;refine hS.al ?_;intro r w2 _ hS;refine Ae.mk ⟨hS.cell (b:=lb) (off:=6) rfl,hS.cell (b:=lb) (off:=5) rfl⟩ ?_;refine jr ⟨?_⟩;refine St.app (sz:=1) (m:=1) AK rfl rfl rfl rfl hS hf.v (news:=[.slice x.an x.now.length x.cn]) rfl (by have:=hS.arr (b:=r) (T':=[]) AB;exact this) rfl (by show(_+_)*24≤_;omega) AA ?_;intro a6 c6 L6 w3 hv6 hS;refine Ae.mk ⟨hS.cell (b:=lb) (off:=6) rfl,hS.cell (b:=lb) (off:=5) rfl⟩ ?_
 have hS:=hS.sub (AS _ _);(repeat(refine jt ⟨?_⟩;refine hS.q ?_;intro _ hS));refine jt ⟨?_⟩;refine hS.al ?_;intro r w4 _ hS;(repeat(refine jt ⟨?_⟩;refine hS.q ?_;intro _ hS));refine jt ⟨?_⟩;refine St.app (sz:=1) (m:=1) AK rfl rfl rfl rfl hS hf.g (news:=[.bool false]) rfl (by have:=hS.arr (b:=r) (T':=[]) AB;exact this) rfl (by have:=hf.len;show(_+_)*1≤_;omega) (by have:=hf.len;omega) ?_;intro a7 c7 L7 w5 hv7 hS
 have hS:=hS.sub (AS _ _);(repeat(refine jt ⟨?_⟩;refine hS.q ?_;intro _ hS));refine jt ⟨?_⟩;refine AL.draw AK mixed (λw'=>w'.cell? ⟨lb,6,none⟩=some (.slice a6 (x.sn.length+1) c6)∧w'.cell? ⟨lb,1,none⟩=some (ptr x.sb)) [] [0,1,2,3,5,6,7,8,9,4,10,11] AD ⟨hS.drew.cell (b:=lb) (off:=6) rfl,hS.drew.cell (b:=lb) (off:=1) rfl⟩ ?_;have hS:=hS.drew;refine jr ⟨?_⟩;refine CM (λw' h=>h.2) ?_;refine jr ⟨?_⟩;refine CM (λw' h=>h.1) ?_
 refine jr ⟨?_⟩;refine Cl.mono (ZH hf.st (hS.part (L:=L)) AA) ?_;rintro _ w6⟨rfl,L8,hK,hS'⟩;have hS:=hS.call (L:=L) hS';refine Ae.mk ⟨hS.cell (b:=lb) (off:=6) rfl,hS.cell (b:=lb) (off:=1) rfl⟩ ?_;refine jr ⟨?_⟩;rw[show decide ((x.sn.length:Int)+1=((x.sn.length+1:Nat):Int))=true from decide_eq_true AA];(repeat(refine jt ⟨?_⟩;refine hS.q ?_;intro _ hS));refine jt ⟨?_⟩;have e1:(x.sn++[(⟨x.an,x.cn,x.now⟩:Jn)]).length=x.sn.length+1:=by rw[AP];rfl
 have e2:(x.gn++[false]).length=x.gn.length+1:=by rw[AP];rfl
 have hobj:({x with sa:=a6,sn:=x.sn++[⟨x.an,x.cn,x.now⟩],sc:=c6,ga:=a7,gn:=x.gn++[false],gc:=c7}:LM).obj= .cells ⟨[ptr x.f,ptr x.sb,.int .i64 x.mm,.int .i64 x.fan,.slice x.ah x.hs.length x.ch,.slice x.an x.now.length x.cn,.slice a6 (x.sn.length+1) c6,.slice a7 (x.gn.length+1) c7]⟩ Tb (0,0):=by rw[←e1,←e2]
 refine⟨rfl,{x with sa:=a6,sn:=x.sn++[⟨x.an,x.cn,x.now⟩],sc:=c6,ga:=a7,gn:=x.gn++[false],gc:=c7},_,⟨rfl,rfl⟩,⟨L8,L6,L7,P,rfl,⟨?_,⟨hf.at_.at_,hf.at_.ad,hf.at_.cap,hf.at_.so⟩,?_,?_,?_,?_⟩⟩,?_⟩
 ·rw[tF (s:=⟨x.an,x.cn,x.now⟩) hf.len rfl rfl];rw[show((({x with sa:=a6,sn:=x.sn++[⟨x.an,x.cn,x.now⟩],sc:=c6,ga:=a7,gn:=x.gn++[false],gc:=c7}:LM).sn.length:Nat):Int)=(x.sn.length:Int)+1 by show((x.sn++[_]).length:Int)=_;rw[e1];omega];exact hK.more AA AA hc he
 ·show AT _ 1 a6 (x.sn++[_]).length c6 ((x.sn++[_]).map Jn.v) L6;rw[e1,A7];exact hv6
 ·intro s hs;rcases Bl.1 hs with hs|hs
  ·exact hf.sn s hs
  ·obtain rfl:=Cm.1 hs;exact⟨hf.at_.at_,hnl⟩
 ·show AT _ 1 a7 (x.gn++[_]).length c7 ((x.gn++[_]).map Value.bool) L7;rw[e2,A7];exact hv7
 ·show(x.gn++[_]).length=(x.sn++[_]).length;rw[e1,e2,hf.len]
 ·rw[hobj];exact hS.sub (AS _ _)
theorem x8:HE 5:=by
 intro w lb c e x H n key to ao co ops af cf fs ak ck keep h hh hG hb hn64 hkl hc he;obtain⟨L,Lv,Lg,P,rfl,hf⟩:=h;have hS:=St.enter hh;have hnl:=hf.st.len;have hn:EH (Lv++(Lg++P)) x:=hf.at_.more ((Ah Lg P).trans (Ah Lv _));generalize hT:keys ((lb,x.obj)::(L++(Lv++(Lg++P))))=T0 at hS hG hb⊢;have hol:=hb.ol;refine Hh rfl ?_;(repeat(refine jt ⟨?_⟩;refine hS.q ?_;intro _ hS));refine jt ⟨?_⟩;refine hS.al ?_
 intro b3 w1 _ hS;(repeat(refine jt ⟨?_⟩;refine hS.q ?_;intro _ hS));refine jt ⟨?_⟩;have hgv:=hf.st.gvb;have hlen:=hf.len;obtain⟨hn1,hn2⟩:=hn64;refine AL.draw AK mixed (λw'=>St w T0 _ w') [8,9] [0,1,2,3,4,5,6,7,8,9] AD hS.drew ?_;have hS:=hS.drew;refine jr ⟨?_⟩;refine Cl.mono (ZD hf.st (hS.part (L:=L)) n) ?_;rintro _ w2⟨rfl,L2,hK,hS'⟩;have hS:=hS.call (L:=L) hS';have hK:=hK.more (Nat.le_add_right c 24) (Nat.le_add_right e ops.length) hc he
 refine jr ⟨?_⟩;refine AL.drawQ AK mixed (λw'=>St w T0 ((b3,.cells ⟨D8 5 n key to ao ops.length co af fs.length cf ak keep.length ck⟩ F0 (0,0))::(lb,x.obj)::(L2++(Lv++(Lg++P)))) w') [0,1,2,3,4,5,6,7,8,9,10,11,12,13,14,15,16,17,18,19,20,21,22,23] AD hS.drew ?_;have hS:=hS.drew;cases hl:DI x n with
 |none=>
  have hat:E6 (DI x) n=3:=by unfold E6;rw[hl];rfl
  rw[tC hl]at hK;rw[hat];have hend: ∀{w'},St w T0 ((b3,.cells ⟨D8 5 n key to ao ops.length co af fs.length cf ak keep.length ck⟩ F0 (0,0))::(lb,x.obj)::(L2++(Lv++(Lg++P)))) w'→NX lb (c+24) (e+ops.length) x T0 w (.bool true) w':=λhS=>⟨rfl,x,_,⟨rfl,rfl⟩,⟨L2,Lv,Lg,P,rfl,{hf with st:=hK}⟩,hS.sub (AS _ _)⟩;rcases WP hlen hl with h1|⟨h1,h2⟩|⟨h1,h2,h3⟩
  ·refine jr ⟨?_⟩;(repeat(refine jt ⟨?_⟩;refine hS.q ?_;intro _ hS));refine jt ⟨?_⟩;exact hend hS
  ·refine jr ⟨?_⟩;(repeat(refine jt ⟨?_⟩;refine hS.q ?_;intro _ hS));refine jt ⟨?_⟩;exact hend hS
  ·obtain⟨g,off,hga, -⟩:=JB hf.g hS (j:=(n-1).toNat) (v:= .bool true) (by rw[Ex,h3];rfl);refine jr ⟨?_⟩;rw[hga];refine jr ⟨?_⟩;refine CM (v:= .bool true) (λw' h=>by
    obtain⟨g2,off2,e2,hc⟩:=JB hf.g h (j:=(n-1).toNat) (v:= .bool true) (by rw[Ex,h3];rfl);rw[hga]at e2;cases e2;rw[show off+(n-1).toNat*1=off+(n-1).toNat by omega];exact hc) ?_
   refine jr ⟨?_⟩;(repeat(refine jt ⟨?_⟩;refine hS.q ?_;intro _ hS));refine jt ⟨?_⟩;exact hend hS
 |some l=>
  obtain⟨h1,h2,h3,s,hs,rfl⟩:=RI hlen hl;have hat:E6 (DI x) n=0:=by unfold E6;rw[hl];rfl
  rw[hat];have hng:(n-1).toNat<x.gn.length:=AA;rcases hf.g.inv with⟨-,h0, -⟩|⟨g,l,hga,hx1,hx2,hx3,rfl⟩
  ·rw[h0]at hng;exact absurd hng (Nat.not_lt_zero _)
  have hcell:(x.gn.map Value.bool++l)[(n-1).toNat]?=some (.bool false):=by
   rw[Cn (by rw[BM];exact hng),Ex,h3];rfl
  refine jr ⟨?_⟩;rw[hga];refine jr ⟨?_⟩;refine CM (v:= .bool false) (λw' h=>by
   rw[show 0+(n-1).toNat*1=(n-1).toNat by omega];exact h.cell (b:=g) (off:=(n-1).toNat) hcell) ?_
  refine jr ⟨?_⟩;refine AL.draw AK mixed (λw'=>St w T0 ((b3,.cells ⟨D8 5 n key to ao ops.length co af fs.length cf ak keep.length ck⟩ F0 (0,0))::(lb,x.obj)::(L2++(Lv++([(g,.cells ⟨x.gn.map Value.bool++l⟩ Jo (0,0))]++P)))) w') [8] [0,1,2,3,4,5,6,7,8] AD hS.drew ?_;have hS:=hS.drew;refine jr ⟨?_⟩;rw[hga];refine jr ⟨?_⟩;rw[show 0+(n-1).toNat*1=(n-1).toNat by omega];refine hS.stI rfl (by rw[AP,BM];omega) ?_
  intro w3 hS;rw[List.set_append_left _ _ (by rw[BM];exact hng),←List.map_set]at hS;refine jr ⟨?_⟩;(repeat(refine jt ⟨?_⟩;refine hS.q ?_;intro _ hS));refine jt ⟨?_⟩;have e2:(x.gn.set (n-1).toNat true).length=x.gn.length:=IN ..;have hobj:({x with gn:=x.gn.set (n-1).toNat true}:LM).obj=x.obj:=by
   show(Obj.cells ⟨[_,_,_,_,_,_,_,.slice x.ga (x.gn.set (n-1).toNat true).length x.gc]⟩ _ _:Obj)=_;rw[e2]
  refine⟨rfl,{x with gn:=x.gn.set (n-1).toNat true},_,⟨rfl,rfl⟩,⟨L2,Lv,[(g,.cells ⟨(x.gn.set (n-1).toNat true).map Value.bool++l⟩ Jo (0,0))],P,rfl,⟨?_,⟨hf.at_.at_,hf.at_.ad,hf.at_.cap,hf.at_.so⟩,hf.v,hf.sn,?_,e2.trans hlen⟩⟩,?_⟩
  ·rw[tD (x:=x) (y:={x with gn:=x.gn.set (n-1).toNat true}) h1 hng rfl rfl];exact hK
  ·show AT Jo 1 x.ga (x.gn.set (n-1).toNat true).length x.gc _ _;rw[e2,hga];have e3:((x.gn.set (n-1).toNat true).map Value.bool).length=(x.gn.map Value.bool).length:=by rw[BM,BM,e2]
   exact .row g x.gn.length x.gc _ l (e3.trans hx1) (by rw[e3];exact hx2) hx3
  ·rw[hobj];exact hS.sub (AS _ _)
theorem yD(kd:Int):HE kd:=by
 by_cases h1:kd=1
 ·subst h1;exact x0
 by_cases h2:kd=2
 ·subst h2;exact x5
 by_cases h3:kd=3
 ·subst h3;exact x6
 by_cases h4:kd=4
 ·subst h4;exact x7
 by_cases h5:kd=5
 ·subst h5;exact x8
 by_cases h6:kd=6
 ·subst h6;exact x9
 by_cases h7:kd=7
 ·subst h7;exact yA
 by_cases h8:kd=8
 ·subst h8;exact yB
 by_cases h9:kd=9
 ·subst h9;exact yC
 by_cases h10:kd=10
 ·subst h10;exact x4
 exact yG kd h1 h2 h3 h4 h5 h6 h7 h8 h9 h10
theorem Gy.more{lb c c' e e':Nat}{x:LM}{H:AH}(h:Gy lb c e x H)(hc:c≤c')(he:e≤e')(hc1:c'≤7000000)(he1:e'≤262144):Gy lb c' e' x H:=by
 obtain⟨L,Lv,Lg,P,rfl,hf⟩:=h;exact⟨L,Lv,Lg,P,rfl,hf.more hc he hc1 he1⟩
def TJ(scr:List H9):Prop:=∀x∈scr,Ap x.ops≤1099511627776∧x.key.length≤1099511627776∧x.fates.length≤1099511627776∧x.keep.length≤1099511627776
set_option maxRecDepth 8000 in
theorem Zi{w:World}(hG:Bp w []){a:Option Addr}{c:Nat}{hs:List Int}{mm fan:Int}(ha:Arr w [] a (hs.map AY))(hhl:hs.length≤1099511627776)
  {ax:Option Addr}{cx:Nat}{scr:List H9}(hx:Bt 7 MI w [.slice ax scr.length cx] scr)(hsz:TJ scr)(hn:F7 scr≤262144)(hc:scr.length≤131072):
  Cl Tryz.prog p5 [.agg ⟨[.int .i64 mm,.int .i64 fan,.slice a hs.length c]⟩,.slice ax scr.length cx] w λv w'=>v= .bool true∧St w [] [] w':=by
 have hS:=St.start w;refine kF rfl ?_;(repeat(refine jt ⟨?_⟩;refine hS.q ?_;intro _ hS));refine jt ⟨?_⟩;refine hS.al ?_;intro b2 w1 _ hS;(repeat(refine jt ⟨?_⟩;refine hS.q ?_;intro _ hS));refine jt ⟨?_⟩;refine Cl.mono (WO (hG.part hS (L:=[]))) ?_;rintro _ w2⟨rfl,hS'⟩;have hS:=hS.call0 hS';(repeat(refine jt ⟨?_⟩;refine hS.q ?_;intro _ hS));refine jt ⟨?_⟩;refine Cl.mono (bH (hs:=hs) (mm:=mm) (fan:=fan) (c:=c) (hG.part hS (L:=[])) ((hS.arrOld ha).sub AB) hhl) ?_
 rintro _ w3⟨lb,x,H,rfl,hxa,hxh,hL,hS'⟩;have hS:=hS.callNew hS';have hS:=hS.sub (CC H _);(repeat(refine jt ⟨?_⟩;refine hS.q ?_;intro _ hS));refine jt ⟨?_⟩;refine AL.loop (λk:Nat=>[(5,ptr lb),(18,.slice ax scr.length cx),(19,.int .i64 scr.length),(20,.int .i64 k)])
  (λk w'=>k≤scr.length∧ ∃x H,x.ah=a∧x.hs=hs∧Gy lb (2+24*k) (F7 (scr.take k)) x H∧St w [] H w') (λk=>scr.length-k) 0
  ⟨rfl,rfl,rfl,rfl,trivial⟩ ⟨Ag _,x,H,hxa,hxh,hL,hS⟩ ?_
 rintro k w8⟨hk,x,H,rfl,rfl,hL,hS⟩;by_cases hkl:k<scr.length
 ·obtain⟨g,off,ao,co,af,cf,ak,ck,rfl,hld,harr,haf,hak,hn64⟩:=wZ hS hx hkl;have hsucc:=cD scr k hkl;have hnl:=cC scr (k+1);obtain⟨hz1,hz2,hz3,hz4⟩:=hsz _ (Ca hkl);generalize scr[k]=o at hld harr haf hak hn64 hsucc hz1 hz2 hz3 hz4;obtain⟨kd,n,key,to,ops,fates,keep⟩:=o;simp only at hld harr haf hak hn64 hsucc hz1 hz2 hz3 hz4;(repeat(refine jt ⟨?_⟩;refine hS.q ?_;intro _ hS));refine jt ⟨?_⟩;refine hld _ ?_
  (repeat(refine jt ⟨?_⟩;refine hS.q ?_;intro _ hS));refine jt ⟨?_⟩;refine hS.al ?_;intro b8 w9 _ hS;by_cases h8:kd=8
  ·(repeat(refine jt ⟨?_⟩;refine hS.q ?_;intro _ hS));refine jt ⟨?_⟩;exact⟨k+1,⟨rfl,rfl,rfl,rfl,trivial⟩,⟨AA,x,H,rfl,rfl,hL.more AA AA AA AA,hS.sub (AS _ _)⟩,AA⟩
  by_cases h9:kd=9
  ·(repeat(refine jt ⟨?_⟩;refine hS.q ?_;intro _ hS));refine jt ⟨?_⟩;exact⟨k+1,⟨rfl,rfl,rfl,rfl,trivial⟩,⟨AA,x,H,rfl,rfl,hL.more AA AA AA AA,hS.sub (AS _ _)⟩,AA⟩
  (repeat(refine jt ⟨?_⟩;refine hS.q ?_;intro _ hS));refine jt ⟨?_⟩;refine Cl.mono (yD kd _ lb (2+24*k) (F7 (scr.take k)) x H n key to ao co ops af cf fates ak ck keep hL (hS.part (L:=H)) (hG.part hS (L:=H)) ⟨ha.stay hS (L:=H),hhl,harr.stay hS (L:=H),hz1,haf.stay hS (L:=H),hz3,hak.stay hS (L:=H),hz4⟩ hn64 hz2 AA AA) ?_;rintro _ w10⟨rfl,y,H',hxy,hL',hS'⟩;have hS:=hS.call (L:=H) hS';(repeat(refine jt ⟨?_⟩;refine hS.q ?_;intro _ hS));refine jt ⟨?_⟩
  exact⟨k+1,⟨rfl,rfl,rfl,rfl,trivial⟩,⟨AA,y,H',hxy.1,hxy.2,hL'.more AA AA AA AA,hS.sub (AS _ _)⟩,AA⟩
 ·obtain rfl:k=scr.length:=AA;obtain⟨L,Lv,Lg,P,rfl,hf⟩:=hL;have hnl:=hf.st.len;have hn:EH (Lv++(Lg++P)) x:=hf.at_.more ((Ah Lg P).trans (Ah Lv _));(repeat(refine jt ⟨?_⟩;refine hS.q ?_;intro _ hS));refine jt ⟨?_⟩;refine Cl.mono (Jy hf.st (hS.part (L:=(lb,x.obj)::(L++(Lv++(Lg++P))))) hn.at_ AA) ?_;rintro _ w4⟨rfl,hS'⟩;have hS:=hS.call (L:=(lb,x.obj)::(L++(Lv++(Lg++P)))) hS';rw[decide_eq_true rfl];(repeat(refine jt ⟨?_⟩;refine hS.q ?_;intro _ hS));refine jt ⟨?_⟩
  exact⟨rfl,hS.nil⟩
theorem xC{scr:List H9}(h:(scr.map GE).sum≤1048576):TJ scr:=λx hx=>by
 have h1:=(R4 scr).2.2 x hx;have h2:GE x=x.key.length+x.to.length+(x.ops.map Ga).sum+3*x.fates.length+x.keep.length+8:=rfl;exact⟨AA,AA,AA,AA⟩
end Go.Proofs.YtkgibdhpijdbfaaGreatDoor
