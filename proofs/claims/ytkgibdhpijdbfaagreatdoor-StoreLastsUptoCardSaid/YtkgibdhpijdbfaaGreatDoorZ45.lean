/- Texts of this claim, one behind the other. -/
import Derived.Test.YtkgibdhpijdbfaaGreatDoorZ44
import Derived.Test.YtkgibdhpijdbfaaGreatDoorZ43
import Derived.Test.YtkgibdhpijdbfaaGreatDoorZ26
set_option linter.unusedVariables false
set_option linter.unusedSimpArgs false
set_option maxHeartbeats 16000000
namespace Go.Proofs.YtkgibdhpijdbfaaGreatDoor
open Go Go.Eng Go.Proofs Go.Srt
theorem x9:HE 9:=by
 intro w lb c e x H n key to ao co ops af cf fs ak ck keep h hh hG hb hn64 hkl hc he;obtain⟨L,Lv,Lg,P,rfl,hf⟩:=h;have hS:=St.enter hh;have hnl:=hf.st.len;have hn:EE (Lv++(Lg++P)) x:=hf.at_.more ((Ai Lg P).trans (Ai Lv _));generalize hT:keys ((lb,x.obj)::(L++(Lv++(Lg++P))))=T0 at hS hG hb⊢;have hol:=hb.ol;refine Hf rfl ?_;(repeat(refine jt ⟨?_⟩;refine hS.q ?_;intro _ hS));refine jt ⟨?_⟩;refine hS.al ?_
 intro b3 w1 _ hS;(repeat(refine jt ⟨?_⟩;refine hS.q ?_;intro _ hS));refine jt ⟨?_⟩;obtain⟨m,LF,hsub,hF,hm⟩:=hf.st.rest;have hS:=hS.sub (((hsub.append_right (Lv++(Lg++P))).cons_cons (lb,x.obj)).cons_cons _);refine Cl.mono (UG (under:=[]) hF hm.fs (hm.found.mono (AW _) (AW _) λr hr=> .inl hr) hn (hS.part (L:=(lb,x.obj)::(LF++(Lv++(Lg++P))))) (hG.part hS (L:=(lb,x.obj)::(LF++(Lv++(Lg++P))))) (hb.ah.stay hS (L:=(lb,x.obj)::(LF++(Lv++(Lg++P))))) hb.hl (hb.f.stay hS (L:=(lb,x.obj)::(LF++(Lv++(Lg++P))))) hb.fl (hb.k.stay hS (L:=(lb,x.obj)::(LF++(Lv++(Lg++P))))) hb.kl (Arr.nil _ _ _) (by simp only[Bv];omega) AA AA) ?_
 rintro _ w2⟨rfl,y,H', -,hxy,⟨L3,Lv3,Lg3,P3,rfl,hf3⟩,hS'⟩;have hS:=hS.call (L:=(lb,x.obj)::(LF++(Lv++(Lg++P)))) hS';(repeat(refine jt ⟨?_⟩;refine hS.q ?_;intro _ hS));refine jt ⟨?_⟩;exact⟨rfl,y,_,hxy,⟨L3,Lv3,Lg3,P3,rfl,hf3.more AA AA hc he⟩,hS.sub (AS _ _)⟩
theorem xY:HE 10:=by
 intro w lb c e x H n key to ao co ops af cf fs ak ck keep h hh hG hb hn64 hkl hc he;obtain⟨L,Lv,Lg,P,rfl,hf⟩:=h;have hS:=St.enter hh;have hnl:=hf.st.len;have hn:EE (Lv++(Lg++P)) x:=hf.at_.more ((Ai Lg P).trans (Ai Lv _));generalize hT:keys ((lb,x.obj)::(L++(Lv++(Lg++P))))=T0 at hS hG hb⊢;have hol:=hb.ol;refine Hf rfl ?_;(repeat(refine jt ⟨?_⟩;refine hS.q ?_;intro _ hS));refine jt ⟨?_⟩;refine hS.al ?_
 intro b3 w1 _ hS;(repeat(refine jt ⟨?_⟩;refine hS.q ?_;intro _ hS));refine jt ⟨?_⟩;refine Cl.mono (Pb (fs:=[]) hf.st (hS.part (L:=L)) (Arr.nil _ _ _) AC) ?_;rintro _ w2⟨L2,h,hS'⟩;have hS:=hS.call (L:=L) hS';obtain⟨m,LF,hsub,hF,hm⟩:=h.rest;have hS:=hS.sub (((hsub.append_right (Lv++(Lg++P))).cons_cons (lb,x.obj)).cons_cons _);(repeat(refine jt ⟨?_⟩;refine hS.q ?_;intro _ hS));refine jt ⟨?_⟩;refine Cl.mono (WZ (fs:=[]) (keep:=[]) hF hm (hS.part (L:=(lb,x.obj)::(LF++(Lv++(Lg++P))))) (hG.part hS (L:=(lb,x.obj)::(LF++(Lv++(Lg++P))))) (hb.ah.stay hS (L:=(lb,x.obj)::(LF++(Lv++(Lg++P))))) hb.hl (Arr.nil _ _ _) AC (Arr.nil _ _ _) AC AA AA) ?_
 rintro _ w3⟨rfl,f2,sb2,L3,hK,hS'⟩;have hS:=hS.call (L:=(lb,x.obj)::(LF++(Lv++(Lg++P)))) hS';(repeat(refine jt ⟨?_⟩;refine hS.q ?_;intro _ hS));refine jt ⟨?_⟩;refine Cl.mono (JW (x:=x.fresh f2 sb2) hK (hS.part (L:=(lb,(x.fresh f2 sb2).obj)::(L3++(Lv++(Lg++P))))) hn.at_ (Au hnl AC)) ?_;rintro _ w4⟨rfl,hS'⟩;have hS:=hS.call (L:=(lb,(x.fresh f2 sb2).obj)::(L3++(Lv++(Lg++P)))) hS';rw[decide_eq_true rfl]
 (repeat(refine jt ⟨?_⟩;refine hS.q ?_;intro _ hS));refine jt ⟨?_⟩;exact⟨rfl,x.fresh f2 sb2,_,⟨rfl,rfl⟩,⟨L3,[],[],Lv++(Lg++P),rfl,(Lf.anew hK hn).more AA AA hc he⟩,hS.sub (AS _ _)⟩
theorem xZ:HE 2:=by
 intro w lb c e x H n key to ao co ops af cf fs ak ck keep h hh hG hb hn64 hkl hc he;obtain⟨L,Lv,Lg,P,rfl,hf⟩:=h;have hS:=St.enter hh;have hnl:=hf.st.len;have hn:EE (Lv++(Lg++P)) x:=hf.at_.more ((Ai Lg P).trans (Ai Lv _));generalize hT:keys ((lb,x.obj)::(L++(Lv++(Lg++P))))=T0 at hS hG hb⊢;have hol:=hb.ol;refine Hf rfl ?_;(repeat(refine jt ⟨?_⟩;refine hS.q ?_;intro _ hS));refine jt ⟨?_⟩;refine hS.al ?_
 intro b3 w1 _ hS;(repeat(refine jt ⟨?_⟩;refine hS.q ?_;intro _ hS));refine jt ⟨?_⟩;refine AM.draw AK mixed (λw'=>St w T0 _ w') [6,7,8,9,10,11,12,13] [0,1,2,3,4,5,6,7,8,9,10,11,12,13] AD hS.drew ?_;have hS:=hS.drew;refine jr ⟨?_⟩;refine Cl.mono (ZK hf.st (hS.part (L:=L)) key hkl) ?_;rintro _ w2⟨rfl,hS'⟩;have hS:=hS.call (L:=L) hS';refine jr ⟨?_⟩;refine AM.draw AK mixed (λw'=>St w T0 _ w') [6,7,8,9,10,11] [0,1,2,3,4,5,6,7,8,9,10,11] AD hS.drew ?_
 have hS:=hS.drew;refine jr ⟨?_⟩;refine Cl.mono (Sz (hf.at_.at_.in hS) key hnl) ?_;rintro _ w3⟨rfl,hS'⟩;have hS:=hS.call0 hS';refine jr ⟨?_⟩;(repeat(refine jt ⟨?_⟩;refine hS.q ?_;intro _ hS));refine jt ⟨?_⟩;refine Ae.mk Tryz.underlying4 ?_;rw[beq_self_eq_true];(repeat(refine jt ⟨?_⟩;refine hS.q ?_;intro _ hS));refine jt ⟨?_⟩;refine Cl.mono (WX ⟨L,Lv,Lg,P,rfl,hf⟩ (hS.part (L:=(lb,x.obj)::(L++(Lv++(Lg++P))))) n hn64 key hkl to) ?_
 rintro _ w5⟨rfl,_,⟨L3,Lv3,Lg3,P3,rfl,hf3⟩,hS'⟩;have hS:=hS.call (L:=(lb,x.obj)::(L++(Lv++(Lg++P)))) hS';(repeat(refine jt ⟨?_⟩;refine hS.q ?_;intro _ hS));refine jt ⟨?_⟩;exact⟨rfl,x,_,⟨rfl,rfl⟩,⟨L3,Lv3,Lg3,P3,rfl,hf3.more AA AA hc he⟩,hS.sub (AS _ _)⟩
theorem x0:HE 3:=by
 intro w lb c e x H n key to ao co ops af cf fs ak ck keep h hh hG hb hn64 hkl hc he;obtain⟨L,Lv,Lg,P,rfl,hf⟩:=h;have hS:=St.enter hh;have hnl:=hf.st.len;have hn:EE (Lv++(Lg++P)) x:=hf.at_.more ((Ai Lg P).trans (Ai Lv _));generalize hT:keys ((lb,x.obj)::(L++(Lv++(Lg++P))))=T0 at hS hG hb⊢;have hol:=hb.ol;refine Hf rfl ?_;(repeat(refine jt ⟨?_⟩;refine hS.q ?_;intro _ hS));refine jt ⟨?_⟩;refine hS.al ?_
 intro b3 w1 _ hS;(repeat(refine jt ⟨?_⟩;refine hS.q ?_;intro _ hS));refine jt ⟨?_⟩;have hfl:(x.now.filter (Ef key to)).length≤262144:=Au (K6 _ _) hnl;refine AM.draw AK mixed (λw'=>St w T0 _ w') [8,9,10,11,12,13] [0,1,2,3,4,5,6,7,8,9,10,11,12,13] AD hS.drew ?_;have hS:=hS.drew;refine jr ⟨?_⟩;refine Cl.mono (Su hf.st (hS.part (L:=L)) key to) ?_;rintro _ w2⟨a2,c2,Lw,rfl,hv2,hS'⟩;have hS:=hS.call (L:=L) hS'
 have hS:St w T0 ((b3,.cells ⟨D9 3 n key to ao ops.length co af fs.length cf ak keep.length ck⟩ F0 (0,0))::(lb,x.obj)::((Lw++L)++(Lv++(Lg++P)))) _:=hS;refine jr ⟨?_⟩;refine AM.drawQ AK mixed (λw'=>∃L',St w T0 ((b3,.cells ⟨D9 3 n key to ao ops.length co af fs.length cf ak keep.length ck⟩ F0 (0,0))::(lb,x.obj)::L') w') [0,1,2,3,4,5,6,7,8,9,10,11,12,13,14,15,16,17,18,19,20] AD ⟨_,hS.drew⟩ ?_;have hS:=hS.drew
 refine jq ⟨?_⟩;refine CL (v:= .slice x.an x.now.length x.cn) (λw'⟨L',h⟩=>h.cell (b:=lb) (off:=5) rfl) ?_;refine jq ⟨?_⟩;refine CL (v:=AG key) (λw'⟨L',h⟩=>h.cell (b:=b3) (off:=2) rfl) ?_;refine jq ⟨?_⟩;refine CL (v:=AG to) (λw'⟨L',h⟩=>h.cell (b:=b3) (off:=3) rfl) ?_;refine jq ⟨?_⟩;refine Cl.mono (S0 (hf.at_.at_.in hS) key to hnl) ?_;rintro _ w5⟨a5,c5,L5,rfl,hv5,hS'⟩;have hS:=hS.callNew hS';refine Ae.mk ⟨_,hS.sub (Ai L5 _)⟩ ?_
 refine jq ⟨?_⟩;refine Cl.mono (Nk (hv2.arr hS AB) (hv5.arr hS AB) (by rw[BZ];omega) (by rw[BZ];omega)) ?_;rintro _ w6⟨rfl,hS'⟩;have hS:=hS.call0 hS';refine Ae.mk ⟨_,hS.sub (Ai L5 _)⟩ ?_;have hS:St w T0 ((b3,.cells ⟨D9 3 n key to ao ops.length co af fs.length cf ak keep.length ck⟩ F0 (0,0))::(lb,x.obj)::(L++(Lv++(Lg++P)))) _:=hS.sub (((((Ai Lw L).append_right _).cons_cons _).cons_cons _).trans (Ai L5 _))
 rw[decide_eq_true rfl];refine jq ⟨?_⟩;refine Mw (l:=D9 3 n key to ao ops.length co af fs.length cf ak keep.length ck) (λw'⟨L',h⟩j v hj=>by rw[DR];exact h.cell (b:=b3) (off:=j) hj) rfl ?_;refine jq ⟨?_⟩;refine Cl.mono (WX ⟨L,Lv,Lg,P,rfl,hf⟩ (hS.part (L:=(lb,x.obj)::(L++(Lv++(Lg++P))))) n hn64 key hkl to) ?_;rintro _ w7⟨rfl,_,⟨L3,Lv3,Lg3,P3,rfl,hf3⟩,hS'⟩;have hS:=hS.call (L:=(lb,x.obj)::(L++(Lv++(Lg++P)))) hS'
 refine Ae.mk ⟨_,hS⟩ ?_;refine jq ⟨?_⟩;exact⟨rfl,x,_,⟨rfl,rfl⟩,⟨L3,Lv3,Lg3,P3,rfl,hf3.more AA AA hc he⟩,hS.sub (AS _ _)⟩
theorem Cg.gvb{sb f c e:Nat}{gv:Int}{now:List AO}{lk:CT}{L:AH}(h:Cg sb f c e gv now lk L):gv≤7000000:=by
 obtain⟨s,m, -,hI,rfl⟩:=h;have h1:=hI.bud.given;have h2:=hI.c1;omega
theorem tG{x y:LM}{s:Ju}(hlen:x.gn.length=x.sn.length)(hg:y.gn=x.gn++[false])(hs:y.sn=x.sn++[s]):DF y= λn=>if n=(x.sn.length:Int)+1 then some s.l else DF x n:=by
 funext n
 unfold DF;rw[hg,hs];by_cases h1:n<1
 ·rw[if_pos h1,if_pos h1,if_neg AA]
 rw[if_neg h1,if_neg h1];by_cases h2:n=(x.sn.length:Int)+1
 ·rw[if_pos h2,D2 AA,D2 AA,show(n-1).toNat-x.gn.length=0 by omega,show(n-1).toNat-x.sn.length=0 by omega]
  rfl
 ·rw[if_neg h2];by_cases h3:(n-1).toNat<x.sn.length
  ·rw[Cq AA,Cq AA]
  ·rw[JZ (l:=x.gn++[false]) (by rw[AP,D4];omega),JZ (l:=x.gn) AA];simp
theorem tE{x y:LM}{n:Int}(h1:1≤n)(hlen:(n-1).toNat<x.gn.length)(hg:y.gn=x.gn.set (n-1).toNat true)(hs:y.sn=x.sn):DF y= λk=>if k=n then none else DF x k:=by
 funext k
 unfold DF;rw[hg,hs,List.getElem?_set];by_cases h2:k=n
 ·subst h2;rw[if_pos rfl,if_pos rfl,if_neg AA,if_pos hlen,if_neg AB]
 ·by_cases h3:k<1
  ·rw[if_pos h3,if_pos h3,if_neg h2]
  ·rw[if_neg h3,if_neg h3,if_neg (show¬(n-1).toNat=(k-1).toNat by omega),if_neg h2]
theorem tD{x:LM}{n:Int}(h:DF x n=none):(λk=>if k=n then none else DF x k)=DF x:=by
 funext k
 by_cases h2:k=n
 ·subst h2;rw[if_pos rfl,h]
 ·rw[if_neg h2]
theorem x4:HE 4:=by
 intro w lb c e x H n key to ao co ops af cf fs ak ck keep h hh hG hb hn64 hkl hc he;obtain⟨L,Lv,Lg,P,rfl,hf⟩:=h;have hS:=St.enter hh;have hnl:=hf.st.len;have hn:EE (Lv++(Lg++P)) x:=hf.at_.more ((Ai Lg P).trans (Ai Lv _));generalize hT:keys ((lb,x.obj)::(L++(Lv++(Lg++P))))=T0 at hS hG hb⊢;have hol:=hb.ol;refine Hf rfl ?_;(repeat(refine jt ⟨?_⟩;refine hS.q ?_;intro _ hS));refine jt ⟨?_⟩;refine hS.al ?_
 intro b3 w1 _ hS;(repeat(refine jt ⟨?_⟩;refine hS.q ?_;intro _ hS));refine jt ⟨?_⟩;have hgv:=hf.st.gvb;refine AM.draw AK mixed (λw'=>w'.cell? ⟨lb,6,none⟩=some (.slice x.sa x.sn.length x.sc)∧w'.cell? ⟨lb,5,none⟩=some (.slice x.an x.now.length x.cn)) [13] [0,1,2,3,4,5,6,7,8,9,10,11,12,13] AD ⟨hS.drew.cell (b:=lb) (off:=6) rfl,hS.drew.cell (b:=lb) (off:=5) rfl⟩ ?_;have hS:=hS.drew;refine jr ⟨?_⟩;refine CL (λw' h=>h.1) ?_
 refine jr ⟨?_⟩;refine CL (λw' h=>h.2) ?_;refine jr ⟨?_⟩;refine hS.al ?_;intro r w2 _ hS;refine Ae.mk ⟨hS.cell (b:=lb) (off:=6) rfl,hS.cell (b:=lb) (off:=5) rfl⟩ ?_;refine jr ⟨?_⟩;refine St.app (sz:=1) (m:=1) AK rfl rfl rfl rfl hS hf.v (news:=[.slice x.an x.now.length x.cn]) rfl (by have:=hS.arr (b:=r) (T':=[]) AB;exact this) rfl (by show(_+_)*24≤_;omega) AA ?_;intro a6 c6 L6 w3 hv6 hS;refine Ae.mk ⟨hS.cell (b:=lb) (off:=6) rfl,hS.cell (b:=lb) (off:=5) rfl⟩ ?_
 have hS:=hS.sub (AS _ _);(repeat(refine jt ⟨?_⟩;refine hS.q ?_;intro _ hS));refine jt ⟨?_⟩;refine hS.al ?_;intro r w4 _ hS;(repeat(refine jt ⟨?_⟩;refine hS.q ?_;intro _ hS));refine jt ⟨?_⟩;refine St.app (sz:=1) (m:=1) AK rfl rfl rfl rfl hS hf.g (news:=[.bool false]) rfl (by have:=hS.arr (b:=r) (T':=[]) AB;exact this) rfl (by have:=hf.len;show(_+_)*1≤_;omega) (by have:=hf.len;omega) ?_;intro a7 c7 L7 w5 hv7 hS
 have hS:=hS.sub (AS _ _);(repeat(refine jt ⟨?_⟩;refine hS.q ?_;intro _ hS));refine jt ⟨?_⟩;refine AM.draw AK mixed (λw'=>w'.cell? ⟨lb,6,none⟩=some (.slice a6 (x.sn.length+1) c6)∧w'.cell? ⟨lb,1,none⟩=some (ptr x.sb)) [] [0,1,2,3,5,6,7,8,9,4,10,11] AD ⟨hS.drew.cell (b:=lb) (off:=6) rfl,hS.drew.cell (b:=lb) (off:=1) rfl⟩ ?_;have hS:=hS.drew;refine jr ⟨?_⟩;refine CL (λw' h=>h.2) ?_;refine jr ⟨?_⟩;refine CL (λw' h=>h.1) ?_
 refine jr ⟨?_⟩;refine Cl.mono (ZN hf.st (hS.part (L:=L)) AA) ?_;rintro _ w6⟨rfl,L8,hK,hS'⟩;have hS:=hS.call (L:=L) hS';refine Ae.mk ⟨hS.cell (b:=lb) (off:=6) rfl,hS.cell (b:=lb) (off:=1) rfl⟩ ?_;refine jr ⟨?_⟩;rw[show decide ((x.sn.length:Int)+1=((x.sn.length+1:Nat):Int))=true from decide_eq_true AA];(repeat(refine jt ⟨?_⟩;refine hS.q ?_;intro _ hS));refine jt ⟨?_⟩;have e1:(x.sn++[(⟨x.an,x.cn,x.now⟩:Ju)]).length=x.sn.length+1:=by rw[AP];rfl
 have e2:(x.gn++[false]).length=x.gn.length+1:=by rw[AP];rfl
 have hobj:({x with sa:=a6,sn:=x.sn++[⟨x.an,x.cn,x.now⟩],sc:=c6,ga:=a7,gn:=x.gn++[false],gc:=c7}:LM).obj= .cells ⟨[ptr x.f,ptr x.sb,.int .i64 x.mm,.int .i64 x.fan,.slice x.ah x.hs.length x.ch,.slice x.an x.now.length x.cn,.slice a6 (x.sn.length+1) c6,.slice a7 (x.gn.length+1) c7]⟩ TX (0,0):=by rw[←e1,←e2]
 refine⟨rfl,{x with sa:=a6,sn:=x.sn++[⟨x.an,x.cn,x.now⟩],sc:=c6,ga:=a7,gn:=x.gn++[false],gc:=c7},_,⟨rfl,rfl⟩,⟨L8,L6,L7,P,rfl,⟨?_,⟨hf.at_.at_,hf.at_.ad,hf.at_.cap,hf.at_.so⟩,?_,?_,?_,?_⟩⟩,?_⟩
 ·rw[tG (s:=⟨x.an,x.cn,x.now⟩) hf.len rfl rfl];rw[show((({x with sa:=a6,sn:=x.sn++[⟨x.an,x.cn,x.now⟩],sc:=c6,ga:=a7,gn:=x.gn++[false],gc:=c7}:LM).sn.length:Nat):Int)=(x.sn.length:Int)+1 by show((x.sn++[_]).length:Int)=_;rw[e1];omega];exact hK.more AA AA hc he
 ·show AT _ 1 a6 (x.sn++[_]).length c6 ((x.sn++[_]).map Ju.v) L6;rw[e1,A7];exact hv6
 ·intro s hs;rcases Bk.1 hs with hs|hs
  ·exact hf.sn s hs
  ·obtain rfl:=Cm.1 hs;exact⟨hf.at_.at_,hnl⟩
 ·show AT _ 1 a7 (x.gn++[_]).length c7 ((x.gn++[_]).map Value.bool) L7;rw[e2,A7];exact hv7
 ·show(x.gn++[_]).length=(x.sn++[_]).length;rw[e1,e2,hf.len]
 ·rw[hobj];exact hS.sub (AS _ _)
theorem x5:HE 5:=by
 intro w lb c e x H n key to ao co ops af cf fs ak ck keep h hh hG hb hn64 hkl hc he;obtain⟨L,Lv,Lg,P,rfl,hf⟩:=h;have hS:=St.enter hh;have hnl:=hf.st.len;have hn:EE (Lv++(Lg++P)) x:=hf.at_.more ((Ai Lg P).trans (Ai Lv _));generalize hT:keys ((lb,x.obj)::(L++(Lv++(Lg++P))))=T0 at hS hG hb⊢;have hol:=hb.ol;refine Hf rfl ?_;(repeat(refine jt ⟨?_⟩;refine hS.q ?_;intro _ hS));refine jt ⟨?_⟩;refine hS.al ?_
 intro b3 w1 _ hS;(repeat(refine jt ⟨?_⟩;refine hS.q ?_;intro _ hS));refine jt ⟨?_⟩;have hgv:=hf.st.gvb;have hlen:=hf.len;obtain⟨hn1,hn2⟩:=hn64;refine AM.draw AK mixed (λw'=>St w T0 _ w') [8,9] [0,1,2,3,4,5,6,7,8,9] AD hS.drew ?_;have hS:=hS.drew;refine jr ⟨?_⟩;refine Cl.mono (ZJ hf.st (hS.part (L:=L)) n) ?_;rintro _ w2⟨rfl,L2,hK,hS'⟩;have hS:=hS.call (L:=L) hS';have hK:=hK.more (G5 c 24) (G5 e ops.length) hc he
 refine jr ⟨?_⟩;refine AM.drawQ AK mixed (λw'=>St w T0 ((b3,.cells ⟨D9 5 n key to ao ops.length co af fs.length cf ak keep.length ck⟩ F0 (0,0))::(lb,x.obj)::(L2++(Lv++(Lg++P)))) w') [0,1,2,3,4,5,6,7,8,9,10,11,12,13,14,15,16,17,18,19,20,21,22,23] AD hS.drew ?_;have hS:=hS.drew;cases hl:DF x n with
 |none=>
  have hat:E4 (DF x) n=3:=by unfold E4;rw[hl];rfl
  rw[tD hl]at hK;rw[hat];have hend: ∀{w'},St w T0 ((b3,.cells ⟨D9 5 n key to ao ops.length co af fs.length cf ak keep.length ck⟩ F0 (0,0))::(lb,x.obj)::(L2++(Lv++(Lg++P)))) w'→Nd lb (c+24) (e+ops.length) x T0 w (.bool true) w':=λhS=>⟨rfl,x,_,⟨rfl,rfl⟩,⟨L2,Lv,Lg,P,rfl,{hf with st:=hK}⟩,hS.sub (AS _ _)⟩;rcases WR hlen hl with h1|⟨h1,h2⟩|⟨h1,h2,h3⟩
  ·refine jr ⟨?_⟩;(repeat(refine jt ⟨?_⟩;refine hS.q ?_;intro _ hS));refine jt ⟨?_⟩;exact hend hS
  ·refine jr ⟨?_⟩;(repeat(refine jt ⟨?_⟩;refine hS.q ?_;intro _ hS));refine jt ⟨?_⟩;exact hend hS
  ·obtain⟨g,off,hga, -⟩:=JE hf.g hS (j:=(n-1).toNat) (v:= .bool true) (by rw[Et,h3];rfl);refine jr ⟨?_⟩;rw[hga];refine jr ⟨?_⟩;refine CL (v:= .bool true) (λw' h=>by
    obtain⟨g2,off2,e2,hc⟩:=JE hf.g h (j:=(n-1).toNat) (v:= .bool true) (by rw[Et,h3];rfl);rw[hga]at e2;cases e2;rw[show off+(n-1).toNat*1=off+(n-1).toNat by omega];exact hc) ?_
   refine jr ⟨?_⟩;(repeat(refine jt ⟨?_⟩;refine hS.q ?_;intro _ hS));refine jt ⟨?_⟩;exact hend hS
 |some l=>
  obtain⟨h1,h2,h3,s,hs,rfl⟩:=RH hlen hl;have hat:E4 (DF x) n=0:=by unfold E4;rw[hl];rfl
  rw[hat];have hng:(n-1).toNat<x.gn.length:=AA;rcases hf.g.inv with⟨-,h0, -⟩|⟨g,l,hga,hx1,hx2,hx3,rfl⟩
  ·rw[h0]at hng;exact absurd hng (Nat.not_lt_zero _)
  have hcell:(x.gn.map Value.bool++l)[(n-1).toNat]?=some (.bool false):=by
   rw[Cq (by rw[BZ];exact hng),Et,h3];rfl
  refine jr ⟨?_⟩;rw[hga];refine jr ⟨?_⟩;refine CL (v:= .bool false) (λw' h=>by
   rw[show 0+(n-1).toNat*1=(n-1).toNat by omega];exact h.cell (b:=g) (off:=(n-1).toNat) hcell) ?_
  refine jr ⟨?_⟩;refine AM.draw AK mixed (λw'=>St w T0 ((b3,.cells ⟨D9 5 n key to ao ops.length co af fs.length cf ak keep.length ck⟩ F0 (0,0))::(lb,x.obj)::(L2++(Lv++([(g,.cells ⟨x.gn.map Value.bool++l⟩ Jv (0,0))]++P)))) w') [8] [0,1,2,3,4,5,6,7,8] AD hS.drew ?_;have hS:=hS.drew;refine jr ⟨?_⟩;rw[hga];refine jr ⟨?_⟩;rw[show 0+(n-1).toNat*1=(n-1).toNat by omega];refine hS.stI rfl (by rw[AP,BZ];omega) ?_
  intro w3 hS;rw[List.set_append_left _ _ (by rw[BZ];exact hng),←List.map_set]at hS;refine jr ⟨?_⟩;(repeat(refine jt ⟨?_⟩;refine hS.q ?_;intro _ hS));refine jt ⟨?_⟩;have e2:(x.gn.set (n-1).toNat true).length=x.gn.length:=Iv ..;have hobj:({x with gn:=x.gn.set (n-1).toNat true}:LM).obj=x.obj:=by
   show(Obj.cells ⟨[_,_,_,_,_,_,_,.slice x.ga (x.gn.set (n-1).toNat true).length x.gc]⟩ _ _:Obj)=_;rw[e2]
  refine⟨rfl,{x with gn:=x.gn.set (n-1).toNat true},_,⟨rfl,rfl⟩,⟨L2,Lv,[(g,.cells ⟨(x.gn.set (n-1).toNat true).map Value.bool++l⟩ Jv (0,0))],P,rfl,⟨?_,⟨hf.at_.at_,hf.at_.ad,hf.at_.cap,hf.at_.so⟩,hf.v,hf.sn,?_,e2.trans hlen⟩⟩,?_⟩
  ·rw[tE (x:=x) (y:={x with gn:=x.gn.set (n-1).toNat true}) h1 hng rfl rfl];exact hK
  ·show AT Jv 1 x.ga (x.gn.set (n-1).toNat true).length x.gc _ _;rw[e2,hga];have e3:((x.gn.set (n-1).toNat true).map Value.bool).length=(x.gn.map Value.bool).length:=by rw[BZ,BZ,e2]
   exact .row g x.gn.length x.gc _ l (e3.trans hx1) (by rw[e3];exact hx2) hx3
  ·rw[hobj];exact hS.sub (AS _ _)
theorem YP(kd:Int):HE kd:=by
 by_cases h1:kd=1
 ·subst h1;exact xX
 by_cases h2:kd=2
 ·subst h2;exact xZ
 by_cases h3:kd=3
 ·subst h3;exact x0
 by_cases h4:kd=4
 ·subst h4;exact x4
 by_cases h5:kd=5
 ·subst h5;exact x5
 by_cases h6:kd=6
 ·subst h6;exact x6
 by_cases h7:kd=7
 ·subst h7;exact x7
 by_cases h8:kd=8
 ·subst h8;exact x8
 by_cases h9:kd=9
 ·subst h9;exact x9
 by_cases h10:kd=10
 ·subst h10;exact xY
 exact yC kd h1 h2 h3 h4 h5 h6 h7 h8 h9 h10
theorem GN.more{lb c c' e e':Nat}{x:LM}{H:AH}(h:GN lb c e x H)(hc:c≤c')(he:e≤e')(hc1:c'≤7000000)(he1:e'≤262144):GN lb c' e' x H:=by
 obtain⟨L,Lv,Lg,P,rfl,hf⟩:=h;exact⟨L,Lv,Lg,P,rfl,hf.more hc he hc1 he1⟩
def Pj(scr:List Ha):Prop:=∀x∈scr,Av x.ops≤1099511627776∧x.key.length≤1099511627776∧x.fates.length≤1099511627776∧x.keep.length≤1099511627776
set_option maxRecDepth 8000 in
theorem Zo{w:World}(hG:Bw w []){a:Option Addr}{c:Nat}{hs:List Int}{mm fan:Int}(ha:Arr w [] a (hs.map AY))(hhl:hs.length≤1099511627776)
  {ax:Option Addr}{cx:Nat}{scr:List Ha}(hx:Bo 7 Jt w [.slice ax scr.length cx] scr)(hsz:Pj scr)(hn:Er scr≤262144)(hc:scr.length≤131072):
  Cl Tryz.prog p5 [.agg ⟨[.int .i64 mm,.int .i64 fan,.slice a hs.length c]⟩,.slice ax scr.length cx] w λv w'=>v= .bool true∧St w [] [] w':=by
 have hS:=St.start w;refine kG rfl ?_;(repeat(refine jt ⟨?_⟩;refine hS.q ?_;intro _ hS));refine jt ⟨?_⟩;refine hS.al ?_;intro b2 w1 _ hS;(repeat(refine jt ⟨?_⟩;refine hS.q ?_;intro _ hS));refine jt ⟨?_⟩;refine Cl.mono (WQ (hG.part hS (L:=[]))) ?_;rintro _ w2⟨rfl,hS'⟩;have hS:=hS.call0 hS';(repeat(refine jt ⟨?_⟩;refine hS.q ?_;intro _ hS));refine jt ⟨?_⟩;refine Cl.mono (Ts (hs:=hs) (mm:=mm) (fan:=fan) (c:=c) (hG.part hS (L:=[])) ((hS.arrOld ha).sub AB) hhl) ?_
 rintro _ w3⟨lb,x,H,rfl,hxa,hxh,hL,hS'⟩;have hS:=hS.callNew hS';have hS:=hS.sub (CD H _);(repeat(refine jt ⟨?_⟩;refine hS.q ?_;intro _ hS));refine jt ⟨?_⟩;refine AM.loop (λk:Nat=>[(5,ptr lb),(18,.slice ax scr.length cx),(19,.int .i64 scr.length),(20,.int .i64 k)])
  (λk w'=>k≤scr.length∧ ∃x H,x.ah=a∧x.hs=hs∧GN lb (2+24*k) (Er (scr.take k)) x H∧St w [] H w') (λk=>scr.length-k) 0
  ⟨rfl,rfl,rfl,rfl,trivial⟩ ⟨Ag _,x,H,hxa,hxh,hL,hS⟩ ?_
 rintro k w8⟨hk,x,H,rfl,rfl,hL,hS⟩;by_cases hkl:k<scr.length
 ·obtain⟨g,off,ao,co,af,cf,ak,ck,rfl,hld,harr,haf,hak,hn64⟩:=X8 hS hx hkl;have hsucc:=UB scr k hkl;have hnl:=UA scr (k+1);obtain⟨hz1,hz2,hz3,hz4⟩:=hsz _ (CW hkl);generalize scr[k]=o at hld harr haf hak hn64 hsucc hz1 hz2 hz3 hz4;obtain⟨kd,n,key,to,ops,fates,keep⟩:=o;simp only at hld harr haf hak hn64 hsucc hz1 hz2 hz3 hz4;(repeat(refine jt ⟨?_⟩;refine hS.q ?_;intro _ hS));refine jt ⟨?_⟩;refine hld _ ?_
  (repeat(refine jt ⟨?_⟩;refine hS.q ?_;intro _ hS));refine jt ⟨?_⟩;refine hS.al ?_;intro b8 w9 _ hS;by_cases h8:kd=8
  ·(repeat(refine jt ⟨?_⟩;refine hS.q ?_;intro _ hS));refine jt ⟨?_⟩;exact⟨k+1,⟨rfl,rfl,rfl,rfl,trivial⟩,⟨AA,x,H,rfl,rfl,hL.more AA AA AA AA,hS.sub (AS _ _)⟩,AA⟩
  by_cases h9:kd=9
  ·(repeat(refine jt ⟨?_⟩;refine hS.q ?_;intro _ hS));refine jt ⟨?_⟩;exact⟨k+1,⟨rfl,rfl,rfl,rfl,trivial⟩,⟨AA,x,H,rfl,rfl,hL.more AA AA AA AA,hS.sub (AS _ _)⟩,AA⟩
  (repeat(refine jt ⟨?_⟩;refine hS.q ?_;intro _ hS));refine jt ⟨?_⟩;refine Cl.mono (YP kd _ lb (2+24*k) (Er (scr.take k)) x H n key to ao co ops af cf fates ak ck keep hL (hS.part (L:=H)) (hG.part hS (L:=H)) ⟨ha.stay hS (L:=H),hhl,harr.stay hS (L:=H),hz1,haf.stay hS (L:=H),hz3,hak.stay hS (L:=H),hz4⟩ hn64 hz2 AA AA) ?_;rintro _ w10⟨rfl,y,H',hxy,hL',hS'⟩;have hS:=hS.call (L:=H) hS';(repeat(refine jt ⟨?_⟩;refine hS.q ?_;intro _ hS));refine jt ⟨?_⟩
  exact⟨k+1,⟨rfl,rfl,rfl,rfl,trivial⟩,⟨AA,y,H',hxy.1,hxy.2,hL'.more AA AA AA AA,hS.sub (AS _ _)⟩,AA⟩
 ·obtain rfl:k=scr.length:=AA;obtain⟨L,Lv,Lg,P,rfl,hf⟩:=hL;have hnl:=hf.st.len;have hn:EE (Lv++(Lg++P)) x:=hf.at_.more ((Ai Lg P).trans (Ai Lv _));(repeat(refine jt ⟨?_⟩;refine hS.q ?_;intro _ hS));refine jt ⟨?_⟩;refine Cl.mono (JW hf.st (hS.part (L:=(lb,x.obj)::(L++(Lv++(Lg++P))))) hn.at_ AA) ?_;rintro _ w4⟨rfl,hS'⟩;have hS:=hS.call (L:=(lb,x.obj)::(L++(Lv++(Lg++P)))) hS';rw[decide_eq_true rfl];(repeat(refine jt ⟨?_⟩;refine hS.q ?_;intro _ hS));refine jt ⟨?_⟩
  exact⟨rfl,hS.nil⟩
theorem YA{scr:List Ha}(h:(scr.map Fs).sum≤1048576):Pj scr:=λx hx=>by
 have h1:=(O6 scr).2.2 x hx;have h2:Fs x=x.key.length+x.to.length+(x.ops.map Gs).sum+3*x.fates.length+x.keep.length+8:=rfl;exact⟨AA,AA,AA,AA⟩
end Go.Proofs.YtkgibdhpijdbfaaGreatDoor
