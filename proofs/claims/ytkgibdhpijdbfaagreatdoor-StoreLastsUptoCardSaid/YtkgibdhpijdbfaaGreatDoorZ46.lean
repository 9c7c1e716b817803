/- Texts of this claim, one behind the other. -/
import Derived.Test.YtkgibdhpijdbfaaGreatDoorZ45
set_option linter.unusedVariables false
set_option linter.unusedSimpArgs false
set_option maxHeartbeats 16000000
namespace Go.Proofs.YtkgibdhpijdbfaaGreatDoor
open Go Go.Eng Go.Proofs Go.Srt
set_option maxRecDepth 8000 in
theorem Zf{w:World}(hG:Bw w []){a:Option Addr}{c:Nat}{hs:List Int}{mm fan:Int}(ha:Arr w [] a (hs.map AY))(hhl:hs.length≤1099511627776)
  {ax:Option Addr}{cx:Nat}{scr:List Ha}(hx:Bo 7 Jt w [.slice ax scr.length cx] scr)(hsz:Pj scr)(hn:Er scr≤262144)(hc:scr.length≤131072):
  Cl Tryz.prog p4 [.agg ⟨[.int .i64 mm,.int .i64 fan,.slice a hs.length c]⟩,.slice ax scr.length cx] w λv w'=>v= .bool true∧St w [] [] w':=by
 have hS:=St.start w;refine kF rfl ?_;(repeat(refine jt ⟨?_⟩;refine hS.q ?_;intro _ hS));refine jt ⟨?_⟩;refine hS.al ?_;intro b2 w1 _ hS;(repeat(refine jt ⟨?_⟩;refine hS.q ?_;intro _ hS));refine jt ⟨?_⟩;refine Cl.mono (WQ (hG.part hS (L:=[]))) ?_;rintro _ w2⟨rfl,hS'⟩;have hS:=hS.call0 hS';(repeat(refine jt ⟨?_⟩;refine hS.q ?_;intro _ hS));refine jt ⟨?_⟩;refine Cl.mono (Ts (hs:=hs) (mm:=mm) (fan:=fan) (c:=c) (hG.part hS (L:=[])) ((hS.arrOld ha).sub AB) hhl) ?_
 rintro _ w3⟨lb,x,H,rfl,hxa,hxh,hL,hS'⟩;have hS:=hS.callNew hS';have hS:=hS.sub (CD H _);(repeat(refine jt ⟨?_⟩;refine hS.q ?_;intro _ hS));refine jt ⟨?_⟩;refine AM.loop (λk:Nat=>[(5,ptr lb),(18,.slice ax scr.length cx),(19,.int .i64 scr.length),(20,.int .i64 k)])
  (λk w'=>k≤scr.length∧ ∃x H,x.ah=a∧x.hs=hs∧GN lb (2+24*k) (Er (scr.take k)) x H∧St w [] H w') (λk=>scr.length-k) 0
  ⟨rfl,rfl,rfl,rfl,trivial⟩ ⟨Ag _,x,H,hxa,hxh,hL,hS⟩ ?_
 rintro k w8⟨hk,x,H,rfl,rfl,hL,hS⟩;by_cases hkl:k<scr.length
 ·obtain⟨g,off,ao,co,af,cf,ak,ck,rfl,hld,harr,haf,hak,hn64⟩:=X8 hS hx hkl;have hsucc:=UB scr k hkl;have hnl:=UA scr (k+1);obtain⟨hz1,hz2,hz3,hz4⟩:=hsz _ (CW hkl);generalize scr[k]=o at hld harr haf hak hn64 hsucc hz1 hz2 hz3 hz4;obtain⟨kd,n,key,to,ops,fates,keep⟩:=o;simp only at hld harr haf hak hn64 hsucc hz1 hz2 hz3 hz4;(repeat(refine jt ⟨?_⟩;refine hS.q ?_;intro _ hS));refine jt ⟨?_⟩;refine hld _ ?_
  (repeat(refine jt ⟨?_⟩;refine hS.q ?_;intro _ hS));refine jt ⟨?_⟩;refine hS.al ?_;intro b8 w9 _ hS;obtain⟨L,Lv,Lg,P,rfl,hf⟩:=hL;(repeat(refine jt ⟨?_⟩;refine hS.q ?_;intro _ hS));refine jt ⟨?_⟩;refine Cl.mono (Sr hf.st (hS.part (L:=L))) ?_;rintro _ w10⟨rfl,hS'⟩;have hS:=hS.call (L:=L) hS';have hL:GN lb (2+24*k) (Er (scr.take k)) x ((lb,x.obj)::(L++(Lv++(Lg++P)))):=⟨L,Lv,Lg,P,rfl,hf⟩;(repeat(refine jt ⟨?_⟩;refine hS.q ?_;intro _ hS));refine jt ⟨?_⟩
  refine Cl.mono (YP kd _ lb (2+24*k) (Er (scr.take k)) x _ n key to ao co ops af cf fates ak ck keep hL (hS.part (L:=(lb,x.obj)::(L++(Lv++(Lg++P))))) (hG.part hS (L:=(lb,x.obj)::(L++(Lv++(Lg++P))))) ⟨ha.stay hS (L:=(lb,x.obj)::(L++(Lv++(Lg++P)))),hhl,harr.stay hS (L:=(lb,x.obj)::(L++(Lv++(Lg++P)))),hz1,haf.stay hS (L:=(lb,x.obj)::(L++(Lv++(Lg++P)))),hz3,hak.stay hS (L:=(lb,x.obj)::(L++(Lv++(Lg++P)))),hz4⟩ hn64 hz2 AA AA) ?_
  rintro _ w11⟨rfl,y,H',hxy,hL',hS'⟩;have hS:=hS.call (L:=(lb,x.obj)::(L++(Lv++(Lg++P)))) hS';(repeat(refine jt ⟨?_⟩;refine hS.q ?_;intro _ hS));refine jt ⟨?_⟩;exact⟨k+1,⟨rfl,rfl,rfl,rfl,trivial⟩,⟨AA,y,H',hxy.1,hxy.2,hL'.more AA AA AA AA,hS.sub (AS _ _)⟩,AA⟩
 ·obtain rfl:k=scr.length:=AA;obtain⟨L,Lv,Lg,P,rfl,hf⟩:=hL;have hnl:=hf.st.len;have hn:EE (Lv++(Lg++P)) x:=hf.at_.more ((Ai Lg P).trans (Ai Lv _));(repeat(refine jt ⟨?_⟩;refine hS.q ?_;intro _ hS));refine jt ⟨?_⟩;refine Cl.mono (Sr hf.st (hS.part (L:=L))) ?_;rintro _ w3⟨rfl,hS'⟩;have hS:=hS.call (L:=L) hS';(repeat(refine jt ⟨?_⟩;refine hS.q ?_;intro _ hS));refine jt ⟨?_⟩;refine Cl.mono (JW hf.st (hS.part (L:=(lb,x.obj)::(L++(Lv++(Lg++P))))) hn.at_ AA) ?_
  rintro _ w4⟨rfl,hS'⟩;have hS:=hS.call (L:=(lb,x.obj)::(L++(Lv++(Lg++P)))) hS';rw[decide_eq_true rfl];(repeat(refine jt ⟨?_⟩;refine hS.q ?_;intro _ hS));refine jt ⟨?_⟩;exact⟨rfl,hS.nil⟩
end Go.Proofs.YtkgibdhpijdbfaaGreatDoor
