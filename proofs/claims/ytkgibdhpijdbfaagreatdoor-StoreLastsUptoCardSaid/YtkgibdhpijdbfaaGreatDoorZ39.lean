/- Texts of this claim, one behind the other. -/
import Derived.Test.YtkgibdhpijdbfaaGreatDoorZ36
import Derived.Test.YtkgibdhpijdbfaaGreatDoorZ37
set_option linter.unusedVariables false
set_option linter.unusedSimpArgs false
set_option maxHeartbeats 16000000
namespace Go.Proofs.YtkgibdhpijdbfaaGreatDoor
open Go Go.Eng Go.Proofs Go.Srt
theorem Of{e:Nat}{s:AL}{m:AJ}{now:List AO}{lk:Int→Option (List AO)}(h:BH e s m now lk){cs:List (List AF)}{mk:List (Int×List AF)}(hp:mk.Perm (Aq s.v.next cs)):(mk.map (·.1)).Nodup∧ ∀n∈mk.map (·.1),n∉s.tabs.map (·.1):=by
 refine⟨(hp.map _).nodup_iff.2 (LK _ _),λn hn hn2=>?_⟩;have h1:=(LJ cs s.v.next n).1 ((hp.map _).mem_iff.1 hn);have h2:=h.keys.2 n hn2;omega
theorem Qp{e A T X N Q:Nat}{s:AL}{m:AJ}{now:List AO}{lk:Int→Option (List AO)}(h:BH e s m now lk)(hb:DJ A T X N Q s m)(he:e≤1048576)(hT:536870912≤T∧T+1048576≤1099511627776)(hX:X≤576460752303423488)(hQ:Q≤576460752303423488)(hN:4200≤N)
  {mk:List (Int×List AF)}(hp:mk.Perm (Aq s.v.next (AR 64 s.mem))):
  ∃s1 m1,By s m mk=(0,s1,m1)∧BH e s1 m1 now lk∧DJ (A+3*e+8) (T+65544) (X+e+2) (N+1) Q s1 m1∧s1.mem=[]∧s1.given=s.given:=by
 by_cases hne:s.mem=[]
 ·refine⟨s,m,by unfold By;simp[hne],h,hb.mono AA AA AA AA (AW _),hne,rfl⟩
 obtain⟨g,hg,hgl⟩:=hb.list;have hc:=h.cnt;have hn:=hb.next;have hq:=hb.seq;obtain⟨m1,nx,g',v',m2,m3,ho,hft⟩:=rG mk h.up hb.ft ⟨hT.1,AA⟩ hg hgl (h.goodV hb he AA AA) h.next AA AA h.mem hne ⟨h.vseq,AA⟩;have hcs:=I9 64 s.mem AA;obtain⟨k1,k2⟩:=Of h hp;have hi:Ck (s.v.next+(AR 64 s.mem).length):=by have:=h.next;exact⟨AA,AA⟩
 have hw0:AN m2 (Aa (s.v.next+(AR 64 s.mem).length))=none:=by
  rw[ho.ed.keep (h.lname g hg) _ (λj=>EJ _ j) (EC _).1 (EC _).2,ho.same _ λi _ _=>FF _ i];exact h.free _ AA AA
 have hol:=vD ho.ed.up hw0;have hout:=ho.out;rw[Ye k1 k2]at hout;have hcore:=h.flush ho hp hg AA (D7 m2 (Aa (s.v.next+(AR 64 s.mem).length))) rfl;refine⟨_,m3,hout,hcore,⟨hft.mono AA (AW _),?_,hb.seq,hb.given,hb.sn,⟨g',rfl,ho.ed.lg N hgl hN⟩,⟨_,rfl,?_⟩⟩,rfl,rfl⟩
 ·show v'.next≤_;have:=ho.ed.next;have:=ho.next;omega
 ·rw[hol];exact⟨rfl,rfl,Ht hi,Ag _⟩
theorem cN{e A T X N Q:Nat}{s:AL}{m:AJ}{now:List AO}{lk:Int→Option (List AO)}(h:BH e s m now lk)(hb:DJ A T X N Q s m)(hm:s.mem=[])(he:e≤1048576)(hT:536870912≤T∧T+1048576≤1099511627776)(hX:X≤576460752303423488)(hQ:Q≤1099511627776)(hN:4200≤N)
  {r:List AF}{seen:List Int}(h1:r.Perm (Dy s))(h2:Az r)(h3:seen.Perm (Hz s)){mk:List (Int×List AF)}(hp:mk.Perm (Aq s.v.next (AR 64 (BD seen r)))):
  ∃d s1 m1,DC s m (BD seen r) mk=(d,s1,m1)∧BH e s1 m1 now lk∧DJ (A+4*e+8) (T+65544) (X+e+2) (N+1) Q s1 m1∧s1.mem=[]∧d≠7∧s1.given=s.given:=by
 by_cases hne:s.v.files=[]
 ·refine⟨0,s,m,by unfold DC;simp[hne],h,hb.mono AA AA AA AA (AW _),hm,AC,rfl⟩
 obtain⟨g,hg,hgl⟩:=hb.list;have hc:=h.cnt;have hn:=hb.next;have hq:=hb.seq;have hw:=h.wal;have hvs:=h.vseq;have hmf:=(h.co he (by have:=hb.sn;omega)).mem h1 h2 seen;have hl1:=(MA seen r).length_le;have hl2:=h1.length_eq;obtain⟨m1,nx,g',v',m2,m3,ho,hft⟩:=cO mk h.up hb.ft ⟨hT.1,AA⟩ hg hgl (h.goodV hb he AA AA) h.next AA AA AA AA hmf hne;have hcs:=I9 64 (BD seen r) AA;obtain⟨k1,k2⟩:=Of h hp;have hout:=ho.out
 rw[Yc h.keys.1 k1 k2 h.files]at hout;have hcore:=h.compact hm h1 h2 h3 ho hp hg hmf;obtain⟨g2,hg2,hgl2⟩:=hb.log;refine⟨_,_,m3,hout,hcore,⟨hft.mono AA (AW _),?_,hb.seq,hb.given,hb.sn,⟨g',rfl,ho.ed.lg N hgl hN⟩,⟨g2,hg2,hgl2.mono AA⟩⟩,hm,ho.r7,rfl⟩;show v'.next≤_;have:=ho.ed.next;have:=ho.next;omega
structure Inv(c e:Nat)(s:AL)(m:AJ)(now:List AO)(lk:Int→Option (List AO)):Prop where
 core:BH e s m now lk
 bud:DJ (c*2097152) (536870912+c*262144) (c*2097152) (4200+4*c) c s m
 c1:c≤1048576
 e1:e≤262144
theorem Inv.down{c e:Nat}{s:AL}{m:AJ}{now:List AO}{lk:Int→Option (List AO)}(h:Inv c e s m now lk):DD s m=false:=by unfold DD;rw[h.core.dead,h.core.up.off];rfl
theorem BH.more{e e':Nat}{s:AL}{m:AJ}{now:List AO}{lk:Int→Option (List AO)}(h:BH e s m now lk)(hl:e≤e'):BH e' s m now lk:={h with num:=Au h.num hl,nlen:=Au h.nlen hl,adds:=Au h.adds hl}
theorem Inv.more{c c' e e':Nat}{s:AL}{m:AJ}{now:List AO}{lk:Int→Option (List AO)}(h:Inv c e s m now lk)(hc:c≤c')(he:e≤e')(hc1:c'≤1048576)(he1:e'≤262144):Inv c' e' s m now lk:=
 ⟨h.core.more he,h.bud.mono AA AA AA AA hc,hc1,he1⟩
theorem dC{e:Nat}{s:AL}{m:AJ}{now:List AO}{lk:Int→Option (List AO)}(h:BH e s m now lk){z:Int}(hz:z≠7):Dl s m z=(z,s):=by
 unfold Dl;rw[h.dead,h.up.off];rw[if_neg (by simp[hz])];have:=h.dead;cases s;simp only at this;subst this
 rfl
theorem SD{c e:Nat}{s:AL}{m:AJ}{now:List AO}{lk:Int→Option (List AO)}(h:Inv c e s m now lk){ops:List Ac}(hsz:Av ops≤4096)(he:e+ops.length≤262144){g:BF}(hg:s.log=some g):
  ∃g' m1,appL m g [B0 (s.seq+1) ops]=(0,g',m1)∧BH (e+ops.length) (Gu s g' ops) m1 (Ch now ops) lk∧DJ (c*2097152+2) (536870912+c*262144+16384) (c*2097152) (4200+4*c+1) (c+1) (Gu s g' ops) m1:=by
 obtain⟨g0,hg0,hgl⟩:=h.bud.log;rw[hg]at hg0;cases hg0;have hs0:=h.core.seq;have hs1:=h.bud.seq;have hc1:=h.c1;have hpl:=ND (s.seq+1) ops ⟨AA,AA⟩ AA;have hok:Bb [B0 (s.seq+1) ops]=true:=by unfold Bb;simp;omega
 obtain⟨a1,a2,a3,a4⟩:=Tj h.core.up hgl hok AB;have hft:=h.bud.ft.appL g [B0 (s.seq+1) ops] (by rw[Dr];simp[BG];omega);have hsl:(AQ [B0 (s.seq+1) ops]).length≤16384:=by rw[Dr];simp[BG];omega
 generalize appL m g [B0 (s.seq+1) ops]=q at a1 a2 a3 a4 hft⊢;obtain⟨e1,g1,m1⟩:=q;simp only at a1 a2 a3 a4 hft⊢;subst a1 a2;have hnx:=h.bud.next;have hnm:=h.core.wname g hg;have hwl:=h.core.wal;have hw0:=h.core.good.nn.1;refine⟨_,m1,rfl,h.core.take ops _ a3 hnm (λk h1 h2=>?_) hsz AA AA,?_⟩
 ·rw[a4,if_neg λe=>by rw[hnm]at e;have:=Ka ⟨AA,AA⟩ ⟨AA,AA⟩ e;omega];exact h.core.free k h1 h2
 ·obtain⟨g2,hg2,hgl2⟩:=h.bud.list;exact⟨hft.mono AA AA,h.bud.next,by show s.seq+1≤_;omega,by have:=h.bud.given;show s.given≤_;omega,by have:=h.bud.sn;show s.seqs.length≤_;omega,⟨g2,hg2,hgl2.mono AA⟩,⟨_,rfl,⟨hgl.torn,hgl.dead,hgl.name,by have:=hgl.num;simp only[Ah,Bv];omega⟩⟩⟩
theorem q9{c e:Nat}{s:AL}{m:AJ}{now:List AO}{lk:Int→Option (List AO)}(h:BH e s m now lk)(hb:DJ (c*2097152+2) (536870912+c*262144+16384) (c*2097152) (4200+4*c+1) (c+1) s m)(hc:c+1≤1048576)(he:e≤262144){s2:AL}{m2:AJ}(hf:H4 s m s2 m2):BH e s2 m2 now lk∧Inv (c+1) e s2 m2 now lk∧s2.given=s.given:=by
 have key: ∀{s2 m2},BH e s2 m2 now lk→DJ (c*2097152+2+(3*e+8)+(4*e+8)) (536870912+c*262144+16384+65544+65544) (c*2097152+(e+2)+(e+2)) (4200+4*c+3) (c+1) s2 m2→s2.given=s.given→BH e s2 m2 now lk∧Inv (c+1) e s2 m2 now lk∧s2.given=s.given:=
  λh1 h2 h3=>⟨h1,⟨h1,h2.mono AA AA AA AA (AW _),hc,he⟩,h3⟩
 cases hf with
 |no _=>exact key h (hb.mono AA AA AA AA (AW _)) rfl
 |fl mk hp hm=>
  obtain⟨s1,m1,h1,h2,h3,h4,h5⟩:=Qp h hb AA ⟨AA,AA⟩ AA AA AA hp;rw[h1];exact key h2 (h3.mono AA AA AA AA (AW _)) h5
 |co mk hp hm s1 m1 h0 r seen mk2 r1 r2 r3 r4=>
  obtain⟨s1',m1',h1,h2,h3,h4,hgv⟩:=Qp h hb AA ⟨AA,AA⟩ AA AA AA hp;rw[h0]at h1;simp only[Prod.mk.injEq,true_and]at h1;obtain⟨rfl,rfl⟩:=h1;obtain⟨d,s2,m2,h5,h6,h7,h8, -,h9⟩:=cN h2 h3 h4 AA ⟨AA,AA⟩ AA AA AA r1 r2 r3 r4;rw[h5];exact key h6 (h7.mono AA AA AA AA (AW _)) (h9.trans hgv)
theorem rA{c e:Nat}{s:AL}{m:AJ}{now:List AO}{lk:Int→Option (List AO)}(h:BH e s m now lk)(hb:DJ (c*2097152+2) (536870912+c*262144+16384) (c*2097152) (4200+4*c+1) (c+1) s m)(hc:c+1≤1048576)(he:e≤262144):NZ s m:=by
 refine⟨_,_,h.wr hb AA AA AA AA AA ⟨AA,AA⟩,λmk hp=>?_⟩;obtain⟨s1,m1,h1,h2,h3,h4, -⟩:=Qp h hb AA ⟨AA,AA⟩ AA AA AA hp;rw[h1];have:=h2.cnt;exact⟨by show s1.v.files.length≤_;omega,λ_=>⟨_,_,h2.wr h3 AA AA AA AA AA ⟨AA,AA⟩,h2.co AA (by have:=h3.sn;omega)⟩⟩
theorem zK{c e:Nat}{s:AL}{m:AJ}{now:List AO}{lk:Int→Option (List AO)}(h:Inv c e s m now lk){ops:List Ac}(he:e+ops.length≤262144)(hc:c+1≤1048576){r:Int}{s':AL}{m':AJ}(hw:IB s m ops r s' m'):
  r=(if 4096<Av ops then 2 else 0)∧Inv (c+1) (e+ops.length) s' m' (if 4096<Av ops then now else Ch now ops) lk∧s'.given=s.given:=by
 have hsame:=h.more (c':=c+1) (e':=e+ops.length) AA AA hc he;cases hw with
 |down hd=>rw[h.down]at hd;cases hd
 |long hd hl=>rw[if_pos hl,if_pos hl];exact⟨rfl,hsame,rfl⟩
 |none hd hn=>
  subst hn;exact⟨rfl,hsame,rfl⟩
 |bad hd h1 h2 g g' m1 e1 hg ha hne=>
  obtain⟨g2,m2,h3, -⟩:=SD h h1 he hg;rw[ha]at h3;cases h3;exact absurd rfl hne
 |ok hd h1 h2 g g' m1 hg ha s2 m2 hf=>
  obtain⟨g2,m3,h3,h4,h5⟩:=SD h h1 he hg;rw[ha]at h3;cases h3;obtain⟨h6,h7,h8⟩:=q9 h4 h5 hc he hf;rw[dC h6 AC,if_neg AA,if_neg AA];exact⟨rfl,h7,h8⟩
theorem xK{c e:Nat}{s:AL}{m:AJ}{now:List AO}{lk:Int→Option (List AO)}(h:Inv c e s m now lk)(hc:c+1≤1048576):Inv (c+1) e (PC s) m now (λn=>if n=s.given+1 then some now else lk n):=by
 have hb:DJ ((c+1)*2097152) (536870912+(c+1)*262144) ((c+1)*2097152) (4200+4*(c+1)) (c+1) s m:=h.bud.mono AA AA AA AA AA;have hg:=h.core.given;have hgb:=h.bud.given;have hsb:=h.bud.sn;have hl:=Je (s.given+1) s.seq s.seqs;refine⟨{h.core with given:=?_,sqn:=?_,sqnd:=Mv h.core.sqnd,looks:=?_},⟨hb.ft,hb.next,hb.seq,?_,?_,hb.list,hb.log⟩,hc,h.e1⟩
 ·show 0≤s.given+1;omega
 ·intro x hx;show 1≤x.1∧x.1≤s.given+1∧x.2≤s.seq;rcases IN hx with rfl|hx
  ·simp only;omega
  ·have:=h.core.sqn x hx;omega
 ·intro n;show match Am n (BV (s.given+1) s.seq s.seqs)with
   |some q=>∃rs,(if n=s.given+1 then some now else lk n)=some rs∧Be (BS s) q rs
   |none=>(if n=s.given+1 then some now else lk n)=none
  rw[G6];by_cases hn:n=s.given+1
  ·rw[if_pos hn,if_pos hn];exact⟨now,rfl,h.core.view⟩
  ·rw[if_neg hn,if_neg hn];exact h.core.looks n
 ·show s.given+1≤_;omega
 ·show(BV (s.given+1) s.seq s.seqs).length≤_;omega
theorem RJ{e:Nat}{s:AL}{m:AJ}{now:List AO}{lk:Int→Option (List AO)}(h:BH e s m now lk)(n:Int):(Am n s.seqs).isSome=(lk n).isSome:=by
 have:=h.looks n;cases hk:Am n s.seqs with
 |none=>rw[hk]at this;rw[this];rfl
 |some q=>rw[hk]at this;obtain⟨rs,h1, -⟩:=this;rw[h1];rfl
theorem BH.fine{e:Nat}{s:AL}{m:AJ}{now:List AO}{lk:Int→Option (List AO)}(h:BH e s m now lk):Kg (BS s):=by
 intro x hx hd;rw[GT,Bk]at hx;rcases hx with hx|hx
 ·exact h.mem.fine x hx hd
 ·obtain⟨l,hl,hxl⟩:=Iw.1 hx;obtain⟨y,hy,rfl⟩:=BU.1 hl;exact(h.tab y hy).1.fine x hxl hd
end Go.Proofs.YtkgibdhpijdbfaaGreatDoor
