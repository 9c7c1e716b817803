/- Texts of this claim, one behind the other. -/
import Derived.Test.YtkgibdhpijdbfaaGreatDoorZ43
import Derived.Test.YtkgibdhpijdbfaaGreatDoorZ44
import Derived.Test.YtkgibdhpijdbfaaGreatDoorZ37
import Derived.Test.YtkgibdhpijdbfaaGreatDoorZ39
import Derived.Test.YtkgibdhpijdbfaaGreatDoorZ13
import Derived.Test.YtkgibdhpijdbfaaGreatDoorZ6
import Derived.Test.YtkgibdhpijdbfaaGreatDoorRows
import Derived.Test.YtkgibdhpijdbfaaGreatDoorZ9
import Derived.Stop.LaidErr
import Derived.LaidLaws
import Derived.Test.YtkgibdhpijdbfaaGreatDoorZ19
set_option linter.unusedVariables false
set_option linter.unusedSimpArgs false
set_option maxHeartbeats 16000000
namespace Go.Proofs.YtkgibdhpijdbfaaGreatDoor
open Go Go.Eng Go.Proofs Go.Srt
theorem Od{e:Nat}{s:AM}{m:AJ}{now:List AO}{lk:Int→Option (List AO)}(h:BH e s m now lk){cs:List (List AF)}{mk:List (Int×List AF)}(hp:mk.Perm (Ar s.v.next cs)):(mk.map (·.1)).Nodup∧ ∀n∈mk.map (·.1),n∉s.tabs.map (·.1):=by
 refine⟨(hp.map _).nodup_iff.2 (LB _ _),λn hn hn2=>?_⟩;have h1:=(LA cs s.v.next n).1 ((hp.map _).mem_iff.1 hn);have h2:=h.keys.2 n hn2;omega
theorem Qp{e A T X N Q:Nat}{s:AM}{m:AJ}{now:List AO}{lk:Int→Option (List AO)}(h:BH e s m now lk)(hb:DN A T X N Q s m)(he:e≤1048576)(hT:536870912≤T∧T+1048576≤1099511627776)(hX:X≤576460752303423488)(hQ:Q≤576460752303423488)(hN:4200≤N)
  {mk:List (Int×List AF)}(hp:mk.Perm (Ar s.v.next (AR 64 s.mem))):
  ∃s1 m1,By s m mk=(0,s1,m1)∧BH e s1 m1 now lk∧DN (A+3*e+8) (T+65544) (X+e+2) (N+1) Q s1 m1∧s1.mem=[]∧s1.given=s.given:=by
 by_cases hne:s.mem=[]
 ·refine⟨s,m,by unfold By;simp[hne],h,hb.mono AA AA AA AA (AV _),hne,rfl⟩
 obtain⟨g,hg,hgl⟩:=hb.list;have hc:=h.cnt;have hn:=hb.next;have hq:=hb.seq;obtain⟨m1,nx,g',v',m2,m3,ho,hft⟩:=rG mk h.up hb.ft ⟨hT.1,AA⟩ hg hgl (h.goodV hb he AA AA) h.next AA AA h.mem hne ⟨h.vseq,AA⟩;have hcs:=I5 64 s.mem AA;obtain⟨k1,k2⟩:=Od h hp;have hi:Ck (s.v.next+(AR 64 s.mem).length):=by have:=h.next;exact⟨AA,AA⟩
 have hw0:AN m2 (Aa (s.v.next+(AR 64 s.mem).length))=none:=by
  rw[ho.ed.keep (h.lname g hg) _ (λj=>EG _ j) (EB _).1 (EB _).2,ho.same _ λi _ _=>FH _ i];exact h.free _ AA AA
 have hol:=vD ho.ed.up hw0;have hout:=ho.out;rw[YY k1 k2]at hout;have hcore:=h.flush ho hp hg AA (D6 m2 (Aa (s.v.next+(AR 64 s.mem).length))) rfl;refine⟨_,m3,hout,hcore,⟨hft.mono AA (AV _),?_,hb.seq,hb.given,hb.sn,⟨g',rfl,ho.ed.lg N hgl hN⟩,⟨_,rfl,?_⟩⟩,rfl,rfl⟩
 ·show v'.next≤_;have:=ho.ed.next;have:=ho.next;omega
 ·rw[hol];exact⟨rfl,rfl,Hs hi,Ag _⟩
theorem cJ{e A T X N Q:Nat}{s:AM}{m:AJ}{now:List AO}{lk:Int→Option (List AO)}(h:BH e s m now lk)(hb:DN A T X N Q s m)(hm:s.mem=[])(he:e≤1048576)(hT:536870912≤T∧T+1048576≤1099511627776)(hX:X≤576460752303423488)(hQ:Q≤1099511627776)(hN:4200≤N)
  {r:List AF}{seen:List Int}(h1:r.Perm (D1 s))(h2:Az r)(h3:seen.Perm (Hy s)){mk:List (Int×List AF)}(hp:mk.Perm (Ar s.v.next (AR 64 (BD seen r)))):
  ∃d s1 m1,DG s m (BD seen r) mk=(d,s1,m1)∧BH e s1 m1 now lk∧DN (A+4*e+8) (T+65544) (X+e+2) (N+1) Q s1 m1∧s1.mem=[]∧d≠7∧s1.given=s.given:=by
 by_cases hne:s.v.files=[]
 ·refine⟨0,s,m,by unfold DG;simp[hne],h,hb.mono AA AA AA AA (AV _),hm,AC,rfl⟩
 obtain⟨g,hg,hgl⟩:=hb.list;have hc:=h.cnt;have hn:=hb.next;have hq:=hb.seq;have hw:=h.wal;have hvs:=h.vseq;have hmf:=(h.co he (by have:=hb.sn;omega)).mem h1 h2 seen;have hl1:=(Ld seen r).length_le;have hl2:=h1.length_eq;obtain⟨m1,nx,g',v',m2,m3,ho,hft⟩:=cK mk h.up hb.ft ⟨hT.1,AA⟩ hg hgl (h.goodV hb he AA AA) h.next AA AA AA AA hmf hne;have hcs:=I5 64 (BD seen r) AA;obtain⟨k1,k2⟩:=Od h hp;have hout:=ho.out
 rw[YW h.keys.1 k1 k2 h.files]at hout;have hcore:=h.compact hm h1 h2 h3 ho hp hg hmf;obtain⟨g2,hg2,hgl2⟩:=hb.log;refine⟨_,_,m3,hout,hcore,⟨hft.mono AA (AV _),?_,hb.seq,hb.given,hb.sn,⟨g',rfl,ho.ed.lg N hgl hN⟩,⟨g2,hg2,hgl2.mono AA⟩⟩,hm,ho.r7,rfl⟩;show v'.next≤_;have:=ho.ed.next;have:=ho.next;omega
structure Inv(c e:Nat)(s:AM)(m:AJ)(now:List AO)(lk:Int→Option (List AO)):Prop where
 core:BH e s m now lk
 bud:DN (c*2097152) (536870912+c*262144) (c*2097152) (4200+4*c) c s m
 c1:c≤1048576
 e1:e≤262144
theorem Inv.down{c e:Nat}{s:AM}{m:AJ}{now:List AO}{lk:Int→Option (List AO)}(h:Inv c e s m now lk):C5 s m=false:=by unfold C5;rw[h.core.dead,h.core.up.off];rfl
theorem BH.more{e e':Nat}{s:AM}{m:AJ}{now:List AO}{lk:Int→Option (List AO)}(h:BH e s m now lk)(hl:e≤e'):BH e' s m now lk:={h with num:=Au h.num hl,nlen:=Au h.nlen hl,adds:=Au h.adds hl}
theorem Inv.more{c c' e e':Nat}{s:AM}{m:AJ}{now:List AO}{lk:Int→Option (List AO)}(h:Inv c e s m now lk)(hc:c≤c')(he:e≤e')(hc1:c'≤1048576)(he1:e'≤262144):Inv c' e' s m now lk:=
 ⟨h.core.more he,h.bud.mono AA AA AA AA hc,hc1,he1⟩
theorem cY{e:Nat}{s:AM}{m:AJ}{now:List AO}{lk:Int→Option (List AO)}(h:BH e s m now lk){z:Int}(hz:z≠7):Dj s m z=(z,s):=by
 unfold Dj;rw[h.dead,h.up.off];rw[if_neg (by simp[hz])];have:=h.dead;cases s;simp only at this;subst this
 rfl
theorem SG{c e:Nat}{s:AM}{m:AJ}{now:List AO}{lk:Int→Option (List AO)}(h:Inv c e s m now lk){ops:List Ac}(hsz:Ap ops≤4096)(he:e+ops.length≤262144){g:BF}(hg:s.log=some g):
  ∃g' m1,appL m g [B0 (s.seq+1) ops]=(0,g',m1)∧BH (e+ops.length) (Gu s g' ops) m1 (Cf now ops) lk∧DN (c*2097152+2) (536870912+c*262144+16384) (c*2097152) (4200+4*c+1) (c+1) (Gu s g' ops) m1:=by
 obtain⟨g0,hg0,hgl⟩:=h.bud.log;rw[hg]at hg0;cases hg0;have hs0:=h.core.seq;have hs1:=h.bud.seq;have hc1:=h.c1;have hpl:=M8 (s.seq+1) ops ⟨AA,AA⟩ AA;have hok:Bc [B0 (s.seq+1) ops]=true:=by unfold Bc;simp;omega
 obtain⟨a1,a2,a3,a4⟩:=Tm h.core.up hgl hok AB;have hft:=h.bud.ft.appL g [B0 (s.seq+1) ops] (by rw[Ds];simp[BG];omega);have hsl:(AQ [B0 (s.seq+1) ops]).length≤16384:=by rw[Ds];simp[BG];omega
 generalize appL m g [B0 (s.seq+1) ops]=q at a1 a2 a3 a4 hft⊢;obtain⟨e1,g1,m1⟩:=q;simp only at a1 a2 a3 a4 hft⊢;subst a1 a2;have hnx:=h.bud.next;have hnm:=h.core.wname g hg;have hwl:=h.core.wal;have hw0:=h.core.good.nn.1;refine⟨_,m1,rfl,h.core.take ops _ a3 hnm (λk h1 h2=>?_) hsz AA AA,?_⟩
 ·rw[a4,if_neg λe=>by rw[hnm]at e;have:=KR ⟨AA,AA⟩ ⟨AA,AA⟩ e;omega];exact h.core.free k h1 h2
 ·obtain⟨g2,hg2,hgl2⟩:=h.bud.list;exact⟨hft.mono AA AA,h.bud.next,by show s.seq+1≤_;omega,by have:=h.bud.given;show s.given≤_;omega,by have:=h.bud.sn;show s.seqs.length≤_;omega,⟨g2,hg2,hgl2.mono AA⟩,⟨_,rfl,⟨hgl.torn,hgl.dead,hgl.name,by have:=hgl.num;simp only[Ai,Bo];omega⟩⟩⟩
theorem q9{c e:Nat}{s:AM}{m:AJ}{now:List AO}{lk:Int→Option (List AO)}(h:BH e s m now lk)(hb:DN (c*2097152+2) (536870912+c*262144+16384) (c*2097152) (4200+4*c+1) (c+1) s m)(hc:c+1≤1048576)(he:e≤262144){s2:AM}{m2:AJ}(hf:H3 s m s2 m2):BH e s2 m2 now lk∧Inv (c+1) e s2 m2 now lk∧s2.given=s.given:=by
 have key: ∀{s2 m2},BH e s2 m2 now lk→DN (c*2097152+2+(3*e+8)+(4*e+8)) (536870912+c*262144+16384+65544+65544) (c*2097152+(e+2)+(e+2)) (4200+4*c+3) (c+1) s2 m2→s2.given=s.given→BH e s2 m2 now lk∧Inv (c+1) e s2 m2 now lk∧s2.given=s.given:=
  λh1 h2 h3=>⟨h1,⟨h1,h2.mono AA AA AA AA (AV _),hc,he⟩,h3⟩
 cases hf with
 |no _=>exact key h (hb.mono AA AA AA AA (AV _)) rfl
 |fl mk hp hm=>
  obtain⟨s1,m1,h1,h2,h3,h4,h5⟩:=Qp h hb AA ⟨AA,AA⟩ AA AA AA hp;rw[h1];exact key h2 (h3.mono AA AA AA AA (AV _)) h5
 |co mk hp hm s1 m1 h0 r seen mk2 r1 r2 r3 r4=>
  obtain⟨s1',m1',h1,h2,h3,h4,hgv⟩:=Qp h hb AA ⟨AA,AA⟩ AA AA AA hp;rw[h0]at h1;simp only[Prod.mk.injEq,true_and]at h1;obtain⟨rfl,rfl⟩:=h1;obtain⟨d,s2,m2,h5,h6,h7,h8, -,h9⟩:=cJ h2 h3 h4 AA ⟨AA,AA⟩ AA AA AA r1 r2 r3 r4;rw[h5];exact key h6 (h7.mono AA AA AA AA (AV _)) (h9.trans hgv)
theorem rA{c e:Nat}{s:AM}{m:AJ}{now:List AO}{lk:Int→Option (List AO)}(h:BH e s m now lk)(hb:DN (c*2097152+2) (536870912+c*262144+16384) (c*2097152) (4200+4*c+1) (c+1) s m)(hc:c+1≤1048576)(he:e≤262144):NT s m:=by
 refine⟨_,_,h.wr hb AA AA AA AA AA ⟨AA,AA⟩,λmk hp=>?_⟩;obtain⟨s1,m1,h1,h2,h3,h4, -⟩:=Qp h hb AA ⟨AA,AA⟩ AA AA AA hp;rw[h1];have:=h2.cnt;exact⟨by show s1.v.files.length≤_;omega,λ_=>⟨_,_,h2.wr h3 AA AA AA AA AA ⟨AA,AA⟩,h2.co AA (by have:=h3.sn;omega)⟩⟩
theorem zO{c e:Nat}{s:AM}{m:AJ}{now:List AO}{lk:Int→Option (List AO)}(h:Inv c e s m now lk){ops:List Ac}(he:e+ops.length≤262144)(hc:c+1≤1048576){r:Int}{s':AM}{m':AJ}(hw:IC s m ops r s' m'):
  r=(if 4096<Ap ops then 2 else 0)∧Inv (c+1) (e+ops.length) s' m' (if 4096<Ap ops then now else Cf now ops) lk∧s'.given=s.given:=by
 have hsame:=h.more (c':=c+1) (e':=e+ops.length) AA AA hc he;cases hw with
 |down hd=>rw[h.down]at hd;cases hd
 |long hd hl=>rw[if_pos hl,if_pos hl];exact⟨rfl,hsame,rfl⟩
 |none hd hn=>
  subst hn;exact⟨rfl,hsame,rfl⟩
 |bad hd h1 h2 g g' m1 e1 hg ha hne=>
  obtain⟨g2,m2,h3, -⟩:=SG h h1 he hg;rw[ha]at h3;cases h3;exact absurd rfl hne
 |ok hd h1 h2 g g' m1 hg ha s2 m2 hf=>
  obtain⟨g2,m3,h3,h4,h5⟩:=SG h h1 he hg;rw[ha]at h3;cases h3;obtain⟨h6,h7,h8⟩:=q9 h4 h5 hc he hf;rw[cY h6 AC,if_neg AA,if_neg AA];exact⟨rfl,h7,h8⟩
theorem xM{c e:Nat}{s:AM}{m:AJ}{now:List AO}{lk:Int→Option (List AO)}(h:Inv c e s m now lk)(hc:c+1≤1048576):Inv (c+1) e (O9 s) m now (λn=>if n=s.given+1 then some now else lk n):=by
 have hb:DN ((c+1)*2097152) (536870912+(c+1)*262144) ((c+1)*2097152) (4200+4*(c+1)) (c+1) s m:=h.bud.mono AA AA AA AA AA;have hg:=h.core.given;have hgb:=h.bud.given;have hsb:=h.bud.sn;have hl:=JY (s.given+1) s.seq s.seqs;refine⟨{h.core with given:=?_,sqn:=?_,sqnd:=Mq h.core.sqnd,looks:=?_},⟨hb.ft,hb.next,hb.seq,?_,?_,hb.list,hb.log⟩,hc,h.e1⟩
 ·show 0≤s.given+1;omega
 ·intro x hx;show 1≤x.1∧x.1≤s.given+1∧x.2≤s.seq;rcases IP hx with rfl|hx
  ·simp only;omega
  ·have:=h.core.sqn x hx;omega
 ·intro n;show match Al n (Ba (s.given+1) s.seq s.seqs)with
   |some q=>∃rs,(if n=s.given+1 then some now else lk n)=some rs∧Bf (BZ s) q rs
   |none=>(if n=s.given+1 then some now else lk n)=none
  rw[G6];by_cases hn:n=s.given+1
  ·rw[if_pos hn,if_pos hn];exact⟨now,rfl,h.core.view⟩
  ·rw[if_neg hn,if_neg hn];exact h.core.looks n
 ·show s.given+1≤_;omega
 ·show(Ba (s.given+1) s.seq s.seqs).length≤_;omega
theorem RK{e:Nat}{s:AM}{m:AJ}{now:List AO}{lk:Int→Option (List AO)}(h:BH e s m now lk)(n:Int):(Al n s.seqs).isSome=(lk n).isSome:=by
 have:=h.looks n;cases hk:Al n s.seqs with
 |none=>rw[hk]at this;rw[this];rfl
 |some q=>rw[hk]at this;obtain⟨rs,h1, -⟩:=this;rw[h1];rfl
theorem BH.fine{e:Nat}{s:AM}{m:AJ}{now:List AO}{lk:Int→Option (List AO)}(h:BH e s m now lk):KY (BZ s):=by
 intro x hx hd;rw[GT,Bl]at hx;rcases hx with hx|hx
 ·exact h.mem.fine x hx hd
 ·obtain⟨l,hl,hxl⟩:=Iu.1 hx;obtain⟨y,hy,rfl⟩:=BV.1 hl;exact(h.tab y hy).1.fine x hxl hd
abbrev CH:=Int→Option (List AO)
def Gh(sb f c e:Nat)(gv:Int)(now:List AO)(lk:CH)(L:AH):Prop:=∃s m,AW sb f s m L∧Inv c e s m now lk∧s.given=gv
theorem Gh.more{sb f c c' e e':Nat}{gv:Int}{now:List AO}{lk:CH}{L:AH}(h:Gh sb f c e gv now lk L)(hc:c≤c')(he:e≤e')(hc1:c'≤1048576)(he1:e'≤262144):Gh sb f c' e' gv now lk L:=by
 obtain⟨s,m,h1,h2,h3⟩:=h;exact⟨s,m,h1,h2.more hc he hc1 he1,h3⟩
theorem Inv.rd{c e:Nat}{s:AM}{m:AJ}{now:List AO}{lk:CH}(h:Inv c e s m now lk):Hd s:=h.core.rd h.bud (by have:=h.e1;omega) (by have:=h.c1;omega)
theorem Inv.tabRise{c e:Nat}{s:AM}{m:AJ}{now:List AO}{lk:CH}(h:Inv c e s m now lk): ∀x∈s.tabs,Az x.2:=λx hx=>(h.core.tab x hx).1.rise
theorem PZ{w:World}{sb f c e:Nat}{gv:Int}{now:List AO}{lk:CH}{L:AH}(h:Gh sb f c e gv now lk L)(hh:Holds L w)(hG:Bp w (keys L)){a:Option Addr}{cp:Nat}{ops:List Ac}(ha:Arr w (keys L) a (ops.flatMap A8))(hl:Ap ops≤1099511627776)(he:e+ops.length≤262144)(hc:c+1≤1048576):
  Cl Tryz.prog OG [ptr sb,.slice a ops.length cp] w λv w'=>v= .int .i64 (if 4096<Ap ops then 2 else 0)∧ ∃L',Gh sb f (c+1) (e+ops.length) gv (if 4096<Ap ops then now else Cf now ops) lk L'∧St w (keys L) L' w':=by
 obtain⟨s,m,hO,hI,rfl⟩:=h;obtain⟨g,hg,hgl⟩:=hI.bud.log;have hcnt:=hI.core.cnt;have hsq:=hI.bud.seq;have had:=hI.core.adds;have hgn:=hgl.num;have hsz:An s.mem≤549755813888:=by
  have h1:=NK 4096 s.mem hI.core.mem.sz;have h2:4096*s.mem.length≤4096*262144:=Nat.mul_le_mul_left _ AA;omega
 refine(Pg hO hh hG ha hl hI.bud.ft AA AA hg AA hI.core.mem.rise hsz AA AA ⟨hI.core.seq,AA⟩ ?_).mono ?_
 ·intro g' m1 h1 h2 h3 h4;obtain⟨g2,m2,h5,h6,h7⟩:=SG hI h1 he hg;rw[h4]at h5;cases h5;exact rA h6 h7 hc he
 ·rintro v w'⟨r,s',m',L',hw,rfl,hO',hS⟩;obtain⟨rfl,h2,h3⟩:=zO hI he hc hw;exact⟨rfl,L',⟨s',m',hO',h2,h3⟩,hS⟩
theorem PY{w:World}{sb f c e:Nat}{gv:Int}{now:List AO}{lk:CH}{L:AH}(h:Gh sb f c e gv now lk L)(hh:Holds L w)(k to:AE):
  Cl Tryz.prog OF [ptr sb,AG k,AG to] w λv w'=>∃a cp Lv,v= .tuple ⟨[.slice a ((now.filter (Eh k to)).map DM).length cp,.int .i64 0]⟩∧AT Bn 3 a ((now.filter (Eh k to)).map DM).length cp (((now.filter (Eh k to)).map DM).flatMap A8) Lv∧St w (keys L) (Lv++L) w':=by
 obtain⟨s,m,hO,hI,rfl⟩:=h;refine(Ph hO hh k to hI.rd).mono ?_;rintro v w'(⟨hd, -⟩|⟨-,ops,hs,a,cp,Lv,rfl,hv,hS⟩)
 ·rw[hI.down]at hd;cases hd
 ·obtain rfl:=R3 hs hI.core.view;exact⟨a,cp,Lv,rfl,hv,hS⟩
def E6(lk:CH)(n:Int):Int:=if(lk n).isSome then 0 else 3
theorem bE{c e:Nat}{s:AM}{m:AJ}{now:List AO}{lk:CH}(h:Inv c e s m now lk)(n:Int):(DX s m n).2=E6 lk n∧(ID s m=s)∧((DX s m n).2=0→ ∃rs,lk n=some rs∧Bf (BZ s) (DX s m n).1 rs):=by
 have hd:=h.down;have hl:=h.core.looks n;unfold E6;rw[←RK h.core n];unfold C5 at hd;refine⟨?_,Ns h.down,?_⟩
 ·unfold DX;rw[hd];cases Al n s.seqs<;>rfl
 ·unfold DX;rw[hd];cases hk:Al n s.seqs with
  |none=>intro h0;cases h0
  |some q=>rw[hk]at hl;intro _;exact hl
theorem ZX{w:World}{sb f c e:Nat}{gv:Int}{now:List AO}{lk:CH}{L:AH}(h:Gh sb f c e gv now lk L)(hh:Holds L w)(n:Int)(k:AE)(hk:k.length≤1099511627776):
  Cl Tryz.prog Qe [ptr sb,.int .i64 n,AG k] w λv w'=>v= .tuple ⟨[AG ((FV ((lk n).getD []) k).getD []),.bool (FV ((lk n).getD []) k).isSome,.int .i64 (E6 lk n)]⟩∧ ∃L',Gh sb f c e gv now lk L'∧St w (keys L) L' w':=by
 obtain⟨s,m,hO,hI,rfl⟩:=h;obtain⟨h1,h2,h3⟩:=bE hI n;refine(Sy hO hh n k hk hI.rd).mono ?_;rintro v w'(⟨hd,rfl,L',hO',hS⟩|⟨hd,b,hb,rfl,L',hO',hS⟩)
 ·rw[h2]at hO';rw[h1]at hd⊢;have hn:lk n=none:=by
   unfold E6 at hd;cases hl:lk n with
   |none=>rfl
   |some rs=>rw[hl]at hd;exact absurd rfl hd
  rw[hn];exact⟨rfl,L',⟨s,m,hO',hI,rfl⟩,hS⟩
 ·obtain⟨rs,h4,h5⟩:=h3 hd;obtain⟨h6,h7⟩:=Qv hI.core.mem.rise hI.tabRise hI.core.one hI.core.fine hb h5;rw[←h1,hd,h6,h7,h4];exact⟨rfl,L',⟨s,m,hO',hI,rfl⟩,hS⟩
theorem ZY{w:World}{sb f c e:Nat}{gv:Int}{now:List AO}{lk:CH}{L:AH}(h:Gh sb f c e gv now lk L)(hh:Holds L w)(hc:c+1≤1048576):
  Cl Tryz.prog Qf [ptr sb] w λv w'=>v= .int .i64 (gv+1)∧ ∃L',Gh sb f (c+1) e (gv+1) now (λn=>if n=gv+1 then some now else lk n) L'∧St w (keys L) L' w':=by
 obtain⟨s,m,hO,hI,rfl⟩:=h;have hg:=hI.bud.given;refine(TP hO hh hI.core.given AA).mono ?_;rintro v w'⟨rfl,L',hO',hS⟩;exact⟨rfl,L',⟨_,m,hO',xM hI hc,rfl⟩,hS⟩
def Hu:CH:=λ_=>none
theorem vF{e:Nat}{s:AM}{m m':AJ}{s':AM}{ps:List AE}{now:List AO}(hd:s.dead=false)(hmem:Gf s.mem)(htab: ∀x∈s.tabs,B8 x.2∧x.2≠[])(hone:C1 (BZ s))(hnum:(BZ s).length≤e)(hnl:now.length≤e)(had:s.adds≤e)
  (hgd:DE (BJ s).v)(hf:(s.v.files.map (·.2)).Perm (s.tabs.map (·.1)))(hn:1≤s.v.next)(hn2:s.v.next≤1152921504606846976)(hvs:s.v.seq≤s.seq)(hs0:0≤s.seq)(htop: ∀x∈BZ s,x.s≤s.seq)(hgv:s.given=0)(hsq:s.seqs=[])(hh:s.hts.length≤1099511627776)(hv:Bf (BZ s) s.seq now)(ro:TF s m ps s' m'):
  BH e s' m' now Hu:=by
 have hst:=ro.st;have hall:=ro.all;subst hst;refine⟨hd,ro.up,hmem,htab,hone,hnum,hnl,had,hgd.good,hf,?_,?_,?_,?_,?_,hvs,hs0,htop,?_,?_,?_,hh,hv,?_⟩
 ·show 1≤s.v.next+2;omega
 ·show s.v.next<s.v.next+2;omega
 ·intro g hg;cases hg;exact⟨_,rfl⟩
 ·intro g hg;cases hg;rfl
 ·intro k h1 h2;have h1:s.v.next+2≤k:=h1;cases hq:AN m' (Aa k)with
  |none=>rfl
  |some x=>
   have hk:=hall (Aa k) (by rw[hq];rfl);rcases V8 hk with h|h|h|⟨n, -,h⟩
   ·exact absurd h (EB k).1
   ·exact absurd h (EG _ _)
   ·have h3:=KR ⟨AA,AA⟩ (⟨by show _≤s.v.next;omega,by show s.v.next≤_;omega⟩) h;have h3:k=s.v.next:=h3;omega
   ·exact absurd h (FH _ _)
 ·show 0≤s.given;omega
 ·intro x hx;have hx:x∈s.seqs:=hx;rw[hsq]at hx;cases hx
 ·show(s.seqs.map (·.1)).Nodup;rw[hsq];exact List.nodup_nil
 ·intro n;show match Al n s.seqs with
   |some q=>∃rs,Hu n=some rs∧Bf (BZ s) q rs
   |none=>Hu n=none
  rw[hsq]
  rfl
theorem Vo:DE ⟨[],1,3,0⟩:=⟨⟨⟨λf hf=>(by cases hf),List.nodup_nil⟩,AC,rfl⟩,AC,AC,AC,AC⟩
def Qu:AJ:=⟨[],[],0,0,false⟩
theorem S2{w:World}{f:Nat}{L:AH}(hF:BI f Qu L)(hh:Holds L w)(hG:Bp w (keys L)){a:Option Addr}{c:Nat}{hs:List Int}{mm fan:Int}(ha:Arr w (keys L) a (hs.map AY))(hhl:hs.length≤1099511627776):
  Cl Tryz.prog Qa [ptr f,.agg ⟨[.int .i64 mm,.int .i64 fan,.slice a hs.length c]⟩] w λr w'=>∃sb L',r= .tuple ⟨[ptr sb,.int .i64 0]⟩∧Gh sb f 1 0 0 [] Hu L'∧St w (keys L) L' w':=by
 have hB:FB 0 Qu:=⟨AV _,AV _,AV _,List.nodup_nil,λx hx=>(by cases hx),λx hx=>(by cases hx)⟩;have hU:Up Qu:=⟨rfl,rfl⟩;have hw:=Vo.whole;refine(TA (A:=0) (v:=Fa) (ts:=[]) (bs:=[]) hF hh hG ha hhl rfl (λw1 h1 _=>TN hF h1 rfl) (λb hb=>(by cases hb)) AC AC ⟨AC,AC⟩ hw.1 hw.2 AC (by have:=MZ hw.2 AC;exact Au this AC) hB AC AC).mono ?_;rintro v w'⟨e,s',m',hR,hO⟩;have hbp:Ab ([]:List (Int×List Ac))=[]:=rfl
 rw[hbp]at hR;have k1:(CK (Cc mm fan hs Fa []) []).v=Fa:=rfl;have k2:(CK (Cc mm fan hs Fa []) []).mem=[]:=rfl;have k3:(CK (Cc mm fan hs Fa []) []).tabs=[]:=rfl;have k4:(CK (Cc mm fan hs Fa []) []).seq=0:=rfl;have k5:(CK (Cc mm fan hs Fa []) []).given=0:=rfl;have k6:(CK (Cc mm fan hs Fa []) []).seqs=[]:=rfl;have k7:(CK (Cc mm fan hs Fa []) []).dead=false:=rfl;have k8:(CK (Cc mm fan hs Fa []) []).hts=hs:=rfl
 have k9:(CK (Cc mm fan hs Fa []) []).adds=0:=rfl;generalize CK (Cc mm fan hs Fa []) []=s0 at hR k1 k2 k3 k4 k5 k6 k7 k8 k9;have kg:DE (BJ s0).v:=by unfold BJ;rw[k1];exact Vo
 have kl:(Ay (BJ s0).v).length≤4196:=by rw[JP];exact N5 kg.num
 have kE:BZ s0=[]:=by rw[GT];unfold D1;rw[k2,k3];rfl
 obtain⟨rfl,ro,hft⟩:=Xq (A:=0) (T:=536870912) (Nf:=0) hU ⟨hB,λx hx=>(by cases hx),λx hx=>(by cases hx)⟩ AC kg (by rw[k1];decide) rfl AC (AV _) hR;rcases hO with⟨-,sb,L',rfl,hO,hS⟩|⟨he, -⟩
 ·have hst:=ro.st;refine⟨sb,L',rfl,⟨s',m',hO,⟨?_,?_,AC,AC⟩,?_⟩,hS⟩
  ·exact vF k7 (by rw[k2];exact⟨List.Pairwise.nil,λx hx=>(by cases hx),λx hx=>(by cases hx),λx hx=>(by cases hx),Ag _⟩) (by rw[k3];intro x hx;cases hx) (by rw[kE];exact List.Pairwise.nil) (by rw[kE];exact AV _) (AV _) (by rw[k9];exact AV _) kg (by rw[k1,k3];exact List.Perm.refl _) (by rw[k1];decide) (by rw[k1];decide) (by rw[k1,k4];decide) (by rw[k4];decide) (by rw[kE];intro x hx;cases hx) k5 k6 (by rw[k8];exact hhl) (by rw[kE];exact Bf.nil _) ro
  ·refine⟨hft.mono AC AC,?_,?_,?_,?_,?_,?_⟩
   ·rw[hst];show s0.v.next+2≤_;rw[k1];decide
   ·rw[hst];show s0.seq≤_;rw[k4];decide
   ·rw[hst];show s0.given≤_;rw[k5];decide
   ·rw[hst];show s0.seqs.length≤_;rw[k6];decide
   ·rw[hst];exact⟨_,rfl,rfl,rfl,HR (by rw[k1];exact⟨AC,AC⟩),by simp only;omega⟩
   ·rw[hst];exact⟨_,rfl,rfl,rfl,Hs (by rw[k1];exact⟨AC,AC⟩),Ag _⟩
  ·rw[hst];exact k5
 ·exact absurd rfl he
theorem Bp.part{w0 w:World}{T:List Nat}{H L:AH}{F:AH→AH}(h:Bp w0 T)(hS:St w0 T H w) [hc:Chunk H L F]:Bp w (keys L):=(h.step hS).sub λb hb=>by
 obtain⟨X,Y,h1, -⟩:=hc.at_;rw[h1];unfold keys at hb⊢;rw[A7,A7];exact FC _ (EO _ hb)
theorem I6(l:List AO):(l.map DM).length=l.length:=BM ..
set_option maxRecDepth 8000 in
theorem WO{w:World}(hG:Bp w []):Cl Tryz.prog qC [] w λv w'=>v= .bool true∧St w [] [] w':=by
 have hS:=St.start w;refine kN rfl ?_;(repeat(refine jt ⟨?_⟩;refine hS.q ?_;intro _ hS));refine jt ⟨?_⟩;refine NZ.mono ?_;rintro _ w1⟨f,L0,rfl, -,hF,hS'⟩;have hS:=hS.callNew hS';rw[BU]at hS;(repeat(refine jt ⟨?_⟩;refine hS.q ?_;intro _ hS));refine jt ⟨?_⟩;refine Cl.mono (S2 (hs:=[]) (mm:=2) (fan:=1) (c:=0) (a:=none) hF hS.holds (hG.step hS) (Arr.nil _ _ _) AC) ?_;rintro _ w2⟨sb,L1,rfl,hK,hS'⟩;have hS:=hS.call (L:=L0) hS'
 (repeat(refine jt ⟨?_⟩;refine hS.q ?_;intro _ hS));refine jt ⟨?_⟩;refine hS.al ?_;intro r w3 _ hS;(repeat(refine jt ⟨?_⟩;refine hS.q ?_;intro _ hS));refine jt ⟨?_⟩;refine Cl.mono (PZ (ops:=[([97],false,[49]),([98],false,[50])]) (cp:=2) hK (hS.part (L:=L1)) (hG.part hS (L:=L1)) (hS.arr (b:=r) (Cp hS)) AC AC AC) ?_;rintro _ w4⟨rfl,L2,hK,hS'⟩;have hS:=(hS.call (L:=L1) hS').sub (AS _ _);rw[if_neg AC]at hK
 rw[if_neg AC];(repeat(refine jt ⟨?_⟩;refine hS.q ?_;intro _ hS));refine jt ⟨?_⟩;refine Cl.mono (ZY hK hS.holds AC) ?_;rintro _ w5⟨rfl,L3,hK,hS'⟩;have hS:=hS.call (L:=L2) hS';(repeat(refine jt ⟨?_⟩;refine hS.q ?_;intro _ hS));refine jt ⟨?_⟩;refine hS.al ?_;intro r2 w6 _ hS;(repeat(refine jt ⟨?_⟩;refine hS.q ?_;intro _ hS));refine jt ⟨?_⟩;refine Cl.mono (PZ (ops:=[([97],true,[]),([99],false,[51])]) (cp:=2) hK (hS.part (L:=L3)) (hG.part hS (L:=L3)) (hS.arr (b:=r2) (Cp hS)) AC AC AC) ?_
 rintro _ w7⟨rfl,L4,hK,hS'⟩;have hS:=(hS.call (L:=L3) hS').sub (AS _ _);rw[if_neg AC]at hK;rw[if_neg AC];(repeat(refine jt ⟨?_⟩;refine hS.q ?_;intro _ hS));refine jt ⟨?_⟩;refine Cl.mono (PY hK hS.holds [] []) ?_;rintro _ w8⟨a8,c8,Lv,rfl,hv,hS'⟩;have hS:=hS.call (L:=L4) hS';(repeat(refine jt ⟨?_⟩;refine hS.q ?_;intro _ hS));refine jt ⟨?_⟩;refine Cl.mono (ZX hK (hS.part (L:=L4)) (0+1) [97] AC) ?_;rintro v w9⟨hvv,L5,hK,hS'⟩
 have hvv:v= .tuple ⟨[AG [49],.bool true,.int .i64 0]⟩:=hvv.trans rfl;subst hvv;have hS:=hS.call (L:=L4) hS';(repeat(refine jt ⟨?_⟩;refine hS.q ?_;intro _ hS));refine jt ⟨?_⟩;refine hS.al ?_;intro r3 w10 _ hS;(repeat(refine jt ⟨?_⟩;refine hS.q ?_;intro _ hS));refine jt ⟨?_⟩;refine Cl.mono (Kb (m:=[([98],false,[50]),([99],false,[51])]) (hv.arr hS AB) (hS.arr (b:=r3) (T':=[]) AB) AC AC) ?_;rintro v w11⟨hvv,hS'⟩
 have hvv:v= .bool true:=hvv.trans (congrArg Value.bool AC);subst hvv;have hS:=hS.call0 hS';(repeat(refine jt ⟨?_⟩;refine hS.q ?_;intro _ hS));refine jt ⟨?_⟩;exact⟨rfl,hS.nil⟩
def PS(w:World)(a:Option Addr)(bss:List (List Ac)):Prop:=∀j(h:j<bss.length),∃g off a' c',a=some ⟨g,off,none⟩∧w.cell? ⟨g,off+j,none⟩=some (.slice a' bss[j].length c')∧Arr w [] a' (bss[j].flatMap A8)
theorem PS.keep{w w':World}{H:AH}{a:Option Addr}{bss:List (List Ac)}(h:PS w a bss)(hS:St w [] H w'):PS w' a bss:=λj hj=>by
 obtain⟨g,off,a',c',h1,h2,h3⟩:=h j hj;exact⟨g,off,a',c',h1,hS.oldCell (a:=⟨g,off+j,none⟩) AB h2,hS.arrOld h3⟩
theorem Bt.arrO{β:Type}{sz:Nat}{R:CT β}{W:World}{a:Option Addr}{n cap:Nat}{xs:List β}{cv:β→List Value}(h:Bt sz R W [.slice a n cap] xs)(hR: ∀cs x,R W cs x→cs=cv x)(hc: ∀x,(cv x).length=sz)(h0:0<sz):Arr W [] a (xs.flatMap cv):=by
 intro j v hj;have hjl:j<xs.length*sz:=by
  have:=(FR.1 hj).1;rwa[Kq hc]at this
 have hi:j / sz<xs.length:=Nat.div_lt_of_lt_mul (by rw[HM];exact hjl);obtain⟨b,off,cs,h1,h2,h3,h4⟩:=h.at hi;have hcs:=hR _ _ h4;have hat:=Mi hc xs [] (j / sz) hi;rw[BU,←hcs]at hat;refine⟨b,off,h1,AB,?_⟩;have hr:j % sz<sz:=FP _ h0;have hdm:j / sz*sz+j % sz=j:=by rw[HM];exact Nat.div_add_mod j sz
 have hv:cs[j % sz]?=some v:=by
  rw[←hat,IM,if_pos hr,It,hdm];exact hj
 have:=h3 _ _ hv;rw[hdm]at this;exact this
theorem Bt.intsO{W:World}{a:Option Addr}{n cap:Nat}{xs:List Int}(h:Bt 1 (HD .i64) W [.slice a n cap] xs):Arr W [] a (xs.map AY):=by
 have:=h.arrO (cv:=λz=>[AY z]) (λcs x hx=>hx.1) (λ_=>rfl) AC;have e: ∀l:List Int,l.flatMap (λz=>[AY z])=l.map AY:=λl=>by induction l<;>simp_all
 rwa[e]at this
def Nb:CT Ac:=λ_ cs o=>cs=A8 o
structure H9 where
 kind:Int
 n:Int
 key:AE
 to:AE
 ops:List Ac
 fates:List (Int×Int)
 keep:List Int
def MI:CT H9:=λW cs x=>∃vo vf vk,cs=[.int .i64 x.kind,.int .i64 x.n,AG x.key,AG x.to,vo,vf,vk]∧Bt 3 Nb W [vo] x.ops∧Bt 2 (Ij 1 (HD .i64) (HD .i64)) W [vf] x.fates∧Bt 1 (HD .i64) W [vk] x.keep∧Kv x.n
def Qj(x:Int×Int):List Value:=[AY x.1,AY x.2]
theorem qQ{W:World}{a:Option Addr}{n cap:Nat}{xs:List (Int×Int)}(h:Bt 2 (Ij 1 (HD .i64) (HD .i64)) W [.slice a n cap] xs):Arr W [] a (xs.flatMap Qj):=by
 refine h.arrO (cv:=Qj) (λcs x hx=>?_) (λ_=>rfl) AC;obtain⟨e1, -,h2⟩:=M7 hx;have h2:cs.drop 1=[.int .i64 x.2]:=h2.1;rw[e1,h2];rfl
theorem wZ{w0 w:World}{H:AH}(hS:St w0 [] H w){a:Option Addr}{n cap:Nat}{scr:List H9}(h:Bt 7 MI w0 [.slice a n cap] scr){k:Nat}(hk:k<scr.length):
  ∃b off ao co af cf ak ck,a=some ⟨b,off,none⟩∧(∀K:List Value→Prop,K [.int .i64 scr[k].kind,.int .i64 scr[k].n,AG scr[k].key,AG scr[k].to,.slice ao scr[k].ops.length co,.slice af scr[k].fates.length cf,.slice ak scr[k].keep.length ck]→GN (λw'=>w=w') 7 b (off+k*7) K)∧
   Arr w0 [] ao (scr[k].ops.flatMap A8)∧Arr w0 [] af (scr[k].fates.flatMap Qj)∧Arr w0 [] ak (scr[k].keep.map AY)∧Kv scr[k].n:=by
 obtain⟨b,off,cs,h1,⟨vo,vf,vk,rfl,h2,h3,h4,h5⟩,h6⟩:=h.ldn hS hk;obtain⟨ao,co,rfl, -, -,h2⟩:=h2.inv;obtain⟨af,cf,rfl, -, -,h3⟩:=h3.inv;obtain⟨ak,ck,rfl, -, -,h4⟩:=h4.inv;exact⟨b,off,ao,co,af,cf,ak,ck,h1,h6,h2.arrO (cv:=A8) (λ_ _ h=>h) (λ_=>rfl) AC,qQ h3,h4.intsO,h5⟩
def F7(scr:List H9):Nat:=(scr.map λx=>x.ops.length).sum
theorem cD(scr:List H9)(k:Nat)(hk:k<scr.length):F7 (scr.take (k+1))=F7 (scr.take k)+scr[k].ops.length:=by
 unfold F7;rw[Bs hk,A7,IL];simp
theorem cC(scr:List H9)(k:Nat):F7 (scr.take k)≤F7 scr:=by
 have:F7 scr=F7 (scr.take k)+F7 (scr.drop k):=by
  unfold F7;rw[←IL,←A7,CO]
 omega
end Go.Proofs.YtkgibdhpijdbfaaGreatDoor
namespace Go.Proofs.YtkgibdhpijdbfaaGreatDoor
open Go Go.Eng Go.Proofs Go.RowKit
theorem Uq: "*" ++ "errors.errorString" = "*errors.errorString" :=AC
theorem Uo(u:TypeId)(h:Tryz.prog.typeName? 3 u=some "*errors.errorString"):u=347:=
 typeName_ptr_named (nm:= "errors.errorString") (by rw[Uq];kernel_rfl) AD AC u (by rw[Uq];exact h)
theorem Ur{r:List (String×DataW Unit)}{W:World}(h:laidMet Tryz.prog (("strconv.ErrRange", Rows.laid_strconv_ErrRange)::("strconv.ErrSyntax", Rows.laid_strconv_ErrSyntax)::r) W):H1 W:=by
 obtain⟨f,hf,hft,hfo⟩: ∃f:Field,Tryz.prog.underlying 349=some (.struct #[f])∧f.type=9∧f.offset=0:=⟨⟨"s", 9,0,false, "", "errors", 0⟩,AD,rfl,rfl⟩;have hi:Tryz.prog.underlying 194=some (.interface (Tryz.prog.methodsAt 194)):=AD;have g1:Tryz.prog.globalNamed "strconv.ErrRange" =some Me:=AD;have g0:Tryz.prog.globalNamed "strconv.ErrSyntax" =some Mc:=AD;obtain⟨a1,s1,hv1, -, -, -⟩:=laid_sentinel h g1 (ti:=194) AD hi Uo (te:=349) AD hf hft hfo AD AD AD
 obtain⟨a0,s0,hv0, -, -, -⟩:=laid_sentinel h.tail g0 (ti:=194) AD hi Uo (te:=349) AD hf hft hfo AD AD AD;exact⟨⟨_,_,by have h0:=World.var?_cell g0 hv0 0;simpa using h0⟩,⟨_,_,by have h0:=World.var?_cell g1 hv1 0;simpa using h0⟩⟩
end Go.Proofs.YtkgibdhpijdbfaaGreatDoor
namespace Go.Proofs.YtkgibdhpijdbfaaGreatDoor
open Go Go.Eng Go.Proofs Go.Srt
open Go.ChangeShapes Go.WideShapes Go.ChangeAt Go.RowKit
def Ga(o:Ac):Nat:=o.1.length+o.2.2.length+4
theorem vI:Bm Tryz.prog Bn Nb Ga:=by
 refine Bm.map (Bm.struct (sz:=3) Tryz.underlying30 AD (ES.cons (s:=1) rfl AD (Bm.str Tryz.underlying9) (ES.cons (s:=1) rfl AD (Bm.bool Tryz.underlying4) (ES.cons (s:=1) rfl AD (Bm.str Tryz.underlying9) ES.nil))))
  (λx=>(x.1,x.2.1,x.2.2.1)) ?_ (λx=>by unfold Ga;(try simp only);omega)
 intro W cs x h;obtain⟨e1,h⟩:=Oq h;obtain⟨e2,h⟩:=vU h;obtain⟨e3,h⟩:=Oq h;have h:(((cs.drop 1).drop 1).drop 1)=[]:=h;rw[h]at e3;rw[e3]at e2;rw[e2]at e1;exact e1
def Tu(b:List Ac):Nat:=(b.map Ga).sum+1
theorem XD:Bm Tryz.prog TY (Bt 3 Nb) Tu:=
 Bm.slice Tryz.underlying27 (show Tryz.prog.cellsOf Bn=3 by kernel_rfl) AC vI
theorem Rb: ∀(b:List Ac),4*b.length≤(b.map Ga).sum∧Ap b≤4*(b.map Ga).sum
 |[]=>⟨AV _,AV _⟩
 |o::b=>by
  obtain⟨h1,h2⟩:=Rb b;have e1:((o::b).map Ga).sum=Ga o+(b.map Ga).sum:=AB;have e2:Ap (o::b)=D9 o+Ap b:=by unfold Ap;simp
  have e3:D9 o≤4*Ga o∧4≤Ga o:=by unfold D9 Ga;omega
  rw[Ai];omega
def Zm:CT (Int×Int×List Int):=λW cs s=>∃v,cs=[.int .i64 s.1,.int .i64 s.2.1,v]∧Bt 1 (HD .i64) W [v] s.2.2
theorem vL:Bm Tryz.prog Pq Zm (λs=>s.2.2.length+4):=by
 have hs: ∀l:List Int,(l.map λ_=>1).sum=l.length:=λl=>by
  induction l with
  |nil=>rfl
  |cons a l ih=>rw[A4,HL,ih,Ai,Nat.add_comm]
 refine Bm.map (Bm.struct (sz:=3) Tryz.underlying24 AD (ES.cons (s:=1) rfl AD (Bm.int Tryz.underlying3) (ES.cons (s:=1) rfl AD (Bm.int Tryz.underlying3) (ES.cons (s:=1) rfl AD (Bm.slice Tryz.underlying22 (show Tryz.prog.cellsOf BP=1 by kernel_rfl) AC (Bm.int Tryz.underlying3)) ES.nil))))
  (λx=>(x.1,x.2.1,x.2.2.1)) ?_ (λx=>by(try simp only[hs]);omega)
 intro W cs x h;obtain⟨e1, -,h⟩:=M7 h;obtain⟨e2, -,h⟩:=M7 h;obtain⟨v,e3,h3,h⟩:=Oo h;have h:(((cs.drop 1).drop 1).drop 1)=[]:=h;rw[h]at e3;rw[e3]at e2;rw[e2]at e1;exact⟨v,e1,h3⟩
theorem XC{H:Type}{enc:TypeId×Value→H}{W:World}{v:Value}{d:DataW H}{p:List MemPlace}(hd:DataW.Trod enc Tryz.prog W 0 (λ_=>true) true Pq v d p):
  ∃(mm fan:Int)(hs:List Int)(a:Option Addr)(c:Nat),v= .agg ⟨[.int .i64 mm,.int .i64 fan,.slice a hs.length c]⟩∧Arr W [] a (hs.map AY)∧hs.length+4≤Rows.uptoBulk d:=by
 obtain⟨⟨mm,fan,hs⟩,⟨u,hcs,h1⟩,hb⟩:=Trod.out hd vL;obtain⟨a,c,rfl, -, -,h2⟩:=h1.inv;refine⟨mm,fan,hs,a,c,?_,h2.intsO,hb⟩;cases v with
 |agg cs=>cases cs;simp only[Value.cells]at hcs;rw[hcs]
 |_=>simp[Value.cells]at hcs
theorem Vn{W:World}(h1:F1 W)(h2:H1 W):Bp W []:=⟨h2,h1,AB,AB,AB⟩
end Go.Proofs.YtkgibdhpijdbfaaGreatDoor
namespace Go.Proofs.YtkgibdhpijdbfaaGreatDoor
open Go Go.Eng Go.Proofs Go.Srt
theorem T8{w:World}{T:List Nat}{g off i j:Nat}{xs:List Value}(ha:Arr w T (some ⟨g,off,none⟩) xs){v:Value}(hx:xs[j]?=some v)(hi:i=off+j:=by first|rfl|omega):w.cell? ⟨g,i,none⟩=some v:=by
 obtain⟨b',off',h1, -,h3⟩:=ha j v hx;simp only[Option.some.injEq,Addr.mk.injEq,and_true]at h1;obtain⟨rfl,rfl⟩:=h1;subst hi;exact h3
theorem Q6(now:List AO):now.filter (Eh [] [])=now:=by
 rw[J4];intro r _;unfold Eh;rw[P5];rfl
theorem sD(now:List AO)(fr to:AE):(now.map DM).filter (EZ fr to)=(now.filter (Eh fr to)).map DM:=by
 rw[List.filter_map];rfl
end Go.Proofs.YtkgibdhpijdbfaaGreatDoor
