/- Texts of this claim, one behind the other. -/
import Derived.Test.YtkgibdhpijdbfaaGreatDoorZ36
import Derived.Test.YtkgibdhpijdbfaaGreatDoorZ39
import Derived.Test.YtkgibdhpijdbfaaGreatDoorZ37
import Derived.Test.YtkgibdhpijdbfaaGreatDoorZ38
import Derived.Test.YtkgibdhpijdbfaaGreatDoorZ14
import Derived.Test.YtkgibdhpijdbfaaGreatDoorZ28
import Derived.Test.YtkgibdhpijdbfaaGreatDoorZ13
import Derived.Test.YtkgibdhpijdbfaaGreatDoorZ5
import Derived.Test.YtkgibdhpijdbfaaGreatDoorRows
import Derived.Test.YtkgibdhpijdbfaaGreatDoorZ6
import Derived.Test.YtkgibdhpijdbfaaGreatDoorZ35
import Derived.JoinedOf
set_option linter.unusedVariables false
set_option linter.unusedSimpArgs false
set_option maxHeartbeats 16000000
namespace Go.Proofs.YtkgibdhpijdbfaaGreatDoor
open Go Go.Eng Go.Proofs Go.Srt
theorem QP(x:AF)(k:AE)(q:Int):EV x k q=true↔Op.bytesLess x.k k=true∨(x.k=k∧q<x.s):=by unfold EV;simp
theorem Vi{l:List AF}{k:AE}{q:Int}{y:AF}(hy:y∈l)(hk:y.k=k)(hq:y.s≤q):y∈Bp k q l:=by
 rw[←GG k q l]at hy;rcases Bk.1 hy with h|h
 ·exfalso;rcases(QP y k q).1 (NS k q l y h)with h1|⟨-,h1⟩
  ·rw[hk,F4]at h1;cases h1
  ·omega
 ·exact h
theorem Qt(k:AE)(q:Int)(l:List AF):(Bp k q l).Sublist l:=by
 have:=Ai (CY k q l) (Bp k q l);rwa[GG]at this
theorem Vm{l:List AF}(hr:Az l){k:AE}{q:Int}{x:AF}(h:DE l k q=some x):Cy l k q x:=by
 unfold DE at h;cases hf:Bp k q l with
 |nil=>rw[hf]at h;cases h
 |cons z r=>
  rw[hf]at h;simp only at h
  split at h
  ·rename_i hz;cases h;have hge:=Ky hr (k:=k) (s:=q);rw[hf]at hge;have hz1:=hge x AB;have hzq:x.s≤q:=by
    rcases Int.lt_or_le q x.s with h1|h1
    ·rw[(QP x k q).2 (.inr ⟨hz,h1⟩)]at hz1;cases hz1
    ·exact h1
   have hrf:Az (x::r):=by rw[←hf];exact hr.sublist (Qt k q l)
   refine⟨(Qt k q l).mem (by rw[hf];simp),hz,hzq,λy hy h1 h2=>?_⟩;have hyf:=Vi hy h1 h2;rw[hf]at hyf;rcases As.1 hyf with rfl|hyf
   ·exact EZ _
   ·rcases(In x y).1 ((DQ.1 hrf).1 y hyf)with h3|⟨-,h3⟩
    ·rw[hz,h1,F4]at h3;cases h3
    ·omega
  ·cases h
theorem Vl{l:List AF}(hr:Az l){k:AE}{q:Int}{y:AF}(hy:y∈l)(hk:y.k=k)(hq:y.s≤q): ∃x,DE l k q=some x:=by
 have hyf:=Vi hy hk hq;unfold DE;cases hf:Bp k q l with
 |nil=>rw[hf]at hyf;cases hyf
 |cons z r=>
  rw[hf]at hyf;have hge:=Ky hr (k:=k) (s:=q);rw[hf]at hge;have hz1:=hge z AB;have hrf:Az (z::r):=by rw[←hf];exact hr.sublist (Qt k q l)
  have hzk:z.k=k:=by
   rcases As.1 hyf with rfl|hyf
   ·exact hk
   ·rcases(In z y).1 ((DQ.1 hrf).1 y hyf)with h3|⟨h3, -⟩
    ·rw[hk]at h3;rw[(QP z k q).2 (.inl h3)]at hz1;cases hz1
    ·rw[h3,hk]
  exact⟨z,by simp[hzk]⟩
theorem bP{s:AL}(hm:Az s.mem)(ht: ∀x∈s.tabs,Az x.2){k:AE}{q:Int}{b:Option AF}(h:MJ s k q b):match b with
  |some x=>Cy (BS s) k q x
  |none=>∀y∈BS s,y.k=k→ ¬y.s≤q:=by
 have hin: ∀y∈BS s,∃l,Az l∧y∈l∧(∀z∈l,z∈BS s)∧DE l k q∈(DE s.mem k q::s.tabs.map λx=>DE x.2 k q):=by
  intro y hy;rw[GT,Bk]at hy;rcases hy with hy|hy
  ·exact⟨s.mem,hm,hy,λz hz=>by rw[GT];exact Eg _ hz,AB⟩
  ·obtain⟨l,hl,hyl⟩:=Iw.1 hy;obtain⟨x,hx,rfl⟩:=BU.1 hl;exact⟨x.2,ht x hx,hyl,λz hz=>by rw[GT];exact FN _ (Iw.2 ⟨x.2,hl,hz⟩),CH _ (BU.2 ⟨x,hx,rfl⟩)⟩
 cases b with
 |none=>
  intro y hy hk hq;obtain⟨l,hr,hyl, -,hc⟩:=hin y hy;obtain⟨x,hx⟩:=Vl hr hyl hk hq;have:=h.non rfl _ hc;rw[hx]at this;cases this
 |some x=>
  have hx:=h.mem x rfl;have hlook: ∃l,Az l∧(∀z∈l,z∈BS s)∧DE l k q=some x:=by
   rcases As.1 hx with hx|hx
   ·exact⟨s.mem,hm,λz hz=>by rw[GT];exact Eg _ hz,hx.symm⟩
   ·obtain⟨y,hy,he⟩:=BU.1 hx;exact⟨y.2,ht y hy,λz hz=>by rw[GT];exact FN _ (Iw.2 ⟨y.2,CC hy,hz⟩),he⟩
  obtain⟨l,hr,hl,hg⟩:=hlook;have hL:=Vm hr hg;refine⟨hl x hL.mem,hL.key,hL.le,λy hy hk hq=>?_⟩;obtain⟨l',hr',hyl, -,hc⟩:=hin y hy;obtain⟨z,hz⟩:=Vl hr' hyl hk hq;rw[hz]at hc;have h1:=h.top x rfl z hc;have h2:=(Vm hr' hz).top y hyl hk hq;omega
def FP(rs:List AO)(k:AE):Option AE:=(rs.find? λr=>decide (r.1=k)).map (·.2)
theorem tH{rs:List AO}(hr:rs.Pairwise EP){k v:AE}(h:(k,v)∈rs):FP rs k=some v:=by
 unfold FP
 induction rs with
 |nil=>cases h
 |cons r rs ih=>
  have hp:=DQ.1 hr;rw[List.find?_cons];by_cases hk:r.1=k
  ·rw[decide_eq_true hk];rcases As.1 h with h|h
   ·rw[←h];rfl
   ·have:=hp.1 _ h;unfold EP at this;rw[hk,F4]at this;cases this
  ·rw[decide_eq_false hk];rcases As.1 h with h|h
   ·rw[←h]at hk;exact absurd rfl hk
   ·exact ih hp.2 h
theorem WU{rs:List AO}{k:AE}(h: ∀v,(k,v)∉rs):FP rs k=none:=by
 unfold FP;rw[List.find?_eq_none.2 λr hr=>?_]
 ·rfl
 ·simp only[decide_eq_true_eq];rintro rfl;exact h r.2 hr
theorem Qv{s:AL}(hm:Az s.mem)(ht: ∀x∈s.tabs,Az x.2)(h1:Cz (BS s))(hf:Kg (BS s)){k:AE}{q:Int}{b:Option AF}(h:MJ s k q b){rs:List AO}(hv:Be (BS s) q rs):MB b=(FP rs k).getD []∧LO b=(FP rs k).isSome:=by
 have hl:=bP hm ht h;cases b with
 |none=>
  simp only at hl;rw[WU λv hin=>by
   obtain⟨x,hx, -⟩:=(hv.all k v).1 hin;exact hl x hx.mem hx.key hx.le]
  exact⟨rfl,rfl⟩
 |some x=>
  simp only at hl;cases hd:x.d with
  |false=>
   rw[tH hv.rise ((hv.all k x.v).2 ⟨x,hl,hd,rfl⟩)];unfold MB LO;simp[hd]
  |true=>
   rw[WU λv hin=>by
    obtain⟨y,hy,hyd, -⟩:=(hv.all k v).1 hin;rw[hy.uniq h1 hl,hd]at hyd;cases hyd]
   unfold MB LO;simp[hd,hf x hl.mem hd]
def Ef(fr to:AE)(r:AO):Bool:= !Op.bytesLess r.1 fr&&(decide (to=[])||Op.bytesLess r.1 to)
theorem yJ{l:List AO}(hr:l.Pairwise EP)(to:AE):l.takeWhile (λr=>decide (to=[])||Op.bytesLess r.1 to)=l.filter λr=>decide (to=[])||Op.bytesLess r.1 to:=by
 induction l with
 |nil=>rfl
 |cons r l ih=>
  have hp:=DQ.1 hr;rw[List.takeWhile_cons,List.filter_cons];by_cases h:(decide (to=[])||Op.bytesLess r.1 to)=true
  ·rw[if_pos h,if_pos h,ih hp.2]
  ·rw[if_neg h,if_neg h]
   symm
   rw[List.filter_eq_nil_iff];intro y hy h2;rw[Bool.or_eq_true]at h h2;rcases h2 with h2|h2
   ·exact h (.inl h2)
   ·exact h (.inr (JQ _ _ _ (hp.1 y hy) h2))
theorem Rz{s:AL}{k to:AE}{q:Int}{ops:List Ac}(h:Nl s k to q ops){rs:List AO}(hv:Be (BS s) q rs):ops=(rs.filter (Ef k to)).map Dh:=by
 obtain⟨r,hp,hr,rfl⟩:=h;have hmem: ∀x,x∈r↔x∈BS s∧Op.bytesLess x.k k=false:=λx=>by rw[hp.mem_iff,List.mem_filter];simp
 have hlk: ∀κ x,Op.bytesLess κ k=false→(Cy r κ q x↔Cy (BS s) κ q x):=λκ x hk=>by
  constructor
  ·intro hx;exact⟨((hmem x).1 hx.mem).1,hx.key,hx.le,λy hy h1 h2=>hx.top y ((hmem y).2 ⟨hy,by rw[h1];exact hk⟩) h1 h2⟩
  ·intro hx;exact⟨(hmem x).2 ⟨hx.mem,by rw[hx.key];exact hk⟩,hx.key,hx.le,λy hy h1 h2=>hx.top y ((hmem y).1 hy).1 h1 h2⟩
 have hv2:Be r q (rs.filter λp=> !Op.bytesLess p.1 k):=by
  refine⟨hv.rise.sublist List.filter_sublist,λκ v=>?_⟩;rw[List.mem_filter,hv.all κ v];constructor
  ·rintro⟨⟨x,hx,h2⟩,hk⟩;exact⟨x,(hlk κ x (by simpa using hk)).2 hx,h2⟩
  ·rintro⟨x,hx,h2⟩;have hk:=((hmem x).1 hx.mem).2;rw[hx.key]at hk;exact⟨⟨x,(hlk κ x hk).1 hx,h2⟩,by simp[hk]⟩
 have he:=(y8 hr q).uniq hv2;have h1: ∀l:List AF,(HU to l).map HR=((l.map Ob).takeWhile λr=>decide (to=[])||Op.bytesLess r.1 to).map Dh:=by
  intro l;unfold HU;rw[List.takeWhile_map,Fo]
  rfl
 rw[h1,he,yJ (hv.rise.sublist List.filter_sublist),List.filter_filter]
 congr 2
 funext p
 unfold Ef;exact Bool.and_comm _ _
abbrev CT:=Int→Option (List AO)
def Hd(sb f c e:Nat)(gv:Int)(now:List AO)(lk:CT)(L:AH):Prop:=∃s m,AV sb f s m L∧Inv c e s m now lk∧s.given=gv
theorem Hd.more{sb f c c' e e':Nat}{gv:Int}{now:List AO}{lk:CT}{L:AH}(h:Hd sb f c e gv now lk L)(hc:c≤c')(he:e≤e')(hc1:c'≤1048576)(he1:e'≤262144):Hd sb f c' e' gv now lk L:=by
 obtain⟨s,m,h1,h2,h3⟩:=h;exact⟨s,m,h1,h2.more hc he hc1 he1,h3⟩
theorem Inv.rd{c e:Nat}{s:AL}{m:AJ}{now:List AO}{lk:CT}(h:Inv c e s m now lk):H9 s:=h.core.rd h.bud (by have:=h.e1;omega) (by have:=h.c1;omega)
theorem Inv.tabRise{c e:Nat}{s:AL}{m:AJ}{now:List AO}{lk:CT}(h:Inv c e s m now lk): ∀x∈s.tabs,Az x.2:=λx hx=>(h.core.tab x hx).1.rise
theorem Sx{w:World}{sb f c e:Nat}{gv:Int}{now:List AO}{lk:CT}{L:AH}(h:Hd sb f c e gv now lk L)(hh:Holds L w)(hG:Bw w (keys L)){a:Option Addr}{cp:Nat}{ops:List Ac}(ha:Arr w (keys L) a (ops.flatMap A8))(hl:Av ops≤1099511627776)(he:e+ops.length≤262144)(hc:c+1≤1048576):
  Cl Tryz.prog Qf [ptr sb,.slice a ops.length cp] w λv w'=>v= .int .i64 (if 4096<Av ops then 2 else 0)∧ ∃L',Hd sb f (c+1) (e+ops.length) gv (if 4096<Av ops then now else Ch now ops) lk L'∧St w (keys L) L' w':=by
 obtain⟨s,m,hO,hI,rfl⟩:=h;obtain⟨g,hg,hgl⟩:=hI.bud.log;have hcnt:=hI.core.cnt;have hsq:=hI.bud.seq;have had:=hI.core.adds;have hgn:=hgl.num;have hsz:An s.mem≤549755813888:=by
  have h1:=PG 4096 s.mem hI.core.mem.sz;have h2:4096*s.mem.length≤4096*262144:=KF _ AA;omega
 refine(TD hO hh hG ha hl hI.bud.ft AA AA hg AA hI.core.mem.rise hsz AA AA ⟨hI.core.seq,AA⟩ ?_).mono ?_
 ·intro g' m1 h1 h2 h3 h4;obtain⟨g2,m2,h5,h6,h7⟩:=SD hI h1 he hg;rw[h4]at h5;cases h5;exact rA h6 h7 hc he
 ·rintro v w'⟨r,s',m',L',hw,rfl,hO',hS⟩;obtain⟨rfl,h2,h3⟩:=zK hI he hc hw;exact⟨rfl,L',⟨s',m',hO',h2,h3⟩,hS⟩
theorem Zd{w:World}{sb f c e:Nat}{gv:Int}{now:List AO}{lk:CT}{L:AH}(h:Hd sb f c e gv now lk L)(hh:Holds L w)(k to:AE):
  Cl Tryz.prog Qd [ptr sb,AG k,AG to] w λv w'=>∃a cp Lv,v= .tuple ⟨[.slice a ((now.filter (Ef k to)).map Dh).length cp,.int .i64 0]⟩∧AT Bs 3 a ((now.filter (Ef k to)).map Dh).length cp (((now.filter (Ef k to)).map Dh).flatMap A8) Lv∧St w (keys L) (Lv++L) w':=by
 obtain⟨s,m,hO,hI,rfl⟩:=h;refine(TE hO hh k to hI.rd).mono ?_;rintro v w'(⟨hd, -⟩|⟨-,ops,hs,a,cp,Lv,rfl,hv,hS⟩)
 ·rw[hI.down]at hd;cases hd
 ·obtain rfl:=Rz hs hI.core.view;exact⟨a,cp,Lv,rfl,hv,hS⟩
def E4(lk:CT)(n:Int):Int:=if(lk n).isSome then 0 else 3
theorem bL{c e:Nat}{s:AL}{m:AJ}{now:List AO}{lk:CT}(h:Inv c e s m now lk)(n:Int):(DW s m n).2=E4 lk n∧(IC s m=s)∧((DW s m n).2=0→ ∃rs,lk n=some rs∧Be (BS s) (DW s m n).1 rs):=by
 have hd:=h.down;have hl:=h.core.looks n;unfold E4;rw[←RJ h.core n];unfold DD at hd;refine⟨?_,Nx h.down,?_⟩
 ·unfold DW;rw[hd];cases Am n s.seqs<;>rfl
 ·unfold DW;rw[hd];cases hk:Am n s.seqs with
  |none=>intro h0;cases h0
  |some q=>rw[hk]at hl;intro _;exact hl
theorem Zb{w:World}{sb f c e:Nat}{gv:Int}{now:List AO}{lk:CT}{L:AH}(h:Hd sb f c e gv now lk L)(hh:Holds L w)(n:Int)(k:AE)(hk:k.length≤1099511627776):
  Cl Tryz.prog Qc [ptr sb,.int .i64 n,AG k] w λv w'=>v= .tuple ⟨[AG ((FP ((lk n).getD []) k).getD []),.bool (FP ((lk n).getD []) k).isSome,.int .i64 (E4 lk n)]⟩∧ ∃L',Hd sb f c e gv now lk L'∧St w (keys L) L' w':=by
 obtain⟨s,m,hO,hI,rfl⟩:=h;obtain⟨h1,h2,h3⟩:=bL hI n;refine(Sv hO hh n k hk hI.rd).mono ?_;rintro v w'(⟨hd,rfl,L',hO',hS⟩|⟨hd,b,hb,rfl,L',hO',hS⟩)
 ·rw[h2]at hO';rw[h1]at hd⊢;have hn:lk n=none:=by
   unfold E4 at hd;cases hl:lk n with
   |none=>rfl
   |some rs=>rw[hl]at hd;exact absurd rfl hd
  rw[hn];exact⟨rfl,L',⟨s,m,hO',hI,rfl⟩,hS⟩
 ·obtain⟨rs,h4,h5⟩:=h3 hd;obtain⟨h6,h7⟩:=Qv hI.core.mem.rise hI.tabRise hI.core.one hI.core.fine hb h5;rw[←h1,hd,h6,h7,h4];exact⟨rfl,L',⟨s,m,hO',hI,rfl⟩,hS⟩
theorem Ze{w:World}{sb f c e:Nat}{gv:Int}{now:List AO}{lk:CT}{L:AH}(h:Hd sb f c e gv now lk L)(hh:Holds L w)(hc:c+1≤1048576):
  Cl Tryz.prog Qe [ptr sb] w λv w'=>v= .int .i64 (gv+1)∧ ∃L',Hd sb f (c+1) e (gv+1) now (λn=>if n=gv+1 then some now else lk n) L'∧St w (keys L) L' w':=by
 obtain⟨s,m,hO,hI,rfl⟩:=h;have hg:=hI.bud.given;refine(TN hO hh hI.core.given AA).mono ?_;rintro v w'⟨rfl,L',hO',hS⟩;exact⟨rfl,L',⟨_,m,hO',xK hI hc,rfl⟩,hS⟩
def Hv:CT:=λ_=>none
theorem vF{e:Nat}{s:AL}{m m':AJ}{s':AL}{ps:List AE}{now:List AO}(hd:s.dead=false)(hmem:Gd s.mem)(htab: ∀x∈s.tabs,B8 x.2∧x.2≠[])(hone:Cz (BS s))(hnum:(BS s).length≤e)(hnl:now.length≤e)(had:s.adds≤e)
  (hgd:DA (BJ s).v)(hf:(s.v.files.map (·.2)).Perm (s.tabs.map (·.1)))(hn:1≤s.v.next)(hn2:s.v.next≤1152921504606846976)(hvs:s.v.seq≤s.seq)(hs0:0≤s.seq)(htop: ∀x∈BS s,x.s≤s.seq)(hgv:s.given=0)(hsq:s.seqs=[])(hh:s.hts.length≤1099511627776)(hv:Be (BS s) s.seq now)(ro:TC s m ps s' m'):
  BH e s' m' now Hv:=by
 have hst:=ro.st;have hall:=ro.all;subst hst;refine⟨hd,ro.up,hmem,htab,hone,hnum,hnl,had,hgd.good,hf,?_,?_,?_,?_,?_,hvs,hs0,htop,?_,?_,?_,hh,hv,?_⟩
 ·show 1≤s.v.next+2;omega
 ·show s.v.next<s.v.next+2;omega
 ·intro g hg;cases hg;exact⟨_,rfl⟩
 ·intro g hg;cases hg;rfl
 ·intro k h1 h2;have h1:s.v.next+2≤k:=h1;cases hq:AN m' (Aa k)with
  |none=>rfl
  |some x=>
   have hk:=hall (Aa k) (by rw[hq];rfl);rcases WA hk with h|h|h|⟨n, -,h⟩
   ·exact absurd h (EC k).1
   ·exact absurd h (EJ _ _)
   ·have h3:=Ka ⟨AA,AA⟩ (⟨by show _≤s.v.next;omega,by show s.v.next≤_;omega⟩) h;have h3:k=s.v.next:=h3;omega
   ·exact absurd h (FF _ _)
 ·show 0≤s.given;omega
 ·intro x hx;have hx:x∈s.seqs:=hx;rw[hsq]at hx;cases hx
 ·show(s.seqs.map (·.1)).Nodup;rw[hsq];exact Ix
 ·intro n;show match Am n s.seqs with
   |some q=>∃rs,Hv n=some rs∧Be (BS s) q rs
   |none=>Hv n=none
  rw[hsq]
  rfl
theorem Vq:DA ⟨[],1,3,0⟩:=⟨⟨⟨λf hf=>(by cases hf),Ix⟩,AC,rfl⟩,AC,AC,AC,AC⟩
def Qu:AJ:=⟨[],[],0,0,false⟩
theorem Zc{w:World}{f:Nat}{L:AH}(hF:BI f Qu L)(hh:Holds L w)(hG:Bw w (keys L)){a:Option Addr}{c:Nat}{hs:List Int}{mm fan:Int}(ha:Arr w (keys L) a (hs.map AY))(hhl:hs.length≤1099511627776):
  Cl Tryz.prog Qb [ptr f,.agg ⟨[.int .i64 mm,.int .i64 fan,.slice a hs.length c]⟩] w λr w'=>∃sb L',r= .tuple ⟨[ptr sb,.int .i64 0]⟩∧Hd sb f 1 0 0 [] Hv L'∧St w (keys L) L' w':=by
 have hB:FB 0 Qu:=⟨AW _,AW _,AW _,Ix,λx hx=>(by cases hx),λx hx=>(by cases hx)⟩;have hU:Up Qu:=⟨rfl,rfl⟩;have hw:=Vq.whole;refine(S7 (A:=0) (v:=FX) (ts:=[]) (bs:=[]) hF hh hG ha hhl rfl (λw1 h1 _=>TL hF h1 rfl) (λb hb=>(by cases hb)) AC AC ⟨AC,AC⟩ hw.1 hw.2 AC (by have:=Mf hw.2 AC;exact Au this AC) hB AC AC).mono ?_;rintro v w'⟨e,s',m',hR,hO⟩;have hbp:Ab ([]:List (Int×List Ac))=[]:=rfl;rw[hbp]at hR
 have k1:(CJ (Cc mm fan hs FX []) []).v=FX:=rfl;have k2:(CJ (Cc mm fan hs FX []) []).mem=[]:=rfl;have k3:(CJ (Cc mm fan hs FX []) []).tabs=[]:=rfl;have k4:(CJ (Cc mm fan hs FX []) []).seq=0:=rfl;have k5:(CJ (Cc mm fan hs FX []) []).given=0:=rfl;have k6:(CJ (Cc mm fan hs FX []) []).seqs=[]:=rfl;have k7:(CJ (Cc mm fan hs FX []) []).dead=false:=rfl;have k8:(CJ (Cc mm fan hs FX []) []).hts=hs:=rfl;have k9:(CJ (Cc mm fan hs FX []) []).adds=0:=rfl
 generalize CJ (Cc mm fan hs FX []) []=s0 at hR k1 k2 k3 k4 k5 k6 k7 k8 k9;have kg:DA (BJ s0).v:=by unfold BJ;rw[k1];exact Vq
 have kl:(Ay (BJ s0).v).length≤4196:=by rw[JT];exact OA kg.num
 have kE:BS s0=[]:=by rw[GT];unfold Dy;rw[k2,k3];rfl
 obtain⟨rfl,ro,hft⟩:=Xt (A:=0) (T:=536870912) (Nf:=0) hU ⟨hB,λx hx=>(by cases hx),λx hx=>(by cases hx)⟩ AC kg (by rw[k1];decide) rfl AC (AW _) hR;rcases hO with⟨-,sb,L',rfl,hO,hS⟩|⟨he, -⟩
 ·have hst:=ro.st;refine⟨sb,L',rfl,⟨s',m',hO,⟨?_,?_,AC,AC⟩,?_⟩,hS⟩
  ·exact vF k7 (by rw[k2];exact⟨List.Pairwise.nil,λx hx=>(by cases hx),λx hx=>(by cases hx),λx hx=>(by cases hx),Ag _⟩) (by rw[k3];intro x hx;cases hx) (by rw[kE];exact List.Pairwise.nil) (by rw[kE];exact AW _) (AW _) (by rw[k9];exact AW _) kg (by rw[k1,k3];exact List.Perm.refl _) (by rw[k1];decide) (by rw[k1];decide) (by rw[k1,k4];decide) (by rw[k4];decide) (by rw[kE];intro x hx;cases hx) k5 k6 (by rw[k8];exact hhl) (by rw[kE];exact Be.nil _) ro
  ·refine⟨hft.mono AC AC,?_,?_,?_,?_,?_,?_⟩
   ·rw[hst];show s0.v.next+2≤_;rw[k1];decide
   ·rw[hst];show s0.seq≤_;rw[k4];decide
   ·rw[hst];show s0.given≤_;rw[k5];decide
   ·rw[hst];show s0.seqs.length≤_;rw[k6];decide
   ·rw[hst];exact⟨_,rfl,rfl,rfl,HP (by rw[k1];exact⟨AC,AC⟩),by simp only;omega⟩
   ·rw[hst];exact⟨_,rfl,rfl,rfl,Ht (by rw[k1];exact⟨AC,AC⟩),Ag _⟩
  ·rw[hst];exact k5
 ·exact absurd rfl he
end Go.Proofs.YtkgibdhpijdbfaaGreatDoor
namespace Go.Proofs.YtkgibdhpijdbfaaGreatDoor
open Go Go.Eng Go.Proofs
theorem S3{w:World}{a:Option Addr}{c:Nat}{ops:List Ac}(ha:Arr w [] a (ops.flatMap A8))(hl:Av ops≤1099511627776)(hn:ops.length≤1099511627776):
  Cl Tryz.prog qD [.slice a ops.length c] w λv w'=>v= .bool (decide (4096<Av ops))∧St w [] [] w':=by
 have hS:=St.start w;have hcl:=I7 ops;refine kQ rfl ?_;refine jq ⟨?_⟩;refine AM.loop (λk:Nat=>[(6,.slice a ops.length c),(7,.int .i64 ops.length),(8,.int .i64 k),(3,.int .i64 (Av (ops.take k)))]) (λk w'=>k≤ops.length∧St w [] [] w') (λk=>ops.length-k) 0
  ⟨rfl,rfl,rfl,rfl,trivial⟩ ⟨Ag _,hS⟩ ?_
 clear hS;rintro k w1⟨hk,hS⟩;by_cases hkl:k<ops.length
 ·obtain⟨g,off,rfl, -, -⟩:=ha.get (j:=k*3) AA;have hat:=I6 ops k hkl;have hsucc:=PA ops k hkl;have hle:=NM ops k;have hsz:=PF (CW hkl);generalize ops[k]=o at hat hsucc hsz;refine jq ⟨?_⟩;refine Arr.ldn hS ha rfl (k:=k*3) hat rfl ?_;unfold A8;unfold EA at hsucc hsz;refine jq ⟨?_⟩;refine hS.al ?_;intro b5 w2 _ hS;(repeat(refine jt ⟨?_⟩;refine hS.q ?_;intro _ hS));refine jt ⟨?_⟩;exact⟨k+1,⟨rfl,rfl,rfl,by rw[hsucc];exact congrArg (Value.int .i64) AA,trivial⟩,⟨AA,hS.sub (AS _ _)⟩,AA⟩
 ·obtain rfl:k=ops.length:=AA;refine jq ⟨?_⟩;rw[Bz];refine⟨?_,hS⟩
  congr 1
  exact decide_eq_decide.2 AA
def Ip(l:List Ac)(k:AE):Option Ac:=l.find? λo=>decide (o.1=k)
def Vn(r:Option Ac):Value:=match r with
 |none=> .tuple ⟨[AG [],.bool false]⟩
 |some o=> .tuple ⟨[AG o.2.2,.bool true]⟩
theorem rS(l:List Ac)(k:AE)(i:Nat)(hi:i<l.length):Ip (l.drop i) k=if l[i].1=k then some l[i]else Ip (l.drop (i+1)) k:=by
 rw[FM hi];unfold Ip;rw[List.find?_cons];by_cases h:l[i].1=k
 ·rw[if_pos h,decide_eq_true h]
 ·rw[if_neg h,decide_eq_false h]
theorem ZP{w:World}{a:Option Addr}{c:Nat}{ops:List Ac}(ha:Arr w [] a (ops.flatMap A8))(key:AE)(hn:ops.length≤1099511627776):
  Cl Tryz.prog VG [.slice a ops.length c,AG key] w λv w'=>v=Vn (Ip ops key)∧St w [] [] w':=by
 have hS:=St.start w;have hcl:=I7 ops;refine kP rfl ?_;refine jq ⟨?_⟩;refine AM.loop (λk:Nat=>[(1,AG key),(8,.slice a ops.length c),(9,.int .i64 ops.length),(10,.int .i64 k)]) (λk w'=>k≤ops.length∧Ip ops key=Ip (ops.drop k) key∧St w [] [] w') (λk=>ops.length-k) 0
  ⟨rfl,rfl,rfl,rfl,trivial⟩ ⟨Ag _,rfl,hS⟩ ?_
 clear hS;rintro k w1⟨hk,hg,hS⟩;by_cases hkl:k<ops.length
 ·obtain⟨g,off,rfl, -, -⟩:=ha.get (j:=k*3) AA;have hat:=I6 ops k hkl;have hd:=rS ops key k hkl;generalize ops[k]=o at hat hd;refine jq ⟨?_⟩;refine Arr.ldn hS ha rfl (k:=k*3) hat rfl ?_;unfold A8;refine jq ⟨?_⟩;refine hS.al ?_;intro b5 w2 _ hS;by_cases hok:o.1=key
  ·rw[if_pos hok]at hd;(repeat(refine jt ⟨?_⟩;refine hS.q ?_;intro _ hS));refine jt ⟨?_⟩;exact⟨by rw[hg,hd];rfl,hS.sub (AS _ _)⟩
  ·rw[if_neg hok]at hd;(repeat(refine jt ⟨?_⟩;refine hS.q ?_;intro _ hS));refine jt ⟨?_⟩;exact⟨k+1,⟨rfl,rfl,rfl,rfl,trivial⟩,⟨AA,by rw[hg,hd],hS.sub (AS _ _)⟩,AA⟩
 ·obtain rfl:k=ops.length:=AA;refine jq ⟨?_⟩;rw[II]at hg;exact⟨by rw[hg];rfl,hS⟩
def EY(fr to:AE)(o:Ac):Bool:= !Op.bytesLess o.1 fr&&(decide (to=[])||Op.bytesLess o.1 to)
theorem qW{α:Type}(p:α→Bool)(l:List α)(k:Nat)(hk:k<l.length):(l.take (k+1)).filter p=(l.take k).filter p++if p l[k]then [l[k]]else []:=by
 rw[Bq hk,J9];by_cases h:p l[k]<;>simp[h]
structure Z1 where
 k:Nat
 n:Nat
 a:Option Addr
 c:Nat
theorem Z7{w:World}{a:Option Addr}{c:Nat}{ops:List Ac}(ha:Arr w [] a (ops.flatMap A8))(fr to:AE)(hn:ops.length≤8388608):
  Cl Tryz.prog VH [.slice a ops.length c,AG fr,AG to] w λv w'=>∃a' c' L,v= .slice a' (ops.filter (EY fr to)).length c'∧AT Bs 3 a' (ops.filter (EY fr to)).length c' ((ops.filter (EY fr to)).flatMap A8) L∧St w [] L w':=by
 have hS:=St.start w;have hcl:=I7 ops;refine kT rfl ?_;refine jq ⟨?_⟩;refine AM.loop (λi:Z1=>[(1,AG fr),(2,AG to),(7,.slice i.a i.n i.c),(10,.slice a ops.length c),(11,.int .i64 ops.length),(12,.int .i64 i.k)])
  (λi w'=>i.k≤ops.length∧i.n=((ops.take i.k).filter (EY fr to)).length∧i.n≤i.k∧ ∃L,AT Bs 3 i.a i.n i.c (((ops.take i.k).filter (EY fr to)).flatMap A8) L∧St w [] L w') (λi=>ops.length-i.k) ⟨0,0,none,0⟩
  ⟨rfl,rfl,rfl,rfl,rfl,rfl,trivial⟩ ⟨Ag _,rfl,AW _,[],AT.nil,hS⟩ ?_
 clear hS;rintro⟨k,n,a2,c2⟩w1⟨hk,hnl,hnk,L,hv,hS⟩;simp only at hk hnl hnk hv hS⊢;by_cases hkl:k<ops.length
 ·obtain⟨g,off,rfl, -, -⟩:=ha.get (j:=k*3) AA;have hat:=I6 ops k hkl;have hsucc:=qW (EY fr to) ops k hkl;have ha1:=hS.arrOld ha;generalize ops[k]=o at hat hsucc;refine jq ⟨?_⟩;refine Arr.ldn (St.start w1) ha1 rfl (k:=k*3) hat rfl ?_;unfold A8;refine jq ⟨?_⟩;refine hS.al ?_;intro b5 w2 _ hS;(repeat(refine jt ⟨?_⟩;refine hS.q ?_;intro _ hS));refine jt ⟨?_⟩;cases hb1:Op.bytesLess o.1 fr with
  |true=>
   (repeat(refine jt ⟨?_⟩;refine hS.q ?_;intro _ hS));refine jt ⟨?_⟩;have hno:(if EY fr to o=true then [o]else [])=[]:=by unfold EY;simp[hb1]
   rw[hno,BT]at hsucc;exact⟨⟨k+1,n,a2,c2⟩,⟨rfl,rfl,rfl,rfl,rfl,rfl,trivial⟩,⟨by simp only;omega,by simp only;rw[hsucc];exact hnl,by simp only;omega,L,by simp only;rw[hsucc];exact hv,hS.sub (AS _ _)⟩,by simp only;omega⟩
  |false=>
   by_cases hto:to=[]
   ·(repeat(refine jt ⟨?_⟩;refine hS.q ?_;intro _ hS));refine jt ⟨?_⟩;have hno:(if EY fr to o=true then [o]else [])=[o]:=by unfold EY;simp[hb1,hto]
    rw[hno]at hsucc;refine hS.al ?_;intro r w4 _ hS;(repeat(refine jt ⟨?_⟩;refine hS.q ?_;intro _ hS));refine jt ⟨?_⟩;refine St.app (sz:=3) (m:=1) AK rfl rfl rfl rfl hS hv (news:=A8 o) rfl (by have:=hS.arr (b:=r) (T':=[]) AB;exact this) rfl (by show(_+_)*40≤_;omega) AA ?_;intro a3 c3 L3 w5 hv3 hS;have hv4:AT Bs 3 a3 (n+1) c3 (((ops.take (k+1)).filter (EY fr to)).flatMap A8) L3:=by rw[hsucc,Hn];simpa using hv3
    (repeat(refine jt ⟨?_⟩;refine hS.q ?_;intro _ hS));refine jt ⟨?_⟩;exact⟨⟨k+1,n+1,a3,c3⟩,⟨rfl,rfl,rfl,rfl,rfl,rfl,trivial⟩,⟨by simp only;omega,by simp only;rw[hsucc,AP,←hnl];rfl,by simp only;omega,L3,hv4,hS.sub ((AS _ _).trans (AS _ _))⟩,by simp only;omega⟩
   ·cases hb2:Op.bytesLess o.1 to with
    |true=>
     (repeat(refine jt ⟨?_⟩;refine hS.q ?_;intro _ hS));refine jt ⟨?_⟩;rw[hb2];(repeat(refine jt ⟨?_⟩;refine hS.q ?_;intro _ hS));refine jt ⟨?_⟩;have hno:(if EY fr to o=true then [o]else [])=[o]:=by unfold EY;simp[hb1,hb2]
     rw[hno]at hsucc;refine hS.al ?_;intro r w4 _ hS;(repeat(refine jt ⟨?_⟩;refine hS.q ?_;intro _ hS));refine jt ⟨?_⟩;refine St.app (sz:=3) (m:=1) AK rfl rfl rfl rfl hS hv (news:=A8 o) rfl (by have:=hS.arr (b:=r) (T':=[]) AB;exact this) rfl (by show(_+_)*40≤_;omega) AA ?_;intro a3 c3 L3 w5 hv3 hS;have hv4:AT Bs 3 a3 (n+1) c3 (((ops.take (k+1)).filter (EY fr to)).flatMap A8) L3:=by rw[hsucc,Hn];simpa using hv3
     (repeat(refine jt ⟨?_⟩;refine hS.q ?_;intro _ hS));refine jt ⟨?_⟩;exact⟨⟨k+1,n+1,a3,c3⟩,⟨rfl,rfl,rfl,rfl,rfl,rfl,trivial⟩,⟨by simp only;omega,by simp only;rw[hsucc,AP,←hnl];rfl,by simp only;omega,L3,hv4,hS.sub ((AS _ _).trans (AS _ _))⟩,by simp only;omega⟩
    |false=>
     (repeat(refine jt ⟨?_⟩;refine hS.q ?_;intro _ hS));refine jt ⟨?_⟩;rw[hb2];(repeat(refine jt ⟨?_⟩;refine hS.q ?_;intro _ hS));refine jt ⟨?_⟩;have hno:(if EY fr to o=true then [o]else [])=[]:=by unfold EY;simp[hb1,hb2,hto]
     rw[hno,BT]at hsucc;exact⟨⟨k+1,n,a2,c2⟩,⟨rfl,rfl,rfl,rfl,rfl,rfl,trivial⟩,⟨by simp only;omega,by simp only;rw[hsucc];exact hnl,by simp only;omega,L,by simp only;rw[hsucc];exact hv,hS.sub (AS _ _)⟩,by simp only;omega⟩
 ·obtain rfl:k=ops.length:=AA;rw[Bz]at hnl hv;refine jq ⟨?_⟩;subst hnl;exact⟨a2,c2,L,rfl,hv,hS⟩
theorem DO(p q:List AO):(p++q).flatMap BM=p.flatMap BM++q.flatMap BM:=Hn
theorem Ew(l:List AO):(l.flatMap BM).all Value.oneCell'=true:=by
 induction l with
 |nil=>rfl
 |cons p ps ih=>rw[E9,List.all_append,ih];rfl
theorem CO(p q:List AO):p.length+q.length=(p++q).length:=AB
theorem Dg(l:List AO):(l.flatMap BM).length=l.length*3:=by rw[Xo];omega
theorem Zp{w:World}{a:Option Addr}{cap:Nat}{l p q:List AO}{o:Ac}(hpq:l=p++q)(hp: ∀r∈p,Op.bytesLess r.1 o.1=true)(hq: ∀r∈q,Op.bytesLess r.1 o.1=false)
  (ha:Arr w [] a (l.flatMap BM))(hA:a=none∨ ∃g off,a=some ⟨g,off,none⟩)(hcap:l.length≤cap)(hlen:l.length≤16777216):
  Cl Tryz.prog qE [.slice a l.length cap,.agg ⟨A8 o⟩] w λv w'=>∃a' c' L,v= .slice a' (p++El o++Ea o.1 q).length c'∧AT Bs 3 a' (p++El o++Ea o.1 q).length c' ((p++El o++Ea o.1 q).flatMap BM) L∧St w [] L w':=by
 have hS:=St.start w;have hll:l.length=p.length+q.length:=by rw[hpq,AP]
 have hpl:p.length≤l.length:=AA;have hcl:=Xo l;unfold A8;refine kR rfl ?_;refine jq ⟨?_⟩;refine hS.al ?_;intro b3 w1 _ hS;refine jq ⟨?_⟩;refine AM.loop (λi:Nat=>[(0,.slice a l.length cap),(3,ptr b3),(5,.int .i64 i)])
  (λi w'=>p.length≤i∧i≤l.length∧St w [] [(b3,.cells ⟨A8 o⟩ Bs (0,0))] w') (λi=>i) l.length
  ⟨rfl,rfl,rfl,trivial⟩ ⟨hpl,AW _,hS⟩ ?_
 clear hS;rintro i w2⟨hi,hil,hS⟩;by_cases hip:p.length<i
 ·have hi1:i-1<l.length:=AA;obtain⟨g,off,rfl, -, -⟩:=ha.get (j:=(i-1)*3) AA;have hk:=LW l (i-1) hi1;have hge:Op.bytesLess l[i-1].1 o.1=false:=by
   refine hq _ ?_;subst hpq;rw[List.getElem_append_right AA];exact CW _
  generalize l[i-1]=x at hk hge;refine jq ⟨?_⟩;refine AM.draw AK mixed (λw'=>St w [] [(b3,.cells ⟨A8 o⟩ Bs (0,0))] w') [] [0,1,2,3,4,5,6,7,8,9,10,11,12] AD hS.drew ?_;have hS:=hS.drew;generalize w2.drew=w2 at hS;unfold A8 at hS;refine jr ⟨?_⟩;rw[show((i:Int)-1)=((i-1:Nat):Int) by omega];refine jr ⟨?_⟩;refine Arr.ldcC ha hk AB ?_;refine jr ⟨?_⟩;rw[hge,Bool.not_false];refine jr ⟨?_⟩;exact⟨i-1,⟨rfl,rfl,by show _=(_:Value);rw[show((i:Int)-1)=((i-1:Nat):Int) by omega],trivial⟩,⟨AA,AA,hS⟩,AA⟩
 ·have hie:i=p.length:=AA;subst hie;obtain⟨k,d,u⟩:=o;rcases hA with rfl|⟨g,off,rfl⟩
  ·have hl0:l=[]:=by
    cases l with
    |nil=>rfl
    |cons x l=>obtain⟨g,off,h⟩:=bK ha;cases h
   rw[hl0]at hpq;have hp0:p=[]:=(List.append_eq_nil_iff.1 hpq.symm).1;have hq0:q=[]:=(List.append_eq_nil_iff.1 hpq.symm).2;subst hl0 hp0 hq0;have hpz:([]:List AO).length=0:=rfl;refine jq ⟨?_⟩;refine AM.draw AK mixed (λw'=>St w [] [(b3,.cells ⟨A8 (k,d,u)⟩ Bs (0,0))] w') [] [0,1,2,3,4,5,6,7,8,9,10,11,12] AD hS.drew ?_;have hS:=hS.drew;generalize w2.drew=w2 at hS;unfold A8 at hS;refine jr ⟨?_⟩;have hv:AT Bs 3 none ([]:List AO).length 0 (([]:List AO).flatMap BM) []:=AT.nil
   have hS:St w [] ([]++[(b3,.cells ⟨[AG k,.bool d,AG u]⟩ Bs (0,0))]) w2:=hS;(repeat(refine jt ⟨?_⟩;refine hS.q ?_;intro _ hS));refine jt ⟨?_⟩;refine St.app (sz:=3) (m:=(([]:List AO)).length) AK rfl rfl rfl rfl hS hv (news:=(([]:List AO)).flatMap BM) (Dg _) (Arr.nil _ _ _) (Ew _) (by show(_+_)*40≤_;(try simp);(try omega)) (by(try simp);(try omega)) ?_;intro a1 c1 L1 w3 hv hS;rw[←DO,CO]at hv;rw[CO ([]) (([]:List AO))]
   rw[Ca]at hv;rw[Ca];(repeat(refine jt ⟨?_⟩;refine hS.q ?_;intro _ hS));refine jt ⟨?_⟩;cases d with
   |true=>
    (repeat(refine jt ⟨?_⟩;refine hS.q ?_;intro _ hS));refine jt ⟨?_⟩;refine AM.draw AK mixed (λw'=>St w [] (L1++[(b3,.cells ⟨[AG k,.bool true,AG u]⟩ Bs (0,0))]) w') [] [0,1,2,3,4,5,6,7,8,9,10,11,12,13] AD hS.drew ?_;have hS:=hS.drew;generalize w3.drew=w3 at hS;refine jr ⟨?_⟩;refine St.app (sz:=3) (m:=(([]:List AO)).length) AK rfl rfl rfl rfl hS hv (news:=(([]:List AO)).flatMap BM) (Dg _) (Arr.nil _ _ _) (Ew _) (by show(_+_)*40≤_;(try simp);(try omega)) (by(try simp);(try omega)) ?_
    intro a1 c1 L1 w3 hv hS;rw[←DO,CO]at hv;rw[CO (([]:List AO)) (([]:List AO))];(repeat(refine jt ⟨?_⟩;refine hS.q ?_;intro _ hS));refine jt ⟨?_⟩;exact⟨a1,c1,L1,rfl,hv,hS.sub (CD _ _)⟩
   |false=>
    (repeat(refine jt ⟨?_⟩;refine hS.q ?_;intro _ hS));refine jt ⟨?_⟩;refine hS.al ?_;intro r w4 _ hS;(repeat(refine jt ⟨?_⟩;refine hS.q ?_;intro _ hS));refine jt ⟨?_⟩;refine St.app (sz:=3) (m:=([(k,u)]).length) AK rfl rfl rfl rfl hS hv (news:=([(k,u)]).flatMap BM) (Dg _) (by have:=hS.arr (b:=r) (T':=[]) AB;exact this) (Ew _) (by show(_+_)*40≤_;(try simp);(try omega)) (by(try simp);(try omega)) ?_
    intro a1 c1 L1 w3 hv hS;rw[←DO,CO]at hv;rw[CO ([]) ([(k,u)])];have hS:St w [] (L1++[(b3,.cells ⟨[AG k,.bool false,AG u]⟩ Bs (0,0))]) w3:=hS.sub (AS _ _);(repeat(refine jt ⟨?_⟩;refine hS.q ?_;intro _ hS));refine jt ⟨?_⟩;refine AM.draw AK mixed (λw'=>St w [] (L1++[(b3,.cells ⟨[AG k,.bool false,AG u]⟩ Bs (0,0))]) w') [] [0,1,2,3,4,5,6,7,8,9,10,11,12,13] AD hS.drew ?_;have hS:=hS.drew;generalize w3.drew=w3 at hS
    refine jr ⟨?_⟩;refine St.app (sz:=3) (m:=(([]:List AO)).length) AK rfl rfl rfl rfl hS hv (news:=(([]:List AO)).flatMap BM) (Dg _) (Arr.nil _ _ _) (Ew _) (by show(_+_)*40≤_;(try simp);(try omega)) (by(try simp);(try omega)) ?_;intro a1 c1 L1 w3 hv hS;rw[←DO,CO]at hv;rw[CO ([]++[(k,u)]) (([]:List AO))];(repeat(refine jt ⟨?_⟩;refine hS.q ?_;intro _ hS));refine jt ⟨?_⟩;exact⟨a1,c1,L1,rfl,hv,hS.sub (CD _ _)⟩
  ·have hap:Arr w [] (some ⟨g,off,none⟩) (p.flatMap BM):=by rw[hpq,DO]at ha;exact Arr.take ha
   by_cases hp0:p=[]
   ·have hpz:p.length=0:=by rw[hp0];rfl
    refine jq ⟨?_⟩;refine AM.draw AK mixed (λw'=>St w [] [(b3,.cells ⟨A8 (k,d,u)⟩ Bs (0,0))] w') [] [0,1,2,3,4,5,6,7,8,9,10,11,12] AD hS.drew ?_;have hS:=hS.drew;generalize w2.drew=w2 at hS;unfold A8 at hS;refine jr ⟨?_⟩;have hv:AT Bs 3 none ([]:List AO).length 0 (([]:List AO).flatMap BM) []:=AT.nil;have hS:St w [] ([]++[(b3,.cells ⟨[AG k,.bool d,AG u]⟩ Bs (0,0))]) w2:=hS;(repeat(refine jt ⟨?_⟩;refine hS.q ?_;intro _ hS));refine jt ⟨?_⟩
    refine St.app (sz:=3) (m:=(p).length) AK rfl rfl rfl rfl hS hv (news:=(p).flatMap BM) (Dg _) (hS.arrOld hap) (Ew _) (by show(_+_)*40≤_;(try simp);(try omega)) (by(try simp);(try omega)) ?_;intro a1 c1 L1 w3 hv hS;rw[←DO,CO]at hv;rw[CO ([]) (p)];rw[Ca]at hv;rw[Ca];(repeat(refine jt ⟨?_⟩;refine hS.q ?_;intro _ hS));refine jt ⟨?_⟩;cases d with
    |true=>
     (repeat(refine jt ⟨?_⟩;refine hS.q ?_;intro _ hS));refine jt ⟨?_⟩;rw[show p++El (k,true,u)=p by simp[El]];cases q with
     |nil=>
      have hlp:l.length=p.length:=by simpa using hll
      refine AM.draw AK mixed (λw'=>St w [] (L1++[(b3,.cells ⟨[AG k,.bool true,AG u]⟩ Bs (0,0))]) w') [] [0,1,2,3,4,5,6,7,8,9,10,11,12,13] AD hS.drew ?_;have hS:=hS.drew;generalize w3.drew=w3 at hS;refine jr ⟨?_⟩;rw[show l.length-((p.length:Nat):Int).toNat=([]:List AO).length by simp;omega];refine St.app (sz:=3) (m:=(([]:List AO)).length) AK rfl rfl rfl rfl hS hv (news:=(([]:List AO)).flatMap BM) (Dg _) (Arr.nil _ _ _) (Ew _) (by show(_+_)*40≤_;(try simp);(try omega)) (by(try simp);(try omega)) ?_
      intro a1 c1 L1 w3 hv hS;rw[←DO,CO]at hv;rw[CO (p) (([]:List AO))];(repeat(refine jt ⟨?_⟩;refine hS.q ?_;intro _ hS));refine jt ⟨?_⟩;exact⟨a1,c1,L1,rfl,hv,hS.sub (CD _ _)⟩
     |cons x q=>
      have hlp:l.length=p.length+(q.length+1):=by simpa using hll
      have haq:Arr w [] (CU g off p.length cap 3) ((x::q).flatMap BM):=by
       rw[hpq,DO]at ha;exact Arr.dropS (k:=p.length) ha (Dg _) λ_=>AA
      have haq':Arr w [] (CU g off (p.length+1) cap 3) (q.flatMap BM):=by
       rw[hpq,show p++x::q=(p++[x])++q by simp,DO]at ha;refine Arr.dropS (k:=p.length+1) ha (by rw[Dg];simp) λh=>?_;cases q with
       |nil=>exact absurd rfl h
       |cons y q=>simp at hlp;omega
      have hkx:(l.flatMap BM)[p.length*3]?=some (AG x.1):=by
       have:=LW l p.length AA;rw[this];subst hpq;simp
      by_cases hxk:x.1=k
      ·refine AM.draw AK mixed (λw'=>St w [] (L1++[(b3,.cells ⟨[AG k,.bool true,AG u]⟩ Bs (0,0))]) w') [] [0,1,2,3,4,5,6,7,8,9,10,11,12,13] AD hS.drew ?_;have hS:=hS.drew;generalize w3.drew=w3 at hS;refine jr ⟨?_⟩;refine Arr.ldcC ha hkx AB ?_;refine jr ⟨?_⟩;rw[show Ea k (x::q)=q by rw[HT,if_pos hxk]];rw[show l.length-((p.length:Nat)+1:Int).toNat=q.length by omega];rw[show((p.length:Nat)+1:Int).toNat=p.length+1 by omega]
       refine St.app (sz:=3) (m:=(q).length) AK rfl rfl rfl rfl hS hv (news:=(q).flatMap BM) (Dg _) (hS.arrOld haq') (Ew _) (by show(_+_)*40≤_;(try simp);(try omega)) (by(try simp);(try omega)) ?_;intro a1 c1 L1 w3 hv hS;rw[←DO,CO]at hv;rw[CO (p) (q)];(repeat(refine jt ⟨?_⟩;refine hS.q ?_;intro _ hS));refine jt ⟨?_⟩;exact⟨a1,c1,L1,rfl,hv,hS.sub (CD _ _)⟩
      ·refine AM.draw AK mixed (λw'=>St w [] (L1++[(b3,.cells ⟨[AG k,.bool true,AG u]⟩ Bs (0,0))]) w') [] [0,1,2,3,4,5,6,7,8,9,10,11,12,13] AD hS.drew ?_;have hS:=hS.drew;generalize w3.drew=w3 at hS;refine jr ⟨?_⟩;refine Arr.ldcC ha hkx AB ?_;refine jr ⟨?_⟩;rw[show Ea k (x::q)=x::q by rw[HT,if_neg hxk]];rw[show l.length-((p.length:Nat):Int).toNat=(x::q).length by simp;omega];refine St.app (sz:=3) (m:=(x::q).length) AK rfl rfl rfl rfl hS hv (news:=(x::q).flatMap BM) (Dg _) (hS.arrOld haq) (Ew _) (by show(_+_)*40≤_;(try simp);(try omega)) (by(try simp);(try omega)) ?_
       intro a1 c1 L1 w3 hv hS;rw[←DO,CO]at hv;rw[CO (p) (x::q)];(repeat(refine jt ⟨?_⟩;refine hS.q ?_;intro _ hS));refine jt ⟨?_⟩;exact⟨a1,c1,L1,rfl,hv,hS.sub (CD _ _)⟩
    |false=>
     (repeat(refine jt ⟨?_⟩;refine hS.q ?_;intro _ hS));refine jt ⟨?_⟩;refine hS.al ?_;intro r w4 _ hS;(repeat(refine jt ⟨?_⟩;refine hS.q ?_;intro _ hS));refine jt ⟨?_⟩;refine St.app (sz:=3) (m:=([(k,u)]).length) AK rfl rfl rfl rfl hS hv (news:=([(k,u)]).flatMap BM) (Dg _) (by have:=hS.arr (b:=r) (T':=[]) AB;exact this) (Ew _) (by show(_+_)*40≤_;(try simp);(try omega)) (by(try simp);(try omega)) ?_
     intro a1 c1 L1 w3 hv hS;rw[←DO,CO]at hv;rw[CO (p) ([(k,u)])];have hS:St w [] (L1++[(b3,.cells ⟨[AG k,.bool false,AG u]⟩ Bs (0,0))]) w3:=hS.sub (AS _ _);(repeat(refine jt ⟨?_⟩;refine hS.q ?_;intro _ hS));refine jt ⟨?_⟩;rw[show p++El (k,false,u)=p++[(k,u)] by simp[El]];cases q with
     |nil=>
      have hlp:l.length=p.length:=by simpa using hll
      refine AM.draw AK mixed (λw'=>St w [] (L1++[(b3,.cells ⟨[AG k,.bool false,AG u]⟩ Bs (0,0))]) w') [] [0,1,2,3,4,5,6,7,8,9,10,11,12,13] AD hS.drew ?_;have hS:=hS.drew;generalize w3.drew=w3 at hS;refine jr ⟨?_⟩;rw[show l.length-((p.length:Nat):Int).toNat=([]:List AO).length by simp;omega];refine St.app (sz:=3) (m:=(([]:List AO)).length) AK rfl rfl rfl rfl hS hv (news:=(([]:List AO)).flatMap BM) (Dg _) (Arr.nil _ _ _) (Ew _) (by show(_+_)*40≤_;(try simp);(try omega)) (by(try simp);(try omega)) ?_
      intro a1 c1 L1 w3 hv hS;rw[←DO,CO]at hv;rw[CO (p++[(k,u)]) (([]:List AO))];(repeat(refine jt ⟨?_⟩;refine hS.q ?_;intro _ hS));refine jt ⟨?_⟩;exact⟨a1,c1,L1,rfl,hv,hS.sub (CD _ _)⟩
     |cons x q=>
      have hlp:l.length=p.length+(q.length+1):=by simpa using hll
      have haq:Arr w [] (CU g off p.length cap 3) ((x::q).flatMap BM):=by
       rw[hpq,DO]at ha;exact Arr.dropS (k:=p.length) ha (Dg _) λ_=>AA
      have haq':Arr w [] (CU g off (p.length+1) cap 3) (q.flatMap BM):=by
       rw[hpq,show p++x::q=(p++[x])++q by simp,DO]at ha;refine Arr.dropS (k:=p.length+1) ha (by rw[Dg];simp) λh=>?_;cases q with
       |nil=>exact absurd rfl h
       |cons y q=>simp at hlp;omega
      have hkx:(l.flatMap BM)[p.length*3]?=some (AG x.1):=by
       have:=LW l p.length AA;rw[this];subst hpq;simp
      by_cases hxk:x.1=k
      ·refine AM.draw AK mixed (λw'=>St w [] (L1++[(b3,.cells ⟨[AG k,.bool false,AG u]⟩ Bs (0,0))]) w') [] [0,1,2,3,4,5,6,7,8,9,10,11,12,13] AD hS.drew ?_;have hS:=hS.drew;generalize w3.drew=w3 at hS;refine jr ⟨?_⟩;refine Arr.ldcC ha hkx AB ?_;refine jr ⟨?_⟩;rw[show Ea k (x::q)=q by rw[HT,if_pos hxk]];rw[show l.length-((p.length:Nat)+1:Int).toNat=q.length by omega];rw[show((p.length:Nat)+1:Int).toNat=p.length+1 by omega]
       refine St.app (sz:=3) (m:=(q).length) AK rfl rfl rfl rfl hS hv (news:=(q).flatMap BM) (Dg _) (hS.arrOld haq') (Ew _) (by show(_+_)*40≤_;(try simp);(try omega)) (by(try simp);(try omega)) ?_;intro a1 c1 L1 w3 hv hS;rw[←DO,CO]at hv;rw[CO (p++[(k,u)]) (q)];(repeat(refine jt ⟨?_⟩;refine hS.q ?_;intro _ hS));refine jt ⟨?_⟩;exact⟨a1,c1,L1,rfl,hv,hS.sub (CD _ _)⟩
      ·refine AM.draw AK mixed (λw'=>St w [] (L1++[(b3,.cells ⟨[AG k,.bool false,AG u]⟩ Bs (0,0))]) w') [] [0,1,2,3,4,5,6,7,8,9,10,11,12,13] AD hS.drew ?_;have hS:=hS.drew;generalize w3.drew=w3 at hS;refine jr ⟨?_⟩;refine Arr.ldcC ha hkx AB ?_;refine jr ⟨?_⟩;rw[show Ea k (x::q)=x::q by rw[HT,if_neg hxk]];rw[show l.length-((p.length:Nat):Int).toNat=(x::q).length by simp;omega];refine St.app (sz:=3) (m:=(x::q).length) AK rfl rfl rfl rfl hS hv (news:=(x::q).flatMap BM) (Dg _) (hS.arrOld haq) (Ew _) (by show(_+_)*40≤_;(try simp);(try omega)) (by(try simp);(try omega)) ?_
       intro a1 c1 L1 w3 hv hS;rw[←DO,CO]at hv;rw[CO (p++[(k,u)]) (x::q)];(repeat(refine jt ⟨?_⟩;refine hS.q ?_;intro _ hS));refine jt ⟨?_⟩;exact⟨a1,c1,L1,rfl,hv,hS.sub (CD _ _)⟩
   ·have hpz:0<p.length:=KB.2 hp0;have hk0:=LW l (p.length-1) AA;have hlt:Op.bytesLess l[p.length-1].1 k=true:=by
     refine hp _ ?_;subst hpq;rw[List.getElem_append_left AA];exact CW _
    generalize l[p.length-1]=y at hk0 hlt;refine jq ⟨?_⟩;refine AM.draw AK mixed (λw'=>St w [] [(b3,.cells ⟨A8 (k,d,u)⟩ Bs (0,0))] w') [] [0,1,2,3,4,5,6,7,8,9,10,11,12] AD hS.drew ?_;have hS:=hS.drew;generalize w2.drew=w2 at hS;unfold A8 at hS;refine jr ⟨?_⟩;rw[show((p.length:Int)-1)=((p.length-1:Nat):Int) by omega];refine jr ⟨?_⟩;refine Arr.ldcC ha hk0 AB ?_;refine jr ⟨?_⟩;rw[hlt,Bool.not_true];refine jr ⟨?_⟩
    have hv:AT Bs 3 none ([]:List AO).length 0 (([]:List AO).flatMap BM) []:=AT.nil;have hS:St w [] ([]++[(b3,.cells ⟨[AG k,.bool d,AG u]⟩ Bs (0,0))]) w2:=hS;(repeat(refine jt ⟨?_⟩;refine hS.q ?_;intro _ hS));refine jt ⟨?_⟩;refine St.app (sz:=3) (m:=(p).length) AK rfl rfl rfl rfl hS hv (news:=(p).flatMap BM) (Dg _) (hS.arrOld hap) (Ew _) (by show(_+_)*40≤_;(try simp);(try omega)) (by(try simp);(try omega)) ?_
    intro a1 c1 L1 w3 hv hS;rw[←DO,CO]at hv;rw[CO ([]) (p)];rw[Ca]at hv;rw[Ca];(repeat(refine jt ⟨?_⟩;refine hS.q ?_;intro _ hS));refine jt ⟨?_⟩;cases d with
    |true=>
     (repeat(refine jt ⟨?_⟩;refine hS.q ?_;intro _ hS));refine jt ⟨?_⟩;rw[show p++El (k,true,u)=p by simp[El]];cases q with
     |nil=>
      have hlp:l.length=p.length:=by simpa using hll
      refine AM.draw AK mixed (λw'=>St w [] (L1++[(b3,.cells ⟨[AG k,.bool true,AG u]⟩ Bs (0,0))]) w') [] [0,1,2,3,4,5,6,7,8,9,10,11,12,13] AD hS.drew ?_;have hS:=hS.drew;generalize w3.drew=w3 at hS;refine jr ⟨?_⟩;rw[show l.length-((p.length:Nat):Int).toNat=([]:List AO).length by simp;omega];refine St.app (sz:=3) (m:=(([]:List AO)).length) AK rfl rfl rfl rfl hS hv (news:=(([]:List AO)).flatMap BM) (Dg _) (Arr.nil _ _ _) (Ew _) (by show(_+_)*40≤_;(try simp);(try omega)) (by(try simp);(try omega)) ?_
      intro a1 c1 L1 w3 hv hS;rw[←DO,CO]at hv;rw[CO (p) (([]:List AO))];(repeat(refine jt ⟨?_⟩;refine hS.q ?_;intro _ hS));refine jt ⟨?_⟩;exact⟨a1,c1,L1,rfl,hv,hS.sub (CD _ _)⟩
     |cons x q=>
      have hlp:l.length=p.length+(q.length+1):=by simpa using hll
      have haq:Arr w [] (CU g off p.length cap 3) ((x::q).flatMap BM):=by
       rw[hpq,DO]at ha;exact Arr.dropS (k:=p.length) ha (Dg _) λ_=>AA
      have haq':Arr w [] (CU g off (p.length+1) cap 3) (q.flatMap BM):=by
       rw[hpq,show p++x::q=(p++[x])++q by simp,DO]at ha;refine Arr.dropS (k:=p.length+1) ha (by rw[Dg];simp) λh=>?_;cases q with
       |nil=>exact absurd rfl h
       |cons y q=>simp at hlp;omega
      have hkx:(l.flatMap BM)[p.length*3]?=some (AG x.1):=by
       have:=LW l p.length AA;rw[this];subst hpq;simp
      by_cases hxk:x.1=k
      ·refine AM.draw AK mixed (λw'=>St w [] (L1++[(b3,.cells ⟨[AG k,.bool true,AG u]⟩ Bs (0,0))]) w') [] [0,1,2,3,4,5,6,7,8,9,10,11,12,13] AD hS.drew ?_;have hS:=hS.drew;generalize w3.drew=w3 at hS;refine jr ⟨?_⟩;refine Arr.ldcC ha hkx AB ?_;refine jr ⟨?_⟩;rw[show Ea k (x::q)=q by rw[HT,if_pos hxk]];rw[show l.length-((p.length:Nat)+1:Int).toNat=q.length by omega];rw[show((p.length:Nat)+1:Int).toNat=p.length+1 by omega]
       refine St.app (sz:=3) (m:=(q).length) AK rfl rfl rfl rfl hS hv (news:=(q).flatMap BM) (Dg _) (hS.arrOld haq') (Ew _) (by show(_+_)*40≤_;(try simp);(try omega)) (by(try simp);(try omega)) ?_;intro a1 c1 L1 w3 hv hS;rw[←DO,CO]at hv;rw[CO (p) (q)];(repeat(refine jt ⟨?_⟩;refine hS.q ?_;intro _ hS));refine jt ⟨?_⟩;exact⟨a1,c1,L1,rfl,hv,hS.sub (CD _ _)⟩
      ·refine AM.draw AK mixed (λw'=>St w [] (L1++[(b3,.cells ⟨[AG k,.bool true,AG u]⟩ Bs (0,0))]) w') [] [0,1,2,3,4,5,6,7,8,9,10,11,12,13] AD hS.drew ?_;have hS:=hS.drew;generalize w3.drew=w3 at hS;refine jr ⟨?_⟩;refine Arr.ldcC ha hkx AB ?_;refine jr ⟨?_⟩;rw[show Ea k (x::q)=x::q by rw[HT,if_neg hxk]];rw[show l.length-((p.length:Nat):Int).toNat=(x::q).length by simp;omega];refine St.app (sz:=3) (m:=(x::q).length) AK rfl rfl rfl rfl hS hv (news:=(x::q).flatMap BM) (Dg _) (hS.arrOld haq) (Ew _) (by show(_+_)*40≤_;(try simp);(try omega)) (by(try simp);(try omega)) ?_
       intro a1 c1 L1 w3 hv hS;rw[←DO,CO]at hv;rw[CO (p) (x::q)];(repeat(refine jt ⟨?_⟩;refine hS.q ?_;intro _ hS));refine jt ⟨?_⟩;exact⟨a1,c1,L1,rfl,hv,hS.sub (CD _ _)⟩
    |false=>
     (repeat(refine jt ⟨?_⟩;refine hS.q ?_;intro _ hS));refine jt ⟨?_⟩;refine hS.al ?_;intro r w4 _ hS;(repeat(refine jt ⟨?_⟩;refine hS.q ?_;intro _ hS));refine jt ⟨?_⟩;refine St.app (sz:=3) (m:=([(k,u)]).length) AK rfl rfl rfl rfl hS hv (news:=([(k,u)]).flatMap BM) (Dg _) (by have:=hS.arr (b:=r) (T':=[]) AB;exact this) (Ew _) (by show(_+_)*40≤_;(try simp);(try omega)) (by(try simp);(try omega)) ?_
     intro a1 c1 L1 w3 hv hS;rw[←DO,CO]at hv;rw[CO (p) ([(k,u)])];have hS:St w [] (L1++[(b3,.cells ⟨[AG k,.bool false,AG u]⟩ Bs (0,0))]) w3:=hS.sub (AS _ _);(repeat(refine jt ⟨?_⟩;refine hS.q ?_;intro _ hS));refine jt ⟨?_⟩;rw[show p++El (k,false,u)=p++[(k,u)] by simp[El]];cases q with
     |nil=>
      have hlp:l.length=p.length:=by simpa using hll
      refine AM.draw AK mixed (λw'=>St w [] (L1++[(b3,.cells ⟨[AG k,.bool false,AG u]⟩ Bs (0,0))]) w') [] [0,1,2,3,4,5,6,7,8,9,10,11,12,13] AD hS.drew ?_;have hS:=hS.drew;generalize w3.drew=w3 at hS;refine jr ⟨?_⟩;rw[show l.length-((p.length:Nat):Int).toNat=([]:List AO).length by simp;omega];refine St.app (sz:=3) (m:=(([]:List AO)).length) AK rfl rfl rfl rfl hS hv (news:=(([]:List AO)).flatMap BM) (Dg _) (Arr.nil _ _ _) (Ew _) (by show(_+_)*40≤_;(try simp);(try omega)) (by(try simp);(try omega)) ?_
      intro a1 c1 L1 w3 hv hS;rw[←DO,CO]at hv;rw[CO (p++[(k,u)]) (([]:List AO))];(repeat(refine jt ⟨?_⟩;refine hS.q ?_;intro _ hS));refine jt ⟨?_⟩;exact⟨a1,c1,L1,rfl,hv,hS.sub (CD _ _)⟩
     |cons x q=>
      have hlp:l.length=p.length+(q.length+1):=by simpa using hll
      have haq:Arr w [] (CU g off p.length cap 3) ((x::q).flatMap BM):=by
       rw[hpq,DO]at ha;exact Arr.dropS (k:=p.length) ha (Dg _) λ_=>AA
      have haq':Arr w [] (CU g off (p.length+1) cap 3) (q.flatMap BM):=by
       rw[hpq,show p++x::q=(p++[x])++q by simp,DO]at ha;refine Arr.dropS (k:=p.length+1) ha (by rw[Dg];simp) λh=>?_;cases q with
       |nil=>exact absurd rfl h
       |cons y q=>simp at hlp;omega
      have hkx:(l.flatMap BM)[p.length*3]?=some (AG x.1):=by
       have:=LW l p.length AA;rw[this];subst hpq;simp
      by_cases hxk:x.1=k
      ·refine AM.draw AK mixed (λw'=>St w [] (L1++[(b3,.cells ⟨[AG k,.bool false,AG u]⟩ Bs (0,0))]) w') [] [0,1,2,3,4,5,6,7,8,9,10,11,12,13] AD hS.drew ?_;have hS:=hS.drew;generalize w3.drew=w3 at hS;refine jr ⟨?_⟩;refine Arr.ldcC ha hkx AB ?_;refine jr ⟨?_⟩;rw[show Ea k (x::q)=q by rw[HT,if_pos hxk]];rw[show l.length-((p.length:Nat)+1:Int).toNat=q.length by omega];rw[show((p.length:Nat)+1:Int).toNat=p.length+1 by omega]
       refine St.app (sz:=3) (m:=(q).length) AK rfl rfl rfl rfl hS hv (news:=(q).flatMap BM) (Dg _) (hS.arrOld haq') (Ew _) (by show(_+_)*40≤_;(try simp);(try omega)) (by(try simp);(try omega)) ?_;intro a1 c1 L1 w3 hv hS;rw[←DO,CO]at hv;rw[CO (p++[(k,u)]) (q)];(repeat(refine jt ⟨?_⟩;refine hS.q ?_;intro _ hS));refine jt ⟨?_⟩;exact⟨a1,c1,L1,rfl,hv,hS.sub (CD _ _)⟩
      ·refine AM.draw AK mixed (λw'=>St w [] (L1++[(b3,.cells ⟨[AG k,.bool false,AG u]⟩ Bs (0,0))]) w') [] [0,1,2,3,4,5,6,7,8,9,10,11,12,13] AD hS.drew ?_;have hS:=hS.drew;generalize w3.drew=w3 at hS;refine jr ⟨?_⟩;refine Arr.ldcC ha hkx AB ?_;refine jr ⟨?_⟩;rw[show Ea k (x::q)=x::q by rw[HT,if_neg hxk]];rw[show l.length-((p.length:Nat):Int).toNat=(x::q).length by simp;omega];refine St.app (sz:=3) (m:=(x::q).length) AK rfl rfl rfl rfl hS hv (news:=(x::q).flatMap BM) (Dg _) (hS.arrOld haq) (Ew _) (by show(_+_)*40≤_;(try simp);(try omega)) (by(try simp);(try omega)) ?_
       intro a1 c1 L1 w3 hv hS;rw[←DO,CO]at hv;rw[CO (p++[(k,u)]) (x::q)];(repeat(refine jt ⟨?_⟩;refine hS.q ?_;intro _ hS));refine jt ⟨?_⟩;exact⟨a1,c1,L1,rfl,hv,hS.sub (CD _ _)⟩
structure Pi(w:World)(a:Option Addr)(cap:Nat)(l:List AO):Prop where
 arr:Arr w [] a (l.flatMap BM)
 addr:a=none∨ ∃g off,a=some ⟨g,off,none⟩
 cap:l.length≤cap
 sorted:l.Pairwise EP
theorem Pi.keep{w0 w:World}{H:AH}(hS:St w0 [] H w){a:Option Addr}{cap:Nat}{l:List AO}(h:Pi w0 a cap l):Pi w a cap l:=⟨hS.arrOld h.arr,h.addr,h.cap,h.sorted⟩
structure WI where
 l:List AO
 k:Nat
 a:Option Addr
 c:Nat
end Go.Proofs.YtkgibdhpijdbfaaGreatDoor
namespace Go.Proofs.YtkgibdhpijdbfaaGreatDoor
open Go Go.Eng Go.Proofs Go.Srt
theorem Bw.part{w0 w:World}{T:List Nat}{H L:AH}{F:AH→AH}(h:Bw w0 T)(hS:St w0 T H w) [hc:Chunk H L F]:Bw w (keys L):=(h.step hS).sub λb hb=>by
 obtain⟨X,Y,h1, -⟩:=hc.at_;rw[h1];unfold keys at hb⊢;rw[A7,A7];exact FN _ (Eg _ hb)
theorem NJ(l:List AO):(l.map Dh).length=l.length:=BZ ..
set_option maxRecDepth 8000 in
theorem WQ{w:World}(hG:Bw w []):Cl Tryz.prog qC [] w λv w'=>v= .bool true∧St w [] [] w':=by
 have hS:=St.start w;refine kO rfl ?_;(repeat(refine jt ⟨?_⟩;refine hS.q ?_;intro _ hS));refine jt ⟨?_⟩;refine Pc.mono ?_;rintro _ w1⟨f,L0,rfl, -,hF,hS'⟩;have hS:=hS.callNew hS';rw[BT]at hS;(repeat(refine jt ⟨?_⟩;refine hS.q ?_;intro _ hS));refine jt ⟨?_⟩;refine Cl.mono (Zc (hs:=[]) (mm:=2) (fan:=1) (c:=0) (a:=none) hF hS.holds (hG.step hS) (Arr.nil _ _ _) AC) ?_;rintro _ w2⟨sb,L1,rfl,hK,hS'⟩;have hS:=hS.call (L:=L0) hS'
 (repeat(refine jt ⟨?_⟩;refine hS.q ?_;intro _ hS));refine jt ⟨?_⟩;refine hS.al ?_;intro r w3 _ hS;(repeat(refine jt ⟨?_⟩;refine hS.q ?_;intro _ hS));refine jt ⟨?_⟩;refine Cl.mono (Sx (ops:=[([97],false,[49]),([98],false,[50])]) (cp:=2) hK (hS.part (L:=L1)) (hG.part hS (L:=L1)) (hS.arr (b:=r) (Cu hS)) AC AC AC) ?_;rintro _ w4⟨rfl,L2,hK,hS'⟩;have hS:=(hS.call (L:=L1) hS').sub (AS _ _);rw[if_neg AC]at hK
 rw[if_neg AC];(repeat(refine jt ⟨?_⟩;refine hS.q ?_;intro _ hS));refine jt ⟨?_⟩;refine Cl.mono (Ze hK hS.holds AC) ?_;rintro _ w5⟨rfl,L3,hK,hS'⟩;have hS:=hS.call (L:=L2) hS';(repeat(refine jt ⟨?_⟩;refine hS.q ?_;intro _ hS));refine jt ⟨?_⟩;refine hS.al ?_;intro r2 w6 _ hS;(repeat(refine jt ⟨?_⟩;refine hS.q ?_;intro _ hS));refine jt ⟨?_⟩;refine Cl.mono (Sx (ops:=[([97],true,[]),([99],false,[51])]) (cp:=2) hK (hS.part (L:=L3)) (hG.part hS (L:=L3)) (hS.arr (b:=r2) (Cu hS)) AC AC AC) ?_
 rintro _ w7⟨rfl,L4,hK,hS'⟩;have hS:=(hS.call (L:=L3) hS').sub (AS _ _);rw[if_neg AC]at hK;rw[if_neg AC];(repeat(refine jt ⟨?_⟩;refine hS.q ?_;intro _ hS));refine jt ⟨?_⟩;refine Cl.mono (Zd hK hS.holds [] []) ?_;rintro _ w8⟨a8,c8,Lv,rfl,hv,hS'⟩;have hS:=hS.call (L:=L4) hS';(repeat(refine jt ⟨?_⟩;refine hS.q ?_;intro _ hS));refine jt ⟨?_⟩;refine Cl.mono (Zb hK (hS.part (L:=L4)) (0+1) [97] AC) ?_;rintro v w9⟨hvv,L5,hK,hS'⟩
 have hvv:v= .tuple ⟨[AG [49],.bool true,.int .i64 0]⟩:=hvv.trans rfl;subst hvv;have hS:=hS.call (L:=L4) hS';(repeat(refine jt ⟨?_⟩;refine hS.q ?_;intro _ hS));refine jt ⟨?_⟩;refine hS.al ?_;intro r3 w10 _ hS;(repeat(refine jt ⟨?_⟩;refine hS.q ?_;intro _ hS));refine jt ⟨?_⟩;refine Cl.mono (Nk (m:=[([98],false,[50]),([99],false,[51])]) (hv.arr hS AB) (hS.arr (b:=r3) (T':=[]) AB) AC AC) ?_;rintro v w11⟨hvv,hS'⟩
 have hvv:v= .bool true:=hvv.trans (congrArg Value.bool AC);subst hvv;have hS:=hS.call0 hS';(repeat(refine jt ⟨?_⟩;refine hS.q ?_;intro _ hS));refine jt ⟨?_⟩;exact⟨rfl,hS.nil⟩
def PW(w:World)(a:Option Addr)(bss:List (List Ac)):Prop:=∀j(h:j<bss.length),∃g off a' c',a=some ⟨g,off,none⟩∧w.cell? ⟨g,off+j,none⟩=some (.slice a' bss[j].length c')∧Arr w [] a' (bss[j].flatMap A8)
theorem PW.keep{w w':World}{H:AH}{a:Option Addr}{bss:List (List Ac)}(h:PW w a bss)(hS:St w [] H w'):PW w' a bss:=λj hj=>by
 obtain⟨g,off,a',c',h1,h2,h3⟩:=h j hj;exact⟨g,off,a',c',h1,hS.oldCell (a:=⟨g,off+j,none⟩) AB h2,hS.arrOld h3⟩
end Go.Proofs.YtkgibdhpijdbfaaGreatDoor
namespace Go.Proofs.YtkgibdhpijdbfaaGreatDoor
open Go Go.Eng Go.Proofs Go.RowKit
theorem Ya{r:List (String×DataW Unit)}{W:World}(h:laidMet Tryz.prog (("internal/strconv.uint64pow10", Rows.laid_internal_strconv_uint64pow10)::r) W):F1 W:=by
 have h:laidMet Tryz.prog (("internal/strconv.uint64pow10", Lib.tabData .u64 Lib.pow10Tab)::r) W:=h;exact Lib.tabIs_of_head (g:=3) (t:=352) (e:=159) (n:=20) AD AD AD AD AD AD h
end Go.Proofs.YtkgibdhpijdbfaaGreatDoor
namespace Go.Proofs.YtkgibdhpijdbfaaGreatDoor
open Go Go.Eng Go.Proofs Go.Srt
def Zv(t:AE)(r:Value)(w w':World):Prop:=∃v k a c L,r= .tuple ⟨[.agg ⟨C8 a c v⟩,.int .i64 (k:Nat)]⟩∧Ds a c v L∧St w [] L w'∧Rd t Cs 0 (v,k)
structure Zq where
 v:VM
 k:Nat
 a:Option Addr
 c:Nat
set_option maxRecDepth 4000 in
theorem Zw{w:World}{t:AE}(ht:t.length≤1099511627776)(hN: ∀x j,Rt t Cs 0 x j→x.files.length≤8388608):
  Cl Tryz.prog mW [AG t] w λr w'=>Zv t r w w':=by
 have hS:=St.start w;refine eW rfl ?_;refine jq ⟨?_⟩;refine hS.al ?_;intro b2 w1 _ hS;refine jq ⟨?_⟩;refine hS.al ?_;intro b4 w2 _ hS;refine jq ⟨?_⟩;have hS:St w [] ([]++[(b4,.cells ⟨[.slice none 0 0,.int .i64 0,.int .i64 0,.int .i64 0]⟩ Ec (0,0)),(b2,.cells ⟨[.slice none 0 0,.int .i64 0,.int .i64 0,.int .i64 0]⟩ Ec (0,0))]) w2:=hS;refine AM.loop (λz:Zq=>[(0,AG t),(2,ptr b2),(4,ptr b4),(5,.int .i64 z.k)])
  (λz w'=>(z.k≤t.length∧Rt t Cs 0 z.v z.k∧ ∀X,Rd t z.v z.k X→Rd t Cs 0 X)∧ ∃L,Ds z.a z.c z.v L∧St w [] (L++[(b4,.cells ⟨[.slice z.a z.v.files.length z.c,.int .i64 z.v.wal,.int .i64 z.v.next,.int .i64 z.v.seq]⟩ Ec (0,0)),(b2,.cells ⟨[.slice none 0 0,.int .i64 0,.int .i64 0,.int .i64 0]⟩ Ec (0,0))]) w') (λz=>t.length-z.k) ⟨Cs,0,none,0⟩
  ⟨rfl,rfl,rfl,rfl,trivial⟩ ⟨⟨Ag _,.refl _ _,λX h=>h⟩,[],Ds.zero,hS⟩ ?_
 clear hS;rintro⟨v1,k,a1,c1⟩w3⟨⟨hk,hfk,hto⟩,L,hvv,hS⟩;simp only at hk hfk hto hvv hS⊢;have hfn:=hN _ _ hfk;refine jq ⟨?_⟩;refine Cl.mono (Sn t k AA hk) ?_;rintro _ w4⟨rfl,hS'⟩;have hS:=hS.call0 hS';by_cases h0:(B7 t k).2.2=0
 ·have hnx:=Qn t k h0;have hstep: ∀o,next t v1 k=o→o=(match Fk (B7 t k).1 with
   |none=>none
   |some e=>match BN v1 e with
    |none=>none
    |some v'=>some (v',(B7 t k).2.1)):=by
   intro o ho;rw[←ho];unfold next;rw[if_pos h0];rfl
  have hnext:=hstep _ rfl;clear hstep;generalize hF:B7 t k=F at h0 hnx hnext⊢;obtain⟨p,en,er⟩:=F;simp only at h0 hnx hnext⊢;subst h0;refine jq ⟨?_⟩;refine Cl.mono (ZA (t:=p) AA) ?_;intro r w5 hpost;obtain⟨a9,b9,ca9,cb9,Lx,Ly,rfl,hE,hS'⟩:=hpost.out;have hS:=hS.callNew hS';rw[Aj]at hS;clear hpost;have hadd:((Fk p).getD Kd).add.length≤p.length:=by
   cases hD:Fk p with
   |none=>exact Ag _
   |some e=>exact bC hD AA
  generalize hD:Fk p=D at hE hadd hnext;unfold Du;(repeat(refine jt ⟨?_⟩;refine hS.q ?_;intro _ hS));refine jt ⟨?_⟩;refine hS.al ?_;intro r9 w6 _ hS;(repeat(refine jt ⟨?_⟩;refine hS.q ?_;intro _ hS));refine jt ⟨?_⟩;refine Cl.mono (Tn (hvv.at hS) (hE.at hS) AA) ?_;intro r w7 hpost;obtain⟨a10,c10,L10,rfl,hv10,hS'⟩:=hpost.out;have hS:=hS.callNew hS';clear hpost;have hln: ∀v',BN v1 (D.getD Kd)=some v'→v'.files.length≤v1.files.length+(D.getD Kd).add.length:=λv' h=>Nv h
  unfold C8;(repeat(refine jt ⟨?_⟩;refine hS.q ?_;intro _ hS));refine jt ⟨?_⟩;refine hS.al ?_;intro r10 w8 _ hS;(repeat(refine jt ⟨?_⟩;refine hS.q ?_;intro _ hS));refine jt ⟨?_⟩;cases D with
  |none=>
   have hno:next t v1 k=none:=hnext
   have hrd:Rd t Cs 0 (v1,k):=hto _ (.stop hno);unfold QW;(repeat(refine jt ⟨?_⟩;refine hS.q ?_;intro _ hS));refine jt ⟨?_⟩;exact⟨v1,k,a1,c1,L,rfl,hvv,(St.tl1 hS).sub ((CD L _).trans ((Ai Ly _).trans ((Ai Lx _).trans ((AS _ _).trans (Ai L10 _))))),hrd⟩
  |some e=>
   simp only[FA]at hadd hln hv10 hS⊢;have hnext':next t v1 k=(match BN v1 e with
    |none=>none
    |some v'=>some (v',en)):=hnext
   generalize BN v1 e=o at hnext' hv10 hln hS⊢;unfold QW;cases o with
   |none=>
    have hrd:Rd t Cs 0 (v1,k):=hto _ (.stop hnext');rw[I0];(repeat(refine jt ⟨?_⟩;refine hS.q ?_;intro _ hS));refine jt ⟨?_⟩;exact⟨v1,k,a1,c1,L,rfl,hvv,(St.tl1 hS).sub ((CD L _).trans ((Ai Ly _).trans ((Ai Lx _).trans ((AS _ _).trans (Ai L10 _))))),hrd⟩
   |some v2=>
    have hl2:=hln v2 rfl;have hv2:Ds a10 c10 v2 L10:=hv10;rw[Option.isSome_some];(repeat(refine jt ⟨?_⟩;refine hS.q ?_;intro _ hS));refine jt ⟨?_⟩;refine⟨⟨v2,en,a10,c10⟩,⟨rfl,rfl,rfl,rfl,trivial⟩,⟨⟨by simp only;omega,hfk.snoc hnext',λX hX=>hto X (.step hnext' hX)⟩,L10,hv2,?_⟩,by simp only;omega⟩;have hS2:=St.tl1 hS;simp only[FA]at hS2;exact hS2.sub (List.Sublist.append_left ((Ai L _).trans ((Ai Ly _).trans ((Ai Lx _).trans (AS _ _)))) L10)
 ·have hno:next t v1 k=none:=by unfold next;rw[if_neg h0]
  have hrd:Rd t Cs 0 (v1,k):=hto _ (.stop hno);(repeat(refine jt ⟨?_⟩;refine hS.q ?_;intro _ hS));refine jt ⟨?_⟩;exact⟨v1,k,a1,c1,L,rfl,hvv,hS.sub (CD _ _),hrd⟩
end Go.Proofs.YtkgibdhpijdbfaaGreatDoor
namespace Go.Proofs.YtkgibdhpijdbfaaGreatDoor
open Go Go.Eng Go.Proofs
def Fa(P:AH)(a:Option Addr)(xs:List Value):Prop:=∀w,Holds P w→Arr w [] a xs
theorem Fa.nil(P:AH):Fa P none []:=λ_ _=>Arr.nil _ _ _
theorem sB{P Q:AH}{w:World}(h:Holds P w)(hs:Q.Sublist P):Holds Q w:=⟨λp hp=>h.own p (hs.subset hp),h.nd.sublist (hs.map _)⟩
theorem Fa.more{P Q:AH}{a:Option Addr}{xs:List Value}(h:Fa P a xs)(hs:P.Sublist Q):Fa Q a xs:=λw hw=>h w (sB hw hs)
theorem Fa.vec{e:TypeId}{sz:Nat}{a:Option Addr}{n c:Nat}{xs:List Value}{L:AH}(h:AT e sz a n c xs L)(P:AH):Fa (L++P) a xs:=λw hw=>h.arr (St.enter hw) AB
theorem Fa.in{P H:AH}{a:Option Addr}{xs:List Value}(h:Fa P a xs){w0 w:World}{T:List Nat}{F:AH→AH}(hS:St w0 T H w) [hc:Chunk H P F]:Arr w [] a xs:=h w (hS.part (L:=P))
theorem sC{P L:AH}{w w':World}(hP:Holds P w)(hS:St w [] L w'):Holds (L++P) w':=((St.enter hP).callNew hS).holds
structure aW where
 l:List AO
 k:Nat
 a:Option Addr
 c:Nat
theorem TZ{w:World}{P:AH}(hP:Holds P w){a b:Option Addr}{ca cb:Nat}{l:List AO}{os:List Ac}(ha:Fa P a (l.flatMap BM))(had:a=none∨ ∃g off,a=some ⟨g,off,none⟩)(hcp:l.length≤ca)(hso:l.Pairwise EP)(hb:Arr w [] b (os.flatMap A8))(hlen:l.length+os.length≤8388608):
  Cl Tryz.prog qG [.slice a l.length ca,.slice b os.length cb] w λv w'=>∃a' c' L',v= .slice a' (Ch l os).length c'∧Fa (L'++P) a' ((Ch l os).flatMap BM)∧(a'=none∨ ∃g off,a'=some ⟨g,off,none⟩)∧(Ch l os).length≤c'∧(Ch l os).Pairwise EP∧St w [] L' w':=by
 have hS:=St.start w;refine kU rfl ?_;refine jq ⟨?_⟩;refine AM.loop (λx:aW=>[(0,.slice x.a x.l.length x.c),(7,.slice b os.length cb),(8,.int .i64 os.length),(9,.int .i64 x.k)])
  (λx w'=>x.k≤os.length∧x.l=Ch l (os.take x.k)∧ ∃L',Fa (L'++P) x.a (x.l.flatMap BM)∧(x.a=none∨ ∃g off,x.a=some ⟨g,off,none⟩)∧x.l.length≤x.c∧x.l.Pairwise EP∧St w [] L' w') (λx=>os.length-x.k) ⟨l,0,a,ca⟩
  ⟨rfl,rfl,rfl,rfl,trivial⟩ ⟨Ag _,by simp[Ch],[],ha,had,hcp,hso,hS⟩ ?_
 clear hS;rintro⟨m,k,a1,c1⟩w1⟨hk,hm,L1,hla,hlad,hlc,hls,hS⟩;simp only at hk hm hla hlad hlc hls hS⊢;by_cases hkl:k<os.length
 ·have hcl:=I7 os;obtain⟨g,off,rfl, -, -⟩:=hb.get (j:=k*3) AA;have hat:=I6 os k hkl;have hsucc:=zH l os k hkl;have hml:m.length≤l.length+os.length:=by
   have:=Yy l (os.take k);rw[Ba]at this;rw[hm];omega
  generalize os[k]=o at hat hsucc;have hb1:=hS.arrOld hb;have hS0:=hS;have hh1:=sC hP hS;clear hS;have hS:=St.start w1;refine jq ⟨?_⟩;refine Arr.ldn hS hb1 rfl (k:=k*3) hat rfl ?_;unfold A8;refine jq ⟨?_⟩;refine hS.al ?_;intro b6 w2 _ hS;(repeat(refine jt ⟨?_⟩;refine hS.q ?_;intro _ hS));refine jt ⟨?_⟩;rename_i w3;refine Cl.mono (Zp (o:=o) (Ny m o.1).symm (P0 m o.1) (P2 hls o.1) (hS.arrOld (hla _ hh1)) hlad hlc AA) ?_
  rintro _ w4⟨a4,c4,L4,rfl,hv4,hS'⟩;have hS:=hS.callNew hS';rw[show Fh m o.1++El o++Ea o.1 (E5 m o.1)=G8 m o from rfl]at hv4;rw[show Fh m o.1++El o++Ea o.1 (E5 m o.1)=G8 m o from rfl];refine jq ⟨?_⟩;have hS4:St w1 [] L4 w4:=hS.sub (CD _ _);exact⟨⟨G8 m o,k+1,a4,c4⟩,⟨rfl,rfl,rfl,rfl,trivial⟩,⟨by simp only;omega,by simp only;rw[hsucc,hm],L4,Fa.vec hv4 P,y6 hv4,hv4.cap,XY hls o,(hS0.callNew hS4).sub (CD _ _)⟩,by simp only;omega⟩
 ·have hke:k=os.length:=AA;subst hke;rw[Bz]at hm;refine jq ⟨?_⟩;rw[←hm];exact⟨a1,c1,L1,rfl,hla,hlad,hlc,hls,hS⟩
end Go.Proofs.YtkgibdhpijdbfaaGreatDoor
namespace Go.Proofs.YtkgibdhpijdbfaaGreatDoor
open Go Go.Eng Go.Proofs Go.Srt
theorem sE(now:List AO):now.filter (Ef [] [])=now:=by
 rw[KA];intro r _;unfold Ef;rw[P6];rfl
theorem sD(now:List AO)(fr to:AE):(now.map Dh).filter (EY fr to)=(now.filter (Ef fr to)).map Dh:=by
 rw[List.filter_map];rfl
end Go.Proofs.YtkgibdhpijdbfaaGreatDoor
namespace Go.Proofs.YtkgibdhpijdbfaaGreatDoor
open Go Go.Proofs
theorem V8{P:Program}{f:FuncId}{fn:Func}{s:ChangeSpec}{c:OpenClaim}
  (h1:(c.wf (OpenSpec.ofChange s)&&laidOutB P&&mapsRowed P&&fn.params.all (P.readableRec ·)&&namedTie P c.named s.vars&&(c.stops==[])&&(P.stops==[])&&(c.knobs==[])&&(P.stopKnobs==[]))=true)
  (h2:(c.inPlace==P.inPlace f)=true)(h3:(c.unfollowed==P.unfollowed f)=true)(h4:(c.recurses==P.recurses f)=true)(h5:(c.named==P.varsNamed f)=true)
  (h6:((c.maps==(fn.params.toList++s.plain.varTypes P).any (P.mapsRec ·))&&(c.ifaces==(fn.params.toList++s.plain.varTypes P).any (P.ifacesRec ·))&&(c.mapsOut==P.mapsAmong fn.resultTypes.toList)&&(c.loops==(fn.params.toList++s.plain.varTypes P).any (P.loopsFrom ·))&&(c.wideKeys==(fn.params.toList++s.plain.varTypes P++fn.resultTypes.toList).any (P.wideKeysFrom ·))&&s.vars.all (P.varReadable ·))=true)
  (h7:(fn.resultTypes.all (λt=>P.readableRec t&&decide (t<P.types.size))&&(c.ifacesOut==fn.resultTypes.toList.any (P.ifacesRec ·))&&(c.loopsOut==fn.resultTypes.toList.any (P.loopsFrom ·))&&(c.plainKeys==P.plainKeys)&&c.shortTexts.isNone&&P.stopsHeard&&P.mayEnter&&(c.lifted==P.liftsFinal)&&(P.make==some c.make))=true)
  (h8:((c.kinds==(if c.domain.isEmpty then []else fn.params.toList.map λt=>match P.underlying t with|some (.int k)=>some k|_=>none))&&(c.pinned==c.pinnedBy)&&(c.veiled==(fn.params.toList++s.plain.varTypes P++fn.resultTypes.toList).any (P.veiledRec ·))&&c.veiledFits P fn.params.toList (fn.params.toList++s.plain.varTypes P++fn.resultTypes.toList))=true):joinedFacts P f fn s c=true:=by
 unfold joinedFacts;simp only[Bool.and_eq_true]at h1 h6 h7 h8⊢;obtain⟨⟨⟨⟨⟨⟨⟨⟨a1,a2⟩,a3⟩,a4⟩,a5⟩,a6⟩,a7⟩,a8⟩,a9⟩:=h1;obtain⟨⟨⟨⟨⟨b1,b2⟩,b3⟩,b4⟩,b5⟩,b6⟩:=h6;obtain⟨⟨⟨⟨⟨⟨⟨⟨d1,d2⟩,d3⟩,d4⟩,d5⟩,d6⟩,d7⟩,d8⟩,d9⟩:=h7;obtain⟨⟨⟨f1,f2⟩,f3⟩,f4⟩:=h8;exact⟨⟨⟨⟨⟨⟨⟨⟨⟨⟨⟨⟨⟨⟨⟨⟨⟨⟨⟨⟨⟨⟨⟨⟨⟨⟨⟨⟨⟨⟨⟨a1,a2⟩,a3⟩,a4⟩,a5⟩,a6⟩,a7⟩,a8⟩,a9⟩,h2⟩,h3⟩,h4⟩,h5⟩,b1⟩,b2⟩,b3⟩,b4⟩,b5⟩,b6⟩,d1⟩,d2⟩,d3⟩,d4⟩,d5⟩,d6⟩,d7⟩,d8⟩,d9⟩,f1⟩,f2⟩,f3⟩,f4⟩
end Go.Proofs.YtkgibdhpijdbfaaGreatDoor
