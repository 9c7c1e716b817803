/- Texts of this claim, one behind the other. -/
import Derived.Test.YtkgibdhpijdbfaaGreatDoorZ30
import Derived.Test.YtkgibdhpijdbfaaGreatDoorZ27
import Derived.Test.YtkgibdhpijdbfaaGreatDoorZ16
import Derived.Test.YtkgibdhpijdbfaaGreatDoorZ8
import Derived.Test.YtkgibdhpijdbfaaGreatDoorZ29
set_option linter.unusedVariables false
set_option linter.unusedSimpArgs false
set_option maxHeartbeats 16000000
namespace Go.Proofs.YtkgibdhpijdbfaaGreatDoor
open Go Go.Eng Go.Proofs
def O9(s:AM):AM:={s with given:=s.given+1,seqs:=Ba (s.given+1) s.seq s.seqs}
def Jw(s:AM)(n:Int):Int×AM:=if(Al n s.seqs).isSome then(0,{s with seqs:=Co n s.seqs})else(3,s)
theorem TP{w:World}{sb f:Nat}{s:AM}{m:AJ}{L:AH}(hO:AW sb f s m L)(hh:Holds L w)(h1:0≤s.given)(h2:s.given≤4611686018427387904):
  Cl Tryz.prog Qf [ptr sb] w λv w'=>v= .int .i64 (s.given+1)∧ ∃L',AW sb f (O9 s) m L'∧St w (keys L) L' w':=by
 have hS:=St.enter hh;have hO0:=hO;have hSL:=hS;obtain⟨sq,es,c,hsq,ha,hc,Lh,hvh,a,ca,La,hv,lv,Ll,hl,gv,Lg,hg,mb,Lm,hm,tm,et,ct,ks,ht,Lt,hts,LF,hF⟩:=hO;generalize keys _=T0 at hS⊢;refine iI rfl ?_;(repeat(refine jt ⟨?_⟩;refine hS.q ?_;intro _ hS));refine jt ⟨?_⟩;refine AL.draw AK mixed (λw'=>St w T0 _ w') [14] [0,1,2,3,4,5,6,7,8,9,10,11,12,13,14] AD hS.drew ?_;have hS:=hS.drew;refine jr ⟨?_⟩;refine St.mapSet AK Bq.i64 rfl rfl Eo hS (v:=s.seq) hsq ?_
 intro es2 c2 w2 hsq2 hS;(repeat(refine jt ⟨?_⟩;refine hS.q ?_;intro _ hS));refine jt ⟨?_⟩;exact⟨rfl,_,AW.mk (s:=O9 s) sq es2 c2 hsq2 ha hc Lh hvh a ca La hv lv Ll hl gv Lg hg mb Lm hm tm et ct ks ht Lt hts LF hF,hS⟩
theorem Y8{w:World}{sb f:Nat}{s:AM}{m:AJ}{L:AH}(hO:AW sb f s m L)(hh:Holds L w)(n:Int):
  Cl Tryz.prog U9 [ptr sb,.int .i64 n] w λv w'=>v= .int .i64 (Jw s n).1∧ ∃L',AW sb f (Jw s n).2 m L'∧St w (keys L) L' w':=by
 have hS:=St.enter hh;have hO0:=hO;have hSL:=hS;obtain⟨sq,es,c,hsq,ha,hc,Lh,hvh,a,ca,La,hv,lv,Ll,hl,gv,Lg,hg,mb,Lm,hm,tm,et,ct,ks,ht,Lt,hts,LF,hF⟩:=hO;generalize keys _=T0 at hS⊢;refine iZ rfl ?_;unfold Jw;(repeat(refine jt ⟨?_⟩;refine hS.q ?_;intro _ hS));refine jt ⟨?_⟩;have hlk:((Al n s.seqs).map AY).getD (.int .i64 0)= .int .i64 ((Al n s.seqs).getD 0):=by cases Al n s.seqs<;>rfl
 refine IT AK Bq.i64 rfl rfl Eo rfl (kvs:=s.seqs) (λw' hw'=>⟨es,c,by subst hw';exact hS.mem (b:=sq),hsq.of⟩) ?_;simp only[hlk];cases hk:(Al n s.seqs).isSome with
 |true=>
  rw[if_pos rfl];(repeat(refine jt ⟨?_⟩;refine hS.q ?_;intro _ hS));refine jt ⟨?_⟩;refine St.mapDel AK Bq.i64 rfl rfl Eo hS hsq ?_;intro es2 c2 w5 hsq2 hS;(repeat(refine jt ⟨?_⟩;refine hS.q ?_;intro _ hS));refine jt ⟨?_⟩;exact⟨rfl,_,AW.mk (s:={s with seqs:=Co n s.seqs}) sq es2 c2 hsq2 ha hc Lh hvh a ca La hv lv Ll hl gv Lg hg mb Lm hm tm et ct ks ht Lt hts LF hF,hS⟩
 |false=>
  rw[if_neg AB];(repeat(refine jt ⟨?_⟩;refine hS.q ?_;intro _ hS));refine jt ⟨?_⟩;exact⟨rfl,_,hO0,hS⟩
def DX(s:AM)(m:AJ)(n:Int):Int×Int:=if(s.dead||m.off)=true then(0,7)else match Al n s.seqs with|none=>(0,3)|some q=>(q,0)
def ID(s:AM)(m:AJ):AM:=if(s.dead||m.off)=true then{s with dead:=true}else s
theorem Kh{s:AM}{m:AJ}(_h:(s.dead||m.off)=true):Dj s m 7=(7,{s with dead:=true}):=by
 unfold Dj;rw[if_pos AB]
theorem Tt{w:World}{sb f:Nat}{s:AM}{m:AJ}{L:AH}(hO:AW sb f s m L)(hh:Holds L w)(n:Int):
  Cl Tryz.prog o7 [ptr sb,.int .i64 n] w λv w'=>v= .tuple ⟨[.int .i64 (DX s m n).1,.int .i64 (DX s m n).2]⟩∧ ∃L',AW sb f (ID s m) m L'∧St w (keys L) L' w':=by
 have hS:=St.enter hh;refine iK rfl ?_;unfold DX ID;refine jq ⟨?_⟩;refine(H8 hO hS.holds).mono ?_;rintro _ w1⟨rfl,hS'⟩;have hS:=hS.call hS';cases hd:(s.dead||m.off)with
 |true=>
  rw[if_pos rfl,if_pos rfl];refine jq ⟨?_⟩;refine(He hO hS.holds 7).mono ?_;rw[Kh hd];rintro _ w2⟨rfl,L2,hO2,hS'⟩;have hS:=hS.call hS';refine jq ⟨?_⟩;exact⟨rfl,L2,hO2,hS⟩
 |false=>
  rw[if_neg AB,if_neg AB];have hS0:=hS;have hO0:=hO;obtain⟨sq,es,c,hsq,ha,hc,Lh,hvh,a,ca,La,hv,lv,Ll,hl,gv,Lg,hg,mb,Lm,hm,tm,et,ct,ks,ht,Lt,hts,LF,hF⟩:=hO;generalize keys _=T0 at hS⊢;(repeat(refine jt ⟨?_⟩;refine hS.q ?_;intro _ hS));refine jt ⟨?_⟩;have hlk:((Al n s.seqs).map AY).getD (.int .i64 0)= .int .i64 ((Al n s.seqs).getD 0):=by cases Al n s.seqs<;>rfl
  refine IT AK Bq.i64 rfl rfl Eo rfl (kvs:=s.seqs) (λw' hw'=>⟨es,c,by subst hw';exact hS.mem (b:=sq),hsq.of⟩) ?_;simp only[hlk];cases hk:Al n s.seqs with
  |some q=>
   simp only[Option.isSome_some];(repeat(refine jt ⟨?_⟩;refine hS.q ?_;intro _ hS));refine jt ⟨?_⟩;exact⟨rfl,_,hO0,hS⟩
  |none=>
   simp only[Iy];(repeat(refine jt ⟨?_⟩;refine hS.q ?_;intro _ hS));refine jt ⟨?_⟩;exact⟨rfl,_,hO0,hS⟩
end Go.Proofs.YtkgibdhpijdbfaaGreatDoor
namespace Go.Proofs.YtkgibdhpijdbfaaGreatDoor
open Go Go.Eng Go.Proofs Go.Srt
def Kj(e:EM):Value:=if DA e then .tuple ⟨[AG (Am e),.int .i64 0]⟩else .tuple ⟨[AG [],.int .i64 11]⟩
theorem qS(l:List Af)(k:Nat)(hk:k<l.length):DZ (l.take (k+1))=DZ (l.take k)++Hl l[k]:=by
 unfold DZ;rw[Bs hk,A7,GW];simp
theorem Mn(z:Int)(h:CA z):(Bh z).length≤10:=EP _ (Lk h)
theorem Qk(l:List Af)(h: ∀f∈l,CA f.1∧CA f.2):(DZ l).length≤20*l.length:=by
 induction l with
 |nil=>simp[DZ]
 |cons f l ih=>
  have h1:=h f AB;have h2:=Mn _ h1.1;have h3:=Mn _ h1.2;have h4:=ih λg hg=>h g (by simp[hg]);simp only[DZ,Hl,A4,Dc,AP,Ai]at h4⊢;omega
theorem sM(f:Af):Ci [f.1,f.2]=Hl f:=by simp[Ci,Hl]
theorem y6{f:Af}(h:CA f.1∧CA f.2): ∀z∈[f.1,f.2],CA z:=by
 intro z hz;simp only[As,List.mem_nil_iff,or_false]at hz;rcases hz with rfl|rfl
 ·exact h.1
 ·exact h.2
theorem NS{w:World}{a b:Option Addr}{ca cb:Nat}{e:EM}(he:Hc w a b ca cb e)(ho:ER e):
  Cl Tryz.prog mS [.agg ⟨Dv a b ca cb e⟩] w λv w'=>v=Kj e∧St w [] [] w':=by
 have hS:=St.start w;have hl:=he.len;have hcl:=G4 e.add;have hfl:=Qk e.add ho.add;have hil:=OU e.del ho.del;have hn1:=EP e.add.length AA;have hn2:=EP e.del.length AA;unfold Dv Kj;refine eO rfl ?_;refine jq ⟨?_⟩;refine hS.al ?_;intro b1 w1 _ hS;(repeat(refine jt ⟨?_⟩;refine hS.q ?_;intro _ hS));refine jt ⟨?_⟩;refine(Rx (he.keep hS)).mono ?_;rintro _ w2⟨rfl,hS'⟩;have hS:=hS.call0 hS';cases hr:DA e with
 |false=>
  (repeat(refine jt ⟨?_⟩;refine hS.q ?_;intro _ hS));refine jt ⟨?_⟩;exact⟨rfl,hS.nil⟩
 |true=>
  (repeat(refine jt ⟨?_⟩;refine hS.q ?_;intro _ hS));refine jt ⟨?_⟩;refine Cl.mono MH ?_;rintro _ w3⟨pb,L,rfl,hW,hS'⟩;have hS:=hS.callNew hS';(repeat(refine jt ⟨?_⟩;refine hS.q ?_;intro _ hS));refine jt ⟨?_⟩;refine hS.al ?_;intro r w4 _ hS;(repeat(refine jt ⟨?_⟩;refine hS.q ?_;intro _ hS));refine jt ⟨?_⟩;refine Cl.mono (Gg hW (hS.part (L:=L)) (ns:=[e.add.length]) (hS.arr (b:=r) (Cp hS)) (by intro n hn;simp only[As,List.mem_nil_iff,or_false]at hn;subst hn;omega) AB AB) ?_
  rintro _ w5⟨L1,hW,hS'⟩;have hS:=hS.call (L:=L) hS';have hW:DO pb (Ak e.add.length) L1:=by simpa using hW
  have hS:=St.tl1 hS;(repeat(refine jt ⟨?_⟩;refine hS.q ?_;intro _ hS));refine jt ⟨?_⟩;refine AL.loop (λk:Nat=>[(1,ptr b1),(4,ptr pb),(19,.slice a e.add.length ca),(20,.int .i64 e.add.length),(21,.int .i64 k)])
   (λk w'=>k≤e.add.length∧ ∃L,DO pb (Ak e.add.length++DZ (e.add.take k)) L∧St w [] (L++[(b1,.cells ⟨[.slice a e.add.length ca,.slice b e.del.length cb,.int .i64 e.wal,.int .i64 e.next,.int .i64 e.seq]⟩ Bu (0,0))]) w') (λk=>e.add.length-k) 0
   ⟨rfl,rfl,rfl,rfl,rfl,trivial⟩ ⟨Ag _,L1,by simpa[DZ]using hW,hS⟩ ?_
  clear hS hW hS';rintro k w6⟨hk,L2,hW,hS⟩;have htl:=Qk (e.add.take k) λf hf=>ho.add f (HN hf);rw[BR]at htl;by_cases hkl:k<e.add.length
  ·obtain⟨g,off,rfl⟩:=he.add.pos AA;have hat:=he.add.at hkl;have hsucc:=qS e.add k hkl;have hfo:=ho.add _ (Ca hkl);generalize e.add[k]=f at hat hsucc hfo;refine jq ⟨?_⟩;refine Arr.ldn hS he.add.arr rfl (k:=k*2) hat rfl ?_;unfold Ad;refine jq ⟨?_⟩;refine hS.al ?_;intro b6 w7 _ hS;(repeat(refine jt ⟨?_⟩;refine hS.q ?_;intro _ hS));refine jt ⟨?_⟩;refine hS.al ?_;intro r2 w8 _ hS;(repeat(refine jt ⟨?_⟩;refine hS.q ?_;intro _ hS));refine jt ⟨?_⟩
   refine Cl.mono (MF hW (hS.part (L:=L2)) (zs:=[f.1,f.2]) (hS.arr (b:=r2) (Cp hS)) (y6 hfo) AB (by simp only[AP,Ai,Bo];omega)) ?_;rintro _ w9⟨L3,hW,hS'⟩;have hS:=hS.call (L:=L2) hS';refine jq ⟨?_⟩;exact⟨k+1,⟨rfl,rfl,rfl,rfl,rfl,trivial⟩,⟨AA,L3,by rw[hsucc,←Aj,←sM];exact hW,St.tl2 hS⟩,AA⟩
  ·have hke:k=e.add.length:=AA;subst hke;rw[Bz]at hW htl;(repeat(refine jt ⟨?_⟩;refine hS.q ?_;intro _ hS));refine jt ⟨?_⟩;refine hS.al ?_;intro r w7 _ hS;(repeat(refine jt ⟨?_⟩;refine hS.q ?_;intro _ hS));refine jt ⟨?_⟩;refine Cl.mono (Gg hW (hS.part (L:=L2)) (ns:=[e.del.length]) (hS.arr (b:=r) (Cp hS)) (by intro n hn;simp only[As,List.mem_nil_iff,or_false]at hn;subst hn;omega) AB (by simp only[AP,Ai,Bo];omega)) ?_
   rintro _ w8⟨L3,hW,hS'⟩;have hS:=hS.call (L:=L2) hS';have hW:DO pb (Ak e.add.length++DZ e.add++Ak e.del.length) L3:=by simpa using hW
   have hS:=St.tl1 hS;(repeat(refine jt ⟨?_⟩;refine hS.q ?_;intro _ hS));refine jt ⟨?_⟩;refine Cl.mono (MF hW (hS.part (L:=L3)) (zs:=e.del) (St.arrNew hS he.del) ho.del AA (by simp only[AP];omega)) ?_;rintro _ w9⟨L4,hW,hS'⟩;have hS:=hS.call (L:=L3) hS';(repeat(refine jt ⟨?_⟩;refine hS.q ?_;intro _ hS));refine jt ⟨?_⟩;refine hS.al ?_;intro r2 w10 _ hS;(repeat(refine jt ⟨?_⟩;refine hS.q ?_;intro _ hS));refine jt ⟨?_⟩
   refine Cl.mono (MF hW (hS.part (L:=L4)) (zs:=[e.wal,e.next,e.seq]) (hS.arr (b:=r2) (Cp hS)) (by
    intro z hz;simp only[As,List.mem_nil_iff,or_false]at hz;rcases hz with rfl|rfl|rfl
    ·exact ho.wal
    ·exact ho.next
    ·exact ho.seq) AB (by simp only[AP,Ai,Bo];omega)) ?_
   rintro _ w11⟨L5,hW,hS'⟩;have hS:=hS.call (L:=L4) hS';(repeat(refine jt ⟨?_⟩;refine hS.q ?_;intro _ hS));refine jt ⟨?_⟩;refine Cl.mono (Lz hW (hS.part (L:=L5))) ?_;rintro _ w12⟨rfl,hS'⟩;have hS:=hS.call (L:=L5) hS';(repeat(refine jt ⟨?_⟩;refine hS.q ?_;intro _ hS));refine jt ⟨?_⟩;refine⟨?_,hS.nil⟩;simp[Am,Ci]
structure zU where
 k:Nat
 out:AE
 a:Option Addr
 c:Nat
theorem dG(v:VM):(JQ v).length=EV v:=by simp[JQ]
theorem JP(v:VM):(Ay v).length=EV v:=by simp[Ay,dG]
theorem dF(v:VM)(k:Nat)(hk:k<EV v):(Ay v).take (k+1)=(Ay v).take k++[Am (C6 v k)]:=by
 have h:k<(Ay v).length:=by rw[JP];exact hk
 rw[Bs h];simp[Ay,JQ]
theorem wO{v:VM}(h:DA (Ep v)=true)(i:Nat):DA (C6 v i)=true:=by
 unfold DA at h⊢;simp only[Bool.and_eq_true,C8]at h⊢;exact⟨⟨λf hf=>h.1.1 f (List.mem_of_mem_drop (HN hf)),h.1.2⟩,h.2⟩
theorem M0{v:VM}(h:ER (Ep v))(i:Nat):ER (C6 v i):=
 {h with add:=λf hf=>h.add f (List.mem_of_mem_drop (HN hf))}
theorem qU{w:World}{a:Option Addr}{c:Nat}{l:List Af}(ha:Arr w [] a (l.flatMap Ad))(hc:l.length≤c){g off:Nat}(he:a=some ⟨g,off,none⟩){p n:Nat}(hp:p+n≤l.length):
  Arr w [] (CV g off p c 2) (((l.drop p).take n).flatMap Ad):=by
 subst he;have e1:l.flatMap Ad=(l.take p).flatMap Ad++(l.drop p).flatMap Ad:=by rw[←VQ,CO]
 rw[e1]at ha;have hlen:=G4 (l.take p);rw[BR,Nat.min_eq_left AA]at hlen;have h1:=ha.dropS (k:=p) (sz:=2) (cap:=c) hlen (λh=>by
  rcases Nat.lt_or_ge p l.length with h2|h2
  ·omega
  ·rw[List.drop_of_length_le h2]at h;exact absurd rfl h)
 have e2:(l.drop p).flatMap Ad=((l.drop p).take n).flatMap Ad++((l.drop p).drop n).flatMap Ad:=by rw[←VQ,CO]
 intro j x hx;have hj:((l.drop p).flatMap Ad)[j]?=some x:=by
  rw[e2,Cn (FR.1 hx).1];exact hx
 exact h1 j x hj
theorem UX{w:World}{g c:Nat}{v:VM}(ha:Arr w [] (some ⟨g,0,none⟩) (v.files.flatMap Ad))(hc:v.files.length≤c)(k:Nat)(hk:k*2000≤v.files.length):Arr w [] (CV g 0 (k*2000) c 2) ((C6 v k).add.flatMap Ad):=by
 have e3:(v.files.drop (k*2000)).take (min 2000 (v.files.length-k*2000))=(C6 v k).add:=by
  show _=(v.files.drop (k*2000)).take 2000;rw[←Do,←List.take_eq_take_min]
 generalize(C6 v k).add=q at e3⊢;generalize k*2000=p at hk e3⊢;subst e3;exact qU ha hc rfl AA
structure EI where
 k:Nat
 a:Option Addr
 c:Nat
set_option maxRecDepth 4000 in
theorem TM{w:World}{a:Option Addr}{ca:Nat}{v:VM}(hv:G0 w a ca v)(hr:DA (Ep v)=true)(ho:ER (Ep v))(hl:v.files.length≤8388608):
  Cl Tryz.prog pH [.agg ⟨DC a ca v⟩] w λr w'=>∃a' c' L,r= .slice a' (Ay v).length c'∧AT C3 1 a' (Ay v).length c' ((Ay v).map AG) L∧St w [] L w':=by
 have hS:=St.start w;have hwh:=λ(w:World)(hv:G0 w a ca v)=>aP hv AA;rw[JP];unfold DC;refine iY rfl ?_;refine jq ⟨?_⟩;refine hS.al ?_;intro b1 w1 _ hS;(repeat(refine jt ⟨?_⟩;refine hS.q ?_;intro _ hS));refine jt ⟨?_⟩;refine Cl.mono (hwh _ ⟨hv.files.keep hS.nil,hv.rng⟩) ?_;rintro _ w2⟨a3,c3,L3,rfl,hv3,hS'⟩;have hS:=hS.callNew hS';unfold Dv Ep;(repeat(refine jt ⟨?_⟩;refine hS.q ?_;intro _ hS));refine jt ⟨?_⟩
 refine hS.al ?_;intro b3 w3 _ hS;(repeat(refine jt ⟨?_⟩;refine hS.q ?_;intro _ hS));refine jt ⟨?_⟩;have hst:St w [] ([]++((b3,.cells ⟨[.slice a3 v.files.length c3,.slice none 0 0,.int .i64 v.wal,.int .i64 v.next,.int .i64 v.seq]⟩ Bu (0,0))::(L3++[]))) _:=hS.sub (.cons_cons _ (List.Sublist.append (.refl _) (List.nil_sublist _)));clear hS hS';have hN1:1≤EV v:=by unfold EV;omega
 refine AL.loop (λz:EI=>[(2,.slice none 0 0),(3,ptr b3),(4,.slice z.a z.k z.c),(5,.int .i64 ((z.k*2000:Nat):Int))])
  (λz w'=>z.k≤EV v∧ ∃Lx,AT C3 1 z.a z.k z.c (((Ay v).take z.k).map AG) Lx∧St w [] (Lx++((b3,.cells ⟨[.slice a3 v.files.length c3,.slice none 0 0,.int .i64 v.wal,.int .i64 v.next,.int .i64 v.seq]⟩ Bu (0,0))::(L3++[]))) w') (λz=>EV v-z.k) ⟨0,none,0⟩
  ⟨rfl,rfl,rfl,rfl,trivial⟩ ⟨Ag _,[],AT.nil,hst⟩ ?_
 clear hst;rintro⟨k,a4,c4⟩w4⟨hk,Lx,hV,hS⟩;simp only at hk hV hS⊢;have hNe:EV v=max 1 ((v.files.length+1999) / 2000):=rfl;by_cases hkl:k<EV v
 ·have hkn:k*2000≤v.files.length:=AA;have hsucc:=dF v k hkl;have hrp:=wO hr k;have hop:=M0 ho k;have hpl:(C6 v k).add.length=min 2000 (v.files.length-k*2000):=by
   show((v.files.drop (k*2000)).take 2000).length=_;rw[BR,Do]
  have hcond:k=0∨k*2000<v.files.length:=AA;have e1:(if(v.files.length:Int)<((k*2000:Nat):Int)then(v.files.length:Int)else((k*2000:Nat):Int)).toNat=k*2000:=by rw[if_neg AA];exact Int.toNat_natCast _
  have e2:(if(v.files.length:Int)<((k*2000:Nat):Int)+2000 then(v.files.length:Int)else((k*2000:Nat):Int)+2000).toNat-k*2000=(C6 v k).add.length:=by rw[hpl];split<;>omega
  rcases hv3.inv with⟨rfl,hn0,rfl, -,rfl⟩|⟨g3,l3,rfl, -, -,hc3,rfl⟩
  ·have hk0:k=0:=AA;(repeat(refine jt ⟨?_⟩;refine hS.q ?_;intro _ hS));refine jt ⟨?_⟩;refine hS.al ?_;intro b6 w5 _ hS;(repeat(refine jt ⟨?_⟩;refine hS.q ?_;intro _ hS));refine jt ⟨?_⟩;rw[e1]at hS⊢;rw[e2]at hS⊢;have hea: ∀(w2:World),Hc w2 none none (0-k*2000) 0 (C6 v k):=λw2=>⟨⟨by
    have:(C6 v k).add=[]:=Is AA;rw[this];exact Arr.nil _ _ _,AA⟩,Arr.nil _ _ _,AV _,by show(C6 v k).add.length+0≤_;omega,hv.rng⟩
   (repeat(refine jt ⟨?_⟩;refine hS.q ?_;intro _ hS));refine jt ⟨?_⟩;refine Cl.mono (NS (hea _) hop) ?_;rintro _ w6⟨rfl,hS'⟩;have hS:=hS.call0 hS';unfold Kj;rw[if_pos hrp];generalize Am (C6 v k)=t at hsucc⊢;(repeat(refine jt ⟨?_⟩;refine hS.q ?_;intro _ hS));refine jt ⟨?_⟩;refine hS.al ?_;intro b45 w7 _ hS;(repeat(refine jt ⟨?_⟩;refine hS.q ?_;intro _ hS));refine jt ⟨?_⟩;refine St.app (sz:=1) (m:=1) AK rfl rfl rfl rfl hS hV (news:=[AG t]) rfl (by have:=hS.arr (b:=b45) (T':=[]) AB;exact this) rfl (by show(_+_)*16≤_;omega) AA ?_
   intro a5 c5 L5 w8 hV5 hS;(repeat(refine jt ⟨?_⟩;refine hS.q ?_;intro _ hS));refine jt ⟨?_⟩;have hS:=hS.sub ((AS _ _).trans (AS _ _));refine⟨⟨k+1,a5,c5⟩,⟨rfl,rfl,rfl,by rw[show(((k+1)*2000:Nat):Int)=((k*2000:Nat):Int)+2000 by omega];rfl,trivial⟩,⟨hkl,L5,by rw[hsucc,A7];exact hV5,hS⟩,by simp only;omega⟩
  ·by_cases hk0:k=0
   ·(repeat(refine jt ⟨?_⟩;refine hS.q ?_;intro _ hS));refine jt ⟨?_⟩;refine hS.al ?_;intro b6 w5 _ hS;(repeat(refine jt ⟨?_⟩;refine hS.q ?_;intro _ hS));refine jt ⟨?_⟩;rw[e1]at hS⊢;rw[e2]at hS⊢;have hcap:(C6 v k).add.length≤c3-k*2000:=AA;have hea:Hc _ (CV g3 0 (k*2000) c3 2) none (c3-k*2000) 0 (C6 v k):=⟨⟨UX (hv3.arr hS (T':=[]) AB) hc3 k hkn,hcap⟩,Arr.nil _ _ _,AV _,by show(C6 v k).add.length+0≤_;omega,hv.rng⟩
    (repeat(refine jt ⟨?_⟩;refine hS.q ?_;intro _ hS));refine jt ⟨?_⟩;refine Cl.mono (NS hea hop) ?_;rintro _ w6⟨rfl,hS'⟩;have hS:=hS.call0 hS';unfold Kj;rw[if_pos hrp];generalize Am (C6 v k)=t at hsucc⊢;(repeat(refine jt ⟨?_⟩;refine hS.q ?_;intro _ hS));refine jt ⟨?_⟩;refine hS.al ?_;intro b45 w7 _ hS;(repeat(refine jt ⟨?_⟩;refine hS.q ?_;intro _ hS));refine jt ⟨?_⟩;refine St.app (sz:=1) (m:=1) AK rfl rfl rfl rfl hS hV (news:=[AG t]) rfl (by have:=hS.arr (b:=b45) (T':=[]) AB;exact this) rfl (by show(_+_)*16≤_;omega) AA ?_
    intro a5 c5 L5 w8 hV5 hS;(repeat(refine jt ⟨?_⟩;refine hS.q ?_;intro _ hS));refine jt ⟨?_⟩;have hS:=hS.sub ((AS _ _).trans (AS _ _));refine⟨⟨k+1,a5,c5⟩,⟨rfl,rfl,rfl,by rw[show(((k+1)*2000:Nat):Int)=((k*2000:Nat):Int)+2000 by omega];rfl,trivial⟩,⟨hkl,L5,by rw[hsucc,A7];exact hV5,hS⟩,by simp only;omega⟩
   ·have hkn2:k*2000<v.files.length:=AA;(repeat(refine jt ⟨?_⟩;refine hS.q ?_;intro _ hS));refine jt ⟨?_⟩;refine hS.al ?_;intro b6 w5 _ hS;(repeat(refine jt ⟨?_⟩;refine hS.q ?_;intro _ hS));refine jt ⟨?_⟩;rw[e1]at hS⊢;rw[e2]at hS⊢;have hcap:(C6 v k).add.length≤c3-k*2000:=AA;have hea:Hc _ (CV g3 0 (k*2000) c3 2) none (c3-k*2000) 0 (C6 v k):=⟨⟨UX (hv3.arr hS (T':=[]) AB) hc3 k hkn,hcap⟩,Arr.nil _ _ _,AV _,by show(C6 v k).add.length+0≤_;omega,hv.rng⟩
    (repeat(refine jt ⟨?_⟩;refine hS.q ?_;intro _ hS));refine jt ⟨?_⟩;refine Cl.mono (NS hea hop) ?_;rintro _ w6⟨rfl,hS'⟩;have hS:=hS.call0 hS';unfold Kj;rw[if_pos hrp];generalize Am (C6 v k)=t at hsucc⊢;(repeat(refine jt ⟨?_⟩;refine hS.q ?_;intro _ hS));refine jt ⟨?_⟩;refine hS.al ?_;intro b45 w7 _ hS;(repeat(refine jt ⟨?_⟩;refine hS.q ?_;intro _ hS));refine jt ⟨?_⟩;refine St.app (sz:=1) (m:=1) AK rfl rfl rfl rfl hS hV (news:=[AG t]) rfl (by have:=hS.arr (b:=b45) (T':=[]) AB;exact this) rfl (by show(_+_)*16≤_;omega) AA ?_
    intro a5 c5 L5 w8 hV5 hS;(repeat(refine jt ⟨?_⟩;refine hS.q ?_;intro _ hS));refine jt ⟨?_⟩;have hS:=hS.sub ((AS _ _).trans (AS _ _));refine⟨⟨k+1,a5,c5⟩,⟨rfl,rfl,rfl,by rw[show(((k+1)*2000:Nat):Int)=((k*2000:Nat):Int)+2000 by omega];rfl,trivial⟩,⟨hkl,L5,by rw[hsucc,A7];exact hV5,hS⟩,by simp only;omega⟩
 ·obtain rfl:k=EV v:=AA;rw[HO (by rw[JP];exact AV _)]at hV;have hnk: ¬EV v*2000<v.files.length:=AA;have hn0: ¬EV v=0:=AA;(repeat(refine jt ⟨?_⟩;refine hS.q ?_;intro _ hS));refine jt ⟨?_⟩;exact⟨a4,c4,Lx,rfl,hV,hS.sub (CC _ _)⟩
end Go.Proofs.YtkgibdhpijdbfaaGreatDoor
