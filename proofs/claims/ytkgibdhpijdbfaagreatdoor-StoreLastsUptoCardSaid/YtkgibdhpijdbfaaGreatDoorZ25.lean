/- Texts of this claim, one behind the other. -/
import Derived.Test.YtkgibdhpijdbfaaGreatDoorZ19
import Derived.Test.YtkgibdhpijdbfaaGreatDoorZ20
import Derived.Test.YtkgibdhpijdbfaaGreatDoorZ24
import Derived.Test.YtkgibdhpijdbfaaGreatDoorZ23
import Derived.Test.YtkgibdhpijdbfaaGreatDoorZ18
import Derived.Test.YtkgibdhpijdbfaaGreatDoorZ17
import Derived.Test.YtkgibdhpijdbfaaGreatDoorZ13
import Derived.Test.YtkgibdhpijdbfaaGreatDoorZ9
import Derived.Test.YtkgibdhpijdbfaaGreatDoorZ21
import Derived.Test.YtkgibdhpijdbfaaGreatDoorZ22
import Derived.Test.YtkgibdhpijdbfaaGreatDoorZ14
set_option linter.unusedVariables false
set_option linter.unusedSimpArgs false
set_option maxHeartbeats 16000000
namespace Go.Proofs.YtkgibdhpijdbfaaGreatDoor
open Go Go.Eng Go.Proofs
def Aw(n:Int):AE:=116::Lib.itoa n
def Aa(n:Int):AE:=119::Lib.itoa n
def AX(n:Int):AE:=109::Lib.itoa n
def Bf:AE:=[67,85,82,82,69,78,84]
def BW:AE:=[78,69,87]
structure BF where
 n:Nat
 name:AE
 torn:Bool
 dead:Bool
def D7(m:AJ)(nm:AE):BF:=⟨(DU (BA m nm).1.1).1.length,nm,!decide ((DU (BA m nm).1.1).2=(BA m nm).1.1.length),false⟩
def appL(m:AJ)(g:BF)(ps:List AE):Int×BF×AJ:=
 ((DG m g.name g.n g.torn g.dead ps).1,{g with n:=(DG m g.name g.n g.torn g.dead ps).2.1.1,dead:=(DG m g.name g.n g.torn g.dead ps).2.1.2},(DG m g.name g.n g.torn g.dead ps).2.2)
structure AL where
 given:Int
 seqs:List (Int×Int)
 memMax:Int
 fan:Int
 hts:List Int
 v:VM
 list:Option BF
 log:Option BF
 mem:List AF
 adds:Nat
 tabs:List (Int×List AF)
 seq:Int
 dead:Bool
def C3(v:VM)(i:Nat):EM:={En v with add:=(v.files.drop (i*2000)).take 2000}
def EU(v:VM):Nat:=max 1 ((v.files.length+1999) / 2000)
def JU(v:VM):List EM:=(List.range (EU v)).map (C3 v)
def Ay(v:VM):List AE:=(JU v).map Al
def delAll:List AE→AJ→Int×AJ
 |[],m=>(0,m)
 |n::r,m=>if(A9 m n).1≠0 then A9 m n else delAll r (A9 m n).2
def Bh:AJ→Int→List (List AF)→Int×AJ
 |m,_,[]=>(0,m)
 |m,n,c::cs=>if(CE m (Aw n) (B5 c)).1≠0 then CE m (Aw n) (B5 c)else Bh (CE m (Aw n) (B5 c)).2 (n+1) cs
def Aq{α:Type}(n:Int):List α→List (Int×α)
 |[]=>[]
 |c::cs=>(n,c)::Aq (n+1) cs
def Bx(lev:Int)(l:List (Int×List AF)):List Af:=l.map λx=>(lev,x.1)
def putAll{α:Type}(t made:List (Int×α)):List (Int×α):=made.foldl (λt x=>BV x.1 x.2 t) t
def delNs{α:Type}(t:List (Int×α))(del:List Int):List (Int×α):=del.foldl (λt n=>Cn n t) t
def FW{α:Type}(t made:List (Int×α))(del:List Int):List (Int×α):=delNs (putAll t made) del
def FQ(s:AL)(m:AJ)(v:VM):Int×AL×VM×AJ:=
 let v':VM:={v with next:=v.next+1}
 let a:=Cd m (AX v.next) (Ay v')
 if a.1≠0 then(a.1,s,v',a.2)else
 let b:=CE a.2 BW (AX v.next)
 if b.1≠0 then(b.1,s,v',b.2)else
 let c:=Cv b.2 BW Bf
 if c.1≠0 then(c.1,s,v',c.2)else
 if C5 c.2 (AX v.next)≠0 then(C5 c.2 (AX v.next),s,v',c.2)else(0,{s with list:=some (D7 c.2 (AX v.next))},v',c.2)
def DX(s:AL)(m:AJ)(x:EM)(made:List (Int×List AF)):Int×AL×AJ:=
 match BN s.v x with
 |none=>(11,s,m)
 |some nx=>
  if 65536<(Al x).length then
   let r:=FQ s m nx
   if r.1≠0 then(r.1,r.2.1,r.2.2.2)else(0,{r.2.1 with v:=r.2.2.1,tabs:=FW s.tabs made x.del},r.2.2.2)
  else
   match s.list with
   |none=>(0,s,m)
   |some g=>
    let r:=appL m g [Al x]
    if r.1≠0 then(r.1,{s with list:=some r.2.1},r.2.2)else(0,{s with list:=some r.2.1,v:=nx,tabs:=FW s.tabs made x.del},r.2.2)
def By(s:AL)(m:AJ)(mk:List (Int×List AF)):Int×AL×AJ:=
 if s.mem=[]then(0,s,m)else
 let cs:=AR 64 s.mem
 let r:=Bh m s.v.next cs
 if r.1≠0 then(r.1,s,r.2)else
 let made:=Aq s.v.next cs
 let n:=s.v.next+cs.length
 let q:=DX s r.2 ⟨Bx 0 made,[],n,n+1,s.seq⟩ mk
 if q.1≠0 then q else
 if C5 q.2.2 (Aa n)≠0 then(C5 q.2.2 (Aa n),{q.2.1 with mem:=[],adds:=0,log:=none},q.2.2)else
 let d:=A9 q.2.2 (Aa s.v.wal)
 (if d.1≠0∧d.1≠5 then d.1 else 0,{q.2.1 with mem:=[],adds:=0,log:=some (D7 q.2.2 (Aa n))},d.2)
def Hz(s:AL):List Int:=s.seqs.map (·.2)
def DC(s:AL)(m:AJ)(es:List AF)(mk:List (Int×List AF)):Int×AL×AJ:=
 if s.v.files=[]then(0,s,m)else
 let cs:=AR 64 es
 let r:=Bh m s.v.next cs
 if r.1≠0 then(r.1,s,r.2)else
 let made:=Aq s.v.next cs
 let gone:=s.v.files.map (·.2)
 let q:=DX s r.2 ⟨Bx 1 made,gone,s.v.wal,s.v.next+cs.length,s.v.seq⟩ mk
 if q.1≠0 then q else
 let d:=delAll (gone.map Aw) q.2.2
 (d.1,q.2.1,d.2)
def SU(s:AL):Nat:=(s.v.files.filter λf=>decide (f.1=0)).length
def Dl(s:AL)(m:AJ)(e:Int):Int×AL:=if(s.dead||decide (e=7)||m.off)=true then(7,{s with dead:=true})else(e,{s with dead:=false})
def I5(o:Ac):AE:=Bd o.1++(if o.2.1=true then Ak 1 else Ak 0++Bd o.2.2)
def DS(ops:List Ac):AE:=(ops.map I5).flatten
def B0(seq:Int)(ops:List Ac):AE:=Bg seq++(Ak ops.length++DS ops)
def EA(o:Ac):Nat:=o.1.length+o.2.2.length+16
def Av(ops:List Ac):Nat:=(ops.map EA).sum
def EN(o:Ac):Ac:=(o.1,o.2.1,if o.2.1=true then []else o.2.2)
def OE(seq:Int)(o:Ac):AF:=⟨o.1,seq,o.2.1,o.2.2⟩
def Cw(seq:Int)(ops:List Ac)(mem:List AF):List AF:=ops.foldl (λl o=>DP (C4 seq o) l) mem
inductive JN(tb:Nat)(l:List AF):AH→Prop where
 |mk (a:Option Addr) (c:Nat) (L:AH) (hv:AT Ap 4 a l.length c (l.flatMap AU) L):
  JN tb l ((tb,.cells ⟨[.int .i64 l.length,.int .i64 (AR 8 l).length,.slice a l.length c,AG (Dt (Cb l))]⟩ Pt (0,0))::L)
set_option maxRecDepth 8000 in
theorem TR{w:World}{l:List AF}(ht:B8 l):
  Cl Tryz.prog pU [AG (B5 l)] w λv w'=>∃tb L,v= .tuple ⟨[ptr tb,.int .i64 0]⟩∧JN tb l L∧St w [] L w':=by
 have hS:=St.start w;obtain⟨P,hP⟩: ∃P,AR 8 l=P:=⟨_,rfl⟩;have hcnt:P.length≤8:=by rw[←hP];exact ht.cnt
 have hl64:=ht.len;have htp:EB l=P.map E7++[(J5 l).1,Dt (Cb l),My++(Ak (J5 l).2++Ak l.length)]:=by unfold EB;rw[hP]
 have htl:(EB l).length=P.length+3:=by rw[htp];simp
 refine jY rfl ?_;refine jq ⟨?_⟩;refine(TF (B5 l) (by have:=ht.bytes;omega)).mono ?_;rw[show DU (B5 l)=(EB l,(B5 l).length)from IX _ ht.ok];rintro _ w1⟨a,cap,Lv,rfl,hv,hS'⟩;have hS:=hS.callNew hS';simp only at hv⊢;rw[htl]at hv⊢;obtain⟨g,lt,rfl, -, -,hnc,rfl⟩: ∃g l',a=some ⟨g,0,none⟩∧((EB l).map AG).length=(P.length+3)*1∧((EB l).map AG).length+l'.length=cap*1∧P.length+3≤cap∧Lv=[(g,.cells ⟨(EB l).map AG++l'⟩ C0 (0,0))]:=by
  rcases hv.inv with⟨_,h,_⟩|h
  ·omega
  ·exact h
 have hget: ∀i,i<P.length→((EB l).map AG++lt)[i]?=some (AG (E7 (P.getD i []))):=by
  intro i hi;rw[Cq (by rw[BZ];omega),htp,A7,Cq (by simpa using hi)];simp[hi]
 have hgb:((EB l).map AG++lt)[P.length+1]?=some (AG (Dt (Cb l))):=by
  rw[Cq (by rw[BZ];omega),htp,A7,D2 AB];simp
 have hbs:=ht.bytes;generalize htx:B5 l=text at hbs⊢;have hS:St w [] [(g,.cells ⟨(EB l).map AG++lt⟩ C0 (0,0))] w1:=hS;clear hS';(repeat(refine jt ⟨?_⟩;refine hS.q ?_;intro _ hS));refine jt ⟨?_⟩;rw[show(((P.length+3:Nat):Int)-3)=(P.length:Int) by omega];refine hS.ld (v:=AG (Dt (Cb l))) (by rw[show 0+((P.length:Int)+1).toNat*1=P.length+1 by omega];exact hgb) ?_;(repeat(refine jt ⟨?_⟩;refine hS.q ?_;intro _ hS));refine jt ⟨?_⟩
 refine hS.al ?_;intro tb w2 _ hS;(repeat(refine jt ⟨?_⟩;refine hS.q ?_;intro _ hS));refine jt ⟨?_⟩;have hst:St w [] ((tb,.cells ⟨[.int .i64 0,.int .i64 P.length,.slice none ((P.take 0).flatten).length 0,AG (Dt (Cb l))]⟩ Pt (0,0))::([]++[(g,.cells ⟨(EB l).map AG++lt⟩ C0 (0,0))])) _:=hS;clear hS;have hPk: ∀k,k≤P.length→((P.take k).flatten)=l.take (k*8):=by
  intro k hk;rw[←hP,Oz AA l k (by rw[hP];exact hk)]
 have hPg: ∀i(hi:i<P.length),i*8<l.length∧P[i]=(l.drop (i*8)).take 8:=by
  subst hP;intro i hi;exact⟨Oy AA hi,NE hi⟩
 have hflat:P.flatten=l:=by rw[←hP];exact KM AA l
 refine AM.loop (λi:Nat×Option Addr×Nat=>[(0,AG text),(7,ptr tb),(44,.slice (some ⟨g,0,none⟩) P.length cap),(45,.int .i64 P.length),(46,.int .i64 i.1)])
  (λi w'=>i.1≤P.length∧ ∃L,AT Ap 4 i.2.1 ((P.take i.1).flatten).length i.2.2 (((P.take i.1).flatten).flatMap AU) L∧
   St w [] ((tb,.cells ⟨[.int .i64 0,.int .i64 P.length,.slice i.2.1 ((P.take i.1).flatten).length i.2.2,AG (Dt (Cb l))]⟩ Pt (0,0))::(L++[(g,.cells ⟨(EB l).map AG++lt⟩ C0 (0,0))])) w') (λi=>P.length-i.1) (0,none,0)
  ⟨rfl,rfl,rfl,rfl,rfl,trivial⟩ ⟨Ag _,[],AT.nil,hst⟩ ?_
 clear hst;rintro⟨k,a1,c1⟩w3⟨hk,L,hV,hS⟩;simp only at hk hV hS⊢;by_cases hkl:k<P.length
 ·obtain⟨hk8,hPk1⟩:=hPg k hkl;have hpt:=ht.piece k;have hsucc:(P.take (k+1)).flatten=(P.take k).flatten++(l.drop (k*8)).take 8:=by rw[Bq hkl,kC,hPk1];simp
  have hgk:=hget k hkl;rw[Gk,CB hkl,FA,hPk1]at hgk;have hql:((P.take k).flatten).length≤64:=by rw[hPk k hk,Ba];omega
  generalize(P.take k).flatten=q at hV hS hsucc hql⊢;generalize(l.drop (k*8)).take 8=p at hpt hsucc hgk;have hpl:=hpt.len;have hol:=Hg p;(repeat(refine jt ⟨?_⟩;refine hS.q ?_;intro _ hS));refine jt ⟨?_⟩;refine hS.ld (v:=AG (E7 p)) (by rw[show 0+(k:Int).toNat*1=k by omega];exact hgk) ?_;(repeat(refine jt ⟨?_⟩;refine hS.q ?_;intro _ hS));refine jt ⟨?_⟩;refine(Y9 hpt.rise hpt.fine hpt.fit AA).mono ?_
  rintro _ w4⟨a2,c2,L2,rfl,hV2,hS'⟩;have hS:=hS.callNew hS';(repeat(refine jt ⟨?_⟩;refine hS.q ?_;intro _ hS));refine jt ⟨?_⟩;refine St.app (sz:=4) (m:=p.length) AK rfl rfl rfl rfl hS hV (news:=p.flatMap AU) (by rw[hol]) (hV2.arr hS AB) (OG p) (by show(_+_)*48≤_;omega) AA ?_;intro a3 c3 L3 w5 hV3 hS;rw[←Hh,←AP,←hsucc]at hV3;rw[←AP,←hsucc];(repeat(refine jt ⟨?_⟩;refine hS.q ?_;intro _ hS));refine jt ⟨?_⟩
  exact⟨(k+1,a3,c3),⟨rfl,rfl,rfl,rfl,rfl,trivial⟩,⟨hkl,L3,hV3,hS.sub (Ai _ _)⟩,by simp only;omega⟩
 ·obtain rfl:k=P.length:=AA;rw[Bz,hflat]at hV hS;have hcl:l.length≤c1:=by
   rcases hV.inv with⟨-,h1, -⟩|⟨-, -, -, -, -,h1, -⟩
   ·omega
   ·exact h1
  have hS:=hS;(repeat(refine jt ⟨?_⟩;refine hS.q ?_;intro _ hS));refine jt ⟨?_⟩;refine(TQ (hV.arr hS AB) hcl ht).mono ?_;rintro _ w4⟨rfl,hS'⟩;have hS:=hS.call0 hS';rw[htx];(repeat(refine jt ⟨?_⟩;refine hS.q ?_;intro _ hS));refine jt ⟨?_⟩;have hbf:(!decide (text=text))=false:=AB;repeat(refine Ax.eqf hbf ?_;(repeat(refine jt ⟨?_⟩;refine hS.q ?_;intro _ hS));refine jt ⟨?_⟩)
  refine⟨tb,_,rfl,JN.mk (l:=l) a1 c1 L hV,?_⟩;rw[hP];exact hS.sub (.cons_cons _ (CD _ _))
inductive GO(f:Nat):Option BF→Value→AH→Prop where
 |none:GO f none (.pointer none) []
 |some (b:Nat) (g:BF):GO f (some g) (ptr b) [(b,IR f g.name g.n g.torn g.dead)]
inductive Cj:List (Int×Nat)→List (Int×List AF)→AH→Prop where
 |nil:Cj [] [] []
 |cons {n:Int} {tb:Nat} {l:List AF} {L:AH} {ks:List (Int×Nat)} {ts:List (Int×List AF)} {M:AH} (h:JN tb l L) (r:Cj ks ts M):Cj ((n,tb)::ks) ((n,l)::ts) (L++M)
inductive AV(sb f:Nat)(s:AL)(m:AJ):AH→Prop where
 |mk (sq:Nat) (es:Array MapEntry) (c:Nat) (hsq:MapC AY AY es c s.seqs) (ha:Option Addr) (hc:Nat) (Lh:AH) (hh:AT BX 1 ha s.hts.length hc (s.hts.map AY) Lh)
   (a:Option Addr) (ca:Nat) (La:AH) (hv:Ds a ca s.v La) (lv:Value) (Ll:AH) (hl:GO f s.list lv Ll) (gv:Value) (Lg:AH) (hg:GO f s.log gv Lg)
   (mb:Nat) (Lm:AH) (hm:Fy mb s.mem s.adds Lm) (tm:Nat) (et:Array MapEntry) (ct:Nat) (ks:List (Int×Nat)) (ht:MapC AY (λb:Nat=>ptr b) et ct ks) (Lt:AH) (hts:Cj ks s.tabs Lt) (LF:AH) (hF:BI f m LF):
  AV sb f s m ((sb,.cells ⟨[.int .i64 s.given,.map (some sq),ptr f,.int .i64 s.memMax,.int .i64 s.fan,.slice ha s.hts.length hc,.slice a s.v.files.length ca,.int .i64 s.v.wal,.int .i64 s.v.next,.int .i64 s.v.seq,lv,gv,ptr mb,.map (some tm),.int .i64 s.seq,.bool s.dead]⟩ TW (0,0))::(sq,.map es c)::(tm,.map et ct)::(Lh++(La++(Ll++(Lg++(Lm++(Lt++LF)))))))
theorem Cj.keys{ks:List (Int×Nat)}{ts:List (Int×List AF)}{L:AH}(h:Cj ks ts L):ks.map (·.1)=ts.map (·.1):=by
 induction h with
 |nil=>rfl
 |cons _ _ ih=>simp[ih]
theorem JL{w:World}{sb f:Nat}{s:AL}{m:AJ}{L:AH}(hO:AV sb f s m L)(hh:Holds L w):Cl Tryz.prog U3 [ptr sb] w λv w'=>v= .bool (s.dead||m.off)∧St w (keys L) L w':=by
 have hS:=St.enter hh;have hO0:=hO;have hSL:=hS;obtain⟨sq,es,c,hsq,ha,hc,Lh,hvh,a,ca,La,hv,lv,Ll,hl,gv,Lg,hg,mb,Lm,hm,tm,et,ct,ks,ht,Lt,hts,LF,hF⟩:=hO;generalize keys _=T0 at hS⊢;refine iD rfl ?_;cases hd:s.dead with
 |true=>
  rw[hd]at hS;(repeat(refine jt ⟨?_⟩;refine hS.q ?_;intro _ hS));refine jt ⟨?_⟩;exact⟨rfl,hS⟩
 |false=>
  rw[hd]at hS;(repeat(refine jt ⟨?_⟩;refine hS.q ?_;intro _ hS));refine jt ⟨?_⟩;refine Cl.mono (Ic hF (hS.part (L:=LF))) ?_;rintro _ w1⟨rfl,hS'⟩;have hS:=hS.call (L:=LF) hS';(repeat(refine jt ⟨?_⟩;refine hS.q ?_;intro _ hS));refine jt ⟨?_⟩;exact⟨rfl,hS⟩
theorem Hb{w:World}{sb f:Nat}{s:AL}{m:AJ}{L:AH}(hO:AV sb f s m L)(hh:Holds L w)(e:Int):Cl Tryz.prog pA [ptr sb,.int .i64 e] w λv w'=>v= .int .i64 (Dl s m e).1∧ ∃L',AV sb f (Dl s m e).2 m L'∧St w (keys L) L' w':=by
 have hS:=St.enter hh;have hO0:=hO;have hSL:=hS;obtain⟨sq,es,c,hsq,ha,hc,Lh,hvh,a,ca,La,hv,lv,Ll,hl,gv,Lg,hg,mb,Lm,hm,tm,et,ct,ks,ht,Lt,hts,LF,hF⟩:=hO;generalize keys _=T0 at hS⊢;refine iO rfl ?_;have hyes: ∀w',St w T0 _ w'→ ∃L',AV sb f {s with dead:=true} m L'∧St w T0 L' w':=λw' h=>⟨_,AV.mk (s:={s with dead:=true}) sq es c hsq ha hc Lh hvh a ca La hv lv Ll hl gv Lg hg mb Lm hm tm et ct ks ht Lt hts LF hF,h⟩
 have hno: ∀w',St w T0 _ w'→ ∃L',AV sb f {s with dead:=false} m L'∧St w T0 L' w':=λw' h=>⟨_,AV.mk (s:={s with dead:=false}) sq es c hsq ha hc Lh hvh a ca La hv lv Ll hl gv Lg hg mb Lm hm tm et ct ks ht Lt hts LF hF,h⟩;unfold Dl;cases hd:s.dead with
 |true=>
  rw[hd]at hS;rw[if_pos AB];(repeat(refine jt ⟨?_⟩;refine hS.q ?_;intro _ hS));refine jt ⟨?_⟩;exact⟨rfl,hyes _ hS⟩
 |false=>
  rw[hd]at hS;by_cases he:e=7
  ·rw[if_pos (by simp[he])];(repeat(refine jt ⟨?_⟩;refine hS.q ?_;intro _ hS));refine jt ⟨?_⟩;exact⟨rfl,hyes _ hS⟩
  ·(repeat(refine jt ⟨?_⟩;refine hS.q ?_;intro _ hS));refine jt ⟨?_⟩;refine Cl.mono (Ic hF (hS.part (L:=LF))) ?_;rintro _ w1⟨rfl,hS'⟩;have hS:=hS.call (L:=LF) hS';cases hoff:m.off with
   |true=>
    rw[if_pos AB];(repeat(refine jt ⟨?_⟩;refine hS.q ?_;intro _ hS));refine jt ⟨?_⟩;exact⟨rfl,hyes _ hS⟩
   |false=>
    rw[if_neg (by simp[he])];(repeat(refine jt ⟨?_⟩;refine hS.q ?_;intro _ hS));refine jt ⟨?_⟩;exact⟨rfl,hno _ hS⟩
end Go.Proofs.YtkgibdhpijdbfaaGreatDoor
