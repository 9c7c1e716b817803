/- Texts of this claim, one behind the other. -/
import Derived.Test.YtkgibdhpijdbfaaGreatDoorZ19
import Derived.Test.YtkgibdhpijdbfaaGreatDoorZ23
import Derived.Test.YtkgibdhpijdbfaaGreatDoorZ18
import Derived.Test.YtkgibdhpijdbfaaGreatDoorZ25
import Derived.Test.YtkgibdhpijdbfaaGreatDoorZ12
import Derived.Test.YtkgibdhpijdbfaaGreatDoorZ20
import Derived.Test.YtkgibdhpijdbfaaGreatDoorZ16
import Derived.Test.YtkgibdhpijdbfaaGreatDoorZ22
import Derived.Test.YtkgibdhpijdbfaaGreatDoorZ9
import Derived.Test.YtkgibdhpijdbfaaGreatDoorZ17
import Derived.Maps.Own
set_option linter.unusedVariables false
set_option linter.unusedSimpArgs false
set_option maxHeartbeats 16000000
namespace Go.Proofs.YtkgibdhpijdbfaaGreatDoor
open Go Go.Eng Go.Proofs Go.Srt
def Hl(f:Af):AE:=Bh f.1++Bh f.2
def DZ(l:List Af):AE:=(l.map Hl).flatten
def Am(e:EM):AE:=Ak e.add.length++DZ e.add++Ak e.del.length++Ci e.del++Bh e.wal++Bh e.next++Bh e.seq
structure ER(e:EM):Prop where
 add: ∀f∈e.add,CA f.1∧CA f.2
 del: ∀n∈e.del,CA n
 wal:CA e.wal
 next:CA e.next
 seq:CA e.seq
def Dr:Nat→RB×List Af→RB×List Af
 |0,x=>x
 |n+1,(s,l)=>if s.bad=true then(s,l)else Dr n ((BL (BL s).2).2,l++[((BL s).1,(BL (BL s).2).1)])
theorem Rq: ∀(n:Nat)(s:RB)(l:List Af),(Dr n (s,l)).1.bad=false→s.bad=false
 |0,s,l,h=>h
 |n+1,s,l,h=>by
  cases hb:s.bad with
  |false=>rfl
  |true=>unfold Dr at h;rw[if_pos hb]at h;rw[hb]at h;exact h
theorem Xb: ∀(n:Nat)(s:RB)(l:List Af),(Dr n (s,l)).1.bad=false→ ∃m,m.length=n∧(Dr n (s,l)).2=l++m∧s.t=DZ m++(Dr n (s,l)).1.t∧ ∀f∈m,CA f.1∧CA f.2
 |0,s,l,h=>⟨[],rfl,(BU l).symm,rfl,AB⟩
 |n+1,s,l,h=>by
  have hb:=Rq (n+1) s l h;unfold Dr at h⊢;rw[if_neg (by rw[hb];nofun)]at h⊢;obtain⟨m,h1,h2,h3,h4⟩:=Xb n _ _ h;have hb2:=Rq n _ _ h;obtain⟨hb3,e2,r2⟩:=LL hb2;obtain⟨-,e1,r1⟩:=LL hb3;refine⟨((BL s).1,(BL (BL s).2).1)::m,by simp[h1],by rw[h2];simp,?_,?_⟩
  ·rw[e1]
   conv=>lhs;rw[e2]
   rw[h3];simp only[DZ,Hl,A4,Dc,Aj]
  ·intro f hf;rcases As.1 hf with rfl|hf
   ·exact⟨r1,r2⟩
   ·exact h4 f hf
theorem Xa: ∀(m:List Af)(r:AE)(l:List Af),(∀f∈m,CA f.1∧CA f.2)→Dr m.length (⟨DZ m++r,false⟩,l)=(⟨r,false⟩,l++m)
 |[],r,l,_=>by simp[Dr,DZ]
 |f::m,r,l,h=>by
  have hf:=h f AB;rw[Ai];unfold Dr;rw[if_neg nofun];have e:DZ (f::m)++r=Bh f.1++(Bh f.2++(DZ m++r)):=by simp[DZ,Hl]
  rw[e];simp only[LK _ _ hf.1,LK _ _ hf.2];rw[Xa m r _ λg hg=>h g (by simp[hg])];simp
def HY(t:AE):RB×EM:=
 match CR ⟨t,false⟩with
 |(n,s1)=>match Dr n (s1,[])with
  |(s2,add)=>match CR s2 with
   |(k,s3)=>match Df k (s3,[])with
    |(s4,del)=>((BL (BL (BL s4).2).2).2,⟨add,del,(BL s4).1,(BL (BL s4).2).1,(BL (BL (BL s4).2).2).1⟩)
def Fm(t:AE):Option EM:=if(HY t).1.bad=false∧(HY t).1.t=[]∧DA (HY t).2=true then some (HY t).2 else none
theorem wI{t:AE}(h:(HY t).1.bad=false):ER (HY t).2∧t=Am (HY t).2++(HY t).1.t:=by
 unfold HY at h⊢;simp only at h⊢;obtain⟨h1,e1,r1⟩:=LL h;obtain⟨h2,e2,r2⟩:=LL h1;obtain⟨h3,e3,r3⟩:=LL h2;obtain⟨ds,l4,q4,e4,r4⟩:=Xf _ _ _ h3;have h5:=Rs _ _ _ h3;obtain⟨h6,e5⟩:=XZ h5;obtain⟨fs7,l7,q7,e7,r7⟩:=Xb _ _ _ h6;have h8:=Rq _ _ _ h6;obtain⟨-,e9⟩:=XZ h8;rw[CU]at q4 q7;refine⟨⟨by rw[q7];exact r7,by rw[q4];exact r4,r3,r2,r1⟩,?_⟩;unfold Am;simp only;rw[q4,q7,l4,l7];have e9':t=_:=e9
 conv=>lhs;rw[e9']
 simp only[Aj]
 congr 1
 rw[e7]
 congr 1
 rw[e5]
 congr 1
 rw[e4]
 congr 1
 rw[e3]
 congr 1
 rw[e2]
 congr 1
theorem wH{e:EM}(h:ER e)(hl:e.add.length<18446744073709551616)(hk:e.del.length<18446744073709551616):HY (Am e)=(⟨[],false⟩,e):=by
 unfold HY Am;have s1:Ak e.add.length++DZ e.add++Ak e.del.length++Ci e.del++Bh e.wal++Bh e.next++Bh e.seq=Ak e.add.length++(DZ e.add++(Ak e.del.length++(Ci e.del++(Bh e.wal++(Bh e.next++(Bh e.seq++[])))))):=AB;rw[s1];simp only[XY _ _ hl,Xa _ _ _ h.add,XY _ _ hk,Xe _ _ _ h.del,LK _ _ h.wal,LK _ _ h.next,LK _ _ h.seq,CU]
theorem MX{t:AE}{e:EM}(ht:t.length<18446744073709551616):Fm t=some e↔t=Am e∧ER e∧DA e=true:=by
 constructor
 ·intro h;unfold Fm at h
  split at h
  ·next hc=>
   obtain⟨h1,h2,h3⟩:=hc;obtain⟨h4,h5⟩:=wI h1;rw[h2,BU]at h5;simp only[Option.some.injEq]at h;rw[h]at h3 h4 h5;exact⟨h5,h4,h3⟩
  ·cases h
 ·rintro⟨rfl,h1,h2⟩;have hfl: ∀l:List Af,l.length≤(DZ l).length:=by
   intro l
   induction l with
   |nil=>exact Ag _
   |cons f l ih=>
    have:=K7 (Ed f.1);simp only[DZ,Hl,A4,Dc,AP,Ai,Bh]at ih⊢;omega
  have hil: ∀l:List Int,l.length≤(Ci l).length:=by
   intro l
   induction l with
   |nil=>exact Ag _
   |cons f l ih=>
    have:=K7 (Ed f);simp only[Ci,A4,Dc,AP,Ai,Bh]at ih⊢;omega
  have a1:=hfl e.add;have a2:=hil e.del;have hel:(Am e).length=(Ak e.add.length).length+(DZ e.add).length+(Ak e.del.length).length+(Ci e.del).length+(Bh e.wal).length+(Bh e.next).length+(Bh e.seq).length:=by
   unfold Am;simp only[AP]
  have:=wH h1 AA AA;unfold Fm;rw[this];simp[h2]
end Go.Proofs.YtkgibdhpijdbfaaGreatDoor
namespace Go.Proofs.YtkgibdhpijdbfaaGreatDoor
open Go Go.Eng Go.Proofs
def Aw(n:Int):AE:=116::Lib.itoa n
def Aa(n:Int):AE:=119::Lib.itoa n
def AX(n:Int):AE:=109::Lib.itoa n
def Bg:AE:=[67,85,82,82,69,78,84]
def Bb:AE:=[78,69,87]
structure BF where
 n:Nat
 name:AE
 torn:Bool
 dead:Bool
def D6(m:AJ)(nm:AE):BF:=⟨(scan (BB m nm).1.1).1.length,nm,!decide ((scan (BB m nm).1.1).2=(BB m nm).1.1.length),false⟩
def appL(m:AJ)(g:BF)(ps:List AE):Int×BF×AJ:=
 ((DJ m g.name g.n g.torn g.dead ps).1,{g with n:=(DJ m g.name g.n g.torn g.dead ps).2.1.1,dead:=(DJ m g.name g.n g.torn g.dead ps).2.1.2},(DJ m g.name g.n g.torn g.dead ps).2.2)
structure AM where
 given:Int
 seqs:List (Int×Int)
 memMax:Int
 fan:Int
 hts:List Int
 v:VM
 list:Option BF
 log:Option BF
 mem:List AF
 adds:Nat
 tabs:List (Int×List AF)
 seq:Int
 dead:Bool
def C6(v:VM)(i:Nat):EM:={Ep v with add:=(v.files.drop (i*2000)).take 2000}
def EV(v:VM):Nat:=max 1 ((v.files.length+1999) / 2000)
def JQ(v:VM):List EM:=(List.range (EV v)).map (C6 v)
def Ay(v:VM):List AE:=(JQ v).map Am
def delAll:List AE→AJ→Int×AJ
 |[],m=>(0,m)
 |n::r,m=>if(BA m n).1≠0 then BA m n else delAll r (BA m n).2
def Bi:AJ→Int→List (List AF)→Int×AJ
 |m,_,[]=>(0,m)
 |m,n,c::cs=>if(CE m (Aw n) (B5 c)).1≠0 then CE m (Aw n) (B5 c)else Bi (CE m (Aw n) (B5 c)).2 (n+1) cs
def Ar{α:Type}(n:Int):List α→List (Int×α)
 |[]=>[]
 |c::cs=>(n,c)::Ar (n+1) cs
def Bx(lev:Int)(l:List (Int×List AF)):List Af:=l.map λx=>(lev,x.1)
def putAll{α:Type}(t made:List (Int×α)):List (Int×α):=made.foldl (λt x=>Ba x.1 x.2 t) t
def delNs{α:Type}(t:List (Int×α))(del:List Int):List (Int×α):=del.foldl (λt n=>Co n t) t
def FZ{α:Type}(t made:List (Int×α))(del:List Int):List (Int×α):=delNs (putAll t made) del
def FW(s:AM)(m:AJ)(v:VM):Int×AM×VM×AJ:=
 let v':VM:={v with next:=v.next+1}
 let a:=Cd m (AX v.next) (Ay v')
 if a.1≠0 then(a.1,s,v',a.2)else
 let b:=CE a.2 Bb (AX v.next)
 if b.1≠0 then(b.1,s,v',b.2)else
 let c:=Cx b.2 Bb Bg
 if c.1≠0 then(c.1,s,v',c.2)else
 if C9 c.2 (AX v.next)≠0 then(C9 c.2 (AX v.next),s,v',c.2)else(0,{s with list:=some (D6 c.2 (AX v.next))},v',c.2)
def DY(s:AM)(m:AJ)(x:EM)(made:List (Int×List AF)):Int×AM×AJ:=
 match BQ s.v x with
 |none=>(11,s,m)
 |some nx=>
  if 65536<(Am x).length then
   let r:=FW s m nx
   if r.1≠0 then(r.1,r.2.1,r.2.2.2)else(0,{r.2.1 with v:=r.2.2.1,tabs:=FZ s.tabs made x.del},r.2.2.2)
  else
   match s.list with
   |none=>(0,s,m)
   |some g=>
    let r:=appL m g [Am x]
    if r.1≠0 then(r.1,{s with list:=some r.2.1},r.2.2)else(0,{s with list:=some r.2.1,v:=nx,tabs:=FZ s.tabs made x.del},r.2.2)
def By(s:AM)(m:AJ)(mk:List (Int×List AF)):Int×AM×AJ:=
 if s.mem=[]then(0,s,m)else
 let cs:=AR 64 s.mem
 let r:=Bi m s.v.next cs
 if r.1≠0 then(r.1,s,r.2)else
 let made:=Ar s.v.next cs
 let n:=s.v.next+cs.length
 let q:=DY s r.2 ⟨Bx 0 made,[],n,n+1,s.seq⟩ mk
 if q.1≠0 then q else
 if C9 q.2.2 (Aa n)≠0 then(C9 q.2.2 (Aa n),{q.2.1 with mem:=[],adds:=0,log:=none},q.2.2)else
 let d:=BA q.2.2 (Aa s.v.wal)
 (if d.1≠0∧d.1≠5 then d.1 else 0,{q.2.1 with mem:=[],adds:=0,log:=some (D6 q.2.2 (Aa n))},d.2)
def Hy(s:AM):List Int:=s.seqs.map (·.2)
def DG(s:AM)(m:AJ)(es:List AF)(mk:List (Int×List AF)):Int×AM×AJ:=
 if s.v.files=[]then(0,s,m)else
 let cs:=AR 64 es
 let r:=Bi m s.v.next cs
 if r.1≠0 then(r.1,s,r.2)else
 let made:=Ar s.v.next cs
 let gone:=s.v.files.map (·.2)
 let q:=DY s r.2 ⟨Bx 1 made,gone,s.v.wal,s.v.next+cs.length,s.v.seq⟩ mk
 if q.1≠0 then q else
 let d:=delAll (gone.map Aw) q.2.2
 (d.1,q.2.1,d.2)
def SX(s:AM):Nat:=(s.v.files.filter λf=>decide (f.1=0)).length
def Dj(s:AM)(m:AJ)(e:Int):Int×AM:=if(s.dead||decide (e=7)||m.off)=true then(7,{s with dead:=true})else(e,{s with dead:=false})
def I2(o:Ac):AE:=Be o.1++(if o.2.1=true then Ak 1 else Ak 0++Be o.2.2)
def DU(ops:List Ac):AE:=(ops.map I2).flatten
def B0(seq:Int)(ops:List Ac):AE:=Bh seq++(Ak ops.length++DU ops)
def D9(o:Ac):Nat:=o.1.length+o.2.2.length+16
def Ap(ops:List Ac):Nat:=(ops.map D9).sum
def EN(o:Ac):Ac:=(o.1,o.2.1,if o.2.1=true then []else o.2.2)
def N9(seq:Int)(o:Ac):AF:=⟨o.1,seq,o.2.1,o.2.2⟩
def Cy(seq:Int)(ops:List Ac)(mem:List AF):List AF:=ops.foldl (λl o=>DS (C7 seq o) l) mem
theorem Mx{n:Nat}(hn:n<18446744073709551616)(r:AE):CQ (Ak n++r)=(n,0,r):=by
 unfold CQ;rw[(Ja _ n r).2 ⟨rfl,hn⟩]
theorem PH{s:AE}(hn:s.length<18446744073709551616)(r:AE):LY (Be s++r)=(s,0,r):=by
 unfold LY;rw[(yP _ s r).2 ⟨rfl,hn⟩]
abbrev EL(rb:Nat)(last:AE):Obj:= .cells ⟨[ptr rb,AG last,.bool false]⟩ aG (0,0)
theorem Nu{w:World}{b rb n:Nat}{last r:AE}(hh:Holds [(b,EL rb last),(rb,A6 (Ak n++r))] w)(hn:n<18446744073709551616)(ht:(Ak n++r).length≤70368744177664):
  Cl Tryz.prog lY [ptr b] w λv w'=>v= .int .u64 n∧St w [b,rb] [(b,EL rb last),(rb,A6 r)] w':=by
 have hS:=St.enter hh;refine dP rfl ?_;(repeat(refine jt ⟨?_⟩;refine hS.q ?_;intro _ hS));refine jt ⟨?_⟩;refine(JH (hS.part (L:=[(rb,A6 (Ak n++r))])) ht).mono ?_;rintro _ w1⟨rfl,hS'⟩;have hS:=hS.call (L:=[(rb,A6 (Ak n++r))]) hS';rw[Mx hn]at hS⊢;(repeat(refine jt ⟨?_⟩;refine hS.q ?_;intro _ hS));refine jt ⟨?_⟩;exact⟨rfl,hS⟩
theorem Tx{w:World}{b rb:Nat}{last s r:AE}(hh:Holds [(b,EL rb last),(rb,A6 (Be s++r))] w)(ht:(Be s++r).length≤70368744177664):
  Cl Tryz.prog lZ [ptr b] w λv w'=>v=AG s∧St w [b,rb] [(b,EL rb last),(rb,A6 r)] w':=by
 have hS:=St.enter hh;have hsl:s.length<18446744073709551616:=by
  unfold Be at ht;simp only[AP]at ht;omega
 refine dQ rfl ?_;(repeat(refine jt ⟨?_⟩;refine hS.q ?_;intro _ hS));refine jt ⟨?_⟩;refine(Nc (hS.part (L:=[(rb,A6 (Be s++r))])) ht).mono ?_;rintro _ w1⟨rfl,hS'⟩;have hS:=hS.call (L:=[(rb,A6 (Be s++r))]) hS';rw[PH hsl]at hS⊢;(repeat(refine jt ⟨?_⟩;refine hS.q ?_;intro _ hS));refine jt ⟨?_⟩;exact⟨rfl,hS⟩
theorem zR{z:Int}(h:CA z):Ed z<18446744073709551616:=by unfold CA at h;unfold Ed;split<;>omega
theorem V2{z:Int}(hz:CA z)(r:AE):Db (Bh z++r)=(z,0,r):=by
 unfold Db Bh;rw[Mx (zR hz)];simp only[Yk]
set_option maxRecDepth 8000 in
theorem bI{w:World}{b rb:Nat}{last r:AE}{x:AF}(hh:Holds [(b,EL rb last),(rb,A6 (GU last x++r))] w)(hk:x.k.length≤1099511627776)(hl:last.length≤1099511627776)(hs:CA x.s)(hf:x.d=true→x.v=[])(ht:(GU last x++r).length≤70368744177664):
  Cl Tryz.prog lX [ptr b] w λv w'=>v=B9 x∧St w [b,rb] [(b,EL rb x.k),(rb,A6 r)] w':=by
 have hS:=St.enter hh;have hsh:=NE last x.k;have hjoin:=xK last x.k;have hshs:=TO last x.k hl hk;unfold GU at hS ht;simp only[Aj]at hS ht;generalize hn:Dh last x.k=n at hS ht hsh hjoin hshs;generalize hT:keys [(b,EL rb last),(rb,A6 (Ak n++(Be (x.k.drop n)++(Bh x.s++((if x.d then Ak 1 else Ak 0++Be x.v)++r)))))]=T0 at hS;have hT':[b,rb]=T0:=hT;rw[hT'];generalize hR:(if x.d then Ak 1 else Ak 0++Be x.v)++r=R1 at hS ht
 have hl1:(Be (x.k.drop n)++(Bh x.s++R1)).length≤70368744177664:=by rw[AP]at ht;omega
 have hl2:(Bh x.s++R1).length≤70368744177664:=by rw[AP]at hl1;omega
 have hl3:R1.length≤70368744177664:=by rw[AP]at hl2;omega
 refine dO rfl ?_;(repeat(refine jt ⟨?_⟩;refine hS.q ?_;intro _ hS));refine jt ⟨?_⟩;refine hS.al ?_;intro b2 w1 _ hS;have hS:St w T0 ([(b,EL rb last),(rb,A6 (Ak n++(Be (x.k.drop n)++(Bh x.s++R1))))]++[(b2,.cells ⟨[AG [],.int .i64 0,.bool false,AG []]⟩ Aq (0,0))]) w1:=St.perm hS (Gp (l₁:=[_]));(repeat(refine jt ⟨?_⟩;refine hS.q ?_;intro _ hS));refine jt ⟨?_⟩;refine(Nu (hS.part (L:=[(b,EL rb last),(rb,A6 (Ak n++(Be (x.k.drop n)++(Bh x.s++R1))))])) AA ht).mono ?_
 rintro _ w2⟨rfl,hS'⟩;have hS:=hS.call (L:=[(b,EL rb last),(rb,A6 (Ak n++(Be (x.k.drop n)++(Bh x.s++R1))))]) hS';(repeat(refine jt ⟨?_⟩;refine hS.q ?_;intro _ hS));refine jt ⟨?_⟩;refine(Tx (hS.part (L:=[(b,EL rb last),(rb,A6 (Be (x.k.drop n)++(Bh x.s++R1)))])) hl1).mono ?_;rintro _ w3⟨rfl,hS'⟩;have hS:=hS.call (L:=[(b,EL rb last),(rb,A6 (Be (x.k.drop n)++(Bh x.s++R1)))]) hS';(repeat(refine jt ⟨?_⟩;refine hS.q ?_;intro _ hS));refine jt ⟨?_⟩
 refine(Pe (hS.part (L:=[(rb,A6 (Bh x.s++R1))])) hl2).mono ?_;rintro _ w4⟨rfl,hS'⟩;have hS:=hS.call (L:=[(rb,A6 (Bh x.s++R1))]) hS';rw[V2 hs]at hS⊢;(repeat(refine jt ⟨?_⟩;refine hS.q ?_;intro _ hS));refine jt ⟨?_⟩;cases hd:x.d with
 |true=>
  rw[hd,if_pos rfl]at hR;subst hR;refine(Nu (hS.part (L:=[(b,EL rb last),(rb,A6 (Ak 1++r))])) AA hl3).mono ?_;rintro _ w5⟨rfl,hS'⟩;have hS:=hS.call (L:=[(b,EL rb last),(rb,A6 (Ak 1++r))]) hS';(repeat(refine jt ⟨?_⟩;refine hS.q ?_;intro _ hS));refine jt ⟨?_⟩;rw[show((n:Int)).toNat=n by omega];(repeat(refine jt ⟨?_⟩;refine hS.q ?_;intro _ hS));refine jt ⟨?_⟩;refine Ae.mk (by rw[BR,Do];omega) ?_;rw[hjoin]
  (repeat(refine jt ⟨?_⟩;refine hS.q ?_;intro _ hS));refine jt ⟨?_⟩;refine hS.al ?_;intro b8 w6 _ hS;(repeat(refine jt ⟨?_⟩;refine hS.q ?_;intro _ hS));refine jt ⟨?_⟩;refine AL.draw AK mixed (λw'=>St w _ _ w') [13] [0,1,2,3,4,5,6,8,9,7,10,11,12,13] AD hS.drew ?_;have hS:=hS.drew;refine jr ⟨?_⟩;refine(hshs _).mono ?_;rintro _ w7⟨rfl,hS'⟩;have hS:=hS.call0 hS';refine Ae.mk hS ?_;refine jr ⟨?_⟩;(repeat(refine jt ⟨?_⟩;refine hS.q ?_;intro _ hS));refine jt ⟨?_⟩
  simp only[decide_true,Bool.not_true]at hS;refine⟨by simp[B9,AU,hd,hf hd],hS.sub ?_⟩;exact(CC [(b,_),(rb,_)] _).trans (AS _ _)
 |false=>
  rw[hd,if_neg AB,Aj]at hR;subst hR;refine(Nu (hS.part (L:=[(b,EL rb last),(rb,A6 (Ak 0++(Be x.v++r)))])) AA hl3).mono ?_;rintro _ w5⟨rfl,hS'⟩;have hS:=hS.call (L:=[(b,EL rb last),(rb,A6 (Ak 0++(Be x.v++r)))]) hS';(repeat(refine jt ⟨?_⟩;refine hS.q ?_;intro _ hS));refine jt ⟨?_⟩;rw[show((n:Int)).toNat=n by omega];(repeat(refine jt ⟨?_⟩;refine hS.q ?_;intro _ hS));refine jt ⟨?_⟩;refine Ae.mk (by rw[BR,Do];omega) ?_
  rw[hjoin];(repeat(refine jt ⟨?_⟩;refine hS.q ?_;intro _ hS));refine jt ⟨?_⟩;refine hS.al ?_;intro b8 w6 _ hS;(repeat(refine jt ⟨?_⟩;refine hS.q ?_;intro _ hS));refine jt ⟨?_⟩;refine AL.draw AK mixed (λw'=>St w _ _ w') [13] [0,1,2,3,4,5,6,8,9,7,10,11,12,13] AD hS.drew ?_;have hS:=hS.drew;refine jr ⟨?_⟩;refine(hshs _).mono ?_;rintro _ w7⟨rfl,hS'⟩;have hS:=hS.call0 hS';refine Ae.mk hS ?_;refine jr ⟨?_⟩
  (repeat(refine jt ⟨?_⟩;refine hS.q ?_;intro _ hS));refine jt ⟨?_⟩;simp only[decide_true,Bool.not_true]at hS;refine(Tx (hS.part (L:=[(b,EL rb last),(rb,A6 (Be x.v++r))])) (by rw[AP]at hl3;omega)).mono ?_;rintro _ w8⟨rfl,hS'⟩;have hS:=hS.call (L:=[(b,EL rb last),(rb,A6 (Be x.v++r))]) hS';(repeat(refine jt ⟨?_⟩;refine hS.q ?_;intro _ hS));refine jt ⟨?_⟩;refine⟨by simp[B9,AU,hd],hS.sub ?_⟩;exact(CC [(b,_),(rb,_)] _).trans (AS _ _)
theorem lP{l:List AF}{i:Nat}(h:i<l.length):Dw (CF [] (l.take i)) (l.drop i)=GU (CF [] (l.take i)) l[i]++Dw (CF [] (l.take (i+1))) (l.drop (i+1)):=by
 rw[FQ h,Dw,Bs h,RC]
set_option maxRecDepth 8000 in
theorem Y3{w:World}{l:List AF}(hr:Az l)(hf:KY l)(hfit:If l)(hn:l.length≤16777216):
  Cl Tryz.prog lU [AG (E8 l)] w λv w'=>∃a c L,v= .tuple ⟨[.slice a l.length c,.int .i64 0]⟩∧AT Aq 4 a l.length c (l.flatMap AU) L∧St w [] L w':=by
 have hS:=St.start w;have hn10:=EP l.length AA;have hsz:=hfit.sz;have hel:=OA l [] hfit AB;have hbl:(E8 l).length≤70368744177664:=by unfold E8;rw[AP];omega
 refine dL rfl ?_;refine jq ⟨?_⟩;refine Pc.mono ?_;rintro _ w1⟨rb,rfl,hS'⟩;have hS:=hS.callNew hS';rw[BU]at hS;refine jq ⟨?_⟩;refine hS.al ?_;intro b w2 _ hS;refine jq ⟨?_⟩;unfold E8 at hS hbl;refine(Nu (hS.part (L:=[(b,EL rb []),(rb,A6 (Ak l.length++Dw [] l))])) AA hbl).mono ?_;rintro _ w3⟨rfl,hS'⟩;have hS:=hS.call (L:=[(b,EL rb []),(rb,A6 (Ak l.length++Dw [] l))]) hS';refine jq ⟨?_⟩;refine AL.loop (λi:Nat×Option Addr×Nat=>[(4,ptr b),(5,.int .u64 l.length),(6,.slice i.2.1 i.1 i.2.2),(7,.int .u64 i.1)])
  (λi w'=>i.1≤l.length∧ ∃L,AT Aq 4 i.2.1 i.1 i.2.2 ((l.take i.1).flatMap AU) L∧St w [] (L++[(b,EL rb (CF [] (l.take i.1))),(rb,A6 (Dw (CF [] (l.take i.1)) (l.drop i.1)))]) w') (λi=>l.length-i.1) (0,none,0)
  ⟨rfl,rfl,rfl,rfl,trivial⟩ ⟨Ag _,[],AT.nil,hS⟩ ?_
 clear hS hS';rintro⟨i,a,c⟩w5⟨hi,L,hv,hS⟩;simp only at hi hv hS⊢;by_cases hil:i<l.length
 ·have hent:=lP hil;have hsucc:=Bs hil;have hfx:=hf l[i] (Ca hil);have hsx:=hfit.seq l[i] (Ca hil);have hzx:=LV (Ca hil);have hzx2:CS l[i]=l[i].k.length+l[i].v.length:=rfl;have htl:(l.take i).length=i:=by rw[BR];omega
  have hlk:(CF [] (l.take i)).length≤1099511627776:=by
   unfold CF
   split
   ·simp
   ·rename_i y hy;have:=LV (HN (K0 hy));have h2:CS y=y.k.length+y.v.length:=rfl;omega
  have hfd:If (l.drop i):=⟨λy hy=>hfit.seq y (List.mem_of_mem_drop hy),by
   have:=G9 (l.take i) (l.drop i);rw[CO]at this;omega⟩
  have hbd:=OA (l.drop i) (CF [] (l.take i)) hfd hlk;rw[Do]at hbd;have hbd2:=hfd.sz;rw[hent]at hS hbd;have hlk2:CF [] (l.take (i+1))=l[i].k:=by rw[hsucc,RC]
  have hris: ∀(hp:0<i),CL l[i-1] l[i]=true:=λhp=>JV.1 hr (i-1) i AA hil AA;have hpv: ∀(hp:0<i),(l.take i)[i-1]'AA=l[i-1]:=λhp=>by rw[List.getElem_take]
  generalize hu:l[i]=u at hfx hsx hzx hzx2 hris hS hbd hsucc hlk2;(repeat(refine jt ⟨?_⟩;refine hS.q ?_;intro _ hS));refine jt ⟨?_⟩;refine(bI (hS.part (L:=[(b,EL rb (CF [] (l.take i))),(rb,A6 (GU (CF [] (l.take i)) u++Dw (CF [] (l.take (i+1))) (l.drop (i+1))))])) AA hlk hsx hfx AA).mono ?_;rintro _ w6⟨rfl,hS'⟩;have hS:=hS.call (L:=[(b,EL rb (CF [] (l.take i))),(rb,A6 (GU (CF [] (l.take i)) u++Dw (CF [] (l.take (i+1))) (l.drop (i+1))))]) hS'
  rw[show B9 u= .agg ⟨[AG u.k,.int .i64 u.s,.bool u.d,AG u.v]⟩from rfl];refine jq ⟨?_⟩;refine hS.al ?_;intro b8 w7 _ hS;(repeat(refine jt ⟨?_⟩;refine hS.q ?_;intro _ hS));refine jt ⟨?_⟩;by_cases h0:0<i
  ·have hris:=hris h0;have hpv:=hpv h0;generalize l[i-1]=v at hris hpv;have hrs:=λw=>Ry v u w;unfold B9 AU at hrs;rw[hris]at hrs;rcases hv.inv with⟨-,h1, -, -, -⟩|⟨g,tl,rfl,hx4,hx5,hx6,hLe⟩
   ·omega
   refine AL.draw AK mixed (λw'=>St w _ _ w') [21] [0,1,2,3,4,5,6,7,8,9,10,11,12,13,14,15,16,17,18,19,20,21] AD hS.drew ?_;have hS:=hS.drew;refine jr ⟨?_⟩;refine JZ (cs:=[AG v.k,.int .i64 v.s,.bool v.d,AG v.v]) rfl (λw' hw j x hj=>by
    obtain⟨g',o',h1,h2⟩:=FO (hv.arr hw (T':=[]) AB) (k:=i-1) AA;simp only[Option.some.injEq,Addr.mk.injEq,and_true]at h1;obtain⟨rfl,rfl⟩:=h1;have:=h2 j x (by rw[hpv];exact hj);rw[show 0+((i:Int)-1).toNat*4+j=0+(i-1)*4+j by omega];exact this) ?_
   refine jr ⟨?_⟩;refine(hrs _).mono ?_;rintro _ w8⟨rfl,hS'⟩;have hS:=hS.call0 hS';refine Ae.mk hS ?_;refine jr ⟨?_⟩;(repeat(refine jt ⟨?_⟩;refine hS.q ?_;intro _ hS));refine jt ⟨?_⟩;refine hS.al ?_;intro b9 w8 _ hS;(repeat(refine jt ⟨?_⟩;refine hS.q ?_;intro _ hS));refine jt ⟨?_⟩
   try simp only[Bool.not_true]at hS
   refine St.app (sz:=4) (m:=1) AK rfl rfl rfl rfl hS hv (news:=AU u) (by rfl) (hS.arr (b:=b9) (T':=[]) AB) (by rfl) (by show(_+_)*48≤_;omega) AA ?_;intro a4 c4 L4 w9 hv4 hS;(repeat(refine jt ⟨?_⟩;refine hS.q ?_;intro _ hS));refine jt ⟨?_⟩;refine⟨(i+1,a4,c4),⟨rfl,rfl,rfl,rfl,trivial⟩,⟨hil,L4,by rw[hsucc,Hj];exact hv4,?_⟩,by simp;omega⟩;rw[hlk2]at hS⊢;exact hS.sub ((AS _ _).trans (AS _ _))
  ·refine AL.draw AK mixed (λw'=>St w _ _ w') [21] [0,1,2,3,4,5,6,7,8,9,10,11,12,13,14,15,16,17,18,19,20,21] AD hS.drew ?_;have hS:=hS.drew;refine jr ⟨?_⟩;(repeat(refine jt ⟨?_⟩;refine hS.q ?_;intro _ hS));refine jt ⟨?_⟩;refine hS.al ?_;intro b9 w8 _ hS;(repeat(refine jt ⟨?_⟩;refine hS.q ?_;intro _ hS));refine jt ⟨?_⟩
   try simp only[Bool.not_true]at hS
   refine St.app (sz:=4) (m:=1) AK rfl rfl rfl rfl hS hv (news:=AU u) (by rfl) (hS.arr (b:=b9) (T':=[]) AB) (by rfl) (by show(_+_)*48≤_;omega) AA ?_;intro a4 c4 L4 w9 hv4 hS;(repeat(refine jt ⟨?_⟩;refine hS.q ?_;intro _ hS));refine jt ⟨?_⟩;refine⟨(i+1,a4,c4),⟨rfl,rfl,rfl,rfl,trivial⟩,⟨hil,L4,by rw[hsucc,Hj];exact hv4,?_⟩,by simp;omega⟩;rw[hlk2]at hS⊢;exact hS.sub ((AS _ _).trans (AS _ _))
 ·obtain rfl:i=l.length:=AA;rw[Bz]at hv;rw[IJ]at hS;simp only[Dw]at hS;(repeat(refine jt ⟨?_⟩;refine hS.q ?_;intro _ hS));refine jt ⟨?_⟩;refine(Pd (hS.part (L:=[(rb,A6 [])]))).mono ?_;rintro _ w6⟨rfl,hS'⟩;have hS:=hS.call0 hS';(repeat(refine jt ⟨?_⟩;refine hS.q ?_;intro _ hS));refine jt ⟨?_⟩;exact⟨a,c,L,rfl,hv,hS.sub (CC _ _)⟩
end Go.Proofs.YtkgibdhpijdbfaaGreatDoor
namespace Go.Proofs.YtkgibdhpijdbfaaGreatDoor
open Go Go.Eng Go.Proofs
open Go.RowKit (Below)
abbrev Gs:Value→Option (DataW Unit×List MemPlace):=λ_=>some (.nil,[])
theorem Xj{P:Program}{k:TypeId}(hk:P.underlying k=some .string){x:MapEntry}{s:AE}(hx:x.key=AG s)(hs:s.length≤maxLen):Go.WideElems.rd P k Gs x=some (.string s,.nil):=by
 have hsz:(ByteArray.mk ⟨s⟩).size≤maxLen:=by simpa[ByteArray.size]using hs
 have h1:=Go.WideMaps.keyOf_string_mk hk hsz;unfold Go.WideElems.rd;rw[hx];show(keyOf P k (.string ⟨⟨s⟩⟩)).bind _=_;rw[h1];rfl
theorem vT{α:Type}{P:Program}{k:TypeId}(hk:P.underlying k=some .string){w:World}{m:Nat}{es:Array MapEntry}{c:Nat}(hm:w.heap[m]?=some (.map es c)){val:α→Value}{kvs:List (AE×α)}(h:MapC AG val es c kvs)
  (hl:kvs.length≤maxLen)(hs: ∀x∈kvs,x.1.length≤maxLen):
  ∃D:DataW Unit,w.ownsMap P k Gs m kvs.length D∧(strKeys D).Perm (kvs.map (·.1))∧Maps.size D=kvs.length:=by
 have hkeys:=h.of.keys Bq.str;have hlen:es.size=kvs.length:=by have:=congrArg List.length hkeys;simpa using this
 have hr: ∀x∈es.toList,∃s,x.key=AG s∧s.length≤maxLen:=by
  intro x hx;have:x.key∈es.toList.map (·.key):=CD hx;rw[hkeys]at this;obtain⟨y,hy,hye⟩:=BV.1 this;exact⟨y.1,hye.symm,hs y hy⟩
 have hmap:(es.toList.map (Go.WideElems.rg P k Gs)).map (λp=>strOf p.1)=kvs.map (·.1):=by
  have e1:(es.toList.map (Go.WideElems.rg P k Gs)).map (λp=>AG (strOf p.1))=es.toList.map (·.key):=by
   rw[Fp];apply List.map_congr_left;intro x hx;obtain⟨s,hxs,hss⟩:=hr x hx;simp only[Function.comp_def,Go.WideElems.rg,Xj hk hxs hss,FD,strOf,hxs]
  rw[hkeys]at e1;have inj: ∀l1 l2:List AE,l1.map AG=l2.map AG→l1=l2:=by
   intro l1
   induction l1 with
   |nil=>intro l2 h;cases l2 with|nil=>rfl|cons=>simp at h
   |cons a l1 ih=>
    intro l2 h;cases l2 with
    |nil=>simp at h
    |cons b l2=>
     simp only[A4,List.cons.injEq]at h;rw[Bq.str.inj h.1,ih l2 h.2]
  apply inj;simp only[Fp,Function.comp_def]at e1⊢;exact e1
 refine⟨_,⟨es,c,hm,⟨AA,h.st,λx hx=>?_⟩,AA,rfl⟩,?_,?_⟩
 ·obtain⟨s,hxs,hss⟩:=hr x hx;exact⟨_,Xj hk hxs hss⟩
 ·show((List.foldr DataW.insert [] (es.toList.map (Go.WideElems.rg P k Gs))).map λp=>strOf p.1).Perm _;rw[←hmap];exact(Go.WideShapes.sorted_perm _).map _
 ·show(List.foldr DataW.insert [] (es.toList.map (Go.WideElems.rg P k Gs))).length=_;rw[(Go.WideShapes.sorted_perm _).length_eq];simp[hlen]
abbrev WF(b:Nat):Value:= .func (.func nG) #[] #[.pointer (some ⟨b,0,none⟩)]
theorem sV(mb:Option Nat)(w:World):Cl Tryz.prog nF [.map mb] w λv w'=>v=WF w.heap.size∧w'=w.alloc (.cells #[.map mb] MM):=by
 refine .inl ⟨Tryz.callKeys _ _,Calls.mono (callsIn_wide.1 (Tryz.mapsKeys mb w)) ?_⟩;rintro e w'⟨rfl,rfl⟩;exact⟨_,rfl,rfl,rfl⟩
theorem Ym{e:TypeId}{W w':World}{v:Value}{n:Nat}{xs:List Value}(h:w'.ownsRow W.heap.size e 1 v n xs)(hb:Below W.heap.size W w'): ∃a cap Lv,v= .slice a n cap∧AT e 1 a n cap xs Lv∧St W [] Lv w':=by
 have hst: ∀Lv:AH,(∀p∈Lv,w'.heap[p.1]?=some p.2)→(keys Lv).Nodup→(∀p∈Lv,W.heap.size≤p.1)→St W [] Lv w':=λLv h1 h2 h3=>
  ⟨hb.os,hb.tape,hb.output,hb.size,λb hlt _=>hb.block b hlt,h1,h2,λp hp hlt=>absurd hlt (Nat.not_lt.2 (h3 p hp))⟩
 obtain⟨hl,⟨rfl,rfl⟩|⟨g,cap,cur,rfl,hg,hcell,hn,_,hsz,htk⟩⟩:=h
 ·have:xs=[]:=by cases xs with|nil=>rfl|cons=>simp at hl
  subst this;exact⟨none,0,[],rfl,AT.nil,hst [] AB (by simp[keys]) AB⟩
 ·have e1:cur=⟨xs++cur.toList.drop (n*1)⟩:=by
   rw[←htk,CO]
  refine⟨_,cap,[(g,.cells ⟨xs++cur.toList.drop (n*1)⟩ e (0,0))],rfl,AT.row g n cap xs _ hl ?_ hn,hst _ ?_ (by simp[keys]) ?_⟩
  ·have:cur.toList.length=cap*1:=by simpa using hsz
   rw[Do];omega
  ·intro p hp;rw[Cm]at hp;subst hp;show w'.heap[g]?=some (.cells ⟨xs++cur.toList.drop (n*1)⟩ e (0,0));rw[hcell,←e1]
  ·intro p hp;rw[Cm]at hp;subst hp;exact hg
theorem xT{α:Type}{w:World}{m:Nat}{es:Array MapEntry}{c:Nat}(hm:w.heap[m]?=some (.map es c)){val:α→Value}{kvs:List (AE×α)}(h:MapC AG val es c kvs)(hl:kvs.length≤1099511627776)(hs: ∀x∈kvs,x.1.length≤maxLen):
  Cl Tryz.prog oW [WF w.heap.size] (w.alloc (.cells #[.map (some m)] MM)) λv w'=>∃(ns:List AE)(a:Option Addr)(cap:Nat)(Lv:AH),ns.Perm (kvs.map (·.1))∧v= .slice a ns.length cap∧AT C3 1 a ns.length cap (ns.map AG) Lv∧
   St (w.alloc (.cells #[.map (some m)] MM)) [] Lv w':=by
 have hmx:1099511627776≤maxLen:=AC;obtain⟨D,ho,hp,hsz⟩:=vT (k:=C3) (CZ AK (t:=C3) rfl) hm h AA hs;refine .inl ⟨Tryz.callSorted _ _,Calls.mono (callsIn_wide.1 (Tryz.sortedKeys m kvs.length D Gs w ho (by rw[hsz];omega) (by rw[hsz];omega))) ?_⟩;rintro e w'⟨v,ss,rfl,hS,hrow, -,hb⟩;have hl2:(ss.mergeSort (λx y=>decide (x≤y))).length=ss.length:=(List.mergeSort_perm ss _).length_eq;rw[←hl2]at hrow;obtain⟨a,cap,Lv,rfl,hv,hst⟩:=Ym hrow hb
 exact⟨_,rfl,_,a,cap,Lv,((List.mergeSort_perm ss _).trans hS).trans hp,rfl,hv,hst⟩
theorem VU{w:World}{b:Nat}{m:AJ}{L:AH}(hF:BI b m L)(hh:Holds L w)(hl:m.files.length≤1099511627776)(hs: ∀x∈m.files,x.1.length≤maxLen):
  Cl Tryz.prog qJ [ptr b] w λv w'=>∃(ns:List AE)(a:Option Addr)(cap:Nat)(Lv:AH),ns.Perm (m.files.map (·.1))∧v= .slice a ns.length cap∧AT C3 1 a ns.length cap (ns.map AG) Lv∧St w (keys L) (Lv++L) w':=by
 have hS:=St.enter hh;obtain⟨mf,es,c,hes,ft,Lf,hf⟩:=hF;refine lC rfl ?_;(repeat(refine jt ⟨?_⟩;refine hS.q ?_;intro _ hS));refine jt ⟨?_⟩;refine(sV _ _).mono ?_;rintro _ w1⟨rfl,rfl⟩;have hmf:=hS.mem (b:=mf);have hS:=hS.alloc (.cells #[.map (some mf)] MM);refine jq ⟨?_⟩;refine(xT hmf hes hl hs).mono ?_;rintro _ w2⟨ns,a,cap,Lv,hp,rfl,hv,hS'⟩;have hS:=hS.callNew hS';refine jq ⟨?_⟩;exact⟨ns,a,cap,Lv,hp,rfl,hv,hS.sub (List.Sublist.append (List.Sublist.refl _) (AS _ _))⟩
end Go.Proofs.YtkgibdhpijdbfaaGreatDoor
