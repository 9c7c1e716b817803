/- Texts of this claim, one behind the other. -/
import Derived.Test.YtkgibdhpijdbfaaGreatDoorZ27
import Derived.Test.YtkgibdhpijdbfaaGreatDoorZ30
import Derived.Test.YtkgibdhpijdbfaaGreatDoorZ18
set_option linter.unusedVariables false
set_option linter.unusedSimpArgs false
set_option maxHeartbeats 16000000
namespace Go.Proofs.YtkgibdhpijdbfaaGreatDoor
open Go Go.Eng Go.Proofs
structure FT(A T:Nat)(m:AJ):Prop where
 fb:FB A m
 tx: ∀x∈m.files,x.2.1.length≤T
 sf: ∀x∈m.files,x.2.2≤x.2.1.length
theorem FT.mono{A B T U:Nat}{m:AJ}(h:FT A T m)(h1:A≤B)(h2:T≤U):FT B U m:=⟨h.fb.mono h1,λx hx=>Au (h.tx x hx) h2,h.sf⟩
theorem FT.get{A T:Nat}{m:AJ}(h:FT A T m)(n:AE):((AN m n).getD ([],0)).1.length≤T:=by
 cases e:AN m n with
 |none=>simp
 |some x=>exact h.tx _ (JW e)
theorem FT.find{A T:Nat}{m:AJ}(h:FT A T m)(n:AE):(BB m n).1.1.length≤T:=by
 have:=h.get n;unfold BB
 split
 ·simp
 ·cases e:AN m n with
  |none=>simp
  |some x=>rw[e]at this;exact this
theorem FT.put{A T:Nat}{m:AJ}(h:FT A T m){n:AE}{x:AE×Nat}(hx:x.1.length≤T): ∀y∈Ba n x m.files,y.2.1.length≤T:=λy hy=>(IP hy).elim (λe=>by rw[e];exact hx) (h.tx y)
theorem FT.getS{A T:Nat}{m:AJ}(h:FT A T m)(n:AE):((AN m n).getD ([],0)).2≤((AN m n).getD ([],0)).1.length:=by
 cases e:AN m n with
 |none=>exact AV _
 |some x=>exact h.sf _ (JW e)
theorem FT.findS{A T:Nat}{m:AJ}(h:FT A T m)(n:AE):(BB m n).1.2≤(BB m n).1.1.length:=by
 have:=h.getS n;unfold BB
 split
 ·exact AV _
 ·cases e:AN m n with
  |none=>exact AV _
  |some x=>rw[e]at this;exact this
theorem FT.putS{A T:Nat}{m:AJ}(h:FT A T m){n:AE}{x:AE×Nat}(hx:x.2≤x.1.length): ∀y∈Ba n x m.files,y.2.2≤y.2.1.length:=λy hy=>(IP hy).elim (λe=>by rw[e];exact hx) (h.sf y)
theorem FT.del{A T:Nat}{m:AJ}(h:FT A T m)(n:AE):FT (A+1) T (BA m n).2:=by
 refine⟨h.fb.del n,?_,?_⟩
 ·unfold BA
  split
  ·exact h.tx
  ·simp only
   split
   ·exact h.tx
   ·exactλy hy=>h.tx y ((GZ n _).mem hy)
 ·unfold BA
  split
  ·exact h.sf
  ·simp only
   split
   ·exact h.sf
   ·exactλy hy=>h.sf y ((GZ n _).mem hy)
theorem FT.app{A T:Nat}{m:AJ}(h:FT A T m)(n:AE)(ps:List AE)(hl:((AN m n).getD ([],0)).1.length+ps.flatten.length≤T)(hT:T≤1099511627776):FT (A+1) T (A9 m n ps).2:=by
 refine⟨h.fb.app n ps AA,?_,?_⟩
 ·unfold A9
  split
  ·exact h.tx
  split
  ·exact h.tx
  split
  ·exact h.tx
  split
  ·exact h.tx
  ·exact h.put (by simpa using hl)
 ·have hs:=h.getS n;unfold A9
  split
  ·exact h.sf
  split
  ·exact h.sf
  split
  ·exact h.sf
  split
  ·exact h.sf
  ·exact h.putS (by simp only[AP];omega)
theorem FT.sync{A T:Nat}{m:AJ}(h:FT A T m)(n:AE):FT (A+1) T (CW m n).2:=by
 refine⟨h.fb.sync n,?_,?_⟩
 ·unfold CW
  split
  ·exact h.tx
  simp only
  split
  ·exact h.tx
  ·exact h.put (h.find n)
 ·unfold CW
  split
  ·exact h.sf
  simp only
  split
  ·exact h.sf
  ·exact h.putS (AV _)
theorem FT.ren{A T:Nat}{m:AJ}(h:FT A T m)(a b:AE):FT (A+1) T (Cx m a b).2:=by
 refine⟨h.fb.ren a b,?_,?_⟩
 ·unfold Cx
  split
  ·exact h.tx
  split
  ·exact h.tx
  simp only
  split
  ·exact h.tx
  ·intro y hy;rcases IP hy with e|hy
   ·rw[e];exact h.find a
   ·exact h.tx y ((GZ a _).mem hy)
 ·unfold Cx
  split
  ·exact h.sf
  split
  ·exact h.sf
  simp only
  split
  ·exact h.sf
  ·intro y hy;rcases IP hy with e|hy
   ·rw[e];exact h.findS a
   ·exact h.sf y ((GZ a _).mem hy)
theorem FT.file{A T:Nat}{m:AJ}(h:FT A T m)(n t:AE)(ht:t.length≤T)(hT:T≤1099511627776):FT (A+3) T (CE m n t).2:=by
 unfold CE
 split
 ·exact(h.del n).mono AA (AV _)
 rename_i hd;have hg:=Nz (n:=n) h.fb.nd AA;have ha:=(h.del n).app n [t] (by rw[hg];simpa using ht) hT
 split
 ·exact ha.mono AA (AV _)
 ·exact ha.sync n
theorem FT.rewrite{A T:Nat}{m:AJ}(h:FT A T m)(n:AE)(ps:List AE)(ht:(AQ ps).length≤T)(hT:T≤1099511627776):FT (A+3) T (Cd m n ps).2:=by
 unfold Cd
 split
 ·exact h.file n _ ht hT
 ·exact h.mono AA (AV _)
theorem FT.appL{A T:Nat}{m:AJ}(h:FT A T m)(g:BF)(ps:List AE)(hT:T+(AQ ps).length≤1099511627776):FT (A+2) (T+(AQ ps).length) (Proofs.YtkgibdhpijdbfaaGreatDoor.appL m g ps).2.2:=by
 have h0:FT A (T+(AQ ps).length) m:=h.mono (AV _) (Nat.le_add_right _ _);have h1:FT (A+1) (T+(AQ ps).length) (A9 m g.name [AQ ps]).2:=h0.app g.name [AQ ps] (by have:=h.get g.name;simp;omega) hT;have h2:=h1.sync g.name;show FT (A+2) _ (DJ m g.name g.n g.torn g.dead ps).2.2;unfold DJ
 split
 ·exact h0.mono AA (AV _)
 split
 ·exact h0.mono AA (AV _)
 split
 ·exact h0.mono AA (AV _)
 split
 ·exact h0.mono AA (AV _)
 split
 ·exact h1.mono AA (AV _)
 ·exact h2
theorem FT.relist{A T:Nat}{m:AJ}(h:FT A T m)(s:AM)(v:VM)(hs:(AQ (Ay {v with next:=v.next+1})).length≤T)(hn:(AX v.next).length≤T)(hT:T≤1099511627776):FT (A+7) T (FW s m v).2.2.2:=by
 have h1:=h.rewrite (AX v.next) (Ay {v with next:=v.next+1}) hs hT;have h2:=h1.file Bb (AX v.next) hn hT;have h3:=h2.ren Bb Bg;unfold FW;simp only
 split
 ·exact h1.mono AA (AV _)
 split
 ·exact h2.mono AA (AV _)
 split
 ·exact h3
 split
 ·exact h3
 ·exact h3
theorem FT.edit{A T:Nat}{m:AJ}(h:FT A T m)(s:AM)(x:EM)(mk:List (Int×List AF))(hs: ∀nx,BQ s.v x=some nx→(AQ (Ay {nx with next:=nx.next+1})).length≤T∧(AX nx.next).length≤T)(hT:T+65544≤1099511627776):FT (A+7) (T+65544) (DY s m x mk).2.2:=by
 unfold DY;cases e:BQ s.v x with
 |none=>exact h.mono AA AA
 |some nx=>
  obtain⟨h1,h2⟩:=hs nx e;simp only
  split
  ·have:=h.relist s nx h1 h2 AA
   split<;>exact this.mono AA AA
  ·rename_i hl;cases s.list with
   |none=>exact h.mono AA AA
   |some g=>
    simp only;have hsl:(AQ [Am x]).length≤65544:=by rw[Ds];simp[BG];omega
    have:=h.appL g [Am x] AA
    split<;>exact this.mono AA AA
theorem FT.lay{T:Nat}(hT:1048576≤T∧T≤1099511627776): ∀(cs:List (List AF)){A:Nat}{m:AJ}(n:Int),FT A T m→(∀c∈cs,B8 c)→FT (A+3*cs.length) T (Bi m n cs).2
 |[],A,m,n,h,_=>h
 |c::cs,A,m,n,h,hc=>by
  have ht:=(hc c CN).bytes;have h1:=h.file (Aw n) (B5 c) AA hT.2;unfold Bi
  split
  ·exact h1.mono (by rw[Ai];omega) (AV _)
  ·have:=FT.lay hT cs (n+1) h1 (λd hd=>hc d (CJ _ hd));rw[Ai];exact this.mono AA (AV _)
theorem FT.delAll{T:Nat}: ∀(ns:List AE){A:Nat}{m:AJ},FT A T m→FT (A+ns.length) T (Proofs.YtkgibdhpijdbfaaGreatDoor.delAll ns m).2
 |[],A,m,h=>h
 |n::ns,A,m,h=>by
  unfold Proofs.YtkgibdhpijdbfaaGreatDoor.delAll
  split
  ·exact(h.del n).mono (by rw[Ai];omega) (AV _)
  ·have:=FT.delAll ns (h.del n);rw[Ai];exact this.mono AA (AV _)
theorem O7(ops:List Ac)(k:Nat)(hk:k<ops.length):Ap (ops.take (k+1))=Ap (ops.take k)+D9 ops[k]:=by
 unfold Ap;rw[Bs hk,A7,IL];simp
theorem NF(ops:List Ac)(k:Nat):Ap (ops.take k)≤Ap ops:=by
 have:Ap ops=Ap (ops.take k)+Ap (ops.drop k):=by
  unfold Ap;rw[←IL,←A7,CO]
 omega
theorem PC{ops:List Ac}{o:Ac}(h:o∈ops):D9 o≤Ap ops:=by
 induction ops with
 |nil=>cases h
 |cons p ops ih=>
  have e:Ap (p::ops)=D9 p+Ap ops:=by simp[Ap]
  rw[e];rcases As.1 h with rfl|h
  ·exact Nat.le_add_right _ _
  ·have:=ih h;omega
theorem sF(x:AF)(l:List AF):(DS x l).length≤l.length+1∧An (DS x l)≤An l+CS x:=by
 rw[J0];have e:=GH x.k x.s l;have e1:=congrArg List.length e;have e2:=congrArg An e;rw[G9]at e2;rw[AP]at e1;rw[G9,AP];generalize Br x.k x.s l=r at*;have e3: ∀q:List AF,An (x::q)=CS x+An q:=λq=>by simp[An]
 rw[e3,Ai];cases r with
 |nil=>simp[An]at*;omega
 |cons y r=>
  have e4:An (y::r)=CS y+An r:=by simp[An]
  rw[Ai]at e1;simp only
  split
  ·omega
  ·rw[Ai,e4];omega
theorem yM(seq:Int)(ops:List Ac)(l:List AF)(k:Nat)(hk:k<ops.length):Cy seq (ops.take (k+1)) l=DS (C7 seq ops[k]) (Cy seq (ops.take k) l):=by
 unfold Cy;rw[Bs hk,Hq];rfl
theorem PE(seq:Int): ∀(ops:List Ac){l:List AF},Az l→Az (Cy seq ops l)
 |[],_,h=>h
 |o::ops,l,h=>PE seq ops (l:=DS (C7 seq o) l) (OT h)
theorem QU(seq:Int)(o:Ac):CS (C7 seq o)+16≤D9 o:=by
 unfold CS C7 D9;simp only
 split<;>simp<;>omega
theorem PF(seq:Int): ∀(ops:List Ac)(l:List AF),(Cy seq ops l).length≤l.length+ops.length∧An (Cy seq ops l)≤An l+Ap ops
 |[],l=>by simp[Cy,Ap]
 |o::ops,l=>by
  have h1:=PF seq ops (DS (C7 seq o) l);have h2:=sF (C7 seq o) l;have h3:=QU seq o;have e:Ap (o::ops)=D9 o+Ap ops:=by simp[Ap]
  have e2:Cy seq (o::ops) l=Cy seq ops (DS (C7 seq o) l):=rfl;rw[e,e2,Ai];omega
theorem bW(seq:Int)(o:Ac):Fk (N9 seq o)=C7 seq o:=rfl
theorem aA{w:World}{a:Option Addr}{c:Nat}{ops:List Ac}(ha:Arr w [] a (ops.flatMap A8))(hl:Ap ops≤1099511627776)(hn:ops.length≤1099511627776):
  Cl Tryz.prog pJ [.slice a ops.length c] w λv w'=>v= .int .i64 (Ap ops)∧St w [] [] w':=by
 have hS:=St.start w;have hcl:=HU ops;refine i7 rfl ?_;refine jq ⟨?_⟩;refine AL.loop (λk:Nat=>[(6,.slice a ops.length c),(7,.int .i64 ops.length),(8,.int .i64 k),(3,.int .i64 (Ap (ops.take k)))]) (λk w'=>k≤ops.length∧St w [] [] w') (λk=>ops.length-k) 0
  ⟨rfl,rfl,rfl,rfl,trivial⟩ ⟨Ag _,hS⟩ ?_
 clear hS;rintro k w1⟨hk,hS⟩;by_cases hkl:k<ops.length
 ·obtain⟨g,off,rfl, -, -⟩:=ha.get (j:=k*3) AA;have hat:=I3 ops k hkl;have hsucc:=O7 ops k hkl;have hle:=NF ops k;have hsz:=PC (Ca hkl);generalize ops[k]=o at hat hsucc hsz;refine jq ⟨?_⟩;refine Arr.ldn hS ha rfl (k:=k*3) hat rfl ?_;unfold A8;unfold D9 at hsucc hsz;refine jq ⟨?_⟩;refine hS.al ?_;intro b5 w2 _ hS;(repeat(refine jt ⟨?_⟩;refine hS.q ?_;intro _ hS));refine jt ⟨?_⟩;exact⟨k+1,⟨rfl,rfl,rfl,by rw[hsucc];exact congrArg (Value.int .i64) AA,trivial⟩,⟨AA,hS.sub (AS _ _)⟩,AA⟩
 ·obtain rfl:k=ops.length:=AA;refine jq ⟨?_⟩;rw[Bz];exact⟨rfl,hS⟩
theorem y9(fs:List Af)(k:Nat)(hk:k<fs.length):((fs.take (k+1)).filter λf=>decide (f.1=0)).length=((fs.take k).filter λf=>decide (f.1=0)).length+if fs[k].1=0 then 1 else 0:=by
 rw[Bs hk,J3,AP]
 congr 1
 by_cases h:fs[k].1=0<;>simp[h]
theorem aD{w:World}{sb f:Nat}{s:AM}{m:AJ}{L:AH}(hO:AW sb f s m L)(hh:Holds L w)(hn:s.v.files.length≤16777216):Cl Tryz.prog U8 [ptr sb] w λv w'=>v= .int .i64 (SX s)∧St w (keys L) L w':=by
 have hS:=St.enter hh;obtain⟨sq,es,c,hsq,ha,hc,Lh,hvh,a,ca,La,hv,lv,Ll,hl,gv,Lg,hg,mb,Lm,hm,tm,et,ct,ks,ht,Lt,hts,LF,hF⟩:=hO;generalize keys _=T0 at hS⊢;refine iW rfl ?_;(repeat(refine jt ⟨?_⟩;refine hS.q ?_;intro _ hS));refine jt ⟨?_⟩;have hcl:=G4 s.v.files;refine AL.loop (λk:Nat=>[(10,.slice a s.v.files.length ca),(11,.int .i64 s.v.files.length),(12,.int .i64 k),(3,.int .i64 ((s.v.files.take k).filter λf=>decide (f.1=0)).length)])
  (λk w'=>k≤s.v.files.length∧St w T0 _ w') (λk=>s.v.files.length-k) 0
  ⟨rfl,rfl,rfl,rfl,trivial⟩ ⟨Ag _,hS⟩ ?_
 clear hS;rintro k w1⟨hk,hS⟩;have hfa:=Km hS hv.vec;by_cases hkl:k<s.v.files.length
 ·obtain⟨g,off,rfl⟩:=hfa.pos AA;have hat:=hfa.at hkl;have hsucc:=y9 s.v.files k hkl;have hle:((s.v.files.take k).filter λf=>decide (f.1=0)).length≤s.v.files.length:=by
   refine Au (List.length_filter_le _ _) ?_;rw[BR];omega
  generalize s.v.files[k]=fl at hat hsucc;(repeat(refine jt ⟨?_⟩;refine hS.q ?_;intro _ hS));refine jt ⟨?_⟩;refine Arr.ldn (St.start w1) hfa.arr rfl (k:=k*2) hat rfl ?_;unfold Ad;(repeat(refine jt ⟨?_⟩;refine hS.q ?_;intro _ hS));refine jt ⟨?_⟩;refine hS.al ?_;intro b5 w2 _ hS;(repeat(refine jt ⟨?_⟩;refine hS.q ?_;intro _ hS));refine jt ⟨?_⟩;by_cases h0:fl.1=0
  ·rw[if_pos h0]at hsucc;(repeat(refine jt ⟨?_⟩;refine hS.q ?_;intro _ hS));refine jt ⟨?_⟩;exact⟨k+1,⟨rfl,rfl,rfl,by rw[hsucc];rfl,trivial⟩,⟨AA,hS.sub (AS _ _)⟩,AA⟩
  ·rw[if_neg h0]at hsucc;(repeat(refine jt ⟨?_⟩;refine hS.q ?_;intro _ hS));refine jt ⟨?_⟩;exact⟨k+1,⟨rfl,rfl,rfl,by rw[hsucc];rfl,trivial⟩,⟨AA,hS.sub (AS _ _)⟩,AA⟩
 ·have hke:k=s.v.files.length:=AA;subst hke;(repeat(refine jt ⟨?_⟩;refine hS.q ?_;intro _ hS));refine jt ⟨?_⟩;rw[Bz];exact⟨rfl,hS⟩
theorem TS{w:World}{sb f:Nat}{s:AM}{m:AJ}{L:AH}(hO:AW sb f s m L)(hh:Holds L w)(seq:Int){a:Option Addr}{c:Nat}{ops:List Ac}(ha:Arr w (keys L) a (ops.flatMap A8))(hr:Az s.mem)
  (h1:An s.mem+Ap ops≤1099511627776)(h2:s.mem.length+ops.length≤1099511627776)(h3:s.adds+ops.length≤4611686018427387904):
  Cl Tryz.prog pF [ptr sb,.int .i64 seq,.slice a ops.length c] w λ_ w'=>∃L',AW sb f {s with mem:=Cy seq ops s.mem,adds:=s.adds+ops.length} m L'∧St w (keys L) L' w':=by
 have hS:=St.enter hh;have hcl:=HU ops;generalize keys L=T0 at hS ha⊢;refine iV rfl ?_;refine jq ⟨?_⟩;refine AL.loop (λk:Nat=>[(0,ptr sb),(1,.int .i64 seq),(8,.slice a ops.length c),(9,.int .i64 ops.length),(10,.int .i64 k)])
  (λk w'=>k≤ops.length∧ ∃L',AW sb f {s with mem:=Cy seq (ops.take k) s.mem,adds:=s.adds+k} m L'∧St w T0 L' w') (λk=>ops.length-k) 0
  ⟨rfl,rfl,rfl,rfl,rfl,trivial⟩ ⟨Ag _,L,hO,hS⟩ ?_
 clear hS hO;rintro k w1⟨hk,L1,hO,hS⟩;by_cases hkl:k<ops.length
 ·obtain⟨g,off,rfl, -, -⟩:=ha.get (j:=k*3) AA;have hat:=I3 ops k hkl;have hsucc:=yM seq ops s.mem k hkl;have htr:=PE seq (ops.take k) hr;have hts2:=PF seq (ops.take k) s.mem;have hle:=NF ops (k+1);rw[O7 ops k hkl]at hle;have hez:=QU seq ops[k];have hcr:=bW seq ops[k];have hxz:CS (N9 seq ops[k])+16≤D9 ops[k]:=by unfold CS N9 D9;simp only;omega
  rw[BR,Nat.min_eq_left hk]at hts2;generalize ops[k]=o at hat hsucc hle hez hcr hxz;obtain⟨sq,es,cq,hsq,ha1,hc1,Lh,hvh,a2,ca,La,hv,lv,Ll,hl,gv,Lg,hg,mb,Lm,hm,tm,et,ct,ks,ht,Lt,hts,LF,hF⟩:=hO;simp only at hm hts hF hl hg hv hvh hsq ht;generalize Cy seq (ops.take k) s.mem=mem at hm hsucc htr hts2 hS;(repeat(refine jt ⟨?_⟩;refine hS.q ?_;intro _ hS));refine jt ⟨?_⟩;refine Arr.ldn hS ha rfl (k:=k*3) hat rfl ?_
  unfold A8;(repeat(refine jt ⟨?_⟩;refine hS.q ?_;intro _ hS));refine jt ⟨?_⟩;refine hS.al ?_;intro b7 w2 _ hS;(repeat(refine jt ⟨?_⟩;refine hS.q ?_;intro _ hS));refine jt ⟨?_⟩;refine AL.draw AK mixed (λw'=>St w T0 _ w') [13] [0,1,2,3,4,5,6,7,8,9,10,11,12,13] AD hS.drew ?_;have hS:=hS.drew;refine jr ⟨?_⟩;refine hS.al ?_;intro b26 w3 _ hS;refine Ae.mk (hS.sub (AS _ _)) ?_;refine jr ⟨?_⟩;refine Cl.mono (ZZ hm (hS.part (L:=Lm)) htr (x:=N9 seq o) (hS.arr (b:=b26) (Cp hS)) AA AA AA) ?_
  rintro _ w4⟨Lm2,hm2,hS'⟩;have hS:=(hS.call (L:=Lm) hS').sub ((AS _ _).trans (AS _ _));rw[hcr,←hsucc]at hm2;(repeat(refine jt ⟨?_⟩;refine hS.q ?_;intro _ hS));refine jt ⟨?_⟩;exact⟨k+1,⟨rfl,rfl,rfl,rfl,rfl,trivial⟩,⟨AA,_,AW.mk (s:={s with mem:=Cy seq (ops.take (k+1)) s.mem,adds:=s.adds+(k+1)}) sq es cq hsq ha1 hc1 Lh hvh a2 ca La hv lv Ll hl gv Lg hg mb Lm2 hm2 tm et ct ks ht Lt hts LF hF,hS⟩,AA⟩
 ·obtain rfl:k=ops.length:=AA;rw[Bz]at hO;refine jq ⟨?_⟩;exact⟨L1,hO,hS⟩
theorem vN(ops:List Ac)(k:Nat)(hk:k<ops.length):DU (ops.take (k+1))=DU (ops.take k)++I2 ops[k]:=by
 unfold DU;rw[Bs hk,A7,GW];simp
theorem vB(o:Ac)(h:D9 o≤1099511627776):(I2 o).length≤D9 o+30:=by
 unfold D9 at h⊢;have h1:=DL (n:=o.1.length) AA;have h2:=DL (n:=o.2.2.length) AA;have h3:=DL (n:=0) AA;have h4:=DL (n:=1) AA;unfold I2 Be
 split
 ·simp only[AP];omega
 ·simp only[AP];omega
theorem M5: ∀(ops:List Ac),Ap ops≤1099511627776→(DU ops).length≤Ap ops+30*ops.length
 |[],_=>by simp[DU,Ap]
 |o::ops,h=>by
  have e:Ap (o::ops)=D9 o+Ap ops:=by simp[Ap]
  have e2:DU (o::ops)=I2 o++DU ops:=by simp[DU]
  have h1:=vB o AA;have h2:=M5 ops AA;rw[e,e2,AP,Ai];omega
theorem KI: ∀(ops:List Ac),16*ops.length≤Ap ops
 |[]=>AB
 |o::ops=>by
  have e:Ap (o::ops)=D9 o+Ap ops:=by simp[Ap]
  have:=KI ops;rw[e,Ai];unfold D9;omega
theorem M8(seq:Int)(ops:List Ac)(hq:CA seq)(h:Ap ops≤1099511627776):(B0 seq ops).length≤20+3*Ap ops:=by
 have h1:=M5 ops h;have h2:=KI ops;have h3:=DL (n:=ops.length) AA;have h4:(Bh seq).length≤10:=EP _ (Lk hq);unfold B0;simp only[AP];omega
theorem Z7{w:World}{seq:Int}{a:Option Addr}{c:Nat}{ops:List Ac}(ha:Arr w [] a (ops.flatMap A8))(hq:CA seq)(hsz:Ap ops≤1099511627776):
  Cl Tryz.prog pI [.int .i64 seq,.slice a ops.length c] w λv w'=>v=AG (B0 seq ops)∧St w [] [] w':=by
 have hS:=St.start w;have hcl:=HU ops;have hcnt:=KI ops;have hil:(Bh seq).length≤10:=EP _ (Lk hq);have hnl:=DL (n:=ops.length) AA;refine i6 rfl ?_;refine jq ⟨?_⟩;refine MH.mono ?_;rintro _ w1⟨pb,L,rfl,hW,hS'⟩;have hS:=hS.callNew hS';rw[BU]at hS;refine jq ⟨?_⟩;refine hS.al ?_;intro b11 w2 _ hS;(repeat(refine jt ⟨?_⟩;refine hS.q ?_;intro _ hS));refine jt ⟨?_⟩;refine Cl.mono (MF hW (hS.part (L:=L)) (zs:=[seq]) (hS.arr (b:=b11) (Cp hS)) (by intro z hz;simp only[Cm]at hz;subst hz;exact hq) AB AB) ?_
 rintro _ w3⟨L,hW,hS'⟩;have hS:=(hS.call hS').sub (AS _ _);rw[show []++Ci [seq]=Bh seq by simp[Ci]]at hW;(repeat(refine jt ⟨?_⟩;refine hS.q ?_;intro _ hS));refine jt ⟨?_⟩;refine hS.al ?_;intro b17 w4 _ hS;(repeat(refine jt ⟨?_⟩;refine hS.q ?_;intro _ hS));refine jt ⟨?_⟩;refine Cl.mono (Gg hW (hS.part (L:=L)) (ns:=[ops.length]) (hS.arr (b:=b17) (Cp hS)) (by intro m hm;simp only[Cm]at hm;subst hm;omega) AB (by simp;omega)) ?_
 rintro _ w5⟨L,hW,hS'⟩;have hS:=(hS.call hS').sub (AS _ _);rw[show([ops.length].map Ak).flatten=Ak ops.length by simp]at hW;(repeat(refine jt ⟨?_⟩;refine hS.q ?_;intro _ hS));refine jt ⟨?_⟩;refine AL.loop (λk:Nat=>[(1,.slice a ops.length c),(5,ptr pb),(19,.slice a ops.length c),(20,.int .i64 ops.length),(21,.int .i64 k)])
  (λk w'=>k≤ops.length∧ ∃L,DO pb (Bh seq++Ak ops.length++DU (ops.take k)) L∧St w [] L w') (λk=>ops.length-k) 0
  ⟨rfl,rfl,rfl,rfl,rfl,trivial⟩ ⟨Ag _,L,by simpa[DU]using hW,hS⟩ ?_
 clear hS hS' hW;rintro k w6⟨hk,L,hW,hS⟩;by_cases hkl:k<ops.length
 ·obtain⟨g,off,rfl, -, -⟩:=ha.get (j:=k*3) AA;have hat:=I3 ops k hkl;have hsucc:=vN ops k hkl;have hol:=M5 (ops.take k) (by have:=NF ops k;omega);have hsz1:=NF ops (k+1);rw[O7 ops k hkl]at hsz1;rw[BR,Nat.min_eq_left hk]at hol;generalize ops[k]=o at hat hsucc hsz1;obtain⟨ok,od,ov⟩:=o;unfold D9 at hsz1;simp only at hsz1;have htk:(Be ok).length≤10+ok.length:=by have:=DL (n:=ok.length) AA;unfold Be;rw[AP];omega
  have hn0:=DL (n:=0) AA;have hn1:=DL (n:=1) AA;(repeat(refine jt ⟨?_⟩;refine hS.q ?_;intro _ hS));refine jt ⟨?_⟩;refine Arr.ldn hS ha rfl (k:=k*3) hat rfl ?_;unfold A8;(repeat(refine jt ⟨?_⟩;refine hS.q ?_;intro _ hS));refine jt ⟨?_⟩;refine hS.al ?_;intro b7 w7 _ hS;(repeat(refine jt ⟨?_⟩;refine hS.q ?_;intro _ hS));refine jt ⟨?_⟩;refine hS.al ?_;intro b28 w8 _ hS;(repeat(refine jt ⟨?_⟩;refine hS.q ?_;intro _ hS));refine jt ⟨?_⟩
  refine Cl.mono (MO hW (hS.part (L:=L)) (ss:=[ok]) (hS.arr (b:=b28) (Cp hS)) (by simp[BG];omega)) ?_;rintro _ w9⟨L,hW,hS'⟩;have hS:=(hS.call hS').sub (AS _ _);rw[show E3 [ok]=Be ok by simp[E3]]at hW;cases od with
  |true=>
   (repeat(refine jt ⟨?_⟩;refine hS.q ?_;intro _ hS));refine jt ⟨?_⟩;refine hS.al ?_;intro b33 w10 _ hS;(repeat(refine jt ⟨?_⟩;refine hS.q ?_;intro _ hS));refine jt ⟨?_⟩;refine Cl.mono (Gg hW (hS.part (L:=L)) (ns:=[1]) (hS.arr (b:=b33) (Cp hS)) (by intro m hm;simp only[Cm]at hm;subst hm;omega) AB (by simp;omega)) ?_;rintro _ w11⟨L,hW,hS'⟩;have hS:=(hS.call hS').sub ((AS _ _).trans (AS _ _));rw[show([1].map Ak).flatten=Ak 1 by simp]at hW
   (repeat(refine jt ⟨?_⟩;refine hS.q ?_;intro _ hS));refine jt ⟨?_⟩;refine⟨k+1,⟨rfl,rfl,rfl,rfl,rfl,trivial⟩,⟨hkl,_,?_,hS⟩,AA⟩;rw[hsucc];unfold I2;simpa using hW
  |false=>
   (repeat(refine jt ⟨?_⟩;refine hS.q ?_;intro _ hS));refine jt ⟨?_⟩;refine hS.al ?_;intro b33 w10 _ hS;(repeat(refine jt ⟨?_⟩;refine hS.q ?_;intro _ hS));refine jt ⟨?_⟩;refine Cl.mono (Gg hW (hS.part (L:=L)) (ns:=[0]) (hS.arr (b:=b33) (Cp hS)) (by intro m hm;simp only[Cm]at hm;subst hm;omega) AB (by simp;omega)) ?_;rintro _ w11⟨L,hW,hS'⟩;have hS:=(hS.call hS').sub (AS _ _);rw[show([0].map Ak).flatten=Ak 0 by simp]at hW
   (repeat(refine jt ⟨?_⟩;refine hS.q ?_;intro _ hS));refine jt ⟨?_⟩;refine hS.al ?_;intro b41 w12 _ hS;(repeat(refine jt ⟨?_⟩;refine hS.q ?_;intro _ hS));refine jt ⟨?_⟩;refine Cl.mono (MO hW (hS.part (L:=L)) (ss:=[ov]) (hS.arr (b:=b41) (Cp hS)) (by simp[BG];omega)) ?_;rintro _ w13⟨L,hW,hS'⟩;have hS:=(hS.call hS').sub ((AS _ _).trans (AS _ _));rw[show E3 [ov]=Be ov by simp[E3]]at hW;(repeat(refine jt ⟨?_⟩;refine hS.q ?_;intro _ hS));refine jt ⟨?_⟩
   refine⟨k+1,⟨rfl,rfl,rfl,rfl,rfl,trivial⟩,⟨hkl,_,?_,hS⟩,AA⟩;rw[hsucc];unfold I2;simpa using hW
 ·obtain rfl:k=ops.length:=AA;rw[Bz]at hW;(repeat(refine jt ⟨?_⟩;refine hS.q ?_;intro _ hS));refine jt ⟨?_⟩;refine Cl.mono (Lz hW (hS.part (L:=L))) ?_;rintro _ w7⟨rfl,hS'⟩;have hS:=hS.call (L:=L) hS';(repeat(refine jt ⟨?_⟩;refine hS.q ?_;intro _ hS));refine jt ⟨?_⟩;refine⟨?_,hS.nil⟩;unfold B0;rw[Aj]
end Go.Proofs.YtkgibdhpijdbfaaGreatDoor
