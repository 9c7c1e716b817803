/- Texts of this claim, one behind the other. -/
import Derived.Test.YtkgibdhpijdbfaaGreatDoorZ25
import Derived.Test.YtkgibdhpijdbfaaGreatDoorZ26
import Derived.Test.YtkgibdhpijdbfaaGreatDoorZ12
import Derived.Test.YtkgibdhpijdbfaaGreatDoorZ17
set_option linter.unusedVariables false
set_option linter.unusedSimpArgs false
set_option maxHeartbeats 16000000
namespace Go.Proofs.YtkgibdhpijdbfaaGreatDoor
open Go Go.Eng Go.Proofs Go.Srt
theorem dK(v:VM):(JU v).length=EU v:=by simp[JU]
theorem JT(v:VM):(Ay v).length=EU v:=by simp[Ay,dK]
theorem dJ(v:VM)(k:Nat)(hk:k<EU v):(Ay v).take (k+1)=(Ay v).take k++[Al (C3 v k)]:=by
 have h:k<(Ay v).length:=by rw[JT];exact hk
 rw[Bq h];simp[Ay,JU]
theorem wO{v:VM}(h:C6 (En v)=true)(i:Nat):C6 (C3 v i)=true:=by
 unfold C6 at h⊢;simp only[Bool.and_eq_true,Db]at h⊢;exact⟨⟨λf hf=>h.1.1 f (List.mem_of_mem_drop (HJ hf)),h.1.2⟩,h.2⟩
theorem M7{v:VM}(h:EQ (En v))(i:Nat):EQ (C3 v i):=
 {h with add:=λf hf=>h.add f (List.mem_of_mem_drop (HJ hf))}
theorem qU{w:World}{a:Option Addr}{c:Nat}{l:List Af}(ha:Arr w [] a (l.flatMap Ad))(hc:l.length≤c){g off:Nat}(he:a=some ⟨g,off,none⟩){p n:Nat}(hp:p+n≤l.length):
  Arr w [] (CU g off p c 2) (((l.drop p).take n).flatMap Ad):=by
 subst he;have e1:l.flatMap Ad=(l.take p).flatMap Ad++(l.drop p).flatMap Ad:=by rw[←VS,CN]
 rw[e1]at ha;have hlen:=G3 (l.take p);rw[Ba,IM AA]at hlen;have h1:=ha.dropS (k:=p) (sz:=2) (cap:=c) hlen (λh=>by
  rcases Nat.lt_or_ge p l.length with h2|h2
  ·omega
  ·rw[List.drop_of_length_le h2]at h;exact absurd rfl h)
 have e2:(l.drop p).flatMap Ad=((l.drop p).take n).flatMap Ad++((l.drop p).drop n).flatMap Ad:=by rw[←VS,CN]
 intro j x hx;have hj:((l.drop p).flatMap Ad)[j]?=some x:=by
  rw[e2,Cq (Fm.1 hx).1];exact hx
 exact h1 j x hj
theorem UW{w:World}{g c:Nat}{v:VM}(ha:Arr w [] (some ⟨g,0,none⟩) (v.files.flatMap Ad))(hc:v.files.length≤c)(k:Nat)(hk:k*2000≤v.files.length):Arr w [] (CU g 0 (k*2000) c 2) ((C3 v k).add.flatMap Ad):=by
 have e3:(v.files.drop (k*2000)).take (min 2000 (v.files.length-k*2000))=(C3 v k).add:=by
  show _=(v.files.drop (k*2000)).take 2000;rw[←D3,←List.take_eq_take_min]
 generalize(C3 v k).add=q at e3⊢;generalize k*2000=p at hk e3⊢;subst e3;exact qU ha hc rfl AA
structure EI where
 k:Nat
 a:Option Addr
 c:Nat
set_option maxRecDepth 4000 in
theorem TJ{w:World}{a:Option Addr}{ca:Nat}{v:VM}(hv:Gz w a ca v)(hr:C6 (En v)=true)(ho:EQ (En v))(hl:v.files.length≤8388608):
  Cl Tryz.prog pH [.agg ⟨C8 a ca v⟩] w λr w'=>∃a' c' L,r= .slice a' (Ay v).length c'∧AT C0 1 a' (Ay v).length c' ((Ay v).map AG) L∧St w [] L w':=by
 have hS:=St.start w;have hwh:=λ(w:World)(hv:Gz w a ca v)=>aX hv AA;rw[JT];unfold C8;refine iZ rfl ?_;refine jq ⟨?_⟩;refine hS.al ?_;intro b1 w1 _ hS;(repeat(refine jt ⟨?_⟩;refine hS.q ?_;intro _ hS));refine jt ⟨?_⟩;refine Cl.mono (hwh _ ⟨hv.files.keep hS.nil,hv.rng⟩) ?_;rintro _ w2⟨a3,c3,L3,rfl,hv3,hS'⟩;have hS:=hS.callNew hS';unfold Du En;(repeat(refine jt ⟨?_⟩;refine hS.q ?_;intro _ hS));refine jt ⟨?_⟩
 refine hS.al ?_;intro b3 w3 _ hS;(repeat(refine jt ⟨?_⟩;refine hS.q ?_;intro _ hS));refine jt ⟨?_⟩;have hst:St w [] ([]++((b3,.cells ⟨[.slice a3 v.files.length c3,.slice none 0 0,.int .i64 v.wal,.int .i64 v.next,.int .i64 v.seq]⟩ Br (0,0))::(L3++[]))) _:=hS.sub (.cons_cons _ (List.Sublist.append (.refl _) (List.nil_sublist _)));clear hS hS';have hN1:1≤EU v:=by unfold EU;omega
 refine AM.loop (λz:EI=>[(2,.slice none 0 0),(3,ptr b3),(4,.slice z.a z.k z.c),(5,.int .i64 ((z.k*2000:Nat):Int))])
  (λz w'=>z.k≤EU v∧ ∃Lx,AT C0 1 z.a z.k z.c (((Ay v).take z.k).map AG) Lx∧St w [] (Lx++((b3,.cells ⟨[.slice a3 v.files.length c3,.slice none 0 0,.int .i64 v.wal,.int .i64 v.next,.int .i64 v.seq]⟩ Br (0,0))::(L3++[]))) w') (λz=>EU v-z.k) ⟨0,none,0⟩
  ⟨rfl,rfl,rfl,rfl,trivial⟩ ⟨Ag _,[],AT.nil,hst⟩ ?_
 clear hst;rintro⟨k,a4,c4⟩w4⟨hk,Lx,hV,hS⟩;simp only at hk hV hS⊢;have hNe:EU v=max 1 ((v.files.length+1999) / 2000):=rfl;by_cases hkl:k<EU v
 ·have hkn:k*2000≤v.files.length:=AA;have hsucc:=dJ v k hkl;have hrp:=wO hr k;have hop:=M7 ho k;have hpl:(C3 v k).add.length=min 2000 (v.files.length-k*2000):=by
   show((v.files.drop (k*2000)).take 2000).length=_;rw[Ba,D3]
  have hcond:k=0∨k*2000<v.files.length:=AA;have e1:(if(v.files.length:Int)<((k*2000:Nat):Int)then(v.files.length:Int)else((k*2000:Nat):Int)).toNat=k*2000:=by rw[if_neg AA];exact Int.toNat_natCast _
  have e2:(if(v.files.length:Int)<((k*2000:Nat):Int)+2000 then(v.files.length:Int)else((k*2000:Nat):Int)+2000).toNat-k*2000=(C3 v k).add.length:=by rw[hpl];split<;>omega
  rcases hv3.inv with⟨rfl,hn0,rfl, -,rfl⟩|⟨g3,l3,rfl, -, -,hc3,rfl⟩
  ·have hk0:k=0:=AA;(repeat(refine jt ⟨?_⟩;refine hS.q ?_;intro _ hS));refine jt ⟨?_⟩;refine hS.al ?_;intro b6 w5 _ hS;(repeat(refine jt ⟨?_⟩;refine hS.q ?_;intro _ hS));refine jt ⟨?_⟩;rw[e1]at hS⊢;rw[e2]at hS⊢;have hea: ∀(w2:World),HZ w2 none none (0-k*2000) 0 (C3 v k):=λw2=>⟨⟨by
    have:(C3 v k).add=[]:=It AA;rw[this];exact Arr.nil _ _ _,AA⟩,Arr.nil _ _ _,AW _,by show(C3 v k).add.length+0≤_;omega,hv.rng⟩
   (repeat(refine jt ⟨?_⟩;refine hS.q ?_;intro _ hS));refine jt ⟨?_⟩;refine Cl.mono (NY (hea _) hop) ?_;rintro _ w6⟨rfl,hS'⟩;have hS:=hS.call0 hS';unfold Kq;rw[if_pos hrp];generalize Al (C3 v k)=t at hsucc⊢;(repeat(refine jt ⟨?_⟩;refine hS.q ?_;intro _ hS));refine jt ⟨?_⟩;refine hS.al ?_;intro b45 w7 _ hS;(repeat(refine jt ⟨?_⟩;refine hS.q ?_;intro _ hS));refine jt ⟨?_⟩;refine St.app (sz:=1) (m:=1) AK rfl rfl rfl rfl hS hV (news:=[AG t]) rfl (by have:=hS.arr (b:=b45) (T':=[]) AB;exact this) rfl (by show(_+_)*16≤_;omega) AA ?_
   intro a5 c5 L5 w8 hV5 hS;(repeat(refine jt ⟨?_⟩;refine hS.q ?_;intro _ hS));refine jt ⟨?_⟩;have hS:=hS.sub ((AS _ _).trans (AS _ _));refine⟨⟨k+1,a5,c5⟩,⟨rfl,rfl,rfl,by rw[show(((k+1)*2000:Nat):Int)=((k*2000:Nat):Int)+2000 by omega];rfl,trivial⟩,⟨hkl,L5,by rw[hsucc,A7];exact hV5,hS⟩,by simp only;omega⟩
  ·by_cases hk0:k=0
   ·(repeat(refine jt ⟨?_⟩;refine hS.q ?_;intro _ hS));refine jt ⟨?_⟩;refine hS.al ?_;intro b6 w5 _ hS;(repeat(refine jt ⟨?_⟩;refine hS.q ?_;intro _ hS));refine jt ⟨?_⟩;rw[e1]at hS⊢;rw[e2]at hS⊢;have hcap:(C3 v k).add.length≤c3-k*2000:=AA;have hea:HZ _ (CU g3 0 (k*2000) c3 2) none (c3-k*2000) 0 (C3 v k):=⟨⟨UW (hv3.arr hS (T':=[]) AB) hc3 k hkn,hcap⟩,Arr.nil _ _ _,AW _,by show(C3 v k).add.length+0≤_;omega,hv.rng⟩
    (repeat(refine jt ⟨?_⟩;refine hS.q ?_;intro _ hS));refine jt ⟨?_⟩;refine Cl.mono (NY hea hop) ?_;rintro _ w6⟨rfl,hS'⟩;have hS:=hS.call0 hS';unfold Kq;rw[if_pos hrp];generalize Al (C3 v k)=t at hsucc⊢;(repeat(refine jt ⟨?_⟩;refine hS.q ?_;intro _ hS));refine jt ⟨?_⟩;refine hS.al ?_;intro b45 w7 _ hS;(repeat(refine jt ⟨?_⟩;refine hS.q ?_;intro _ hS));refine jt ⟨?_⟩;refine St.app (sz:=1) (m:=1) AK rfl rfl rfl rfl hS hV (news:=[AG t]) rfl (by have:=hS.arr (b:=b45) (T':=[]) AB;exact this) rfl (by show(_+_)*16≤_;omega) AA ?_
    intro a5 c5 L5 w8 hV5 hS;(repeat(refine jt ⟨?_⟩;refine hS.q ?_;intro _ hS));refine jt ⟨?_⟩;have hS:=hS.sub ((AS _ _).trans (AS _ _));refine⟨⟨k+1,a5,c5⟩,⟨rfl,rfl,rfl,by rw[show(((k+1)*2000:Nat):Int)=((k*2000:Nat):Int)+2000 by omega];rfl,trivial⟩,⟨hkl,L5,by rw[hsucc,A7];exact hV5,hS⟩,by simp only;omega⟩
   ·have hkn2:k*2000<v.files.length:=AA;(repeat(refine jt ⟨?_⟩;refine hS.q ?_;intro _ hS));refine jt ⟨?_⟩;refine hS.al ?_;intro b6 w5 _ hS;(repeat(refine jt ⟨?_⟩;refine hS.q ?_;intro _ hS));refine jt ⟨?_⟩;rw[e1]at hS⊢;rw[e2]at hS⊢;have hcap:(C3 v k).add.length≤c3-k*2000:=AA;have hea:HZ _ (CU g3 0 (k*2000) c3 2) none (c3-k*2000) 0 (C3 v k):=⟨⟨UW (hv3.arr hS (T':=[]) AB) hc3 k hkn,hcap⟩,Arr.nil _ _ _,AW _,by show(C3 v k).add.length+0≤_;omega,hv.rng⟩
    (repeat(refine jt ⟨?_⟩;refine hS.q ?_;intro _ hS));refine jt ⟨?_⟩;refine Cl.mono (NY hea hop) ?_;rintro _ w6⟨rfl,hS'⟩;have hS:=hS.call0 hS';unfold Kq;rw[if_pos hrp];generalize Al (C3 v k)=t at hsucc⊢;(repeat(refine jt ⟨?_⟩;refine hS.q ?_;intro _ hS));refine jt ⟨?_⟩;refine hS.al ?_;intro b45 w7 _ hS;(repeat(refine jt ⟨?_⟩;refine hS.q ?_;intro _ hS));refine jt ⟨?_⟩;refine St.app (sz:=1) (m:=1) AK rfl rfl rfl rfl hS hV (news:=[AG t]) rfl (by have:=hS.arr (b:=b45) (T':=[]) AB;exact this) rfl (by show(_+_)*16≤_;omega) AA ?_
    intro a5 c5 L5 w8 hV5 hS;(repeat(refine jt ⟨?_⟩;refine hS.q ?_;intro _ hS));refine jt ⟨?_⟩;have hS:=hS.sub ((AS _ _).trans (AS _ _));refine⟨⟨k+1,a5,c5⟩,⟨rfl,rfl,rfl,by rw[show(((k+1)*2000:Nat):Int)=((k*2000:Nat):Int)+2000 by omega];rfl,trivial⟩,⟨hkl,L5,by rw[hsucc,A7];exact hV5,hS⟩,by simp only;omega⟩
 ·obtain rfl:k=EU v:=AA;rw[HL (by rw[JT];exact AW _)]at hV;have hnk: ¬EU v*2000<v.files.length:=AA;have hn0: ¬EU v=0:=AA;(repeat(refine jt ⟨?_⟩;refine hS.q ?_;intro _ hS));refine jt ⟨?_⟩;exact⟨a4,c4,Lx,rfl,hV,hS.sub (CD _ _)⟩
end Go.Proofs.YtkgibdhpijdbfaaGreatDoor
namespace Go.Proofs.YtkgibdhpijdbfaaGreatDoor
open Go Go.Eng Go.Proofs
structure FT(A T:Nat)(m:AJ):Prop where
 fb:FB A m
 tx: ∀x∈m.files,x.2.1.length≤T
 sf: ∀x∈m.files,x.2.2≤x.2.1.length
theorem FT.mono{A B T U:Nat}{m:AJ}(h:FT A T m)(h1:A≤B)(h2:T≤U):FT B U m:=⟨h.fb.mono h1,λx hx=>Au (h.tx x hx) h2,h.sf⟩
theorem FT.get{A T:Nat}{m:AJ}(h:FT A T m)(n:AE):((AN m n).getD ([],0)).1.length≤T:=by
 cases e:AN m n with
 |none=>simp
 |some x=>exact h.tx _ (Jc e)
theorem FT.find{A T:Nat}{m:AJ}(h:FT A T m)(n:AE):(BA m n).1.1.length≤T:=by
 have:=h.get n;unfold BA
 split
 ·simp
 ·cases e:AN m n with
  |none=>simp
  |some x=>rw[e]at this;exact this
theorem FT.put{A T:Nat}{m:AJ}(h:FT A T m){n:AE}{x:AE×Nat}(hx:x.1.length≤T): ∀y∈BV n x m.files,y.2.1.length≤T:=λy hy=>(IN hy).elim (λe=>by rw[e];exact hx) (h.tx y)
theorem FT.getS{A T:Nat}{m:AJ}(h:FT A T m)(n:AE):((AN m n).getD ([],0)).2≤((AN m n).getD ([],0)).1.length:=by
 cases e:AN m n with
 |none=>exact AW _
 |some x=>exact h.sf _ (Jc e)
theorem FT.findS{A T:Nat}{m:AJ}(h:FT A T m)(n:AE):(BA m n).1.2≤(BA m n).1.1.length:=by
 have:=h.getS n;unfold BA
 split
 ·exact AW _
 ·cases e:AN m n with
  |none=>exact AW _
  |some x=>rw[e]at this;exact this
theorem FT.putS{A T:Nat}{m:AJ}(h:FT A T m){n:AE}{x:AE×Nat}(hx:x.2≤x.1.length): ∀y∈BV n x m.files,y.2.2≤y.2.1.length:=λy hy=>(IN hy).elim (λe=>by rw[e];exact hx) (h.sf y)
theorem FT.del{A T:Nat}{m:AJ}(h:FT A T m)(n:AE):FT (A+1) T (A9 m n).2:=by
 refine⟨h.fb.del n,?_,?_⟩
 ·unfold A9
  split
  ·exact h.tx
  ·simp only
   split
   ·exact h.tx
   ·exactλy hy=>h.tx y ((GY n _).mem hy)
 ·unfold A9
  split
  ·exact h.sf
  ·simp only
   split
   ·exact h.sf
   ·exactλy hy=>h.sf y ((GY n _).mem hy)
theorem FT.app{A T:Nat}{m:AJ}(h:FT A T m)(n:AE)(ps:List AE)(hl:((AN m n).getD ([],0)).1.length+ps.flatten.length≤T)(hT:T≤1099511627776):FT (A+1) T (BB m n ps).2:=by
 refine⟨h.fb.app n ps AA,?_,?_⟩
 ·unfold BB
  split
  ·exact h.tx
  split
  ·exact h.tx
  split
  ·exact h.tx
  split
  ·exact h.tx
  ·exact h.put (by simpa using hl)
 ·have hs:=h.getS n;unfold BB
  split
  ·exact h.sf
  split
  ·exact h.sf
  split
  ·exact h.sf
  split
  ·exact h.sf
  ·exact h.putS (by simp only[AP];omega)
theorem FT.sync{A T:Nat}{m:AJ}(h:FT A T m)(n:AE):FT (A+1) T (CV m n).2:=by
 refine⟨h.fb.sync n,?_,?_⟩
 ·unfold CV
  split
  ·exact h.tx
  simp only
  split
  ·exact h.tx
  ·exact h.put (h.find n)
 ·unfold CV
  split
  ·exact h.sf
  simp only
  split
  ·exact h.sf
  ·exact h.putS (AW _)
theorem FT.ren{A T:Nat}{m:AJ}(h:FT A T m)(a b:AE):FT (A+1) T (Cv m a b).2:=by
 refine⟨h.fb.ren a b,?_,?_⟩
 ·unfold Cv
  split
  ·exact h.tx
  split
  ·exact h.tx
  simp only
  split
  ·exact h.tx
  ·intro y hy;rcases IN hy with e|hy
   ·rw[e];exact h.find a
   ·exact h.tx y ((GY a _).mem hy)
 ·unfold Cv
  split
  ·exact h.sf
  split
  ·exact h.sf
  simp only
  split
  ·exact h.sf
  ·intro y hy;rcases IN hy with e|hy
   ·rw[e];exact h.findS a
   ·exact h.sf y ((GY a _).mem hy)
theorem FT.file{A T:Nat}{m:AJ}(h:FT A T m)(n t:AE)(ht:t.length≤T)(hT:T≤1099511627776):FT (A+3) T (CE m n t).2:=by
 unfold CE
 split
 ·exact(h.del n).mono AA (AW _)
 rename_i hd;have hg:=N4 (n:=n) h.fb.nd AA;have ha:=(h.del n).app n [t] (by rw[hg];simpa using ht) hT
 split
 ·exact ha.mono AA (AW _)
 ·exact ha.sync n
theorem FT.rewrite{A T:Nat}{m:AJ}(h:FT A T m)(n:AE)(ps:List AE)(ht:(AQ ps).length≤T)(hT:T≤1099511627776):FT (A+3) T (Cd m n ps).2:=by
 unfold Cd
 split
 ·exact h.file n _ ht hT
 ·exact h.mono AA (AW _)
theorem FT.appL{A T:Nat}{m:AJ}(h:FT A T m)(g:BF)(ps:List AE)(hT:T+(AQ ps).length≤1099511627776):FT (A+2) (T+(AQ ps).length) (Proofs.YtkgibdhpijdbfaaGreatDoor.appL m g ps).2.2:=by
 have h0:FT A (T+(AQ ps).length) m:=h.mono (AW _) (G5 _ _);have h1:FT (A+1) (T+(AQ ps).length) (BB m g.name [AQ ps]).2:=h0.app g.name [AQ ps] (by have:=h.get g.name;simp;omega) hT;have h2:=h1.sync g.name;show FT (A+2) _ (DG m g.name g.n g.torn g.dead ps).2.2;unfold DG
 split
 ·exact h0.mono AA (AW _)
 split
 ·exact h0.mono AA (AW _)
 split
 ·exact h0.mono AA (AW _)
 split
 ·exact h0.mono AA (AW _)
 split
 ·exact h1.mono AA (AW _)
 ·exact h2
theorem FT.relist{A T:Nat}{m:AJ}(h:FT A T m)(s:AL)(v:VM)(hs:(AQ (Ay {v with next:=v.next+1})).length≤T)(hn:(AX v.next).length≤T)(hT:T≤1099511627776):FT (A+7) T (FQ s m v).2.2.2:=by
 have h1:=h.rewrite (AX v.next) (Ay {v with next:=v.next+1}) hs hT;have h2:=h1.file BW (AX v.next) hn hT;have h3:=h2.ren BW Bf;unfold FQ;simp only
 split
 ·exact h1.mono AA (AW _)
 split
 ·exact h2.mono AA (AW _)
 split
 ·exact h3
 split
 ·exact h3
 ·exact h3
theorem FT.edit{A T:Nat}{m:AJ}(h:FT A T m)(s:AL)(x:EM)(mk:List (Int×List AF))(hs: ∀nx,BN s.v x=some nx→(AQ (Ay {nx with next:=nx.next+1})).length≤T∧(AX nx.next).length≤T)(hT:T+65544≤1099511627776):FT (A+7) (T+65544) (DX s m x mk).2.2:=by
 unfold DX;cases e:BN s.v x with
 |none=>exact h.mono AA AA
 |some nx=>
  obtain⟨h1,h2⟩:=hs nx e;simp only
  split
  ·have:=h.relist s nx h1 h2 AA
   split<;>exact this.mono AA AA
  ·rename_i hl;cases s.list with
   |none=>exact h.mono AA AA
   |some g=>
    simp only;have hsl:(AQ [Al x]).length≤65544:=by rw[Dr];simp[BG];omega
    have:=h.appL g [Al x] AA
    split<;>exact this.mono AA AA
theorem FT.lay{T:Nat}(hT:1048576≤T∧T≤1099511627776): ∀(cs:List (List AF)){A:Nat}{m:AJ}(n:Int),FT A T m→(∀c∈cs,B8 c)→FT (A+3*cs.length) T (Bh m n cs).2
 |[],A,m,n,h,_=>h
 |c::cs,A,m,n,h,hc=>by
  have ht:=(hc c CM).bytes;have h1:=h.file (Aw n) (B5 c) AA hT.2;unfold Bh
  split
  ·exact h1.mono (by rw[Ah];omega) (AW _)
  ·have:=FT.lay hT cs (n+1) h1 (λd hd=>hc d (CH _ hd));rw[Ah];exact this.mono AA (AW _)
theorem FT.delAll{T:Nat}: ∀(ns:List AE){A:Nat}{m:AJ},FT A T m→FT (A+ns.length) T (Proofs.YtkgibdhpijdbfaaGreatDoor.delAll ns m).2
 |[],A,m,h=>h
 |n::ns,A,m,h=>by
  unfold Proofs.YtkgibdhpijdbfaaGreatDoor.delAll
  split
  ·exact(h.del n).mono (by rw[Ah];omega) (AW _)
  ·have:=FT.delAll ns (h.del n);rw[Ah];exact this.mono AA (AW _)
theorem PA(ops:List Ac)(k:Nat)(hk:k<ops.length):Av (ops.take (k+1))=Av (ops.take k)+EA ops[k]:=by
 unfold Av;rw[Bq hk,A7,kD];simp
theorem NM(ops:List Ac)(k:Nat):Av (ops.take k)≤Av ops:=by
 have:Av ops=Av (ops.take k)+Av (ops.drop k):=by
  unfold Av;rw[←kD,←A7,CN]
 omega
theorem PF{ops:List Ac}{o:Ac}(h:o∈ops):EA o≤Av ops:=by
 induction ops with
 |nil=>cases h
 |cons p ops ih=>
  have e:Av (p::ops)=EA p+Av ops:=by simp[Av]
  rw[e];rcases As.1 h with rfl|h
  ·exact G5 _ _
  ·have:=ih h;omega
theorem sG(x:AF)(l:List AF):(DP x l).length≤l.length+1∧An (DP x l)≤An l+CR x:=by
 rw[J6];have e:=GG x.k x.s l;have e1:=congrArg List.length e;have e2:=congrArg An e;rw[G9]at e2;rw[AP]at e1;rw[G9,AP];generalize Bp x.k x.s l=r at*;have e3: ∀q:List AF,An (x::q)=CR x+An q:=λq=>by simp[An]
 rw[e3,Ah];cases r with
 |nil=>simp[An]at*;omega
 |cons y r=>
  have e4:An (y::r)=CR y+An r:=by simp[An]
  rw[Ah]at e1;simp only
  split
  ·omega
  ·rw[Ah,e4];omega
theorem yI(seq:Int)(ops:List Ac)(l:List AF)(k:Nat)(hk:k<ops.length):Cw seq (ops.take (k+1)) l=DP (C4 seq ops[k]) (Cw seq (ops.take k) l):=by
 unfold Cw;rw[Bq hk,Ho];rfl
theorem PI(seq:Int): ∀(ops:List Ac){l:List AF},Az l→Az (Cw seq ops l)
 |[],_,h=>h
 |o::ops,l,h=>PI seq ops (l:=DP (C4 seq o) l) (OV h)
theorem QV(seq:Int)(o:Ac):CR (C4 seq o)+16≤EA o:=by
 unfold CR C4 EA;simp only
 split<;>simp<;>omega
theorem PJ(seq:Int): ∀(ops:List Ac)(l:List AF),(Cw seq ops l).length≤l.length+ops.length∧An (Cw seq ops l)≤An l+Av ops
 |[],l=>by simp[Cw,Av]
 |o::ops,l=>by
  have h1:=PJ seq ops (DP (C4 seq o) l);have h2:=sG (C4 seq o) l;have h3:=QV seq o;have e:Av (o::ops)=EA o+Av ops:=by simp[Av]
  have e2:Cw seq (o::ops) l=Cw seq ops (DP (C4 seq o) l):=rfl;rw[e,e2,Ah];omega
theorem cC(seq:Int)(o:Ac):Fi (OE seq o)=C4 seq o:=rfl
theorem aG{w:World}{a:Option Addr}{c:Nat}{ops:List Ac}(ha:Arr w [] a (ops.flatMap A8))(hl:Av ops≤1099511627776)(hn:ops.length≤1099511627776):
  Cl Tryz.prog pJ [.slice a ops.length c] w λv w'=>v= .int .i64 (Av ops)∧St w [] [] w':=by
 have hS:=St.start w;have hcl:=I7 ops;refine jQ rfl ?_;refine jq ⟨?_⟩;refine AM.loop (λk:Nat=>[(6,.slice a ops.length c),(7,.int .i64 ops.length),(8,.int .i64 k),(3,.int .i64 (Av (ops.take k)))]) (λk w'=>k≤ops.length∧St w [] [] w') (λk=>ops.length-k) 0
  ⟨rfl,rfl,rfl,rfl,trivial⟩ ⟨Ag _,hS⟩ ?_
 clear hS;rintro k w1⟨hk,hS⟩;by_cases hkl:k<ops.length
 ·obtain⟨g,off,rfl, -, -⟩:=ha.get (j:=k*3) AA;have hat:=I6 ops k hkl;have hsucc:=PA ops k hkl;have hle:=NM ops k;have hsz:=PF (CW hkl);generalize ops[k]=o at hat hsucc hsz;refine jq ⟨?_⟩;refine Arr.ldn hS ha rfl (k:=k*3) hat rfl ?_;unfold A8;unfold EA at hsucc hsz;refine jq ⟨?_⟩;refine hS.al ?_;intro b5 w2 _ hS;(repeat(refine jt ⟨?_⟩;refine hS.q ?_;intro _ hS));refine jt ⟨?_⟩;exact⟨k+1,⟨rfl,rfl,rfl,by rw[hsucc];exact congrArg (Value.int .i64) AA,trivial⟩,⟨AA,hS.sub (AS _ _)⟩,AA⟩
 ·obtain rfl:k=ops.length:=AA;refine jq ⟨?_⟩;rw[Bz];exact⟨rfl,hS⟩
theorem y5(fs:List Af)(k:Nat)(hk:k<fs.length):((fs.take (k+1)).filter λf=>decide (f.1=0)).length=((fs.take k).filter λf=>decide (f.1=0)).length+if fs[k].1=0 then 1 else 0:=by
 rw[Bq hk,J9,AP]
 congr 1
 by_cases h:fs[k].1=0<;>simp[h]
theorem aK{w:World}{sb f:Nat}{s:AL}{m:AJ}{L:AH}(hO:AV sb f s m L)(hh:Holds L w)(hn:s.v.files.length≤16777216):Cl Tryz.prog VB [ptr sb] w λv w'=>v= .int .i64 (SU s)∧St w (keys L) L w':=by
 have hS:=St.enter hh;obtain⟨sq,es,c,hsq,ha,hc,Lh,hvh,a,ca,La,hv,lv,Ll,hl,gv,Lg,hg,mb,Lm,hm,tm,et,ct,ks,ht,Lt,hts,LF,hF⟩:=hO;generalize keys _=T0 at hS⊢;refine iX rfl ?_;(repeat(refine jt ⟨?_⟩;refine hS.q ?_;intro _ hS));refine jt ⟨?_⟩;have hcl:=G3 s.v.files;refine AM.loop (λk:Nat=>[(10,.slice a s.v.files.length ca),(11,.int .i64 s.v.files.length),(12,.int .i64 k),(3,.int .i64 ((s.v.files.take k).filter λf=>decide (f.1=0)).length)])
  (λk w'=>k≤s.v.files.length∧St w T0 _ w') (λk=>s.v.files.length-k) 0
  ⟨rfl,rfl,rfl,rfl,trivial⟩ ⟨Ag _,hS⟩ ?_
 clear hS;rintro k w1⟨hk,hS⟩;have hfa:=Kt hS hv.vec;by_cases hkl:k<s.v.files.length
 ·obtain⟨g,off,rfl⟩:=hfa.pos AA;have hat:=hfa.at hkl;have hsucc:=y5 s.v.files k hkl;have hle:((s.v.files.take k).filter λf=>decide (f.1=0)).length≤s.v.files.length:=by
   refine Au (K6 _ _) ?_;rw[Ba];omega
  generalize s.v.files[k]=fl at hat hsucc;(repeat(refine jt ⟨?_⟩;refine hS.q ?_;intro _ hS));refine jt ⟨?_⟩;refine Arr.ldn (St.start w1) hfa.arr rfl (k:=k*2) hat rfl ?_;unfold Ad;(repeat(refine jt ⟨?_⟩;refine hS.q ?_;intro _ hS));refine jt ⟨?_⟩;refine hS.al ?_;intro b5 w2 _ hS;(repeat(refine jt ⟨?_⟩;refine hS.q ?_;intro _ hS));refine jt ⟨?_⟩;by_cases h0:fl.1=0
  ·rw[if_pos h0]at hsucc;(repeat(refine jt ⟨?_⟩;refine hS.q ?_;intro _ hS));refine jt ⟨?_⟩;exact⟨k+1,⟨rfl,rfl,rfl,by rw[hsucc];rfl,trivial⟩,⟨AA,hS.sub (AS _ _)⟩,AA⟩
  ·rw[if_neg h0]at hsucc;(repeat(refine jt ⟨?_⟩;refine hS.q ?_;intro _ hS));refine jt ⟨?_⟩;exact⟨k+1,⟨rfl,rfl,rfl,by rw[hsucc];rfl,trivial⟩,⟨AA,hS.sub (AS _ _)⟩,AA⟩
 ·have hke:k=s.v.files.length:=AA;subst hke;(repeat(refine jt ⟨?_⟩;refine hS.q ?_;intro _ hS));refine jt ⟨?_⟩;rw[Bz];exact⟨rfl,hS⟩
theorem TO{w:World}{sb f:Nat}{s:AL}{m:AJ}{L:AH}(hO:AV sb f s m L)(hh:Holds L w)(seq:Int){a:Option Addr}{c:Nat}{ops:List Ac}(ha:Arr w (keys L) a (ops.flatMap A8))(hr:Az s.mem)
  (h1:An s.mem+Av ops≤1099511627776)(h2:s.mem.length+ops.length≤1099511627776)(h3:s.adds+ops.length≤4611686018427387904):
  Cl Tryz.prog pF [ptr sb,.int .i64 seq,.slice a ops.length c] w λ_ w'=>∃L',AV sb f {s with mem:=Cw seq ops s.mem,adds:=s.adds+ops.length} m L'∧St w (keys L) L' w':=by
 have hS:=St.enter hh;have hcl:=I7 ops;generalize keys L=T0 at hS ha⊢;refine iW rfl ?_;refine jq ⟨?_⟩;refine AM.loop (λk:Nat=>[(0,ptr sb),(1,.int .i64 seq),(8,.slice a ops.length c),(9,.int .i64 ops.length),(10,.int .i64 k)])
  (λk w'=>k≤ops.length∧ ∃L',AV sb f {s with mem:=Cw seq (ops.take k) s.mem,adds:=s.adds+k} m L'∧St w T0 L' w') (λk=>ops.length-k) 0
  ⟨rfl,rfl,rfl,rfl,rfl,trivial⟩ ⟨Ag _,L,hO,hS⟩ ?_
 clear hS hO;rintro k w1⟨hk,L1,hO,hS⟩;by_cases hkl:k<ops.length
 ·obtain⟨g,off,rfl, -, -⟩:=ha.get (j:=k*3) AA;have hat:=I6 ops k hkl;have hsucc:=yI seq ops s.mem k hkl;have htr:=PI seq (ops.take k) hr;have hts2:=PJ seq (ops.take k) s.mem;have hle:=NM ops (k+1);rw[PA ops k hkl]at hle;have hez:=QV seq ops[k];have hcr:=cC seq ops[k];have hxz:CR (OE seq ops[k])+16≤EA ops[k]:=by unfold CR OE EA;simp only;omega
  rw[Ba,IM hk]at hts2;generalize ops[k]=o at hat hsucc hle hez hcr hxz;obtain⟨sq,es,cq,hsq,ha1,hc1,Lh,hvh,a2,ca,La,hv,lv,Ll,hl,gv,Lg,hg,mb,Lm,hm,tm,et,ct,ks,ht,Lt,hts,LF,hF⟩:=hO;simp only at hm hts hF hl hg hv hvh hsq ht;generalize Cw seq (ops.take k) s.mem=mem at hm hsucc htr hts2 hS;(repeat(refine jt ⟨?_⟩;refine hS.q ?_;intro _ hS));refine jt ⟨?_⟩;refine Arr.ldn hS ha rfl (k:=k*3) hat rfl ?_;unfold A8
  (repeat(refine jt ⟨?_⟩;refine hS.q ?_;intro _ hS));refine jt ⟨?_⟩;refine hS.al ?_;intro b7 w2 _ hS;(repeat(refine jt ⟨?_⟩;refine hS.q ?_;intro _ hS));refine jt ⟨?_⟩;refine AM.draw AK mixed (λw'=>St w T0 _ w') [13] [0,1,2,3,4,5,6,7,8,9,10,11,12,13] AD hS.drew ?_;have hS:=hS.drew;refine jr ⟨?_⟩;refine hS.al ?_;intro b26 w3 _ hS;refine Ae.mk (hS.sub (AS _ _)) ?_;refine jr ⟨?_⟩;refine Cl.mono (Zg hm (hS.part (L:=Lm)) htr (x:=OE seq o) (hS.arr (b:=b26) (Cu hS)) AA AA AA) ?_
  rintro _ w4⟨Lm2,hm2,hS'⟩;have hS:=(hS.call (L:=Lm) hS').sub ((AS _ _).trans (AS _ _));rw[hcr,←hsucc]at hm2;(repeat(refine jt ⟨?_⟩;refine hS.q ?_;intro _ hS));refine jt ⟨?_⟩;exact⟨k+1,⟨rfl,rfl,rfl,rfl,rfl,trivial⟩,⟨AA,_,AV.mk (s:={s with mem:=Cw seq (ops.take (k+1)) s.mem,adds:=s.adds+(k+1)}) sq es cq hsq ha1 hc1 Lh hvh a2 ca La hv lv Ll hl gv Lg hg mb Lm2 hm2 tm et ct ks ht Lt hts LF hF,hS⟩,AA⟩
 ·obtain rfl:k=ops.length:=AA;rw[Bz]at hO;refine jq ⟨?_⟩;exact⟨L1,hO,hS⟩
theorem vN(ops:List Ac)(k:Nat)(hk:k<ops.length):DS (ops.take (k+1))=DS (ops.take k)++I5 ops[k]:=by
 unfold DS;rw[Bq hk,A7,kC];simp
theorem vB(o:Ac)(h:EA o≤1099511627776):(I5 o).length≤EA o+30:=by
 unfold EA at h⊢;have h1:=DI (n:=o.1.length) AA;have h2:=DI (n:=o.2.2.length) AA;have h3:=DI (n:=0) AA;have h4:=DI (n:=1) AA;unfold I5 Bd
 split
 ·simp only[AP];omega
 ·simp only[AP];omega
theorem NA: ∀(ops:List Ac),Av ops≤1099511627776→(DS ops).length≤Av ops+30*ops.length
 |[],_=>by simp[DS,Av]
 |o::ops,h=>by
  have e:Av (o::ops)=EA o+Av ops:=by simp[Av]
  have e2:DS (o::ops)=I5 o++DS ops:=by simp[DS]
  have h1:=vB o AA;have h2:=NA ops AA;rw[e,e2,AP,Ah];omega
theorem KR: ∀(ops:List Ac),16*ops.length≤Av ops
 |[]=>AB
 |o::ops=>by
  have e:Av (o::ops)=EA o+Av ops:=by simp[Av]
  have:=KR ops;rw[e,Ah];unfold EA;omega
theorem ND(seq:Int)(ops:List Ac)(hq:CA seq)(h:Av ops≤1099511627776):(B0 seq ops).length≤20+3*Av ops:=by
 have h1:=NA ops h;have h2:=KR ops;have h3:=DI (n:=ops.length) AA;have h4:(Bg seq).length≤10:=EO _ (MC hq);unfold B0;simp only[AP];omega
theorem aD{w:World}{seq:Int}{a:Option Addr}{c:Nat}{ops:List Ac}(ha:Arr w [] a (ops.flatMap A8))(hq:CA seq)(hsz:Av ops≤1099511627776):
  Cl Tryz.prog pI [.int .i64 seq,.slice a ops.length c] w λv w'=>v=AG (B0 seq ops)∧St w [] [] w':=by
 have hS:=St.start w;have hcl:=I7 ops;have hcnt:=KR ops;have hil:(Bg seq).length≤10:=EO _ (MC hq);have hnl:=DI (n:=ops.length) AA;refine i7 rfl ?_;refine jq ⟨?_⟩;refine MM.mono ?_;rintro _ w1⟨pb,L,rfl,hW,hS'⟩;have hS:=hS.callNew hS';rw[BT]at hS;refine jq ⟨?_⟩;refine hS.al ?_;intro b11 w2 _ hS;(repeat(refine jt ⟨?_⟩;refine hS.q ?_;intro _ hS));refine jt ⟨?_⟩;refine Cl.mono (MK hW (hS.part (L:=L)) (zs:=[seq]) (hS.arr (b:=b11) (Cu hS)) (by intro z hz;simp only[Cm]at hz;subst hz;exact hq) AB AB) ?_
 rintro _ w3⟨L,hW,hS'⟩;have hS:=(hS.call hS').sub (AS _ _);rw[show []++Ci [seq]=Bg seq by simp[Ci]]at hW;(repeat(refine jt ⟨?_⟩;refine hS.q ?_;intro _ hS));refine jt ⟨?_⟩;refine hS.al ?_;intro b17 w4 _ hS;(repeat(refine jt ⟨?_⟩;refine hS.q ?_;intro _ hS));refine jt ⟨?_⟩;refine Cl.mono (Ge hW (hS.part (L:=L)) (ns:=[ops.length]) (hS.arr (b:=b17) (Cu hS)) (by intro m hm;simp only[Cm]at hm;subst hm;omega) AB (by simp;omega)) ?_
 rintro _ w5⟨L,hW,hS'⟩;have hS:=(hS.call hS').sub (AS _ _);rw[show([ops.length].map Ak).flatten=Ak ops.length by simp]at hW;(repeat(refine jt ⟨?_⟩;refine hS.q ?_;intro _ hS));refine jt ⟨?_⟩;refine AM.loop (λk:Nat=>[(1,.slice a ops.length c),(5,ptr pb),(19,.slice a ops.length c),(20,.int .i64 ops.length),(21,.int .i64 k)])
  (λk w'=>k≤ops.length∧ ∃L,DK pb (Bg seq++Ak ops.length++DS (ops.take k)) L∧St w [] L w') (λk=>ops.length-k) 0
  ⟨rfl,rfl,rfl,rfl,rfl,trivial⟩ ⟨Ag _,L,by simpa[DS]using hW,hS⟩ ?_
 clear hS hS' hW;rintro k w6⟨hk,L,hW,hS⟩;by_cases hkl:k<ops.length
 ·obtain⟨g,off,rfl, -, -⟩:=ha.get (j:=k*3) AA;have hat:=I6 ops k hkl;have hsucc:=vN ops k hkl;have hol:=NA (ops.take k) (by have:=NM ops k;omega);have hsz1:=NM ops (k+1);rw[PA ops k hkl]at hsz1;rw[Ba,IM hk]at hol;generalize ops[k]=o at hat hsucc hsz1;obtain⟨ok,od,ov⟩:=o;unfold EA at hsz1;simp only at hsz1;have htk:(Bd ok).length≤10+ok.length:=by have:=DI (n:=ok.length) AA;unfold Bd;rw[AP];omega
  have hn0:=DI (n:=0) AA;have hn1:=DI (n:=1) AA;(repeat(refine jt ⟨?_⟩;refine hS.q ?_;intro _ hS));refine jt ⟨?_⟩;refine Arr.ldn hS ha rfl (k:=k*3) hat rfl ?_;unfold A8;(repeat(refine jt ⟨?_⟩;refine hS.q ?_;intro _ hS));refine jt ⟨?_⟩;refine hS.al ?_;intro b7 w7 _ hS;(repeat(refine jt ⟨?_⟩;refine hS.q ?_;intro _ hS));refine jt ⟨?_⟩;refine hS.al ?_;intro b28 w8 _ hS;(repeat(refine jt ⟨?_⟩;refine hS.q ?_;intro _ hS));refine jt ⟨?_⟩
  refine Cl.mono (MS hW (hS.part (L:=L)) (ss:=[ok]) (hS.arr (b:=b28) (Cu hS)) (by simp[BG];omega)) ?_;rintro _ w9⟨L,hW,hS'⟩;have hS:=(hS.call hS').sub (AS _ _);rw[show Ez [ok]=Bd ok by simp[Ez]]at hW;cases od with
  |true=>
   (repeat(refine jt ⟨?_⟩;refine hS.q ?_;intro _ hS));refine jt ⟨?_⟩;refine hS.al ?_;intro b33 w10 _ hS;(repeat(refine jt ⟨?_⟩;refine hS.q ?_;intro _ hS));refine jt ⟨?_⟩;refine Cl.mono (Ge hW (hS.part (L:=L)) (ns:=[1]) (hS.arr (b:=b33) (Cu hS)) (by intro m hm;simp only[Cm]at hm;subst hm;omega) AB (by simp;omega)) ?_;rintro _ w11⟨L,hW,hS'⟩;have hS:=(hS.call hS').sub ((AS _ _).trans (AS _ _));rw[show([1].map Ak).flatten=Ak 1 by simp]at hW
   (repeat(refine jt ⟨?_⟩;refine hS.q ?_;intro _ hS));refine jt ⟨?_⟩;refine⟨k+1,⟨rfl,rfl,rfl,rfl,rfl,trivial⟩,⟨hkl,_,?_,hS⟩,AA⟩;rw[hsucc];unfold I5;simpa using hW
  |false=>
   (repeat(refine jt ⟨?_⟩;refine hS.q ?_;intro _ hS));refine jt ⟨?_⟩;refine hS.al ?_;intro b33 w10 _ hS;(repeat(refine jt ⟨?_⟩;refine hS.q ?_;intro _ hS));refine jt ⟨?_⟩;refine Cl.mono (Ge hW (hS.part (L:=L)) (ns:=[0]) (hS.arr (b:=b33) (Cu hS)) (by intro m hm;simp only[Cm]at hm;subst hm;omega) AB (by simp;omega)) ?_;rintro _ w11⟨L,hW,hS'⟩;have hS:=(hS.call hS').sub (AS _ _);rw[show([0].map Ak).flatten=Ak 0 by simp]at hW
   (repeat(refine jt ⟨?_⟩;refine hS.q ?_;intro _ hS));refine jt ⟨?_⟩;refine hS.al ?_;intro b41 w12 _ hS;(repeat(refine jt ⟨?_⟩;refine hS.q ?_;intro _ hS));refine jt ⟨?_⟩;refine Cl.mono (MS hW (hS.part (L:=L)) (ss:=[ov]) (hS.arr (b:=b41) (Cu hS)) (by simp[BG];omega)) ?_;rintro _ w13⟨L,hW,hS'⟩;have hS:=(hS.call hS').sub ((AS _ _).trans (AS _ _));rw[show Ez [ov]=Bd ov by simp[Ez]]at hW;(repeat(refine jt ⟨?_⟩;refine hS.q ?_;intro _ hS));refine jt ⟨?_⟩
   refine⟨k+1,⟨rfl,rfl,rfl,rfl,rfl,trivial⟩,⟨hkl,_,?_,hS⟩,AA⟩;rw[hsucc];unfold I5;simpa using hW
 ·obtain rfl:k=ops.length:=AA;rw[Bz]at hW;(repeat(refine jt ⟨?_⟩;refine hS.q ?_;intro _ hS));refine jt ⟨?_⟩;refine Cl.mono (ME hW (hS.part (L:=L))) ?_;rintro _ w7⟨rfl,hS'⟩;have hS:=hS.call (L:=L) hS';(repeat(refine jt ⟨?_⟩;refine hS.q ?_;intro _ hS));refine jt ⟨?_⟩;refine⟨?_,hS.nil⟩;unfold B0;rw[Aj]
end Go.Proofs.YtkgibdhpijdbfaaGreatDoor
namespace Go.Proofs.YtkgibdhpijdbfaaGreatDoor
open Go Go.Eng Go.Proofs Go.Srt
theorem IY{α:Type}(p q x y:α)(L:List α):[x,y].Sublist (p::q::x::y::L):= .cons _ (.cons _ (.cons_cons _ (.cons_cons _ (List.nil_sublist _))))
theorem St.callAll{w0 w w':World}{T:List Nat}{H H':AH}(hS:St w0 T H w)(h:St w (keys H) H' w'):St w0 T H' w':=by
 have hS:St w0 T (H++[]) w:=by rw[BT];exact hS
 have:=hS.call (L:=H) h;rwa[BT]at this
abbrev Fr(rb:Nat)(bad:Bool):Obj:= .cells ⟨[ptr rb,.bool bad]⟩ DL (0,0)
theorem LY{w:World}{rr rb:Nat}{s:RB}(hh:Holds [(rr,Fr rb s.bad),(rb,A6 s.t)] w)(ht:s.t.length≤70368744177664):
  Cl Tryz.prog m5 [ptr rr] w λv w'=>v= .int .i64 (BK s).1∧St w [rr,rb] [(rr,Fr rb (BK s).2.bad),(rb,A6 (BK s).2.t)] w':=by
 have hS:St w [rr,rb] [(rr,Fr rb s.bad),(rb,A6 s.t)] w:=St.enter hh;refine fB rfl ?_;(repeat(refine jt ⟨?_⟩;refine hS.q ?_;intro _ hS));refine jt ⟨?_⟩;refine Cl.mono (Pg (hS.part (L:=[(rb,A6 s.t)])) ht) ?_;rintro _ w1⟨rfl,hS'⟩;have hS:=hS.call (L:=[(rb,A6 s.t)]) hS';have hS:St w [rr,rb] [(rr,.cells ⟨[ptr rb,.bool s.bad]⟩ DL (0,0)),(rb,.cells ⟨[AG (Da s.t).2.2]⟩ DM (0,0))] w1:=hS;(repeat(refine jt ⟨?_⟩;refine hS.q ?_;intro _ hS));refine jt ⟨?_⟩
 obtain⟨t,bad⟩:=s;have he:=sM t;unfold BK;simp only at hS he⊢;generalize Da t=x at hS he⊢;obtain⟨z,er,r⟩:=x;simp only at hS he⊢;cases bad with
 |true=>
  (repeat(refine jt ⟨?_⟩;refine hS.q ?_;intro _ hS));refine jt ⟨?_⟩;exact⟨rfl,hS⟩
 |false=>
  rcases he with rfl|rfl
  ·(repeat(refine jt ⟨?_⟩;refine hS.q ?_;intro _ hS));refine jt ⟨?_⟩;exact⟨rfl,hS⟩
  ·(repeat(refine jt ⟨?_⟩;refine hS.q ?_;intro _ hS));refine jt ⟨?_⟩;exact⟨rfl,hS⟩
def GE(s:RB):Af×RB:=(((BK s).1,(BK (BK s).2).1),(BK (BK s).2).2)
theorem wG{w:World}{rr rb b4 b5:Nat}{s:RB}{a:Option Addr}{c:Nat}{l:List Af}{L:AH}(hv:AT BE 2 a l.length c (l.flatMap Ad) L)(hh:Holds ((rr,.cells ⟨[ptr rb,.bool s.bad]⟩ DL (0,0))::(rb,.cells ⟨[AG s.t]⟩ DM (0,0))::(b4,.cells ⟨[ptr rr]⟩ Ct (0,0))::(b5,.cells ⟨[.slice a l.length c,.slice none 0 0,.int .i64 0,.int .i64 0,.int .i64 0]⟩ Br (0,0))::L) w)(ht:s.t.length≤70368744177664)(hl:l.length≤4398046511104):
  Cl Tryz.prog QX [ptr b4,ptr b5] w λ_ w'=>∃a' c' L',AT BE 2 a' (l++[(GE s).1]).length c' ((l++[(GE s).1]).flatMap Ad) L'∧St w (rr::rb::b4::b5::keys L) ((rr,.cells ⟨[ptr rb,.bool (GE s).2.bad]⟩ DL (0,0))::(rb,.cells ⟨[AG (GE s).2.t]⟩ DM (0,0))::(b4,.cells ⟨[ptr rr]⟩ Ct (0,0))::(b5,.cells ⟨[.slice a' (l++[(GE s).1]).length c',.slice none 0 0,.int .i64 0,.int .i64 0,.int .i64 0]⟩ Br (0,0))::L') w':=by
 have hS:St w (rr::rb::b4::b5::keys L) ((rr,.cells ⟨[ptr rb,.bool s.bad]⟩ DL (0,0))::(rb,.cells ⟨[AG s.t]⟩ DM (0,0))::(b4,.cells ⟨[ptr rr]⟩ Ct (0,0))::(b5,.cells ⟨[.slice a l.length c,.slice none 0 0,.int .i64 0,.int .i64 0,.int .i64 0]⟩ Br (0,0))::L) w:=St.enter hh;have hlen:=K3 s.t;generalize(rr::rb::b4::b5::keys L)=T at hS⊢;refine eP rfl ?_;(repeat(refine jt ⟨?_⟩;refine hS.q ?_;intro _ hS));refine jt ⟨?_⟩
 refine Cl.mono (LY (s:=s) (hS.part (L:=[(rr,Fr rb s.bad),(rb,A6 s.t)])) ht) ?_;rintro _ w1⟨rfl,hS'⟩;have hS:=hS.call (L:=[(rr,Fr rb s.bad),(rb,A6 s.t)]) hS';unfold GE;have hlen2:(BK s).2.t.length≤s.t.length:=hlen;generalize BK s=x1 at hS hlen2⊢;obtain⟨z1,s1⟩:=x1;simp only at hS hlen2⊢;have hS:St w T ((rr,.cells ⟨[ptr rb,.bool s1.bad]⟩ DL (0,0))::(rb,.cells ⟨[AG s1.t]⟩ DM (0,0))::(b4,.cells ⟨[ptr rr]⟩ Ct (0,0))::(b5,.cells ⟨[.slice a l.length c,.slice none 0 0,.int .i64 0,.int .i64 0,.int .i64 0]⟩ Br (0,0))::L) w1:=hS
 (repeat(refine jt ⟨?_⟩;refine hS.q ?_;intro _ hS));refine jt ⟨?_⟩;refine AM.draw AK mixed (λw'=>St w T [(b4,.cells ⟨[ptr rr]⟩ Ct (0,0)),(b5,.cells ⟨[.slice a l.length c,.slice none 0 0,.int .i64 0,.int .i64 0,.int .i64 0]⟩ Br (0,0))] w') [9] [0,1,2,3,4,5,6,7,8,9] AD (hS.drew.sub (IY _ _ _ _ _)) ?_;have hV:=hS.drew;have hS:St w T [(b4,.cells ⟨[ptr rr]⟩ Ct (0,0)),(b5,.cells ⟨[.slice a l.length c,.slice none 0 0,.int .i64 0,.int .i64 0,.int .i64 0]⟩ Br (0,0))] _:=hV.sub (IY _ _ _ _ _)
 refine jr ⟨?_⟩;refine Cl.mono (LY (s:=s1) (hV.part (L:=[(rr,Fr rb s1.bad),(rb,A6 s1.t)])) AA) ?_;rintro _ w2⟨rfl,hS'⟩;have hV:=hV.call (L:=[(rr,Fr rb s1.bad),(rb,A6 s1.t)]) hS';generalize BK s1=x2 at hV⊢;obtain⟨z2,s2⟩:=x2;simp only at hV⊢;have hV:St w T ((rr,.cells ⟨[ptr rb,.bool s2.bad]⟩ DL (0,0))::(rb,.cells ⟨[AG s2.t]⟩ DM (0,0))::(b4,.cells ⟨[ptr rr]⟩ Ct (0,0))::(b5,.cells ⟨[.slice a l.length c,.slice none 0 0,.int .i64 0,.int .i64 0,.int .i64 0]⟩ Br (0,0))::L) w2:=hV
 refine Ae.mk (hV.sub (IY _ _ _ _ _)) ?_;refine jr ⟨?_⟩;refine hV.al ?_;intro r w3 _ hV;refine Ae.mk ((St.tl1 hV).sub (IY _ _ _ _ _)) ?_;refine jr ⟨?_⟩;refine St.app (sz:=2) (m:=1) AK rfl rfl rfl rfl hV hv (news:=Ad (z1,z2)) rfl (by have:=hV.arr (b:=r) (T':=[]) AB;exact this) rfl (by show(_+_)*16≤_;omega) AA ?_;intro a2 c2 L2 w4 hv hV;have e9:l.flatMap Ad++Ad (z1,z2)=(l++[(z1,z2)]).flatMap Ad:=AB;have e8:l.length+1=(l++[(z1,z2)]).length:=AB
 rw[e9,e8]at hv;rw[e8];refine Ae.mk ((St.tl1 hV).sub (IY _ _ _ _ _)) ?_;have hS:=St.tl1 hV;(repeat(refine jt ⟨?_⟩;refine hS.q ?_;intro _ hS));refine jt ⟨?_⟩;exact⟨a2,c2,L2,hv,hS⟩
def FK(b:Bool):Nat:=if b=true then 1 else 0
theorem YB{s:RB}(h:s.bad=false):(GE s).2.t.length+1≤s.t.length+FK (GE s).2.bad:=by
 have h1:=K3 s.t;have h2:=K3 (Da s.t).2.2;unfold GE BK FK;simp only[h,Bool.false_or];by_cases e1:(Da s.t).2.1=0
 ·have h3:=V5 e1
  split<;>omega
 ·rw[decide_eq_true e1,Bool.true_or,if_pos rfl];omega
structure ZB where
 i:Nat
 s:RB
 l:List Af
 a:Option Addr
 c:Nat
def T7(b4 b5:Nat):Value:= .func (.func QX) ⟨[]⟩ ⟨[ptr b4,ptr b5]⟩
theorem Xg(n:Nat)(s:RB)(l:List Af)(h:s.bad=false):Dq (n+1) (s,l)=Dq n ((GE s).2,l++[(GE s).1]):=by
 conv=>lhs;unfold Dq
 rw[if_neg (by rw[h];nofun)];rfl
theorem Ro(n:Nat)(s:RB)(l:List Af)(h:s.bad=true):Dq n (s,l)=(s,l):=by
 cases n with
 |zero=>rfl
 |succ n=>unfold Dq;rw[if_pos h]
theorem dF{w:World}{rr rb b4 b5 N:Nat}{s:RB}{a:Option Addr}{c:Nat}{l:List Af}{L:AH}(hv:AT BE 2 a l.length c (l.flatMap Ad) L)(hh:Holds ((rr,.cells ⟨[ptr rb,.bool s.bad]⟩ DL (0,0))::(rb,.cells ⟨[AG s.t]⟩ DM (0,0))::(b4,.cells ⟨[ptr rr]⟩ Ct (0,0))::(b5,.cells ⟨[.slice a l.length c,.slice none 0 0,.int .i64 0,.int .i64 0,.int .i64 0]⟩ Br (0,0))::L) w)(hb:s.bad=false)(hN:l.length+s.t.length≤N)(hN2:N≤1099511627776):
  Cl Tryz.prog Us [ptr rr,T7 b4 b5] w λ_ w'=>∃a' c' L',AT BE 2 a' (Dq (CQ s).1 ((CQ s).2,l)).2.length c' ((Dq (CQ s).1 ((CQ s).2,l)).2.flatMap Ad) L'∧St w (rr::rb::b4::b5::keys L) ((rr,.cells ⟨[ptr rb,.bool (Dq (CQ s).1 ((CQ s).2,l)).1.bad]⟩ DL (0,0))::(rb,.cells ⟨[AG (Dq (CQ s).1 ((CQ s).2,l)).1.t]⟩ DM (0,0))::(b4,.cells ⟨[ptr rr]⟩ Ct (0,0))::(b5,.cells ⟨[.slice a' (Dq (CQ s).1 ((CQ s).2,l)).2.length c',.slice none 0 0,.int .i64 0,.int .i64 0,.int .i64 0]⟩ Br (0,0))::L') w':=by
 have hS:St w (rr::rb::b4::b5::keys L) ((rr,.cells ⟨[ptr rb,.bool s.bad]⟩ DL (0,0))::(rb,.cells ⟨[AG s.t]⟩ DM (0,0))::(b4,.cells ⟨[ptr rr]⟩ Ct (0,0))::(b5,.cells ⟨[.slice a l.length c,.slice none 0 0,.int .i64 0,.int .i64 0,.int .i64 0]⟩ Br (0,0))::L) w:=St.enter hh;have hnl:=LH s.t;have hlt:=LI s.t;have hne:=Wz s.t;generalize(rr::rb::b4::b5::keys L)=T at hS⊢;unfold T7;refine Ua rfl ?_;(repeat(refine jt ⟨?_⟩;refine hS.q ?_;intro _ hS));refine jt ⟨?_⟩
 refine Cl.mono (JK (hS.part (L:=[(rb,A6 s.t)])) AA) ?_;rintro _ w1⟨rfl,hS'⟩;have hS:=hS.call (L:=[(rb,A6 s.t)]) hS';obtain⟨t,bad⟩:=s;simp only at hb hS hnl hlt hne hN⊢;subst hb;have hrn:CQ ⟨t,false⟩=((CP t).1,⟨(CP t).2.2,decide ((CP t).2.1≠0)⟩):=rfl;rw[hrn];simp only;generalize CP t=x1 at hS hnl hlt hne⊢;obtain⟨n,er,t1⟩:=x1;simp only at hS hnl hlt hne⊢;have hS:St w T ((rr,.cells ⟨[ptr rb,.bool false]⟩ DL (0,0))::(rb,.cells ⟨[AG t1]⟩ DM (0,0))::(b4,.cells ⟨[ptr rr]⟩ Ct (0,0))::(b5,.cells ⟨[.slice a l.length c,.slice none 0 0,.int .i64 0,.int .i64 0,.int .i64 0]⟩ Br (0,0))::L) w1:=hS
 have hbd:(!decide (er=0))=decide (er≠0):=AB;generalize hX:Dq n (⟨t1,decide (er≠0)⟩,l)=X;have hj:(0≤n∧Dq (n-0) (⟨t1,decide (er≠0)⟩,l)=X∧l.length+t1.length≤N+FK (decide (er≠0))):=⟨Ag _,hX,by unfold FK;split<;>omega⟩;(repeat(refine jt ⟨?_⟩;refine hS.q ?_;intro _ hS));refine jt ⟨?_⟩;refine AM.loop (λz:ZB=>[(0,ptr rr),(1,.func (.func QX) ⟨[]⟩ ⟨[ptr b4,ptr b5]⟩),(4,.int .u64 n),(6,.int .u64 z.i)])
  (λz w'=>(z.i≤n∧Dq (n-z.i) (z.s,z.l)=X∧z.l.length+z.s.t.length≤N+FK z.s.bad)∧ ∃L,AT BE 2 z.a z.l.length z.c (z.l.flatMap Ad) L∧St w T ((rr,.cells ⟨[ptr rb,.bool z.s.bad]⟩ DL (0,0))::(rb,.cells ⟨[AG z.s.t]⟩ DM (0,0))::(b4,.cells ⟨[ptr rr]⟩ Ct (0,0))::(b5,.cells ⟨[.slice z.a z.l.length z.c,.slice none 0 0,.int .i64 0,.int .i64 0,.int .i64 0]⟩ Br (0,0))::L) w') (λz=>n-z.i) ⟨0,⟨t1,decide (er≠0)⟩,l,a,c⟩
  ⟨rfl,rfl,rfl,rfl,trivial⟩ ⟨hj,L,hv,by rw[hbd]at hS;exact hS⟩ ?_
 clear hS hj hX hbd hv hS' hrn;rintro⟨i,s,l,a,c⟩w2⟨⟨hi,hx,hsz⟩,L,hv,hS⟩;simp only at hi hx hsz hv hS⊢;by_cases hin:i<n
 ·cases hb:s.bad with
  |true=>
   rw[Ro _ _ _ hb]at hx;subst hx;rw[hb]at hS;(repeat(refine jt ⟨?_⟩;refine hS.q ?_;intro _ hS));refine jt ⟨?_⟩;rw[←hb]at hS;exact⟨a,c,L,hv,hS⟩
  |false=>
   have hsl:=YB hb;rw[show n-i=(n-(i+1))+1 by omega,Xg _ _ _ hb]at hx;have hb0:FK s.bad=0:=by rw[hb];rfl
   have hSb:=hS;rw[hb]at hS;(repeat(refine jt ⟨?_⟩;refine hS.q ?_;intro _ hS));refine jt ⟨?_⟩;refine Cl.mono (wG (s:=s) hv hSb.holds AA AA) ?_;rintro _ w3⟨a',c',L',hv',hS'⟩;have hS:=St.callAll hSb hS';(repeat(refine jt ⟨?_⟩;refine hS.q ?_;intro _ hS));refine jt ⟨?_⟩;exact⟨⟨i+1,(GE s).2,l++[(GE s).1],a',c'⟩,⟨rfl,rfl,rfl,rfl,trivial⟩,⟨⟨by simp only;omega,hx,by simp only[AP,D4];omega⟩,L',hv',hS⟩,by simp only;omega⟩
 ·have hie:n-i=0:=AA;rw[hie]at hx;have hx:(s,l)=X:=hx;subst hx;(repeat(refine jt ⟨?_⟩;refine hS.q ?_;intro _ hS));refine jt ⟨?_⟩;exact⟨a,c,L,hv,hS⟩
theorem Xk{w:World}{rr rb b4 b5:Nat}{s:RB}{fa a:Option Addr}{fn fc c:Nat}{l:List Int}{L:AH}(hv:AT BX 1 a l.length c (l.map AY) L)(hh:Holds ((rr,.cells ⟨[ptr rb,.bool s.bad]⟩ DL (0,0))::(rb,.cells ⟨[AG s.t]⟩ DM (0,0))::(b4,.cells ⟨[ptr rr]⟩ Ct (0,0))::(b5,.cells ⟨[.slice fa fn fc,.slice a l.length c,.int .i64 0,.int .i64 0,.int .i64 0]⟩ Br (0,0))::L) w)(ht:s.t.length≤70368744177664)(hl:l.length≤4398046511104):
  Cl Tryz.prog OH [ptr b5,ptr b4] w λ_ w'=>∃a' c' L',AT BX 1 a' (l++[(BK s).1]).length c' ((l++[(BK s).1]).map AY) L'∧St w (rr::rb::b4::b5::keys L) ((rr,.cells ⟨[ptr rb,.bool (BK s).2.bad]⟩ DL (0,0))::(rb,.cells ⟨[AG (BK s).2.t]⟩ DM (0,0))::(b4,.cells ⟨[ptr rr]⟩ Ct (0,0))::(b5,.cells ⟨[.slice fa fn fc,.slice a' (l++[(BK s).1]).length c',.int .i64 0,.int .i64 0,.int .i64 0]⟩ Br (0,0))::L') w':=by
 have hS:St w (rr::rb::b4::b5::keys L) ((rr,.cells ⟨[ptr rb,.bool s.bad]⟩ DL (0,0))::(rb,.cells ⟨[AG s.t]⟩ DM (0,0))::(b4,.cells ⟨[ptr rr]⟩ Ct (0,0))::(b5,.cells ⟨[.slice fa fn fc,.slice a l.length c,.int .i64 0,.int .i64 0,.int .i64 0]⟩ Br (0,0))::L) w:=St.enter hh;generalize(rr::rb::b4::b5::keys L)=T at hS⊢;refine eQ rfl ?_;refine jq ⟨?_⟩;refine AM.draw AK mixed (λw'=>St w T [(b4,.cells ⟨[ptr rr]⟩ Ct (0,0)),(b5,.cells ⟨[.slice fa fn fc,.slice a l.length c,.int .i64 0,.int .i64 0,.int .i64 0]⟩ Br (0,0))] w') [7] [0,1,2,3,4,5,6,7] AD (hS.drew.sub (IY _ _ _ _ _)) ?_
 have hV:=hS.drew;have hS:St w T [(b4,.cells ⟨[ptr rr]⟩ Ct (0,0)),(b5,.cells ⟨[.slice fa fn fc,.slice a l.length c,.int .i64 0,.int .i64 0,.int .i64 0]⟩ Br (0,0))] _:=hV.sub (IY _ _ _ _ _);refine jr ⟨?_⟩;refine Cl.mono (LY (s:=s) (hV.part (L:=[(rr,Fr rb s.bad),(rb,A6 s.t)])) ht) ?_;rintro _ w2⟨rfl,hS'⟩;have hV:=hV.call (L:=[(rr,Fr rb s.bad),(rb,A6 s.t)]) hS';generalize BK s=x2 at hV⊢;obtain⟨z2,s2⟩:=x2
 simp only at hV⊢;have hV:St w T ((rr,.cells ⟨[ptr rb,.bool s2.bad]⟩ DL (0,0))::(rb,.cells ⟨[AG s2.t]⟩ DM (0,0))::(b4,.cells ⟨[ptr rr]⟩ Ct (0,0))::(b5,.cells ⟨[.slice fa fn fc,.slice a l.length c,.int .i64 0,.int .i64 0,.int .i64 0]⟩ Br (0,0))::L) w2:=hV;refine Ae.mk (hV.sub (IY _ _ _ _ _)) ?_;refine jr ⟨?_⟩;refine hV.al ?_;intro r w3 _ hV;refine Ae.mk ((St.tl1 hV).sub (IY _ _ _ _ _)) ?_;refine jr ⟨?_⟩
 refine St.app (sz:=1) (m:=1) AK rfl rfl rfl rfl hV hv (news:=[AY z2]) rfl (by have:=hV.arr (b:=r) (T':=[]) AB;exact this) rfl (by show(_+_)*8≤_;omega) AA ?_;intro a2 c2 L2 w4 hv hV;have e9:l.map AY++[AY z2]=(l++[z2]).map AY:=AB;have e8:l.length+1=(l++[z2]).length:=AB;rw[e9,e8]at hv;rw[e8];refine Ae.mk ((St.tl1 hV).sub (IY _ _ _ _ _)) ?_;have hS:=St.tl1 hV;(repeat(refine jt ⟨?_⟩;refine hS.q ?_;intro _ hS));refine jt ⟨?_⟩
 exact⟨a2,c2,L2,hv,hS⟩
theorem Rk{s:RB}(h:s.bad=false):(BK s).2.t.length+1≤s.t.length+FK (BK s).2.bad:=by
 have h1:=K3 s.t;unfold BK FK;simp only[h,Bool.false_or];by_cases e1:(Da s.t).2.1=0
 ·have h3:=V5 e1
  split<;>omega
 ·rw[decide_eq_true e1,if_pos rfl];omega
structure Sj where
 i:Nat
 s:RB
 l:List Int
 a:Option Addr
 c:Nat
def T8(b4 b5:Nat):Value:= .func (.func OH) ⟨[]⟩ ⟨[ptr b5,ptr b4]⟩
theorem Rr(n:Nat)(s:RB)(l:List Int)(h:s.bad=false):Df (n+1) (s,l)=Df n ((BK s).2,l++[(BK s).1]):=by
 conv=>lhs;unfold Df
 rw[if_neg (by rw[h];nofun)]
theorem O2(n:Nat)(s:RB)(l:List Int)(h:s.bad=true):Df n (s,l)=(s,l):=by
 cases n with
 |zero=>rfl
 |succ n=>unfold Df;rw[if_pos h]
theorem dG{w:World}{rr rb b4 b5 N:Nat}{s:RB}{fa a:Option Addr}{fn fc c:Nat}{l:List Int}{L:AH}(hv:AT BX 1 a l.length c (l.map AY) L)(hh:Holds ((rr,.cells ⟨[ptr rb,.bool s.bad]⟩ DL (0,0))::(rb,.cells ⟨[AG s.t]⟩ DM (0,0))::(b4,.cells ⟨[ptr rr]⟩ Ct (0,0))::(b5,.cells ⟨[.slice fa fn fc,.slice a l.length c,.int .i64 0,.int .i64 0,.int .i64 0]⟩ Br (0,0))::L) w)(hN:l.length+s.t.length≤N)(hN2:N≤1099511627776):
  Cl Tryz.prog Us [ptr rr,T8 b4 b5] w λ_ w'=>∃a' c' L',AT BX 1 a' (Df (CQ s).1 ((CQ s).2,l)).2.length c' ((Df (CQ s).1 ((CQ s).2,l)).2.map AY) L'∧St w (rr::rb::b4::b5::keys L) ((rr,.cells ⟨[ptr rb,.bool (Df (CQ s).1 ((CQ s).2,l)).1.bad]⟩ DL (0,0))::(rb,.cells ⟨[AG (Df (CQ s).1 ((CQ s).2,l)).1.t]⟩ DM (0,0))::(b4,.cells ⟨[ptr rr]⟩ Ct (0,0))::(b5,.cells ⟨[.slice fa fn fc,.slice a' (Df (CQ s).1 ((CQ s).2,l)).2.length c',.int .i64 0,.int .i64 0,.int .i64 0]⟩ Br (0,0))::L') w':=by
 have hS:St w (rr::rb::b4::b5::keys L) ((rr,.cells ⟨[ptr rb,.bool s.bad]⟩ DL (0,0))::(rb,.cells ⟨[AG s.t]⟩ DM (0,0))::(b4,.cells ⟨[ptr rr]⟩ Ct (0,0))::(b5,.cells ⟨[.slice fa fn fc,.slice a l.length c,.int .i64 0,.int .i64 0,.int .i64 0]⟩ Br (0,0))::L) w:=St.enter hh;have hnl:=LH s.t;have hlt:=LI s.t;generalize(rr::rb::b4::b5::keys L)=T at hS⊢;unfold T8;refine Ua rfl ?_;(repeat(refine jt ⟨?_⟩;refine hS.q ?_;intro _ hS));refine jt ⟨?_⟩
 refine Cl.mono (JK (hS.part (L:=[(rb,A6 s.t)])) AA) ?_;rintro _ w1⟨rfl,hS'⟩;have hS:=hS.call (L:=[(rb,A6 s.t)]) hS';obtain⟨t,bad⟩:=s;simp only at hS hnl hlt hN⊢;have hrn:CQ ⟨t,bad⟩=((CP t).1,⟨(CP t).2.2,bad||decide ((CP t).2.1≠0)⟩):=rfl;rw[hrn];simp only;generalize CP t=x1 at hS hnl hlt⊢;obtain⟨n,er,t1⟩:=x1;simp only at hS hnl hlt⊢;have hS:St w T ((rr,.cells ⟨[ptr rb,.bool bad]⟩ DL (0,0))::(rb,.cells ⟨[AG t1]⟩ DM (0,0))::(b4,.cells ⟨[ptr rr]⟩ Ct (0,0))::(b5,.cells ⟨[.slice fa fn fc,.slice a l.length c,.int .i64 0,.int .i64 0,.int .i64 0]⟩ Br (0,0))::L) w1:=hS
 generalize hbd:(bad||decide (er≠0))=bd;generalize hX:Df n (⟨t1,bd⟩,l)=X;have hj:(0≤n∧Df (n-0) (⟨t1,bd⟩,l)=X∧l.length+t1.length≤N+FK bd):=⟨Ag _,hX,by unfold FK;split<;>omega⟩;have hbd2:bad=false→(!decide (er=0))=bd:=by rintro rfl;rw[←hbd];simp
 cases bad with
 |true=>
  have hbt:bd=true:=by rw[←hbd];rfl
  subst hbt;(repeat(refine jt ⟨?_⟩;refine hS.q ?_;intro _ hS));refine jt ⟨?_⟩;refine AM.loop (λz:Sj=>[(0,ptr rr),(1,.func (.func OH) ⟨[]⟩ ⟨[ptr b5,ptr b4]⟩),(4,.int .u64 n),(6,.int .u64 z.i)])
   (λz w'=>(z.i≤n∧Df (n-z.i) (z.s,z.l)=X∧z.l.length+z.s.t.length≤N+FK z.s.bad)∧ ∃L,AT BX 1 z.a z.l.length z.c (z.l.map AY) L∧St w T ((rr,.cells ⟨[ptr rb,.bool z.s.bad]⟩ DL (0,0))::(rb,.cells ⟨[AG z.s.t]⟩ DM (0,0))::(b4,.cells ⟨[ptr rr]⟩ Ct (0,0))::(b5,.cells ⟨[.slice fa fn fc,.slice z.a z.l.length z.c,.int .i64 0,.int .i64 0,.int .i64 0]⟩ Br (0,0))::L) w') (λz=>n-z.i) ⟨0,⟨t1,_⟩,l,a,c⟩
   ⟨rfl,rfl,rfl,rfl,trivial⟩ ⟨hj,L,hv,hS⟩ ?_
  clear hS hj hX hv hS' hrn hbd hbd2;rintro⟨i,s,l,a,c⟩w2⟨⟨hi,hx,hsz⟩,L,hv,hS⟩;simp only at hi hx hsz hv hS⊢;by_cases hin:i<n
  ·cases hb:s.bad with
   |true=>
    rw[O2 _ _ _ hb]at hx;subst hx;rw[hb]at hS;(repeat(refine jt ⟨?_⟩;refine hS.q ?_;intro _ hS));refine jt ⟨?_⟩;rw[←hb]at hS;exact⟨a,c,L,hv,hS⟩
   |false=>
    have hsl:=Rk hb;rw[show n-i=(n-(i+1))+1 by omega,Rr _ _ _ hb]at hx;have hb0:FK s.bad=0:=by rw[hb];rfl
    have hSb:=hS;rw[hb]at hS;(repeat(refine jt ⟨?_⟩;refine hS.q ?_;intro _ hS));refine jt ⟨?_⟩;refine Cl.mono (Xk (s:=s) hv hSb.holds AA AA) ?_;rintro _ w3⟨a',c',L',hv',hS'⟩;have hS:=St.callAll hSb hS';(repeat(refine jt ⟨?_⟩;refine hS.q ?_;intro _ hS));refine jt ⟨?_⟩;exact⟨⟨i+1,(BK s).2,l++[(BK s).1],a',c'⟩,⟨rfl,rfl,rfl,rfl,trivial⟩,⟨⟨by simp only;omega,hx,by simp only[AP,D4];omega⟩,L',hv',hS⟩,by simp only;omega⟩
  ·have hie:n-i=0:=AA;rw[hie]at hx;have hx:(s,l)=X:=hx;subst hx;(repeat(refine jt ⟨?_⟩;refine hS.q ?_;intro _ hS));refine jt ⟨?_⟩;exact⟨a,c,L,hv,hS⟩
 |false=>
  have hbd3:=hbd2 rfl;(repeat(refine jt ⟨?_⟩;refine hS.q ?_;intro _ hS));refine jt ⟨?_⟩;rw[hbd3]at hS;refine AM.loop (λz:Sj=>[(0,ptr rr),(1,.func (.func OH) ⟨[]⟩ ⟨[ptr b5,ptr b4]⟩),(4,.int .u64 n),(6,.int .u64 z.i)])
   (λz w'=>(z.i≤n∧Df (n-z.i) (z.s,z.l)=X∧z.l.length+z.s.t.length≤N+FK z.s.bad)∧ ∃L,AT BX 1 z.a z.l.length z.c (z.l.map AY) L∧St w T ((rr,.cells ⟨[ptr rb,.bool z.s.bad]⟩ DL (0,0))::(rb,.cells ⟨[AG z.s.t]⟩ DM (0,0))::(b4,.cells ⟨[ptr rr]⟩ Ct (0,0))::(b5,.cells ⟨[.slice fa fn fc,.slice z.a z.l.length z.c,.int .i64 0,.int .i64 0,.int .i64 0]⟩ Br (0,0))::L) w') (λz=>n-z.i) ⟨0,⟨t1,_⟩,l,a,c⟩
   ⟨rfl,rfl,rfl,rfl,trivial⟩ ⟨hj,L,hv,hS⟩ ?_
  clear hS hj hX hv hS' hrn hbd hbd2;rintro⟨i,s,l,a,c⟩w2⟨⟨hi,hx,hsz⟩,L,hv,hS⟩;simp only at hi hx hsz hv hS⊢;by_cases hin:i<n
  ·cases hb:s.bad with
   |true=>
    rw[O2 _ _ _ hb]at hx;subst hx;rw[hb]at hS;(repeat(refine jt ⟨?_⟩;refine hS.q ?_;intro _ hS));refine jt ⟨?_⟩;rw[←hb]at hS;exact⟨a,c,L,hv,hS⟩
   |false=>
    have hsl:=Rk hb;rw[show n-i=(n-(i+1))+1 by omega,Rr _ _ _ hb]at hx;have hb0:FK s.bad=0:=by rw[hb];rfl
    have hSb:=hS;rw[hb]at hS;(repeat(refine jt ⟨?_⟩;refine hS.q ?_;intro _ hS));refine jt ⟨?_⟩;refine Cl.mono (Xk (s:=s) hv hSb.holds AA AA) ?_;rintro _ w3⟨a',c',L',hv',hS'⟩;have hS:=St.callAll hSb hS';(repeat(refine jt ⟨?_⟩;refine hS.q ?_;intro _ hS));refine jt ⟨?_⟩;exact⟨⟨i+1,(BK s).2,l++[(BK s).1],a',c'⟩,⟨rfl,rfl,rfl,rfl,trivial⟩,⟨⟨by simp only;omega,hx,by simp only[AP,D4];omega⟩,L',hv',hS⟩,by simp only;omega⟩
  ·have hie:n-i=0:=AA;rw[hie]at hx;have hx:(s,l)=X:=hx;subst hx;(repeat(refine jt ⟨?_⟩;refine hS.q ?_;intro _ hS));refine jt ⟨?_⟩;exact⟨a,c,L,hv,hS⟩
theorem vX{α:Type}(a b c d e:α):[a,b,c,d,e].Perm [c,d,b,a,e]:=by
 have h1:([a,b]++[c,d]).Perm ([c,d]++[a,b]):=Gl;have h2:([c,d]++[a,b]).Perm ([c,d]++[b,a]):=List.Perm.append_left _ (List.Perm.swap _ _ _);exact(h1.trans h2).append_right [e]
theorem Holds.tl1{p:Nat×Obj}{R:AH}{w:World}(h:Holds (p::R) w):Holds R w:=((St.enter h).sub (AS _ _)).holds
def Kd:EM:=⟨[],[],0,0,0⟩
structure JG(a b:Option Addr)(ca cb:Nat)(e:EM)(La Lb:AH):Prop where
 fv:AT BE 2 a e.add.length ca (e.add.flatMap Ad) La
 dv:AT BX 1 b e.del.length cb (e.del.map AY) Lb
 len:e.add.length+e.del.length≤16777216
 rng: -9223372036854775808≤e.wal∧e.wal≤9223372036854775807∧ -9223372036854775808≤e.next∧e.next≤9223372036854775807∧ -9223372036854775808≤e.seq∧e.seq≤9223372036854775807
theorem JG.at{w0 w:World}{T:List Nat}{H La Lb:AH}{F G:AH→AH}{a b:Option Addr}{ca cb:Nat}{e:EM}(h:JG a b ca cb e La Lb)(hS:St w0 T H w) [hc:Chunk H La F] [hd:Chunk H Lb G]:HZ w a b ca cb e:=
 ⟨Kt hS h.fv,h.dv.arr hS AB,h.dv.cap,h.len,h.rng⟩
def PY(o:Option EM)(r:Value)(w w':World):Prop:=match o with
 |none=>r= .tuple ⟨[.agg ⟨Du none none 0 0 Kd⟩,.int .i64 11]⟩∧St w [] [] w'
 |some e=>∃a b ca cb La Lb,r= .tuple ⟨[.agg ⟨Du a b ca cb e⟩,.int .i64 0]⟩∧JG a b ca cb e La Lb∧St w [] (La++Lb) w'
theorem Xf: ∀(n:Nat)(s:RB)(l:List Af),(Dq n (s,l)).2.length+(Dq n (s,l)).1.t.length≤l.length+s.t.length+1
 |0,s,l=>by show l.length+s.t.length≤_;omega
 |n+1,s,l=>by
  cases hb:s.bad with
  |true=>rw[Ro _ _ _ hb];simp only;omega
  |false=>
   have h1:=YB hb;rw[Xg _ _ _ hb];cases hb2:(GE s).2.bad with
   |true=>
    rw[Ro _ _ _ hb2];rw[hb2]at h1;simp only[AP,D4,FK,if_true]at h1⊢;omega
   |false=>
    have h2:=Xf n (GE s).2 (l++[(GE s).1]);rw[hb2]at h1;simp only[AP,D4,FK]at h1 h2⊢;simp at h1;omega
theorem Xj: ∀(n:Nat)(s:RB)(l:List Int),(Df n (s,l)).2.length+(Df n (s,l)).1.t.length≤l.length+s.t.length+1
 |0,s,l=>by show l.length+s.t.length≤_;omega
 |n+1,s,l=>by
  cases hb:s.bad with
  |true=>rw[O2 _ _ _ hb];simp only;omega
  |false=>
   have h1:=Rk hb;rw[Rr _ _ _ hb];cases hb2:(BK s).2.bad with
   |true=>
    rw[O2 _ _ _ hb2];rw[hb2]at h1;simp only[AP,D4,FK,if_true]at h1⊢;omega
   |false=>
    have h2:=Xj n (BK s).2 (l++[(BK s).1]);rw[hb2]at h1;simp only[AP,D4,FK]at h1 h2⊢;simp at h1;omega
theorem Rl(s:RB):CA (BK s).1:=XC (by unfold BK Da;simp only[Sa];exact LI s.t)
set_option maxRecDepth 4000 in
theorem ZA{w:World}{t:AE}(ht:t.length≤16777000):
  Cl Tryz.prog mR [AG t] w λr w'=>PY (Fk t) r w w':=by
 have hS:=St.start w;refine eO rfl ?_;refine jq ⟨?_⟩;refine hS.al ?_;intro b2 w1 _ hS;refine jq ⟨?_⟩;refine Cl.mono Pe ?_;rintro _ w2⟨rb,rfl,hS'⟩;have hS:=hS.callNew hS';refine jq ⟨?_⟩;refine hS.al ?_;intro rr w3 _ hS;refine jq ⟨?_⟩;refine hS.al ?_;intro b4 w4 _ hS;(repeat(refine jt ⟨?_⟩;refine hS.q ?_;intro _ hS));refine jt ⟨?_⟩;refine hS.al ?_;intro b5 w5 _ hS;have hS:St w [] ([(b5,.cells ⟨[.slice none 0 0,.slice none 0 0,.int .i64 0,.int .i64 0,.int .i64 0]⟩ Br (0,0)),(b4,.cells ⟨[ptr rr]⟩ Ct (0,0))]++([(rr,.cells ⟨[ptr rb,.bool false]⟩ DL (0,0)),(rb,.cells ⟨[AG t]⟩ DM (0,0))]++[(b2,.cells ⟨[.slice none 0 0,.slice none 0 0,.int .i64 0,.int .i64 0,.int .i64 0]⟩ Br (0,0))])) w5:=hS
 have hS:St w [] (((rr,.cells ⟨[ptr rb,.bool false]⟩ DL (0,0))::(rb,.cells ⟨[AG t]⟩ DM (0,0))::(b4,.cells ⟨[ptr rr]⟩ Ct (0,0))::(b5,.cells ⟨[.slice none 0 0,.slice none 0 0,.int .i64 0,.int .i64 0,.int .i64 0]⟩ Br (0,0))::[])++[(b2,.cells ⟨[.slice none 0 0,.slice none 0 0,.int .i64 0,.int .i64 0,.int .i64 0]⟩ Br (0,0))]) w5:=hS.perm (vX _ _ _ _ _);(repeat(refine jt ⟨?_⟩;refine hS.q ?_;intro _ hS));refine jt ⟨?_⟩
 refine Bm.of rfl ?_;(repeat(refine jt ⟨?_⟩;refine hS.q ?_;intro _ hS));refine jt ⟨?_⟩;refine Cl.mono (dF (N:=t.length) (s:=⟨t,false⟩) (l:=[]) AT.nil (hS.part (L:=(rr,.cells ⟨[ptr rb,.bool false]⟩ DL (0,0))::(rb,.cells ⟨[AG t]⟩ DM (0,0))::(b4,.cells ⟨[ptr rr]⟩ Ct (0,0))::(b5,.cells ⟨[.slice none 0 0,.slice none 0 0,.int .i64 0,.int .i64 0,.int .i64 0]⟩ Br (0,0))::[])) rfl AB AA) ?_;rintro _ w6⟨fa,fc,La,hfv,hS'⟩
 have hS:=hS.call (L:=(rr,.cells ⟨[ptr rb,.bool false]⟩ DL (0,0))::(rb,.cells ⟨[AG t]⟩ DM (0,0))::(b4,.cells ⟨[ptr rr]⟩ Ct (0,0))::(b5,.cells ⟨[.slice none 0 0,.slice none 0 0,.int .i64 0,.int .i64 0,.int .i64 0]⟩ Br (0,0))::[]) hS';have hrl:=Xf (CQ ⟨t,false⟩).1 (CQ ⟨t,false⟩).2 [];have hnl:(CQ ⟨t,false⟩).2.t.length≤t.length:=LH t;unfold Fk HV;simp only;generalize Dq (CQ ⟨t,false⟩).1 ((CQ ⟨t,false⟩).2,[])=X1 at hS hfv hrl⊢
 obtain⟨s1,l1⟩:=X1;simp only[Bv]at hS hfv hrl⊢;have hS:St w [] (((rr,.cells ⟨[ptr rb,.bool s1.bad]⟩ DL (0,0))::(rb,.cells ⟨[AG s1.t]⟩ DM (0,0))::(b4,.cells ⟨[ptr rr]⟩ Ct (0,0))::(b5,.cells ⟨[.slice fa l1.length fc,.slice none 0 0,.int .i64 0,.int .i64 0,.int .i64 0]⟩ Br (0,0))::[])++(La++[(b2,.cells ⟨[.slice none 0 0,.slice none 0 0,.int .i64 0,.int .i64 0,.int .i64 0]⟩ Br (0,0))])) w6:=hS;(repeat(refine jt ⟨?_⟩;refine hS.q ?_;intro _ hS));refine jt ⟨?_⟩
 refine Bm.of rfl ?_;(repeat(refine jt ⟨?_⟩;refine hS.q ?_;intro _ hS));refine jt ⟨?_⟩;refine Cl.mono (dG (N:=s1.t.length) (s:=s1) (l:=[]) (fa:=fa) (fn:=l1.length) (fc:=fc) AT.nil (hS.part (L:=(rr,.cells ⟨[ptr rb,.bool s1.bad]⟩ DL (0,0))::(rb,.cells ⟨[AG s1.t]⟩ DM (0,0))::(b4,.cells ⟨[ptr rr]⟩ Ct (0,0))::(b5,.cells ⟨[.slice fa l1.length fc,.slice none 0 0,.int .i64 0,.int .i64 0,.int .i64 0]⟩ Br (0,0))::[])) AB AA) ?_
 rintro _ w7⟨ia,ic,Lb,hiv,hS'⟩;have hS:=hS.call (L:=(rr,.cells ⟨[ptr rb,.bool s1.bad]⟩ DL (0,0))::(rb,.cells ⟨[AG s1.t]⟩ DM (0,0))::(b4,.cells ⟨[ptr rr]⟩ Ct (0,0))::(b5,.cells ⟨[.slice fa l1.length fc,.slice none 0 0,.int .i64 0,.int .i64 0,.int .i64 0]⟩ Br (0,0))::[]) hS';have hrl2:=Xj (CQ s1).1 (CQ s1).2 [];have hnl2:(CQ s1).2.t.length≤s1.t.length:=LH s1.t;generalize Df (CQ s1).1 ((CQ s1).2,[])=X2 at hS hiv hrl2⊢
 obtain⟨s2,l2⟩:=X2;simp only[Bv]at hS hiv hrl2⊢;have hS:St w [] ([(rr,Fr rb s2.bad),(rb,A6 s2.t)]++((b4,.cells ⟨[ptr rr]⟩ Ct (0,0))::(b5,.cells ⟨[.slice fa l1.length fc,.slice ia l2.length ic,.int .i64 0,.int .i64 0,.int .i64 0]⟩ Br (0,0))::(Lb++(La++[(b2,.cells ⟨[.slice none 0 0,.slice none 0 0,.int .i64 0,.int .i64 0,.int .i64 0]⟩ Br (0,0))])))) w7:=hS;(repeat(refine jt ⟨?_⟩;refine hS.q ?_;intro _ hS));refine jt ⟨?_⟩
 refine Cl.mono (LY (s:=s2) (hS.part (L:=[(rr,Fr rb s2.bad),(rb,A6 s2.t)])) AA) ?_;rintro _ w8⟨rfl,hS'⟩;have hS:=hS.call (L:=[(rr,Fr rb s2.bad),(rb,A6 s2.t)]) hS';have hz1:=Rl s2;have hl3:(BK s2).2.t.length≤s2.t.length:=K3 s2.t;generalize BK s2=X3 at hS hz1 hl3⊢;obtain⟨z1,s3⟩:=X3;simp only at hS hz1 hl3⊢;(repeat(refine jt ⟨?_⟩;refine hS.q ?_;intro _ hS));refine jt ⟨?_⟩;refine Cl.mono (LY (s:=s3) (hS.part (L:=[(rr,Fr rb s3.bad),(rb,A6 s3.t)])) AA) ?_
 rintro _ w9⟨rfl,hS'⟩;have hS:=hS.call (L:=[(rr,Fr rb s3.bad),(rb,A6 s3.t)]) hS';have hz2:=Rl s3;have hl4:(BK s3).2.t.length≤s3.t.length:=K3 s3.t;generalize BK s3=X4 at hS hz2 hl4⊢;obtain⟨z2,s4⟩:=X4;simp only at hS hz2 hl4⊢;(repeat(refine jt ⟨?_⟩;refine hS.q ?_;intro _ hS));refine jt ⟨?_⟩;refine Cl.mono (LY (s:=s4) (hS.part (L:=[(rr,Fr rb s4.bad),(rb,A6 s4.t)])) AA) ?_;rintro _ w10⟨rfl,hS'⟩;have hS:=hS.call (L:=[(rr,Fr rb s4.bad),(rb,A6 s4.t)]) hS'
 have hz3:=Rl s4;generalize BK s4=X5 at hS hz3⊢;obtain⟨z3,s5⟩:=X5;simp only at hS hz3⊢;(repeat(refine jt ⟨?_⟩;refine hS.q ?_;intro _ hS));refine jt ⟨?_⟩;cases hb:s5.bad with
 |true=>
  rw[if_neg (by rintro⟨h, -⟩;cases h)];rw[hb]at hS;(repeat(refine jt ⟨?_⟩;refine hS.q ?_;intro _ hS));refine jt ⟨?_⟩;exact⟨rfl,hS.nil⟩
 |false=>
  have hSb:=hS;rw[hb]at hS;(repeat(refine jt ⟨?_⟩;refine hS.q ?_;intro _ hS));refine jt ⟨?_⟩;refine Cl.mono (Pf (t:=s5.t) (Holds.tl1 (hSb.part (L:=[(rr,Fr rb s5.bad),(rb,A6 s5.t)])))) ?_;rintro _ w11⟨rfl,hS'⟩;have hS:=hS.call0 hS';by_cases hd:s5.t=[]
  ·rw[decide_eq_true hd];have hE:JG fa ia fc ic ⟨l1,l2,z1,z2,z3⟩ La Lb:=⟨hfv,hiv,by simp only;omega,⟨hz1.1,hz1.2,hz2.1,hz2.2,hz3.1,hz3.2⟩⟩;have hSv:=hS;(repeat(refine jt ⟨?_⟩;refine hS.q ?_;intro _ hS));refine jt ⟨?_⟩;refine Cl.mono (Rv (hE.at hS)) ?_;rintro _ w12⟨rfl,hS'⟩;have hS:=hS.call0 hS';cases hr:C6 ⟨l1,l2,z1,z2,z3⟩with
   |true=>
    rw[if_pos ⟨rfl,hd,rfl⟩];(repeat(refine jt ⟨?_⟩;refine hS.q ?_;intro _ hS));refine jt ⟨?_⟩;exact⟨fa,ia,fc,ic,La,Lb,rfl,hE,((St.tl2 (St.tl2 hS)).sub (List.Sublist.append_left (CD _ _) Lb)).perm Gl⟩
   |false=>
    rw[if_neg (by rintro⟨-, -,h⟩;cases h)];(repeat(refine jt ⟨?_⟩;refine hS.q ?_;intro _ hS));refine jt ⟨?_⟩;exact⟨rfl,hS.nil⟩
  ·rw[decide_eq_false hd,if_neg (by rintro⟨-,h, -⟩;exact hd h)];(repeat(refine jt ⟨?_⟩;refine hS.q ?_;intro _ hS));refine jt ⟨?_⟩;exact⟨rfl,hS.nil⟩
end Go.Proofs.YtkgibdhpijdbfaaGreatDoor
