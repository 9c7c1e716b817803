/- Texts of this claim, one behind the other. -/
import Derived.Test.YtkgibdhpijdbfaaGreatDoorZ38
import Derived.Test.YtkgibdhpijdbfaaGreatDoorZ39
import Derived.Test.YtkgibdhpijdbfaaGreatDoorZ32
set_option linter.unusedVariables false
set_option linter.unusedSimpArgs false
set_option maxHeartbeats 16000000
namespace Go.Proofs.YtkgibdhpijdbfaaGreatDoor
open Go Go.Eng Go.Proofs Go.Srt
structure Yx where
 k:Nat
 a:Option Addr
 c:Nat
 b:Option Addr
 d:Nat
theorem cE(X C C2 Y Z:AH):(C2++(X++(C++(Y++Z)))).Perm (X++((C++C2)++(Y++Z))):=by
 classical
 refine Ix.2 λa=>?_;simp only[Hp,Iw];omega
theorem cF(p:Nat×Obj)(Y F Z:AH):(Y++(p::(F++Z))).Perm (F++(Y++(p::Z))):=by
 classical
 refine Ix.2 λa=>?_;simp only[Hp,Iw];omega
def Sk(sb f:Nat)(s:AM)(m:AJ)(w:World)(T0:List Nat)(v:Value)(w':World):Prop:=∃r seen mk,r.Perm (D1 s)∧Az r∧seen.Perm (Hy s)∧mk.Perm (Ar s.v.next (AR 64 (BD seen r)))∧v= .int .i64 (DG s m (BD seen r) mk).1∧
 ∃L',AW sb f (DG s m (BD seen r) mk).2.1 (DG s m (BD seen r) mk).2.2 L'∧St w T0 L' w'
def MA(sb f:Nat)(s:AM)(m:AJ)(w:World)(T0:List Nat)(es:List AF):Prop:=∀(mk:List (Int×List AF))(e:Int)(L':AH)(w':World)(q:Int×AM×AJ),mk.Perm (Ar s.v.next (AR 64 es))→DG s m es mk=q→e=q.1→AW sb f q.2.1 q.2.2 L'→St w T0 L' w'→Sk sb f s m w T0 (.int .i64 e) w'
theorem MA.of{sb f:Nat}{s:AM}{m:AJ}{w:World}{T0:List Nat}{r:List AF}{seen:List Int}(h1:r.Perm (D1 s))(h2:Az r)(h3:seen.Perm (Hy s)):MA sb f s m w T0 (BD seen r):=by
 intro mk e L' w' q h4 h5 h6 h7 h8;subst h5;exact⟨r,seen,mk,h1,h2,h3,h4,congrArg _ h6,L',h7,h8⟩
set_option maxRecDepth 8000 in
theorem TH{w:World}{sb f A T:Nat}{s:AM}{m:AJ}{L:AH}(hO:AW sb f s m L)(hh:Holds L w)(hG:Bp w (keys L))(hW:Ik A T s m)(hC:Ka s):
  Cl Tryz.prog o9 [ptr sb] w λv w'=>Sk sb f s m w (keys L) v w':=by
 have hS:=St.enter hh;have hvn:=hW.gv.good.nn;have hvx:=hW.next;have hsq:=hW.seq;have hwl:=hW.gv.wal;have hac:=hW.acts;have hvf:=hW.vnum;have hone:=hC.one;have hnum:=hC.num;obtain⟨af,cf,hfp⟩:=hO.fileP;obtain⟨tm,et,ct,ks,hks,hnd,htp⟩:=hO.tabP;have hfm: ∀fl∈s.v.files,∃l,(fl.2,l)∈s.tabs:=λfl hfl=>by
  have h1:fl.2∈s.tabs.map (·.1):=hC.files.mem_iff.1 (CD hfl);obtain⟨y,hy,hyn⟩:=BV.1 h1;exact⟨y.2,by rw[←hyn];exact hy⟩
 have hcl:=G4 s.v.files;have hpm:(s.v.files.map λfl=>Ce s.tabs fl.2).flatten.Perm (D1 s):=by
  have:=YX (ns:=s.v.files.map (·.2)) hnd hC.files;rwa[Fp]at this
 generalize hT:keys L=T0 at hS hG⊢;refine iM rfl ?_;(repeat(refine jt ⟨?_⟩;refine hS.q ?_;intro _ hS));refine jt ⟨?_⟩;refine Eb (hfp _ hS.holds).1 ?_;(repeat(refine jt ⟨?_⟩;refine hS.q ?_;intro _ hS));refine jt ⟨?_⟩;by_cases hf0:s.v.files=[]
 ·have hl0:s.v.files.length=0:=by rw[hf0];rfl
  obtain⟨r,hrp,hrr⟩: ∃r,r.Perm (D1 s)∧Az r:=by
   have:s.tabs=[]:=by
    have:=hC.files.length_eq;simp only[BM]at this;exact Is AA
   exact⟨[],by unfold D1;rw[this];simp,.nil⟩
  have hM: ∀mk,DG s m (BD (Hy s) r) mk=(0,s,m):=λmk=>by unfold DG;rw[if_pos hf0]
  (repeat(refine jt ⟨?_⟩;refine hS.q ?_;intro _ hS));refine jt ⟨?_⟩;exact MA.of hrp hrr (.refl _) _ _ L _ _ (.refl _) (hM _) rfl hO hS
 ·have hl0:0<s.v.files.length:=J5.2 hf0;have hFM: ∀es mk,DG s m es mk=_:=λes mk=>by unfold DG;rw[if_neg hf0]
  simp only at hFM;(repeat(refine jt ⟨?_⟩;refine hS.q ?_;intro _ hS));refine jt ⟨?_⟩;refine Eb (hfp _ hS.holds).1 ?_;(repeat(refine jt ⟨?_⟩;refine hS.q ?_;intro _ hS));refine jt ⟨?_⟩;refine AL.loop (λz:Yx=>[(0,ptr sb),(2,.int .i64 0),(3,.slice z.a z.k z.c),(4,.slice z.b z.k z.d),(26,.slice af s.v.files.length cf),(27,.int .i64 s.v.files.length),(28,.int .i64 z.k)])
   (λz w'=>z.k≤s.v.files.length∧ ∃xs Lx Lc Ly,AT GR 1 z.a z.k z.c xs Lx∧Gz xs ((s.v.files.take z.k).map λfl=>Ce s.tabs fl.2) Lc∧AT BP 1 z.b z.k z.d (((s.v.files.take z.k).map (·.2)).map AY) Ly∧St w T0 (Lx++(Lc++(Ly++L))) w') (λz=>s.v.files.length-z.k) ⟨0,none,0,none,0⟩
   ⟨rfl,rfl,rfl,rfl,rfl,rfl,rfl,trivial⟩ ⟨Ag _,[],[],[],[],AT.nil,.nil,AT.nil,hS⟩ ?_
  clear hS;rintro⟨k,a9,c9,ag,cg⟩w2⟨hk,xs,Lx,Lc,Ly,hV,hLs,hVg,hS⟩;simp only at hk hV hLs hVg hS⊢;by_cases hkl:k<s.v.files.length
  ·have hfa:=(hfp _ (hS.part (L:=L))).2;obtain⟨g,off,rfl⟩:=hfa.pos AA;have hat:=hfa.at hkl;have hmem:s.v.files[k]∈s.v.files:=Ca hkl;obtain⟨l,hl⟩:=hfm _ hmem;have htf:B8 l:=hC.tab _ hl;have hsucc:(s.v.files.take (k+1)).map (λfl=>Ce s.tabs fl.2)=(s.v.files.take k).map (λfl=>Ce s.tabs fl.2)++[l]:=by
    rw[Bs hkl,A7,A4,kC];unfold Ce;rw[F9 hnd hl];rfl
   have hsucc2:((s.v.files.take (k+1)).map (·.2)).map AY=((s.v.files.take k).map (·.2)).map AY++[AY s.v.files[k].2]:=by
    rw[Bs hkl,A7,A7];rfl
   obtain⟨tb,htb, -⟩:=(htp _ (hS.part (L:=L))).2.2 _ _ hl;generalize s.v.files[k]=fl at hat hmem hl hsucc2 htb;(repeat(refine jt ⟨?_⟩;refine hS.q ?_;intro _ hS));refine jt ⟨?_⟩;refine Arr.ldn (St.start w2) hfa.arr rfl (k:=k*2) hat rfl ?_;unfold Ad;(repeat(refine jt ⟨?_⟩;refine hS.q ?_;intro _ hS));refine jt ⟨?_⟩;refine hS.al ?_;intro b6 w3 _ hS;(repeat(refine jt ⟨?_⟩;refine hS.q ?_;intro _ hS));refine jt ⟨?_⟩
   refine AL.draw AK mixed (λw'=>St w T0 ((b6,.cells ⟨[.int .i64 fl.1,.int .i64 fl.2]⟩ BE (0,0))::(Lx++(Lc++(Ly++L)))) w') [10,11] [0,1,2,3,4,5,6,7,8,9,10,11] AD hS.drew ?_;have hS:=hS.drew;refine jr ⟨?_⟩;refine CM (λw' h=>(htp w' (h.part (L:=L))).1) ?_;refine jr ⟨?_⟩;refine IT AK Bq.i64 rfl rfl Eo rfl (kvs:=ks) (λw' hw'=>⟨et,ct,(htp w' (hw'.part (L:=L))).2.1,hks.of⟩) ?_;simp only[htb,kD,FD];refine jr ⟨?_⟩
   obtain⟨tb2,htb2,aT,cT,nbT,hTR⟩:=(htp _ (hS.part (L:=L))).2.2 _ _ hl;rw[htb]at htb2;cases htb2;refine Cl.mono (Yu hTR (by have:=htf.len;omega)) ?_;rintro _ w4⟨a2,c2,L2,rfl,hv2,hS'⟩;have hS:=hS.callNew hS';refine Ae.mk (hS.sub (Ah _ _)) ?_;have hll:=htf.len;have hLs2:=hLs.snoc hv2;rw[←hsucc]at hLs2;refine jr ⟨?_⟩;refine hS.al ?_;intro b41 w5 _ hS;refine Ae.mk (hS.sub (.cons _ (Ah _ _))) ?_;refine jr ⟨?_⟩
   refine St.app (sz:=1) (m:=1) AK rfl rfl rfl rfl hS hV (news:=[.slice a2 l.length c2]) rfl (by have:=hS.arr (b:=b41) (T':=[]) AB;exact this) rfl (by show(_+_)*24≤_;omega) AA ?_;intro a3 c3 Lx2 w6 hV3 hS;refine jr ⟨?_⟩;(repeat(refine jt ⟨?_⟩;refine hS.q ?_;intro _ hS));refine jt ⟨?_⟩;refine hS.al ?_;intro b46 w7 _ hS;(repeat(refine jt ⟨?_⟩;refine hS.q ?_;intro _ hS));refine jt ⟨?_⟩;refine St.app (sz:=1) (m:=1) AK rfl rfl rfl rfl hS hVg (news:=[AY fl.2]) rfl (by have:=hS.arr (b:=b46) (T':=[]) AB;exact this) rfl (by show(_+_)*8≤_;omega) AA ?_
   intro ag2 cg2 Ly2 w8 hVg2 hS;(repeat(refine jt ⟨?_⟩;refine hS.q ?_;intro _ hS));refine jt ⟨?_⟩;have hS:=hS.sub (.cons _ (.cons _ ((List.Sublist.refl L2).append (AS _ _))));exact⟨⟨k+1,a3,c3,ag2,cg2⟩,⟨rfl,rfl,rfl,rfl,rfl,rfl,rfl,trivial⟩,⟨hkl,_,Lx2,_,Ly2,hV3,hLs2,by rw[hsucc2];exact hVg2,St.perm hS (cE Lx2 Lc L2 Ly2 L)⟩,by simp only;omega⟩
  ·have hke:k=s.v.files.length:=AA;subst hke;rw[Bz]at hLs hVg;have hfl:(s.v.files.map λfl=>Ce s.tabs fl.2).length=s.v.files.length:=AB;have hgl:(s.v.files.map (·.2)).length=s.v.files.length:=AB;have hLI: ∀{w:World},Holds Lc w→EC w xs (s.v.files.map λfl=>Ce s.tabs fl.2):=λh=>hLs.at h;obtain⟨sq,es,c,hsqM,hsp⟩:=hO.seqP;(repeat(refine jt ⟨?_⟩;refine hS.q ?_;intro _ hS));refine jt ⟨?_⟩;refine Eb (hsp _ (hS.part (L:=L))).1 ?_
   (repeat(refine jt ⟨?_⟩;refine hS.q ?_;intro _ hS));refine jt ⟨?_⟩;refine Cl.mono aM ?_;rintro _ w3⟨b1,rfl,hS'⟩;have hS:=hS.callNew hS';(repeat(refine jt ⟨?_⟩;refine hS.q ?_;intro _ hS));refine jt ⟨?_⟩;refine Cl.mono (Yz hsqM (hsp _ (hS.part (L:=L))).2 (hS.cell (b:=b1) (off:=0) rfl) hC.seqs) ?_;rintro _ w4⟨dn,hdp,asn,csn,Ls,rfl,hvs,hS'⟩;have hS:=hS.callNew hS';have hseen:(dn.map (·.2)).Perm (Hy s):=hdp.map _
   have hdl:=hdp.length_eq;have hdl2:=hC.seqs;have hsl:(dn.map (·.2)).length=dn.length:=AB;have hS:St w T0 (Ls++(Lx++(Lc++(Ly++L)))) w4:=hS.sub ((List.Sublist.refl Ls).append (Ah [(b1,_)] _));have hmg:=λ(w:World)(h1:Arr w [] a9 xs)(h2:EC w xs (s.v.files.map λfl=>Ce s.tabs fl.2))=>NY (c:=c9) h1 h2 AA (by have:=hpm.length_eq;omega) (hone.perm hpm.symm);have htrm:=λ(w:World)(a:Option Addr)(c:Nat)(l:List AF)(h1:Arr w [] a (l.flatMap AU))(h2:l.length≤c)(h3:l.length≤16777216)(h4:C1 l)(h5:Arr w [] asn ((dn.map (·.2)).map AY))=>aJ (d:=csn) h1 h2 h3 h4 h5 AA
   simp only[hfl]at hmg;simp only[hsl]at htrm;(repeat(refine jt ⟨?_⟩;refine hS.q ?_;intro _ hS));refine jt ⟨?_⟩;refine AL.draw AK mixed (λw'=>St w T0 (Ls++(Lx++(Lc++(Ly++L)))) w') [10,11,12,13,14,15,16,17] [0,1,2,3,4,5,6,8,7,9,10,11,12,13,14,15,16,17] AD hS.drew ?_;have hS:=hS.drew;refine jr ⟨?_⟩;refine CM (λw' h=>hO.nextC (h.part (L:=L))) ?_;refine jr ⟨?_⟩;refine Cl.mono (hmg _ (hV.arr hS AB) (hLs.at (hS.part (L:=Lc)))) ?_
   rintro _ w5⟨r,ar,cr,Lr,hrp,hrr,rfl,hvr,hS'⟩;have hS:=hS.callNew hS';refine Ae.mk (hS.sub (Ah _ _)) ?_;have hrp1:=hrp.trans hpm;have hrl:=hrp1.length_eq;refine jr ⟨?_⟩;refine Cl.mono (htrm _ ar cr r (hvr.arr hS AB) hvr.cap AA (hone.perm hrp1.symm) (hvs.arr hS AB)) ?_;rintro _ w6⟨r2,a2,c2,L2,hrp2,hrr2,rfl,hv2,hS'⟩;have hS:=hS.callNew hS';have hS:=hS.sub ((List.Sublist.refl L2).append (Ah Lr _));refine Ae.mk (hS.sub (Ah _ _)) ?_
   have hrp3:=hrp2.trans hrp1;have hME:=hC.mem hrp3 hrr2 (dn.map (·.2));have hfin:MA sb f s m w T0 (BD (dn.map (·.2)) r2):=MA.of hrp3 hrr2 hseen;have hFM2:=hFM (BD (dn.map (·.2)) r2);clear hFM;generalize BD (dn.map (·.2)) r2=es at hME hfin hFM2 hv2 hS⊢;have hen:=hME.num;have hpc:=I5 64 es AA;refine jr ⟨?_⟩;have hG1:Bp _ (keys L):=(hG.step hS).sub λb hb=>by unfold keys at hb⊢;simp only[A7,Bl];exact .inr (.inr (.inr (.inr (.inr hb))))
   refine Cl.mono (hO.lay (hS.part (L:=L)) hG1 1 s.v.next AA (hv2.arr hS (T':=keys L) hS.disj) hv2.cap AA hME.tab hW.ft.fb AA) ?_;have hF1:=hW.ft.lay (T:=T) ⟨by have:=hW.lo;omega,by have:=hW.hi;omega⟩ (AR 64 es) s.v.next hME.tab;rintro _ w7(⟨h1,rfl,L3,hO3,hS'⟩|⟨h1,a3,c3,Lf,tm3,et3,ct3,ks3,Lt,L3,rfl,hvf3,hmc,hto,hO3,hS'⟩)
   ·have hS:=hS.call (L:=L) hS';have hM: ∀mk,DG s m es mk=_:=λmk=>(hFM2 mk).trans (if_pos h1);generalize Bi m s.v.next (AR 64 es)=ly at h1 hO3 hM⊢;(repeat(refine jt ⟨?_⟩;refine hS.q ?_;intro _ hS));refine jt ⟨?_⟩;refine hfin _ _ L3 _ _ (.refl _) (hM _) rfl hO3 (hS.sub ?_);exact(Ah Ly _).trans ((Ah Lc _).trans ((Ah Lx _).trans ((Ah Ls _).trans (Ah L2 _))))
   ·have hS:=hS.call (L:=L) hS';have hM: ∀mk,DG s m es mk=_:=λmk=>(hFM2 mk).trans (if_neg (λh=>h h1));clear hFM2;generalize Bi m s.v.next (AR 64 es)=ly at h1 hO3 hM hF1⊢;obtain⟨e1,m1⟩:=ly;simp only at h1 hO3 hM hF1;subst h1;have hfl3:=Ju 1 (Ar s.v.next (AR 64 es));rw[Jb]at hfl3;simp only[←hfl3]at hM;have hfo:=Ko 1 (AR 64 es) s.v.next;generalize hmd:Ar s.v.next (AR 64 es)=made at hvf3 hto hM hfl3 hfo hfin⊢
    generalize hfs:Bx 1 made=fs at hvf3 hM hfl3 hfo⊢;have hS:=hS.sub ((Ah Lc _).trans ((Ah Lx _).trans ((Ah Ls _).trans (Ah L2 _))));obtain⟨gone,hgone⟩: ∃gone,s.v.files.map (·.2)=gone:=⟨_,rfl⟩;have hgr: ∀n∈gone,0≤n∧n≤2305843009213693952:=λn hn=>by
     rw[←hgone]at hn;obtain⟨fl,hfl,rfl⟩:=BV.1 hn;have h1:=hW.gv.good.files.1 fl hfl;have h2:=Hw.1 h1.1;omega
    rw[hgone]at hgl hVg;simp only[hgone]at hM;(repeat(refine jt ⟨?_⟩;refine hS.q ?_;intro _ hS));refine jt ⟨?_⟩;rw[←hgl]at hVg⊢;have hvn0:=hgl;refine AL.draw AK mixed (λw'=>St w T0 (Ly++((tm3,.map et3 ct3)::(Lf++(Lt++L3)))) w') [23,24] [0,1,2,3,4,5,6,7,8,9,10,11,12,13,14,15,16,17,18,19,20,21,22,23,24] AD hS.drew ?_;have hS:=hS.drew;refine jr ⟨?_⟩;refine CM (λw' h=>hO3.walC (h.part (L:=L3))) ?_;refine jr ⟨?_⟩
    refine CM (λw' h=>hO3.nextC (h.part (L:=L3))) ?_;refine jr ⟨?_⟩;refine CM (λw' h=>hO3.vseqC (h.part (L:=L3))) ?_;refine jr ⟨?_⟩;have hS:=St.perm hS (cF _ Ly Lf _);obtain⟨g,hg,hgn⟩:=hW.list;have hTl:=hW.lo;have hTh:=hW.hi;have hvs2:=hW.gv.seq;have hef:=Ki hW.gv (e:=⟨fs,gone,s.v.wal,s.v.next+fs.length,s.v.seq⟩) (by show s.v.files.length+fs.length≤_;omega) (by show s.v.wal≤_;omega) (by show s.v.next+(fs.length:Int)≤_;omega) (by show s.v.seq≤_;omega)
    have hok:ER ⟨fs,gone,s.v.wal,s.v.next+fs.length,s.v.seq⟩:=⟨λfl hf=>by
     have:=hfo fl hf;exact⟨Dm AA,Dm AA⟩,λn hn=>Dm (by have:=hgr n hn;omega),Dm (by show 0≤s.v.wal∧s.v.wal≤_;omega),Dm (by show 0≤s.v.next+(fs.length:Int)∧s.v.next+(fs.length:Int)≤_;omega),Dm (by show 0≤s.v.seq∧s.v.seq≤_;omega)⟩
    have hG2:Bp _ (keys ((tm3,.map et3 ct3)::(Lt++L3))):=(hG.step hS).sub λb hb=>by unfold keys at hb⊢;rw[A7,A7];exact FC _ (FC _ hb)
    refine Cl.mono (TL (e:=⟨fs,gone,s.v.wal,s.v.next+fs.length,s.v.seq⟩) hO3 hmc hto (hS.part (L:=(tm3,.map et3 ct3)::(Lt++L3))) hG2 (hvf3.arr hS (T':=keys ((tm3,.map et3 ct3)::(Lt++L3))) hS.disj) hvf3.cap
     (hVg.arr hS (T':=keys ((tm3,.map et3 ct3)::(Lt++L3))) (hS.sub (Ah _ _)).disj) hVg.cap (by show fs.length+gone.length≤_;omega)
     (by show-9223372036854775808≤s.v.wal∧s.v.wal≤_∧ -9223372036854775808≤s.v.next+(fs.length:Int)∧s.v.next+(fs.length:Int)≤_∧_≤s.v.seq∧s.v.seq≤_;omega) hok
     (λnx hnx=>by
      obtain⟨h1,h2⟩:=hef nx hnx;obtain⟨h3,h4,h5,h6⟩:=h1.next_fine h2;exact⟨h3,h4,AA,h6⟩) hg AA (by show s.v.files.length+fs.length≤_;omega) hF1.fb AA) ?_
    rintro _ w8⟨mk,hmk,rfl,L4,hO4,hS'⟩;have hS:=(hS.call (L:=(tm3,.map et3 ct3)::(Lt++L3)) hS').sub (Ah _ _);have hF2:=hF1.edit s ⟨fs,gone,s.v.wal,s.v.next+fs.length,s.v.seq⟩ mk (λnx hnx=>by
      obtain⟨h1,h2⟩:=hef nx hnx;obtain⟨h3,h4,h5,h6⟩:=h1.next_fine h2;have:=(Fr (n:=nx.next) ⟨AA,AA⟩).2.2;exact⟨by rw[Ds];omega,AA⟩) AA
    have hM:=hM mk;generalize DY s m1 ⟨fs,gone,s.v.wal,s.v.next+fs.length,s.v.seq⟩ mk=q at hO4 hM hF2⊢;obtain⟨e2,s2,m2⟩:=q;simp only at hO4 hM hF2⊢;by_cases he2:e2=0
    ·subst he2;rw[if_neg AB]at hM;(repeat(refine jt ⟨?_⟩;refine hS.q ?_;intro _ hS));refine jt ⟨?_⟩;refine AL.loop (λk:Nat=>[(0,ptr sb),(101,.slice ag gone.length cg),(102,.int .i64 gone.length),(103,.int .i64 k)])
      (λk w'=>k≤gone.length∧ ∃mi L5,delAll (gone.map Aw) m2=delAll ((gone.map Aw).drop k) mi∧FB (A+3*(AR 64 es).length+7+k) mi∧AW sb f s2 mi L5∧St w T0 (Ly++L5) w') (λk=>gone.length-k) 0
      ⟨rfl,rfl,rfl,rfl,trivial⟩ ⟨Ag _,m2,L4,by rw[List.drop_zero],hF2.fb,hO4,hS⟩ ?_
     clear hS hS';rintro k w9⟨hk,mi,L5,hdl5,hBi,hO5,hS⟩;by_cases hkl:k<gone.length
     ·obtain⟨gg,tg,rfl, -, -, -,rfl⟩: ∃g l',ag=some ⟨g,0,none⟩∧(gone.map AY).length=gone.length*1∧(gone.map AY).length+l'.length=cg*1∧gone.length≤cg∧Ly=[(g,.cells ⟨gone.map AY++l'⟩ BP (0,0))]:=by
       rcases hVg.inv with⟨_,h,_⟩|h
       ·omega
       ·exact h
      have hget:(gone.map AY++tg)[k]?=some (AY gone[k]):=by
       rw[Cn (by rw[BM];exact hkl)];simp[hkl]
      have hstep:=cS hdl5 (by simpa using hkl);rw[G5]at hstep;have hnr:=hgr _ (Ca hkl);generalize gone[k]=n at hget hstep hnr;(repeat(refine jt ⟨?_⟩;refine hS.q ?_;intro _ hS));refine jt ⟨?_⟩;refine hS.ld (v:=AY n) (by rw[show 0+(k:Int).toNat*1=k by omega];exact hget) ?_;(repeat(refine jt ⟨?_⟩;refine hS.q ?_;intro _ hS));refine jt ⟨?_⟩;refine AL.draw AK mixed (λw'=>St w T0 ([(gg,.cells ⟨gone.map AY++tg⟩ BP (0,0))]++L5) w') [6,7] [0,1,2,3,4,5,6,7] AD hS.drew ?_
      have hS:=hS.drew;refine jr ⟨?_⟩;refine CM (λw' h=>hO5.fC (h.part (L:=L5))) ?_;refine jr ⟨?_⟩;refine Cl.mono (Ps (n:=n) ⟨AA,AA⟩ (hG.keep hS).tab) ?_;rintro _ w10⟨rfl,hS'⟩;have hS:=hS.call0 hS';refine Ae.mk hS ?_;refine jr ⟨?_⟩;refine Cl.mono (hO5.delete (hS.part (L:=L5)) (Aw n) hBi AA) ?_;rintro _ w11⟨rfl,L6,hO6,hS'⟩;have hS:=hS.call (L:=L5) hS';have hB6:=hBi.del (Aw n);generalize BA mi (Aw n)=dm at hO6 hB6 hstep⊢
      obtain⟨e6,m6⟩:=dm;simp only at hO6 hB6 hstep⊢;by_cases he6:e6=0
      ·subst he6;rw[if_neg AB]at hstep;(repeat(refine jt ⟨?_⟩;refine hS.q ?_;intro _ hS));refine jt ⟨?_⟩;exact⟨k+1,⟨rfl,rfl,rfl,rfl,trivial⟩,⟨hkl,m6,L6,hstep,hB6,hO6,hS⟩,AA⟩
      ·rw[if_pos he6]at hstep;rw[hstep]at hM;(repeat(refine jt ⟨?_⟩;refine hS.q ?_;intro _ hS));refine jt ⟨?_⟩;exact hfin mk _ L6 _ _ (by rw[hmd];exact hmk) hM rfl hO6 (hS.sub (Ah _ _))
     ·have hke:k=gone.length:=AA;subst hke;have hd0:(gone.map Aw).drop gone.length=[]:=List.drop_of_length_le AB;rw[hd0]at hdl5;rw[hdl5]at hM;(repeat(refine jt ⟨?_⟩;refine hS.q ?_;intro _ hS));refine jt ⟨?_⟩;exact hfin mk _ L5 _ _ (by rw[hmd];exact hmk) hM rfl hO5 (hS.sub (Ah _ _))
    ·rw[if_pos he2]at hM;(repeat(refine jt ⟨?_⟩;refine hS.q ?_;intro _ hS));refine jt ⟨?_⟩;exact hfin mk _ L4 _ _ (by rw[hmd];exact hmk) hM rfl hO4 (hS.sub (Ah _ _))
theorem _root_.Go.Eng.Arr.stay{w w':World}{T:List Nat}{H L:AH}{F:AH→AH}{a:Option Addr}{xs:List Value}(ha:Arr w T a xs)(hS:St w T H w') [hc:Chunk H L F]:Arr w' (keys L) a xs:=λj x hx=>by
 obtain⟨b,off,h1,h2,h3⟩:=ha j x hx;exact⟨b,off,h1,hS.notin (World.block_lt_of_cell? w ⟨b,off+j,none⟩ h3) h2,hS.oldCell (a:=⟨b,off+j,none⟩) h2 h3⟩
theorem rD(s:AM)(m:AJ)(mk:List (Int×List AF)): ∃l v t g mm a,(By s m mk).2.1={s with list:=l,v:=v,tabs:=t,log:=g,mem:=mm,adds:=a}:=by
 unfold By;simp only
 split
 ·exact⟨s.list,s.v,s.tabs,s.log,s.mem,s.adds,rfl⟩
 split
 ·exact⟨s.list,s.v,s.tabs,s.log,s.mem,s.adds,rfl⟩
 obtain⟨l,v,t,h⟩:=UU s (Bi m s.v.next (AR 64 s.mem)).2 ⟨Bx 0 (Ar s.v.next (AR 64 s.mem)),[],s.v.next+(AR 64 s.mem).length,s.v.next+(AR 64 s.mem).length+1,s.seq⟩ mk;generalize DY s (Bi m s.v.next (AR 64 s.mem)).2 ⟨Bx 0 (Ar s.v.next (AR 64 s.mem)),[],s.v.next+(AR 64 s.mem).length,s.v.next+(AR 64 s.mem).length+1,s.seq⟩ mk=q at h⊢;obtain⟨e,s2,m2⟩:=q;simp only at h⊢;subst h
 split
 ·exact⟨l,v,t,s.log,s.mem,s.adds,rfl⟩
 split
 ·exact⟨l,v,t,none,[],0,rfl⟩
 ·exact⟨l,v,t,_,[],0,rfl⟩
theorem AW.upperP{w:World}{sb f:Nat}{s:AM}{m:AJ}{L:AH}(hO:AW sb f s m L)(hh:Holds L w)(hn:s.v.files.length≤16777216):Cl Tryz.prog U8 [ptr sb] w λv w'=>v= .int .i64 (SX s)∧St w (keys L) L w':=aD hO hh hn
def Gu(s:AM)(g:BF)(ops:List Ac):AM:={s with log:=some g,seq:=s.seq+1,mem:=Cy (s.seq+1) ops s.mem,adds:=s.adds+ops.length}
inductive H3(s:AM)(m:AJ):AM→AJ→Prop where
 |no (h: ¬s.memMax≤s.mem.length):H3 s m s m
 |fl (mk:List (Int×List AF)) (hp:mk.Perm (Ar s.v.next (AR 64 s.mem))) (h:s.memMax≤s.mem.length):H3 s m (By s m mk).2.1 (By s m mk).2.2
 |co (mk:List (Int×List AF)) (hp:mk.Perm (Ar s.v.next (AR 64 s.mem))) (h:s.memMax≤s.mem.length) (s1:AM) (m1:AJ) (h0:By s m mk=(0,s1,m1)) (r:List AF) (seen:List Int) (mk2:List (Int×List AF)) (h1:r.Perm (D1 s1)) (h2:Az r) (h3:seen.Perm (Hy s1))
   (h4:mk2.Perm (Ar s1.v.next (AR 64 (BD seen r)))):H3 s m (DG s1 m1 (BD seen r) mk2).2.1 (DG s1 m1 (BD seen r) mk2).2.2
inductive IC(s:AM)(m:AJ)(ops:List Ac):Int→AM→AJ→Prop where
 |down (h:C5 s m=true):IC s m ops 7 (Kf s) m
 |long (h:C5 s m=false) (h1:4096<Ap ops):IC s m ops 2 s m
 |none (h:C5 s m=false) (h1:ops=[]):IC s m ops 0 s m
 |bad (h:C5 s m=false) (h1:Ap ops≤4096) (h2:ops≠[]) (g g':BF) (m1:AJ) (e:Int) (hg:s.log=some g) (ha:appL m g [B0 (s.seq+1) ops]=(e,g',m1)) (he:e≠0):IC s m ops (Dj {s with log:=some g'} m1 e).1 (Dj {s with log:=some g'} m1 e).2 m1
 |ok (h:C5 s m=false) (h1:Ap ops≤4096) (h2:ops≠[]) (g g':BF) (m1:AJ) (hg:s.log=some g) (ha:appL m g [B0 (s.seq+1) ops]=(0,g',m1)) (s2:AM) (m2:AJ) (hf:H3 (Gu s g' ops) m1 s2 m2):IC s m ops (Dj s2 m2 0).1 (Dj s2 m2 0).2 m2
def NT(s:AM)(m:AJ):Prop:=∃A T,Ik A T s m∧ ∀mk,mk.Perm (Ar s.v.next (AR 64 s.mem))→(By s m mk).2.1.v.files.length≤16777216∧((By s m mk).1=0→ ∃A2 T2,Ik A2 T2 (By s m mk).2.1 (By s m mk).2.2∧Ka (By s m mk).2.1)
def aQ(sb f:Nat)(s:AM)(m:AJ)(ops:List Ac)(w:World)(T0:List Nat)(v:Value)(w':World):Prop:=∃e s' m' L',IC s m ops e s' m'∧v= .int .i64 e∧AW sb f s' m' L'∧St w T0 L' w'
def Su(sb f:Nat)(s:AM)(m:AJ)(w:World)(T0:List Nat)(w':World):Prop:=∃s' m' L',H3 s m s' m'∧AW sb f s' m' L'∧St w T0 L' w'
set_option maxRecDepth 8000 in
theorem Pg{w:World}{sb f A T:Nat}{s:AM}{m:AJ}{L:AH}(hO:AW sb f s m L)(hh:Holds L w)(hG:Bp w (keys L)){a:Option Addr}{c:Nat}{ops:List Ac}(ha:Arr w (keys L) a (ops.flatMap A8))(hl:Ap ops≤1099511627776)(hF:FT A T m)(hA:A≤2305843009213693952)(hT2:T+1048576≤1099511627776)
  {g:BF}(hg:s.log=some g)(hgn:g.n≤2305843009213693952)(hr:Az s.mem)(hmz:An s.mem≤549755813888)(hml:s.mem.length≤4194304)(had:s.adds≤2305843009213693952)(hsq:0≤s.seq∧s.seq≤1152921504606846976)
  (hok: ∀g' m1,Ap ops≤4096→ops≠[]→C5 s m=false→appL m g [B0 (s.seq+1) ops]=(0,g',m1)→NT (Gu s g' ops) m1):
  Cl Tryz.prog OG [ptr sb,.slice a ops.length c] w λv w'=>aQ sb f s m ops w (keys L) v w':=by
 have hS:=St.enter hh;have hcnt:=KI ops;generalize hT:keys L=T0 at hS hG ha⊢;refine iJ rfl ?_;refine jq ⟨?_⟩;refine Cl.mono (H8 hO hS.holds) ?_;rintro _ w1⟨rfl,hS'⟩;have hS:=hS.call (L:=L) hS';cases hd:(s.dead||m.off)with
 |true=>
  refine jq ⟨?_⟩;refine Cl.mono (He hO hS.holds 7) ?_;rw[Kh hd];rintro _ w2⟨rfl,L2,hO2,hS'⟩;have hS:=hS.call (L:=L) hS';refine jq ⟨?_⟩;exact⟨7,_,_,L2,.down hd,rfl,hO2,hS⟩
 |false=>
  refine jq ⟨?_⟩;refine Cl.mono (aA ((hS.arrOld ha).sub AB) hl AA) ?_;rintro _ w2⟨rfl,hS'⟩;have hS:=hS.call0 hS';by_cases hlong:4096<Ap ops
  ·refine jq ⟨?_⟩;exact⟨2,_,_,L,.long hd hlong,rfl,hO,hS⟩
  ·by_cases he:ops=[]
   ·have hl0:ops.length=0:=by rw[he];rfl
    refine jq ⟨?_⟩;exact⟨0,_,_,L,.none hd he,rfl,hO,hS⟩
   ·have hl0:0<ops.length:=J5.2 he;have hpl:=M8 (s.seq+1) ops ⟨AA,AA⟩ hl;refine jq ⟨?_⟩;obtain⟨bl,R,LF, -, -,hc11, -⟩:=hO.lg hg;refine AL.draw AK mixed (λw'=>St w T0 L w') [12,13] [0,1,2,3,4,5,6,7,8,9,10,11,12,13] AD hS.drew ?_;have hS:=hS.drew;refine jr ⟨?_⟩;refine CM (λw' h=>hc11 _ h.holds) ?_;refine jr ⟨?_⟩;refine CM (λw' h=>hO.seqC h.holds) ?_;refine jr ⟨?_⟩;refine Cl.mono (Z7 (seq:=s.seq+1) ((hS.arrOld ha).sub AB) ⟨AA,AA⟩ hl) ?_
    rintro _ w3⟨rfl,hS'⟩;have hS:=hS.call0 hS';refine Ae.mk hS ?_;refine jr ⟨?_⟩;refine hS.al ?_;intro b30 w4 _ hS;refine Ae.mk (hS.sub (AS _ _)) ?_;refine jr ⟨?_⟩;have hfg:=hF.get g.name;obtain⟨bl',hc',hcl⟩:=hO.append (hS.part (L:=L)) hg (cap:=1) (ps:=[B0 (s.seq+1) ops]) (hS.arr (b:=b30) (Cp hS)) (by simp only[BG,A4,kC,HL,List.sum_nil,Ai,Bo];omega) (by simp only[Ai,Bo];omega) hF.fb AA;obtain rfl:bl=bl':=by
     have h1:=hc11 _ (hS.part (L:=L));rw[hc' _ (hS.part (L:=L))]at h1;simp only[Option.some.injEq,Value.pointer.injEq,Addr.mk.injEq,and_true]at h1;exact h1.symm
    refine Cl.mono hcl ?_;rintro _ w5⟨rfl,L1,hO1,hS'⟩;have hS:=(hS.call (L:=L) hS').sub (AS _ _);have hok2:=λg' m1=>hok g' m1 AA he hd;have hbad:=λg' m1 e=>IC.bad (s:=s) (m:=m) (ops:=ops) hd AA he g g' m1 e hg;have hgood:=λg' m1=>IC.ok (s:=s) (m:=m) (ops:=ops) hd AA he g g' m1 hg;generalize appL m g [B0 (s.seq+1) ops]=q at hO1 hok2 hbad hgood⊢;obtain⟨e1,g1,m1⟩:=q;simp only at hO1⊢;by_cases he1:e1=0
    ·subst he1;have hok3:=hok2 g1 m1 rfl;have hgood2:=hgood g1 m1 rfl;clear hok2 hbad hgood hok;have hfl: ∀w',Su sb f (Gu s g1 ops) m1 w T0 w'→ ∃s2 m2 L2,H3 (Gu s g1 ops) m1 s2 m2∧AW sb f s2 m2 L2∧St w T0 L2 w':=λw' h=>h;obtain⟨sq,es,cq,hsqM,ha1,hc1,Lh,hvh,a2,ca,La,hv,lv,Ll,hl2,gv,Lg,hgp,mb,Lm,hm,tm,et,ct,ks,ht,Lt,hts,LF,hFs⟩:=hO1;simp only at hS hm hts hFs hl2 hgp hv hvh hsqM ht;(repeat(refine jt ⟨?_⟩;refine hS.q ?_;intro _ hS));refine jt ⟨?_⟩
     have hex: ∃L2,AW sb f {s with log:=some g1,seq:=s.seq+1} m1 L2∧St w T0 L2 _:=⟨_,AW.mk (sb:=sb) (s:={s with log:=some g1,seq:=s.seq+1}) sq es cq hsqM ha1 hc1 Lh hvh a2 ca La hv lv Ll hl2 gv Lg hgp mb Lm hm tm et ct ks ht Lt hts LF hFs,hS⟩;clear hS hS';obtain⟨L2,hO2,hS⟩:=hex;refine Cl.mono (TS hO2 hS.holds (s.seq+1) (ops:=ops) (ha.stay hS) hr (by show An s.mem+_≤_;omega) (by show s.mem.length+_≤_;omega) (by show s.adds+_≤_;omega)) ?_
     rintro _ w6⟨L3,hO3,hS'⟩;have hS:=hS.call (L:=L2) hS';have hO3:AW sb f (Gu s g1 ops) m1 L3:=hO3;generalize Gu s g1 ops=s3 at hO3 hok3 hgood2 hfl;clear hO2 hS';obtain⟨mb3,Lm3,hM3,hcm3,hcl3⟩:=hO3.memP;obtain⟨A3,T3,hW3,hW4⟩:=hok3;have hmn3:=hW3.mem.num;clear hfl;refine AL.join (λ_:Unit=>[(0,ptr sb)]) (λ_ w'=>Su sb f s3 m1 w T0 w') ?_ ?_
     ·refine jq ⟨?_⟩;refine AL.draw AK mixed (λw'=>St w T0 L3 w') [] [0,1,2,3,4,5,7,8,9,10,11,6,12] AD hS.drew ?_;have hS:=hS.drew;refine jr ⟨?_⟩;refine CM (λw' h=>(hcm3 _ h.holds).1) ?_;refine jr ⟨?_⟩;refine CM (λw' h=>hO3.memC h.holds) ?_;refine jr ⟨?_⟩;refine Cl.mono (S7 hM3 (hcm3 _ hS.holds).2) ?_;rintro _ w7⟨rfl,hS'⟩;have hS:=hS.call (L:=L3) (hcl3 _ _ hS.holds hS');refine Ae.mk hS ?_;refine jr ⟨?_⟩
      by_cases hmx:s3.memMax≤(s3.mem.length:Int)
      ·refine jq ⟨?_⟩;refine AL.draw AK mixed (λw'=>w'.cell? ⟨sb,4,none⟩=some (.int .i64 s3.fan)) [] [0,1,2,3,4,6,7,8,9,10,5,11,12] AD (hO3.fanC hS.drew.holds) ?_;have hS:=hS.drew;refine jr ⟨?_⟩;refine Cl.mono (Pj hO3 hS.holds (hG.step hS) hW3) ?_;rintro _ w8⟨mk,hmk,rfl,L4,hO4,hS'⟩;have hS:=hS.call (L:=L3) hS';obtain⟨l5,v5,t5,g5,mm5,a5,hfst⟩:=rD s3 m1 mk;have hfan:(By s3 m1 mk).2.1.fan=s3.fan:=by rw[hfst]
       obtain⟨hW5,hW6⟩:=hW4 mk hmk;have hfl:=H3.fl (s:=s3) (m:=m1) mk hmk hmx;have hco:=λs1 m1' h0=>H3.co (s:=s3) (m:=m1) mk hmk hmx s1 m1' h0;clear hfst;generalize By s3 m1 mk=q at hO4 hfan hW5 hW6 hfl hco⊢;obtain⟨e4,s4,m4⟩:=q;simp only at hO4 hfan hW5 hW6 hfl hco⊢;rw[←hfan];refine Ae.mk (hO4.fanC hS.holds) ?_;by_cases he4:e4=0
       ·subst he4;refine jr ⟨?_⟩;refine CM (λw' h=>h) ?_;refine jr ⟨?_⟩;refine Cl.mono (hO4.upperP hS.holds hW5) ?_;rintro _ w9⟨rfl,hS'⟩;have hS:=hS.call (L:=L4) hS';refine Ae.mk (hO4.fanC hS.holds) ?_;obtain⟨A5,T5,hW7,hC7⟩:=hW6 rfl;by_cases hup:s4.fan<(SX s4:Int)
        ·refine jr ⟨?_⟩;refine jq ⟨?_⟩;refine Cl.mono (TH hO4 hS.holds (hG.step hS) hW7 hC7) ?_;rintro _ w10⟨r,seen,mk2,h1,h2,h3,h4,rfl,L5,hO5,hS'⟩;have hS:=hS.call (L:=L4) hS';refine jq ⟨?_⟩;exact⟨(),⟨rfl,trivial⟩,_,_,L5,hco s4 m4 rfl r seen mk2 h1 h2 h3 h4,hO5,hS⟩
        ·refine jr ⟨?_⟩;refine jq ⟨?_⟩;exact⟨(),⟨rfl,trivial⟩,_,_,L4,hfl,hO4,hS⟩
       ·refine jr ⟨?_⟩;refine jq ⟨?_⟩;exact⟨(),⟨rfl,trivial⟩,_,_,L4,hfl,hO4,hS⟩
      ·refine jq ⟨?_⟩;exact⟨(),⟨rfl,trivial⟩,_,_,L3,.no hmx,hO3,hS⟩
     ·clear hS;rintro _ w7⟨s4,m4,L4,hfr,hO4,hS⟩;refine jq ⟨?_⟩;refine Cl.mono (He hO4 hS.holds 0) ?_;rintro _ w8⟨rfl,L5,hO5,hS'⟩;have hS:=hS.call (L:=L4) hS';refine jq ⟨?_⟩;exact⟨_,_,_,L5,hgood2 s4 m4 hfr,rfl,hO5,hS⟩
    ·refine jq ⟨?_⟩;refine Cl.mono (He hO1 hS.holds e1) ?_;rintro _ w6⟨rfl,L2,hO2,hS'⟩;have hS:=hS.call (L:=L1) hS';refine jq ⟨?_⟩;exact⟨_,_,_,L2,hbad g1 m1 e1 rfl he1,rfl,hO2,hS⟩
end Go.Proofs.YtkgibdhpijdbfaaGreatDoor
