/- Texts of this claim, one behind the other. -/
import Derived.Test.YtkgibdhpijdbfaaGreatDoorZ14
import Derived.Test.YtkgibdhpijdbfaaGreatDoorZ18
import Derived.Test.YtkgibdhpijdbfaaGreatDoorZ19
set_option linter.unusedVariables false
set_option linter.unusedSimpArgs false
set_option maxHeartbeats 16000000
namespace Go.Proofs.YtkgibdhpijdbfaaGreatDoor
open Go Go.Eng Go.Proofs Go.Srt
theorem Gz.keep{w0 w:World}{H:AH}(hS:St w0 [] H w){a:Option Addr}{c:Nat}{v:VM}(h:Gz w0 a c v):Gz w a c v:=⟨h.files.keep hS,h.rng⟩
def TY(w:World)(a:Option Addr)(c:Nat)(v:VM)(L:AH):Prop:=(L=[]∧Gz w a c v)∨Ds a c v L
theorem TY.at{w0 w:World}{H L:AH}{F:AH→AH}{a:Option Addr}{c:Nat}{v:VM}(h:TY w0 a c v L)(hS:St w0 [] H w) [hc:Chunk H L F]:Gz w a c v:=by
 rcases h with⟨-,h⟩|h
 ·exact h.keep hS
 ·exact h.at hS
theorem Py(v:VM)(e:EM):Il (FR v) [e]=BN v e:=by
 unfold Il;rw[bH];cases BN v e<;>rfl
def Um(A:Option VM):Int:=match A with
 |none=>11
 |some _=>0
theorem Ds.zero:Ds none 0 Cs []:=⟨AT.nil,AC⟩
theorem PT.out{A:Option VM}{r:Value}{w w':World}(h:PT A r w w'): ∃a' c' L,r= .tuple ⟨[.agg ⟨C8 a' c' (A.getD Cs)⟩,.int .i64 (Um A)]⟩∧Ds a' c' (A.getD Cs) L∧St w [] L w':=by
 cases A with
 |none=>obtain⟨h1,h2⟩:=h;exact⟨_,_,[],h1,Ds.zero,h2⟩
 |some v=>exact h
def En(v:VM):EM:=⟨v.files,[],v.wal,v.next,v.seq⟩
def Gb(next:Int)(fs:List Af):Prop:=(∀f∈fs,HQ f=true∧f.2<next)∧(fs.map (·.2)).Nodup
structure Good(v:VM):Prop where
 files:Gb v.next v.files
 nn:0≤v.wal∧0≤v.next∧0≤v.seq
 so:FR v=v
theorem Good.zero:Good Cs:=⟨⟨by simp[Cs],by simp[Cs]⟩,AC,rfl⟩
theorem Q4(fs:List Af)(n:Int):Dw fs n=true↔n∈fs.map (·.2):=by
 unfold Dw;rw[List.any_eq_true,BU];simp only[beq_iff_eq]
theorem Gb.snoc{next:Int}{fs:List Af}{f:Af}(h:Gb next fs)(h1:HQ f=true)(h2:f.2<next)(h3:Dw fs f.2=false):Gb next (fs++[f]):=by
 refine⟨λg hg=>?_,?_⟩
 ·rcases Bk.1 hg with hg|hg
  ·exact h.1 g hg
  ·rw[Cm]at hg;subst hg;exact⟨h1,h2⟩
 ·rw[A7,F8];refine⟨h.2,AB,λa ha b hb=>?_⟩;rw[List.map_singleton,Cm]at hb;subst hb;intro e;subst e;have:=(Q4 fs f.2).2 ha;rw[h3]at this;cases this
theorem Ta{next:Int}: ∀{r fs a:List Af},EK next fs r=some a→Gb next fs→(∀f∈r,HQ f=true)→Gb next a
 |[],fs,a,h,hg,_=>by cases h;exact hg
 |f::r,fs,a,h,hg,hr=>by
  unfold EK at h
  split at h
  ·cases h
  ·next hc=>
   have h3:Dw fs f.2=false:=by
    cases e:Dw fs f.2 with
    |false=>rfl
    |true=>exact absurd (.inr e) hc
   have h2:f.2<next:=by
    rcases Int.lt_or_le f.2 next with h|h
    ·exact h
    ·exact absurd (.inl h) hc
   exact Ta h (hg.snoc (hr f AB) h2 h3) λg hgr=>hr g (by simp[hgr])
theorem Pv{next:Int}: ∀(r fs:List Af),Gb next (fs++r)→EK next fs r=some (fs++r)
 |[],fs,_=>by simp[EK]
 |f::r,fs,h=>by
  unfold EK;have h2:=(h.1 f AB).2;have h3: ¬Dw fs f.2=true:=by
   intro e;have h4:=(Q4 fs f.2).1 e;have h5:=h.2;rw[A7,F8]at h5;exact h5.2.2 f.2 h4 f.2 AB rfl
  rw[if_neg (by rintro(h'|h');omega;exact h3 h')];have:=Pv r (fs++[f]) (by simpa using h);simpa using this
theorem Gb.perm{next:Int}{fs gs:List Af}(h:Gb next fs)(hp:gs.Perm fs):Gb next gs:=
 ⟨λf hf=>h.1 f (hp.mem_iff.1 hf),(hp.map _).nodup_iff.2 h.2⟩
theorem Good.step{v v':VM}{e:EM}(h:Good v)(ha:BN v e=some v'):Good v':=by
 have hso:=bI ha;unfold BN at ha
 split at ha
 ·next hc=>
  rw[Bool.and_eq_true]at hc;obtain⟨hst, -⟩:=hc;unfold GF C6 at hst;simp only[Bool.and_eq_true,decide_eq_true_iff]at hst;obtain⟨⟨⟨⟨hadd, -⟩,hnn⟩,hnx⟩, -⟩:=hst;cases hal:EK e.next (Eh e v.files) e.add with
  |none=>rw[hal]at ha;cases ha
  |some a=>
   rw[hal]at ha;simp only[I1,Option.some.injEq]at ha;subst ha;have hk:Gb e.next (Eh e v.files):=by
    refine⟨λf hf=>?_,(List.filter_sublist.map _).nodup h.files.2⟩;have:=h.files.1 f ((List.mem_filter.1 hf).1);exact⟨this.1,by have:=this.2;omega⟩
   have hg:=Ta hal hk (Db.1 hadd);exact⟨hg.perm (JB a),hnn,hso⟩
 ·cases ha
def Hk(f:Af):AE:=Bg f.1++Bg f.2
def DY(l:List Af):AE:=(l.map Hk).flatten
def Al(e:EM):AE:=Ak e.add.length++DY e.add++Ak e.del.length++Ci e.del++Bg e.wal++Bg e.next++Bg e.seq
structure EQ(e:EM):Prop where
 add: ∀f∈e.add,CA f.1∧CA f.2
 del: ∀n∈e.del,CA n
 wal:CA e.wal
 next:CA e.next
 seq:CA e.seq
def Dq:Nat→RB×List Af→RB×List Af
 |0,x=>x
 |n+1,(s,l)=>if s.bad=true then(s,l)else Dq n ((BK (BK s).2).2,l++[((BK s).1,(BK (BK s).2).1)])
theorem Rm: ∀(n:Nat)(s:RB)(l:List Af),(Dq n (s,l)).1.bad=false→s.bad=false
 |0,s,l,h=>h
 |n+1,s,l,h=>by
  cases hb:s.bad with
  |false=>rfl
  |true=>unfold Dq at h;rw[if_pos hb]at h;rw[hb]at h;exact h
theorem Xe: ∀(n:Nat)(s:RB)(l:List Af),(Dq n (s,l)).1.bad=false→ ∃m,m.length=n∧(Dq n (s,l)).2=l++m∧s.t=DY m++(Dq n (s,l)).1.t∧ ∀f∈m,CA f.1∧CA f.2
 |0,s,l,h=>⟨[],rfl,(BT l).symm,rfl,AB⟩
 |n+1,s,l,h=>by
  have hb:=Rm (n+1) s l h;unfold Dq at h⊢;rw[if_neg (by rw[hb];nofun)]at h⊢;obtain⟨m,h1,h2,h3,h4⟩:=Xe n _ _ h;have hb2:=Rm n _ _ h;obtain⟨hb3,e2,r2⟩:=LU hb2;obtain⟨-,e1,r1⟩:=LU hb3;refine⟨((BK s).1,(BK (BK s).2).1)::m,by simp[h1],by rw[h2];simp,?_,?_⟩
  ·rw[e1]
   conv=>lhs;rw[e2]
   rw[h3];simp only[DY,Hk,A4,Dc,Aj]
  ·intro f hf;rcases As.1 hf with rfl|hf
   ·exact⟨r1,r2⟩
   ·exact h4 f hf
theorem Xd: ∀(m:List Af)(r:AE)(l:List Af),(∀f∈m,CA f.1∧CA f.2)→Dq m.length (⟨DY m++r,false⟩,l)=(⟨r,false⟩,l++m)
 |[],r,l,_=>by simp[Dq,DY]
 |f::m,r,l,h=>by
  have hf:=h f AB;rw[Ah];unfold Dq;rw[if_neg nofun];have e:DY (f::m)++r=Bg f.1++(Bg f.2++(DY m++r)):=by simp[DY,Hk]
  rw[e];simp only[LS _ _ hf.1,LS _ _ hf.2];rw[Xd m r _ λg hg=>h g (by simp[hg])];simp
def HV(t:AE):RB×EM:=
 match CQ ⟨t,false⟩with
 |(n,s1)=>match Dq n (s1,[])with
  |(s2,add)=>match CQ s2 with
   |(k,s3)=>match Df k (s3,[])with
    |(s4,del)=>((BK (BK (BK s4).2).2).2,⟨add,del,(BK s4).1,(BK (BK s4).2).1,(BK (BK (BK s4).2).2).1⟩)
def Fk(t:AE):Option EM:=if(HV t).1.bad=false∧(HV t).1.t=[]∧C6 (HV t).2=true then some (HV t).2 else none
theorem wI{t:AE}(h:(HV t).1.bad=false):EQ (HV t).2∧t=Al (HV t).2++(HV t).1.t:=by
 unfold HV at h⊢;simp only at h⊢;obtain⟨h1,e1,r1⟩:=LU h;obtain⟨h2,e2,r2⟩:=LU h1;obtain⟨h3,e3,r3⟩:=LU h2;obtain⟨ds,l4,q4,e4,r4⟩:=Xi _ _ _ h3;have h5:=Rq _ _ _ h3;obtain⟨h6,e5⟩:=Xc h5;obtain⟨fs7,l7,q7,e7,r7⟩:=Xe _ _ _ h6;have h8:=Rm _ _ _ h6;obtain⟨-,e9⟩:=Xc h8;rw[Ca]at q4 q7;refine⟨⟨by rw[q7];exact r7,by rw[q4];exact r4,r3,r2,r1⟩,?_⟩;unfold Al;simp only;rw[q4,q7,l4,l7];have e9':t=_:=e9
 conv=>lhs;rw[e9']
 simp only[Aj]
 congr 1
 rw[e7]
 congr 1
 rw[e5]
 congr 1
 rw[e4]
 congr 1
 rw[e3]
 congr 1
 rw[e2]
 congr 1
theorem wH{e:EM}(h:EQ e)(hl:e.add.length<18446744073709551616)(hk:e.del.length<18446744073709551616):HV (Al e)=(⟨[],false⟩,e):=by
 unfold HV Al;have s1:Ak e.add.length++DY e.add++Ak e.del.length++Ci e.del++Bg e.wal++Bg e.next++Bg e.seq=Ak e.add.length++(DY e.add++(Ak e.del.length++(Ci e.del++(Bg e.wal++(Bg e.next++(Bg e.seq++[])))))):=AB;rw[s1];simp only[Xb _ _ hl,Xd _ _ _ h.add,Xb _ _ hk,Xh _ _ _ h.del,LS _ _ h.wal,LS _ _ h.next,LS _ _ h.seq,Ca]
theorem Mc{t:AE}{e:EM}(ht:t.length<18446744073709551616):Fk t=some e↔t=Al e∧EQ e∧C6 e=true:=by
 constructor
 ·intro h;unfold Fk at h
  split at h
  ·next hc=>
   obtain⟨h1,h2,h3⟩:=hc;obtain⟨h4,h5⟩:=wI h1;rw[h2,BT]at h5;simp only[Option.some.injEq]at h;rw[h]at h3 h4 h5;exact⟨h5,h4,h3⟩
  ·cases h
 ·rintro⟨rfl,h1,h2⟩;have hfl: ∀l:List Af,l.length≤(DY l).length:=by
   intro l
   induction l with
   |nil=>exact Ag _
   |cons f l ih=>
    have:=LG (Eb f.1);simp only[DY,Hk,A4,Dc,AP,Ah,Bg]at ih⊢;omega
  have hil: ∀l:List Int,l.length≤(Ci l).length:=by
   intro l
   induction l with
   |nil=>exact Ag _
   |cons f l ih=>
    have:=LG (Eb f);simp only[Ci,A4,Dc,AP,Ah,Bg]at ih⊢;omega
  have a1:=hfl e.add;have a2:=hil e.del;have hel:(Al e).length=(Ak e.add.length).length+(DY e.add).length+(Ak e.del.length).length+(Ci e.del).length+(Bg e.wal).length+(Bg e.next).length+(Bg e.seq).length:=by
   unfold Al;simp only[AP]
  have:=wH h1 AA AA;unfold Fk;rw[this];simp[h2]
end Go.Proofs.YtkgibdhpijdbfaaGreatDoor
namespace Go.Proofs.YtkgibdhpijdbfaaGreatDoor
open Go Go.Eng Go.Proofs
theorem Km(m:AJ)(n:AE):(A9 m n).2.files.length≤m.files.length:=by
 unfold A9
 split
 ·exact AW _
 ·simp only
  split
  ·exact AW _
  ·exact(GY n m.files).length_le
theorem Tk(m:AJ)(n:AE)(ps:List AE):(BB m n ps).2.files.length≤m.files.length+1:=by
 unfold BB
 split
 ·exact D5 _
 split
 ·exact D5 _
 split
 ·exact D5 _
 split
 ·exact D5 _
 ·exact Je _ _ _
theorem YU(m:AJ)(n:AE):(CV m n).2.files.length≤m.files.length+1:=by
 unfold CV
 split
 ·exact D5 _
 ·simp only
  split
  ·exact D5 _
  ·exact Je _ _ _
theorem O4(m:AJ)(a b:AE):(Cv m a b).2.files.length≤m.files.length+1:=by
 unfold Cv
 split
 ·exact D5 _
 split
 ·exact D5 _
 ·simp only
  split
  ·exact D5 _
  ·exact Au (Je _ _ _) (Nat.succ_le_succ (GY a m.files).length_le)
theorem Ks(m:AJ)(n t:AE):(CE m n t).2.files.length≤m.files.length+2:=by
 have h1:=Km m n;have h2:=Tk (A9 m n).2 n [t];have h3:=YU (BB (A9 m n).2 n [t]).2 n;unfold CE
 split
 ·omega
 split<;>omega
theorem KP(m:AJ)(n:AE)(ps:List AE):(Cd m n ps).2.files.length≤m.files.length+2:=by
 unfold Cd
 split
 ·exact Ks m n _
 ·exact G5 _ _
theorem Ra(ps qs:List AE):Bb (ps++qs)=(Bb ps&&Bb qs):=by simp[Bb]
theorem vA(ps:List AE)(h:Bb ps=true)(i:Nat):Bb (ps.take i)=true:=by
 unfold Bb at h⊢;rw[Db]at h⊢
 exactλx hx=>h x (HJ hx)
theorem R0: ∀(b:List AE)(j:Nat),Bb b=true→ ∃i,i≤b.length∧ ∃t,(AQ b).take j=AQ (b.take i)++t∧(t=[]∨ ∃p,p.length≤65536∧t.length<p.length+8∧t=(Dm p).take t.length)
 |[],j,_=>⟨0,AW _,[],by simp[AQ],.inl rfl⟩
 |p::r,j,h=>by
  have hl:=Mp p;have e:AQ (p::r)=Dm p++AQ r:=by simp[AQ]
  simp only[Bb,List.all_cons,Bool.and_eq_true,decide_eq_true_eq]at h;by_cases hj:j<(Dm p).length
  ·refine⟨0,Ag _,(Dm p).take j,?_,.inr ⟨p,h.1,by simp;omega,AB⟩⟩;rw[e,List.take_append_of_le_length AA];simp[AQ]
  ·obtain⟨i,hi,t,h1,h2⟩:=R0 r (j-(Dm p).length) h.2;refine⟨i+1,by simp;omega,t,?_,h2⟩;rw[e,List.take_append,HL AA,h1,KD];simp[AQ]
theorem Ql(pre t:AE)(h:t=[]∨ ∃p:AE,p.length≤65536∧t.length<p.length+8∧t=(Dm p).take t.length):(B7 (pre++t) pre.length).2.2≠0:=by
 by_cases h8:t.length<8
 ·rw[Qm _ _ (by simp;omega)];simp
 ·rcases h with rfl|⟨p,hp,hl,ht⟩
  ·simp at h8
  ·unfold B7;rw[if_neg (by simp;omega),if_pos]
   ·simp
   ·right;rw[List.drop_left];have h4:Co t=p.length:=by
     rw[ht];have:(Dm p).take t.length=B6 p.length++(B6 (Fj [B6 p.length,p])++p).take (t.length-4):=by
      rw[show Dm p=B6 p.length++(B6 (Fj [B6 p.length,p])++p) by simp[Dm],List.take_append,HL (by simp[B6];omega)]
      rfl
     rw[this,RU _ _ AA]
    rw[h4];omega
theorem wZ(ps b:List AE)(hp:Bb ps=true)(hb:Bb b=true)(j:Nat): ∃i,i≤b.length∧(∃t,AQ ps++(AQ b).take j=AQ (ps++b.take i)++t)∧(DU (AQ ps++(AQ b).take j)).1=ps++b.take i∧
  (DU (AQ ps++(AQ b).take j)).2=(AQ (ps++b.take i)).length:=by
 obtain⟨i,hi,t,h1,h2⟩:=R0 b j hb;refine⟨i,hi,⟨t,by rw[h1,NK,Aj]⟩,?_⟩;have e:AQ ps++(AQ b).take j=[]++(AQ (ps++b.take i)++t):=by rw[h1,NK];simp
 have hok:Bb (ps++b.take i)=true:=by rw[Ra,hp,vA b hb];rfl
 have hc:=Ql (AQ (ps++b.take i)) t h2;rw[e];unfold DU;have h3:=Ry t 0 (ps++b.take i) [] (([]++(AQ (ps++b.take i)++t)).length+1) hok (by
  have:=Dr (ps++b.take i);simp only[Ca,AP]at this⊢;omega) (by simpa using hc)
 have h4:([]:AE).length=0:=rfl;rw[h4]at h3;rw[h3];exact⟨rfl,AB⟩
end Go.Proofs.YtkgibdhpijdbfaaGreatDoor
