/- Texts of this claim, one behind the other. -/
import Derived.Test.YtkgibdhpijdbfaaGreatDoorZ33
import Derived.Test.YtkgibdhpijdbfaaGreatDoorZ35
import Derived.Test.YtkgibdhpijdbfaaGreatDoorZ23
set_option linter.unusedVariables false
set_option linter.unusedSimpArgs false
set_option maxHeartbeats 16000000
namespace Go.Proofs.YtkgibdhpijdbfaaGreatDoor
open Go Go.Eng Go.Proofs Go.Srt
theorem QF{T:Nat}(s:AL)(list:Int): ∀(ns:List AE){A:Nat}{m:AJ},Up m→FT A T m→ns.Nodup→(∀n∈ns,(AN m n).isSome=true)→
  (DB s list ns m).1=0∧Up (DB s list ns m).2∧FT (A+ns.length) T (DB s list ns m).2∧ ∀k,AN (DB s list ns m).2 k=if k∈ns∧Cr s list k=false then none else AN m k
 |[],A,m,h,hF,_,_=>⟨rfl,h,hF,λk=>by rw[if_neg AB];rfl⟩
 |n::ns,A,m,h,hF,hnd,hall=>by
  obtain⟨hn1,hn2⟩:=Eu.1 hnd;unfold DB;cases hk:Cr s list n with
  |true=>
   rw[if_pos rfl];obtain⟨i1,i2,i3,i4⟩:=QF s list ns h hF hn2 λx hx=>hall x (by simp[hx]);refine⟨i1,i2,i3.mono (by rw[Ah];omega) (AW _),λk=>?_⟩;rw[i4];by_cases hkn:k=n
   ·subst hkn;rw[if_neg (by simp[hk]),if_neg (by simp[hk])]
   ·simp[hkn]
  |false=>
   rw[if_neg AB];obtain⟨d1,d2,d3⟩:=N6 h hF.fb.nd n;rw[hall n AB,if_pos rfl]at d1;rw[if_neg (by rw[d1];simp)];obtain⟨i1,i2,i3,i4⟩:=QF s list ns d2 (hF.del n) hn2 λx hx=>by rw[d3,if_neg (λe:x=n=>hn1 (e▸hx))];exact hall x (by simp[hx])
   refine⟨i1,i2,i3.mono (by rw[Ah];omega) (AW _),λk=>?_⟩;rw[i4,d3];by_cases hkn:k=n
   ·subst hkn;rw[if_neg (by simp[hn1]),if_pos rfl,if_pos (by simp[hk])]
   ·simp[hkn]
theorem WA{s:AL}{list:Int}{k:AE}(h:Cr s list k=true):k=Bf∨k=AX list∨k=Aa s.v.wal∨ ∃n,(Am n s.tabs).isSome=true∧k=Aw n:=by
 have hp: ∀c z,(Ei k).1=c→(Ei k).2.1=z→c≠0→k=c::Lib.itoa z:=by
  intro c z h1 h2 h3;cases k with
  |nil=>subst h1;exact absurd rfl h3
  |cons d r=>
   rw[XN]at h1 h2;cases ha:Lib.atoiAll r with
   |ok n=>
    rw[ha]at h1 h2;simp only at h1 h2;cases hn:EG d r n with
    |true=>
     rw[hn]at h1 h2;simp only[if_true]at h1 h2;unfold EG at hn;simp only[Bool.and_eq_true,decide_eq_true_eq]at hn;subst h1 h2;rw[hn.1.2]
    |false=>
     rw[hn]at h1;exact absurd h1.symm h3
   |_=>
    rw[ha]at h1;exact absurd h1.symm h3
 unfold Cr at h;simp only[Bool.or_eq_true,Bool.and_eq_true,decide_eq_true_eq]at h;rcases h with((h|⟨h1,h2⟩)|⟨h1,h2⟩)|⟨h1,h2⟩
 ·exact .inl h
 ·exact .inr (.inl (hp 109 list h1 h2 AC))
 ·exact .inr (.inr (.inl (hp 119 _ h1 h2 AC)))
 ·exact .inr (.inr (.inr ⟨_,h2,hp 116 _ h1 rfl AC⟩))
theorem WC(s:AL){n:Int}(h1:1≤n)(h:Ck n):Cr s n (AX n)=true:=by
 unfold Cr AX;rw[Ov AC h,if_pos h1];simp
theorem WE(s:AL)(list:Int)(h1:1≤s.v.wal)(h:Ck s.v.wal):Cr s list (Aa s.v.wal)=true:=by
 unfold Cr Aa;rw[Ov AC h,if_pos h1];simp
theorem WD(s:AL)(list:Int){n:Int}(h1:1≤n)(h:Ck n)(hs:(Am n s.tabs).isSome=true):Cr s list (Aw n)=true:=by
 unfold Cr Aw;rw[Ov AC h,if_pos h1];simp[hs]
theorem WB(s:AL)(list:Int):Cr s list Bf=true:=by unfold Cr;simp
structure TC(s:AL)(m:AJ)(ps:List AE)(s':AL)(m':AJ):Prop where
 st:s'={BJ s with log:=some ⟨ps.length,Aa s.v.next,false,false⟩,list:=some ⟨(Ay (BJ s).v).length,AX (s.v.next+1),false,false⟩}
 up:Up m'
 wal:AN m' (Aa s.v.next)=some (AQ ps,(AQ ps).length)
 lst:AN m' (AX (s.v.next+1))=some (AQ (Ay (BJ s).v),(AQ (Ay (BJ s).v)).length)
 cur: ∃y,AN m' Bf=some (AX (s.v.next+1),y)
 tab: ∀x∈s.tabs,1≤x.1→Ck x.1→AN m' (Aw x.1)=AN m (Aw x.1)
 all: ∀k,(AN m' k).isSome=true→Cr s' (s.v.next+1) k=true
theorem OK{m:AJ}{k:AE}:(AN m k).isSome=true↔k∈m.files.map (·.1):=by
 unfold AN;cases h:Am k m.files with
 |none=>have:=Jd.1 h;simp[this]
 |some x=>have:=Jc h;simp only[Option.isSome_some,true_iff];exact CC (f:=(·.1)) this
theorem Xt{A T Nf:Nat}{s:AL}{m:AJ}{ps:List AE}{e:Int}{s':AL}{m':AJ}(h:Up m)(hF:FT A T m)(hT:536870912≤T∧T≤1099511627776)(hv:DA (BJ s).v)(h1:1≤s.v.next∧s.v.next≤1152921504606846976)(hps:Bb ps=true)(hpl:(AQ ps).length≤T)(hnf:m.files.length≤Nf)(hr:FH s m ps e s' m'):
  e=0∧TC s m ps s' m'∧FT (A+Nf+17) T m':=by
 have hi:Ck s.v.next:=⟨AA,AA⟩;have hi1:Ck (s.v.next+1):=⟨AA,AA⟩;obtain⟨w1,w2⟩:=hv.whole;have hok:=OC w2;have hsum:=Mf w2 hv.num;obtain⟨a1,a2,a3⟩:=Ru h hF.fb (Ht hi) hps;have hF1:=hF.rewrite (Aa s.v.next) ps hpl hT.2;obtain⟨b1,b2,b3⟩:=Ru a2 hF1.fb (HP hi1) hok;have hF2:=hF1.rewrite (AX (s.v.next+1)) (Ay (BJ s).v) (by rw[Dr];omega) hT.2;have hll:=(Fq hi1).2.2;obtain⟨c1,c2,c3⟩:=OM b2 hF2.fb Oh (AX (s.v.next+1))
 have hF3:=hF2.file BW (AX (s.v.next+1)) AA hT.2;obtain⟨d1,d2,d3⟩:=Xs c2 hF3.fb Og I2 (by rw[c3,if_pos rfl]);have hF4:=hF3.ren BW Bf;have hg: ∀k,AN (Bi s m ps).2 k=if k=Bf then some (AX (s.v.next+1),(AX (s.v.next+1)).length)else if k=BW then none else if k=AX (s.v.next+1)then some (AQ (Ay (BJ s).v),(AQ (Ay (BJ s).v)).length)else if k=Aa s.v.next then some (AQ ps,(AQ ps).length)else AN m k:=by
  intro k;show AN (Cv (CE (Cd (Cd m (Aa s.v.next) ps).2 (AX (s.v.next+1)) (Ay (BJ s).v)).2 BW (AX (s.v.next+1))).2 BW Bf).2 k=_;rw[d3,c3,b3,a3]
  split
  ·rfl
  split
  ·rfl
  ·rfl
 have hU:Up (Bi s m ps).2:=d2;have hF4':FT (A+10) T (Bi s m ps).2:=hF4;have hne:=G7 (s.v.next+1);have hnw:=EC s.v.next;have gw:AN (Bi s m ps).2 (Aa s.v.next)=some (AQ ps,(AQ ps).length):=by rw[hg,if_neg hnw.1,if_neg hnw.2,if_neg (EJ _ _),if_pos rfl]
 have gl:AN (Bi s m ps).2 (AX (s.v.next+1))=some (AQ (Ay (BJ s).v),(AQ (Ay (BJ s).v)).length):=by rw[hg,if_neg hne.1,if_neg hne.2,if_pos rfl]
 cases hr with
 |e1 he=>exact absurd a1 he
 |e2 _ he=>exact absurd b1 he
 |e3 _ _ he=>exact absurd c1 he
 |e4 _ _ _ he=>exact absurd d1 he
 |e5 _ _ _ _ _ he=>exact absurd (hU.open (Ht hi)) he
 |e6 _ _ _ _ _ _ he=>exact absurd (hU.open (HP hi1)) he
 |e7 _ _ _ _ _ _ ns hp=>
  have hst:GD s (Bi s m ps).2={BJ s with log:=some ⟨ps.length,Aa s.v.next,false,false⟩,list:=some ⟨(Ay (BJ s).v).length,AX (s.v.next+1),false,false⟩}:=by
   unfold GD NH;rw[Rc hU hps gw,Rc hU hok gl]
  have hnd:ns.Nodup:=hp.nodup_iff.2 hF4'.fb.nd;obtain⟨i1,i2,i3,i4⟩:=QF (GD s (Bi s m ps).2) (s.v.next+1) ns hU hF4' hnd λx hx=>OK.2 (hp.mem_iff.1 hx);have hkeep: ∀k,Cr (GD s (Bi s m ps).2) (s.v.next+1) k=true→AN (DB (GD s (Bi s m ps).2) (s.v.next+1) ns (Bi s m ps).2).2 k=AN (Bi s m ps).2 k:=λk hk=>by rw[i4,if_neg (by simp[hk])]
  have hnl:ns.length≤Nf+7:=by
   rw[hp.length_eq,BZ];have l1:=KP m (Aa s.v.next) ps;have l2:=KP (Cp s m ps).2 (AX (s.v.next+1)) (Ay (BJ s).v);have l3:=Ks (C7 s m ps).2 BW (AX (s.v.next+1));have l4:=O4 (DT s m ps).2 BW Bf;have l1:(Cp s m ps).2.files.length≤m.files.length+2:=l1;have l2:(C7 s m ps).2.files.length≤(Cp s m ps).2.files.length+2:=l2;have l3:(DT s m ps).2.files.length≤(C7 s m ps).2.files.length+2:=l3;have l4:(Bi s m ps).2.files.length≤(DT s m ps).2.files.length+1:=l4
   omega
  refine⟨i1,⟨hst,i2,?_,?_,?_,λx hx hx1 hx2=>?_,λk hk=>?_⟩,i3.mono AA (AW _)⟩
  ·rw[hkeep (Aa s.v.next) (WE (GD s (Bi s m ps).2) _ h1.1 hi)];exact gw
  ·rw[hkeep _ (WC _ AA hi1)];exact gl
  ·rw[hkeep _ (WB _ _),hg,if_pos rfl];exact⟨_,rfl⟩
  ·have ht:=Ey x.1;rw[hkeep _ (WD _ _ hx1 hx2 (by
    show(Am x.1 s.tabs).isSome=true;cases hq:Am x.1 s.tabs with
    |some _=>rfl
    |none=>exact absurd (CC hx) (Jd.1 hq))),hg,if_neg ht.1,if_neg ht.2,if_neg (Fv _ _),if_neg λe=>FF _ _ e.symm]
  ·rw[i4]at hk;cases hq:Cr (GD s (Bi s m ps).2) (s.v.next+1) k with
   |true=>rfl
   |false=>
    rw[hq]at hk;by_cases hkn:k∈ns
    ·rw[if_pos ⟨hkn,rfl⟩]at hk;cases hk
    ·rw[if_neg (by simp[hkn])]at hk;exact absurd (hp.mem_iff.2 (OK.1 hk)) hkn
structure DV(m:AJ)(P:AE→Prop)(r:Int×AJ):Prop where
 down:r.2.off=true↔r.1=7
 same: ∀k,¬P k→AN r.2 k=AN m k
theorem DV.mono{m:AJ}{P Q:AE→Prop}{r:Int×AJ}(h:DV m P r)(hp: ∀k,P k→Q k):DV m Q r:=⟨h.down,λk hk=>h.same k λh=>hk (hp k h)⟩
theorem DV.up{m:AJ}{P:AE→Prop}{r:Int×AJ}(h:DV m P r)(he:r.1≠7):r.2.off=false:=by
 cases ho:r.2.off with
 |false=>rfl
 |true=>exact absurd (h.down.1 ho) he
theorem DV.up'{m m':AJ}{P:AE→Prop}{e:Int}(h:DV m P (e,m'))(he:e≠7):m'.off=false:=h.up he
theorem DV.trans{m:AJ}{P:AE→Prop}{a b:Int×AJ}(h:DV m P a)(h2:DV a.2 P b):DV m P b:=⟨h2.down,λk hk=>(h2.same k hk).trans (h.same k hk)⟩
theorem Nt(m:AJ):(acted m).off=true↔DN m=1∨DN m=2:=by unfold acted;simp
theorem O9(b:Bool):(if b=true then(7:Int)else 0)=7↔b=true:=by cases b<;>simp
theorem Vg{m:AJ}{n k:AE}{x:AE×Nat}(h:k≠n):AN {m with files:=BV n x m.files} k=AN m k:=by rw[Mk,if_neg h]
theorem Tl{m:AJ}(h:m.off=false){n:AE}(hn:named n=true)(ps:List AE):
  DV m (· =n) (BB m n ps)∧((BB m n ps).1=0∨(BB m n ps).1=6∨(BB m n ps).1=7)∧((BB m n ps).1=6→AN (BB m n ps).2 n=AN m n)∧
   ((BB m n ps).1=0→AN (BB m n ps).2 n=some (((AN m n).getD ([],0)).1++ps.flatten,((AN m n).getD ([],0)).2))∧
   (AN (BB m n ps).2 n=AN m n∨AN (BB m n ps).2 n=some (((AN m n).getD ([],0)).1++ps.flatten,((AN m n).getD ([],0)).2)):=by
 have ha:=Nt m;unfold BB;rw[h,hn];simp only[Bool.false_eq_true,if_false,Bool.not_true];by_cases h3:DN m=3
 ·rw[if_pos h3];refine⟨⟨?_,λk _=>rfl⟩,.inr (.inl rfl),λ_=>rfl,λh6=>(by cases h6),.inl rfl⟩;show(acted m).off=true↔(6:Int)=7;rw[ha,h3];decide
 ·rw[if_neg h3];by_cases h1:DN m=1
  ·rw[if_pos h1];refine⟨⟨?_,λk _=>rfl⟩,.inr (.inr rfl),λ_=>rfl,λh6=>(by cases h6),.inl rfl⟩;show(acted m).off=true↔(7:Int)=7;rw[ha,h1];decide
  ·rw[if_neg h1];have hg:AN {acted m with files:=BV n (((AN m n).getD ([],0)).1++ps.flatten,((AN m n).getD ([],0)).2) m.files} n=some (((AN m n).getD ([],0)).1++ps.flatten,((AN m n).getD ([],0)).2):=by
    have:=Mk (acted m) n n (((AN m n).getD ([],0)).1++ps.flatten,((AN m n).getD ([],0)).2);rw[if_pos rfl]at this;exact this
   refine⟨⟨(O9 _).symm,λk hk=>Vg (m:=acted m) hk⟩,?_,λh6=>?_,λ_=>hg,.inr hg⟩
   ·cases(acted m).off<;>simp
   ·exfalso
    revert h6
    cases(acted m).off<;>simp
theorem Hl{m:AJ}(h:m.off=false)(n:AE):BA m n=match AN m n with|none=>(([],0),5)|some x=>(x,0):=by unfold BA;rw[h];rfl
theorem YV{m:AJ}(h:m.off=false){n:AE}{x:AE×Nat}(hx:AN m n=some x):
  DV m (· =n) (CV m n)∧((CV m n).1=0∨(CV m n).1=7)∧((CV m n).1=0→AN (CV m n).2 n=some (x.1,x.1.length))∧
   (AN (CV m n).2 n=AN m n∨AN (CV m n).2 n=some (x.1,x.1.length)):=by
 have ha:=Nt m;have hf:BA m n=(x,0):=by rw[Hl h,hx]
 unfold CV;rw[hf];simp only[ne_eq,not_true_eq_false,if_false];by_cases h1:DN m=1
 ·have ho:(acted m).off=true:=ha.2 (.inl h1);rw[if_pos h1,ho];exact⟨⟨by simp[ho],λk _=>rfl⟩,.inr rfl,λh0=>absurd h0 AC,.inl rfl⟩
 ·rw[if_neg h1];have hg:AN {acted m with files:=BV n (x.1,x.1.length) m.files} n=some (x.1,x.1.length):=by
   have:=Mk (acted m) n n (x.1,x.1.length);rw[if_pos rfl]at this;exact this
  refine⟨⟨(O9 _).symm,λk hk=>Vg (m:=acted m) hk⟩,?_,λ_=>hg,.inr hg⟩;cases(acted m).off<;>simp
theorem N5{m:AJ}(h:m.off=false)(hnd:(m.files.map (·.1)).Nodup)(n:AE):
  DV m (· =n) (A9 m n)∧((A9 m n).1=0∨(A9 m n).1=5∨(A9 m n).1=7)∧((A9 m n).1≠7→AN (A9 m n).2 n=none)∧
   (AN (A9 m n).2 n=AN m n∨AN (A9 m n).2 n=none)∧((AN m n).isSome=true→(A9 m n).1≠5):=by
 have ha:=Nt m;unfold A9;cases hx:AN m n with
 |none=>
  have hf:BA m n=(([],0),5):=by rw[Hl h,hx]
  rw[hf];simp only[ne_eq,show¬(5:Int)=0 by decide,not_false_eq_true,if_true];exact⟨⟨by rw[h];simp,λk _=>rfl⟩,AB,λ_=>hx,.inl hx,λh0=>by cases h0⟩
 |some x=>
  have hf:BA m n=(x,0):=by rw[Hl h,hx]
  rw[hf];simp only[ne_eq,not_true_eq_false,if_false];by_cases h1:DN m=1
  ·have ho:(acted m).off=true:=ha.2 (.inl h1);rw[if_pos h1,ho];exact⟨⟨by simp[ho],λk _=>rfl⟩,.inr (.inr rfl),λh0=>absurd rfl h0,.inl hx,λ_=>AC⟩
  ·rw[if_neg h1];have hg: ∀k,AN {acted m with files:=Cn n m.files} k=if k=n then none else AN m k:=λk=>KG n k hnd
   refine⟨⟨(O9 _).symm,λk hk=>by rw[hg,if_neg hk]⟩,?_,λ_=>by rw[hg,if_pos rfl],.inr (by rw[hg,if_pos rfl]),λ_=>?_⟩
   ·cases(acted m).off<;>simp
   ·cases(acted m).off<;>simp
theorem OL{A:Nat}{m:AJ}(h:m.off=false)(hB:FB A m){n:AE}(hn:named n=true)(t:AE):
  DV m (· =n) (CE m n t)∧((CE m n t).1=0∨(CE m n t).1=6∨(CE m n t).1=7)∧((CE m n t).1=0→AN (CE m n t).2 n=some (t,t.length)):=by
 obtain⟨d1,d2,d3, -, -⟩:=N5 h hB.nd n;unfold CE;by_cases h7:(A9 m n).1=7
 ·rw[if_pos ⟨by rw[h7];decide,by rw[h7];decide⟩];exact⟨d1,.inr (.inr h7),λh0=>by rw[h7]at h0;cases h0⟩
 ·have hd: ¬((A9 m n).1≠0∧(A9 m n).1≠5):=AA;rw[if_neg hd];have hu:=d1.up h7;obtain⟨a1,a2, -,a4, -⟩:=Tl hu hn [t];have hda:=d1.trans a1;by_cases h0:(BB (A9 m n).2 n [t]).1=0
  ·rw[if_neg (by simp[h0])];have hg:AN (BB (A9 m n).2 n [t]).2 n=some (t,0):=by rw[a4 h0,d3 h7];simp
   obtain⟨s1,s2,s3, -⟩:=YV (a1.up (by rw[h0];decide)) hg;exact⟨hda.trans s1,AA,s3⟩
  ·rw[if_pos h0];exact⟨hda,a2,λh=>absurd h h0⟩
theorem Rs{A:Nat}{m:AJ}(h:m.off=false)(hB:FB A m){n:AE}(hn:named n=true){ps:List AE}(hp:Bb ps=true):
  DV m (· =n) (Cd m n ps)∧((Cd m n ps).1=0∨(Cd m n ps).1=6∨(Cd m n ps).1=7)∧((Cd m n ps).1=0→AN (Cd m n ps).2 n=some (AQ ps,(AQ ps).length)):=by
 unfold Cd;rw[hp];exact OL h hB hn _
theorem Xr{A:Nat}{m:AJ}(h:m.off=false)(hB:FB A m){a b:AE}(hb:named b=true)(_hab:a≠b){x:AE×Nat}(hx:AN m a=some x):
  DV m (λk=>k=a∨k=b) (Cv m a b)∧((Cv m a b).1=0∨(Cv m a b).1=7)∧((Cv m a b).1=0→AN (Cv m a b).2 b=some x)∧
   ((∀k,AN (Cv m a b).2 k=AN m k)∨AN (Cv m a b).2 b=some x):=by
 have ha:=Nt m;have hf:BA m a=(x,0):=by rw[Hl h,hx]
 unfold Cv;rw[hb,hf];simp only[Bool.true_eq_false,and_false,if_false,ne_eq,not_true_eq_false];by_cases h1:DN m=1
 ·have ho:(acted m).off=true:=ha.2 (.inl h1);rw[if_pos h1,ho];exact⟨⟨by simp[ho],λk _=>rfl⟩,.inr rfl,λh0=>absurd h0 AC,.inl λk=>rfl⟩
 ·rw[if_neg h1];have hg: ∀k,AN {acted m with files:=BV b x (Cn a m.files)} k=if k=b then some x else if k=a then none else AN m k:=λk=>by
   show Am k (BV b x (Cn a m.files))=_;rw[G6,KG _ _ hB.nd]
   rfl
  refine⟨⟨(O9 _).symm,λk hk=>by rw[not_or]at hk;rw[hg,if_neg hk.2,if_neg hk.1]⟩,?_,λ_=>by rw[hg,if_pos rfl],.inr (by rw[hg,if_pos rfl])⟩;cases(acted m).off<;>simp
theorem Ti{m:AJ}(h:m.off=false){g:BF}{N:Nat}(hg:GL g N){ps:List AE}(hp:Bb ps=true)(hne:ps≠[]):
  DV m (· =g.name) ((appL m g ps).1,(appL m g ps).2.2)∧((appL m g ps).1=0∨(appL m g ps).1=6∨(appL m g ps).1=7)∧
   ((appL m g ps).1=6→(appL m g ps).2.1=g∧AN (appL m g ps).2.2 g.name=AN m g.name)∧
   ((appL m g ps).1=0→(appL m g ps).2.1={g with n:=g.n+ps.length}∧AN (appL m g ps).2.2 g.name=some (((AN m g.name).getD ([],0)).1++AQ ps,(((AN m g.name).getD ([],0)).1++AQ ps).length))∧
   (AN (appL m g ps).2.2 g.name=AN m g.name∨AN (appL m g ps).2.2 g.name=some (((AN m g.name).getD ([],0)).1++AQ ps,((AN m g.name).getD ([],0)).2)∨
    AN (appL m g ps).2.2 g.name=some (((AN m g.name).getD ([],0)).1++AQ ps,(((AN m g.name).getD ([],0)).1++AQ ps).length)):=by
 obtain⟨a1,a2,a3,a4,a5⟩:=Tl h hg.name [AQ ps];simp only[Dc,Gj,BT]at a4 a5;have hd:=hg.dead;have hgg:({g with n:=g.n,dead:=false}:BF)=g:=by cases g;simp only at hd;subst hd;rfl
 by_cases h0:(BB m g.name [AQ ps]).1=0
 ·have hx:=a4 h0;obtain⟨s1,s2,s3,s4⟩:=YV (a1.up (by rw[h0];decide)) hx;have hos:=a1.trans s1;have e:DG m g.name g.n g.torn g.dead ps=((CV (BB m g.name [AQ ps]).2 g.name).1,(if(CV (BB m g.name [AQ ps]).2 g.name).1=0 then g.n+ps.length else g.n,decide ((CV (BB m g.name [AQ ps]).2 g.name).1=7)),(CV (BB m g.name [AQ ps]).2 g.name).2):=by
   unfold DG;rw[hg.dead,h,hg.torn,hp,h0];simp[hne]
  unfold appL;rw[e];simp only;generalize CV (BB m g.name [AQ ps]).2 g.name=q at s1 s2 s3 s4 hos⊢;refine⟨⟨hos.down,hos.same⟩,AA,λh6=>AA,λh0'=>?_,?_⟩
  ·rw[if_pos h0',h0',hd];refine⟨?_,s3 h0'⟩;simp
  ·rcases s4 with s4|s4
   ·exact .inr (.inl (s4.trans hx))
   ·exact .inr (.inr s4)
 ·have e:DG m g.name g.n g.torn g.dead ps=((BB m g.name [AQ ps]).1,(g.n,decide ((BB m g.name [AQ ps]).1=7)),(BB m g.name [AQ ps]).2):=by
   unfold DG;rw[hg.dead,h,hg.torn,hp];simp[hne,h0]
  unfold appL;rw[e];simp only;generalize BB m g.name [AQ ps]=q at a1 a2 a3 a5 h0⊢;refine⟨⟨a1.down,a1.same⟩,a2,λh6=>⟨?_,a3 h6⟩,λh0'=>absurd h0' h0,?_⟩
  ·rw[h6];exact hgg
  ·rcases a5 with a5|a5
   ·exact .inl a5
   ·exact .inr (.inl a5)
theorem RE{T:Nat}(hT:1048576≤T∧T≤1099511627776): ∀(cs:List (List AF)){A:Nat}{m:AJ}(n:Int),m.off=false→FT A T m→(∀c∈cs,B8 c)→0≤n→n+cs.length≤4611686018427387904→
  DV m (λk=>∃i,n≤i∧i<n+cs.length∧k=Aw i) (Bh m n cs)∧((Bh m n cs).1=0∨(Bh m n cs).1=6∨(Bh m n cs).1=7)∧((Bh m n cs).1=0→ ∀x∈Aq n cs,AN (Bh m n cs).2 (Aw x.1)=some (B5 x.2,(B5 x.2).length))
 |[],A,m,n,h,_,_,_,_=>⟨⟨by show m.off=true↔(0:Int)=7;rw[h];simp,λk _=>rfl⟩,.inl rfl,λ_ x hx=>by cases hx⟩
 |c::cs,A,m,n,h,hF,hc,h0,hn=>by
  rw[Ah]at hn;have hi:Ck n:=⟨AA,AA⟩;have hb:=(hc c AB).bytes;obtain⟨f1,f2,f3⟩:=OL h hF.fb (Wm hi) (B5 c);have hF2:=hF.file (Aw n) (B5 c) AA hT.2;have f1':DV m (λk=>∃i,n≤i∧i<n+(c::cs).length∧k=Aw i) (CE m (Aw n) (B5 c)):=f1.mono λk hk=>⟨n,EZ _,by rw[Ah];omega,hk⟩;unfold Bh;by_cases he:(CE m (Aw n) (B5 c)).1=0
  ·rw[if_neg (by simp[he])];obtain⟨i1,i2,i3⟩:=RE hT cs (n+1) (f1.up (by rw[he];decide)) hF2 (λc hc'=>hc c (by simp[hc'])) AA AA;refine⟨f1'.trans (i1.mono λk⟨i,h1,h2,h3⟩=>⟨i,AA,by rw[Ah];omega,h3⟩),i2,λh9 x hx=>?_⟩;rw[Aq]at hx;rcases As.1 hx with rfl|hx
   ·rw[i1.same (Aw n) λ⟨i,h1,h2,h3⟩=>by have:=Lk hi ⟨AA,AA⟩ h3;omega];exact f3 he
   ·exact i3 h9 x hx
  ·rw[if_pos he];exact⟨f1',f2,λh=>absurd h he⟩
theorem UM{T:Nat}: ∀(ns:List AE){A:Nat}{m:AJ},m.off=false→FT A T m→DV m (· ∈ns) (delAll ns m)∧((delAll ns m).1=0∨(delAll ns m).1=5∨(delAll ns m).1=7)∧(ns.Nodup→(∀n∈ns,(AN m n).isSome=true)→(delAll ns m).1≠5)
 |[],A,m,h,_=>⟨⟨by show m.off=true↔(0:Int)=7;rw[h];simp,λk _=>rfl⟩,.inl rfl,λ_ _=>(by decide:(0:Int)≠5)⟩
 |n::ns,A,m,h,hF=>by
  obtain⟨d1,d2,d3,d4,d5⟩:=N5 h hF.fb.nd n;have d1':DV m (· ∈n::ns) (A9 m n):=d1.mono λk hk=>by rw[hk];simp
  unfold delAll;by_cases he:(A9 m n).1=0
  ·rw[if_neg (by simp[he])];obtain⟨i1,i2,i3⟩:=UM ns (d1.up (by rw[he];decide)) (hF.del n);refine⟨d1'.trans (i1.mono λk hk=>CH _ hk),i2,λhnd hall=>i3 (Eu.1 hnd).2 λx hx=>?_⟩;rw[d1.same x (λe:x=n=>(Eu.1 hnd).1 (e▸hx))];exact hall x (by simp[hx])
  ·rw[if_pos he];exact⟨d1',d2,λ_ hall=>d5 (hall n AB)⟩
theorem QE{T:Nat}(s:AL)(list:Int): ∀(ns:List AE){A:Nat}{m:AJ},m.off=false→FT A T m→ns.Nodup→(∀n∈ns,(AN m n).isSome=true)→
  DV m (λk=>k∈ns∧Cr s list k=false) (DB s list ns m)∧((DB s list ns m).1=0∨(DB s list ns m).1=7)∧FT (A+ns.length) T (DB s list ns m).2∧
   ((DB s list ns m).1=0→ ∀k,k∈ns→Cr s list k=false→AN (DB s list ns m).2 k=none)
 |[],A,m,h,hF,_,_=>⟨⟨by show m.off=true↔(0:Int)=7;rw[h];simp,λk _=>rfl⟩,.inl rfl,hF,λ_ k hk=>by cases hk⟩
 |n::ns,A,m,h,hF,hnd,hall=>by
  obtain⟨hn1,hn2⟩:=Eu.1 hnd;unfold DB;cases hk:Cr s list n with
  |true=>
   rw[if_pos rfl];obtain⟨i1,i2,i3,i4⟩:=QE s list ns h hF hn2 λx hx=>hall x (by simp[hx]);refine⟨i1.mono λk hk=>⟨CH _ hk.1,hk.2⟩,i2,i3.mono (by rw[Ah];omega) (AW _),λh0 k hk1 hk2=>?_⟩;rcases As.1 hk1 with rfl|hk1
   ·rw[hk]at hk2;cases hk2
   ·exact i4 h0 k hk1 hk2
  |false=>
   rw[if_neg AB];obtain⟨d1,d2,d3, -,d5⟩:=N5 h hF.fb.nd n;have d1':DV m (λk=>k∈n::ns∧Cr s list k=false) (A9 m n):=d1.mono λk hk'=>by rw[hk'];exact⟨AB,hk⟩
   have hn5:=d5 (hall n AB);by_cases he:(A9 m n).1=0
   ·rw[if_neg (by simp[he])];obtain⟨i1,i2,i3,i4⟩:=QE s list ns (d1.up (by rw[he];decide)) (hF.del n) hn2 λx hx=>by rw[d1.same x (λe:x=n=>hn1 (e▸hx))];exact hall x (by simp[hx])
    refine⟨d1'.trans (i1.mono λk hk=>⟨CH _ hk.1,hk.2⟩),i2,i3.mono (by rw[Ah];omega) (AW _),λh0 k hk1 hk2=>?_⟩;by_cases hkn:k∈ns
    ·exact i4 h0 k hkn hk2
    ·have hk3:k=n:=by rcases As.1 hk1 with h|h;exact h;exact absurd h hkn
     subst hk3;rw[i1.same k λh=>hkn h.1];exact d3 (by rw[he];decide)
   ·rw[if_pos he];exact⟨d1',AA,(hF.del n).mono (by rw[Ah];omega) (AW _),λh0=>absurd h0 he⟩
end Go.Proofs.YtkgibdhpijdbfaaGreatDoor
