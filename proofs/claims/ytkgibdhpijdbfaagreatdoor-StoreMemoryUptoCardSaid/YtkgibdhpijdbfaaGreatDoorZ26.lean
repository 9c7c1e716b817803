/- Texts of this claim, one behind the other. -/
import Derived.Test.YtkgibdhpijdbfaaGreatDoorZ23
import Derived.Test.YtkgibdhpijdbfaaGreatDoorZ22
import Derived.Test.YtkgibdhpijdbfaaGreatDoorZ21
import Derived.Test.YtkgibdhpijdbfaaGreatDoorZ18
import Derived.Test.YtkgibdhpijdbfaaGreatDoorZ24
import Derived.Test.YtkgibdhpijdbfaaGreatDoorZ7
import Derived.Test.YtkgibdhpijdbfaaGreatDoorZ6
import Derived.Test.YtkgibdhpijdbfaaGreatDoorZ17
set_option linter.unusedVariables false
set_option linter.unusedSimpArgs false
set_option maxHeartbeats 16000000
namespace Go.Proofs.YtkgibdhpijdbfaaGreatDoor
open Go Go.Eng Go.Proofs
structure zT where
 i:Nat
set_option maxRecDepth 8000 in
theorem TU{w:World}{a:Option Addr}{c:Nat}{l:List AF}(ha:Arr w [] a (l.flatMap AU))(hc:l.length≤c)(ht:B8 l):
  Cl Tryz.prog pT [.slice a l.length c] w λv w'=>v= .tuple ⟨[AG (B5 l),.int .i64 0]⟩∧St w [] [] w':=by
 have hS:=St.start w;have hl64:=ht.len;obtain⟨P,hP⟩: ∃P,AR 8 l=P:=⟨_,rfl⟩;have hpl:P.length=(l.length+8-1) / 8:=by rw[←hP];exact Jd 8 l
 have hcnt:P.length≤8:=by rw[←hP];exact ht.cnt
 refine dK rfl ?_;refine ED.seq ?_;refine jq ⟨?_⟩;refine ED.seq ?_;refine jq ⟨?_⟩;refine(Sq ha ht.rise ht.fine ht.fit AA).mono ?_;rintro _ w1⟨rfl,hS'⟩;have hS:=hS.call0 hS';refine jq ⟨?_⟩;refine ED.seq ?_;refine jq ⟨?_⟩;refine MH.mono ?_;rintro _ w2⟨ib,Li,rfl,hI,hS'⟩;have hS:=hS.callNew hS';refine jq ⟨?_⟩;refine MH.mono ?_;rintro _ w3⟨fb,Lf,rfl,hF,hS'⟩;have hS:=hS.callNew hS';refine jq ⟨?_⟩;refine hS.al ?_
 intro b6 w4 _ hS;(repeat(refine jt ⟨?_⟩;refine hS.q ?_;intro _ hS));refine jt ⟨?_⟩;refine ED.seq ?_;(repeat(refine jt ⟨?_⟩;refine hS.q ?_;intro _ hS));refine jt ⟨?_⟩;have hdiv:((l.length:Int)+8-1).tdiv 8=((P.length:Nat):Int):=by
  rw[show(l.length:Int)+8-1=((l.length+8-1:Nat):Int) by omega,show(8:Int)=((8:Nat):Int)from rfl,←Int.ofNat_tdiv,hpl]
 rw[hdiv];(repeat(refine jt ⟨?_⟩;refine hS.q ?_;intro _ hS));refine jt ⟨?_⟩;refine hS.al ?_;intro b30 w5 _ hS;(repeat(refine jt ⟨?_⟩;refine hS.q ?_;intro _ hS));refine jt ⟨?_⟩;have hn10:=EP P.length AA;refine Cl.mono (Gg hI (hS.part (L:=Li)) (ns:=[P.length]) (hS.arr (b:=b30) (Cp hS)) (by intro m hm;simp only[Cm]at hm;subst hm;omega) AB AB) ?_;rintro _ w6⟨Li,hI,hS'⟩;have hS:=hS.call hS';have hS:=hS.sub (AS _ _)
 rw[show []++([P.length].map Ak).flatten=Ak P.length by simp]at hI;(repeat(refine jt ⟨?_⟩;refine hS.q ?_;intro _ hS));refine jt ⟨?_⟩;refine ED.seq ?_;(repeat(refine jt ⟨?_⟩;refine hS.q ?_;intro _ hS));refine jt ⟨?_⟩;refine hS.al ?_;intro b8 w7 _ hS;(repeat(refine jt ⟨?_⟩;refine hS.q ?_;intro _ hS));refine jt ⟨?_⟩;refine ED.seq ?_;(repeat(refine jt ⟨?_⟩;refine hS.q ?_;intro _ hS));refine jt ⟨?_⟩;refine hS.al ?_
 intro b9 w8 _ hS;(repeat(refine jt ⟨?_⟩;refine hS.q ?_;intro _ hS));refine jt ⟨?_⟩;refine ED.rangeB rfl ?_;(repeat(refine jt ⟨?_⟩;refine hS.q ?_;intro _ hS));refine jt ⟨?_⟩;refine(Sh (m:=8) AC).mono ?_;rintro _ w9⟨b2,b3,rfl,hS'⟩;have hS:=hS.callNew hS';(repeat(refine jt ⟨?_⟩;refine hS.q ?_;intro _ hS));refine jt ⟨?_⟩;refine⟨_,[ptr b2,ptr b3],T6,rfl,?_⟩;intro lo hy;have hS:=hS.rng (.deferred (some [])) (lo .ready none)
 generalize hlp:w9.heap.size+1=lp at hS hy⊢;generalize hD:w9.heap.size=D at hS⊢;generalize(w9.alloc (.deferred (some []))).alloc (lo .ready none)=w10 at hS⊢;have hPg: ∀i,i<P.length→i*8<l.length∧P[i]?=some ((l.drop (i*8)).take 8):=by
  rw[←hP];intro i hi;exact⟨Ow AA hi,by rw[CB hi,M9 hi]⟩
 have hidx: ∀i,(Da (P.take i) P.length).1.length≤1048576∧(Da (P.take i) P.length).2≤1048576:=by rw[←hP];exact ht.idx
 have hst0:St w [] ((lp,lo .ready none)::(D,.deferred (some []))::(b3,.cells ⟨[.int .i64 8]⟩ BP (0,0))::(b2,.cells ⟨[.slice a l.length c]⟩ GR (0,0))::(b9,.cells ⟨[.int .i64 (Da (P.take 0) P.length).2]⟩ BP (0,0))::
   (b8,.cells ⟨[.slice none 0 0]⟩ Nj (0,0))::([]++((b6,.cells ⟨[ptr ib]⟩ TX (0,0))::(Lf++(Li++[]))))) w10:=hS
 clear hS;refine Cl.mono (Sg (g:=(a.getD ⟨0,0,none⟩).block) (o:=(a.getD ⟨0,0,none⟩).off) (m:=8) (a:=a) AC AA hc ?_
  (λi w'=>i≤P.length∧ ∃a8 c8 L8 Li,AT C3 1 a8 i c8 (((P.take i).map E8).map AG) L8∧DO ib (Da (P.take i) P.length).1 Li∧
   St w [] ((lp,lo .ready none)::(D,.deferred (some []))::(b3,.cells ⟨[.int .i64 8]⟩ BP (0,0))::(b2,.cells ⟨[.slice a l.length c]⟩ GR (0,0))::(b9,.cells ⟨[.int .i64 (Da (P.take i) P.length).2]⟩ BP (0,0))::
   (b8,.cells ⟨[.slice a8 i c8]⟩ Nj (0,0))::(L8++((b6,.cells ⟨[ptr ib]⟩ TX (0,0))::(Lf++(Li++[]))))) w') (λ_=>False) ?_ ?_ ?_ ?_ ⟨Ag _,none,0,[],Li,AT.nil,hI,hst0⟩) ?_
 ·intro hl0;obtain⟨g,off,rfl, -⟩:=FO ha hl0
  rfl
 ·rintro i w'⟨-,a8,c8,L8,Li, -, -,hS⟩;have:=hS.mem (b:=b2);simp[World.cell?,this]
 ·rintro i w'⟨-,a8,c8,L8,Li, -, -,hS⟩;have:=hS.mem (b:=b3);simp[World.cell?,this]
 ·rintro i w'⟨h1,a8,c8,L8,Li,h2,h3,hS⟩;exact⟨h1,a8,c8,L8,Li,h2,h3,hS.drew⟩
 ·rintro i w' hi⟨hile,a8,c8,L8,Li,hV,hI,hS⟩K hK _;refine hy _ w' K (hS.mem (b:=lp)) ?_;repeat(first|refine Ao.run AK ?_|((first|refine jA ?_ ?_|refine jB ?_ ?_|refine jC ?_ ?_|refine jD ?_ ?_);omega)|refine jE rfl ?_|refine jF (by first|omega|exact Bd AK rfl rfl|decide) ?_|(refine jG ?_;first|with_reducible (first|apply jH|apply jI|apply jJ|apply jK|apply jL)|refine jM AA ?_|refine jN AA ?_|with_reducible refine jM rfl ?_|refine jM (by first|assumption|decide) ?_|refine jN (by first|assumption|decide) ?_)|refine jO (λ_=>AD) ?_)
  refine⟨hS.mem (b:=lp),?_⟩;have hS:=hS.put (b:=lp) (lo .busy none);generalize w'.putObj lp (lo .busy none)=w11 at hS⊢;have hS:=hS;repeat(first|refine Ao.run AK ?_|((first|refine jA ?_ ?_|refine jB ?_ ?_|refine jC ?_ ?_|refine jD ?_ ?_);omega)|refine jE rfl ?_|refine jF (by first|omega|exact Bd AK rfl rfl|decide) ?_|(refine jG ?_;first|with_reducible (first|apply jH|apply jI|apply jJ|apply jK|apply jL)|refine jM AA ?_|refine jN AA ?_|with_reducible refine jM rfl ?_|refine jM (by first|assumption|decide) ?_|refine jN (by first|assumption|decide) ?_)|refine jO (λ_=>AD) ?_)
  obtain⟨g,off,rfl, -⟩:=FO ha (show 0<l.length by omega);have hiP:i<P.length:=AA;obtain⟨-,hPi⟩:=hPg i hiP;have hpt:=ht.piece i;have hmn:min 8 (l.length-i*8)=((l.drop (i*8)).take 8).length:=by rw[BR,Do]
  have hpa: ∀{w2:World}{H:AH},St w [] H w2→Arr w2 [] (some ⟨g,off+i*8*4,none⟩) (((l.drop (i*8)).take 8).flatMap AU):=by
   intro w2 H h;have h1:=Ou (h.arrOld ha) hc (p:=i*8) (n:=min 8 (l.length-i*8)) AA;unfold CV at h1;rw[if_neg AA]at h1;rw[hmn,show((l.drop (i*8)).take ((l.drop (i*8)).take 8).length)=(l.drop (i*8)).take 8 by rw[BR,←List.take_eq_take_min]]at h1;exact h1
  rw[hmn];have hplen:((l.drop (i*8)).take 8).length≤8∧0<((l.drop (i*8)).take 8).length:=AA;have hsucc:P.take (i+1)=P.take i++[(l.drop (i*8)).take 8]:=by rw[List.take_add_one,hPi];rfl
  have hid0:=hidx i;have hid1:=hidx (i+1);rw[hsucc,OR]at hid1;generalize hp:(l.drop (i*8)).take 8=p at hpt hpa hplen hsucc hid1⊢;have hbl:=hpt.block;have hlk:=sX hplen.2;have hkl:(p[p.length-1]'AA).k.length≤4096:=by
   have:=hpt.sz _ (Ca (show p.length-1<p.length by omega));unfold CS at this;omega
  unfold Kw at hid1;simp only at hid1;rw[hlk]at hid1;generalize hix:Da (P.take i) P.length=ix at hI hS hid0 hid1;obtain⟨xb,xa⟩:=ix;simp only at hI hS hid0 hid1;refine Cl.mono (Sq (hpa hS.nil) hpt.rise hpt.fine hpt.fit AA) ?_;rintro _ w13⟨rfl,hS'⟩;have hS:=hS.call0 hS';generalize hbb:E8 p=bb at hbl hid1⊢;repeat(first|refine Ao.run AK ?_|((first|refine jA ?_ ?_|refine jB ?_ ?_|refine jC ?_ ?_|refine jD ?_ ?_);omega)|refine jE rfl ?_|refine jF (by first|omega|exact Bd AK rfl rfl|decide) ?_|(refine jG ?_;first|with_reducible (first|apply jH|apply jI|apply jJ|apply jK|apply jL)|refine jM AA ?_|refine jN AA ?_|with_reducible refine jM rfl ?_|refine jM (by first|assumption|decide) ?_|refine jN (by first|assumption|decide) ?_)|refine jO (λ_=>AD) ?_|refine hS.ld rfl ?_|refine hS.ldn rfl ?_|(refine hS.q ?_;intro _ hS))
  refine hS.al ?_;intro b42 w14 _ hS;repeat(first|refine Ao.run AK ?_|((first|refine jA ?_ ?_|refine jB ?_ ?_|refine jC ?_ ?_|refine jD ?_ ?_);omega)|refine jE rfl ?_|refine jF (by first|omega|exact Bd AK rfl rfl|decide) ?_|(refine jG ?_;first|with_reducible (first|apply jH|apply jI|apply jJ|apply jK|apply jL)|refine jM AA ?_|refine jN AA ?_|with_reducible refine jM rfl ?_|refine jM (by first|assumption|decide) ?_|refine jN (by first|assumption|decide) ?_)|refine jO (λ_=>AD) ?_|refine hS.ld rfl ?_|refine hS.ldn rfl ?_|(refine hS.q ?_;intro _ hS))
  refine St.app (sz:=1) (m:=1) AK rfl rfl rfl rfl hS hV (news:=[AG bb]) rfl (by have:=hS.arr (b:=b42) (T':=[]) AB;exact this) rfl (by show(_+_)*16≤_;omega) AA ?_;intro a9 c9 L9 w15 hV hS;repeat(first|refine Ao.run AK ?_|((first|refine jA ?_ ?_|refine jB ?_ ?_|refine jC ?_ ?_|refine jD ?_ ?_);omega)|refine jE rfl ?_|refine jF (by first|omega|exact Bd AK rfl rfl|decide) ?_|(refine jG ?_;first|with_reducible (first|apply jH|apply jI|apply jJ|apply jK|apply jL)|refine jM AA ?_|refine jN AA ?_|with_reducible refine jM rfl ?_|refine jM (by first|assumption|decide) ?_|refine jN (by first|assumption|decide) ?_)|refine jO (λ_=>AD) ?_|refine hS.ld rfl ?_|refine hS.ldn rfl ?_|(refine hS.q ?_;intro _ hS))
  have hS:=hS.sub (AS _ _);refine Ao.draw AK mixed (λw'=>St w _ _ w') [9] [0,1,2,3,4,5,6,7,8,9] AD hS.drew ?_;have hS:=hS.drew;have hkc:w.cell? ⟨g,off+i*8*4+((p.length:Int)-1).toNat*4+0,none⟩=some (AG (p[p.length-1]'AA).k):=by
   obtain⟨g',o',h1,hx⟩:=FO (hpa (St.start w)) (show p.length-1<p.length by omega);simp only[Option.some.injEq,Addr.mk.injEq,and_true]at h1;obtain⟨rfl,rfl⟩:=h1;rw[show((p.length:Int)-1).toNat=p.length-1 by omega];exact hx 0 _ rfl
  generalize(p[p.length-1]'AA).k=k at hkc hkl hlk hid1;have htl:(Be k).length≤5000:=by
   have:=DL (n:=k.length) AA;unfold Be;rw[AP];omega
  refine jr ⟨?_⟩;refine hS.ldOldC AB hkc ?_;refine jr ⟨?_⟩;refine hS.al ?_;intro b52 w16 _ hS;refine Ae.mk (hS.sub (AS _ _)) ?_;refine Cl.mono (MO hI (hS.part (L:=Li)) (ss:=[k]) (hS.arr (b:=b52) (Cp hS)) (by simp[BG];omega)) ?_;rintro _ w17⟨Li2,hI,hS'⟩;have hS:=(hS.call (L:=Li) hS').sub (AS _ _);rw[show E3 [k]=Be k by simp[E3]]at hI;repeat(first|refine Ao.run AK ?_|((first|refine jA ?_ ?_|refine jB ?_ ?_|refine jC ?_ ?_|refine jD ?_ ?_);omega)|refine jE rfl ?_|refine jF (by first|omega|exact Bd AK rfl rfl|decide) ?_|(refine jG ?_;first|with_reducible (first|apply jH|apply jI|apply jJ|apply jK|apply jL)|refine jM AA ?_|refine jN AA ?_|with_reducible refine jM rfl ?_|refine jM (by first|assumption|decide) ?_|refine jN (by first|assumption|decide) ?_)|refine jO (λ_=>AD) ?_|refine hS.ld rfl ?_|refine hS.ldn rfl ?_|(refine hS.q ?_;intro _ hS))
  refine hS.al ?_;intro b57 w18 _ hS;repeat(first|refine Ao.run AK ?_|((first|refine jA ?_ ?_|refine jB ?_ ?_|refine jC ?_ ?_|refine jD ?_ ?_);omega)|refine jE rfl ?_|refine jF (by first|omega|exact Bd AK rfl rfl|decide) ?_|(refine jG ?_;first|with_reducible (first|apply jH|apply jI|apply jJ|apply jK|apply jL)|refine jM AA ?_|refine jN AA ?_|with_reducible refine jM rfl ?_|refine jM (by first|assumption|decide) ?_|refine jN (by first|assumption|decide) ?_)|refine jO (λ_=>AD) ?_|refine hS.ld rfl ?_|refine hS.ldn rfl ?_|(refine hS.q ?_;intro _ hS))
  refine Cl.mono (Gg hI (hS.part (L:=Li2)) (ns:=[xa]) (hS.arr (b:=b57) (Cp hS)) (by intro m hm;simp only[Cm]at hm;subst hm;omega) AB (by simp;omega)) ?_;rintro _ w19⟨Li3,hI,hS'⟩;have hS:=(hS.call (L:=Li2) hS').sub (AS _ _);rw[show([xa].map Ak).flatten=Ak xa by simp]at hI;repeat(first|refine Ao.run AK ?_|((first|refine jA ?_ ?_|refine jB ?_ ?_|refine jC ?_ ?_|refine jD ?_ ?_);omega)|refine jE rfl ?_|refine jF (by first|omega|exact Bd AK rfl rfl|decide) ?_|(refine jG ?_;first|with_reducible (first|apply jH|apply jI|apply jJ|apply jK|apply jL)|refine jM AA ?_|refine jN AA ?_|with_reducible refine jM rfl ?_|refine jM (by first|assumption|decide) ?_|refine jN (by first|assumption|decide) ?_)|refine jO (λ_=>AD) ?_|refine hS.ld rfl ?_|refine hS.ldn rfl ?_|(refine hS.q ?_;intro _ hS))
  have e1:((P.take (i+1)).map E8).map AG=((P.take i).map E8).map AG++[AG bb]:=by rw[hsucc];simp[hbb]
  have e2:Da (P.take (i+1)) P.length=(xb++(Be k++Ak xa),xa+8+bb.length):=by
   rw[hsucc,OR,hix];unfold Kw;rw[hlk,hbb]
  have e3:(xa:Int)+(8+(bb.length:Int))=((xa+8+bb.length:Nat):Int):=AA;rw[e3]at hS;refine⟨hS.mem (b:=lp),hK _ ⟨AA,a9,c9,L9,Li3,by rw[e1];exact hV,by rw[e2];simpa using hI,by rw[e2];exact hS.put (b:=lp) (lo .ready none)⟩⟩
 ·rintro _ w12(⟨i,hi,hile,a8,c8,L8,Li,hV,hI,hS⟩|hf)
  rotate_left
  ·exact hf.elim
  obtain rfl:i=P.length:=AA;refine⟨.ready,none,hS.mem (b:=lp),AC,?_⟩;have hS:=hS.put (b:=lp) (lo .exhausted none);generalize w12.putObj lp (lo .exhausted none)=w13 at hS⊢;have hS:=hS;have hid:=hidx P.length;have hsl:=ht.sum;have hpc:=ht.pcnt;have hok:=ht.ok;have htb:EA l=P.map E8++[(Da P P.length).1,Du (Cb l),Mt++(Ak (Da P P.length).2++Ak l.length)]:=by
   unfold EA Jz;rw[hP]
  have hnl:=Og l;have hnz:=uE ht;rw[Bz]at hV hI hS hid;generalize hix:Da P P.length=ix at hI hS hid htb;obtain⟨xb,xa⟩:=ix;simp only at hI hS hid htb;repeat(first|refine Ao.run AK ?_|((first|refine jA ?_ ?_|refine jB ?_ ?_|refine jC ?_ ?_|refine jD ?_ ?_);omega)|refine jE rfl ?_|refine jF (by first|omega|exact Bd AK rfl rfl|decide) ?_|(refine jG ?_;first|with_reducible (first|apply jH|apply jI|apply jJ|apply jK|apply jL)|refine jM AA ?_|refine jN AA ?_|with_reducible refine jM rfl ?_|refine jM (by first|assumption|decide) ?_|refine jN (by first|assumption|decide) ?_)|refine jO (λ_=>AD) ?_|refine hS.ld rfl ?_|refine hS.ldn rfl ?_|(refine hS.q ?_;intro _ hS))
  refine hS.al ?_;intro b70 w14 _ hS;repeat(first|refine Ao.run AK ?_|((first|refine jA ?_ ?_|refine jB ?_ ?_|refine jC ?_ ?_|refine jD ?_ ?_);omega)|refine jE rfl ?_|refine jF (by first|omega|exact Bd AK rfl rfl|decide) ?_|(refine jG ?_;first|with_reducible (first|apply jH|apply jI|apply jJ|apply jK|apply jL)|refine jM AA ?_|refine jN AA ?_|with_reducible refine jM rfl ?_|refine jM (by first|assumption|decide) ?_|refine jN (by first|assumption|decide) ?_)|refine jO (λ_=>AD) ?_|refine hS.ld rfl ?_|refine hS.ldn rfl ?_|(refine hS.q ?_;intro _ hS))
  refine Cl.mono (Gg hF (hS.part (L:=Lf)) (ns:=[xa,l.length]) (hS.arr (b:=b70) (Cp hS)) (by intro m hm;simp only[As,List.not_mem_nil,or_false]at hm;omega) AB AB) ?_;rintro _ w15⟨Lf2,hF,hS'⟩;have hS:=(hS.call (L:=Lf) hS').sub (AS _ _);rw[show []++([xa,l.length].map Ak).flatten=Ak xa++Ak l.length by simp]at hF;repeat(first|refine Ao.run AK ?_|((first|refine jA ?_ ?_|refine jB ?_ ?_|refine jC ?_ ?_|refine jD ?_ ?_);omega)|refine jE rfl ?_|refine jF (by first|omega|exact Bd AK rfl rfl|decide) ?_|(refine jG ?_;first|with_reducible (first|apply jH|apply jI|apply jJ|apply jK|apply jL)|refine jM AA ?_|refine jN AA ?_|with_reducible refine jM rfl ?_|refine jM (by first|assumption|decide) ?_|refine jN (by first|assumption|decide) ?_)|refine jO (λ_=>AD) ?_|refine hS.ld rfl ?_|refine hS.ldn rfl ?_|(refine hS.q ?_;intro _ hS))
  have hsub: ∀(L R:AH),List.Sublist ((lp,lo .exhausted none)::(D,Obj.deferred (some []))::(b3,.cells ⟨[.int .i64 8]⟩ BP (0,0))::(b2,.cells ⟨[.slice a l.length c]⟩ GR (0,0))::(b9,.cells ⟨[.int .i64 xa]⟩ BP (0,0))::
    (b8,.cells ⟨[.slice a8 P.length c8]⟩ Nj (0,0))::R) ((lp,lo .exhausted none)::(D,Obj.deferred (some []))::(b3,.cells ⟨[.int .i64 8]⟩ BP (0,0))::(b2,.cells ⟨[.slice a l.length c]⟩ GR (0,0))::(b9,.cells ⟨[.int .i64 xa]⟩ BP (0,0))::
    (b8,.cells ⟨[.slice a8 P.length c8]⟩ Nj (0,0))::(L++R)):=λL R=> .cons_cons _ (.cons_cons _ (.cons_cons _ (.cons_cons _ (.cons_cons _ (.cons_cons _ (Ah _ _))))))
  refine Ao.draw AK mixed (λw'=>St w _ _ w') [11] [0,1,3,6,2,4,5,7,8,9,10,11] AD (hS.drew.sub (hsub L8 _)) ?_;have hS0:=hS.drew;have hS:=hS0.sub (hsub L8 _);refine jr ⟨?_⟩;have hS:=hS0;refine Cl.mono (Lz hI (hS.part (L:=Li))) ?_;rintro _ w16⟨rfl,hS'⟩;have hS:=hS.call (L:=Li) hS';refine Ae.mk (hS.sub (hsub L8 _)) ?_;refine jr ⟨?_⟩;refine Cl.mono (uI (hS.nil.arrOld ha) AA) ?_;rintro _ w17⟨an,cn,Ln,rfl,hVn,hS'⟩
  have hS:=hS.callNew hS';refine Ae.mk (hS.sub ((hsub L8 _).trans (Ah _ _))) ?_;refine jr ⟨?_⟩;refine Cl.mono (Yw (keys:=Cb l) (hVn.arr hS AB) AA (λk hk=>by have:=hnz k hk;omega)) ?_;rintro _ w18⟨rfl,hS'⟩;have hS:=hS.call0 hS';have hS:=hS.sub (Ah _ _);refine Ae.mk (hS.sub (hsub L8 _)) ?_;have hbl:=Tw (Cb l) AA;generalize Du (Cb l)=bl at hbl htb⊢;refine jr ⟨?_⟩;refine Cl.mono (Lz hF (hS.part (L:=Lf2))) ?_
  rintro _ w19⟨rfl,hS'⟩;have hS:=hS.call (L:=Lf2) hS';refine Ae.mk (hS.sub (hsub L8 _)) ?_;have hnx:=DL (n:=xa) AA;have hny:=DL (n:=l.length) AA;generalize hft:Ak xa++Ak l.length=ft at htb⊢;have hfl:ft.length≤20:=by rw[←hft,AP];omega
  refine jr ⟨?_⟩;refine Ae.mk (by simp;omega) ?_;refine jr ⟨?_⟩;refine hS.al ?_;intro b81 w20 _ hS;refine Ae.mk (hS.sub ((hsub L8 _).trans (AS _ _))) ?_;refine jr ⟨?_⟩;refine St.app (sz:=1) (m:=3) AK rfl rfl rfl rfl hS hV (news:=[AG xb,AG bl,AG (Mt++ft)]) rfl (by have:=hS.arr (b:=b81) (T':=[]) AB;exact this) rfl (by show(_+_)*16≤_;omega) AA ?_;intro a9 c9 L9 w21 hV hS;have hS:=hS.sub (AS _ _);refine Ae.mk (hS.sub (hsub L9 _)) ?_
  refine jr ⟨?_⟩;repeat(first|refine Ao.run AK ?_|((first|refine jA ?_ ?_|refine jB ?_ ?_|refine jC ?_ ?_|refine jD ?_ ?_);omega)|refine jE rfl ?_|refine jF (by first|omega|exact Bd AK rfl rfl|decide) ?_|(refine jG ?_;first|with_reducible (first|apply jH|apply jI|apply jJ|apply jK|apply jL)|refine jM AA ?_|refine jN AA ?_|with_reducible refine jM rfl ?_|refine jM (by first|assumption|decide) ?_|refine jN (by first|assumption|decide) ?_)|refine jO (λ_=>AD) ?_|refine hS.ld rfl ?_|refine hS.ldn rfl ?_|(refine hS.q ?_;intro _ hS))
  have hlen3:P.length+3=(EA l).length:=by rw[htb];simp
  have htb2:(P.map E8).map AG++[AG xb,AG bl,AG (Mt++ft)]=(EA l).map AG:=by rw[htb];simp
  rw[htb2]at hV;rw[hlen3]at hV hS⊢;refine Cl.mono (Pi (ps:=EA l) AA (hV.arr hS AB)) ?_;rintro _ w22⟨rfl,hS'⟩;have hS:=hS.call0 hS';rw[hok,if_pos rfl];repeat(first|refine Ao.run AK ?_|((first|refine jA ?_ ?_|refine jB ?_ ?_|refine jC ?_ ?_|refine jD ?_ ?_);omega)|refine jE rfl ?_|refine jF (by first|omega|exact Bd AK rfl rfl|decide) ?_|(refine jG ?_;first|with_reducible (first|apply jH|apply jI|apply jJ|apply jK|apply jL)|refine jM AA ?_|refine jN AA ?_|with_reducible refine jM rfl ?_|refine jM (by first|assumption|decide) ?_|refine jN (by first|assumption|decide) ?_)|refine jO (λ_=>AD) ?_|refine hS.ld rfl ?_|refine hS.ldn rfl ?_|(refine hS.q ?_;intro _ hS))
  have hS:=hS.put (b:=D) (.deferred none);refine⟨(by assumption:St w [] _ _).mem (b:=D),rfl,hS.nil⟩
structure Fi(w:World)(tb:Nat)(l:List AF)(a:Option Addr)(c nb:Nat):Prop where
 cells:Arr w [] (some ⟨tb,0,none⟩) [.int .i64 l.length,.int .i64 nb,.slice a l.length c,AG (Du (Cb l))]
 ents:Arr w [] a (l.flatMap AU)
 cap:l.length≤c
 addr:a=none∨ ∃g,a=some ⟨g,0,none⟩
theorem Fi.old{w w':World}{H:AH}(hS:St w [] H w'){tb:Nat}{l:List AF}{a:Option Addr}{c nb:Nat}(h:Fi w tb l a c nb):Fi w' tb l a c nb:=⟨hS.arrOld h.cells,hS.arrOld h.ents,h.cap,h.addr⟩
theorem yU{k:AE}{s:Int}{l:List AF}(hr:Az l){i:Nat}(h:i<l.length):EW l[i] k s=decide (i<(CY k s l).length):=by
 have e:=GH k s l;by_cases hi:i<(CY k s l).length
 ·rw[decide_eq_true hi];have:l[i]=(CY k s l)[i]:=by
   have h2:i<(CY k s l++Br k s l).length:=by rw[e];exact h
   have h3:(CY k s l++Br k s l)[i]=l[i]:=by congr 1
   rw[←h3,List.getElem_append_left hi]
  rw[this];exact NM k s l _ (Ca hi)
 ·rw[decide_eq_false hi];have h2:i<(CY k s l++Br k s l).length:=by rw[e];exact h
  have h3:(CY k s l++Br k s l)[i]=l[i]:=by congr 1
  refine Ks hr _ ?_;rw[←h3,List.getElem_append_right AA];exact Ca _
theorem SO(k:AE)(s:Int)(l:List AF):(CY k s l).length≤l.length:=by
 have:=congrArg List.length (GH k s l);rw[AP]at this;omega
def Rj(b3 b4 b5:Nat):Value:= .func (.func VA) ⟨[]⟩ ⟨[ptr b3,ptr b4,ptr b5]⟩
theorem vY{w:World}{tb b3 b4 b5:Nat}{l:List AF}{a:Option Addr}{c nb:Nat}{k:AE}{s:Int}(hT:Fi w tb l a c nb)(h3:w.cell? ⟨b3,0,none⟩=some (ptr tb))(h4:w.cell? ⟨b4,0,none⟩=some (AG k))(h5:w.cell? ⟨b5,0,none⟩=some (.int .i64 s)){i:Nat}(hi:i<l.length)(hl:l.length≤1099511627776):
  Cl Tryz.prog VA [.int .i64 i,ptr b3,ptr b4,ptr b5] w λv w'=>v= .bool (!EW l[i] k s)∧St w [] [] w':=by
 have hS:=St.start w;obtain⟨g,off,rfl,hx⟩:=FO hT.ents hi;have hc2:=hT.cells 2 _ rfl;obtain⟨g2,o2,e2, -,hc2⟩:=hc2;simp only[Option.some.injEq,Addr.mk.injEq,and_true]at e2;obtain⟨rfl,rfl⟩:=e2;generalize l[i]=u at hx;refine j7 rfl ?_;unfold EW;refine jq ⟨?_⟩;refine hS.ldOld AB h3 ?_;refine jq ⟨?_⟩;refine hS.ldOld AB (by simpa using hc2) ?_;refine jq ⟨?_⟩;refine IQ (cs:=[AG u.k,.int .i64 u.s,.bool u.d,AG u.v]) rfl (λj x hj=>hS.oldCell AB (by have:=hx j x hj;rw[show off+((i:Int)).toNat*4+j=off+i*4+j by omega];exact this)) ?_
 refine jq ⟨?_⟩;refine hS.al ?_;intro b6 w2 _ hS;(repeat(refine jt ⟨?_⟩;refine hS.q ?_;intro _ hS));refine jt ⟨?_⟩;refine hS.ldOld AB h4 ?_;cases hB:(Op.bytesLess u.k k||decide (u.k=k))with
 |false=>
  have h6:(Op.bytesLess u.k k||decide (u.k=k)&&decide (s<u.s))=false:=by
   rw[Bool.or_eq_false_iff]at hB⊢;exact⟨hB.1,by rw[hB.2];rfl⟩
  rw[h6];(repeat(refine jt ⟨?_⟩;refine hS.q ?_;intro _ hS));refine jt ⟨?_⟩;repeat(refine Ax.eqf hB ?_;(repeat(refine jt ⟨?_⟩;refine hS.q ?_;intro _ hS));refine jt ⟨?_⟩)
  exact⟨rfl,hS.nil⟩
 |true=>
  (repeat(refine jt ⟨?_⟩;refine hS.q ?_;intro _ hS));refine jt ⟨?_⟩;repeat(refine Ax.eqt hB ?_;(repeat(refine jt ⟨?_⟩;refine hS.q ?_;intro _ hS));refine jt ⟨?_⟩)
  refine hS.ldOld AB h4 ?_;by_cases hk:u.k=k
  ·(repeat(refine jt ⟨?_⟩;refine hS.q ?_;intro _ hS));refine jt ⟨?_⟩;refine hS.ldOld AB h5 ?_;(repeat(refine jt ⟨?_⟩;refine hS.q ?_;intro _ hS));refine jt ⟨?_⟩;have h7:Op.bytesLess u.k k=false:=by rw[hk];exact F4 k
   refine⟨?_,hS.nil⟩;rw[h7,decide_eq_true hk];by_cases hs:u.s≤s
   ·simp[hs,Int.not_lt.2 hs]
   ·simp[hs,Int.not_le.1 hs]
  ·(repeat(refine jt ⟨?_⟩;refine hS.q ?_;intro _ hS));refine jt ⟨?_⟩;have h7:Op.bytesLess u.k k=true:=by simpa[hk]using hB
   exact⟨by simp[h7],hS.nil⟩
theorem Z4{w:World}{tb b3 b4 b5:Nat}{l:List AF}{a:Option Addr}{c nb:Nat}{k:AE}{s:Int}(hT:Fi w tb l a c nb)(hr:Az l)(h3:w.cell? ⟨b3,0,none⟩=some (ptr tb))(h4:w.cell? ⟨b4,0,none⟩=some (AG k))(h5:w.cell? ⟨b5,0,none⟩=some (.int .i64 s))(hl:l.length≤1099511627776):
  Cl Tryz.prog o6 [.int .i64 l.length,Rj b3 b4 b5] w λv w'=>v= .int .i64 (CY k s l).length∧St w [] [] w':=by
 have hS:=St.start w;have hle:=SO k s l;refine hZ rfl ?_;refine jq ⟨?_⟩;refine AL.loop (λi:Nat×Nat=>[(1,Rj b3 b4 b5),(5,.int .i64 i.1),(6,.int .i64 i.2)])
  (λi w'=>(i.1≤(CY k s l).length∧(CY k s l).length≤i.2∧i.2≤l.length)∧St w [] [] w') (λi=>i.2-i.1) (0,l.length)
  ⟨rfl,rfl,rfl,trivial⟩ ⟨⟨Ag _,hle,AV _⟩,hS⟩ ?_
 clear hS;rintro⟨i,j⟩w1⟨⟨h1,h2,h6⟩,hS⟩;simp only at h1 h2 h6 hS⊢;by_cases hij:i<j
 ·have hm:(i+j) / 2<l.length:=AA;have hg:=yU (k:=k) (s:=s) hr hm;have hf:=λw'(hS':St w [] [] w')=>vY (w:=w') (i:=(i+j) / 2) (hT.old hS') (hS'.oldCell AB h3) (hS'.oldCell AB h4) (hS'.oldCell AB h5) hm hl;rw[hg]at hf;have hdv:((i:Int)+(j:Int)).fdiv (2 ^ (min (1:Int).toNat IntKind.u64.bits))=(((i+j) / 2:Nat):Int):=by
   rw[show(i:Int)+(j:Int)=((i+j:Nat):Int) by simp,show min (1:Int).toNat IntKind.u64.bits=1 from rfl,Io]
  unfold Rj;refine jq ⟨?_⟩;rw[hdv];generalize hq:(i+j) / 2=q at hf hm;refine jq ⟨?_⟩;refine(hf _ hS).mono ?_;rintro _ w2⟨rfl,hS'⟩;have hS:=hS.call0 hS';by_cases hqm:q<(CY k s l).length
  ·refine jq ⟨?_⟩;exact⟨(q+1,j),⟨rfl,rfl,rfl,trivial⟩,⟨⟨hqm,h2,h6⟩,hS⟩,by simp only;omega⟩
  ·refine jq ⟨?_⟩;exact⟨(i,q),⟨rfl,rfl,rfl,trivial⟩,⟨⟨h1,by simp only;omega,by simp only;omega⟩,hS⟩,by simp only;omega⟩
 ·refine jq ⟨?_⟩;exact⟨by rw[show i=(CY k s l).length by omega],hS⟩
theorem Zd{w:World}{tb:Nat}{l:List AF}{a:Option Addr}{c nb:Nat}{k:AE}(hT:Fi w tb l a c nb)(hk:k.length≤1099511627776)(hb:(Du (Cb l)).length≤1099511627776):
  Cl Tryz.prog pY [ptr tb,AG k] w λv w'=>v= .bool (IU (Du (Cb l)) k)∧St w [] [] w':=by
 have hS:=St.start w;obtain⟨g2,o2,e2, -,hc2⟩:=hT.cells 3 _ rfl;simp only[Option.some.injEq,Addr.mk.injEq,and_true]at e2;obtain⟨rfl,rfl⟩:=e2;refine j5 rfl ?_;refine jq ⟨?_⟩;refine hS.ldOld AB (by simpa using hc2) ?_;refine jq ⟨?_⟩;refine(Ze _ k hb hk _).mono ?_;rintro _ w1⟨rfl,hS'⟩;have hS:=hS.call0 hS';refine jq ⟨?_⟩;exact⟨rfl,hS⟩
theorem XO{w:World}{tb:Nat}{l:List AF}{a:Option Addr}{c nb:Nat}{k:AE}{s:Int}(hT:Fi w tb l a c nb)(hr:Az l)(hl:l.length≤1099511627776):
  Cl Tryz.prog pZ [ptr tb,AG k,.int .i64 s] w λv w'=>v= .int .i64 (CY k s l).length∧St w [] [] w':=by
 have hS:=St.start w;obtain⟨g2,o2,e2, -,hc2⟩:=hT.cells 2 _ rfl;simp only[Option.some.injEq,Addr.mk.injEq,and_true]at e2;obtain⟨rfl,rfl⟩:=e2;refine j6 rfl ?_;refine jq ⟨?_⟩;refine hS.al ?_;intro b3 w1 _ hS;refine jq ⟨?_⟩;refine hS.al ?_;intro b4 w2 _ hS;refine jq ⟨?_⟩;refine hS.al ?_;intro b5 w3 _ hS;(repeat(refine jt ⟨?_⟩;refine hS.q ?_;intro _ hS));refine jt ⟨?_⟩;refine hS.ldOld AB (by simpa using hc2) ?_
 refine jq ⟨?_⟩;refine Bk.of rfl ?_;refine jq ⟨?_⟩;refine(Z4 (b3:=b3) (b4:=b4) (b5:=b5) (w:=w3) ⟨hS.arrOld hT.cells,hS.arrOld hT.ents,hT.cap,hT.addr⟩ hr (hS.cell (b:=b3) rfl) (hS.cell (b:=b4) rfl) (hS.cell (b:=b5) rfl) hl).mono ?_;rintro _ w4⟨rfl,hS'⟩;have hS:=hS.call0 hS';refine jq ⟨?_⟩;exact⟨rfl,hS.nil⟩
theorem Yu{w:World}{tb:Nat}{l:List AF}{a:Option Addr}{c nb:Nat}(hT:Fi w tb l a c nb)(hl:l.length≤16777216):
  Cl Tryz.prog pV [ptr tb] w λv w'=>∃a' c' L,v= .slice a' l.length c'∧AT Aq 4 a' l.length c' (l.flatMap AU) L∧St w [] L w':=by
 have hS:=St.start w;obtain⟨g2,o2,e2, -,hc2⟩:=hT.cells 2 _ rfl;simp only[Option.some.injEq,Addr.mk.injEq,and_true]at e2;obtain⟨rfl,rfl⟩:=e2;refine jY rfl ?_;refine jq ⟨?_⟩;refine hS.ldOld AB (by simpa using hc2) ?_;refine jq ⟨?_⟩;refine(PT (hS.arrOld hT.ents) hl).mono ?_;rintro _ w1⟨a',c',L,rfl,hv,hS'⟩;have hS:=hS.callNew hS';rw[BU]at hS;refine jq ⟨?_⟩;exact⟨a',c',L,rfl,hv,hS⟩
theorem SQ(k:AE)(s:Int)(l:List AF):l.drop (CY k s l).length=Br k s l:=by
 conv=>lhs;rw[←GH k s l]
 rw[List.drop_left' (by rw[GH])]
theorem Y9{w:World}{tb:Nat}{l:List AF}{a:Option Addr}{c nb:Nat}{k:AE}(hT:Fi w tb l a c nb)(hr:Az l)(hl:l.length≤16777216):
  Cl Tryz.prog pW [ptr tb,AG k] w λv w'=>∃a' c' L,v= .slice a' (Br k 9223372036854775807 l).length c'∧AT Aq 4 a' (Br k 9223372036854775807 l).length c' ((Br k 9223372036854775807 l).flatMap AU) L∧St w [] L w':=by
 have hS:=St.start w;obtain⟨g2,o2,e2, -,hc2⟩:=hT.cells 2 _ rfl;simp only[Option.some.injEq,Addr.mk.injEq,and_true]at e2;obtain⟨rfl,rfl⟩:=e2;have hle:=SO k 9223372036854775807 l;refine jZ rfl ?_;refine jq ⟨?_⟩;refine AL.draw AK mixed (λw'=>St w _ _ w') [8,9] [0,1,2,3,4,5,6,7,8,9] AD hS.drew ?_;have hS:=hS.drew;refine jr ⟨?_⟩;refine hS.ldOldC AB (by simpa using hc2) ?_;refine jr ⟨?_⟩;refine(XO (s:=9223372036854775807) ⟨hS.arrOld hT.cells,hS.arrOld hT.ents,hT.cap,hT.addr⟩ hr AA).mono ?_
 rintro _ w1⟨rfl,hS'⟩;have hS:=hS.call0 hS';refine Ae.mk hS ?_;have hdr:=SQ k 9223372036854775807 l;have hlen:=congrArg List.length (GH k 9223372036854775807 l);rw[AP]at hlen;have hcap:=hT.cap;have hents:=hT.ents;rcases hT.addr with rfl|⟨g,rfl⟩
 ·have hl0:l=[]:=by
   cases l with
   |nil=>rfl
   |cons x l=>obtain⟨g,off,h, -⟩:=hents.get (j:=0) (by rw[Hi,Ai];omega);cases h
  subst hl0;refine jr ⟨?_⟩;refine(PT (l:=[]) (Arr.nil _ _ _) (Ag _)).mono ?_;rintro _ w2⟨a',c',L,rfl,hv,hS'⟩;have hS:=hS.callNew hS';rw[BU]at hS;refine jr ⟨?_⟩;refine jq ⟨?_⟩;exact⟨a',c',L,rfl,hv,hS⟩
 ·have hpart:=Ou (hS.arrOld hents) hcap (p:=(CY k 9223372036854775807 l).length) (n:=l.length-(CY k 9223372036854775807 l).length) AA;rw[hdr,HO AA]at hpart;generalize(CY k 9223372036854775807 l).length=m at hlen hle hpart;generalize Br k 9223372036854775807 l=F at hlen hpart⊢;refine jr ⟨?_⟩;rw[show((m:Int)).toNat=m by omega,show l.length-m=F.length by omega];refine(PT (c:=c-m) hpart AA).mono ?_;rintro _ w2⟨a',c',L,rfl,hv,hS'⟩
  have hS:=hS.callNew hS';rw[BU]at hS;refine jr ⟨?_⟩;refine jq ⟨?_⟩;exact⟨a',c',L,rfl,hv,hS⟩
theorem tM{l:List AF}{k:AE}{s:Int}(h:IU (Du (Cb l)) k=false):DH l k s=none:=by
 unfold DH;cases hf:Br k s l with
 |nil=>rfl
 |cons x r=>
  simp only
  split
  ·rename_i hx;have hm:x∈l:=by rw[←GH k s l,hf];simp
   rw[←hx,tN (uB hm)]at h;cases h
  ·rfl
theorem rR{l:List AF}{k:AE}{s:Int}(h:(CY k s l).length=l.length):DH l k s=none:=by
 have e:=SQ k s l;rw[h,IJ]at e;unfold DH;rw[←e]
theorem rQ{l:List AF}{k:AE}{s:Int}(h:(CY k s l).length<l.length):DH l k s=if l[(CY k s l).length].k=k then some l[(CY k s l).length]else none:=by
 have e:=SQ k s l;rw[FQ h]at e;unfold DH;rw[←e]
theorem ZK{w:World}{tb:Nat}{l:List AF}{a:Option Addr}{c nb:Nat}{k:AE}{s:Int}(hT:Fi w tb l a c nb)(hr:Az l)(hl:l.length≤16777216)(hk:k.length≤1099511627776)(hb:(Du (Cb l)).length≤1099511627776):
  Cl Tryz.prog pX [ptr tb,AG k,.int .i64 s] w λv w'=>v=QT (DH l k s)∧St w [] [] w':=by
 have hS:=St.start w;obtain⟨g2,o2,e2, -,hc2⟩:=hT.cells 2 _ rfl;simp only[Option.some.injEq,Addr.mk.injEq,and_true]at e2;obtain⟨rfl,rfl⟩:=e2;have hle:=SO k s l;refine j0 rfl ?_;refine jq ⟨?_⟩;refine hS.al ?_;intro b6 w1 _ hS;refine jq ⟨?_⟩;refine(Zd (Fi.old hS hT) hk hb).mono ?_;rintro _ w2⟨rfl,hS'⟩;have hS:=hS.call0 hS';cases hm:IU (Du (Cb l)) k with
 |false=>
  rw[tM hm];(repeat(refine jt ⟨?_⟩;refine hS.q ?_;intro _ hS));refine jt ⟨?_⟩;exact⟨rfl,hS.nil⟩
 |true=>
  refine jq ⟨?_⟩;refine(XO (Fi.old hS hT) hr AA).mono ?_;rintro _ w3⟨rfl,hS'⟩;have hS:=hS.call0 hS';by_cases he:(CY k s l).length=l.length
  ·rw[rR he];(repeat(refine jt ⟨?_⟩;refine hS.q ?_;intro _ hS));refine jt ⟨?_⟩;refine hS.ldOld AB (by simpa using hc2) ?_;(repeat(refine jt ⟨?_⟩;refine hS.q ?_;intro _ hS));refine jt ⟨?_⟩;exact⟨rfl,hS.nil⟩
  ·have hlt:(CY k s l).length<l.length:=AA;rw[rQ hlt];obtain⟨g,off,rfl,hx⟩:=FO hT.ents hlt;generalize(CY k s l).length=m at hlt hx he⊢;generalize hu:l[m]=u at hx⊢;(repeat(refine jt ⟨?_⟩;refine hS.q ?_;intro _ hS));refine jt ⟨?_⟩;refine hS.ldOld AB (by simpa using hc2) ?_;(repeat(refine jt ⟨?_⟩;refine hS.q ?_;intro _ hS));refine jt ⟨?_⟩;refine hS.ldOld AB (by simpa using hc2) ?_;(repeat(refine jt ⟨?_⟩;refine hS.q ?_;intro _ hS));refine jt ⟨?_⟩
   refine hS.ldOld AB (by have:=hx 0 _ rfl;rw[show off+((m:Int)).toNat*4+0=off+m*4+0 by omega];exact this) ?_;by_cases hku:u.k=k
   ·rw[if_pos hku];(repeat(refine jt ⟨?_⟩;refine hS.q ?_;intro _ hS));refine jt ⟨?_⟩;refine hS.ldOld AB (by simpa using hc2) ?_;(repeat(refine jt ⟨?_⟩;refine hS.q ?_;intro _ hS));refine jt ⟨?_⟩;refine IQ (cs:=[AG u.k,.int .i64 u.s,.bool u.d,AG u.v]) rfl (λj x hj=>hS.oldCell AB (by have:=hx j x hj;rw[show off+((m:Int)).toNat*4+j=off+m*4+j by omega];exact this)) ?_;(repeat(refine jt ⟨?_⟩;refine hS.q ?_;intro _ hS));refine jt ⟨?_⟩
    exact⟨rfl,hS.nil⟩
   ·rw[if_neg hku];(repeat(refine jt ⟨?_⟩;refine hS.q ?_;intro _ hS));refine jt ⟨?_⟩;exact⟨rfl,hS.nil⟩
end Go.Proofs.YtkgibdhpijdbfaaGreatDoor
