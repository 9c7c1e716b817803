/- Texts of this claim, one behind the other. -/
import Derived.Test.YtkgibdhpijdbfaaGreatDoorZ14
import Derived.Test.YtkgibdhpijdbfaaGreatDoorZ16
import Derived.Test.YtkgibdhpijdbfaaGreatDoorZ13
import Derived.Test.YtkgibdhpijdbfaaGreatDoorZ3
import Derived.WideLaws
import Derived.Test.YtkgibdhpijdbfaaGreatDoorZ4
import Derived.Test.YtkgibdhpijdbfaaGreatDoorZ11
import Derived.Test.YtkgibdhpijdbfaaGreatDoorZ6
import Derived.Test.YtkgibdhpijdbfaaGreatDoorRows
import Derived.Test.YtkgibdhpijdbfaaGreatDoorZ9
set_option linter.unusedVariables false
set_option linter.unusedSimpArgs false
set_option maxHeartbeats 16000000
namespace Go.Proofs.YtkgibdhpijdbfaaGreatDoor
open Go Go.Eng Go.Proofs Go.Srt
theorem St.tl2{w0 w:World}{T:List Nat}{p q:Nat×Obj}{R:AH}(hS:St w0 T (p::q::R) w):St w0 T R w:=hS.sub ((AS _ _).trans (AS _ _))
theorem St.tl1{w0 w:World}{T:List Nat}{p:Nat×Obj}{R:AH}(hS:St w0 T (p::R) w):St w0 T R w:=hS.sub (AS _ _)
theorem St.midA{w0 w:World}{T:List Nat}{q:Nat×Obj}{L2 L R:AH}(hS:St w0 T (L2++q::(L++R)) w):St w0 T (L2++R) w:=hS.sub (List.Sublist.append_left ((Ah L R).trans (AS q _)) L2)
theorem wY{w:World}{b:Nat}{f:Af}(hf:Arr w [] (some ⟨b,0,none⟩) (Ad f))(x:Af):Cl Tryz.prog Us [Fo x,ptr b] w λv w'=>v= .bool (x.2==f.2)∧St w [] [] w':=by
 have hS:=St.start w;unfold Fo Ad;refine eX rfl ?_;refine jq ⟨?_⟩;refine hS.al ?_;intro b2 w2 _ hS;(repeat(refine jt ⟨?_⟩;refine hS.q ?_;intro _ hS));refine jt ⟨?_⟩;refine Arr.ldc hS hf (j:=1) (v:= .int .i64 f.2) rfl rfl ?_;(repeat(refine jt ⟨?_⟩;refine hS.q ?_;intro _ hS));refine jt ⟨?_⟩;refine⟨?_,hS.nil⟩;rw[Value.bool.injEq];rfl
def MQ(b:Nat):Value:= .func (.func Us) ⟨[]⟩ ⟨[ptr b]⟩
theorem sE{w:World}{a:Option Addr}{cap b:Nat}{l:List Af}{f:Af}(ha:Fe w a cap l)(hf:Arr w [] (some ⟨b,0,none⟩) (Ad f))(hlen:l.length≤16777216):
  Cl Tryz.prog oU [.slice a l.length cap,MQ b] w λv w'=>(∃n,v= .int .i64 n∧(0≤n↔Dx l f.2=true))∧St w [] [] w':=by
 have hS:=St.start w;have hcl:=G4 l;refine gW rfl ?_;refine jq ⟨?_⟩;refine AL.loop (λk:Nat=>[(0,.slice a l.length cap),(1,MQ b),(7,.int .i64 l.length),(8,.int .i64 k)])
  (λk w'=>(k≤l.length∧Dx (l.take k) f.2=false)∧St w [] [] w') (λk=>l.length-k) 0
  ⟨rfl,rfl,rfl,rfl,trivial⟩ ⟨⟨Ag _,rfl⟩,hS⟩ ?_
 clear hS;rintro k w1⟨⟨hk,hno⟩,hS⟩;by_cases hkl:k<l.length
 ·obtain⟨g,off,rfl⟩:=ha.pos AA;have hat:=ha.at hkl;have hsucc:=Bs hkl;have hmem:l[k]∈l:=Ca hkl;generalize l[k]=x at hat hsucc hmem;unfold MQ;refine jq ⟨?_⟩;refine Arr.ldn hS ha.arr rfl (k:=k*2) hat rfl ?_;refine jq ⟨?_⟩;refine(wY (hS.arrOld hf) x).mono ?_;rintro _ w2⟨rfl,hS'⟩;have hS:=hS.call0 hS';by_cases hx:x.2=f.2
  ·rw[beq_iff_eq.2 hx];refine jq ⟨?_⟩;refine⟨⟨_,rfl,?_⟩,hS⟩;have:Dx l f.2=true:=by
    unfold Dx;rw[List.any_eq_true];exact⟨x,hmem,beq_iff_eq.2 hx⟩
   rw[this];simp
  ·rw[beq_eq_false_iff_ne.2 hx];refine jq ⟨?_⟩;refine⟨k+1,⟨rfl,rfl,rfl,rfl,trivial⟩,⟨⟨AA,?_⟩,hS⟩,AA⟩;rw[hsucc];unfold Dx at hno⊢;rw[List.any_append,hno];simp[hx]
 ·have hke:k=l.length:=AA;rw[hke,Bz]at hno;refine jq ⟨?_⟩;refine⟨⟨_,rfl,?_⟩,hS⟩;rw[hno];simp
theorem cL{w:World}{a:Option Addr}{cap b:Nat}{l:List Af}{f:Af}(ha:Fe w a cap l)(hf:Arr w [] (some ⟨b,0,none⟩) (Ad f))(hlen:l.length≤16777216):
  Cl Tryz.prog oR [.slice a l.length cap,MQ b] w λv w'=>v= .bool (Dx l f.2)∧St w [] [] w':=by
 refine gT rfl ?_;unfold MQ;refine jq ⟨?_⟩;refine(sE ha hf hlen).mono ?_;rintro _ w1⟨⟨n,rfl,hn⟩,hS⟩;refine jq ⟨?_⟩;refine⟨?_,hS⟩;rw[Value.bool.injEq,Bool.eq_iff_iff,decide_eq_true_iff];exact hn
def DC(a:Option Addr)(ca:Nat)(v:VM):List Value:=[.slice a v.files.length ca,.int .i64 v.wal,.int .i64 v.next,.int .i64 v.seq]
structure G0(w:World)(a:Option Addr)(ca:Nat)(v:VM):Prop where
 files:Fe w a ca v.files
 rng: -9223372036854775808≤v.wal∧v.wal≤9223372036854775807∧ -9223372036854775808≤v.next∧v.next≤9223372036854775807∧ -9223372036854775808≤v.seq∧v.seq≤9223372036854775807
def Cu:VM:=⟨[],0,0,0⟩
structure Dt(a:Option Addr)(ca:Nat)(v:VM)(L:AH):Prop where
 vec:AT BE 2 a v.files.length ca (v.files.flatMap Ad) L
 rng: -9223372036854775808≤v.wal∧v.wal≤9223372036854775807∧ -9223372036854775808≤v.next∧v.next≤9223372036854775807∧ -9223372036854775808≤v.seq∧v.seq≤9223372036854775807
theorem Dt.at{w0 w:World}{T:List Nat}{H L:AH}{F:AH→AH}{a:Option Addr}{ca:Nat}{v:VM}(h:Dt a ca v L)(hS:St w0 T H w) [hc:Chunk H L F]:G0 w a ca v:=⟨Km hS h.vec,h.rng⟩
def PQ(o:Option VM)(r:Value)(w w':World):Prop:=match o with
 |none=>r= .tuple ⟨[.agg ⟨DC none 0 Cu⟩,.bool false]⟩∧St w [] [] w'
 |some v'=>∃a' c' L,r= .tuple ⟨[.agg ⟨DC a' c' v'⟩,.bool true]⟩∧Dt a' c' v' L∧St w [] L w'
structure FI where
 fs:List Af
 k:Nat
 a:Option Addr
 c:Nat
set_option maxRecDepth 4000 in
theorem Tq{w:World}{a x y:Option Addr}{ca cx cy:Nat}{v:VM}{e:EM}(hv:G0 w a ca v)(he:Hc w x y cx cy e)(hlen:v.files.length+e.add.length≤16777216):
  Cl Tryz.prog mZ [.agg ⟨DC a ca v⟩,.agg ⟨Dv x y cx cy e⟩] w λr w'=>PQ (BQ v e) r w w':=by
 have hS:=St.start w;have hel:=he.len;have her:=he.rng;have hvr:=hv.rng;unfold DC Dv;refine eW rfl ?_;refine jq ⟨?_⟩;refine hS.al ?_;intro b2 w1 _ hS;refine jq ⟨?_⟩;refine hS.al ?_;intro b3 w2 _ hS;refine jq ⟨?_⟩;refine hS.al ?_;intro b4 w3 _ hS;(repeat(refine jt ⟨?_⟩;refine hS.q ?_;intro _ hS));refine jt ⟨?_⟩;refine(Rx (he.keep hS)).mono ?_;rintro _ w4⟨rfl,hS'⟩;have hS:=hS.call0 hS';by_cases hr:DA e=true
 ·rw[hr];by_cases hn:e.next<v.next
  ·have hnone:BQ v e=none:=by
    unfold BQ GG;rw[show decide (v.next≤e.next)=false from decide_eq_false AA];simp
   (repeat(refine jt ⟨?_⟩;refine hS.q ?_;intro _ hS));refine jt ⟨?_⟩;rw[hnone];exact⟨rfl,hS.nil⟩
  ·by_cases hs:e.seq<v.seq
   ·have hnone:BQ v e=none:=by
     unfold BQ GG;rw[show decide (v.seq≤e.seq)=false from decide_eq_false AA];simp
    (repeat(refine jt ⟨?_⟩;refine hS.q ?_;intro _ hS));refine jt ⟨?_⟩;rw[hnone];exact⟨rfl,hS.nil⟩
   ·have hst:GG v e=true:=by
     unfold GG;rw[hr,decide_eq_true (show v.next≤e.next by omega),decide_eq_true (show v.seq≤e.seq by omega)];rfl
    (repeat(refine jt ⟨?_⟩;refine hS.q ?_;intro _ hS));refine jt ⟨?_⟩;refine hS.al ?_;intro m6 w5 _ hS;(repeat(refine jt ⟨?_⟩;refine hS.q ?_;intro _ hS));refine jt ⟨?_⟩;refine hS.al ?_;intro m7 w6 _ hS;(repeat(refine jt ⟨?_⟩;refine hS.q ?_;intro _ hS));refine jt ⟨?_⟩;refine AL.loop (λk:Nat=>[(2,ptr b2),(3,ptr b3),(4,ptr b4),(6,.map (some m6)),(7,.map (some m7)),(38,.slice a v.files.length ca),(39,.int .i64 v.files.length),(40,.int .i64 k)])
     (λk w'=>k≤v.files.length∧ ∃es c kvs,MapC AY AY es c kvs∧Ic kvs ((v.files.take k).map (·.2))∧St w [] [(m7,.map #[] 0),(m6,.map es c),(b4,.cells ⟨[.slice none 0 0,.int .i64 0,.int .i64 0,.int .i64 0]⟩ Ee (0,0)),(b3,.cells ⟨[.slice x e.add.length cx,.slice y e.del.length cy,.int .i64 e.wal,.int .i64 e.next,.int .i64 e.seq]⟩ Bu (0,0)),(b2,.cells ⟨[.slice a v.files.length ca,.int .i64 v.wal,.int .i64 v.next,.int .i64 v.seq]⟩ Ee (0,0))] w') (λk=>v.files.length-k) 0
     ⟨rfl,rfl,rfl,rfl,rfl,rfl,rfl,rfl,trivial⟩ ⟨Ag _, #[],0,[],⟨rfl,by simp[E5]⟩,Ic.nil,hS⟩ ?_
    clear hS;rintro k w7⟨hk,es,c,kvs,hm,hct,hS⟩;have hkc:=hct;by_cases hkl:k<v.files.length
    ·obtain⟨g,off,rfl⟩:=hv.files.pos AA;have hat:=hv.files.at hkl;have hsucc:=Bs hkl;generalize v.files[k]=f at hat hsucc;refine jq ⟨?_⟩;refine Arr.ldn hS hv.files.arr rfl (k:=k*2) hat rfl ?_;unfold Ad;refine jq ⟨?_⟩;refine hS.al ?_;intro b9 w8 _ hS;have hcn:=hct f.2;have hcl:((v.files.take k).map (·.2)).count f.2≤k:=by
      refine Au (List.count_le_length) ?_;rw[BM,BR];omega
     (repeat(refine jt ⟨?_⟩;refine hS.q ?_;intro _ hS));refine jt ⟨?_⟩;refine K3 (kvs:=kvs) (λw'' hw'=>⟨es,c,by subst hw';exact hS.mem (b:=m6),hm.of⟩) ?_;generalize hz:(Al f.2 kvs).getD 0=z at hcn;(repeat(refine jt ⟨?_⟩;refine hS.q ?_;intro _ hS));refine jt ⟨?_⟩;refine St.mapSet AK Bq.i64 rfl rfl Eo hS (v:=z+1) hm ?_;intro es2 c2 w9 hm2 hS;refine jq ⟨?_⟩;refine⟨k+1,⟨rfl,rfl,rfl,rfl,rfl,rfl,rfl,rfl,trivial⟩,⟨AA,es2,c2,_,hm2,?_,hS.sub (AS _ _)⟩,AA⟩
     rw[hsucc,A7,←hz];exact hct.step f.2
    ·have hke:k=v.files.length:=AA;rw[hke,Bz]at hct;(repeat(refine jt ⟨?_⟩;refine hS.q ?_;intro _ hS));refine jt ⟨?_⟩;clear hkc hke hkl hk;refine AL.loop (λk:Nat=>[(2,ptr b2),(3,ptr b3),(4,ptr b4),(6,.map (some m6)),(7,.map (some m7)),(51,.slice y e.del.length cy),(52,.int .i64 e.del.length),(53,.int .i64 k)])
      (λk w'=>(k≤e.del.length∧(e.del.take k).Nodup∧ ∀n∈e.del.take k,Dx v.files n=true)∧ ∃es7 c7 kv7,MapC AY AY es7 c7 kv7∧Ic kv7 (e.del.take k)∧St w [] [(m7,.map es7 c7),(m6,.map es c),(b4,.cells ⟨[.slice none 0 0,.int .i64 0,.int .i64 0,.int .i64 0]⟩ Ee (0,0)),(b3,.cells ⟨[.slice x e.add.length cx,.slice y e.del.length cy,.int .i64 e.wal,.int .i64 e.next,.int .i64 e.seq]⟩ Bu (0,0)),(b2,.cells ⟨[.slice a v.files.length ca,.int .i64 v.wal,.int .i64 v.next,.int .i64 v.seq]⟩ Ee (0,0))] w') (λk=>e.del.length-k) 0
      ⟨rfl,rfl,rfl,rfl,rfl,rfl,rfl,rfl,trivial⟩ ⟨⟨Ag _,AB,AB⟩, #[],0,[],⟨rfl,by simp[E5]⟩,Ic.nil,hS⟩ ?_
     clear hS;rintro k w8⟨⟨hk,hnd,hhas⟩,es7,c7,kv7,hm7,hct7,hS⟩;by_cases hkl:k<e.del.length
     ·have hx:(e.del.map AY)[k]?=some (AY e.del[k]):=by rw[Ex,CB hkl];rfl
      obtain⟨g,off,rfl, -, -⟩:=he.del.get (j:=k) (by rw[BM];exact hkl);have hsucc:=Bs hkl;have hmem:e.del[k]∈e.del:=Ca hkl;have hcle:=cM e.del (k+1);generalize e.del[k]=n at hx hsucc hmem;have hct8:=hct7.step n;rw[←hsucc]at hct8;have hcn:=hct7 n;have hcl:(e.del.take k).count n≤k:=Au (List.count_le_length) (by rw[BR];omega);have hc8:=hct8 n;rw[G6,if_pos rfl,FD]at hc8;have hc6:=hct n;have hfl:(v.files.map (·.2)).count n≤v.files.length:=Au List.count_le_length (by rw[BM];exact AV _)
      generalize hz:(Al n kv7).getD 0=z at hcn hct8 hc8;generalize hz6:(Al n kvs).getD 0=z6 at hc6;refine jq ⟨?_⟩;refine Arr.ldc hS he.del hx AB ?_;unfold AY;refine jq ⟨?_⟩;refine K3 (kvs:=kv7) (λw'' hw'=>⟨es7,c7,by subst hw';exact hS.mem (b:=m7),hm7.of⟩) ?_;rw[hz];(repeat(refine jt ⟨?_⟩;refine hS.q ?_;intro _ hS));refine jt ⟨?_⟩;refine St.mapSet AK Bq.i64 rfl rfl Eo hS (v:=z+1) hm7 ?_;intro es2 c2 w9 hm2 hS
      refine jq ⟨?_⟩;refine K3 (kvs:=Ba n (z+1) kv7) (λw'' hw'=>⟨es2,c2,by subst hw';exact hS.mem (b:=m7),hm2.of⟩) ?_;rw[G6,if_pos rfl,FD];by_cases h1:1<z+1
      ·have hnone:BQ v e=none:=by
        unfold BQ;rw[cV hmem (by have:=hcle n;omega)];simp
       (repeat(refine jt ⟨?_⟩;refine hS.q ?_;intro _ hS));refine jt ⟨?_⟩;rw[hnone];exact⟨rfl,hS.nil⟩
      ·refine jq ⟨?_⟩;refine K3 (kvs:=kvs) (λw'' hw'=>⟨es,c,by subst hw';exact hS.mem (b:=m6),hm.of⟩) ?_;rw[hz6];by_cases h2:z6=0
       ·have hnone:BQ v e=none:=by
         unfold BQ;rw[cW hmem ((Vt _ _).1 AA)];simp
        (repeat(refine jt ⟨?_⟩;refine hS.q ?_;intro _ hS));refine jt ⟨?_⟩;rw[hnone];exact⟨rfl,hS.nil⟩
       ·(repeat(refine jt ⟨?_⟩;refine hS.q ?_;intro _ hS));refine jt ⟨?_⟩;refine⟨k+1,⟨rfl,rfl,rfl,rfl,rfl,rfl,rfl,rfl,trivial⟩,⟨⟨AA,?_,?_⟩,es2,c2,_,hm2,hct8,hS⟩,AA⟩
        ·rw[hsucc]at hc8⊢;exact uU hnd AA
        ·intro m hmm;rw[hsucc]at hmm;rcases Bl.1 hmm with hmm|hmm
         ·exact hhas m hmm
         ·rw[Cm]at hmm;subst hmm;cases hh:Dx v.files m with
          |true=>rfl
          |false=>have:=(Vt _ _).2 hh;omega
     ·have hke:k=e.del.length:=AA;rw[hke,Bz]at hct7 hnd hhas;have hdel:=cX hnd hhas;(repeat(refine jt ⟨?_⟩;refine hS.q ?_;intro _ hS));refine jt ⟨?_⟩;clear hke hkl hk hnd hhas;have hS:St w [] ([]++[(m7,.map es7 c7),(b4,.cells ⟨[.slice none 0 0,.int .i64 0,.int .i64 0,.int .i64 0]⟩ Ee (0,0)),(b3,.cells ⟨[.slice x e.add.length cx,.slice y e.del.length cy,.int .i64 e.wal,.int .i64 e.next,.int .i64 e.seq]⟩ Bu (0,0)),(b2,.cells ⟨[.slice a v.files.length ca,.int .i64 v.wal,.int .i64 v.next,.int .i64 v.seq]⟩ Ee (0,0))]) w8:=hS.sub ((AS _ _).cons_cons _)
      refine AL.loop (λz:FI=>[(2,ptr b2),(3,ptr b3),(4,ptr b4),(7,.map (some m7)),(12,.slice z.a z.fs.length z.c),(74,.slice a v.files.length ca),(75,.int .i64 v.files.length),(76,.int .i64 z.k)])
       (λz w'=>(z.k≤v.files.length∧z.fs=Ei e (v.files.take z.k))∧ ∃L,AT BE 2 z.a z.fs.length z.c (z.fs.flatMap Ad) L∧St w [] (L++[(m7,.map es7 c7),(b4,.cells ⟨[.slice none 0 0,.int .i64 0,.int .i64 0,.int .i64 0]⟩ Ee (0,0)),(b3,.cells ⟨[.slice x e.add.length cx,.slice y e.del.length cy,.int .i64 e.wal,.int .i64 e.next,.int .i64 e.seq]⟩ Bu (0,0)),(b2,.cells ⟨[.slice a v.files.length ca,.int .i64 v.wal,.int .i64 v.next,.int .i64 v.seq]⟩ Ee (0,0))]) w') (λz=>v.files.length-z.k) ⟨[],0,none,0⟩
       ⟨rfl,rfl,rfl,rfl,rfl,rfl,rfl,rfl,trivial⟩ ⟨⟨Ag _,rfl⟩,[],AT.nil,hS⟩ ?_
      clear hS;rintro⟨fs,k,a1,c1⟩w9⟨⟨hk,hfs⟩,L,hvec,hS⟩;simp only at hk hfs hvec hS⊢;have hfl:fs.length≤v.files.length:=by
       rw[hfs];exact Au (List.length_filter_le _ _) (by rw[BR];omega)
      by_cases hkl:k<v.files.length
      ·obtain⟨g,off,rfl⟩:=hv.files.pos AA;have hat:=hv.files.at hkl;have hsucc:=Bs hkl;generalize v.files[k]=f at hat hsucc;have hkf:=sU e (v.files.take k) f;rw[←hsucc,←hfs]at hkf;have hcn:=hct7 f.2;refine jq ⟨?_⟩;refine Arr.ldn hS hv.files.arr rfl (k:=k*2) hat rfl ?_;unfold Ad;refine jq ⟨?_⟩;refine hS.al ?_;intro b14 w10 _ hS;(repeat(refine jt ⟨?_⟩;refine hS.q ?_;intro _ hS));refine jt ⟨?_⟩;refine K3 (kvs:=kv7) (λw'' hw'=>⟨es7,c7,by subst hw';exact hS.mem (b:=m7),hm7.of⟩) ?_
       by_cases hz:e.del.count f.2=0
       ·rw[if_pos hz]at hkf;rw[hcn,hz];(repeat(refine jt ⟨?_⟩;refine hS.q ?_;intro _ hS));refine jt ⟨?_⟩;refine hS.al ?_;intro r w11 _ hS;(repeat(refine jt ⟨?_⟩;refine hS.q ?_;intro _ hS));refine jt ⟨?_⟩;refine St.app (sz:=2) (m:=1) AK rfl rfl rfl rfl hS hvec (news:=Ad f) rfl (by have:=hS.arr (b:=r) (T':=[]) AB;exact this) rfl (by show(_+_)*16≤_;omega) AA ?_;intro a2 c2 L2 w12 hvec hS;have hS:=St.tl2 hS
        have e9:fs.flatMap Ad++Ad f=(fs++[f]).flatMap Ad:=AB;have e8:fs.length+1=(fs++[f]).length:=AB;rw[e9,e8]at hvec;rw[e8];(repeat(refine jt ⟨?_⟩;refine hS.q ?_;intro _ hS));refine jt ⟨?_⟩;exact⟨⟨fs++[f],k+1,a2,c2⟩,⟨rfl,rfl,rfl,rfl,rfl,rfl,rfl,rfl,trivial⟩,⟨⟨by simp only;omega,hkf.symm⟩,L2,hvec,hS⟩,by simp only;omega⟩
       ·rw[if_neg hz]at hkf;rw[hcn];(repeat(refine jt ⟨?_⟩;refine hS.q ?_;intro _ hS));refine jt ⟨?_⟩;exact⟨⟨fs,k+1,a1,c1⟩,⟨rfl,rfl,rfl,rfl,rfl,rfl,rfl,rfl,trivial⟩,⟨⟨by simp only;omega,hkf.symm⟩,L,hvec,hS.sub (AS _ _)⟩,by simp only;omega⟩
      ·have hke:k=v.files.length:=AA;rw[hke,Bz]at hfs;have hap:BQ v e=(EJ e.next fs e.add).map λfs=>⟨Di fs,e.wal,e.next,e.seq⟩:=by
        unfold BQ;rw[hst,hdel,hfs];rfl
       (repeat(refine jt ⟨?_⟩;refine hS.q ?_;intro _ hS));refine jt ⟨?_⟩;clear hke hkl hk hfs;refine AL.loop (λz:FI=>[(2,ptr b2),(3,ptr b3),(4,ptr b4),(12,.slice z.a z.fs.length z.c),(91,.slice x e.add.length cx),(92,.int .i64 e.add.length),(93,.int .i64 z.k)])
        (λz w'=>(z.k≤e.add.length∧z.fs.length≤v.files.length+z.k∧EJ e.next z.fs (e.add.drop z.k)=EJ e.next fs e.add)∧ ∃L,AT BE 2 z.a z.fs.length z.c (z.fs.flatMap Ad) L∧St w [] (L++[(m7,.map es7 c7),(b4,.cells ⟨[.slice none 0 0,.int .i64 0,.int .i64 0,.int .i64 0]⟩ Ee (0,0)),(b3,.cells ⟨[.slice x e.add.length cx,.slice y e.del.length cy,.int .i64 e.wal,.int .i64 e.next,.int .i64 e.seq]⟩ Bu (0,0)),(b2,.cells ⟨[.slice a v.files.length ca,.int .i64 v.wal,.int .i64 v.next,.int .i64 v.seq]⟩ Ee (0,0))]) w') (λz=>e.add.length-z.k) ⟨fs,0,a1,c1⟩
        ⟨rfl,rfl,rfl,rfl,rfl,rfl,rfl,trivial⟩ ⟨⟨Ag _,hfl,rfl⟩,L,hvec,hS⟩ ?_
       clear hS hvec hfl;generalize hgo:EJ e.next fs e.add=res at hap;clear hgo;rintro⟨fs,k,a1,c1⟩w9⟨⟨hk,hfl,hadd⟩,L,hvec,hS⟩;simp only at hk hfl hadd hvec hS⊢;by_cases hkl:k<e.add.length
       ·obtain⟨g,off,rfl⟩:=he.add.pos AA;have hat:=he.add.at hkl;rw[FQ hkl]at hadd;generalize e.add[k]=f at hat hadd;unfold EJ at hadd;refine jq ⟨?_⟩;refine Arr.ldn hS he.add.arr rfl (k:=k*2) hat rfl ?_;unfold Ad;refine jq ⟨?_⟩;refine hS.al ?_;intro b16 w10 _ hS;by_cases h1:e.next≤f.2
        ·rw[if_pos (.inl h1)]at hadd;have hnone:BQ v e=none:=by rw[hap,←hadd];rfl
         (repeat(refine jt ⟨?_⟩;refine hS.q ?_;intro _ hS));refine jt ⟨?_⟩;rw[hnone];exact⟨rfl,hS.nil⟩
        ·(repeat(refine jt ⟨?_⟩;refine hS.q ?_;intro _ hS));refine jt ⟨?_⟩;refine Bk.of rfl ?_;(repeat(refine jt ⟨?_⟩;refine hS.q ?_;intro _ hS));refine jt ⟨?_⟩;refine(cL (f:=f) (Km hS hvec) (by have:=hS.arr (b:=b16) (T':=[]) AB;exact this) AA).mono ?_;rintro _ w10⟨rfl,hS'⟩;have hS:=hS.call0 hS';by_cases h2:Dx fs f.2=true
         ·rw[if_pos (.inr h2)]at hadd;have hnone:BQ v e=none:=by rw[hap,←hadd];rfl
          rw[h2];(repeat(refine jt ⟨?_⟩;refine hS.q ?_;intro _ hS));refine jt ⟨?_⟩;rw[hnone];exact⟨rfl,hS.nil⟩
         ·rw[if_neg (by rintro(h|h);exact h1 h;exact h2 h)]at hadd;rw[show Dx fs f.2=false by simpa using h2];(repeat(refine jt ⟨?_⟩;refine hS.q ?_;intro _ hS));refine jt ⟨?_⟩;refine hS.al ?_;intro r w11 _ hS;(repeat(refine jt ⟨?_⟩;refine hS.q ?_;intro _ hS));refine jt ⟨?_⟩;refine St.app (sz:=2) (m:=1) AK rfl rfl rfl rfl hS hvec (news:=Ad f) rfl (by have:=hS.arr (b:=r) (T':=[]) AB;exact this) rfl (by show(_+_)*16≤_;omega) AA ?_
          intro a2 c2 L2 w12 hvec hS;have hS:=St.tl2 hS;have e9:fs.flatMap Ad++Ad f=(fs++[f]).flatMap Ad:=AB;have e8:fs.length+1=(fs++[f]).length:=AB;rw[e9,e8]at hvec;rw[e8];(repeat(refine jt ⟨?_⟩;refine hS.q ?_;intro _ hS));refine jt ⟨?_⟩;exact⟨⟨fs++[f],k+1,a2,c2⟩,⟨rfl,rfl,rfl,rfl,rfl,rfl,rfl,trivial⟩,⟨⟨by simp only;omega,by simp only[AP,D4];omega,hadd⟩,L2,hvec,hS⟩,by simp only;omega⟩
       ·have hke:k=e.add.length:=AA;rw[hke,IJ]at hadd;have hsome:BQ v e=some ⟨Di fs,e.wal,e.next,e.seq⟩:=by rw[hap,←hadd];rfl
        rw[hsome];(repeat(refine jt ⟨?_⟩;refine hS.q ?_;intro _ hS));refine jt ⟨?_⟩;refine AL.draw AK mixed (λw'=>St w [] (L++[(m7,.map es7 c7),(b4,.cells ⟨[.slice none 0 0,.int .i64 0,.int .i64 0,.int .i64 0]⟩ Ee (0,0)),(b3,.cells ⟨[.slice x e.add.length cx,.slice y e.del.length cy,.int .i64 e.wal,.int .i64 e.next,.int .i64 e.seq]⟩ Bu (0,0)),(b2,.cells ⟨[.slice a v.files.length ca,.int .i64 v.wal,.int .i64 v.next,.int .i64 v.seq]⟩ Ee (0,0))]) w') [9,10] [0,2,3,4,5,6,7,1,8,9,10] AD hS.drew ?_
        have hS:=hS.drew;generalize w9.drew=w10 at hS;refine jr ⟨?_⟩;refine(YH (Km hS hvec) AA).mono ?_;rintro _ w11⟨a5,c5,L5,rfl,hv5,hS'⟩;have hS:=hS.callNew hS';refine Ae.mk (hS.sub (Ah _ _)) ?_;(repeat(refine jt ⟨?_⟩;refine hS.q ?_;intro _ hS));refine jt ⟨?_⟩;exact⟨a5,c5,L5,rfl,⟨hv5,her⟩,hS.sub (CC _ _)⟩
 ·have hr':DA e=false:=by simpa using hr
  have hnone:BQ v e=none:=by unfold BQ GG;rw[hr'];simp
  rw[hr'];(repeat(refine jt ⟨?_⟩;refine hS.q ?_;intro _ hS));refine jt ⟨?_⟩;rw[hnone];exact⟨rfl,hS.nil⟩
end Go.Proofs.YtkgibdhpijdbfaaGreatDoor
namespace Go.Proofs.YtkgibdhpijdbfaaGreatDoor
open Go Go.Eng Go.Proofs Go.Srt
open Go.ChangeShapes Go.WideShapes Go.ChangeAt Go.RowKit
theorem Bt.addr{β:Type}{sz:Nat}{R:CT β}{W:World}{a:Option Addr}{n cap:Nat}{xs:List β}(h:Bt sz R W [.slice a n cap] xs)(hx:0<xs.length): ∃g off,a=some ⟨g,off,none⟩:=by
 obtain⟨b,off,cs,h1, -⟩:=h.at hx;exact⟨b,off,h1⟩
theorem Bt.cap{β:Type}{sz:Nat}{R:CT β}{W:World}{a:Option Addr}{n cap:Nat}{xs:List β}(h:Bt sz R W [.slice a n cap] xs):xs.length≤cap:=by
 obtain⟨a',cap',h1,h2, -⟩:=h.ex;have:cap=cap':=by simpa using(List.cons.inj h1).1|> λh=>(Value.slice.inj h).2.2
 omega
def Jm:CT EM:=λW cs e=>∃a b ca cb,cs=Dv a b ca cb e∧Hc W a b ca cb e
end Go.Proofs.YtkgibdhpijdbfaaGreatDoor
namespace Go.Proofs.YtkgibdhpijdbfaaGreatDoor
open Go Go.Eng Go.Proofs Go.Srt
theorem Jm.keep{w0 w:World}{H:AH}(hS:St w0 [] H w)(cs:List Value)(e:EM)(h:Jm w0 cs e):Jm w cs e:=by
 obtain⟨a,b,ca,cb,h1,h2⟩:=h;exact⟨a,b,ca,cb,h1,h2.keep hS⟩
def PP(o:Option VM)(r:Value)(w w':World):Prop:=match o with
 |none=>r= .tuple ⟨[.agg ⟨DC none 0 Cu⟩,.int .i64 11]⟩∧St w [] [] w'
 |some v'=>∃a' c' L,r= .tuple ⟨[.agg ⟨DC a' c' v'⟩,.int .i64 0]⟩∧Dt a' c' v' L∧St w [] L w'
structure AI where
 v:VM
 a:Option Addr
 c:Nat
 k:Nat
theorem aS(es:List EM)(k:Nat)(hk:k<es.length):Hg (es.take (k+1))=Hg (es.take k)+es[k].add.length:=by
 unfold Hg;rw[Bs hk,A7,IL];simp
theorem aR(es:List EM)(k:Nat):Hg (es.take k)≤Hg es:=by
 unfold Hg
 conv=>rhs;rw[←CO k es,A7,IL]
 omega
theorem PR{w:World}{a x:Option Addr}{ca cx:Nat}{v:VM}{es:List EM}(hv:G0 w a ca v)(he:Bt 5 Jm w [.slice x es.length cx] es)(hlen:v.files.length+Hg es≤8388608)(hel:es.length≤8388608):
  Cl Tryz.prog mQ [.agg ⟨DC a ca v⟩,.slice x es.length cx] w λr w'=>PP (Il (FX v) es) r w w':=by
 have hS:=St.start w;have hvr:=hv.rng;unfold DC;refine eJ rfl ?_;refine jq ⟨?_⟩;refine hS.al ?_;intro b2 w1 _ hS;refine jq ⟨?_⟩;refine hS.al ?_;intro b4 w2 _ hS;(repeat(refine jt ⟨?_⟩;refine hS.q ?_;intro _ hS));refine jt ⟨?_⟩;refine(YH (hv.files.keep hS) AA).mono ?_;rintro _ w3⟨a1,c1,L1,rfl,hv1,hS'⟩;have hS:=hS.callNew hS';(repeat(refine jt ⟨?_⟩;refine hS.q ?_;intro _ hS));refine jt ⟨?_⟩;have hvv:Dt a1 c1 (FX v) L1:=⟨hv1,hvr⟩
 refine AL.loop (λz:AI=>[(2,ptr b2),(4,ptr b4),(14,.slice x es.length cx),(15,.int .i64 es.length),(16,.int .i64 z.k)])
  (λz w'=>(z.k≤es.length∧Il z.v (es.drop z.k)=Il (FX v) es∧z.v.files.length≤v.files.length+Hg (es.take z.k))∧ ∃L,Dt z.a z.c z.v L∧St w [] (L++[(b4,.cells ⟨[.slice none 0 0,.int .i64 0,.int .i64 0,.int .i64 0]⟩ Ee (0,0)),(b2,.cells ⟨[.slice z.a z.v.files.length z.c,.int .i64 z.v.wal,.int .i64 z.v.next,.int .i64 z.v.seq]⟩ Ee (0,0))]) w') (λz=>es.length-z.k) ⟨FX v,a1,c1,0⟩
  ⟨rfl,rfl,rfl,rfl,rfl,trivial⟩ ⟨⟨Ag _,rfl,by simp only[FX,LS];omega⟩,L1,hvv,hS⟩ ?_
 clear hS hvv hv1;generalize Il (FX v) es=res;rintro⟨v1,a1,c1,k⟩w4⟨⟨hk,hall,hfl⟩,L,hvv,hS⟩;simp only at hk hall hfl hvv hS⊢;by_cases hkl:k<es.length
 ·have hsl:=aS es k hkl;have hle:=aR es (k+1);rw[FQ hkl]at hall;obtain⟨g,off,cs,rfl,hR,hld⟩:=Bt.ldn hS.nil he hkl;obtain⟨ea,eb,eca,ecb,rfl,heA⟩:=hR;generalize es[k]=e at hsl hall heA hld;unfold Dv at hld;refine jq ⟨?_⟩;refine hld _ ?_;refine jq ⟨?_⟩;refine hS.al ?_;intro b7 w5 _ hS;(repeat(refine jt ⟨?_⟩;refine hS.q ?_;intro _ hS));refine jt ⟨?_⟩;refine(Tq (hvv.at hS) (heA.keep hS) AA).mono ?_;intro r w6 hpost
  unfold Il at hall;cases hap:BQ v1 e with
  |none=>
   rw[hap]at hpost hall;obtain⟨rfl,hS'⟩:=hpost;have hS:=hS.call0 hS';simp only at hall;subst hall;unfold DC Cu;(repeat(refine jt ⟨?_⟩;refine hS.q ?_;intro _ hS));refine jt ⟨?_⟩;refine hS.al ?_;intro b8 w7 _ hS;(repeat(refine jt ⟨?_⟩;refine hS.q ?_;intro _ hS));refine jt ⟨?_⟩;exact⟨rfl,hS.nil⟩
  |some v2=>
   rw[hap]at hpost hall;obtain⟨a2,c2,L2,rfl,hv2,hS'⟩:=hpost;have hS:=hS.callNew hS';simp only at hall;unfold DC;(repeat(refine jt ⟨?_⟩;refine hS.q ?_;intro _ hS));refine jt ⟨?_⟩;refine hS.al ?_;intro b8 w7 _ hS;(repeat(refine jt ⟨?_⟩;refine hS.q ?_;intro _ hS));refine jt ⟨?_⟩;have hln:=Nq hap;refine⟨⟨v2,a2,c2,k+1⟩,⟨rfl,rfl,rfl,rfl,rfl,trivial⟩,⟨⟨by simp only;omega,hall,by simp only;omega⟩,L2,hv2,?_⟩,by simp only;omega⟩
   exact St.midA (St.tl1 hS)
 ·have hke:k=es.length:=AA;rw[hke,IJ]at hall;unfold Il at hall;subst hall;(repeat(refine jt ⟨?_⟩;refine hS.q ?_;intro _ hS));refine jt ⟨?_⟩;exact⟨a1,c1,L,rfl,hvv,hS.sub (CC _ _)⟩
theorem G0.keep{w0 w:World}{H:AH}(hS:St w0 [] H w){a:Option Addr}{c:Nat}{v:VM}(h:G0 w0 a c v):G0 w a c v:=⟨h.files.keep hS,h.rng⟩
def Tc(w:World)(a:Option Addr)(c:Nat)(v:VM)(L:AH):Prop:=(L=[]∧G0 w a c v)∨Dt a c v L
theorem Tc.at{w0 w:World}{H L:AH}{F:AH→AH}{a:Option Addr}{c:Nat}{v:VM}(h:Tc w0 a c v L)(hS:St w0 [] H w) [hc:Chunk H L F]:G0 w a c v:=by
 rcases h with⟨-,h⟩|h
 ·exact h.keep hS
 ·exact h.at hS
theorem Px(v:VM)(e:EM):Il (FX v) [e]=BQ v e:=by
 unfold Il;rw[bA];cases BQ v e<;>rfl
def Un(A:Option VM):Int:=match A with
 |none=>11
 |some _=>0
theorem Dt.zero:Dt none 0 Cu []:=⟨AT.nil,AC⟩
theorem PP.out{A:Option VM}{r:Value}{w w':World}(h:PP A r w w'): ∃a' c' L,r= .tuple ⟨[.agg ⟨DC a' c' (A.getD Cu)⟩,.int .i64 (Un A)]⟩∧Dt a' c' (A.getD Cu) L∧St w [] L w':=by
 cases A with
 |none=>obtain⟨h1,h2⟩:=h;exact⟨_,_,[],h1,Dt.zero,h2⟩
 |some v=>exact h
def Ep(v:VM):EM:=⟨v.files,[],v.wal,v.next,v.seq⟩
def Gd(next:Int)(fs:List Af):Prop:=(∀f∈fs,HS f=true∧f.2<next)∧(fs.map (·.2)).Nodup
structure Good(v:VM):Prop where
 files:Gd v.next v.files
 nn:0≤v.wal∧0≤v.next∧0≤v.seq
 so:FX v=v
theorem Good.zero:Good Cu:=⟨⟨by simp[Cu],by simp[Cu]⟩,AC,rfl⟩
theorem Q4(fs:List Af)(n:Int):Dx fs n=true↔n∈fs.map (·.2):=by
 unfold Dx;rw[List.any_eq_true,BV];simp only[beq_iff_eq]
theorem Gd.snoc{next:Int}{fs:List Af}{f:Af}(h:Gd next fs)(h1:HS f=true)(h2:f.2<next)(h3:Dx fs f.2=false):Gd next (fs++[f]):=by
 refine⟨λg hg=>?_,?_⟩
 ·rcases Bl.1 hg with hg|hg
  ·exact h.1 g hg
  ·rw[Cm]at hg;subst hg;exact⟨h1,h2⟩
 ·rw[A7,FU];refine⟨h.2,AB,λa ha b hb=>?_⟩;rw[List.map_singleton,Cm]at hb;subst hb;intro e;subst e;have:=(Q4 fs f.2).2 ha;rw[h3]at this;cases this
theorem Td{next:Int}: ∀{r fs a:List Af},EJ next fs r=some a→Gd next fs→(∀f∈r,HS f=true)→Gd next a
 |[],fs,a,h,hg,_=>by cases h;exact hg
 |f::r,fs,a,h,hg,hr=>by
  unfold EJ at h
  split at h
  ·cases h
  ·next hc=>
   have h3:Dx fs f.2=false:=by
    cases e:Dx fs f.2 with
    |false=>rfl
    |true=>exact absurd (.inr e) hc
   have h2:f.2<next:=by
    rcases Int.lt_or_le f.2 next with h|h
    ·exact h
    ·exact absurd (.inl h) hc
   exact Td h (hg.snoc (hr f AB) h2 h3) λg hgr=>hr g (by simp[hgr])
theorem Pu{next:Int}: ∀(r fs:List Af),Gd next (fs++r)→EJ next fs r=some (fs++r)
 |[],fs,_=>by simp[EJ]
 |f::r,fs,h=>by
  unfold EJ;have h2:=(h.1 f AB).2;have h3: ¬Dx fs f.2=true:=by
   intro e;have h4:=(Q4 fs f.2).1 e;have h5:=h.2;rw[A7,FU]at h5;exact h5.2.2 f.2 h4 f.2 AB rfl
  rw[if_neg (by rintro(h'|h');omega;exact h3 h')];have:=Pu r (fs++[f]) (by simpa using h);simpa using this
theorem Gd.perm{next:Int}{fs gs:List Af}(h:Gd next fs)(hp:gs.Perm fs):Gd next gs:=
 ⟨λf hf=>h.1 f (hp.mem_iff.1 hf),(hp.map _).nodup_iff.2 h.2⟩
theorem Good.step{v v':VM}{e:EM}(h:Good v)(ha:BQ v e=some v'):Good v':=by
 have hso:=bB ha;unfold BQ at ha
 split at ha
 ·next hc=>
  rw[Bool.and_eq_true]at hc;obtain⟨hst, -⟩:=hc;unfold GG DA at hst;simp only[Bool.and_eq_true,decide_eq_true_iff]at hst;obtain⟨⟨⟨⟨hadd, -⟩,hnn⟩,hnx⟩, -⟩:=hst;cases hal:EJ e.next (Ei e v.files) e.add with
  |none=>rw[hal]at ha;cases ha
  |some a=>
   rw[hal]at ha;simp only[kD,Option.some.injEq]at ha;subst ha;have hk:Gd e.next (Ei e v.files):=by
    refine⟨λf hf=>?_,(List.filter_sublist.map _).nodup h.files.2⟩;have:=h.files.1 f ((List.mem_filter.1 hf).1);exact⟨this.1,by have:=this.2;omega⟩
   have hg:=Td hal hk (C8.1 hadd);exact⟨hg.perm (I8 a),hnn,hso⟩
 ·cases ha
end Go.Proofs.YtkgibdhpijdbfaaGreatDoor
namespace Go.Eng
open Go
theorem uK{P:Program}{T0:BO}(hT:BX P T0){t:TypeId}{i:TI}(hi:tf T0 t=some i)(hk:i.k= .iface){x y:Operand}{u:TypeId}{v:Value}{K:Value→Prop}(hK:K (.bool true)):
  JG P (do eqGuard .neq t x y (.iface u v) .nilIface;binOp .neq t (.iface u v) .nilIface) K:=by
 have h:=CZ hT hi;rw[hk]at h;obtain⟨ms,h⟩:=h;have h2:P.underlying t=some (.interface (P.methodsAt t)):=by simp[Program.methodsAt,h]
 refine⟨_,λw=>?_,hK⟩;rw[Sem.run_bind,O3 P .neq t x y _ _ w (by intro c h;cases h) (by intro h;cases h)];exact run_neq_held_nil w t u v h2
theorem uL{P:Program}{T0:BO}(hT:BX P T0){t:TypeId}{i:TI}(hi:tf T0 t=some i)(hk:i.k= .iface){x:Operand}{c:Value}{K:Value→Prop}(hK:K (.bool false)):
  JG P (do eqGuard .neq t x (.const c) .nilIface .nilIface;binOp .neq t .nilIface .nilIface) K:=by
 have h:=CZ hT hi;rw[hk]at h;obtain⟨ms,h⟩:=h;have h2:P.underlying t=some (.interface (P.methodsAt t)):=by simp[Program.methodsAt,h]
 refine⟨_,λw=>?_,hK⟩;have h3:(eqGuard .neq t x (.const c) .nilIface .nilIface).run P w= .ok () w:=by simp[eqGuard]
 rw[Sem.run_bind,h3];exact run_neq_nil_nil w t h2
end Go.Eng
namespace Go.Eng
open Go
def Yc(ops:Array Oper)(kd:Op→JF)(listed:Array Bool)(i:Nat):Bool:=match ops[i]? with
 |none=>false
 |some o=>(match kd o.op with| .pure=>true|_=>false)&&(Region.ready .any ops listed).contains i&&IH ops listed i
def SJ(ops:Array Oper)(kd:Op→JF):List Nat→Array Bool→Bool
 |[],_=>true
 |i::r,listed=>Yc ops kd listed i&&SJ ops kd r (listed.setIfInBounds i true)
section
variable {P : Program} {T : BO} (hT : BX P T) {N : Nat} {all : List Oper} {fin : List Nat} {Q : Exit → AZ → World → Prop}
include hT
theorem Cg.takesP(hsel:Region.noSelect ⟨all⟩=true)(n:Nat): ∀(is:List Nat){listed:Array Bool}{e:AZ}{w:World}(_h:SJ ⟨all⟩ (kind T) is listed=true)(_g:KP P T N all fin Q n is listed e w),Cg P T N all fin Q (n+is.length) listed e w
 |[],_,_,_,_,g=>g
 |i::r,listed,e,w,h,g=>by
  refine⟨λa hcl hr=>?_⟩;simp only[SJ,Bool.and_eq_true]at h;obtain⟨h1,h2⟩:=h;obtain⟨o,ho,g⟩:=MS g;have ho':(Array.mk all)[i]?=some o:=by simpa using ho
  unfold Yc at h1;simp only[ho',Bool.and_eq_true]at h1;obtain⟨⟨hk,hrd⟩,hf⟩:=h1;have hready:i∈Region.ready .any ⟨all⟩ listed:=by simpa using hrd
  have key: ∀(v:Value)(e':AZ),YieldsIf P ⟨all⟩ (λ_=>True) o v a→BS [] N e' (a.put o.dst v)→KP P T N all fin Q n r (listed.setIfInBounds i true) e' w→
    KT P .any ⟨all⟩ (J8 N Q) (Qw fin) (n+(i::r).length) listed a w:=by
   intro v e' hy hr' hv;rw[Ai,←Gq];refine Yp (C:=λ_=>True) (n:=all.length) ho' (Region.noSelect_spec hsel) (λc a w h=>h.elim) (λw=> .inr (Er.refl w)) (n+r.length) listed a w hcl ?_ hready hy trivial ?_
   ·intro j oj hj hne hun hd;have hjlt:j<all.length:=by have:=(Array.getElem?_eq_some_iff.1 hj).1;simpa using this
    simp only[IH,ho',C8,List.mem_range]at hf;have h1:=hf j (by simpa using hjlt);have hd':Ev ⟨all⟩ (Array.mk all).size j i=false:=hd;simp only[hj,Bool.or_eq_true,beq_iff_eq,hne,false_or,hun,hd',Bool.false_eq_true]at h1;exact⟨h1,λ_ _ _ _=>trivial⟩
   ·exact(Cg.takesP hsel n r h2 hv).out _ (hcl.set hready) hr'
  rcases Ku hr g with⟨e1,h1,h2,h3⟩|⟨e1,h1,h2,h3⟩
  ·cases hk':kind T o.op<;>simp only[hk']at h3 hk<;>try(exact absurd hk AC)
   case pure=>
    obtain⟨v,h4,h5⟩:=NA hT h1 h3;obtain⟨e',h6,h7⟩:=El h4 h1;exact key v e' (.inl ⟨h2,λw _=>h5 w⟩) h6 h7
  ·obtain⟨e',h6,h7⟩:=El h3 h1;exact key undef e' (.inr ⟨h2,rfl⟩) h6 h7
end
end Go.Eng
namespace Go.Proofs.YtkgibdhpijdbfaaGreatDoor
open Go Go.Eng Go.Proofs
theorem bD{w:World}{a:Option Addr}{r:AO}{l:List AO}(h:Arr w [] a ((r::l).flatMap BN)): ∃g off,a=some ⟨g,off,none⟩:=by
 obtain⟨g,off,h1, -⟩:=h.get (j:=0) (by simp[BN]);exact⟨g,off,h1⟩
end Go.Proofs.YtkgibdhpijdbfaaGreatDoor
namespace Go.Proofs.YtkgibdhpijdbfaaGreatDoor
open Go Go.Eng Go.Proofs Go.RowKit
theorem YU{r:List (String×DataW Unit)}{W:World}(h:laidMet Tryz.prog (("internal/strconv.uint64pow10", Rows.laid_internal_strconv_uint64pow10)::r) W):F1 W:=by
 have h:laidMet Tryz.prog (("internal/strconv.uint64pow10", Lib.tabData .u64 Lib.pow10Tab)::r) W:=h;exact Lib.tabIs_of_head (g:=3) (t:=352) (e:=159) (n:=20) AD AD AD AD AD AD h
end Go.Proofs.YtkgibdhpijdbfaaGreatDoor
