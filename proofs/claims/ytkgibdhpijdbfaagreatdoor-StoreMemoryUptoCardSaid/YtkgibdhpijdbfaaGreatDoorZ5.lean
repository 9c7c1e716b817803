/- Texts of this claim, one behind the other. -/
import Derived.Test.YtkgibdhpijdbfaaGreatDoorZ2
import Derived.Test.YtkgibdhpijdbfaaGreatDoorZ3
import Derived.Test.YtkgibdhpijdbfaaGreatDoorRows
import Derived.WalkKit
import Derived.ProofKit
import Derived.OpenShut
import Derived.Carry
import Derived.SliceStrings
import Derived.JoinedCond
import Derived.Deep.Slices
import Derived.Test.YtkgibdhpijdbfaaGreatDoorZ1
import Derived.JoinedOf
set_option linter.unusedVariables false
set_option linter.unusedSimpArgs false
set_option maxHeartbeats 16000000
namespace Go.Proofs.YtkgibdhpijdbfaaGreatDoor
open Go Go.Eng Go.Proofs
def B6(n:Nat):List UInt8:=[UInt8.ofNat (n / 2 ^ 24),UInt8.ofNat (n / 2 ^ 16),UInt8.ofNat (n / 2 ^ 8),UInt8.ofNat n]
theorem Vd{w:World}(n:Nat):Cl Tryz.prog mL [.int .u32 n] w λv w'=>v=AG (B6 n)∧St w [] [] w':=by
 have hS:=St.start w;refine eG rfl ?_;refine jq ⟨?_⟩;refine hS.al ?_;intro b w1 hb hS;refine SP (bs:=B6 n) AK rfl rfl rfl rfl rfl rfl rfl (T:=[]) (λw' e=>?_) ?_
 ·subst e;have e1:(B6 n).map Eg=[.int .u8 (IntKind.u8.wrap ((n:Int).fdiv (2 ^ 24))),.int .u8 (IntKind.u8.wrap ((n:Int).fdiv (2 ^ 16))),.int .u8 (IntKind.u8.wrap ((n:Int).fdiv (2 ^ 8))),.int .u8 (IntKind.u8.wrap (n:Int))]:=by
   simp only[B6,A4,kC,Eg];rw[←PJ,←PJ,←PJ,←PJ,←Io,←Io,←Io]
  rw[e1];exact hS.arr AB
 ·refine jq ⟨?_⟩;exact⟨rfl,hS.nil⟩
def Cq(l:List UInt8):Nat:=((l.getD 0 0).toNat*2 ^ 24+(l.getD 1 0).toNat*2 ^ 16)+(l.getD 2 0).toNat*2 ^ 8+(l.getD 3 0).toNat
theorem uZ(l:List UInt8):Cq l<4294967296:=by
 have h0:=(l.getD 0 0).toNat_lt;have h1:=(l.getD 1 0).toNat_lt;have h2:=(l.getD 2 0).toNat_lt;have h3:=(l.getD 3 0).toNat_lt;unfold Cq;omega
theorem uX(n:Nat)(hn:n<4294967296):Cq (B6 n)=n:=by
 simp only[Cq,B6,Gn];simp[UInt8.toNat_ofNat'];omega
theorem KK(n:Nat)(h:n<4294967296):IntKind.u32.wrap (n:Int)=(n:Int):=by
 rw[Fc .u32 rfl];congr 1;exact Dy h
theorem uY(l:List UInt8):HV .u32 (HV .u32 (HV .u32 (IntKind.u32.wrap (IntKind.u32.wrap ((l.getD 0 0).toNat:Int)*2 ^ 24)) (IntKind.u32.wrap (IntKind.u32.wrap ((l.getD 1 0).toNat:Int)*2 ^ 16)))
  (IntKind.u32.wrap (IntKind.u32.wrap ((l.getD 2 0).toNat:Int)*2 ^ 8))) (IntKind.u32.wrap ((l.getD 3 0).toNat:Int))=(Cq l:Int):=by
 have h0:=(l.getD 0 0).toNat_lt;have h1:=(l.getD 1 0).toNat_lt;have h2:=(l.getD 2 0).toNat_lt;have h3:=(l.getD 3 0).toNat_lt;unfold Cq;generalize(l.getD 0 0).toNat=a at*;generalize(l.getD 1 0).toNat=b at*;generalize(l.getD 2 0).toNat=c at*;generalize(l.getD 3 0).toNat=d at*;rw[KK a AA,KK b AA,KK c AA,KK d AA];rw[show(a:Int)*2 ^ 24=((a*2 ^ 24:Nat):Int) by simp,show(b:Int)*2 ^ 16=((b*2 ^ 16:Nat):Int) by simp,show(c:Int)*2 ^ 8=((c*2 ^ 8:Nat):Int) by simp]
 rw[KK _ AA,KK _ AA,KK _ AA];rw[LH .u32 rfl _ _ (by show _<2 ^ 32;omega) (by show _<2 ^ 32;omega),On a (b*2 ^ 16) 24 AA];rw[LH .u32 rfl _ _ (by show _<2 ^ 32;omega) (by show _<2 ^ 32;omega),show a*2 ^ 24+b*2 ^ 16=(a*2 ^ 8+b)*2 ^ 16 by omega,On _ (c*2 ^ 8) 16 AA];rw[LH .u32 rfl _ _ (by show _<2 ^ 32;omega) (by show _<2 ^ 32;omega),show(a*2 ^ 8+b)*2 ^ 16+c*2 ^ 8=((a*2 ^ 8+b)*2 ^ 8+c)*2 ^ 8 by omega,On _ d 8 AA]
theorem W0{w:World}(l:List UInt8)(hl:4≤l.length):Cl Tryz.prog mM [AG l] w λv w'=>v= .int .u32 (Cq l)∧St w [] [] w':=by
 have hS:=St.start w;refine eH rfl ?_;refine jq ⟨?_⟩;refine AL.draw AK mixed (λ_=>True) [] [0,1,2,3,4,5,6,7,8,9,10,11,12,13,14,15,16,17,18] AD trivial ?_;refine jq ⟨?_⟩;exact⟨congrArg (Value.int .u32) (uY l),hS.drew⟩
def cP(reg:Int):Int:=Gv .u32 (reg.fdiv (2 ^ (min (1:Int).toNat 32))) (F3 .u32 3988292384 (IntKind.u32.wrap (0-F3 .u32 reg 1)))
def QH:Nat→Int→Int
 |0,r=>r
 |n+1,r=>cP (QH n r)
def UI(reg:Int)(c:UInt8):Int:=QH 8 (Gv .u32 reg (IntKind.u32.wrap c.toNat))
def G2(reg:Int)(p:List UInt8):Int:=p.foldl UI reg
def QG(parts:List (List UInt8)):Int:=Gv .u32 (if IntKind.u32.signed then-1 else IntKind.u32.max) (parts.foldl G2 4294967295)
theorem zK(k:IntKind)(hs:k.signed=false)(z:Int): ∃n:Nat,k.wrap z=(n:Int)∧n<2 ^ k.bits:=by
 have h1:k.wrap z=z % ((2 ^ k.bits:Nat):Int):=by unfold IntKind.wrap;simp only[hs];simp
 have hp:(0:Int)<((2 ^ k.bits:Nat):Int):=by have:=Nat.two_pow_pos k.bits;omega
 have h2:=Int.emod_nonneg z (Int.ne_of_gt hp);have h3:=Int.emod_lt_of_pos z hp;exact⟨(z % ((2 ^ k.bits:Nat):Int)).toNat,by rw[h1];omega,AA⟩
def Fl(parts:List (List UInt8)):Nat:=(QG parts).toNat
theorem UJ(parts:List (List UInt8)):QG parts=(Fl parts:Int)∧Fl parts<4294967296:=by
 obtain⟨n,h1,h2⟩:=zK .u32 rfl ((BitVec.ofInt IntKind.u32.bits (if IntKind.u32.signed then-1 else IntKind.u32.max) ^^^ BitVec.ofInt IntKind.u32.bits (parts.foldl G2 4294967295)).toNat);have h3:QG parts=n:=h1;have h4:n<4294967296:=h2;unfold Fl;rw[h3];exact⟨AB,by simpa using h4⟩
theorem cQ(r:Int)(p:List UInt8)(j:Nat)(hj:j<p.length):G2 r (p.take (j+1))=UI (G2 r (p.take j)) (p.getD j 0):=by
 unfold G2;rw[Bs hj,Hq];simp[hj]
theorem rI(r:Int)(ps:List (List UInt8))(k:Nat)(hk:k<ps.length):(ps.take (k+1)).foldl G2 r=G2 ((ps.take k).foldl G2 r) ps[k]:=by
 rw[Bs hk,Hq];rfl
theorem TT{w:World}{a:Option Addr}{cap:Nat}{ps:List (List UInt8)}(hb:ps.length≤9000000000000000000)(hl: ∀p∈ps,p.length≤9000000000000000000)
  (ha:Arr w [] a (ps.map AG)):Cl Tryz.prog mK [.slice a ps.length cap] w λv w'=>v= .int .u32 (Fl ps)∧St w [] [] w':=by
 rw[←(UJ ps).1];refine eF rfl ?_;refine jq ⟨?_⟩;refine AL.loop (λk:Nat=>[(7,.slice a ps.length cap),(8,.int .i64 ps.length),(9,.int .i64 k),(3,.int .u32 ((ps.take k).foldl G2 4294967295))]) (λk w'=>k≤ps.length∧w'=w) (λk=>ps.length-k) 0
  ⟨rfl,rfl,rfl,rfl,trivial⟩ ⟨Ag _,rfl⟩ ?_
 rintro k w'⟨hk,rfl⟩;refine jq ⟨?_⟩;refine Ax.dec (λh=>?_) (λh=>?_)
 ·have hk':k<ps.length:=AA;obtain⟨b,off,rfl, -,hc⟩:=ha k (AG ps[k]) (by simp[hk']);refine jq ⟨?_⟩;refine FK.mk ⟨_,λ_ e=>by subst e;simpa using hc,?_⟩;refine jq ⟨?_⟩;have hpl:=hl ps[k] AB;refine AL.loop (λj:Nat=>[(7,.slice (some ⟨b,off,none⟩) ps.length cap),(8,.int .i64 ps.length),(9,.int .i64 k),(5,AG ps[k]),(14,.int .i64 ps[k].length),(15,.int .i64 j),(3,.int .u32 (G2 ((ps.take k).foldl G2 4294967295) (ps[k].take j)))]) (λj w''=>j≤ps[k].length∧w''=w') (λj=>ps[k].length-j) 0
   ⟨rfl,rfl,rfl,rfl,rfl,rfl,rfl,trivial⟩ ⟨Ag _,rfl⟩ ?_
  rintro j w''⟨hj,rfl⟩;refine jq ⟨?_⟩;refine Ax.dec (λh=>?_) (λh=>?_)
  ·have hj':j<ps[k].length:=AA;refine jq ⟨?_⟩;refine AL.loop (λi:Nat=>[(7,.slice (some ⟨b,off,none⟩) ps.length cap),(8,.int .i64 ps.length),(9,.int .i64 k),(5,AG ps[k]),(14,.int .i64 ps[k].length),(15,.int .i64 j),(24,.int .i64 i),(3,.int .u32 (QH i (Gv .u32 (G2 ((ps.take k).foldl G2 4294967295) (ps[k].take j)) (IntKind.u32.wrap (ps[k].getD j 0).toNat))))]) (λi w3=>i≤8∧w3=w'') (λi=>8-i) 0
    ⟨rfl,rfl,rfl,rfl,rfl,rfl,rfl,rfl,trivial⟩ ⟨Ag _,rfl⟩ ?_
   rintro i w3⟨hi,rfl⟩;refine jq ⟨?_⟩;refine Ax.dec (λh=>?_) (λh=>?_)
   ·refine jq ⟨?_⟩;refine⟨i+1,⟨rfl,rfl,rfl,rfl,rfl,rfl,rfl,rfl,trivial⟩,⟨AA,rfl⟩,AA⟩
   ·have:i=8:=AA;subst this;refine jq ⟨?_⟩;refine⟨j+1,⟨rfl,rfl,rfl,rfl,rfl,rfl,?_,trivial⟩,⟨AA,rfl⟩,AA⟩;show _=(_:Value);rw[cQ _ _ _ hj']
    rfl
  ·have:j=ps[k].length:=AA;subst this;refine jq ⟨?_⟩;refine⟨k+1,⟨rfl,rfl,rfl,?_,trivial⟩,⟨AA,rfl⟩,AA⟩;show _=(_:Value);rw[rI _ _ _ hk',Bz]
 ·have:k=ps.length:=AA;subst this;refine jq ⟨?_⟩;rw[Bz];exact⟨rfl,St.start _⟩
def Dl(p:List UInt8):List UInt8:=B6 p.length++B6 (Fl [B6 p.length,p])++p
def AQ(ps:List (List UInt8)):List UInt8:=(ps.map Dl).flatten
theorem Mk(p:List UInt8):(Dl p).length=p.length+8:=by simp[Dl,B6]
theorem Ds(ps:List (List UInt8)):(AQ ps).length=BG ps+8*ps.length:=by
 induction ps with
 |nil=>rfl
 |cons p r ih=>simp only[AQ,BG,A4,Dc,AP,HL,Ai,Mk]at ih⊢;omega
theorem xD(ps:List (List UInt8))(k:Nat)(hk:k<ps.length):AQ (ps.take (k+1))=AQ (ps.take k)++Dl ps[k]:=by
 unfold AQ;rw[Bs hk,A7,GW];simp
def Bc(ps:List (List UInt8)):Bool:=ps.all λp=>decide (p.length≤65536)
end Go.Proofs.YtkgibdhpijdbfaaGreatDoor
namespace Go.Proofs.YtkgibdhpijdbfaaGreatDoor
open Go Go.Eng Go.Proofs
open Go.ChangeShapes Go.WideShapes Go.ChangeAt Go.RowKit
theorem XJ:ownKnob Tryz.prog.godebug=none:=AD
theorem WK:laidOutB Tryz.prog=true:=AD
theorem T7{P:Program}{f:FuncId}{args:List Value}{w:World}{R:Value→World→Prop}(hc: ∀(args:Array Value)(w:World),(callFunc f args).run P w= .ok (.enter f args) w)
  (h:Cl P f args w R):Calls P f ⟨args⟩ w λe w'=>∃v,e= .returned v∧R v w':=by
 rcases h with⟨_,h⟩|⟨v,w',h,_⟩
 ·exact h
 ·rw[hc]at h;cases h
theorem St.below{w w':World}(h:St w [] [] w'):Below w.heap.size w w':=⟨h.os,h.tape,h.output,h.size,λk hk=>h.old k hk AB⟩
theorem Yh{H:Type}{enc:TypeId×Value→H}{P:Program}(hl:laidOutB P=true){W W':World}(hb:Below W.heap.size W W'): ∀{ts:List TypeId}{vs:List Value}{ds:List (DataW H)}{ps:List MemPlace},
  (ts.all λt=>P.readableRec t&&decide (t<P.types.size))=true→(∀x∈ps,x.block<W.heap.size)→DataW.TrodAll enc P W 0 (λ_=>true) true ts vs ds ps→
  DataW.TrodAll enc P W' 0 (λb=>decide (b<W.heap.size)) true ts vs ds ps
 |[],[],[],_,_,_,h=>h
 |t::ts,v::vs,d::ds,ps,ht,hlt,⟨p,q,h1,h2,e⟩=>by
  subst e;simp only[List.all_cons,Bool.and_eq_true,decide_eq_true_eq]at ht;exact⟨p,q,Below.trod hl ht.1.1 ht.1.2 h1 hb (λx hx=>hlt x (by simp[hx])),Yh hl hb (by simpa using ht.2) (λx hx=>hlt x (by simp[hx])) h2,rfl⟩
 |[],[],_::_,_,_,_,h=>h.elim
 |[],_::_,_,_,_,_,h=>h.elim
 |_::_,[],_,_,_,_,h=>h.elim
 |_::_,_::_,[],_,_,_,h=>h.elim
theorem XR{H:Type}{enc:TypeId×Value→H}{P:Program}{f:Func}{s:ChangeSpec}{W W':World}{args:Array Value}{ds gs:List (DataW H)}{Fj:List MemPlace}(hl:laidOutB P=true)
  (hts:(f.params.toList.all λt=>P.readableRec t&&decide (t<P.types.size))=true){tb:TypeId}(hrt:f.resultTypes= #[tb])(hb:P.underlying tb=some .bool)
  (hW:DataW.Whole enc P f.params.toList s.vars false W args.toList ds gs Fj)(hv:s.vars=[])(hfn:gs=[]→s.fn H (ds++gs)={results:=[.lit (.bool true)],args:=ds})(hst:St W [] [] W'):
  s.post enc P f false true false false W args (.bool true) W':=by
 have hW':=hW;obtain⟨p,q,hA,hV,rfl,_,_⟩:=hW;rw[hv]at hV;obtain⟨rfl,rfl⟩:=trodVars_none hV;have hlt: ∀x∈p,x.block<W.heap.size:=λx hx=>by have:=hW'.lt x (by simp[hx]);simpa using this
 refine⟨ds,[],_,[],p,[],hW',?_,?_,?_,(St.below hst).frame _,λh=>by cases h⟩
 ·rw[hfn rfl,hrt];exact trodAll_mk1 (shut_bool hb _)
 ·rw[hfn rfl];exact Yh hl (St.below hst) hts hlt hA
 ·rw[hfn rfl,hv]
  rfl
theorem aC(s:ByteArray):Value.string s=AG s.data.toList:=by
 cases s;rfl
theorem Ty{H:Type}{d1 d2:DataW H}(h:Rows.uptoSmall H [d1,d2]=true):Rows.uptoBulk d1+Rows.uptoBulk d2≤1048576:=by
 have h:Rows.uptoBulkAll [d1,d2]≤1048576:=of_decide_eq_true h;simp only[Rows.uptoBulkAll]at h;omega
abbrev CT(β:Type):=World→List Value→β→Prop
structure Bm(P:Program)(t:TypeId){β:Type}(R:CT β)(bulk:β→Nat):Prop where
 out: ∀{H:Type}{enc:TypeId×Value→H}{W:World}{fuel:Nat}{cs:List Value}{x:DataW H×List MemPlace},DataW.trod enc P W 0 (λ_=>true) true fuel t cs=some x→ ∃b,R W cs b∧bulk b≤Rows.uptoBulk x.1
def TE:CT AE:=λ_ cs s=>cs=[AG s]∧s.length≤maxLen
def HD(k:IntKind):CT Int:=λ_ cs n=>cs=[.int k n]∧(Lit.int k n).wf=true
def TC:CT Bool:=λ_ cs b=>cs=[.bool b]
structure Bt{β:Type}(sz:Nat)(R:CT β)(W:World)(cs:List Value)(xs:List β):Prop where
 ex: ∃(a:Option Addr)(cap:Nat),cs=[.slice a xs.length cap]∧xs.length≤cap∧True∧
  ∀j(h:j<xs.length),∃b off cs',a=some ⟨b,off,none⟩∧cs'.length=sz∧(∀i v,cs'[i]?=some v→W.cell? ⟨b,off+(j*sz+i),none⟩=some v)∧R W cs' xs[j]
def Ij{α β:Type}(n:Nat)(R:CT α)(S:CT β):CT (α×β):=λW cs x=>R W (cs.take n) x.1∧S W (cs.drop n) x.2
theorem Bm.str{P:Program}{t:TypeId}(ht:P.underlying t=some .string):Bm P t TE (λs=>s.length+1):=by
 refine⟨λ{H enc W fuel cs x}h=>?_⟩;obtain⟨s,rfl,rfl,hs⟩:=DataW.trod_string ht h;exact⟨s.data.toList,⟨by rw[aC],by rw[Array.length_toList];exact hs⟩,AV _⟩
theorem Bm.int{P:Program}{t:TypeId}{k:IntKind}(ht:P.underlying t=some (.int k)):Bm P t (HD k) (λ_=>1):=by
 refine⟨λ{H enc W fuel cs x}h=>?_⟩;obtain⟨n,rfl,rfl,hs⟩:=DataW.trod_int ht h;exact⟨n,⟨rfl,hs⟩,AV _⟩
theorem Bm.bool{P:Program}{t:TypeId}(ht:P.underlying t=some .bool):Bm P t TC (λ_=>1):=by
 refine⟨λ{H enc W fuel cs x}h=>?_⟩;obtain⟨n,rfl,rfl⟩:=DataW.trod_bool ht h;exact⟨n,rfl,AV _⟩
theorem Tz{H:Type}{β:Type}(bulk:β→Nat): ∀(xs:List β)(D:Nat→DataW H),(∀j(h:j<xs.length),bulk xs[j]≤Rows.uptoBulk (D j))→(xs.map bulk).sum≤Rows.uptoBulkAll ((List.range xs.length).map D)
 |[],_,_=>AB
 |x::r,D,h=>by
  have ih:=Tz bulk r (λj=>D (j+1)) (λj hj=>h (j+1) (by simpa using hj));have h0:=h 0 AB;rw[Ai,List.range_succ_eq_map,A4,A4,Fp,HL];simp only[Rows.uptoBulkAll];have:Function.comp D Nat.succ= λj=>D (j+1):=rfl;rw[this];simp only[JU]at h0;omega
theorem Bm.slice{P:Program}{t e:TypeId}{β:Type}{R:CT β}{bulk:β→Nat}(ht:P.underlying t=some (.slice e)){sz:Nat}(hc:P.cellsOf e=sz)(h0:0<sz)(he:Bm P e R bulk):
  Bm P t (Bt sz R) (λxs=>(xs.map bulk).sum+1):=by
 refine⟨λ{H enc W fuel cs x}h=>?_⟩;rcases Go.Deep.open_slice ht h with⟨rfl,rfl⟩|⟨a,len,cap,m,n,D,Pl,rfl, -,hl,hm,hmm,rfl,hx⟩
 ·exact⟨[],⟨none,0,rfl,AV _,AC,λj h=>by simp at h⟩,by simp[Rows.uptoBulk]⟩
 rw[if_pos rfl]at hmm;subst hmm;rw[hc]at hx;have hall: ∀i,i<len→ ∃b:β,(∃cs',W.cells? 0 (a.add (i*sz)) sz=some cs'∧R W cs' b)∧bulk b≤Rows.uptoBulk (D i):=by
  intro i hi;obtain⟨cs',h1,h2⟩:=hx i AA;obtain⟨b,h3,h4⟩:=he.out h2;exact⟨b,⟨cs',h1,h3⟩,h4⟩
 have hxs: ∃xs:List β,xs.length=len∧ ∀i(hi:i<xs.length),(∃cs',W.cells? 0 (a.add (i*sz)) sz=some cs'∧R W cs' xs[i])∧bulk xs[i]≤Rows.uptoBulk (D i):=by
  clear h hx hl hm
  induction len with
  |zero=>exact⟨[],rfl,λi hi=>by simp at hi⟩
  |succ k ih=>
   obtain⟨xs,hxl,hxs⟩:=ih (λi hi=>hall i AA);obtain⟨b,hb⟩:=hall k AA;refine⟨xs++[b],by simp[hxl],λi hi=>?_⟩;by_cases hik:i<xs.length
   ·rw[List.getElem_append_left hik];exact hxs i hik
   ·have:i=k:=by simp at hi;omega
    subst this;rw[List.getElem_append_right AA];simpa[hxl]using hb
 obtain⟨xs,rfl,hxs⟩:=hxs;refine⟨xs,⟨some a,_,rfl,hl,trivial,λj hj=>?_⟩,?_⟩
 ·obtain⟨⟨cs',h1,h2⟩, -⟩:=hxs j hj;obtain⟨_,h3,h4⟩:=World.cells?_some h1;obtain⟨b,off,spot⟩:=a;have hcell: ∀i v,cs'[i]?=some v→W.cell? ((Addr.mk b off spot).add (j*sz+i))=some v:=by
   intro i v hv;have:=h4 i (by have:=(FR.1 hv).1;omega);rw[hv]at this;rwa[Go.Deep.add_add]at this
  have hspot:spot=none:=by
   obtain⟨⟨cs0,k1, -⟩, -⟩:=hxs 0 AA;obtain⟨_,k3,k4⟩:=World.cells?_some k1;have:=k4 0 h0;rw[CB (show 0<cs0.length by omega)]at this;simpa[Addr.add]using World.cell?_spot this
  subst hspot;refine⟨b,off,cs',rfl,h3,λi v hv=>?_,h2⟩;have:=hcell i v hv;rwa[add_plain]at this
 ·have:=Tz bulk xs D (λj hj=>(hxs j hj).2);simp only[Rows.uptoBulk];omega
theorem Bm.pair{P:Program}{t:TypeId}{f0 f1:Field}{α β:Type}{R:CT α}{S:CT β}{b0:α→Nat}{b1:β→Nat}(ht:P.underlying t=some (.struct #[f0,f1])){s0 s1:Nat}(o0:f0.offset=0)(o1:f1.offset=s0)
  (c0:P.cellsOf f0.type=s0)(c1:P.cellsOf f1.type=s1)(ct:P.cellsOf t=s0+s1)(h0:Bm P f0.type R b0)(h1:Bm P f1.type S b1):Bm P t (Ij s0 R S) (λx=>b0 x.1+b1 x.2+1):=by
 refine⟨λ{H enc W fuel cs x}h=>?_⟩;obtain⟨xs,n, -,rfl,hl,hxl,hx⟩:=DataW.trod_struct ht h;have e0:=hx 0 f0 rfl;have e1:=hx 1 f1 rfl;have hx2:xs.length=2:=by simpa using hxl
 rw[o0,c0,List.drop_zero]at e0;rw[o1,c1,HO (by rw[Do];omega)]at e1;rw[CB (show 0<xs.length by omega)]at e0;rw[CB (show 1<xs.length by omega)]at e1;obtain⟨a,g0,g1⟩:=h0.out e0;obtain⟨b,g2,g3⟩:=h1.out e1;refine⟨(a,b),⟨g0,g2⟩,?_⟩
 match xs,hx2 with
 |[u,v],_=>
  simp only[JU,List.getElem_cons_succ]at g1 g3;simp only[A4,kC,Rows.uptoBulk,Rows.uptoBulkAll];omega
structure ES(P:Program)(o:Nat)(fs:List Field)(sz:Nat){β:Type}(R:CT β)(bulk:β→Nat):Prop where
 out: ∀{H:Type}{enc:TypeId×Value→H}{W:World}{fuel:Nat}{cs:List Value}{xs:List (DataW H×List MemPlace)},cs.length=sz→xs.length=fs.length→
  (∀(i:Nat)(f:Field),fs[i]?=some f→DataW.trod enc P W 0 (λ_=>true) true fuel f.type ((cs.drop f.offset).take (P.cellsOf f.type))=xs[i]?)→ ∃b,R W (cs.drop o) b∧bulk b≤Rows.uptoBulkAll (xs.map (·.1))
def Zl:CT Unit:=λ_ cs _=>cs=[]
theorem ES.nil{P:Program}{sz:Nat}:ES P sz [] sz Zl (λ_=>0):=by
 refine⟨λ{H enc W fuel cs xs}h1 h2 h3=>?_⟩;refine⟨(),?_,Ag _⟩;show cs.drop sz=[];rw[List.drop_eq_nil_iff];omega
theorem ES.cons{P:Program}{o s sz:Nat}{f:Field}{fs:List Field}{α β:Type}{R:CT α}{S:CT β}{b0:α→Nat}{b1:β→Nat}(ho:f.offset=o)(hc:P.cellsOf f.type=s)(h0:Bm P f.type R b0)(h1:ES P (o+s) fs sz S b1):
  ES P o (f::fs) sz (Ij s R S) (λx=>b0 x.1+b1 x.2):=by
 refine⟨λ{H enc W fuel cs xs}hl hx h=>?_⟩
 match xs,hx with
 |x::xs,hx=>
  have e0:=h 0 f rfl;rw[ho,hc]at e0;obtain⟨a,g0,g1⟩:=h0.out e0;obtain⟨b,g2,g3⟩:=h1.out hl (by simpa using hx) (λi f' hf=>by simpa using h (i+1) f' (by simpa using hf));refine⟨(a,b),⟨g0,by rw[List.drop_drop];exact g2⟩,?_⟩;simp only[A4,Rows.uptoBulkAll];omega
theorem Bm.struct{P:Program}{t:TypeId}{fs:List Field}{sz:Nat}{β:Type}{R:CT β}{bulk:β→Nat}(ht:P.underlying t=some (.struct ⟨fs⟩))(ct:P.cellsOf t=sz)(h:ES P 0 fs sz R bulk):Bm P t R (λx=>bulk x+1):=by
 refine⟨λ{H enc W fuel cs x}hx=>?_⟩;obtain⟨xs,n, -,rfl,hl,hxl,hx⟩:=DataW.trod_struct ht hx;obtain⟨b,g0,g1⟩:=h.out (by rw[hl,ct]) (by simpa using hxl) (λi f hf=>hx i f (by simpa using hf));refine⟨b,by simpa using g0,?_⟩;simp only[Rows.uptoBulk];omega
theorem Bt.inv{β:Type}{sz:Nat}{R:CT β}{W:World}{v:Value}{xs:List β}(h:Bt sz R W [v] xs): ∃(a:Option Addr)(cap:Nat),v= .slice a xs.length cap∧xs.length≤cap∧True∧Bt sz R W [.slice a xs.length cap] xs:=by
 obtain⟨a,cap,h1,h2,h3,h4⟩:=h.ex;refine⟨a,cap,by simpa using h1,h2,h3,⟨a,cap,rfl,h2,h3,h4⟩⟩
theorem Bt.get{β:Type}{R:CT β}{W:World}{a:Option Addr}{n cap:Nat}{xs:List β}(h:Bt 1 R W [.slice a n cap] xs){j:Nat}(hj:j<xs.length): ∃b off v,a=some ⟨b,off,none⟩∧W.cell? ⟨b,off+j,none⟩=some v∧R W [v] xs[j]:=by
 obtain⟨a',cap',h1, -, -,h4⟩:=h.ex;obtain⟨b,off,cs,h5,h6,h7,h8⟩:=h4 j hj;have:a=a':=by simpa using(List.cons.inj h1).1|> λh=>(Value.slice.inj h).1
 subst this
 match cs,h6 with
 |[v],_=>exact⟨b,off,v,h5,by simpa using h7 0 v rfl,h8⟩
theorem Trod.out{H:Type}{enc:TypeId×Value→H}{P:Program}{W:World}{t:TypeId}{v:Value}{d:DataW H}{p:List MemPlace}(hd:DataW.Trod enc P W 0 (λ_=>true) true t v d p){β:Type}{R:CT β}{bulk:β→Nat}(h:Bm P t R bulk):
  ∃b,R W v.cells.toList b∧bulk b≤Rows.uptoBulk d:=by
 obtain⟨fuel,hf⟩:=hd;exact h.out hf
end Go.Proofs.YtkgibdhpijdbfaaGreatDoor
namespace Go.Proofs.YtkgibdhpijdbfaaGreatDoor
open Go Go.Eng
def Ak(n:Nat):AE:=if n<128 then [UInt8.ofNat n]else UInt8.ofNat (n % 128+128)::Ak (n / 128)
termination_by n
decreasing_by omega
theorem KA{n:Nat}(h:n<128):Ak n=[UInt8.ofNat n]:=by rw[Ak,if_pos h]
theorem K6{n:Nat}(h: ¬n<128):Ak n=UInt8.ofNat (n % 128+128)::Ak (n / 128):=by rw[Ak,if_neg h]
theorem K7(n:Nat):1≤(Ak n).length:=by
 by_cases h:n<128
 ·rw[KA h];simp
 ·rw[K6 h];simp
theorem RW: ∀(k n:Nat),n<128 ^ (k+1)→(Ak n).length≤k+1
 |0,n,h=>by rw[KA (by simpa using h)];simp
 |k+1,n,h=>by
  by_cases h2:n<128
  ·rw[KA h2];simp
  ·rw[K6 h2];have h3:128 ^ (k+1+1)=128 ^ (k+1)*128:=Nat.pow_succ ..;have:=RW k (n / 128) AA;simp only[Ai];omega
def Ed(z:Int):Nat:=if 0≤z then 2*z.toNat else 2*(-(z+1)).toNat+1
def Bh(z:Int):AE:=Ak (Ed z)
def Ci(zs:List Int):AE:=(zs.map Bh).flatten
def Be(s:AE):AE:=Ak s.length++s
end Go.Proofs.YtkgibdhpijdbfaaGreatDoor
namespace Go.Eng
open Go
theorem K2{w:World}{a:Addr}{v:Value}(h:w.cell? a=some v){K:Value→Prop}(hk:K v):FK (λw'=>w=w') a K:=⟨⟨v,λ_ e=>by subst e;exact h,hk⟩⟩
theorem IQ{w:World}{n b off:Nat}{cs:List Value}(hn:cs.length=n)(h: ∀j v,cs[j]?=some v→w.cell? ⟨b,off+j,none⟩=some v){K:List Value→Prop}(hk:K cs):GN (λw'=>w=w') n b off K:=⟨⟨cs,hn,λ_ e j v hj=>by subst e;exact h j v hj,hk⟩⟩
theorem RH{w0:World}{T:List Nat}{H:AH}{a:Addr}{v:Value}(h: ∀w,St w0 T H w→w.cell? a=some v){K:Value→Prop}(hk:K v):FK (λw'=>St w0 T H w') a K:=⟨⟨v,λw hw=>h w hw,hk⟩⟩
theorem JZ{w0:World}{T:List Nat}{H:AH}{n b off:Nat}{cs:List Value}(hn:cs.length=n)(h: ∀w,St w0 T H w→ ∀j v,cs[j]?=some v→w.cell? ⟨b,off+j,none⟩=some v){K:List Value→Prop}(hk:K cs):GN (λw'=>St w0 T H w') n b off K:=⟨⟨cs,hn,λw hw j v hj=>h w hw j v hj,hk⟩⟩
end Go.Eng
namespace Go.Proofs.YtkgibdhpijdbfaaGreatDoor
open Go Go.Proofs
theorem V6{P:Program}{f:FuncId}{fn:Func}{s:ChangeSpec}{c:OpenClaim}
  (h1:(c.wf (OpenSpec.ofChange s)&&laidOutB P&&mapsRowed P&&fn.params.all (P.readableRec ·)&&namedTie P c.named s.vars&&(c.stops==[])&&(P.stops==[])&&(c.knobs==[])&&(P.stopKnobs==[]))=true)
  (h2:(c.inPlace==P.inPlace f)=true)(h3:(c.unfollowed==P.unfollowed f)=true)(h4:(c.recurses==P.recurses f)=true)(h5:(c.named==P.varsNamed f)=true)
  (h6:((c.maps==(fn.params.toList++s.plain.varTypes P).any (P.mapsRec ·))&&(c.ifaces==(fn.params.toList++s.plain.varTypes P).any (P.ifacesRec ·))&&(c.mapsOut==P.mapsAmong fn.resultTypes.toList)&&(c.loops==(fn.params.toList++s.plain.varTypes P).any (P.loopsFrom ·))&&(c.wideKeys==(fn.params.toList++s.plain.varTypes P++fn.resultTypes.toList).any (P.wideKeysFrom ·))&&s.vars.all (P.varReadable ·))=true)
  (h7:(fn.resultTypes.all (λt=>P.readableRec t&&decide (t<P.types.size))&&(c.ifacesOut==fn.resultTypes.toList.any (P.ifacesRec ·))&&(c.loopsOut==fn.resultTypes.toList.any (P.loopsFrom ·))&&(c.plainKeys==P.plainKeys)&&c.shortTexts.isNone&&P.stopsHeard&&P.mayEnter&&(c.lifted==P.liftsFinal)&&(P.make==some c.make))=true)
  (h8:((c.kinds==(if c.domain.isEmpty then []else fn.params.toList.map λt=>match P.underlying t with|some (.int k)=>some k|_=>none))&&(c.pinned==c.pinnedBy)&&(c.veiled==(fn.params.toList++s.plain.varTypes P++fn.resultTypes.toList).any (P.veiledRec ·))&&c.veiledFits P fn.params.toList (fn.params.toList++s.plain.varTypes P++fn.resultTypes.toList))=true):joinedFacts P f fn s c=true:=by
 unfold joinedFacts;simp only[Bool.and_eq_true]at h1 h6 h7 h8⊢;obtain⟨⟨⟨⟨⟨⟨⟨⟨a1,a2⟩,a3⟩,a4⟩,a5⟩,a6⟩,a7⟩,a8⟩,a9⟩:=h1;obtain⟨⟨⟨⟨⟨b1,b2⟩,b3⟩,b4⟩,b5⟩,b6⟩:=h6;obtain⟨⟨⟨⟨⟨⟨⟨⟨d1,d2⟩,d3⟩,d4⟩,d5⟩,d6⟩,d7⟩,d8⟩,d9⟩:=h7;obtain⟨⟨⟨f1,f2⟩,f3⟩,f4⟩:=h8;exact⟨⟨⟨⟨⟨⟨⟨⟨⟨⟨⟨⟨⟨⟨⟨⟨⟨⟨⟨⟨⟨⟨⟨⟨⟨⟨⟨⟨⟨⟨⟨a1,a2⟩,a3⟩,a4⟩,a5⟩,a6⟩,a7⟩,a8⟩,a9⟩,h2⟩,h3⟩,h4⟩,h5⟩,b1⟩,b2⟩,b3⟩,b4⟩,b5⟩,b6⟩,d1⟩,d2⟩,d3⟩,d4⟩,d5⟩,d6⟩,d7⟩,d8⟩,d9⟩,f1⟩,f2⟩,f3⟩,f4⟩
end Go.Proofs.YtkgibdhpijdbfaaGreatDoor
