/- Texts of this claim, one behind the other. -/
import Derived.Test.YtkgibdhpijdbfaaGreatDoorZ3
import Derived.Lib.Bytealg
import Derived.Laws.CopyRow
import Derived.Test.YtkgibdhpijdbfaaGreatDoorZ1
set_option linter.unusedVariables false
set_option linter.unusedSimpArgs false
set_option maxHeartbeats 16000000
namespace Go.Eng
open Go
theorem Arr.ldn{w0 w:World}{T:List Nat}{H:AH}(hS:St w0 T H w){a:Option Addr}{xs:List Value}(ha:Arr w0 T a xs){b off n:Nat}(hb:a=some ⟨b,off,none⟩){k:Nat}{l':List Value}(hl:(xs.drop k).take n=l')(hn:l'.length=n){K:List Value→Prop}(hk:K l'):
  GM (λw'=>w=w') n b (off+k) K:=by
 subst hl;refine⟨⟨_,hn,λ_ e j v hv=>?_,hk⟩⟩;subst e;have hv2:xs[k+j]?=some v:=by
  rw[IJ]at hv
  split at hv
  ·rw[Iu]at hv;exact hv
  ·cases hv
 obtain⟨b',off',h1,h2,h3⟩:=ha (k+j) v hv2;rw[hb]at h1;simp only[Option.some.injEq,Addr.mk.injEq,and_true]at h1;obtain⟨rfl,rfl⟩:=h1;have:=hS.oldCell (a:=⟨b,off+(k+j),none⟩) h2 h3;rw[Gn];exact this
theorem Arr.dropS{w:World}{T:List Nat}{g off cap k sz:Nat}{xs ys:List Value}(h:Arr w T (some ⟨g,off,none⟩) (xs++ys))(hx:xs.length=k*sz)(hc:ys≠[]→k<cap):Arr w T (CU g off k cap sz) ys:=by
 unfold CU
 split
 ·next hk=>
  have:ys=[]:=by
   cases ys with
   |nil=>rfl
   |cons y ys=>have:=hc AB;omega
  subst this;exact Arr.nil _ _ _
 ·intro j x hj;obtain⟨b,o,h1,h2,h3⟩:=h (xs.length+j) x (by rw[D2 AA,show xs.length+j-xs.length=j by omega];exact hj);simp at h1;obtain⟨rfl,rfl⟩:=h1;exact⟨g,off+k*sz,rfl,h2,by rw[←hx,show off+xs.length+j=off+(xs.length+j) by omega];exact h3⟩
theorem Arr.ldc{w0 w:World}{T:List Nat}{H:AH}(hS:St w0 T H w){g off i j:Nat}{xs:List Value}(ha:Arr w0 T (some ⟨g,off,none⟩) xs){v:Value}(hx:xs[j]?=some v)(hi:i=off+j){K:Value→Prop}(hk:K v):FG (λw'=>w=w') ⟨g,i,none⟩ K:=by
 obtain⟨b',off',h1,h2,h3⟩:=ha j v hx;simp only[Option.some.injEq,Addr.mk.injEq,and_true]at h1;obtain⟨rfl,rfl⟩:=h1;rw[hi];exact hS.ldOld h2 h3 hk
theorem Arr.ldcC{w0:World}{T:List Nat}{H:AH}{g off i j:Nat}{xs:List Value}(ha:Arr w0 T (some ⟨g,off,none⟩) xs){v:Value}(hx:xs[j]?=some v)(hi:i=off+j){K:Value→Prop}(hk:K v):FG (λw'=>St w0 T H w') ⟨g,i,none⟩ K:=by
 obtain⟨b',off',h1,h2,h3⟩:=ha j v hx;simp only[Option.some.injEq,Addr.mk.injEq,and_true]at h1;obtain⟨rfl,rfl⟩:=h1;rw[hi];exact⟨⟨v,λ_ h'=>h'.oldCell (a:=⟨g,off+j,none⟩) h2 h3,hk⟩⟩
theorem Arr.ldnC{w0:World}{T:List Nat}{H:AH}{g off i n k:Nat}{xs l':List Value}(ha:Arr w0 T (some ⟨g,off,none⟩) xs)(hl:(xs.drop k).take n=l')(hn:l'.length=n)(hi:i=off+k){K:List Value→Prop}(hk:K l'):
  GM (λw'=>St w0 T H w') n g i K:=by
 subst hl;refine⟨⟨_,hn,λ_ h' j v hv=>?_,hk⟩⟩;have hv2:xs[k+j]?=some v:=by
  rw[IJ]at hv
  split at hv
  ·rw[Iu]at hv;exact hv
  ·cases hv
 obtain⟨b',off',h1,h2,h3⟩:=ha (k+j) v hv2;simp only[Option.some.injEq,Addr.mk.injEq,and_true]at h1;obtain⟨rfl,rfl⟩:=h1;have:=h'.oldCell (a:=⟨g,off+(k+j),none⟩) h2 h3;rw[hi,Gn];exact this
end Go.Eng
namespace Go.Proofs.YtkgibdhpijdbfaaGreatDoor
open Go Go.Eng
def KK:Nat:=4294967296
def IW(n x:Nat):Nat:=x / 2 ^ n+x % 2 ^ n*2 ^ (32-n)
def sU:List Nat:=[1116352408,1899447441,3049323471,3921009573,961987163,1508970993,2453635748,2870763221,3624381080,310598401,607225278,1426881987,1925078388,2162078206,2614888103,3248222580,3835390401,4022224774,264347078,604807628,770255983,1249150122,1555081692,1996064986,2554220882,2821834349,2952996808,3210313671,3336571891,3584528711,113926993,338241895,666307205,773529912,1294757372,1396182291,1695183700,1986661051,2177026350,2456956037,2730485921,2820302411,3259730800,3345764771,3516065817,3600352804,4094571909,275423344,430227734,506948616,659060556,883997877,958139571,1322822218,1537002063,1747873779,1955562222,2024104815,2227730452,2361852424,2428436474,2756734187,3204031479,3329325298]
def zC(b:AE)(i:Nat):Nat:=((b.getD (4*i) 0).toNat*16777216+(b.getD (4*i+1) 0).toNat*65536)+(b.getD (4*i+2) 0).toNat*256+(b.getD (4*i+3) 0).toNat
def xG(x:Nat):Nat:=IW 7 x ^^^ IW 18 x ^^^ x / 8
def xH(x:Nat):Nat:=IW 17 x ^^^ IW 19 x ^^^ x / 1024
def zA(w:List Nat)(i:Nat):Nat:=(w.getD (i-16) 0+w.getD (i-7) 0+xG (w.getD (i-15) 0)+xH (w.getD (i-2) 0)) % KK
def PQ(b:AE):Nat→List Nat
 |0=>(List.range 16).map (zC b)
 |n+1=>PQ b n++[zA (PQ b n) (16+n)]
def nt(x:Nat):Nat:=KK-1-x
def MZ(a:Nat):Nat:=IW 2 a ^^^ IW 13 a ^^^ IW 22 a
def bW(e:Nat):Nat:=IW 6 e ^^^ IW 11 e ^^^ IW 25 e
def YZ(v:List Nat)(k w:Nat):Nat:=(v.getD 7 0+bW (v.getD 4 0)+((v.getD 4 0 &&& v.getD 5 0) ^^^ (nt (v.getD 4 0) &&& v.getD 6 0))+k+w) % KK
def yG(v:List Nat):Nat:=(MZ (v.getD 0 0)+((v.getD 0 0 &&& v.getD 1 0) ^^^ (v.getD 0 0 &&& v.getD 2 0) ^^^ (v.getD 1 0 &&& v.getD 2 0))) % KK
def wT(v:List Nat)(k w:Nat):List Nat:=
 [(YZ v k w+yG v) % KK,v.getD 0 0,v.getD 1 0,v.getD 2 0,(v.getD 3 0+YZ v k w) % KK,v.getD 4 0,v.getD 5 0,v.getD 6 0]
def X6(v w:List Nat):Nat→List Nat
 |0=>v
 |n+1=>wT (X6 v w n) (sU.getD n 0) (w.getD n 0)
def bB(h v:List Nat):List Nat:=(List.range 8).map λi=>(h.getD i 0+v.getD i 0) % KK
def PD(h:List Nat)(b:AE):List Nat:=bB h (X6 h (PQ b 48) 64)
def bN(n:Nat):AE:=[UInt8.ofNat (n / 2 ^ 56),UInt8.ofNat (n / 2 ^ 48),UInt8.ofNat (n / 2 ^ 40),UInt8.ofNat (n / 2 ^ 32),UInt8.ofNat (n / 2 ^ 24),UInt8.ofNat (n / 2 ^ 16),UInt8.ofNat (n / 2 ^ 8),UInt8.ofNat n]
def zM(n:Nat):Nat:=(119-n % 64) % 64
def qV(t:AE):AE:=t++([128]++List.replicate (zM t.length) 0)++bN (8*t.length)
theorem tA(x y:UInt8)(xs ys:AE):Op.bytesLess (x::xs) (y::ys)=(decide (x.toNat<y.toNat)||(decide (x.toNat=y.toNat)&&Op.bytesLess xs ys)):=by
 show(decide (x<y)||(x==y&&Op.bytesLess xs ys))=_;have e1:decide (x<y)=decide (x.toNat<y.toNat):=by
  rw[decide_eq_decide];exact UInt8.lt_iff_toNat_lt
 have e2:(x==y)=decide (x.toNat=y.toNat):=by
  rw[Bool.eq_iff_iff,beq_iff_eq,decide_eq_true_eq];exact⟨λh=>by rw[h],λh=>UInt8.toNat_inj.1 h⟩
 rw[e1,e2]
end Go.Proofs.YtkgibdhpijdbfaaGreatDoor
namespace Go.Proofs.YtkgibdhpijdbfaaGreatDoor
open Go Go.Eng Go.Proofs
theorem MY(x y:UInt8)(xs ys:AE):Op.bytesLess (x::xs) (y::ys)=(decide (x.toNat<y.toNat)||(decide (x.toNat=y.toNat)&&Op.bytesLess xs ys)):=tA x y xs ys
theorem F4: ∀x:AE,Op.bytesLess x x=false
 |[]=>rfl
 |c::x=>by rw[MY,F4 x];simp
theorem P6(x:AE):Op.bytesLess x []=false:=by cases x<;>rfl
theorem JQ: ∀x y z:AE,Op.bytesLess x y=true→Op.bytesLess y z=true→Op.bytesLess x z=true
 |_,[],_,h,_=>by rw[P6]at h;cases h
 |_,_::_,[],_,h=>by rw[P6]at h;cases h
 |[],_::_,_::_,_,_=>rfl
 |a::x,b::y,c::z,h1,h2=>by
  rw[MY]at h1 h2⊢;simp only[Bool.or_eq_true,Bool.and_eq_true,decide_eq_true_eq]at h1 h2⊢;rcases h1 with h1|⟨h1,h1'⟩
  ·rcases h2 with h2|⟨h2, -⟩
   ·exact .inl (Nat.lt_trans h1 h2)
   ·exact .inl (h2▸h1)
  ·rcases h2 with h2|⟨h2,h2'⟩
   ·exact .inl (h1▸h2)
   ·exact .inr ⟨h1.trans h2,JQ x y z h1' h2'⟩
theorem P7: ∀x y:AE,Op.bytesLess x y=true∨x=y∨Op.bytesLess y x=true
 |[],[]=> .inr (.inl rfl)
 |[],_::_=> .inl rfl
 |_::_,[]=> .inr (.inr rfl)
 |a::x,b::y=>by
  rw[MY,MY];simp only[Bool.or_eq_true,Bool.and_eq_true,decide_eq_true_eq];rcases Nat.lt_trichotomy a.toNat b.toNat with h|h|h
  ·exact .inl (.inl h)
  ·rcases P7 x y with h2|h2|h2
   ·exact .inl (.inr ⟨h,h2⟩)
   ·exact .inr (.inl (by rw[UInt8.toNat_inj.1 h,h2]))
   ·exact .inr (.inr (.inr ⟨h.symm,h2⟩))
  ·exact .inr (.inr (.inl h))
theorem bT{x y:AE}(h:Op.bytesLess x y=true):Op.bytesLess y x=false:=by
 cases h2:Op.bytesLess y x with
 |false=>rfl
 |true=>have:=JQ x y x h h2;rw[F4]at this;cases this
def F6(x y:Int):Int:=if x<y then-1 else if y<x then 1 else 0
theorem T9: ∀(a b:AE),decide (Lib.compareBytes a b<0)=Op.bytesLess a b
 |[],[]=>rfl
 |[],_::_=>rfl
 |_::_,[]=>rfl
 |a::la,b::lb=>by
  rw[MY];unfold Lib.compareBytes;have e: ∀x y:UInt8,x<y↔x.toNat<y.toNat:=λx y=>UInt8.lt_iff_toNat_lt;by_cases h:a.toNat<b.toNat
  ·rw[if_pos ((e a b).2 h),decide_eq_true h];rfl
  ·rw[if_neg (λh2=>h ((e a b).1 h2)),decide_eq_false h,Bool.false_or];by_cases h2:b.toNat<a.toNat
   ·rw[if_pos ((e b a).2 h2),decide_eq_false (by omega: ¬a.toNat=b.toNat)];rfl
   ·rw[if_neg (λh3=>h2 ((e b a).1 h3)),decide_eq_true (by omega:a.toNat=b.toNat),Bool.true_and];exact T9 la lb
theorem Ma: ∀(a b:AE),Lib.compareBytes a b=0↔a=b
 |[],[]=>by simp[Lib.compareBytes]
 |[],_::_=>by simp[Lib.compareBytes]
 |_::_,[]=>by simp[Lib.compareBytes]
 |a::la,b::lb=>by
  unfold Lib.compareBytes;have e: ∀x y:UInt8,x<y↔x.toNat<y.toNat:=λx y=>UInt8.lt_iff_toNat_lt;by_cases h:a.toNat<b.toNat
  ·rw[if_pos ((e a b).2 h)];exact⟨nofun,λh2=>by simp only[List.cons.injEq]at h2;rw[h2.1]at h;omega⟩
  ·rw[if_neg (λh2=>h ((e a b).1 h2))];by_cases h2:b.toNat<a.toNat
   ·rw[if_pos ((e b a).2 h2)];exact⟨nofun,λh3=>by simp only[List.cons.injEq]at h3;rw[h3.1]at h2;omega⟩
   ·rw[if_neg (λh3=>h2 ((e b a).1 h3)),Ma la lb];have:a=b:=UInt8.toNat_inj.1 AA;simp[this]
end Go.Proofs.YtkgibdhpijdbfaaGreatDoor
namespace Go.Eng
open Go
section
variable {P : Program} {T0 : BL}
theorem Q6(hT:BR P T0){t e:TypeId}{i ie:TI}{n:Nat}(hi:tf T0 t=some i)(hk:i.k= .arr n e 1)(hie:tf T0 e=some ie)(hagg:ie.agg=false){cs:List Value}{j:Nat}(hj:j<n){v:Value}(hv:cs[j]?=some v){k:IntKind}{K:Value→Prop}(hK:K v):
  JJ P (Instr.index t (.agg ⟨cs⟩) (.int k (j:Int))) K:=by
 refine⟨v,λw=>?_,hK⟩;have ht:=CZ hT hi;rw[hk]at ht;obtain⟨hu,hs⟩:=ht;cases hinf:P.info? e with
 |none=>rw[hinf]at hs;simp at hs
 |some inf=>
  rw[hinf]at hs;have hs1:inf.size=1:=by simpa using hs
  have ha:(isAgg e).run P w= .ok false w:=Oe hT hie hagg w;simp[Instr.index,run_underlying hu,asIntOf,hj,part,ha,sizeOf,typeInfo,hinf,hs1];rw[hv];rfl
theorem St.copy(hT:BR P T0){t u e ty:TypeId}{i:TI}(hi:tf T0 t=some i)(hk:i.k= .slice e 1){w0 w:World}{T:List Nat}{H:AH}{g off n cap:Nat}{l:List Value}{et:TypeId}{F:Obj→AH}(hS:St w0 T H w) [hs:Slot H g (.cells ⟨l⟩ et (0,0)) F]
  {a:Addr}{m c:Nat}{cs:List Value}(hn:cs.length=min m n)(ha:Arr w [] (some a) cs)(h1:cs.all Value.oneCell'=true)(hfit:off+cs.length≤l.length){K:Value→World→Prop}
  (h: ∀w',St w0 T (F (.cells ⟨FU l off cs⟩ et (0,0))) w'→K (.int .i64 cs.length) w'):
  Bm P (Builtin.copy_ ⟨[t,u]⟩ ty ⟨[.slice (some ⟨g,off,none⟩) n cap,.slice (some a) m c]⟩) w K:=by
 have ht:=CZ hT hi;rw[hk]at ht;have hmem:=hS.mem (b:=g);refine Bm.of (run_copy_row P w t u ty e g off n cap a m c ⟨l⟩ et cs ht.1 ht.2 hmem hn (λj v hj=>?_) (by simpa using hfit) (λv hv=>Db.1 h1 v hv)) ?_
 ·obtain⟨b',o',h2, -,h3⟩:=ha j v hj;cases h2;rw[Addr.add_eq];exact h3
 ·exact h _ (hS.setRow (l:=l))
end
end Go.Eng
namespace Go.Proofs.YtkgibdhpijdbfaaGreatDoor
open Go Go.Eng Go.Proofs
abbrev AO:=AE×AE
def BM(r:AO):List Value:=[AG r.1,.bool false,AG r.2]
theorem Rb(r:AO):(BM r).length=3:=rfl
def EP(r q:AO):Prop:=Op.bytesLess r.1 q.1=true
theorem Xo(l:List AO):(l.flatMap BM).length=3*l.length:=by
 induction l with
 |nil=>rfl
 |cons p ps ih=>rw[E9,AP,ih,Rb,Ah];omega
theorem wJ(l:List AO)(k:Nat)(hk:k<l.length):((l.flatMap BM).drop (k*3)).take 3=BM l[k]:=by
 induction l generalizing k with
 |nil=>simp at hk
 |cons p ps ih=>
  cases k with
  |zero=>simp only[Nat.zero_mul,List.drop_zero,E9,Ja];exact Gm (Rb p)
  |succ k=>
   rw[E9,show(k+1)*3=(BM p).length+k*3 by rw[Rb];omega,List.drop_length_add_append];exact ih k (by simpa using hk)
theorem LW(l:List AO)(k:Nat)(hk:k<l.length):(l.flatMap BM)[k*3]?=some (AG l[k].1):=by
 have h:=wJ l k hk;have h2:=congrArg (λx=>x[0]?) h;simp only[IJ,Iu,Nat.add_zero]at h2;simpa[BM]using h2
end Go.Proofs.YtkgibdhpijdbfaaGreatDoor
namespace Go.Eng
open Go
section
variable {P : Program} {ops : Array Oper} {Q : Exit → Act → World → Prop} {md : Region.Mode} {S : Nat → World → World → Prop}
def Kc(P:Program)(md:Region.Mode)(ops:Array Oper)(Q:Exit→Act→World→Prop)(S:Nat→World→World→Prop):Nat→Array Bool→Act→World→Prop
 |0,listed,a,w=>Region.ready md ops listed=[]∧Q .normal a w
 |fuel+1,listed,a,w=>
  (Region.ready md ops listed=[]→Q .normal a w)∧
  ∀i∈Region.ready md ops listed,wpOp P ops Q i (λa' w'=>S i w w'∧Kc P md ops Q S fuel (listed.setIfInBounds i true) a' w') a w
theorem Yw: ∀(fuel:Nat)(listed:Array Bool)(a:Act)(w:World),Kc P md ops Q S fuel listed a w→wpAny P md ops Q fuel listed a w
 |0,_,_,_,h=>h
 |fuel+1,_,_,_,h=>⟨h.1,λi hi=>wpOp_mono (λa' w' h'=>Yw fuel _ a' w' h'.2) (h.2 i hi)⟩
theorem Yv{C:World→Prop}{n i:Nat}{oi:Oper}{v:Value}(hi:ops[i]?=some oi)(hsel: ∀(j:Nat)(o:Oper)cs b,ops[j]?=some o→o.op≠ .select cs b)
  (hQ: ∀c a w,Q (.panic c) (a.put oi.dst v) w→Q (.panic c) a w)(hSi: ∀w,S i w w):
  ∀(fuel:Nat)(listed:Array Bool)(a:Act)(w:World),HY ops listed→
   (∀j oj,ops[j]?=some oj→j≠i→listed.getD j true=false→Es ops n j i=false→oi.apart ops oj=true∧ ∀w1 w2,C w1→S j w1 w2→C w2)→
   i∈Region.ready .any ops listed→YieldsIf P ops C oi v a→C w→
   Kc P .any ops Q S fuel (listed.setIfInBounds i true) (a.put oi.dst v) w→Kc P .any ops Q S (fuel+1) listed a w:=by
 intro fuel
 induction fuel with
 |zero=>
  intro listed a w _ _ hr hy hS H;refine⟨λh=>(by rw[h]at hr;cases hr),λj hj=>?_⟩;by_cases hji:j=i
  ·subst hji;exact hy.wpOp hi hS ⟨hSi _,H⟩
  ·have:=ready_mono hj hji;rw[H.1]at this;cases this
 |succ fuel ih=>
  intro listed a w hcl hfree hr hy hS H;refine⟨λh=>(by rw[h]at hr;cases hr),λj hj=>?_⟩;by_cases hji:j=i
  ·subst hji;exact hy.wpOp hi hS ⟨hSi _,H⟩
  ·have h1:=H.2 j (ready_mono hj hji);obtain⟨hjun,oj,hoj,hall⟩:=mem_ready.1 hj;have hnot:=Xn (n:=n) hcl (mem_ready.1 hr).1 hj;obtain⟨hap,hkeep⟩:=hfree j oj hoj hji hjun hnot;have h2:=wpOp_putIf hoj hap (λcs b=>hsel i oi cs b hi) (λcs b=>hsel j oj cs b hoj) hQ hy h1;have hfree': ∀k ok,ops[k]?=some ok→k≠i→(listed.setIfInBounds j true).getD k true=false→
     Es ops n k i=false→oi.apart ops ok=true∧ ∀w1 w2,C w1→S k w1 w2→C w2:=λk ok hk hki hun hno=>by
    refine hfree k ok hk hki ?_ hno;by_cases hjk:j=k
    ·subst hjk;exact hjun
    ·rw[getD_set_ne true hjk]at hun;exact hun
   refine wpOp_mono (λa' w' h3=>⟨h3.2.1,ih (listed.setIfInBounds j true) a' w' (hcl.set hj) hfree' (ready_mono hr (Ne.symm hji)) h3.1 (hkeep _ _ hS h3.2.1) ?_⟩) h2;rw[Array.setIfInBounds_comm _ _ hji];exact h3.2.2
end
abbrev Eo(w w':World):Prop:=St w [] [] w'
theorem Eo.refl(w:World):Eo w w:=St.start w
theorem Eo.trans{w w1 w2:World}(h:Eo w w1)(h':Eo w1 w2):Eo w w2:=St.call0 h h'
def Qw(fin:List Nat)(i:Nat)(w w':World):Prop:=i∈fin∨Eo w w'
theorem St.alG{w0 w:World}{T:List Nat}{H:AH}(hS:St w0 T H w){o:Obj}{K:Nat→World→Prop}(h: ∀b w',Eo w w'→St w0 T ((b,o)::H) w'→K b w'):Ia w o K:=
 ⟨h _ _ ((St.start w).alloc o).nil (hS.alloc o)⟩
theorem St.ldG{w0 w:World}{T:List Nat}{H:AH}{b off:Nat}{l:List Value}{t:TypeId}{fz:Nat×Nat}{F:Obj→AH}(hS:St w0 T H w) [Slot H b (.cells ⟨l⟩ t fz) F]{v:Value}(hv:l[off]?=some v)
  {K:Value→Prop}(hk:K v):FG (Eo w) ⟨b,off,none⟩ K:=
 ⟨⟨v,λ_ h=>h.oldCell AB (hS.cell hv),hk⟩⟩
theorem St.ldnG{w0 w:World}{T:List Nat}{H:AH}{n b off:Nat}{l:List Value}{t:TypeId}{fz:Nat×Nat}{F:Obj→AH}(hS:St w0 T H w) [Slot H b (.cells ⟨l⟩ t fz) F](hn:Nat.ble (off+n) l.length=true)
  {K:List Value→Prop}(hk:Kx ((l.drop off).take n) K):GM (Eo w) n b off K:=by
 have hle:=KE hn;refine⟨⟨_,by simp;omega,λ_ h j v hv=>?_,(Mo _ _).1 hk⟩⟩;refine h.oldCell AB (hS.cell ?_);rw[IJ]at hv
 split at hv
 ·rw[Iu]at hv;exact hv
 ·cases hv
def Yf(ops:Array Oper)(kd:Op→JI)(fin:List Nat)(listed:Array Bool)(i:Nat):Bool:=match ops[i]? with
 |none=>false
 |some o=>(match kd o.op with| .eff=>false|_=>true)&&(Region.ready .any ops listed).contains i&&IG ops listed i&& !fin.elem i&&J2 ops listed fin i
structure Cf(P:Program)(T:BL)(N:Nat)(all:List Oper)(fin:List Nat)(Q:Exit→AZ→World→Prop)(n:Nat)(listed:Array Bool)(e:AZ)(w:World):Prop where
 out: ∀a,HY ⟨all⟩ listed→BO [] N e a→Kc P .any ⟨all⟩ (KH N Q) (Qw fin) n listed a w
def KY(P:Program)(T:BL)(N:Nat)(all:List Oper)(fin:List Nat)(Q:Exit→AZ→World→Prop)(n:Nat):List Nat→Array Bool→AZ→World→Prop
 |[],listed,e,w=>Cf P T N all fin Q n listed e w
 |i::r,listed,e,w=>MV all i λo=>J4 all o.guard e
  (λe=>match kind T o.op with
   |.pure=>LR P T e o.op λv=>Ej N o.dst v e λe'=>KY P T N all fin Q n r (listed.setIfInBounds i true) e' w
   |.read=>LV P T e (Eo w) o λv=>Ej N o.dst v e λe'=>KY P T N all fin Q n r (listed.setIfInBounds i true) e' w
   |.eff=>False)
  (λe=>Ej N o.dst undef e λe'=>KY P T N all fin Q n r (listed.setIfInBounds i true) e' w)
def SE(ops:Array Oper)(kd:Op→JI)(fin:List Nat):List Nat→Array Bool→Bool
 |[],_=>true
 |i::r,listed=>Yf ops kd fin listed i&&SE ops kd fin r (listed.setIfInBounds i true)
section
variable {P : Program} {T : BL} (hT : BR P T) {N : Nat} {all : List Oper} {fin : List Nat} {Q : Exit → AZ → World → Prop}
include hT
theorem Cf.takes(hsel:Region.noSelect ⟨all⟩=true)(n:Nat): ∀(is:List Nat){listed:Array Bool}{e:AZ}{w:World}(_h:SE ⟨all⟩ (kind T) fin is listed=true)(_g:KY P T N all fin Q n is listed e w),Cf P T N all fin Q (n+is.length) listed e w
 |[],_,_,_,_,g=>g
 |i::r,listed,e,w,h,g=>by
  refine⟨λa hcl hr=>?_⟩;simp only[SE,Bool.and_eq_true]at h;obtain⟨h1,h2⟩:=h;obtain⟨o,ho,g⟩:=MW g;have ho':(Array.mk all)[i]?=some o:=by simpa using ho
  unfold Yf at h1;simp only[ho',Bool.and_eq_true]at h1;obtain⟨⟨⟨⟨hk,hrd⟩,hf⟩,hnf⟩,hw⟩:=h1;have hready:i∈Region.ready .any ⟨all⟩ listed:=by simpa using hrd
  have key: ∀(v:Value)(e':AZ),YieldsIf P ⟨all⟩ (Eo w) o v a→BO [] N e' (a.put o.dst v)→KY P T N all fin Q n r (listed.setIfInBounds i true) e' w→
    Kc P .any ⟨all⟩ (KH N Q) (Qw fin) (n+(i::r).length) listed a w:=by
   intro v e' hy hr' hv;rw[Ah,←Gn];refine Yv (C:=Eo w) (n:=all.length) ho' (Region.noSelect_spec hsel) (λc a w h=>h.elim) (λw=> .inr (Eo.refl w)) (n+r.length) listed a w hcl ?_ hready hy (Eo.refl w) ?_
   ·intro j oj hj hne hun hd;have hjlt:j<all.length:=by have:=(Array.getElem?_eq_some_iff.1 hj).1;simpa using this
    simp only[IG,ho',Db,List.mem_range]at hf;have h1:=hf j (by simpa using hjlt);have hd':Es ⟨all⟩ (Array.mk all).size j i=false:=hd;simp only[hj,Bool.or_eq_true,beq_iff_eq,hne,false_or,hun,hd',Bool.false_eq_true]at h1;refine⟨h1,λw1 w2 hw1 hw2=>?_⟩;rcases hw2 with hw2|hw2
    ·simp only[J2,Db]at hw;have h3:=hw j hw2;simp only[Bool.or_eq_true,beq_iff_eq,hne,false_or,hun,hd',Bool.false_eq_true]at h3
    ·exact hw1.trans hw2
   ·exact(Cf.takes hsel n r h2 hv).out _ (hcl.set hready) hr'
  rcases K0 hr g with⟨e1,h1,h2,h3⟩|⟨e1,h1,h2,h3⟩
  ·cases hk':kind T o.op<;>simp only[hk']at h3 hk
   case pure=>
    obtain⟨v,h4,h5⟩:=NF hT h1 h3;obtain⟨e',h6,h7⟩:=Ek h4 h1;exact key v e' (.inl ⟨h2,λw _=>h5 w⟩) h6 h7
   case read=>
    obtain⟨v,h4,h5⟩:=O3 hT h1 h3;obtain⟨e',h6,h7⟩:=Ek h4 h1;exact key v e' (.inl ⟨h2,λw hw=>h5 w hw⟩) h6 h7
  ·obtain⟨e',h6,h7⟩:=Ek h3 h1;exact key undef e' (.inr ⟨h2,rfl⟩) h6 h7
theorem Cf.alt{n:Nat}{listed:Array Bool}{e:AZ}{w:World}(j:Nat)(js:List Nat)(h:Region.ready .any ⟨all⟩ listed=j::js)
  (g:Px (j::js) λi=>MV all i λo=>J4 all o.guard e
   (λe=>match kind T o.op with
    |.pure=>LR P T e o.op λv=>Ej N o.dst v e λe'=>Cf P T N all fin Q n (listed.setIfInBounds i true) e' w
    |.read=>LV P T e (λw'=>w=w') o λv=>Ej N o.dst v e λe'=>Cf P T N all fin Q n (listed.setIfInBounds i true) e' w
    |.eff=>Mg P T e o w λv w'=>(match fin.elem i with
     |true=>Ej N o.dst v e λe'=>Cf P T N all fin Q n (listed.setIfInBounds i true) e' w'
     |false=>Ae (Eo w w') (Ej N o.dst v e λe'=>Cf P T N all fin Q n (listed.setIfInBounds i true) e' w')))
   (λe=>Ej N o.dst undef e λe'=>Cf P T N all fin Q n (listed.setIfInBounds i true) e' w)):Cf P T N all fin Q (n+1) listed e w:=by
 refine⟨λa hcl hr=>⟨λh0=>(by rw[h]at h0;cases h0),λi hi=>?_⟩⟩;have hcl':=hcl.set hi;rw[h]at hi;obtain⟨o,ho,g⟩:=MW (Te g i hi);have ho':(Array.mk all)[i]?=some o:=by simpa using ho
 rcases K0 hr g with⟨e1,h1,h2,h3⟩|⟨e1,h1,h2,h3⟩
 ·unfold wpOp;simp only[ho',h2,if_true];refine .inl ?_;cases hk:kind T o.op<;>simp only[hk]at h3
  case pure=>
   obtain⟨v,h4,h5⟩:=NF hT h1 h3;obtain⟨e',h6,h7⟩:=Ek h4 h1;exact Oper.wp_value (h5 w) ⟨.inr (Eo.refl w),h7.out _ hcl' h6⟩
  case read=>
   obtain⟨v,h4,h5⟩:=O3 hT h1 h3;obtain⟨e',h6,h7⟩:=Ek h4 h1;exact Oper.wp_value (h5 w rfl) ⟨.inr (Eo.refl w),h7.out _ hcl' h6⟩
  case eff=>
   refine QO hT h1 h3 λv w' hk'=>?_;cases hf:fin.elem i<;>rw[hf]at hk'
   ·obtain⟨e',h6,h7⟩:=Ek hk'.q h1;exact⟨.inr hk'.p,h7.out _ hcl' h6⟩
   ·obtain⟨e',h6,h7⟩:=Ek hk' h1;exact⟨.inl (by simpa using hf),h7.out _ hcl' h6⟩
 ·obtain⟨e',h6,h7⟩:=Ek h3 h1;unfold wpOp;simp only[ho',h2,Bool.false_eq_true,if_false];exact⟨.inr (Eo.refl w),h7.out _ hcl' h6⟩
omit hT in
theorem Cf.done{n:Nat}{listed:Array Bool}{e:AZ}{w:World}(h:Region.ready .any ⟨all⟩ listed=[])(hk:Q .normal e w):Cf P T N all fin Q n listed e w:=by
 refine⟨λa _ hr=>?_⟩;cases n with
 |zero=>exact⟨h,e,hr,hk⟩
 |succ n=>exact⟨λ_=>⟨e,hr,hk⟩,λi hi=>by rw[h]at hi;cases hi⟩
end
theorem AM.drawR{P:Program}{T:BL}(_hT:BR P T){N:Nat}{all:List Oper}{Q:Exit→AZ→World→Prop}{id:Nat}{e:AZ}{w:World}(hm:P.follows .mixedOrders=true)(fin:List Nat)(h:Cf P T N all fin Q all.length (Array.replicate (Array.mk all).size false) e w.drew):JM P N (.region id ⟨all⟩ true) Q e w:=
 ⟨λa hr=>wp_region_any hm (Yw _ _ _ _ (h.out a (by
  intro j oj _ hl;simp only[Array.getD_eq_getD_getElem?,Array.getElem?_replicate]at hl
  split at hl<;>simp at hl) hr))⟩
end Go.Eng
namespace Go.Eng
open Go
inductive F2(e:TypeId):Option Addr→Nat→Nat→List Value→AH→Prop where
 |nil:F2 e none 0 0 [] []
 |row (g:Nat) (pre xs l post:List Value) (n cap:Nat) (fz:Nat×Nat) (hf:fz.2≤pre.length∨(pre++(xs++(l++post))).length≤fz.1) (hx:xs.length=n) (hl:xs.length+l.length=cap):F2 e (some ⟨g,pre.length,none⟩) n cap xs [(g,.cells ⟨pre++(xs++(l++post))⟩ e fz)]
theorem F2.of{e:TypeId}{a:Option Addr}{n cap:Nat}{xs:List Value}{L:AH}(h:AT e 1 a n cap xs L):F2 e a n cap xs L:=by
 cases h with
 |nil=>exact .nil
 |row g n cap xs l hx hl hn=>
  have:=F2.row (e:=e) g [] xs l [] n cap (0,0) (.inl (Ag _)) AA AA;simpa using this
theorem F2.len{e:TypeId}{a:Option Addr}{n cap:Nat}{xs:List Value}{L:AH}(h:F2 e a n cap xs L):xs.length=n∧n≤cap:=by
 cases h with
 |nil=>exact⟨rfl,AW _⟩
 |row g pre xs l post n cap fz hf hx hl=>exact⟨hx,AA⟩
theorem F2.pos{e:TypeId}{a:Option Addr}{n cap:Nat}{xs:List Value}{L:AH}(h:F2 e a n cap xs L)(hn:0<n): ∃b off,a=some ⟨b,off,none⟩:=by
 cases h with
 |nil=>omega
 |row g pre xs l post n cap fz hf hx hl=>exact⟨g,_,rfl⟩
theorem F2.arr{e:TypeId}{a:Option Addr}{n cap:Nat}{xs:List Value}{L:AH}(h:F2 e a n cap xs L){w0 w:World}{T T':List Nat}{H:AH}{F:AH→AH}(hS:St w0 T H w) [hc:Chunk H L F]
  (hT: ∀b∈keys L,b∉T'):Arr w T' a xs:=by
 cases h with
 |nil=>exact Arr.nil _ _ _
 |row g pre xs l post n cap fz hf hx hl=>
  intro j x hj;have hm:=hS.part (L:=[(g,Obj.cells ⟨pre++(xs++(l++post))⟩ e fz)]).own _ (Cm.2 rfl);refine⟨g,pre.length,rfl,hT g (by simp[keys]),?_⟩;have hlt:j<xs.length:=(Fm.1 hj).1;simp only[World.cell?,hm];simp only[I0,Bool.false_eq_true,if_false];rw[show(Array.mk (pre++(xs++(l++post))))[pre.length+j]?=(pre++(xs++(l++post)))[pre.length+j]? by simp,D2 AA,show pre.length+j-pre.length=j by omega,Cq hlt]
  exact hj
theorem F2.drop{e:TypeId}{b off n cap k:Nat}{xs:List Value}{L:AH}(h:F2 e (some ⟨b,off,none⟩) n cap xs L)(hk:k≤n):F2 e (CU b off k cap 1) (n-k) (cap-k) (xs.drop k) L:=by
 cases h with
 |row g pre xs l post n cap fz hf hx hl=>
  unfold CU
  split
  ·rename_i hc;have h1:l=[]:=It AA;have h2:xs.drop k=[]:=List.drop_eq_nil_iff.2 AA;have:=F2.row (e:=e) b pre [] [] (xs++(l++post)) 0 0 fz hf rfl rfl;rw[h2,show n-k=0 by omega,show cap-k=0 by omega];simpa using this
  ·have e2:pre++xs.take k++(xs.drop k++(l++post))=pre++(xs++(l++post)):=by
    rw[Aj,←Aj (xs.take k),CN]
   have:=F2.row (e:=e) b (pre++xs.take k) (xs.drop k) l post (n-k) (cap-k) fz (by
    rw[e2];rcases hf with hf|hf
    ·exact .inl (by rw[AP];omega)
    ·exact .inr hf) (by simp;omega) (by simp;omega)
   have e1:(pre++xs.take k).length=pre.length+k*1:=by simp;omega
   rw[e1,e2]at this;exact this
section
variable {P : Program} {T0 : BL}
end
end Go.Eng
namespace Go.Eng
open Go
def Yi(ops:Array Oper)(kd:Op→JI)(listed:Array Bool)(i:Nat):Bool:=match ops[i]? with
 |none=>false
 |some o=>(match kd o.op with| .pure=>true|_=>false)&&(Region.ready .any ops listed).contains i&&IG ops listed i
def SF(ops:Array Oper)(kd:Op→JI):List Nat→Array Bool→Bool
 |[],_=>true
 |i::r,listed=>Yi ops kd listed i&&SF ops kd r (listed.setIfInBounds i true)
section
variable {P : Program} {T : BL} (hT : BR P T) {N : Nat} {all : List Oper} {fin : List Nat} {Q : Exit → AZ → World → Prop}
include hT
theorem Cf.takesP(hsel:Region.noSelect ⟨all⟩=true)(n:Nat): ∀(is:List Nat){listed:Array Bool}{e:AZ}{w:World}(_h:SF ⟨all⟩ (kind T) is listed=true)(_g:KY P T N all fin Q n is listed e w),Cf P T N all fin Q (n+is.length) listed e w
 |[],_,_,_,_,g=>g
 |i::r,listed,e,w,h,g=>by
  refine⟨λa hcl hr=>?_⟩;simp only[SF,Bool.and_eq_true]at h;obtain⟨h1,h2⟩:=h;obtain⟨o,ho,g⟩:=MW g;have ho':(Array.mk all)[i]?=some o:=by simpa using ho
  unfold Yi at h1;simp only[ho',Bool.and_eq_true]at h1;obtain⟨⟨hk,hrd⟩,hf⟩:=h1;have hready:i∈Region.ready .any ⟨all⟩ listed:=by simpa using hrd
  have key: ∀(v:Value)(e':AZ),YieldsIf P ⟨all⟩ (λ_=>True) o v a→BO [] N e' (a.put o.dst v)→KY P T N all fin Q n r (listed.setIfInBounds i true) e' w→
    Kc P .any ⟨all⟩ (KH N Q) (Qw fin) (n+(i::r).length) listed a w:=by
   intro v e' hy hr' hv;rw[Ah,←Gn];refine Yv (C:=λ_=>True) (n:=all.length) ho' (Region.noSelect_spec hsel) (λc a w h=>h.elim) (λw=> .inr (Eo.refl w)) (n+r.length) listed a w hcl ?_ hready hy trivial ?_
   ·intro j oj hj hne hun hd;have hjlt:j<all.length:=by have:=(Array.getElem?_eq_some_iff.1 hj).1;simpa using this
    simp only[IG,ho',Db,List.mem_range]at hf;have h1:=hf j (by simpa using hjlt);have hd':Es ⟨all⟩ (Array.mk all).size j i=false:=hd;simp only[hj,Bool.or_eq_true,beq_iff_eq,hne,false_or,hun,hd',Bool.false_eq_true]at h1;exact⟨h1,λ_ _ _ _=>trivial⟩
   ·exact(Cf.takesP hsel n r h2 hv).out _ (hcl.set hready) hr'
  rcases K0 hr g with⟨e1,h1,h2,h3⟩|⟨e1,h1,h2,h3⟩
  ·cases hk':kind T o.op<;>simp only[hk']at h3 hk<;>try(exact absurd hk AC)
   case pure=>
    obtain⟨v,h4,h5⟩:=NF hT h1 h3;obtain⟨e',h6,h7⟩:=Ek h4 h1;exact key v e' (.inl ⟨h2,λw _=>h5 w⟩) h6 h7
  ·obtain⟨e',h6,h7⟩:=Ek h3 h1;exact key undef e' (.inr ⟨h2,rfl⟩) h6 h7
end
end Go.Eng
namespace Go.Proofs.YtkgibdhpijdbfaaGreatDoor
open Go Go.Eng Go.Proofs
theorem bK{w:World}{a:Option Addr}{r:AO}{l:List AO}(h:Arr w [] a ((r::l).flatMap BM)): ∃g off,a=some ⟨g,off,none⟩:=by
 obtain⟨g,off,h1, -⟩:=h.get (j:=0) (by simp[BM]);exact⟨g,off,h1⟩
end Go.Proofs.YtkgibdhpijdbfaaGreatDoor
