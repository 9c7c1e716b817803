/- Texts of this claim, one behind the other. -/
import Derived.Test.YtkgibdhpijdbfaaGreatDoorZ7
import Derived.Test.YtkgibdhpijdbfaaGreatDoorZ3
import Derived.Test.YtkgibdhpijdbfaaGreatDoorZ2
import Derived.Lib.SliceRun
import Derived.Test.YtkgibdhpijdbfaaGreatDoorZ8
import Derived.Test.YtkgibdhpijdbfaaGreatDoorZ5
import Derived.Laws.MakeOwn
import Derived.Laws.OwnMore
import Derived.Test.YtkgibdhpijdbfaaGreatDoorRows
import Derived.Test.YtkgibdhpijdbfaaGreatDoorZ6
import Derived.Stop.LaidErr
import Derived.LaidLaws
set_option linter.unusedVariables false
set_option linter.unusedSimpArgs false
set_option maxHeartbeats 16000000
namespace Go.Proofs.YtkgibdhpijdbfaaGreatDoor
open Go Go.Eng Go.Proofs
theorem Em:Tryz.prog.underlying BX=some (.int .i64):=CZ AK (t:=BX) rfl
theorem LA{C:World→Prop}{m:Nat}{n:Int}{kvs:List (Int×Int)}(hm: ∀w,C w→ ∃es clock,w.heap[m]?=some (.map es clock)∧Fc AY AY es kvs){K:Value→Prop}(hK:K (.int .i64 ((Am n kvs).getD 0))):
  Fz Tryz.prog (Instr.lookup Nq (.map (some m)) (.int .i64 n) false) C K:=by
 refine IS AK Bn.i64 rfl rfl Em rfl (kvs:=kvs) hm ?_;have:((Am n kvs).map AY).getD (.int .i64 0)= .int .i64 ((Am n kvs).getD 0):=by
  cases Am n kvs<;>rfl
 rw[←this]at hK;exact hK
end Go.Proofs.YtkgibdhpijdbfaaGreatDoor
namespace Go.Eng
open Go
theorem Kr{P:Program}{T0:BL}(hT:BR P T0){t e:TypeId}{sz:Nat}{i:TI}(hi:tf T0 t=some i)(hk:i.k= .slice e sz){x y:Operand}{a:Option Addr}{n c:Nat}{K:Value→Prop}(hK:K (.bool a.isNone)):
  JJ P (do eqGuard .eql t x y (.slice a n c) (.slice none 0 0);binOp .eql t (.slice a n c) (.slice none 0 0)) K:=by
 have h:=CZ hT hi;rw[hk]at h;have h2:P.underlying t=some (.slice e):=h.1;refine⟨_,λw=>?_,hK⟩;rw[Sem.run_bind,O5 P .eql t x y _ _ w (by intro c h;cases h) (by intro h;cases h)];exact Lib.run_eql_slice_nil w t e a n c 0 0 h2
end Go.Eng
namespace Go.Proofs.YtkgibdhpijdbfaaGreatDoor
open Go Go.Eng Go.Proofs
def Di:AE→AE→Nat
 |a::x,b::y=>if a=b then Di x y+1 else 0
 |_,_=>0
theorem NL: ∀a b:AE,Di a b≤a.length∧Di a b≤b.length
 |[],_=>by simp[Di]
 |_::_,[]=>by simp[Di]
 |a::x,b::y=>by
  have:=NL x y;unfold Di
  split<;>simp only[Ah]<;>omega
theorem YF: ∀a b:AE,a.take (Di a b)=b.take (Di a b)
 |[],_=>by simp[Di]
 |_::_,[]=>by simp[Di]
 |a::x,b::y=>by
  unfold Di
  split
  ·rename_i h;subst h;simp only[KD,YF x y]
  ·simp
theorem xI(a b:AE):a.take (Di a b)++b.drop (Di a b)=b:=by rw[YF,CN]
theorem R6: ∀(a b:AE)(n:Nat),n≤a.length→n≤b.length→(∀i(h1:i<a.length)(h2:i<b.length),i<n→a[i]=b[i])→(∀(h1:n<a.length)(h2:n<b.length),a[n]≠b[n])→Di a b=n
 |[],b,n,h1,_,_,_=>by simp at h1;subst h1;simp[Di]
 |_::_,[],n,_,h2,_,_=>by simp at h2;subst h2;simp[Di]
 |a::x,b::y,0,_,_,_,h4=>by
  have:=h4 AB AB;simp at this;unfold Di;rw[if_neg this]
 |a::x,b::y,n+1,h1,h2,h3,h4=>by
  have h5:=h3 0 AB AB AA;simp at h5;subst h5;unfold Di;rw[if_pos rfl]
  congr 1
  refine R6 x y n (by simpa using h1) (by simpa using h2) (λi hi hj hn=>?_) (λhi hj=>?_)
  ·have:=h3 (i+1) (by simpa using hi) (by simpa using hj) AA;simpa using this
  ·have:=h4 (by simpa using hi) (by simpa using hj);simpa using this
def GU(last:AE)(x:AF):AE:=Ak (Di last x.k)++(Bd (x.k.drop (Di last x.k))++(Bg x.s++(if x.d then Ak 1 else Ak 0++Bd x.v)))
def Dv:AE→List AF→AE
 |_,[]=>[]
 |last,x::l=>GU last x++Dv x.k l
def CF(last:AE)(l:List AF):AE:=match l.getLast? with|none=>last|some x=>x.k
theorem RA(last:AE)(l:List AF)(x:AF):CF last (l++[x])=x.k:=by simp[CF]
theorem Uk: ∀(l:List AF)(last:AE)(x:AF),Dv last (l++[x])=Dv last l++GU (CF last l) x
 |[],last,x=>by simp[Dv,CF]
 |y::l,last,x=>by
  rw[D1,Dv,Dv,Uk l y.k x,Aj];have:CF y.k l=CF last (y::l):=by
   unfold CF;cases l with
   |nil=>rfl
   |cons z l=>
    rw[List.getLast?_cons_cons];cases h:(z::l).getLast? with
    |none=>simp at h
    |some u=>rfl
  rw[this]
def E7(es:List AF):AE:=Ak es.length++Dv [] es
def Kg(l:List AF):Prop:=∀x∈l,x.d=true→x.v=[]
def Hc(l:List AF):Prop:=∀x∈l, -9223372036854775808≤x.s∧x.s≤9223372036854775807
def CR(x:AF):Nat:=x.k.length+x.v.length
def An(l:List AF):Nat:=(l.map CR).sum
theorem G9(a b:List AF):An (a++b)=An a+An b:=by simp[An]
theorem Lj{l:List AF}{x:AF}(h:x∈l):CR x≤An l:=by
 induction l with
 |nil=>cases h
 |cons y l ih=>
  have e:An (y::l)=CR y+An l:=by simp[An]
  rcases As.1 h with rfl|h
  ·omega
  ·have:=ih h;omega
theorem YY(l:List AF)(k:Nat):An (l.take k)≤An l:=by
 have:=G9 (l.take k) (l.drop k);rw[CN]at this;omega
/-! ## Pieces of so many-/
def AR{α:Type}(n:Nat)(l:List α):List (List α):=(List.range ((l.length+n-1) / n)).map λi=>(l.drop (i*n)).take n
theorem Jj{α:Type}(n:Nat)(l:List α):(AR n l).length=(l.length+n-1) / n:=by simp[AR]
theorem NE{α:Type}{n:Nat}{l:List α}{i:Nat}(h:i<(AR n l).length):(AR n l)[i]=(l.drop (i*n)).take n:=by simp[AR]
theorem Oz{α:Type}{n:Nat}(hn:0<n)(l:List α): ∀i,i≤(AR n l).length→((AR n l).take i).flatten=l.take (i*n)
 |0,_=>AB
 |i+1,h=>by
  have hi:i<(AR n l).length:=AA;rw[Bq hi,kC,Oz hn l i AA,NE hi];simp only[Dc,Gj,BT];rw[show(i+1)*n=i*n+n by rw[HM];omega,List.take_add]
theorem KM{α:Type}{n:Nat}(hn:0<n)(l:List α):(AR n l).flatten=l:=by
 have h:=Oz hn l (AR n l).length (AW _);rw[Bz]at h;rw[h,Jj];refine HL ?_;have:=Nat.div_add_mod (l.length+n-1) n;have:=FO (l.length+n-1) hn;have e:(l.length+n-1) / n*n=n*((l.length+n-1) / n):=Hs _ _;omega
theorem Oy{α:Type}{n:Nat}(hn:0<n){l:List α}{i:Nat}(h:i<(AR n l).length):i*n<l.length:=by
 rw[Jj]at h;have h1:=(Nat.le_div_iff_mul_le hn).1 (show i+1≤(l.length+n-1) / n from h);rw[HM]at h1;omega
theorem KN{α:Type}{n:Nat}(hn:0<n){l p:List α}(h:p∈AR n l):p≠[]∧p.length≤n∧ ∃a b,l=a++(p++b):=by
 obtain⟨i,hi,rfl⟩:=Hq.1 h;have h1:=Oy hn hi;rw[NE hi];refine⟨?_,by simp;omega,l.take (i*n),(l.drop (i*n)).drop n,?_⟩
 ·intro e;have:=congrArg List.length e;simp at this;omega
 ·rw[CN,CN]
theorem TM(a b:AE)(ha:a.length≤1099511627776)(hb:b.length≤1099511627776)(w:World):Cl Tryz.prog lX [AG a,AG b] w λv w'=>v= .int .i64 (Di a b)∧St w [] [] w':=by
 have hS:=St.start w;have hmin:(if(b.length:Int)<(a.length:Int)then(b.length:Int)else(a.length:Int))=((min a.length b.length:Nat):Int):=by
  split<;>omega
 have hm1:min a.length b.length≤a.length:=Nat.min_le_left _ _;have hm2:min a.length b.length≤b.length:=Nat.min_le_right _ _;have hm3:min a.length b.length=a.length∨min a.length b.length=b.length:=AA;refine dR rfl ?_;refine jq ⟨?_⟩;rw[hmin];generalize hmm:min a.length b.length=m at hm1 hm2 hm3 hmin;refine AM.loop (λi:Nat=>[(0,AG a),(1,AG b),(10,.int .i64 m),(11,.int .i64 i)])
  (λi w'=>(i≤m∧ ∀j(h1:j<a.length)(h2:j<b.length),j<i→a[j]=b[j])∧St w [] [] w') (λi=>m-i) 0
  ⟨rfl,rfl,rfl,rfl,trivial⟩ ⟨⟨Ag _,λj _ _ h=>AA⟩,hS⟩ ?_
 clear hS;rintro i w1⟨⟨hi,hall⟩,hS⟩;by_cases him:i<m
 ·have hA:a.getD ((i:Int)).toNat 0=a[i]:=by rw[Gk,show((i:Int)).toNat=i by omega,CB AA];rfl
  have hB:b.getD ((i:Int)).toNat 0=b[i]:=by rw[Gk,show((i:Int)).toNat=i by omega,CB AA];rfl
  refine jq ⟨?_⟩;refine AM.draw AK mixed (λw'=>St w _ _ w') [] [0,1,2,3,4,5,6] AD hS.drew ?_;have hS:=hS.drew;by_cases he:a[i]=b[i]
  ·refine jr ⟨?_⟩;rw[hA,hB,he];refine jq ⟨?_⟩;refine⟨i+1,⟨rfl,rfl,rfl,rfl,trivial⟩,⟨⟨him,λj h1 h2 h3=>?_⟩,hS⟩,AA⟩;by_cases e:j=i
   ·subst e;exact he
   ·exact hall j h1 h2 AA
  ·have hne: ¬((a[i].toNat:Nat):Int)=((b[i].toNat:Nat):Int):=λh=>he (UInt8.toNat_inj.1 AA);have hsh:=R6 a b i AA AA (λj h1 h2 h3=>hall j h1 h2 h3) (λ_ _=>he);refine jr ⟨?_⟩;rw[hA,hB];refine jq ⟨?_⟩;exact⟨by rw[hsh],hS⟩
 ·obtain rfl:i=m:=AA;have hsh:=R6 a b i AA AA (λj h1 h2 h3=>hall j h1 h2 h3) (λh1 h2=>AA);refine jq ⟨?_⟩;rw[hmin];exact⟨by rw[hsh],hS⟩
theorem Rw(x y:AF)(w:World):Cl Tryz.prog l8 [B9 x,B9 y] w λv w'=>v= .bool (CK x y)∧St w [] [] w':=by
 have hS:=St.start w;unfold B9 AU CK EV;refine dW rfl ?_;refine jq ⟨?_⟩;refine hS.al ?_;intro b2 w2 _ hS;refine jq ⟨?_⟩;refine hS.al ?_;intro b3 w3 _ hS;cases hb:Op.bytesLess x.k y.k with
 |true=>
  simp only[Bool.true_or];(repeat(refine jt ⟨?_⟩;refine hS.q ?_;intro _ hS));refine jt ⟨?_⟩;repeat(refine Ax.eqt hb ?_;(repeat(refine jt ⟨?_⟩;refine hS.q ?_;intro _ hS));refine jt ⟨?_⟩)
  exact⟨rfl,hS.nil⟩
 |false=>
  simp only[Bool.false_or];by_cases hk:x.k=y.k
  ·by_cases hs:y.s<x.s
   ·(repeat(refine jt ⟨?_⟩;refine hS.q ?_;intro _ hS));refine jt ⟨?_⟩;repeat(refine Ax.eqf hb ?_;(repeat(refine jt ⟨?_⟩;refine hS.q ?_;intro _ hS));refine jt ⟨?_⟩)
    exact⟨by simp[hk,hs],hS.nil⟩
   ·(repeat(refine jt ⟨?_⟩;refine hS.q ?_;intro _ hS));refine jt ⟨?_⟩;repeat(refine Ax.eqf hb ?_;(repeat(refine jt ⟨?_⟩;refine hS.q ?_;intro _ hS));refine jt ⟨?_⟩)
    exact⟨by simp[hs],hS.nil⟩
  ·(repeat(refine jt ⟨?_⟩;refine hS.q ?_;intro _ hS));refine jt ⟨?_⟩;repeat(refine Ax.eqf hb ?_;(repeat(refine jt ⟨?_⟩;refine hS.q ?_;intro _ hS));refine jt ⟨?_⟩)
   exact⟨by simp[hk],hS.nil⟩
end Go.Proofs.YtkgibdhpijdbfaaGreatDoor
namespace Go.Eng
open Go
theorem Cu{w0 w:World}{T:List Nat}{b:Nat}{o:Obj}{H L:AH}{F:AH→AH}(hS:St w0 T ((b,o)::H) w) [hc:Chunk H L F]:b∉keys L:=by
 obtain⟨A,B,h1, -⟩:=hc.at_;have:=hS.nd;rw[h1]at this;simp only[keys,A4,A7,Eu]at this;intro h;exact this.1 (FN _ (Eg _ h))
end Go.Eng
namespace Go.Proofs.YtkgibdhpijdbfaaGreatDoor
open Go Go.Eng Go.Proofs
abbrev Ac:=AE×Bool×AE
def Dh(r:AO):Ac:=(r.1,false,r.2)
def A8(o:Ac):List Value:=[AG o.1,.bool o.2.1,AG o.2.2]
theorem I7(l:List Ac):(l.flatMap A8).length=3*l.length:=by
 induction l with
 |nil=>rfl
 |cons p ps ih=>rw[E9,AP,ih,Ah];show 3+_=_;omega
theorem I6(l:List Ac)(k:Nat)(hk:k<l.length):((l.flatMap A8).drop (k*3)).take 3=A8 l[k]:=by
 induction l generalizing k with
 |nil=>simp at hk
 |cons p ps ih=>
  cases k with
  |zero=>simp only[Nat.zero_mul,List.drop_zero,E9,Ja];exact Gm rfl
  |succ k=>
   rw[E9,show(k+1)*3=(A8 p).length+k*3 by show _=3+_;omega,List.drop_length_add_append];exact ih k (by simpa using hk)
theorem NI(l:List AO):(l.map Dh).flatMap A8=l.flatMap BM:=by
 induction l with
 |nil=>rfl
 |cons p ps ih=>rw[A4,E9,E9,ih];rfl
theorem lS(r q:Ac):Fx 3 Tryz.prog Bs (.agg ⟨A8 r⟩) (.agg ⟨A8 q⟩) (decide (r=q)):=by
 have h:Fx 3 Tryz.prog Bs (.agg ⟨A8 r⟩) (.agg ⟨A8 q⟩) (decide (r.1=q.1)&&(decide (r.2.1=q.2.1)&&(decide (r.2.2=q.2.2)&&true))):=by
  refine Fx.struct (d:=[(C0,0),(Jv,1),(C0,2)]) AD AD AD ?_;refine H1.cons (HC.one AK rfl rfl rfl) (HC.one AK rfl rfl rfl) (Fx.str AK rfl rfl _ _) ?_;refine H1.cons (HC.one AK rfl rfl rfl) (HC.one AK rfl rfl rfl) (Fx.bool AK rfl rfl _ _) ?_;exact H1.cons (HC.one AK rfl rfl rfl) (HC.one AK rfl rfl rfl) (Fx.str AK rfl rfl _ _) H1.nil
 have e:decide (r=q)=(decide (r.1=q.1)&&(decide (r.2.1=q.2.1)&&(decide (r.2.2=q.2.2)&&true))):=by
  rw[Bool.eq_iff_iff];simp[Prod.ext_iff]
 rw[e];exact h
theorem lT{α:Type}{l m:List α}(hn:l.length=m.length)(h: ∀i(h1:i<l.length)(h2:i<m.length),l[i]=m[i]):l=m:=List.ext_getElem hn h
end Go.Proofs.YtkgibdhpijdbfaaGreatDoor
namespace Go.Eng
open Go
theorem St.mkN{P:Program}{T0:BL}(hT:BR P T0){t e:TypeId}{i ie:TI}(hi:tf T0 t=some i)(hk:i.k= .slice e 1)(hie:tf T0 e=some ie)(v:Value)(hz:ie.zero=v)(hc:v.cells= #[v])(hb:ie.bytes≤64){w0 w:World}{T:List Nat}{H:AH}(hS:St w0 T H w)(n:Nat)(hn:n≤1099511627776)
  {K:Value→World→Prop}(h: ∀b w',St w0 T ((b,.cells ⟨List.replicate n v⟩ e (0,0))::H) w'→K (.slice (some ⟨b,0,none⟩) n n) w'):Bm P (Instr.makeSlice t (.int .i64 (n:Int)) (.int .i64 (n:Int))) w K:=by
 obtain⟨inf,hinf,hzz,hs1,hby⟩:=OU hT hie;have ht:=CZ hT hi;rw[hk]at ht;have hsz:inf.size=1:=by have:=ht.2;rw[hinf]at this;simpa using this
 have hr:=run_make w t e inf ie.zero ht.1 hinf hzz .i64 .i64 (n:Int) (n:Int) AA AA (by
  rw[hby];have:(ie.bytes:Int)*(n:Int)≤64*(n:Int):=Int.mul_le_mul_of_nonneg_right AA AA;omega) AA
 rw[hsz,hz,hc,Nat.mul_one,Int.toNat_natCast]at hr;have e1:madeCells #[v] n=⟨List.replicate n v⟩:=Array.ext' (toList_madeCells_one v n);rw[e1]at hr;exact Bm.of hr (h _ _ (hS.alloc _))
end Go.Eng
namespace Go.Eng
open Go
section
variable {P : Program} {T0 : BL}
end
end Go.Eng
namespace Go.Proofs.YtkgibdhpijdbfaaGreatDoor
open Go Go.Eng Go.Proofs
end Go.Proofs.YtkgibdhpijdbfaaGreatDoor
namespace Go.Proofs.YtkgibdhpijdbfaaGreatDoor
open Go Go.Eng Go.Proofs Go.RowKit
theorem Uo: "*" ++ "errors.errorString" = "*errors.errorString" :=AC
theorem Un(u:TypeId)(h:Tryz.prog.typeName? 3 u=some "*errors.errorString"):u=347:=
 typeName_ptr_named (nm:= "errors.errorString") (by rw[Uo];kernel_rfl) AD AC u (by rw[Uo];exact h)
theorem Uq{r:List (String×DataW Unit)}{W:World}(h:laidMet Tryz.prog (("strconv.ErrRange", Rows.laid_strconv_ErrRange)::("strconv.ErrSyntax", Rows.laid_strconv_ErrSyntax)::r) W):H3 W:=by
 obtain⟨f,hf,hft,hfo⟩: ∃f:Field,Tryz.prog.underlying 349=some (.struct #[f])∧f.type=9∧f.offset=0:=⟨⟨"s", 9,0,false, "", "errors", 0⟩,AD,rfl,rfl⟩;have hi:Tryz.prog.underlying 194=some (.interface (Tryz.prog.methodsAt 194)):=AD;have g1:Tryz.prog.globalNamed "strconv.ErrRange" =some Mj:=AD;have g0:Tryz.prog.globalNamed "strconv.ErrSyntax" =some Mi:=AD;obtain⟨a1,s1,hv1, -, -, -⟩:=laid_sentinel h g1 (ti:=194) AD hi Un (te:=349) AD hf hft hfo AD AD AD
 obtain⟨a0,s0,hv0, -, -, -⟩:=laid_sentinel h.tail g0 (ti:=194) AD hi Un (te:=349) AD hf hft hfo AD AD AD;exact⟨⟨_,_,by have h0:=World.var?_cell g0 hv0 0;simpa using h0⟩,⟨_,_,by have h0:=World.var?_cell g1 hv1 0;simpa using h0⟩⟩
end Go.Proofs.YtkgibdhpijdbfaaGreatDoor
