/- Texts of this claim, one behind the other. -/
import Derived.WalkKit
import Derived.WalkSpells
import Derived.WalkLawsBesides
import Derived.OrdersHeld
import Derived.KernelRfl
set_option linter.unusedVariables false
set_option linter.unusedSimpArgs false
set_option maxHeartbeats 16000000
namespace Go.Eng
open Go
/-! ## Environment-/
abbrev AZ:=List (Nat×Value)
def FE:AZ→Nat→Option Value
 |[],_=>none
 |(k,v)::t,n=>match Nat.beq k n with|true=>some v|false=>FE t n
def lk:AZ→Nat→(Value→Prop)→Prop
 |[],_,_=>False
 |(k,v)::t,n,K=>match Nat.beq k n with|true=>K v|false=>lk t n K
theorem IR(e:AZ)(n:Nat)(K:Value→Prop):lk e n K↔ ∃v,FE e n=some v∧K v:=by
 induction e with
 |nil=>simp[lk,FE]
 |cons p t ih=>
  obtain⟨k,v⟩:=p;simp only[lk,FE];cases Nat.beq k n<;>simp[ih]
structure BS(ds:List Deferred)(N:Nat)(e:AZ)(a:Act):Prop where
 size:a.tmps.size=N
 dz:a.defers=ds
 get: ∀n v,FE e n=some v→a.tmps[n]?=some v
theorem Ms(k:Nat)(v:Value)(t:AZ)(n:Nat):FE ((k,v)::t) n=if k=n then some v else FE t n:=by
 simp only[FE];by_cases h:k=n
 ·subst h;simp
 ·have:Nat.beq k n=false:=by rw[←Bool.not_eq_true];intro hb;exact h (Nat.eq_of_beq_eq_true hb)
  simp[this,h]
variable {ds : List Deferred}
theorem BS.put{N:Nat}{e:AZ}{a:Act}(h:BS ds N e a){d:Nat}(hd:d<N)(v:Value):BS ds N ((d,v)::e) (a.put (some d) v):=by
 refine⟨by simp[Act.put,h.size],h.dz,λn u hu=>?_⟩;rw[Ms]at hu;simp only[Act.put,Array.getElem?_setIfInBounds];by_cases hdn:d=n
 ·subst hdn;simp at hu;subst hu;simp[h.size,hd]
 ·rw[if_neg hdn]at hu;rw[if_neg hdn];exact h.get n u hu
def BK(e:AZ):Operand→(Value→Prop)→Prop
 |.tmp n,K=>lk e n K
 |.const v,K=>K v
 |.global g,K=>K (.pointer (some ⟨g,0,none⟩))
 |.func f,K=>K (.func (.func f) #[] #[])
theorem BT{N:Nat}{e:AZ}{a:Act}(h:BS ds N e a){x:Operand}{K:Value→Prop}(hk:BK e x K):K (a.eval x):=by
 cases x with
 |tmp n=>
  obtain⟨v,hv,hK⟩:=(IR _ _ _).1 hk;have:=h.get n v hv;simp only[Act.eval,Array.getD_eq_getD_getElem?,this,Option.getD_some];exact hK
 |_=>exact hk
def Hk(e:AZ):List Operand→(List Value→Prop)→Prop
 |[],K=>K []
 |x::xs,K=>BK e x λv=>Hk e xs λvs=>K (v::vs)
theorem IG{N:Nat}{e:AZ}{a:Act}(h:BS ds N e a): ∀{xs:List Operand}{K:List Value→Prop},Hk e xs K→K (xs.map a.eval)
 |[],_,hk=>hk
 |x::xs,K,hk=>by
  have h1:=BT h hk;exact IG (xs:=xs) (K:=λvs=>K (a.eval x::vs)) h h1
/-! ## Goals that the prover closes-/
structure Ax(b:Bool)(X Y:Prop):Prop where
 t':b=true→X
 f':b=false→Y
theorem Ax.t{X Y:Prop}(h:X):Ax true X Y:=⟨λ_=>h,nofun⟩
theorem Ax.f{X Y:Prop}(h:Y):Ax false X Y:=⟨nofun,λ_=>h⟩
theorem Ax.dec{p X Y:Prop} [Decidable p](h1:p→X)(h2: ¬p→Y):Ax (decide p) X Y:=⟨λh=>h1 (of_decide_eq_true h),λh=>h2 (of_decide_eq_false h)⟩
theorem Ax.pos{p X Y:Prop} [Decidable p](h:p)(h1:X):Ax (decide p) X Y:= .dec (λ_=>h1) (λh'=>absurd h h')
theorem Ax.neg{p X Y:Prop} [Decidable p](h: ¬p)(h1:Y):Ax (decide p) X Y:= .dec (λh'=>absurd h' h) (λ_=>h1)
theorem Ax.notG{b:Bool}{X Y:Prop}(h:Ax b Y X):Ax (!b) X Y:=⟨λe=>h.f' (by simpa using e),λe=>h.t' (by simpa using e)⟩
theorem Ax.bool{b:Bool}{X Y:Prop}(h1:b=true→X)(h2:b=false→Y):Ax b X Y:=⟨h1,h2⟩
theorem Ax.eqt{b:Bool}{X Y:Prop}(hb:b=true)(h1:X):Ax b X Y:=⟨λ_=>h1,λh=>(by rw[hb]at h;cases h)⟩
theorem Ax.eqf{b:Bool}{X Y:Prop}(hb:b=false)(h1:Y):Ax b X Y:=⟨λh=>(by rw[hb]at h;cases h),λ_=>h1⟩
structure Ae(p q:Prop):Prop where
 p:p
 q:q
structure CG(k:IntKind)(z:Int)(K:Value→Prop):Prop where
 out:K (.int k (k.wrap z))
theorem CG.wr{k:IntKind}{z:Int}{K:Value→Prop}(h:K (.int k (k.wrap z))):CG k z K:=⟨h⟩
theorem CG.nw{z:Int}{K:Value→Prop}(h: -9223372036854775808≤z∧z≤9223372036854775807)(hk:K (.int .i64 z)):CG .i64 z K:=by
 exact⟨by rw[IntWalk.i64_in _ (by omega)];exact hk⟩
structure Bk{α:Type}(P:Program)(s:Sem α)(w:World)(K:α→World→Prop):Prop where
 out: ∃v w',s.run P w= .ok v w'∧K v w'
theorem Bk.of{α:Type}{P:Program}{s:Sem α}{w:World}{K:α→World→Prop}{v:α}{w':World}(h:s.run P w= .ok v w')(hk:K v w'):Bk P s w K:=⟨⟨v,w',h,hk⟩⟩
def Cl(P:Program)(f:FuncId)(args:List Value)(w:World)(R:Value→World→Prop):Prop:=
 ((callFunc f ⟨args⟩).run P w= .ok (.enter f ⟨args⟩) w∧Calls P f ⟨args⟩ w λe w'=>∃v,e= .returned v∧R v w')∨
 (∃v w',(callFunc f ⟨args⟩).run P w= .ok (.value v) w'∧R v w')
theorem Cl.mono{P:Program}{f:FuncId}{args:List Value}{w:World}{R R':Value→World→Prop}(h:Cl P f args w R)(hr: ∀v w',R v w'→R' v w'):Cl P f args w R':=by
 rcases h with⟨h1,h2⟩|⟨v,w',h1,h2⟩
 ·exact .inl ⟨h1,Calls.mono h2 λ_ _⟨v,he,hR⟩=>⟨v,he,hr _ _ hR⟩⟩
 ·exact .inr ⟨v,w',h1,hr _ _ h2⟩
theorem Cl.val{P:Program}{f:FuncId}{args:List Value}{w w':World}{v:Value}{R:Value→World→Prop}(h:(callFunc f ⟨args⟩).run P w= .ok (.value v) w')(hr:R v w'):Cl P f args w R:= .inr ⟨v,w',h,hr⟩
theorem Ax.id{b:Bool}{X Y:Prop}(h:Ax b X Y):Ax b X Y:=h
theorem Ax.nn{α:Type}{X Y:Prop}(h:X):Ax (Option.isNone (none:Option α)) X Y:=⟨λ_=>h,nofun⟩
theorem Ax.ns{α:Type}{a:α}{X Y:Prop}(h:Y):Ax (Option.isNone (some a)) X Y:=⟨nofun,λ_=>h⟩
def sP:IntKind→Bool| .i64=>true|_=>false
theorem CG.wr'{k:IntKind}{z:Int}{K:Value→Prop}(_hk:sP k=false)(h:K (.int k (k.wrap z))):CG k z K:=⟨h⟩
theorem Sb(k:IntKind)(z:Int)(hs:k.signed=false)(h0:0≤z)(h1:z<2 ^ k.bits):k.wrap z=z:=by
 unfold IntKind.wrap;simp only[hs];simp[Int.emod_eq_of_lt h0 h1]
theorem CG.nu8{z:Int}{K:Value→Prop}(h:0≤z∧z≤255)(hk:K (.int .u8 z)):CG .u8 z K:=
 ⟨by rw[Sb .u8 z rfl h.1 (by show z<2 ^ 8;omega)];exact hk⟩
theorem CG.nu32{z:Int}{K:Value→Prop}(h:0≤z∧z≤4294967295)(hk:K (.int .u32 z)):CG .u32 z K:=
 ⟨by rw[Sb .u32 z rfl h.1 (by show z<2 ^ 32;omega)];exact hk⟩
theorem CG.nu64{z:Int}{K:Value→Prop}(h:0≤z∧z≤18446744073709551615)(hk:K (.int .u64 z)):CG .u64 z K:=
 ⟨by rw[Sb .u64 z rfl h.1 (by show z<2 ^ 64;omega)];exact hk⟩
/-! ## Types-/
inductive TK where
 |int (k:IntKind)|bool|str|ptr (e:TypeId)|slice (e esz:Nat)|struct (fs:List (Nat×Nat))|map (k e:TypeId)|arr (n e esz:Nat)|iface|fn
 deriving DecidableEq
structure TI where
 k:TK
 size:Nat
 bytes:Nat
 zero:Value
abbrev BO:=List (Nat×TI)
def TI.agg(t:TI):Bool:=match t.k with| .struct _=>true| .arr .. =>true|_=>false
def TK.ok(P:Program)(t:TypeId):TK→Prop
 |.int k=>P.underlying t=some (.int k)
 |.bool=>P.underlying t=some .bool
 |.str=>P.underlying t=some .string
 |.ptr e=>P.underlying t=some (.pointer e)
 |.slice e esz=>P.underlying t=some (.slice e)∧(P.info? e).map (·.size)=some esz
 |.struct fs=>∃d,P.underlying t=some (.struct d)∧d.toList.map (λf=>(f.offset,(P.info? f.type).map (·.size)))=fs.map (λx=>(x.1,some x.2))
 |.map k e=>P.underlying t=some (.map k e)
 |.arr n e esz=>P.underlying t=some (.array n e)∧(P.info? e).map (·.size)=some esz
 |.iface=>∃ms,P.underlying t=some (.interface ms)
 |.fn=>∃ps rs v,P.underlying t=some (.func ps rs v)
def TI.ok(P:Program)(t:TypeId)(i:TI):Prop:=
 (P.info? t).map (λi=>(i.zero,i.size,i.bytes))=some (some i.zero,i.size,i.bytes)∧i.k.ok P t
theorem TI.ok.some{P:Program}{t:TypeId}{i:TI}(h:i.ok P t): ∃d,P.underlying t=some d:=by
 obtain⟨_,h⟩:=h;cases hk:i.k<;>simp only[hk,TK.ok]at h
 all_goals first|exact⟨_,h⟩|exact⟨_,h.1⟩|(obtain⟨d,h⟩:=h;first|exact⟨_,h⟩|exact⟨_,h.1⟩|(obtain⟨d,e,h⟩:=h;exact⟨_,h⟩))
def tf:BO→Nat→Option TI
 |[],_=>none
 |(k,v)::t,n=>match Nat.beq k n with|true=>some v|false=>tf t n
def tK:BO→Nat→(TI→Prop)→Prop
 |[],_,_=>False
 |(k,v)::t,n,K=>match Nat.beq k n with|true=>K v|false=>tK t n K
theorem FY(e:BO)(n:Nat)(K:TI→Prop):tK e n K↔ ∃v,tf e n=some v∧K v:=by
 induction e with
 |nil=>simp[tK,tf]
 |cons p t ih=>
  obtain⟨k,v⟩:=p;simp only[tK,tf];cases Nat.beq k n<;>simp[ih]
def BX(P:Program)(T:BO):Prop:=∀t i,tf T t=some i→i.ok P t
theorem BX.nil{P:Program}:BX P []:=λ_ _ h=>by simp[tf]at h
theorem BX.cons{P:Program}{t:Nat}{i:TI}{T:BO}(h:i.ok P t)(hT:BX P T):BX P ((t,i)::T):=by
 intro u j hj;simp only[tf]at hj;cases hb:Nat.beq t u with
 |true=>rw[hb]at hj;simp at hj;subst hj;have:=Nat.eq_of_beq_eq_true hb;subst this;exact h
 |false=>rw[hb]at hj;exact hT u j hj
/-! ## Pure operations-/
def IntKind.same:IntKind→IntKind→Bool
 |.i8,.i8| .i16,.i16| .i32,.i32| .i64,.i64| .u8,.u8| .u16,.u16| .u32,.u32| .u64,.u64=>true
 |_,_=>false
theorem IntKind.same_eq{a b:IntKind}(h:IntKind.same a b=true):a=b:=by cases a<;>cases b<;>first|rfl|simp[IntKind.same]at h
def F3(k:IntKind)(x y:Int):Int:=k.wrap ((BitVec.ofInt k.bits x &&& BitVec.ofInt k.bits y).toNat)
def HV(k:IntKind)(x y:Int):Int:=k.wrap ((BitVec.ofInt k.bits x ||| BitVec.ofInt k.bits y).toNat)
def Gv(k:IntKind)(x y:Int):Int:=k.wrap ((BitVec.ofInt k.bits x ^^^ BitVec.ofInt k.bits y).toNat)
def Tj(k:IntKind)(x y:Int):Int:=k.wrap ((BitVec.ofInt k.bits x &&& ~~~(BitVec.ofInt k.bits y)).toNat)
abbrev AG(l:List UInt8):Value:= .string ⟨⟨l⟩⟩
def P4(op:BinOp)(k:IntKind)(x y:Int)(K:Value→Prop):Prop:=
 match op with
 |.add=>CG k (x+y) K
 |.sub=>CG k (x-y) K
 |.mul=>CG k (x*y) K
 |.quo=>Ae (y≠0) (CG k (x.tdiv y) K)
 |.rem=>Ae (y≠0) (K (.int k (x.tmod y)))
 |.and=>K (.int k (F3 k x y))
 |.or=>K (.int k (HV k x y))
 |.xor=>K (.int k (Gv k x y))
 |.andNot=>K (.int k (Tj k x y))
 |.eql=>K (.bool (decide (x=y)))
 |.neq=>K (.bool (!decide (x=y)))
 |.lss=>K (.bool (decide (x<y)))
 |.leq=>K (.bool (decide (x≤y)))
 |.gtr=>K (.bool (decide (y<x)))
 |.geq=>K (.bool (decide (y≤x)))
 |_=>False
def Tv(op:BinOp)(x y:List UInt8)(K:Value→Prop):Prop:=
 match op with
 |.add=>Ae (x.length+y.length≤9223372036854775807) (K (AG (x++y)))
 |.eql=>K (.bool (decide (x=y)))
 |.neq=>K (.bool (!decide (x=y)))
 |.lss=>K (.bool (Op.bytesLess x y))
 |.leq=>K (.bool (Op.bytesLess x y||decide (x=y)))
 |.gtr=>K (.bool (!(Op.bytesLess x y||decide (x=y))))
 |.geq=>K (.bool (!Op.bytesLess x y))
 |_=>False
structure JG(P:Program)(s:Sem Value)(K:Value→Prop):Prop where
 out: ∃v,(∀w,s.run P w= .ok v w)∧K v
def P2(P:Program)(op:BinOp)(t:TypeId)(a b:Value)(K:Value→Prop)(Fb:Prop):Prop:=
 match a,b with
 |.int k x,.int k' y=>
  match op with
  |.shl=>Ae (0≤y) (K (.int k (k.wrap (x*2 ^ (min y.toNat k.bits)))))
  |.shr=>Ae (0≤y) (K (.int k (x.fdiv (2 ^ (min y.toNat k.bits)))))
  |op=>match IntKind.same k k' with|true=>P4 op k x y K|false=>False
 |.string ⟨⟨x⟩⟩,.string ⟨⟨y⟩⟩=>Tv op x y K
 |.bool x,.bool y=>match op with
  |.eql=>Ae (P.underlying t=some .bool) (K (.bool (x==y)))
  |.neq=>Ae (P.underlying t=some .bool) (K (.bool (!(x==y))))
  |_=>False
 |.pointer p,.pointer none=>match op with
  |.eql=>Ae (P.underlying t=some (.pointer (P.pointee t))) (K (.bool p.isNone))
  |.neq=>Ae (P.underlying t=some (.pointer (P.pointee t))) (K (.bool (!p.isNone)))
  |_=>False
 |_,_=>Fb
theorem T4(x:List UInt8):(ByteArray.mk ⟨x⟩).toList=x:=ByteArray.toList_eq _
theorem bS(x y:List UInt8):(ByteArray.mk ⟨x⟩)++(ByteArray.mk ⟨y⟩)=⟨⟨x++y⟩⟩:=by
 apply ByteArray.ext;rw[ByteArray.data_append];simp
theorem Nv(x:List UInt8)(i j:Nat):(ByteArray.mk ⟨x⟩).extract i j=⟨⟨(x.take j).drop i⟩⟩:=by
 apply ByteArray.ext;rw[ByteArray.data_extract];apply Array.ext';simp[List.extract_eq_take_drop,List.drop_take]
theorem O3(P:Program)(op:BinOp)(t:TypeId)(x y:Operand)(a b:Value)(w:World)
  (h1: ∀c,a≠ .agg c)(h2:a≠ .nilIface):(eqGuard op t x y a b).run P w= .ok () w:=by
 unfold eqGuard;cases op<;>cases a<;>simp_all
theorem bK{P:Program}{op:BinOp}{t:TypeId}{a b:Value}{K:Value→Prop}{Fb:Prop}(h:P2 P op t a b K Fb):
  (∃v,K v∧(∀w,(binOp op t a b).run P w= .ok v w)∧(∀c,a≠ .agg c)∧a≠ .nilIface)∨Fb:=by
 cases a<;>cases b<;>simp only[P2]at h
 case int.int k x k' y=>
  left;have key:(match IntKind.same k k' with|true=>P4 op k x y K|false=>False)→op≠ .shl→op≠ .shr→ ∃v,K v∧(∀w,(binOp op t (.int k x) (.int k' y)).run P w= .ok v w):=by
   intro h h1 h2;cases hk:IntKind.same k k' with
   |false=>simp[hk]at h
   |true=>
    have:=IntKind.same_eq hk;subst this;simp only[hk]at h;cases op<;>simp only[P4]at h
    all_goals (try replace h:=CG.out h)
    all_goals (try(obtain⟨hy,h⟩:=h;(try replace h:=CG.out h)))
    all_goals first
     |exact absurd rfl h1
     |exact absurd rfl h2
     |exact h.elim
     |(refine⟨_,h,λw=>?_⟩;simp[binOp,Op.intDiv,hy];done)
     |(refine⟨_,h,λw=>?_⟩;first|(simp[binOp,Op.intArith];done)|(simp only[binOp];simp[Op.intBits,F3,HV,Gv,Tj];done)|(simp only[binOp];simp[Op.intCmp];done)|(simp only[binOp];simp[Op.intCmp];rfl))
  suffices hf: ∃v,K v∧(∀w,(binOp op t (.int k x) (.int k' y)).run P w= .ok v w)from(by obtain⟨v,h1,h2⟩:=hf;exact⟨v,h1,h2,nofun,nofun⟩)
  cases op
  case shl=>obtain⟨h0,h⟩:=h;exact⟨_,h,λw=>by simp[binOp,Op.shift,show¬y<0 by omega]⟩
  case shr=>obtain⟨h0,h⟩:=h;exact⟨_,h,λw=>by simp[binOp,Op.shift,show¬y<0 by omega]⟩
  all_goals exact key h nofun nofun
 case string.string x y=>
  left;obtain⟨⟨x⟩⟩:=x;obtain⟨⟨y⟩⟩:=y;cases op<;>simp only[Tv]at h
  case add=>
   obtain⟨h0,h⟩:=h;refine⟨_,h,λw=>?_,nofun,nofun⟩;simp only[binOp];rw[run_string_add_sum w _ _ (by simpa[ByteArray.size]using h0),bS]
  all_goals first
   |exact h.elim
   |exact⟨_,h,λw=>by simp[binOp,Op.stringOp,show(x==y)=decide (x=y)from by rw[Bool.eq_iff_iff];simp],nofun,nofun⟩
 case bool.bool x y=>
  left;cases op<;>simp only at h
  case eql=>obtain⟨h0,h⟩:=h;exact⟨_,h,λw=>run_eql_bool w _ _ _ h0,nofun,nofun⟩
  case neq=>obtain⟨h0,h⟩:=h;exact⟨_,h,λw=>run_neq_bool w _ _ _ h0,nofun,nofun⟩
 case pointer.pointer p q=>
  cases q with
  |some q=>exact Or.inr h
  |none=>
   left;cases op<;>simp only at h
   case eql=>obtain⟨h0,h⟩:=h;exact⟨_,h,λw=>run_eql_pointer_nil w _ _ h0,nofun,nofun⟩
   case neq=>obtain⟨h0,h⟩:=h;exact⟨_,h,λw=>run_neq_pointer_nil w _ _ h0,nofun,nofun⟩
 all_goals exact Or.inr h
def SW(op:UnOp)(a:Value)(K:Value→Prop):Prop:=
 match op,a with
 |.not,.bool b=>K (.bool (!b))
 |.neg,.int k n=>CG k (0-n) K
 |.xor,.int k n=>K (.int k (Gv k (if k.signed then-1 else k.max) n))
 |_,_=>False
theorem y7{P:Program}{op:UnOp}{a:Value}{K:Value→Prop}(h:SW op a K): ∃v,K v∧ ∀w,(Op.unary op a).run P w= .ok v w:=by
 cases op<;>cases a<;>simp only[SW]at h<;>(try replace h:=CG.out h)<;>first
  |exact h.elim
  |(refine⟨_,h,λw=>?_⟩;first|(simp[Op.unary,Op.intArith];done)|(simp only[Op.unary];simp[Op.intBits,Gv];done))
def UE(T:BO)(d:TypeId)(a:Value)(K:Value→Prop):Prop:=
 match a with
 |.int _ n=>tK T d λi=>match i.k with| .int k=>CG k n K|_=>False
 |.string s=>tK T d λi=>match i.k with| .str=>K (.string s)|_=>False
 |_=>False
def LC:List (Nat×Nat)→Nat→(Nat→Nat→Prop)→Prop
 |[],_,_=>False
 |(o,s)::_,0,K=>K o s
 |_::t,n+1,K=>LC t n K
theorem W8: ∀(fs:List (Nat×Nat))(n:Nat)(K:Nat→Nat→Prop),LC fs n K↔ ∃o s,fs[n]?=some (o,s)∧K o s
 |[],n,K=>by simp[LC]
 |(o,s)::t,0,K=>by
  simp only[LC,List.getElem?_cons_zero,Option.some.injEq,Prod.mk.injEq];exact⟨λh=>⟨o,s,⟨rfl,rfl⟩,h⟩,λ⟨_,_,⟨h1,h2⟩,h⟩=>h1▸h2▸h⟩
 |_::t,n+1,K=>by simp only[LC,List.getElem?_cons_succ];exact W8 t n K
structure Pb(P:Program)(t:TypeId)(u:Value)(name:String)(K:Prop):Prop where
 run: ∀w,(nilAhead (P.types.size+Made.depth) t u name).run P w= .ok (some false) w
 k:K
def Wn(P:Program)(fn:Fn)(first:List Value)(c:Array Value)(K:Value→Prop):Prop:=match fn,first with
 |.method name,.iface t u::fs=>Pb P t u name (K (.func (.method name) ⟨.iface t u::fs⟩ c))
 |_,_=>False
def We(fn:Fn)(K:Prop):Prop:=match fn with
 |.method _=>K
 |_=>False
def LJ(P:Program)(T:BO)(e:AZ)(op:Op)(K:Value→Prop):Prop:=
 match op with
 |.move x=>BK e x K
 |.assign x=>BK e x K
 |.pick c x y=>BK e c λvc=>match vc with| .bool b=>Ax b (BK e x K) (BK e y K)|_=>False
 |.binOp op t x y _=>BK e x λa=>BK e y λb=>P2 P op t a b K (JG P (do eqGuard op t x y a b;binOp op t a b) K)
 |.unOp op _ x=>BK e x λa=>SW op a K
 |.convert s d x=>tK T s λ_=>BK e x λa=>UE T d a K
 |.nilCheck x=>BK e x λa=>match a with
  |.pointer (some p)=>K (.pointer (some p))
  |.func fn ⟨first⟩ c=>Wn P fn first c K
  |_=>False
 |.makeFunc fn first captured=>Hk e first.toList λf1=>Hk e captured.toList λc1=>We fn (K (.func fn ⟨f1⟩ ⟨c1⟩))
 |.extract x n=>BK e x λa=>match a with| .tuple ⟨vs⟩=>(match vs[n]? with|some v=>K v|none=>False)|_=>False
 |.fieldAddr s x f=>tK T s λi=>match i.k with
  |.struct fs=>LC fs f λo sz=>match sz with
   |0=>False
   |_+1=>BK e x λa=>match a with| .pointer (some ⟨b,off,none⟩)=>K (.pointer (some ⟨b,off+o,none⟩))|_=>False
  |_=>False
 |.indexAddr t x ix=>tK T t λi=>match i.k with
  |.slice _ sz=>BK e x λa=>BK e ix λj=>match a,j with
   |.slice (some ⟨b,off,none⟩) len _,.int _ j=>Ae (0≤j∧j<len) (K (.pointer (some ⟨b,off+j.toNat*sz,none⟩)))
   |_,_=>False
  |.arr n _ sz=>BK e x λa=>BK e ix λj=>match a,j with
   |.pointer (some ⟨b,off,none⟩),.int _ j=>Ae (0≤j∧j<n) (K (.pointer (some ⟨b,off+j.toNat*sz,none⟩)))
   |_,_=>False
  |_=>False
 |.index t x ix=>tK T t λi=>match i.k with
  |.str=>BK e x λa=>BK e ix λj=>match a,j with
   |.string ⟨⟨l⟩⟩,.int _ j=>Ae (0≤j∧j<l.length) (K (.int .u8 (l.getD j.toNat 0).toNat))
   |_,_=>False
  |.arr _ _ _=>BK e x λa=>BK e ix λj=>JG P (Instr.index t a j) K
  |_=>False
 |.makeInterface t x=>Ae (P.concrete t=true) (BK e x λa=>K (.iface t a))
 |_=>False
theorem Addr.add_eq(b o n:Nat):(⟨b,o,none⟩:Addr).add n=⟨b,o+n,none⟩:=by unfold Addr.add;split<;>simp_all
theorem NA{P:Program}{T:BO}(hT:BX P T){N:Nat}{e:AZ}{a:Act}(hr:BS ds N e a){o:Oper}{K:Value→Prop}(h:LJ P T e o.op K):
  ∃v,K v∧ ∀w,(execOp a.eval o).run P w= .ok (.value v) w:=by
 obtain⟨dst,op,ty,pos,after,guard⟩:=o;simp only at h;cases op<;>simp only[LJ]at h
 case move x=>exact⟨_,BT hr h,λw=>rfl⟩
 case assign x=>exact⟨_,BT hr h,λw=>rfl⟩
 case pick c x y=>
  have:=BT hr h;cases hc:a.eval c<;>simp only[hc]at this
  case bool b=>
   cases b with
   |true=>exact⟨_,BT hr (this.t' rfl),λw=>by simp[execOp,hc,asBool]⟩
   |false=>exact⟨_,BT hr (this.f' rfl),λw=>by simp[execOp,hc,asBool]⟩
 case binOp op t x y yt=>
  have h1:=BT hr (BT hr h);rcases bK h1 with⟨v,hv,hrun,h2,h3⟩|h1
  ·exact⟨v,hv,λw=>by simp[execOp,O3 P op t x y _ _ w h2 h3,hrun]⟩
  ·obtain⟨v,hrun,hv⟩:=h1.out;refine⟨v,hv,λw=>?_⟩;have:=hrun w;simp only[execOp,Sem.run_bind]at this⊢;simp only[this,Result.andThen_ok,Sem.run_pure]
 case unOp op t x=>
  obtain⟨v,hv,hrun⟩:=y7 (P:=P) (BT hr h);exact⟨v,hv,λw=>by simp[execOp,hrun]⟩
 case nilCheck x=>
  have:=BT hr h;cases hc:a.eval x<;>simp only[hc]at this
  case pointer p=>
   cases p with
   |none=>exact this.elim
   |some p=>exact⟨_,this,λw=>by simp[execOp,hc]⟩
  case func fn first captured=>
   obtain⟨l⟩:=first
   unfold Wn at this
   split at this
   ·next he=>
    have he:l=_:=he;subst he;refine⟨_,this.k,λw=>?_⟩;have hrun:=this.run w;simp[execOp,hc,hrun]
   ·exact this.elim
 case extract x n=>
  have:=BT hr h;cases hc:a.eval x<;>simp only[hc]at this
  case tuple vs=>
   obtain⟨vs⟩:=vs;simp only at this;cases hv:vs[n]?<;>simp only[hv]at this
   case some v=>exact⟨v,this,λw=>by simp[execOp,hc,Instr.extract,hv]⟩
 case makeFunc fn first captured=>
  have:=IG hr (IG hr h);have e1:(⟨List.map a.eval first.toList⟩:Array Value)=first.map a.eval:=by rw[←Array.toList_map]
  have e2:(⟨List.map a.eval captured.toList⟩:Array Value)=captured.map a.eval:=by rw[←Array.toList_map]
  rw[e1,e2]at this;unfold We at this
  split at this
  ·exact⟨_,this,λw=>by simp[execOp,Instr.makeFunc]⟩
  ·exact this.elim
 case makeInterface t x=>
  exact⟨_,BT (K:=λa=>K (.iface t a)) hr h.2,λw=>by simp[execOp,run_makeInterface _ _ _ h.1]⟩
 case convert s d x=>
  obtain⟨i0,hi0,h⟩:=(FY _ _ _).1 h;have:=BT hr h;obtain⟨ds,hds⟩:=(hT _ _ hi0).some;cases hc:a.eval x<;>simp only[hc,UE]at this
  case int k n=>
   obtain⟨i,hi,h2⟩:=(FY _ _ _).1 this;cases hk:i.k<;>simp only[hk]at h2
   case int k'=>
    have hok:=(hT _ _ hi).2;rw[hk]at hok;exact⟨_,h2.out,λw=>by simp[execOp,hc,convert,run_underlying hds,run_underlying (show P.underlying d=some (.int k')from hok),Conv.intToInt]⟩
  case string b=>
   obtain⟨i,hi,h2⟩:=(FY _ _ _).1 this;cases hk:i.k<;>simp only[hk]at h2
   case str=>
    have hok:=(hT _ _ hi).2;rw[hk]at hok;exact⟨_,h2,λw=>by simp[execOp,hc,convert,run_underlying hds,run_underlying (show P.underlying d=some .string from hok)]⟩
 case fieldAddr s x f=>
  obtain⟨i,hi,h2⟩:=(FY _ _ _).1 h;cases hk:i.k<;>simp only[hk]at h2
  case struct fs=>
   obtain⟨o,sz,hf,h3⟩:=(W8 _ _ _).1 h2;cases sz with
   |zero=>exact h3.elim
   |succ sz=>
    simp only at h3;have h4:=BT hr h3;have hok:=(hT _ _ hi).2;rw[hk]at hok;obtain⟨d,hd,hm⟩:=hok;have hlen:d.size=fs.length:=by have:=congrArg List.length hm;simpa using this
    have hfl:f<fs.length:=(List.getElem?_eq_some_iff.1 hf).1;have hdf:f<d.size:=by omega
    have hm2:(d[f].offset,(P.info? d[f].type).map (·.size))=(o,some (sz+1)):=by
     have h5:=congrArg (λl=>l[f]?) hm;simpa[hf,hdf]using h5
    simp only[Prod.mk.injEq]at hm2;obtain⟨ho,hsz⟩:=hm2;cases hc:a.eval x<;>simp only[hc]at h4
    case pointer p=>
     rcases p with _|⟨b,off,_|sp⟩
     ·exact h4.elim
     rotate_left
     ·exact h4.elim
     refine⟨_,h4,λw=>?_⟩;cases hinf:P.info? d[f].type with
     |none=>rw[hinf]at hsz;simp at hsz
     |some inf=>
      rw[hinf]at hsz;have hs1:inf.size=sz+1:=by simpa using hsz
      simp[execOp,hc,Instr.fieldAt,run_underlying hd,hdf,Instr.sureAddr,fieldPlace,sizeOf,typeInfo,hinf,hs1,ho,Addr.add_eq]
 case indexAddr t x ix=>
  obtain⟨i,hi,h2⟩:=(FY _ _ _).1 h;have hok:=(hT _ _ hi).2;cases hk:i.k<;>simp only[hk]at h2 hok
  case slice el sz=>
   have h4:=BT hr (BT hr h2);obtain⟨hu,hs⟩:=hok;cases hinf:P.info? el with
   |none=>rw[hinf]at hs;simp at hs
   |some inf=>
    rw[hinf]at hs;have hs1:inf.size=sz:=by simpa using hs
    cases hc:a.eval x<;>simp only[hc]at h4
    case slice p len cap=>
     rcases p with _|⟨b,off,_|sp⟩
     ·exact h4.elim
     rotate_left
     ·exact h4.elim
     cases hj:a.eval ix<;>simp only[hj]at h4
     case int k j=>
      exact⟨_,h4.2,λw=>by simp[execOp,hc,hj,Instr.indexAt,run_underlying hu,asIntOf,h4.1,sizeOf,typeInfo,hinf,hs1,Addr.add_eq]⟩
  case arr n el sz=>
   have h4:=BT hr (BT hr h2);obtain⟨hu,hs⟩:=hok;cases hinf:P.info? el with
   |none=>rw[hinf]at hs;simp at hs
   |some inf=>
    rw[hinf]at hs;have hs1:inf.size=sz:=by simpa using hs
    cases hc:a.eval x<;>simp only[hc]at h4
    case pointer p=>
     rcases p with _|⟨b,off,_|sp⟩
     ·exact h4.elim
     rotate_left
     ·exact h4.elim
     cases hj:a.eval ix<;>simp only[hj]at h4
     case int k j=>
      exact⟨_,h4.2,λw=>by simp[execOp,hc,hj,Instr.indexAt,run_underlying hu,Instr.sureAddr,asIntOf,h4.1,sizeOf,typeInfo,hinf,hs1,Addr.add_eq]⟩
 case index t x ix=>
  obtain⟨i,hi,h2⟩:=(FY _ _ _).1 h;have hok:=(hT _ _ hi).2;cases hk:i.k<;>simp only[hk]at h2 hok
  case str=>
   have h4:=BT hr (BT hr h2);cases hc:a.eval x<;>simp only[hc]at h4
   case string s=>
    obtain⟨⟨l⟩⟩:=s;cases hj:a.eval ix<;>simp only[hj]at h4
    case int k j=>
     obtain⟨h41,h42⟩:=h4;have hb:j.toNat<l.length:=by omega
     refine⟨_,h42,λw=>?_⟩;have hg:(ByteArray.mk ⟨l⟩)[j.toNat]?=some (l.getD j.toNat 0):=by
      rw[getElem?_pos _ _ (by simpa[ByteArray.size]using hb)];simp[hb];rfl
     simp[execOp,hc,hj,Instr.index,run_underlying hok,asIntOf,h41.1,hg]
  case arr n el sz=>
   obtain⟨v,hrun,hv⟩:=(BT hr (BT hr h2)).out;exact⟨v,hv,λw=>by simp[execOp,hrun w]⟩
/-! ## Reading operations:the world stays,the value is one in every world of a class C-/
structure FK(C:World→Prop)(a:Addr)(K:Value→Prop):Prop where
 out: ∃v,(∀w,C w→w.cell? a=some v)∧K v
structure GN(C:World→Prop)(n b off:Nat)(K:List Value→Prop):Prop where
 out: ∃cs:List Value,cs.length=n∧(∀w,C w→ ∀j v,cs[j]?=some v→w.cell? ⟨b,off+j,none⟩=some v)∧K cs
structure Fz(P:Program)(s:Sem Value)(C:World→Prop)(K:Value→Prop):Prop where
 out: ∃v,(∀w,C w→s.run P w= .ok v w)∧K v
def CV(b off lo cap esz:Nat):Option Addr:=some (if cap=lo then⟨b,off,none⟩else⟨b,off+lo*esz,none⟩)
theorem YL(b off cap esz:Nat):CV b off 0 cap esz=some ⟨b,off,none⟩:=by unfold CV;split<;>simp
def M3(e:AZ):Option Operand→(Option Value→Prop)→Prop
 |none,K=>K none
 |some x,K=>BK e x λv=>K (some v)
theorem Om{N:Nat}{e:AZ}{a:Act}(h:BS ds N e a){x:Option Operand}{K:Option Value→Prop}(hk:M3 e x K):K (x.map a.eval):=by
 cases x with
 |none=>exact hk
 |some x=>exact BT (K:=λv=>K (some v)) h hk
def NI(l:List UInt8)(lo hi:Option Value)(K:Value→Prop):Prop:=
 match lo,hi with
 |none,none=>K (AG l)
 |some (.int _ i),none=>Ae (0≤i∧i≤l.length) (K (AG (l.drop i.toNat)))
 |none,some (.int _ j)=>Ae (0≤j∧j≤l.length) (K (AG (l.take j.toNat)))
 |some (.int _ i),some (.int _ j)=>Ae (0≤i∧i≤j∧j≤l.length) (K (AG ((l.take j.toNat).drop i.toNat)))
 |_,_=>False
def NH(b off len cap esz:Nat)(lo hi:Option Value)(K:Value→Prop):Prop:=
 match lo,hi with
 |none,none=>K (.slice (some ⟨b,off,none⟩) len cap)
 |some (.int _ i),none=>Ae (0≤i∧i≤len) (K (.slice (CV b off i.toNat cap esz) (len-i.toNat) (cap-i.toNat)))
 |none,some (.int _ j)=>Ae (0≤j∧j≤cap) (K (.slice (some ⟨b,off,none⟩) j.toNat cap))
 |some (.int _ i),some (.int _ j)=>Ae (0≤i∧i≤j∧j≤cap) (K (.slice (CV b off i.toNat cap esz) (j.toNat-i.toNat) (cap-i.toNat)))
 |_,_=>False
def NG(len cap:Nat)(lo hi:Option Value)(K:Value→Prop):Prop:=
 match lo,hi with
 |none,none=>K (.slice none len cap)
 |some (.int _ i),none=>Ae (0≤i∧i≤len) (K (.slice none (len-i.toNat) (cap-i.toNat)))
 |none,some (.int _ j)=>Ae (0≤j∧j≤cap) (K (.slice none j.toNat cap))
 |some (.int _ i),some (.int _ j)=>Ae (0≤i∧i≤j∧j≤cap) (K (.slice none (j.toNat-i.toNat) (cap-i.toNat)))
 |_,_=>False
def RP(x y:Int):Int:=if y<x then y else x
def Gr(x y:Int):Int:=if x<y then y else x
def P9(P:Program)(T:BO)(C:World→Prop)(b:Builtin)(ts:List TypeId)(ty:TypeId)(vs:List Value)(K:Value→Prop):Prop:=
 match b,ts,vs with
 |.len,t::_,[.string ⟨⟨l⟩⟩]=>tK T t λi=>match i.k with| .str=>K (.int .i64 l.length)|_=>False
 |.len,t::_,[.slice _ n _]=>tK T t λi=>match i.k with| .slice _ _=>K (.int .i64 n)|_=>False
 |.cap,t::_,[.slice _ _ n]=>tK T t λi=>match i.k with| .slice _ _=>K (.int .i64 n)|_=>False
 |.min,_,[.int k x,.int _ y]=>K (.int k (if y<x then y else x))
 |.max,_,[.int k x,.int _ y]=>K (.int k (if x<y then y else x))
 |.min,_,[.int k x,.int _ y,.int _ z]=>K (.int k (RP (RP x y) z))
 |.max,_,[.int k x,.int _ y,.int _ z]=>K (.int k (Gr (Gr x y) z))
 |.max,_,[.int k x,.int _ y,.int _ z,.int _ u]=>K (.int k (Gr (Gr (Gr x y) z) u))
 |.max,_,[.int k x,.int _ y,.int _ z,.int _ u,.int _ v]=>K (.int k (Gr (Gr (Gr (Gr x y) z) u) v))
 |.max,_,[.int k x,.int _ y,.int _ z,.int _ u,.int _ v,.int _ w]=>K (.int k (Gr (Gr (Gr (Gr (Gr x y) z) u) v) w))
 |.len,ts,[.map m]=>Fz P (Builtin.len_ ⟨ts⟩ ty #[.map m]) C K
 |_,_,_=>False
inductive JF where
 |pure|read|eff
 deriving DecidableEq
def kind(T:BO):Op→JF
 |.convert s d _=>match tf T d,tf T s with|some {k:= .int _,.. },_=> .pure|some {k:= .str,.. },some {k:= .str,.. }=> .pure|some {k:= .str,.. },some {k:= .slice ..,.. }=> .read|some {k:= .str,.. },some {k:= .int _,.. }=> .read|_,_=> .eff
 |.move _| .assign _| .pick .. | .binOp .. | .unOp .. | .nilCheck _| .extract .. | .fieldAddr .. | .indexAddr .. | .index .. | .makeInterface .. => .pure
 |.makeFunc (.method _) .. => .pure
 |.load .. | .slice .. | .lookup .. | .build .. | .field .. => .read
 |.call {callee:= .builtin b,.. }=>match b with| .len| .cap| .min| .max=> .read|_=> .eff
 |_=> .eff
/-! ### Struct values-/
def Ov(e:AZ):List (Nat×Operand)→(List (Nat×Value)→Prop)→Prop
 |[],K=>K []
 |(i,x)::r,K=>BK e x λv=>Ov e r λvs=>K ((i,v)::vs)
theorem Ri{N:Nat}{e:AZ}{a:Act}(h:BS ds N e a): ∀{xs:List (Nat×Operand)}{K:List (Nat×Value)→Prop},Ov e xs K→K (xs.map λ(i,x)=>(i,a.eval x))
 |[],_,hk=>hk
 |(i,x)::xs,K,hk=>by
  have h1:=BT h hk;exact Ri (xs:=xs) (K:=λvs=>K ((i,a.eval x)::vs)) h h1
def KF:List Value→Nat→List Value→(List Value→Prop)→Prop
 |l,_,[],K=>K l
 |[],_,_::_,_=>False
 |_::t,0,v::vs,K=>KF t 0 vs λr=>K (v::r)
 |x::t,n+1,v::vs,K=>KF t n (v::vs) λr=>K (x::r)
def En(l:List Value)(off:Nat)(vs:List Value):List Value:=l.take off++vs++l.drop (off+vs.length)
theorem Oz: ∀(l:List Value)(off:Nat)(vs:List Value)(K:List Value→Prop),KF l off vs K→(off+vs.length≤l.length∨vs=[])∧K (En l off vs)
 |l,off,[],K,h=>by
  refine⟨.inr rfl,?_⟩;have:KF l off [] K=K l:=by cases l<;>rfl
  rw[this]at h;simpa[En]using h
 |[],_,_::_,K,h=>h.elim
 |x::t,0,v::vs,K,h=>by
  obtain⟨h1,h2⟩:=Oz t 0 vs _ h;refine⟨.inl ?_,?_⟩
  ·rcases h1 with h1|rfl<;>simp at* <;>omega
  ·simpa[En,Nat.add_comm]using h2
 |x::t,n+1,v::vs,K,h=>by
  obtain⟨h1,h2⟩:=Oz t n (v::vs) _ h;refine⟨.inl ?_,?_⟩
  ·rcases h1 with h1|h1<;>simp at* <;>omega
  ·have e:En (x::t) (n+1) (v::vs)=x::En t n (v::vs):=by
    unfold En;rw[show n+1+(v::vs).length=(n+(v::vs).length)+1 by omega]
    rfl
   rw[e];exact h2
def Js(v:Value)(K:List Value→Prop):Prop:=match v with| .agg ⟨l⟩=>K l|v=>K [v]
theorem Ke{v:Value}{K:List Value→Prop}(h:Js v K):K v.cells.toList:=by
 cases v<;>exact h
def Kp(place:Nat→Option (Nat×Nat)):List Value→List (Nat×Value)→(List Value→Prop)→Prop
 |cs,[],K=>K cs
 |cs,(i,v)::r,K=>match place i with
  |some (off,size)=>Js v λl=>match Nat.beq l.length size,l with
   |true,_::_=>KF cs off l λcs'=>Kp place cs' r K
   |_,_=>False
  |none=>False
theorem rH(l:List Value): ∀(cs:List Value)(off:Nat),off+l.length≤cs.length→
  ((l.zipIdx).foldl (λ(cs:Array Value)(x:Value×Nat)=>cs.setIfInBounds (off+x.2) x.1) ⟨cs⟩)=⟨En cs off l⟩:=by
 suffices H: ∀(l:List Value)(k:Nat)(cs:List Value)(off:Nat),off+k+l.length≤cs.length→
   ((l.zipIdx k).foldl (λ(cs:Array Value)(x:Value×Nat)=>cs.setIfInBounds (off+x.2) x.1) ⟨cs⟩)=⟨En cs (off+k) l⟩fromλcs off h=>by simpa using H l 0 cs off (by simpa using h)
 intro l
 induction l with
 |nil=>intro k cs off h;simp[En]
 |cons v l ih=>
  intro k cs off h;simp only[List.zipIdx_cons,List.foldl_cons,List.length_cons]at h⊢;have:(Array.mk cs).setIfInBounds (off+k) v=⟨cs.set (off+k) v⟩:=by simp
  rw[this,ih (k+1) _ off (by simp;omega)]
  congr 1
  unfold En;have e1:off+(k+1)=(off+k)+1:=by omega
  rw[e1,List.take_set,List.drop_set];rw[if_pos (by omega)];rw[List.take_succ_eq_append_getElem (by omega)];rw[List.set_append_right _ _ (by simp;omega)];simp only[List.length_take,List.length_cons];rw[show off+k-min (off+k) cs.length=0 by omega];simp[Nat.add_assoc,Nat.add_comm,Nat.add_left_comm]
theorem OL(place:Nat→Option (Nat×Nat)): ∀(ps:List (Nat×Value))(cs:List Value)(K:List Value→Prop),Kp place cs ps K→
  ∃cs',Instr.fill place ⟨cs⟩ ps=some ⟨cs'⟩∧K cs'
 |[],cs,K,h=>⟨cs,rfl,h⟩
 |(i,v)::r,cs,K,h=>by
  simp only[Kp]at h;cases hp:place i with
  |none=>simp[hp]at h
  |some x=>
   obtain⟨off,size⟩:=x;simp only[hp]at h;have h1:=Ke h;cases hb:Nat.beq v.cells.toList.length size with
   |false=>simp only[hb]at h1
   |true=>
    have hsz:=Nat.eq_of_beq_eq_true hb;rw[hb]at h1;cases hl:v.cells.toList with
    |nil=>simp only[hl]at h1
    |cons x xs=>
     simp only[hl]at h1;rw[←hl]at h1;obtain⟨h2,h3⟩:=Oz _ _ _ _ h1;have h4:off+v.cells.toList.length≤cs.length:=by
      rcases h2 with h2|h2
      ·exact h2
      ·rw[hl]at h2;cases h2
     obtain⟨cs',h5,h6⟩:=OL place r _ K h3;refine⟨cs',?_,h6⟩;have hs2:v.cells.size=size:=by simpa using hsz
     have hf:=rH v.cells.toList cs off h4;have hz:v.cells.zipIdx.foldl (λ(cs:Array Value)(x:Value×Nat)=>cs.setIfInBounds (off+x.2) x.1) ⟨cs⟩=⟨En cs off v.cells.toList⟩:=by
      rw[←hf,←Array.foldl_toList];simp
     simp only[Instr.fill,hp];rw[if_neg (by simp only[hs2,List.size_toArray,ne_eq,not_true_eq_false];simp at h4;simp;omega)];refine Eq.trans (congrArg (λz=>Instr.fill place z r) ?_) h5;exact hz
theorem XP(P:Program): ∀(d:List Field)(fs:List (Nat×Nat)),d.map (λf=>(f.offset,(P.info? f.type).map (·.size)))=fs.map (λx=>(x.1,some x.2))→
  d.mapM (λf=>(P.info? f.type).map λi=>(f.offset,i.size))=some fs
 |[],[],_=>rfl
 |[],_::_,h=>by simp at h
 |_::_,[],h=>by simp at h
 |f::d,(o,sz)::fs,h=>by
  simp only[List.map_cons,List.cons.injEq,Prod.mk.injEq]at h;obtain⟨⟨h1,h2⟩,h3⟩:=h;have ih:=XP P d fs h3;simp only[List.mapM_cons,ih];cases hi:P.info? f.type with
  |none=>rw[hi]at h2;simp at h2
  |some i=>rw[hi]at h2;simp at h2;simp[h1,h2]
def LN(P:Program)(T:BO)(e:AZ)(C:World→Prop)(o:Oper)(K:Value→Prop):Prop:=
 match o.op with
 |.load t x=>tK T t λi=>BK e x λa=>match a with
  |.pointer (some ⟨b,off,none⟩)=>(match i.agg with|false=>FK C ⟨b,off,none⟩ K|true=>GN C i.size b off λcs=>K (.agg ⟨cs⟩))
  |_=>False
 |.slice t x lo hi none=>tK T t λi=>BK e x λa=>M3 e lo λlo=>M3 e hi λhi=>match i.k,a with
  |.str,.string ⟨⟨l⟩⟩=>NI l lo hi K
  |.slice _ esz,.slice (some ⟨b,off,none⟩) len cap=>NH b off len cap esz lo hi K
  |.slice _ _,.slice none len cap=>NG len cap lo hi K
  |.arr _ _ _,a=>Fz P (Instr.sliceAt t a lo hi none) C K
  |_,_=>False
 |.slice t x lo hi (some mx)=>BK e x λa=>M3 e lo λlo=>M3 e hi λhi=>BK e mx λmx=>Fz P (Instr.sliceAt t a lo hi (some mx)) C K
 |.lookup t m k ok=>BK e m λm=>BK e k λk=>Fz P (Instr.lookup t m k ok) C K
 |.field t x f=>BK e x λv=>Fz P (Instr.field t v f) C K
 |.convert s d x=>BK e x λv=>Fz P (convert s d v) C K
 |.build t parts=>tK T t λi=>Js i.zero λz=>Ov e parts.toList λps=>match i.k with
  |.struct fs=>Kp (λn=>fs[n]?) z ps λcs=>K (.agg ⟨cs⟩)
  |.arr _ _ esz=>Kp (λn=>some (n*esz,esz)) z ps λcs=>K (.agg ⟨cs⟩)
  |_=>False
 |.call {callee:= .builtin b,args,argTypes}=>Hk e args.toList λvs=>P9 P T C b argTypes.toList o.type vs K
 |_=>False
theorem Oc{P:Program}{T:BO}(hT:BX P T){t:TypeId}{i:TI}(hi:tf T t=some i)(ha:i.agg=false)(w:World):(isAgg t).run P w= .ok false w:=by
 have hok:=(hT _ _ hi).2;unfold TI.agg at ha;unfold isAgg;cases hk:i.k<;>simp only[hk,TK.ok]at hok ha
 case int=>simp[run_underlying hok]
 case bool=>simp[run_underlying hok]
 case str=>simp[run_underlying hok]
 case ptr=>simp[run_underlying hok]
 case slice=>simp[run_underlying hok.1]
 case map=>simp[run_underlying hok]
 case iface=>obtain⟨_,hok⟩:=hok;simp[run_underlying hok]
 case fn=>obtain⟨_,_,_,hok⟩:=hok;simp[run_underlying hok]
 all_goals simp at ha
theorem RJ{P:Program}{T:BO}(hT:BX P T){t:TypeId}{i:TI}(hi:tf T t=some i)(ha:i.agg=true)(w:World):(isAgg t).run P w= .ok true w:=by
 have hok:=(hT _ _ hi).2;unfold TI.agg at ha;unfold isAgg;cases hk:i.k<;>simp only[hk,TK.ok]at hok ha
 case struct=>obtain⟨_,hok,_⟩:=hok;simp[run_underlying hok]
 case arr=>simp[run_underlying hok.1]
 all_goals simp at ha
theorem O8{P:Program}{T:BO}(hT:BX P T){t:TypeId}{i:TI}(hi:tf T t=some i)(w:World):(sizeOf t).run P w= .ok i.size w:=by
 have hok:=(hT _ _ hi).1;cases hinf:P.info? t with
 |none=>rw[hinf]at hok;simp at hok
 |some inf=>rw[hinf]at hok;simp at hok;simp[sizeOf,typeInfo,hinf,hok]
theorem PO{P:Program}{T:BO}(hT:BX P T){t:TypeId}{i:TI}(hi:tf T t=some i)(w:World):(zeroValue t).run P w= .ok i.zero w:=by
 have hok:=(hT _ _ hi).1;cases hinf:P.info? t with
 |none=>rw[hinf]at hok;simp at hok
 |some inf=>rw[hinf]at hok;simp at hok;simp[zeroValue,typeInfo,hinf,hok]
theorem WQ(P:Program)(w:World)(b off:Nat)(cs:List Value)(h: ∀j v,cs[j]?=some v→w.cell? ⟨b,off+j,none⟩=some v):
  (loadCells ⟨b,off,none⟩ cs.length).run P w= .ok ⟨cs⟩ w:=by
 have:=run_loadCells_list (P:=P) (w:=w) ⟨b,off,none⟩ cs (λj v hv=>by rw[Addr.add_eq];exact h j v hv);simpa using this
theorem bP{P:Program}{T:BO}(hT:BX P T){C:World→Prop}{b:Builtin}{ts:List TypeId}{ty:TypeId}{vs:List Value}{cs:Array Bool}{K:Value→Prop}
  (h:P9 P T C b ts ty vs K): ∃v,K v∧ ∀w,C w→(builtin b ⟨ts⟩ ty cs ⟨vs⟩).run P w= .ok (.value v) w:=by
 unfold P9 at h
 split at h
 ·rename_i t _ l;obtain⟨i,hi,h⟩:=(FY _ _ _).1 h;have hok:=(hT _ _ hi).2;cases hk:i.k<;>simp only[hk]at h hok
  case str=>exact⟨_,h,λw _=>by simp[builtin,Builtin.len_,run_underlying (show P.underlying t=some .string from hok)];rfl⟩
 ·rename_i t _ a n c;obtain⟨i,hi,h⟩:=(FY _ _ _).1 h;have hok:=(hT _ _ hi).2;cases hk:i.k<;>simp only[hk]at h hok
  case slice e esz=>exact⟨_,h,λw _=>by simp[builtin,Builtin.len_,run_underlying hok.1,goInt]⟩
 ·rename_i t _ a c n;obtain⟨i,hi,h⟩:=(FY _ _ _).1 h;have hok:=(hT _ _ hi).2;cases hk:i.k<;>simp only[hk]at h hok
  case slice e esz=>exact⟨_,h,λw _=>by simp[builtin,Builtin.cap_,run_underlying hok.1,goInt]⟩
 ·exact⟨_,h,λw _=>by simp[builtin,Builtin.min_,Builtin.min2]⟩
 ·exact⟨_,h,λw _=>by simp[builtin,Builtin.max_,Builtin.max2]⟩
 ·exact⟨_,h,λw _=>by simp[builtin,Builtin.min_,Builtin.min2];rfl⟩
 ·exact⟨_,h,λw _=>by simp[builtin,Builtin.max_,Builtin.max2];rfl⟩
 ·exact⟨_,h,λw _=>by simp[builtin,Builtin.max_,Builtin.max2];rfl⟩
 ·exact⟨_,h,λw _=>by simp[builtin,Builtin.max_,Builtin.max2];rfl⟩
 ·exact⟨_,h,λw _=>by simp[builtin,Builtin.max_,Builtin.max2];rfl⟩
 ·obtain⟨v,h1,h2⟩:=h.out;exact⟨v,h2,λw hw=>by simp[builtin,h1 w hw]⟩
 ·exact h.elim
theorem O1{P:Program}{T:BO}(hT:BX P T){N:Nat}{e:AZ}{a:Act}(hr:BS ds N e a){o:Oper}{C:World→Prop}{K:Value→Prop}(h:LN P T e C o K):
  ∃v,K v∧ ∀w,C w→(execOp a.eval o).run P w= .ok (.value v) w:=by
 obtain⟨dst,op,ty,pos,after,guard⟩:=o;cases op<;>simp only[LN]at h
 case load t x=>
  obtain⟨i,hi,h⟩:=(FY _ _ _).1 h;have h:=BT hr h;cases hc:a.eval x<;>simp only[hc]at h
  case pointer p=>
   rcases p with _|⟨b,off,_|sp⟩
   ·exact h.elim
   rotate_left
   ·exact h.elim
   simp only at h;cases hagg:i.agg<;>simp only[hagg]at h
   case false=>
    obtain⟨v,h1,h2⟩:=h.out;exact⟨v,h2,λw hw=>by simp[execOp,hc,Instr.loadAt,Instr.sureAddr,loadVar,Oc hT hi hagg,run_load,h1 w hw]⟩
   case true=>
    obtain⟨cs,h1,h2,h3⟩:=h.out;refine⟨_,h3,λw hw=>?_⟩;have:=WQ P w b off cs (h2 w hw);rw[h1]at this;simp[execOp,hc,Instr.loadAt,Instr.sureAddr,loadVar,RJ hT hi hagg,O8 hT hi,this]
 case slice t x lo hi mx=>
  cases mx with
  |some mx=>
   simp only at h;obtain⟨v,h1,h2⟩:=Fz.out (BT hr (Om hr (Om hr (BT hr h))));exact⟨v,h2,λw hw=>by simp[execOp,h1 w hw]⟩
  |none=>
   simp only at h;obtain⟨i,hi',h⟩:=(FY _ _ _).1 h;have hok:=(hT _ _ hi').2;have h:=Om hr (Om hr (BT hr h));cases hk:i.k<;>simp only[hk]at h hok
   case arr n el esz=>
    obtain⟨v,h1,h2⟩:=Fz.out h;exact⟨v,h2,λw hw=>by simp[execOp,h1 w hw]⟩
   case str=>
    cases hc:a.eval x<;>simp only[hc]at h
    case string s=>
     obtain⟨⟨l⟩⟩:=s;simp only at h;have hu:P.underlying t=some .string:=hok;have hsz:(ByteArray.mk ⟨l⟩).size=l.length:=rfl
     suffices hs: ∃v,K v∧ ∀w,(Instr.slice t (.string ⟨⟨l⟩⟩) (lo.map a.eval) (hi.map a.eval) none).run P w= .ok v w from(by
      obtain⟨v,h1,h2⟩:=hs;exact⟨v,h1,λw _=>by simp[execOp,hc,run_sliceAt_string w t _ _ _ _ hu,h2]⟩)
     generalize lo.map a.eval=lo at h⊢;generalize hi.map a.eval=hi at h⊢;rcases lo with _|lo<;>rcases hi with _|hi
     ·simp only[NI]at h;refine⟨_,h,λw=>?_⟩;rw[run_slice_string_all w t _ hu,Nv,hsz];simp
     ·cases hi<;>simp only[NI]at h
      case none.some.int k j=>
       obtain⟨h0,h⟩:=h;refine⟨_,h,λw=>?_⟩;rw[run_slice_string_h w t _ hu k j (by omega) (by rw[hsz];omega),Nv];simp
     ·cases lo<;>simp only[NI]at h
      case some.none.int k i=>
       obtain⟨h0,h⟩:=h;refine⟨_,h,λw=>?_⟩;rw[run_slice_string_l w t _ hu k i (by omega) (by rw[hsz];omega),Nv,hsz];simp
     ·cases lo<;>cases hi<;>simp only[NI]at h
      case some.some.int.int k i k' j=>
       obtain⟨h0,h⟩:=h;refine⟨_,h,λw=>?_⟩;rw[run_slice_string w t _ k k' i j hu (by omega) (by omega) (by rw[hsz];omega),Nv]
   case slice el esz=>
    cases hc:a.eval x<;>simp only[hc]at h
    case slice p len cap=>
     rcases p with _|⟨b,off,_|sp⟩
     ·simp only at h;have hu0:P.underlying t=some (.slice el):=hok.1;have hel:P.elem t=el:=by simp[Program.elem,hu0]
      have hu:P.underlying t=some (.slice (P.elem t)):=by rw[hel];exact hu0
      have hsz: ∀w,(sizeOf (P.elem t)).run P w= .ok esz w:=λw=>by
       rw[hel];have:=hok.2;cases hinf:P.info? el with
       |none=>rw[hinf]at this;simp at this
       |some inf=>rw[hinf]at this;simp at this;simp[sizeOf,typeInfo,hinf,this]
      suffices hs: ∃v,K v∧ ∀w,(Instr.slice t (.slice none len cap) (lo.map a.eval) (hi.map a.eval) none).run P w= .ok v w from(by
       obtain⟨v,h1,h2⟩:=hs;exact⟨v,h1,λw _=>by simp[execOp,hc,run_sliceAt_slice w t _ _ _ _ hu,h2]⟩)
      have hA: ∀l:Nat,(if cap=l then(none:Option Addr)else(none:Option Addr).map (·.add (l*esz)))=none:=λl=>by split<;>rfl
      generalize lo.map a.eval=lo at h⊢;generalize hi.map a.eval=hi at h⊢;rcases lo with _|lo<;>rcases hi with _|hi
      ·simp only[NG]at h;refine⟨_,h,λw=>?_⟩;rw[run_slice_all w t _ len cap hu];simp only[hsz,Result.andThen_ok,sliced,hA,Nat.sub_zero]
      ·cases hi<;>simp only[NG]at h
       case none.some.int k j=>
        obtain⟨h0,h⟩:=h;refine⟨_,h,λw=>?_⟩;rw[run_slice_h w t _ len cap hu k j (by omega) (by omega)];simp only[hsz,Result.andThen_ok,sliced,hA,Nat.sub_zero]
      ·cases lo<;>simp only[NG]at h
       case some.none.int k i=>
        obtain⟨h0,h⟩:=h;refine⟨_,h,λw=>?_⟩;rw[run_slice_l w t _ len cap hu k i (by omega) (by omega)];simp only[hsz,Result.andThen_ok,sliced,hA]
      ·cases lo<;>cases hi<;>simp only[NG]at h
       case some.some.int.int k i k' j=>
        obtain⟨h0,h⟩:=h;refine⟨_,h,λw=>?_⟩;rw[run_slice_lh w t _ len cap hu k k' i j (by omega) (by omega) (by omega)];simp only[hsz,Result.andThen_ok,sliced,hA]
     rotate_left
     ·exact h.elim
     simp only at h;have hu0:P.underlying t=some (.slice el):=hok.1;have hel:P.elem t=el:=by simp[Program.elem,hu0]
     have hu:P.underlying t=some (.slice (P.elem t)):=by rw[hel];exact hu0
     have hsz: ∀w,(sizeOf (P.elem t)).run P w= .ok esz w:=λw=>by
      rw[hel];have:=hok.2;cases hinf:P.info? el with
      |none=>rw[hinf]at this;simp at this
      |some inf=>rw[hinf]at this;simp at this;simp[sizeOf,typeInfo,hinf,this]
     suffices hs: ∃v,K v∧ ∀w,(Instr.slice t (.slice (some ⟨b,off,none⟩) len cap) (lo.map a.eval) (hi.map a.eval) none).run P w= .ok v w from(by
      obtain⟨v,h1,h2⟩:=hs;exact⟨v,h1,λw _=>by simp[execOp,hc,run_sliceAt_slice w t _ _ _ _ hu,h2]⟩)
     have hA: ∀l:Nat,(if cap=l then some (⟨b,off,none⟩:Addr)else(some (⟨b,off,none⟩:Addr)).map (·.add (l*esz)))=CV b off l cap esz:=λl=>by
      unfold CV;simp only[Option.map_some,Addr.add_eq];split<;>rfl
     generalize lo.map a.eval=lo at h⊢;generalize hi.map a.eval=hi at h⊢;rcases lo with _|lo<;>rcases hi with _|hi
     ·simp only[NH]at h;refine⟨_,h,λw=>?_⟩;rw[run_slice_all w t _ len cap hu];simp only[hsz,Result.andThen_ok,sliced,hA,Nat.sub_zero,YL]
     ·cases hi<;>simp only[NH]at h
      case none.some.int k j=>
       obtain⟨h0,h⟩:=h;refine⟨_,h,λw=>?_⟩;rw[run_slice_h w t _ len cap hu k j (by omega) (by omega)];simp only[hsz,Result.andThen_ok,sliced,hA,Nat.sub_zero,YL]
     ·cases lo<;>simp only[NH]at h
      case some.none.int k i=>
       obtain⟨h0,h⟩:=h;refine⟨_,h,λw=>?_⟩;rw[run_slice_l w t _ len cap hu k i (by omega) (by omega)];simp only[hsz,Result.andThen_ok,sliced,hA]
     ·cases lo<;>cases hi<;>simp only[NH]at h
      case some.some.int.int k i k' j=>
       obtain⟨h0,h⟩:=h;refine⟨_,h,λw=>?_⟩;rw[run_slice_lh w t _ len cap hu k k' i j (by omega) (by omega) (by omega)];simp only[hsz,Result.andThen_ok,sliced,hA]
 case lookup t m k ok=>
  obtain⟨v,h1,h2⟩:=(BT hr (BT hr h)).out;exact⟨v,h2,λw hw=>by simp[execOp,h1 w hw]⟩
 case field t x f=>
  obtain⟨v,h1,h2⟩:=(BT hr h).out;exact⟨v,h2,λw hw=>by simp[execOp,h1 w hw]⟩
 case convert sT dT x=>
  obtain⟨v,h1,h2⟩:=(BT hr h).out;exact⟨v,h2,λw hw=>by simp[execOp,h1 w hw]⟩
 case build t parts=>
  obtain⟨i,hi,h⟩:=(FY _ _ _).1 h;have h:=Ri hr (Ke h);have hok:=(hT _ _ hi);have hp:(parts.map λ(i,x)=>(i,a.eval x)).toList=parts.toList.map λ(i,x)=>(i,a.eval x):=by simp
  cases hinf:P.info? t with
  |none=>have:=hok.1;rw[hinf]at this;simp at this
  |some inf=>
   have hz:inf.zero=some i.zero:=by have:=hok.1;rw[hinf]at this;simp at this;exact this.1
   have hok2:=hok.2;cases hk:i.k<;>simp only[hk]at h hok2
   case struct fs=>
    obtain⟨cs,h1,h2⟩:=OL _ _ _ _ h;obtain⟨d,hd,hm⟩:=hok2;refine⟨_,h2,λw _=>?_⟩;have hb:P.built t (parts.map λ(i,x)=>(i,a.eval x)).toList=some ⟨cs⟩:=by
     rw[hp];unfold Program.built;simp only[hinf,hd,hz,XP P d.toList fs hm];simpa using h1
    simp[execOp,run_build w t _ _ hb]
   case arr n e esz=>
    obtain⟨cs,h1,h2⟩:=OL _ _ _ _ h;refine⟨_,h2,λw _=>?_⟩;have hie:=hok2.2;cases hinf2:P.info? e with
    |none=>rw[hinf2]at hie;simp at hie
    |some ie=>
     have hs:ie.size=esz:=by rw[hinf2]at hie;simpa using hie
     have hb:P.built t (parts.map λ(i,x)=>(i,a.eval x)).toList=some ⟨cs⟩:=by
      rw[hp];unfold Program.built;simp only[hinf,hok2.1,hz,hinf2,hs];simpa using h1
     simp[execOp,run_build w t _ _ hb]
 case call c=>
  obtain⟨callee,args,argTypes⟩:=c;cases callee with
  |value=>exact h.elim
  |invoke=>exact h.elim
  |builtin b=>
   obtain⟨v,h1,h2⟩:=bP (cs:=args.map λ | .const _=>true|_=>false) hT (IG hr h);refine⟨v,h1,λw hw=>?_⟩;have:=h2 w hw;have e2:(⟨List.map a.eval args.toList⟩:Array Value)=args.map a.eval:=by rw[←Array.toList_map]
   rw[e2]at this;simp only[execOp,resolve,invoke,Sem.run_bind,Sem.run_pure,Result.andThen_ok];exact this
/-! ## Operations that change memory,and calls-/
structure Ib(w:World)(o:Obj)(K:Nat→World→Prop):Prop where
 out:K w.heap.size (w.alloc o)
structure IA(w:World)(b off:Nat)(vs:List Value)(K:World→Prop):Prop where
 out: ∃l t fz,w.heap[b]?=some (.cells ⟨l⟩ t fz)∧(fz.2≤off∨off+vs.length≤fz.1)∧off+vs.length≤l.length∧(∀v∈vs,v.oneCell'=true)∧K (w.setRow b ⟨En l off vs⟩)
theorem Xy(P:Program)(g o:Nat)(t:TypeId)(fz:Nat×Nat): ∀(vs:List Value)(i:Nat)(cur:Array Value)(w:World),w.heap[g]?=some (.cells cur t fz)→(fz.2≤o+i∨o+i+vs.length≤fz.1)→o+i+vs.length≤cur.size→(∀v∈vs,v.oneCell'=true)→
  (storeCells ⟨g,o,none⟩ vs i).run P w= .ok () (w.setRow g (cur.toList.take (o+i)++vs++cur.toList.drop (o+i+vs.length)).toArray)
 |[],i,cur,w,hg,_,_,_=>by
  simp only[storeCells,List.append_nil,List.length_nil,Nat.add_zero,List.take_append_drop,Array.toArray_toList];rw[setRow_self w g cur t fz hg]
  rfl
 |v::rest,i,cur,w,hg,hfz,hl,h1=>by
  have hi:o+i<cur.size:=by simp at hl;omega
  have hadd:(⟨g,o,none⟩:Addr).add i=⟨g,o+i,none⟩:=by unfold Addr.add;split<;>simp_all
  have hcell:w.cell? ⟨g,o+i,none⟩=some cur[o+i]:=by simp[World.cell?,hg,hi]
  simp only[List.length_cons]at hfz hl;have hfro:w.frozen? ⟨g,o+i,none⟩=false:=by
   obtain⟨lo,hi'⟩:=fz;simp only[World.frozen?,hg,Bool.and_eq_false_iff,decide_eq_false_iff_not];simp only at hfz;omega
  have hst:(store ((⟨g,o,none⟩:Addr).add i) v).run P w= .ok () (w.setRow g (cur.setIfInBounds (o+i) v)):=by
   rw[hadd,run_store P w _ v _ (h1 v (by simp)),hcell];simp[hfro,setCell_eq_setRow w g (o+i) cur t fz v hg]
  have ih:=Xy P g o t fz rest (i+1) (cur.setIfInBounds (o+i) v) (w.setRow g (cur.setIfInBounds (o+i) v)) (setRow_heap w g cur _ t _ hg) (by omega) (by simp at hl⊢;omega) (λx hx=>h1 x (by simp[hx]));simp only[storeCells,Sem.run_bind,hst,Result.andThen_ok,ih,setRow_setRow]
  congr 3
  have e:=list_seg_step cur.toList (o+i) v rest (by simp at hl⊢;omega);simpa[Array.toList_setIfInBounds,Nat.add_assoc]using e
def Jf:Nat→List Value→List Value
 |0,_=>[]
 |n+1,z=>z++Jf n z
def Kr:List Value→(List Value→Prop)→Prop
 |[],K=>K []
 |x::t,K=>Kr t λr=>K (x::r)
theorem Mj: ∀(l:List Value)(K:List Value→Prop),Kr l K↔K l
 |[],_=>Iff.rfl
 |_::t,_=>Mj t _
def Sf(P:Program)(vf:Value)(vs:List Value)(w:World)(K:Value→World→Prop):Prop:=
 match vf with
 |.func (.func f) ⟨[]⟩ ⟨[]⟩=>Cl P f vs w K
 |.func (.func f) ⟨first⟩ ⟨cap⟩=>Cl P f (first++vs++cap) w K
 |_=>False
structure ZQ(P:Program)(t:TypeId)(x:Value)(name:String)(vs:List Value)(w:World)(K:Value→World→Prop):Prop where
 out: ∃f r,(method (P.types.size+Made.depth) t x name).run P w= .ok (f,r) w∧Cl P f (r::vs) w K
def Ua(P:Program)(b:Builtin)(ts:List TypeId)(ty:TypeId)(vs:List Value)(w:World)(K:Value→World→Prop):Prop:=
 match b with
 |.append=>Bk P (Builtin.append_ ⟨ts⟩ ty ⟨vs⟩) w K
 |.copy=>Bk P (Builtin.copy_ ⟨ts⟩ ty ⟨vs⟩) w K
 |.delete=>Bk P (Builtin.delete_ ⟨ts⟩ ty ⟨vs⟩) w K
 |.clear=>Bk P (Builtin.clear_ ⟨ts⟩ ty ⟨vs⟩) w K
 |.unsafeSliceData=>Bk P (Builtin.unsafeSliceData_ ⟨ts⟩ ty ⟨vs⟩) w K
 |.unsafeString=>Bk P (Builtin.unsafeString_ ⟨ts⟩ ty ⟨vs⟩) w K
 |_=>False
def Ma(P:Program)(T:BO)(e:AZ)(o:Oper)(w:World)(K:Value→World→Prop):Prop:=
 match o.op with
 |.alloc t=>tK T t λi=>Js i.zero λl=>Ib w (.cells ⟨l⟩ t) λb w'=>K (.pointer (some ⟨b,0,none⟩)) w'
 |.box t x=>BK e x λv=>Js v λl=>Ib w (.cells ⟨l⟩ t) λb w'=>K (.pointer (some ⟨b,0,none⟩)) w'
 |.buildSlice t len parts=>tK T t λi=>match i.k with
  |.slice el esz=>tK T el λie=>Js ie.zero λz=>Ov e parts.toList λps=>match Nat.beq z.length esz,Nat.ble (len*esz) 16777216 with
   |true,true=>Kp (λn=>some (n*esz,esz)) (Jf len z) ps λcs=>Kr cs λcs=>Ib w (.cells ⟨cs⟩ el) λb w'=>K (.slice (some ⟨b,0,none⟩) len len) w'
   |_,_=>False
  |_=>False
 |.store t x y=>tK T t λi=>BK e x λa=>BK e y λv=>match a with
  |.pointer (some ⟨b,off,none⟩)=>Js v λvs=>(match Nat.beq vs.length i.size with|true=>IA w b off vs λw'=>K undef w'|false=>False)
  |_=>False
 |.makeMap _ none=>Ib w (.map #[] 0) λb w'=>K (.map (some b)) w'
 |.makeMap t (some r)=>tK T t λi=>match i.k with
  |.map _ _=>BK e r λv=>(match v with| .int _ _=>Ib w (.map #[] 0) λb w'=>K (.map (some b)) w'|_=>False)
  |_=>False
 |.makeSlice t l c=>BK e l λl=>BK e c λc=>Bk P (Instr.makeSlice t l c) w K
 |.mapUpdate t m k x=>BK e m λm=>BK e k λk=>BK e x λx=>Bk P (Instr.mapUpdate t m k x) w λ_ w'=>K undef w'
 |.insert t m k x=>BK e m λm=>BK e k λk=>BK e x λx=>Bk P (Instr.mapUpdate t m k x) w λ_ w'=>K undef w'
 |.mapEntry t m k=>BK e m λm=>BK e k λk=>Bk P (Instr.mapEntry t m k) w K
 |.entryStore t m s x=>BK e m λm=>BK e s λs=>BK e x λx=>Bk P (Instr.entryStore t m s x) w λ_ w'=>K undef w'
 |.convert s d x=>BK e x λx=>Bk P (convert s d x) w K
 |.range t x=>BK e x λx=>Bk P (Instr.range t x) w K
 |.next it s=>BK e it λit=>Bk P (Instr.next it s o.type) w K
 |.entry it=>BK e it λit=>Bk P (Instr.entry it) w K
 |.makeFunc fn first captured=>Hk e first.toList λf1=>Hk e captured.toList λc1=>Bk P (Instr.makeFunc fn ⟨f1⟩ ⟨c1⟩) w K
 |.typeAssert x s d ok=>BK e x λx=>Bk P (Instr.typeAssert x s d ok) w K
 |.call {callee:= .invoke x name,args,.. }=>BK e x λv=>Hk e args.toList λvs=>match v with| .iface t u=>ZQ P t u name vs w K|_=>False
 |.call {callee:= .value f,args,.. }=>BK e f λvf=>Hk e args.toList λvs=>Sf P vf vs w K
 |.call {callee:= .builtin b,args,argTypes}=>Hk e args.toList λvs=>Ua P b argTypes.toList o.type vs w K
 |_=>False
theorem wM(z:List Value): ∀n,n*z.length=0∨(Array.range (n*z.length)).map (λi=>(⟨z⟩:Array Value)[i % z.length]!)=⟨Jf n z⟩:=by
 intro n;by_cases hz:n*z.length=0
 ·exact .inl hz
 refine .inr ?_;have hpos:0<z.length:=by
  rcases Nat.eq_zero_or_pos z.length with h|h
  ·rw[h]at hz;simp at hz
  ·exact h
 apply Array.ext';simp only[Array.toList_map,Array.toList_range];clear hz
 induction n with
 |zero=>simp[Jf]
 |succ n ih=>
  rw[show(n+1)*z.length=z.length+n*z.length by rw[Nat.add_mul];omega];rw[List.range_add,List.map_append,List.map_map];show _=z++Jf n z
  congr 1
  ·apply List.ext_getElem (by simp);intro i h1 h2;simp at h1 h2;simp[Nat.mod_eq_of_lt h1,h1]
  ·rw[←ih];apply List.map_congr_left;intro i _;simp[Function.comp]
theorem Oper.wp_value{P:Program}{o:Oper}{a:Act}{w w':World}{next:Act→World→Prop}{Q:Exit→Act→World→Prop}{v:Value}
  (h:(execOp a.eval o).run P w= .ok (.value v) w')(hn:next (a.put o.dst v) w'):o.wp P a w next Q:=by
 unfold Oper.wp;rw[h];exact hn
theorem Oper.wp_skip{P:Program}{o:Oper}{a:Act}{w w':World}{next:Act→World→Prop}{Q:Exit→Act→World→Prop}
  (h:(execOp a.eval o).run P w= .ok .skip w')(hn:next (a.put o.dst undef) w'):o.wp P a w next Q:=by
 unfold Oper.wp;rw[h];exact hn
theorem QN{P:Program}{T:BO}(hT:BX P T){N:Nat}{e:AZ}{a:Act}(hr:BS ds N e a){o:Oper}{w:World}{K:Value→World→Prop}(h:Ma P T e o w K)
  {next:Act→World→Prop}{Q:Exit→Act→World→Prop}(hn: ∀v w',K v w'→next (a.put o.dst v) w'):o.wp P a w next Q:=by
 obtain⟨dst,op,ty,pos,after,guard⟩:=o;cases op<;>simp only[Ma]at h
 case alloc t=>
  obtain⟨i,hi,h⟩:=(FY _ _ _).1 h;have h:=Ke h;exact Oper.wp_value (by simp[execOp,Instr.alloc,PO hT hi,newVar,newRow]) (hn _ _ h.out)
 case box t x=>
  have h:=Ke (BT hr h);exact Oper.wp_value (by simp[execOp,Instr.box,newVar,newRow]) (hn _ _ h.out)
 case buildSlice t len parts=>
  obtain⟨i,hi,h⟩:=(FY _ _ _).1 h;have hok:=(hT _ _ hi).2;cases hk:i.k<;>simp only[hk]at h hok
  case slice el esz=>
   obtain⟨ie,hie,h⟩:=(FY _ _ _).1 h;have h:=Ri hr (Ke h);cases h1:Nat.beq ie.zero.cells.toList.length esz<;>cases h2:Nat.ble (len*esz) 16777216<;>simp only[h1,h2]at h;obtain⟨cs,h3,h4⟩:=OL _ _ _ _ h;have h4:=(Mj _ _).1 h4;have hz:=Nat.eq_of_beq_eq_true h1;have hb:=Nat.le_of_ble_eq_true h2;have hsz: ∀w,(sizeOf el).run P w= .ok esz w:=λw=>by
    have:=hok.2;cases hinf:P.info? el with
    |none=>rw[hinf]at this;simp at this
    |some inf=>rw[hinf]at this;simp at this;simp[sizeOf,typeInfo,hinf,this]
   refine Oper.wp_value ?_ (hn _ _ h4.out);have hp:(parts.map λ(i,x)=>(i,a.eval x)).toList=parts.toList.map λ(i,x)=>(i,a.eval x):=by simp
   have hfill:Instr.fill (λn=>some (n*esz,esz)) ((Array.range (len*esz)).map (λi=>(if len*esz=0 then(#[]:Array Value)else ie.zero.cells)[i % (if len*esz=0 then(#[]:Array Value)else ie.zero.cells).size]!)) ((parts.map λ(i,x)=>(i,a.eval x)).toList)=some ⟨cs⟩:=by
    rw[hp,←h3]
    congr 1
    by_cases h0:len*esz=0
    ·simp only[h0,if_true];rcases Nat.mul_eq_zero.1 h0 with h|h
     ·subst h;simp[Jf]
     ·have hl:ie.zero.cells.toList=[]:=by rw[←List.length_eq_zero_iff];omega
      have: ∀n,Jf n ie.zero.cells.toList=[]:=λn=>by rw[hl];induction n with|zero=>rfl|succ n ih=>simpa[Jf]using ih
      simp[this]
    ·simp only[h0,if_false];rcases wM ie.zero.cells.toList len with h|h
     ·rw[hz]at h;exact absurd h h0
     ·rw[hz]at h;rw[←h];have hs2:ie.zero.cells.size=esz:=by simpa using hz
      simp[hs2]
   simp only[execOp,Instr.buildSlice,Sem.run_bind,run_underlying hok.1,Result.andThen_ok,hsz];rw[if_neg (by omega)];by_cases h0:len*esz=0
   ·simp only[h0,if_true]at hfill;simp only[h0,if_true,Sem.run_bind,Sem.run_pure,Result.andThen_ok,hfill,newRow,run_newObj_alloc]
   ·simp only[h0,if_false]at hfill;simp only[h0,if_false,Sem.run_bind,Sem.run_pure,Result.andThen_ok,PO hT hie,hfill,newRow,run_newObj_alloc]
 case store t x y=>
  obtain⟨i,hi,h⟩:=(FY _ _ _).1 h;have h:=BT hr (BT hr h);cases hc:a.eval x<;>simp only[hc]at h
  case pointer p=>
   rcases p with _|⟨b,off,_|sp⟩
   ·exact h.elim
   rotate_left
   ·exact h.elim
   simp only at h;have h:=Ke h;cases h1:Nat.beq (a.eval y).cells.toList.length i.size<;>simp only[h1]at h;obtain⟨l,t',fz,h2,hfz,h3,h4,h5⟩:=h.out;have hz:=Nat.eq_of_beq_eq_true h1;have:=Xy P b off t' fz (a.eval y).cells.toList 0 ⟨l⟩ w h2 (by simpa using hfz) (by simpa using h3) h4;refine Oper.wp_skip ?_ (hn _ _ h5);have hz2:(a.eval y).cells.size=i.size:=by simpa using hz
   simp only[execOp,hc,Instr.storeAt,Instr.sureAddr,storeVar,Sem.run_bind,Sem.run_pure,Result.andThen_ok,O8 hT hi,hz2];simp only[ne_eq,not_true_eq_false,if_false];rw[this];simp only[Result.andThen_ok,En,Nat.add_zero]
 case makeMap t r=>
  cases r with
  |none=>exact Oper.wp_value (by simp[execOp,Instr.makeMap]) (hn _ _ (Ib.out h))
  |some r=>
   obtain⟨i,hi,h⟩:=(FY _ _ _).1 h;have hok:=(hT _ _ hi).2;cases hk:i.k<;>simp only[hk]at h hok
   case map k e'=>
    have h:=BT hr h;cases hc:a.eval r<;>simp only[hc]at h;exact Oper.wp_value (by simp[execOp,Instr.makeMap,hc,run_underlying (show P.underlying t=some (.map k e')from hok),asInt,asIntOf]) (hn _ _ (Ib.out h))
 case makeSlice t l c=>
  obtain⟨v,w',h1,h2⟩:=(BT hr (BT hr h)).out;exact Oper.wp_value (by simp[execOp,h1]) (hn _ _ h2)
 case mapUpdate t m k x=>
  obtain⟨v,w',h1,h2⟩:=(BT hr (BT hr (BT hr h))).out;exact Oper.wp_skip (by simp[execOp,h1]) (hn _ _ h2)
 case insert t m k x=>
  obtain⟨v,w',h1,h2⟩:=(BT hr (BT hr (BT hr h))).out;exact Oper.wp_skip (by simp[execOp,h1]) (hn _ _ h2)
 case mapEntry t m k=>
  obtain⟨v,w',h1,h2⟩:=(BT hr (BT hr h)).out;exact Oper.wp_value (by simp[execOp,h1]) (hn _ _ h2)
 case entryStore t m s x=>
  obtain⟨v,w',h1,h2⟩:=(BT hr (BT hr (BT hr h))).out;exact Oper.wp_skip (by simp[execOp,h1]) (hn _ _ h2)
 case convert s d x=>
  obtain⟨v,w',h1,h2⟩:=(BT hr h).out;exact Oper.wp_value (by simp[execOp,h1]) (hn _ _ h2)
 case range t x=>
  obtain⟨v,w',h1,h2⟩:=(BT hr h).out;exact Oper.wp_value (by simp[execOp,h1]) (hn _ _ h2)
 case next it s=>
  obtain⟨v,w',h1,h2⟩:=(BT hr h).out;exact Oper.wp_value (by simp[execOp,h1]) (hn _ _ h2)
 case entry it=>
  obtain⟨v,w',h1,h2⟩:=(BT hr h).out;exact Oper.wp_value (by simp[execOp,h1]) (hn _ _ h2)
 case typeAssert x s d ok=>
  obtain⟨v,w',h1,h2⟩:=(BT hr h).out;exact Oper.wp_value (by simp[execOp,h1]) (hn _ _ h2)
 case makeFunc fn first captured=>
  obtain⟨v,w',h1,h2⟩:=(IG hr (IG hr h)).out;have e1:(⟨List.map a.eval first.toList⟩:Array Value)=first.map a.eval:=by rw[←Array.toList_map]
  have e2:(⟨List.map a.eval captured.toList⟩:Array Value)=captured.map a.eval:=by rw[←Array.toList_map]
  rw[e1,e2]at h1;exact Oper.wp_value (by simp[execOp,h1]) (hn _ _ h2)
 case call c=>
  obtain⟨callee,args,argTypes⟩:=c;have e2:(⟨List.map a.eval args.toList⟩:Array Value)=args.map a.eval:=by rw[←Array.toList_map]
  cases callee with
  |invoke x name=>
   have h:=IG hr (BT hr h);cases hx:a.eval x<;>simp only[hx]at h
   case iface t u=>
    obtain⟨f,r,h1,h⟩:=h.out;have harr:(#[r]:Array Value)++(#[Value.iface t u]++args.map a.eval).extract 1 (#[Value.iface t u]++args.map a.eval).size=⟨r::List.map a.eval args.toList⟩:=by
     have ext1: ∀{α:Type}(v:α)(A:Array α),(#[v]++A).extract 1 (#[v]++A).size=A:=λv A=>by
      obtain⟨l⟩:=A;simp[List.extract_toArray,List.extract]
     rw[ext1];apply Array.ext';simp
    have h0:(#[Value.iface t u]++args.map a.eval)[0]?=some (Value.iface t u):=by rw[Array.getElem?_append_left (by simp)];rfl
    unfold Oper.wp;simp only[execOp,resolve,hx,Sem.run_bind,Sem.run_pure,Result.andThen_ok,invoke,h0,callMethod];have hp:(Go.program).run P w= .ok P w:=rfl;simp only[hp,Result.andThen_ok,h1,harr];rcases h with⟨h1,h2⟩|⟨v,w',h1,h2⟩
    ·rw[h1];refine Calls.mono h2 λe' w''⟨v,he,hK⟩=>?_;subst he;exact hn _ _ hK
    ·rw[h1];exact hn _ _ h2
  |builtin b=>
   have h:=IG hr h;have key: ∀s:Sem Value,(∀cs,builtin b argTypes ty cs (args.map a.eval)=(do pure (.value (←s))))→Bk P s w K→Oper.wp P ⟨dst,.call ⟨.builtin b,args,argTypes⟩,ty,pos,after,guard⟩ a w next Q:=by
    intro s hs⟨v,w',h1,h2⟩;refine Oper.wp_value ?_ (hn _ _ h2);simp only[execOp,resolve,invoke,Sem.run_bind,Sem.run_pure,Result.andThen_ok];rw[hs];simp[h1]
   cases b<;>simp only[Ua]at h
   all_goals first|exact h.elim|(rw[e2]at h;exact key _ (λ_=>rfl) h)
  |value f=>
   have h:=IG hr (BT hr h);cases hf:a.eval f<;>simp only[hf,Sf]at h
   case func fn first cap=>
    obtain⟨first⟩:=first
    obtain⟨cap⟩:=cap;cases fn with
    |func g=>
     have h:Cl P g (first++List.map a.eval args.toList++cap) w K:=by
      cases first<;>cases cap<;>simpa using h
     have harr:(⟨first⟩:Array Value)++args.map a.eval++⟨cap⟩=⟨first++List.map a.eval args.toList++cap⟩:=by
      apply Array.ext';simp
     unfold Oper.wp;simp only[execOp,resolve,hf,Deferred.ofValue,Sem.run_bind,Sem.run_pure,Result.andThen_ok,invoke];rcases h with⟨h1,h2⟩|⟨v,w',h1,h2⟩
     ·rw[harr,h1];refine Calls.mono h2 λe' w''⟨v,he,hK⟩=>?_;subst he;exact hn _ _ hK
     ·rw[harr,h1];exact hn _ _ h2
    |_=>exact h.elim
/-! ## Statements-/
def Ek(N:Nat)(dst:Option Tmp)(v:Value)(e:AZ)(K:AZ→Prop):Prop:=
 match dst with
 |none=>K e
 |some d=>match Nat.ble (d+1) N with|true=>K ((d,v)::e)|false=>False
theorem El{N:Nat}{dst:Option Tmp}{v:Value}{e:AZ}{K:AZ→Prop}(h:Ek N dst v e K){a:Act}(hr:BS ds N e a): ∃e',BS ds N e' (a.put dst v)∧K e':=by
 cases dst with
 |none=>exact⟨e,hr,h⟩
 |some d=>
  simp only[Ek]at h;cases hb:Nat.ble (d+1) N<;>simp only[hb]at h;exact⟨_,hr.put (Nat.le_of_ble_eq_true hb) v,h⟩
def stepG(P:Program)(T:BO)(N:Nat)(e:AZ)(o:Oper)(w:World)(K:AZ→World→Prop):Prop:=
 match kind T o.op with
 |.pure=>LJ P T e o.op λv=>Ek N o.dst v e λe'=>K e' w
 |.read=>LN P T e (λw'=>w=w') o λv=>Ek N o.dst v e λe'=>K e' w
 |.eff=>Ma P T e o w λv w'=>Ek N o.dst v e λe'=>K e' w'
theorem YK{P:Program}{T:BO}(hT:BX P T){N:Nat}{e:AZ}{a:Act}(hr:BS ds N e a){o:Oper}{w:World}{K:AZ→World→Prop}(h:stepG P T N e o w K)
  {next:Act→World→Prop}{Q:Exit→Act→World→Prop}(hn: ∀e' a' w',K e' w'→BS ds N e' a'→next a' w'):o.wp P a w next Q:=by
 unfold stepG at h;cases hk:kind T o.op<;>simp only[hk]at h
 case pure=>
  obtain⟨v,h1,h2⟩:=NA hT hr h;obtain⟨e',h3,h4⟩:=El h1 hr;exact Oper.wp_value (h2 w) (hn _ _ _ h4 h3)
 case read=>
  obtain⟨v,h1,h2⟩:=O1 hT hr h;obtain⟨e',h3,h4⟩:=El h1 hr;exact Oper.wp_value (h2 w rfl) (hn _ _ _ h4 h3)
 case eff=>
  refine QN hT hr h λv w' hk=>?_;obtain⟨e',h3,h4⟩:=El hk hr;exact hn _ _ _ h4 h3
def OP:List Oper→Nat→(Tmp→Prop)→Prop
 |[],_,_=>False
 |o::_,0,K=>match o.dst with|some d=>K d|none=>False
 |_::t,n+1,K=>OP t n K
theorem Vi: ∀{all:List Oper}{j:Nat}{K:Tmp→Prop},OP all j K→ ∃o d,all[j]?=some o∧o.dst=some d∧K d
 |[],_,_,h=>h.elim
 |o::t,0,K,h=>by
  simp only[OP]at h;cases hd:o.dst with
  |none=>rw[hd]at h;exact h.elim
  |some d=>rw[hd]at h;exact⟨o,d,rfl,hd,h⟩
 |_::t,n+1,K,h=>by
  obtain⟨o,d,h1,h2,h3⟩:=Vi (all:=t) (j:=n) h;exact⟨o,d,by simpa using h1,h2,h3⟩
def Jx(all:List Oper)(g:Option (Nat×Bool))(e:AZ)(yes no:AZ→Prop):Prop:=
 match g with
 |none=>yes e
 |some (j,want)=>OP all j λd=>lk e d λv=>match v with
  |.bool b=>(match want with
   |true=>Ax b (yes ((d,.bool true)::e)) (no ((d,.bool false)::e))
   |false=>Ax b (no ((d,.bool true)::e)) (yes ((d,.bool false)::e)))
  |.tuple _=>no e
  |_=>False
theorem BS.again{N:Nat}{e:AZ}{a:Act}(h:BS ds N e a){d:Nat}{v:Value}(hd:FE e d=some v):BS ds N ((d,v)::e) a:=
 ⟨h.size,h.dz,λn u hu=>by
  rw[Ms]at hu;by_cases hdn:d=n
  ·subst hdn;simp at hu;subst hu;exact h.get _ _ hd
  ·rw[if_neg hdn]at hu;exact h.get n u hu⟩
theorem Ku{all:List Oper}{o:Oper}{e:AZ}{yes no:AZ→Prop}{N:Nat}{a:Act}(hr:BS ds N e a)(h:Jx all o.guard e yes no):
  (∃e',BS ds N e' a∧Region.wanted o (yielded all.toArray a.tmps)=true∧yes e')∨(∃e',BS ds N e' a∧Region.wanted o (yielded all.toArray a.tmps)=false∧no e'):=by
 unfold Jx at h;cases hg:o.guard with
 |none=>rw[hg]at h;exact .inl ⟨e,hr,by simp[Region.wanted,hg],h⟩
 |some p=>
  obtain⟨j,want⟩:=p;rw[hg]at h;obtain⟨oj,d,h1,h2,h3⟩:=Vi h;obtain⟨v,h4,h5⟩:=(IR _ _ _).1 h3;have hget:=hr.get d v h4;have hy:yielded all.toArray a.tmps j=match v with| .bool b=>some b|_=>none:=by
   unfold yielded;simp only[List.getElem?_toArray,h1,Option.bind_some,h2,hget];cases v<;>rfl
  cases v<;>simp only at h5
  case bool b=>
   cases want<;>cases b<;>simp only at h5
   ·exact .inl ⟨_,hr.again h4,by simp[Region.wanted,hg,hy],h5.f' rfl⟩
   ·exact .inr ⟨_,hr.again h4,by simp[Region.wanted,hg,hy],h5.t' rfl⟩
   ·exact .inr ⟨_,hr.again h4,by simp[Region.wanted,hg,hy],h5.f' rfl⟩
   ·exact .inl ⟨_,hr.again h4,by simp[Region.wanted,hg,hy],h5.t' rfl⟩
  case tuple vs=>exact .inr ⟨e,hr,by simp[Region.wanted,hg,hy],h5⟩
def NN(P:Program)(T:BO)(N:Nat)(all:List Oper):List Oper→AZ→World→(AZ→World→Prop)→Prop
 |[],e,w,K=>K e w
 |o::r,e,w,K=>Jx all o.guard e (λe=>stepG P T N e o w λe' w'=>NN P T N all r e' w' K) (λe=>Ek N o.dst undef e λe'=>NN P T N all r e' w K)
theorem SZ{P:Program}{T:BO}(hT:BX P T){N:Nat}{all:List Oper}{Q:Exit→Act→World→Prop}{K:AZ→World→Prop}
  (hK: ∀e' a' w',K e' w'→BS ds N e' a'→Q .normal a' w'): ∀(r:List Oper)(e:AZ)(a:Act)(w:World),BS ds N e a→NN P T N all r e w K→wpList P all.toArray Q r a w
 |[],e,a,w,hr,h=>hK _ _ _ h hr
 |o::r,e,a,w,hr,h=>by
  simp only[NN]at h;unfold wpList;rcases Ku hr h with⟨e',h1,h2,h3⟩|⟨e',h1,h2,h3⟩
  ·rw[if_pos h2];exact .inl (YK hT h1 h3 λe' a' w' hv hr'=>SZ hT hK r _ _ _ hr' hv)
  ·rw[if_neg (by rw[h2];simp)];obtain⟨e'',h4,h5⟩:=El h3 h1;exact SZ hT hK r _ _ _ h4 h5
def J8(N:Nat)(Q:Exit→AZ→World→Prop):Exit→Act→World→Prop
 |.panic _,_,_=>False
 |.outgrown,_,_=>False
 |x,a,w=>∃e,BS [] N e a∧Q x e w
def AL(P:Program)(N:Nat)(c:Code)(Q:Exit→AZ→World→Prop)(e:AZ)(w:World):Prop:=∀a,BS [] N e a→c.wp P (J8 N Q) a w
theorem AL.mono{P:Program}{N:Nat}{c:Code}{Q Q':Exit→AZ→World→Prop}{e:AZ}{w:World}(h:AL P N c Q e w)(hq: ∀x e w,Q x e w→Q' x e w):AL P N c Q' e w:=
 λa hr=>Code.wp_mono (λx a w hl=>by
  cases x<;>first|exact hl|(obtain⟨e,h1,h2⟩:=hl;exact⟨e,h1,hq _ _ _ h2⟩)) (h a hr)
def Gt(K:AZ→World→Prop)(Q:Exit→AZ→World→Prop):Exit→AZ→World→Prop
 |.normal,e,w=>K e w
 |x,e,w=>Q x e w
def JN(id:Nat)(Q:Exit→AZ→World→Prop):Exit→AZ→World→Prop
 |.exit id',e,w=>(match Nat.beq id' id with|true=>Q .normal e w|false=>Q (.exit id') e w)
 |x,e,w=>Q x e w
theorem AL.seq{P:Program}{N:Nat}{x y:Code}{Q:Exit→AZ→World→Prop}{e:AZ}{w:World}(h:AL P N x (Gt (AL P N y Q) Q) e w):AL P N (.seq x y) Q e w:=by
 intro a hr;refine wp_seq (Code.wp_mono (λx a w hl=>?_) (h a hr));cases x
 case normal=>obtain⟨e,h1,h2⟩:=hl;exact h2 a h1
 all_goals exact hl
theorem AL.block{P:Program}{N:Nat}{id:Nat}{c:Code}{Q:Exit→AZ→World→Prop}{e:AZ}{w:World}(h:AL P N c (JN id Q) e w):AL P N (.block id c) Q e w:=by
 intro a hr;refine wp_block (Code.wp_mono (λx a w hl=>?_) (h a hr));cases x
 case exit id'=>
  obtain⟨e,h1,h2⟩:=hl;simp only[JN]at h2;simp only[Exit.inBlock];cases hb:Nat.beq id' id with
  |true=>rw[hb]at h2;rw[if_pos (Nat.eq_of_beq_eq_true hb)];exact⟨e,h1,h2⟩
  |false=>
   rw[hb]at h2;rw[if_neg (by intro he;subst he;simp at hb)];exact⟨e,h1,h2⟩
 all_goals exact hl
theorem AL.cond{P:Program}{N:Nat}{c:Operand}{x y:Code}{Q:Exit→AZ→World→Prop}{e:AZ}{w:World}
  (h:BK e c λv=>match v with| .bool t=>Ax t (AL P N x Q e w) (AL P N y Q e w)|_=>False):AL P N (.cond c x y) Q e w:=by
 intro a hr;have h:=BT hr h;cases hc:a.eval c<;>simp only[hc]at h
 case bool t=>exact wp_cond_split hc (λht=>h.t' ht a hr) (λhf=>h.f' hf a hr)
structure JI(P:Program)(N:Nat)(c:Code)(Q:Exit→AZ→World→Prop)(e:AZ)(w:World):Prop where
 out:AL P N c Q e w
def vc(P:Program)(T:BO)(N:Nat):Code→(Exit→AZ→World→Prop)→AZ→World→Prop
 |.skip,Q,e,w=>Q .normal e w
 |.ret,Q,e,w=>Q .ret e w
 |.exit id,Q,e,w=>Q (.exit id) e w
 |.region _ ops false,Q,e,w=>NN P T N ops.toList ops.toList e w λe' w'=>Q .normal e' w'
 |.seq a b,Q,e,w=>vc P T N a (Gt (AL P N b Q) Q) e w
 |.cond c a b,Q,e,w=>BK e c λv=>match v with| .bool t=>Ax t (vc P T N a Q e w) (vc P T N b Q e w)|_=>False
 |.block id c,Q,e,w=>vc P T N c (JN id Q) e w
 |c,Q,e,w=>JI P N c Q e w
theorem KQ{P:Program}{T:BO}(hT:BX P T){N:Nat}: ∀(c:Code)(Q:Exit→AZ→World→Prop)(e:AZ)(w:World),vc P T N c Q e w→AL P N c Q e w
 |.skip,Q,e,w,h=>λa hr=>wp_skip ⟨e,hr,h⟩
 |.ret,Q,e,w,h=>λa hr=>wp_ret ⟨e,hr,h⟩
 |.exit id,Q,e,w,h=>λa hr=>wp_exit ⟨e,hr,h⟩
 |.region id ops false,Q,e,w,h=>λa hr=>by
  obtain⟨ops⟩:=ops;exact wp_region_lit (SZ hT (λe' a' w' hk hr'=>⟨e',hr',hk⟩) _ _ _ _ hr h)
 |.seq a b,Q,e,w,h=>AL.seq (KQ hT a _ e w h)
 |.cond c a b,Q,e,w,h=>AL.cond (by
   simp only[vc]at h;cases c with
   |tmp n=>
    obtain⟨v,h1,h2⟩:=(IR _ _ _).1 h;refine(IR _ _ _).2 ⟨v,h1,?_⟩;cases v<;>first|exact h2|exact⟨λht=>KQ hT a _ e w (h2.t' ht),λhf=>KQ hT b _ e w (h2.f' hf)⟩
   |const v=>cases v<;>first|exact h|exact⟨λht=>KQ hT a _ e w (h.t' ht),λhf=>KQ hT b _ e w (h.f' hf)⟩
   |global g=>exact h
   |func f=>exact h)
 |.block id c,Q,e,w,h=>AL.block (KQ hT c _ e w h)
 |.region id ops true,Q,e,w,h=>h.out
 |.loop c,Q,e,w,h=>h.out
 |.rangeFunc ..,Q,e,w,h=>h.out
 |.scope c,Q,e,w,h=>h.out
 |.label l,Q,e,w,h=>h.out
 |.goto l,Q,e,w,h=>h.out
 |.refuse s,Q,e,w,h=>h.out
theorem AL.run{P:Program}{T:BO}(hT:BX P T){N:Nat}{c:Code}{Q:Exit→AZ→World→Prop}{e:AZ}{w:World}(h:vc P T N c Q e w):AL P N c Q e w:=KQ hT c Q e w h
def R6:AZ→List Nat→(AZ→Prop)→Prop
 |_,[],K=>K []
 |e,n::ns,K=>lk e n λv=>R6 e ns λr=>K ((n,v)::r)
theorem X7: ∀{ns:List Nat}{e:AZ}{K:AZ→Prop},R6 e ns K→ ∃e',(∀n v,FE e' n=some v→FE e n=some v)∧K e'
 |[],e,K,h=>⟨[],λn v hv=>by simp[FE]at hv,h⟩
 |n::ns,e,K,h=>by
  obtain⟨v,h1,h2⟩:=(IR _ _ _).1 h;obtain⟨e',h3,h4⟩:=X7 h2;refine⟨(n,v)::e',λm u hu=>?_,h4⟩;rw[Ms]at hu;by_cases hnm:n=m
  ·subst hnm;simp at hu;subst hu;exact h1
  ·rw[if_neg hnm]at hu;exact h3 m u hu
theorem BS.sub{N:Nat}{e e':AZ}{a:Act}(h:BS ds N e a)(hs: ∀n v,FE e' n=some v→FE e n=some v):BS ds N e' a:=⟨h.size,h.dz,λn v hv=>h.get n v (hs n v hv)⟩
theorem AL.keep{P:Program}{N:Nat}{c:Code}{Q:Exit→AZ→World→Prop}{e:AZ}{w:World}(ns:List Nat)(h:R6 e ns λe'=>AL P N c Q e' w):AL P N c Q e w:=by
 obtain⟨e',h1,h2⟩:=X7 h
 exactλa hr=>h2 a (hr.sub h1)
def I9:AZ→AZ→Prop
 |[],_=>True
 |(n,v)::t,e=>lk e n (λu=>u=v)∧I9 t e
theorem LU: ∀{e' e:AZ},I9 e' e→ ∀n v,FE e' n=some v→FE e n=some v
 |[],e,_,n,v,hv=>by simp[FE]at hv
 |(k,u)::t,e,h,n,v,hv=>by
  obtain⟨h1,h2⟩:=h;obtain⟨x,h3,h4⟩:=(IR _ _ _).1 h1;rw[Ms]at hv;by_cases hkn:k=n
  ·subst hkn;simp at hv;subst hv;subst h4;exact h3
  ·rw[if_neg hkn]at hv;exact LU h2 n v hv
theorem AL.weaken{P:Program}{N:Nat}{c:Code}{Q:Exit→AZ→World→Prop}{e e':AZ}{w:World}(hs:I9 e' e)(h:AL P N c Q e' w):AL P N c Q e w:=
 λa hr=>h a (hr.sub (LU hs))
theorem AL.loop{P:Program}{N:Nat}{c:Code}{Q:Exit→AZ→World→Prop}{e:AZ}{w:World}{ι:Type}(I:ι→AZ)(J:ι→World→Prop)(μ:ι→Nat)(i0:ι)
  (hs:I9 (I i0) e)(hJ:J i0 w)
  (round: ∀i w,J i w→AL P N c (Gt (λe' w'=>∃i',I9 (I i') e'∧J i' w'∧μ i'<μ i) Q) (I i) w):JI P N (.loop c) Q e w:=by
 refine⟨?_⟩;intro a hr b k cs;have key: ∀n i a w,μ i=n→BS [] N (I i) a→J i w→
   ∃x a' w',J8 N Q x a' w'∧Arrives P (lone (b.at a (.code c:: .inLoop c::k)) cs w) b k cs x a' w':=by
  intro n
  induction n using Nat.strongRecOn with
  |_ n ih=>
   intro i a w hn hr hJ;obtain⟨x,a₁,w₁,hq,harr⟩:=round i w hJ a hr b (.inLoop c::k) cs;cases x with
   |normal=>
    obtain⟨e',hr',i',hs',hJ',hlt⟩:=hq;obtain⟨e₂,a₂,w₂,hq₂,harr₂⟩:=ih (μ i') (hn▸hlt) i' a₁ w₁ rfl (hr'.sub (LU hs')) hJ';exact⟨e₂,a₂,w₂,hq₂,.of_steps (Steps.trans harr (.one step_inLoop)) harr₂⟩
   |exit id=>exact⟨.exit id,a₁,w₁,hq,.pass (x:= .inLoop c) rfl (λ_ _=> .inl (by simp)) harr⟩
   |goto l=>exact⟨.goto l,a₁,w₁,hq,.pass (x:= .inLoop c) rfl (λ_ _=> .inl (by simp)) harr⟩
   |ret=>exact⟨.ret,a₁,w₁,hq,.pass (x:= .inLoop c) rfl (λ_ _=> .inl (by simp)) harr⟩
   |panic ch=>exact hq.elim
   |outgrown=>exact hq.elim
 obtain⟨x,a',w',hq,harr⟩:=key _ i0 a w rfl (hr.sub (LU hs)) hJ;exact⟨x,a',w',hq,.of_steps (.one step_loop) harr⟩
theorem AL.join{P:Program}{N:Nat}{x y:Code}{Q:Exit→AZ→World→Prop}{e:AZ}{w:World}{ι:Type}(I:ι→AZ)(J:ι→World→Prop)
  (hx:AL P N x (Gt (λe' w'=>∃i,I9 (I i) e'∧J i w') Q) e w)(hy: ∀i w',J i w'→AL P N y Q (I i) w'):AL P N (.seq x y) Q e w:=
 AL.seq (hx.mono λex e w h=>by
  cases ex
  case normal=>obtain⟨i,h1,h2⟩:=h;exact AL.weaken h1 (hy i w h2)
  all_goals exact h)
/-! ## A function-/
def HG:Nat→List Value→AZ
 |_,[]=>[]
 |n,v::vs=>(n,v)::HG (n+1) vs
theorem Py: ∀(args:List Value)(k n:Nat)(v:Value),FE (HG k args) n=some v→k≤n∧args[n-k]?=some v
 |[],k,n,v,h=>by simp[HG,FE]at h
 |x::xs,k,n,v,h=>by
  simp only[HG]at h;rw[Ms]at h;by_cases hk:k=n
  ·subst hk;simp at h;subst h;simp
  ·rw[if_neg hk]at h;obtain⟨h1,h2⟩:=Py xs (k+1) n v h;exact⟨by omega,by rw[show n-k=(n-(k+1))+1 by omega];simpa using h2⟩
def IW(T:BO)(e:AZ)(w:World):List ResultVar→(List Value→Prop)→Prop
 |[],K=>K []
 |.tmp t::rs,K=>lk e t λv=>IW T e w rs λvs=>K (v::vs)
 |.cell a t::rs,K=>tK T t λi=>lk e a λv=>match v with
  |.pointer (some ⟨b,off,none⟩)=>(match i.agg with
   |false=>FK (λw'=>w=w') ⟨b,off,none⟩ λv=>IW T e w rs λvs=>K (v::vs)
   |true=>GN (λw'=>w=w') i.size b off λcs=>IW T e w rs λvs=>K (.agg ⟨cs⟩::vs))
  |_=>False
def Jg(vs:List Value)(R:Value→Prop):Prop:=match vs with|[v]=>R v|vs=>R (.tuple ⟨vs⟩)
def LP(T:BO)(rs:List ResultVar)(R:Value→World→Prop):Exit→AZ→World→Prop
 |.normal,e,w=>IW T e w rs λvs=>Jg vs λv=>R v w
 |.ret,e,w=>IW T e w rs λvs=>Jg vs λv=>R v w
 |_,_,_=>False
theorem NB{P:Program}{T:BO}(hT:BX P T){N:Nat}{e:AZ}{a:Act}(hr:BS ds N e a){w:World}: ∀{rs:List ResultVar}{K:List Value→Prop},IW T e w rs K→
  ∃vs,(rs.mapM λ(r:ResultVar)=>(match r with
   |.tmp t=>(pure (a.tmps.getD t undef):Sem Value)
   |.cell x t=>do loadVar t (←asAddr (a.tmps.getD x undef)))).run P w= .ok vs w∧K vs
 |[],K,h=>⟨[],by simp,h⟩
 |.tmp t::rs,K,h=>by
  obtain⟨v,h1,h2⟩:=(IR _ _ _).1 h;obtain⟨vs,h3,h4⟩:=NB hT hr h2;have hv:a.tmps.getD t undef=v:=by rw[Array.getD_eq_getD_getElem?,hr.get t v h1];rfl
  exact⟨v::vs,by simp only[List.mapM_cons,Sem.run_bind,Sem.run_pure,Result.andThen_ok,hv,h3],h4⟩
 |.cell x t::rs,K,h=>by
  obtain⟨i,hi,h⟩:=(FY _ _ _).1 h;obtain⟨v,h1,h2⟩:=(IR _ _ _).1 h;have hv:a.tmps.getD x undef=v:=by rw[Array.getD_eq_getD_getElem?,hr.get x v h1];rfl
  cases v
  case pointer p=>
   rcases p with _|⟨b,off,_|sp⟩
   ·exact h2.elim
   rotate_left
   ·exact h2.elim
   simp only at h2;cases hagg:i.agg<;>simp only[hagg]at h2
   case false=>
    obtain⟨v,h3,h4⟩:=h2.out;obtain⟨vs,h5,h6⟩:=NB hT hr h4;refine⟨v::vs,?_,h6⟩;rw[List.mapM_cons];generalize(List.mapM _ rs:Sem (List Value))=m at h5⊢;simp only[Sem.run_bind,hv,asAddr,Sem.run_pure,Result.andThen_ok,loadVar,Oc hT hi hagg,Bool.false_eq_true,if_false,run_load,h3 w rfl,h5]
   case true=>
    obtain⟨cs,h3,h4,h5⟩:=h2.out;obtain⟨vs,h6,h7⟩:=NB hT hr h5;refine⟨_,?_,h7⟩;have:=WQ P w b off cs (h4 w rfl);rw[h3]at this;rw[List.mapM_cons];generalize(List.mapM _ rs:Sem (List Value))=m at h6⊢;simp only[Sem.run_bind,hv,asAddr,Sem.run_pure,Result.andThen_ok,loadVar,RJ hT hi hagg,if_true,O8 hT hi,this,h6]
  all_goals exact h2.elim
theorem Cl.enter{P:Program}{T:BO}(hT:BX P T){f:FuncId}{fn:Func}{c:Code}{N:Nat}{args:List Value}{w:World}{R:Value→World→Prop}
  (hcall: ∀(args:Array Value)(w:World),(callFunc f args).run P w= .ok (.enter f args) w)(hf:P.funcs[f]?=some fn)(hN:fn.ntmps=N)(hb:fn.body=some c){rs:List ResultVar}(hrs:fn.results=⟨rs⟩)
  (hlen:Nat.ble args.length N=true)(h:AL P N c (LP T rs R) (HG 0 args) w):Cl P f args w R:=by
 refine .inl ⟨hcall _ _,?_⟩;refine calls_of_wp hf hb ?_;have hle:=Nat.le_of_ble_eq_true hlen;have hr:BS [] N (HG 0 args) ⟨⟨args⟩++Array.replicate (fn.ntmps-(Array.mk args).size) undef,[]⟩:=by
  refine⟨by simp[hN];omega,rfl,λn v hv=>?_⟩;obtain⟨_,h2⟩:=Py args 0 n v hv;simp only[Nat.sub_zero]at h2;have hlt:n<args.length:=(List.getElem?_eq_some_iff.1 h2).1;rw[Array.getElem?_append_left (by simpa using hlt)];simpa using h2
 refine Code.wp_mono (λx a w hl=>?_) (h _ hr);have fin: ∀e,BS [] N e a→(IW T e w rs λvs=>Jg vs λv=>R v w)→a.defers=[]∧ ∃v,(results fn a.tmps).run P w= .ok v w∧ ∃v',Ending.returned v= .returned v'∧R v' w:=by
  intro e hr h;obtain⟨vs,h1,h2⟩:=NB hT hr h;refine⟨hr.dz,?_⟩;have hm:(results fn a.tmps).run P w= .ok (if h:vs.length=1 then vs[0]else .tuple ⟨vs⟩) w:=by
   unfold results;rw[hrs];simp only[Sem.run_bind];rw[Array.mapM_eq_mapM_toList];simp only[Sem.run_map];generalize hM:Sem.run P (List.mapM _ rs) w=r;have h1':r= .ok vs w:=hM.symm.trans h1;subst h1';simp
  refine⟨_,hm,_,rfl,?_⟩;unfold Jg at h2
  split at h2
  ·simpa using h2
  ·rename_i hne;rw[dif_neg (by intro hl;obtain⟨v,rfl⟩:=List.length_eq_one_iff.1 hl;exact hne v rfl)];exact h2
 cases x with
 |normal=>obtain⟨e,h1,h2⟩:=hl;exact fin e h1 h2
 |ret=>obtain⟨e,h1,h2⟩:=hl;exact fin e h1 h2
 |exit id=>obtain⟨e,h1,h2⟩:=hl;exact h2.elim
 |goto l=>obtain⟨e,h1,h2⟩:=hl;exact h2.elim
 |panic c=>exact hl.elim
 |outgrown=>exact hl.elim
end Go.Eng
namespace Go.Eng
theorem jA:type_of% @CG.nw:=@CG.nw
theorem jB:type_of% @CG.nu8:=@CG.nu8
theorem jC:type_of% @CG.nu32:=@CG.nu32
theorem jD:type_of% @CG.nu64:=@CG.nu64
theorem jE:type_of% @CG.wr':=@CG.wr'
theorem jF:type_of% @Ae.mk:=@Ae.mk
theorem jG:type_of% @Ax.id:=@Ax.id
theorem jH:type_of% @Ax.t:=@Ax.t
theorem jI:type_of% @Ax.f:=@Ax.f
theorem jJ:type_of% @Ax.notG:=@Ax.notG
theorem jK:type_of% @Ax.nn:=@Ax.nn
theorem jL:type_of% @Ax.ns:=@Ax.ns
theorem jM:type_of% @Ax.pos:=@Ax.pos
theorem jN:type_of% @Ax.neg:=@Ax.neg
theorem jO:type_of% @Pb.mk:=@Pb.mk
theorem jP:type_of% @AL.run:=@AL.run
structure Wr(H:Prop):Prop where
 o:H
theorem jq{G H:Prop}(k:Wr H)(f:Wr H→G:=by intro h;(repeat(first|refine jP AK ?_|((first|refine jA ?_ ?_|refine jB ?_ ?_|refine jC ?_ ?_|refine jD ?_ ?_);omega)|refine jE rfl ?_|refine jF (by first|omega|exact Bd AK rfl rfl|decide) ?_|(refine jG ?_;first|with_reducible (first|apply jH|apply jI|apply jJ|apply jK|apply jL)|refine jM (by omega) ?_|refine jN (by omega) ?_|with_reducible refine jM rfl ?_|refine jM (by first|assumption|decide) ?_|refine jN (by first|assumption|decide) ?_)|refine jO (λ_=>by kernel_rfl) ?_));exact h.1):G:=f k
theorem jr{G H:Prop}(k:Wr H)(f:Wr H→G:=by intro h;(repeat(first|refine jP AK ?_|((first|refine jA ?_ ?_|refine jB ?_ ?_|refine jC ?_ ?_|refine jD ?_ ?_);omega)|refine jE rfl ?_|refine jF (by first|omega|exact Bd AK rfl rfl|decide) ?_|(refine jG ?_;first|with_reducible (first|apply jH|apply jI|apply jJ|apply jK|apply jL)|refine jM (by omega) ?_|refine jN (by omega) ?_|with_reducible refine jM rfl ?_|refine jM (by first|assumption|decide) ?_|refine jN (by first|assumption|decide) ?_)|refine jO (λ_=>by kernel_rfl) ?_|refine hS.ldC rfl ?_|refine hS.ldnC rfl ?_));exact h.1):G:=f k
theorem js{G H:Prop}(k:Wr H)(f:Wr H→G:=by intro h;(repeat(first|refine jP AK ?_|((first|refine jA ?_ ?_|refine jB ?_ ?_|refine jC ?_ ?_|refine jD ?_ ?_);omega)|refine jE rfl ?_|refine jF (by first|omega|exact Bd AK rfl rfl|decide) ?_|(refine jG ?_;first|with_reducible (first|apply jH|apply jI|apply jJ|apply jK|apply jL)|refine jM (by omega) ?_|refine jN (by omega) ?_|with_reducible refine jM rfl ?_|refine jM (by first|assumption|decide) ?_|refine jN (by first|assumption|decide) ?_)|refine jO (λ_=>by kernel_rfl) ?_|refine hS.ldG rfl ?_|refine hS.ldnG rfl ?_));exact h.1):G:=f k
theorem jt{G H:Prop}(k:Wr H)(f:Wr H→G:=by intro h;(repeat(first|refine jP AK ?_|((first|refine jA ?_ ?_|refine jB ?_ ?_|refine jC ?_ ?_|refine jD ?_ ?_);omega)|refine jE rfl ?_|refine jF (by first|omega|exact Bd AK rfl rfl|decide) ?_|(refine jG ?_;first|with_reducible (first|apply jH|apply jI|apply jJ|apply jK|apply jL)|refine jM (by omega) ?_|refine jN (by omega) ?_|with_reducible refine jM rfl ?_|refine jM (by first|assumption|decide) ?_|refine jN (by first|assumption|decide) ?_)|refine jO (λ_=>by kernel_rfl) ?_|refine hS.ld rfl ?_|refine hS.ldn rfl ?_));exact h.1):G:=f k
theorem ju{G H:Prop}(k:Wr H)(f:Wr H→G:=by intro h;(repeat(first|((first|refine jA ?_ ?_|refine jB ?_ ?_|refine jC ?_ ?_|refine jD ?_ ?_);omega)|refine jE rfl ?_|refine jF (by first|omega|exact Bd AK rfl rfl|decide) ?_|(refine jG ?_;first|with_reducible (first|apply jH|apply jI|apply jJ|apply jK|apply jL)|refine jM (by omega) ?_|refine jN (by omega) ?_|with_reducible refine jM rfl ?_|refine jM (by first|assumption|decide) ?_|refine jN (by first|assumption|decide) ?_)|refine jO (λ_=>by kernel_rfl) ?_|refine hS.ld rfl ?_|refine hS.ldn rfl ?_));exact h.1):G:=f k
end Go.Eng
namespace Go
theorem AP:type_of% @List.length_append:=@List.length_append
theorem AS:type_of% @List.sublist_cons_self:=@List.sublist_cons_self
theorem Aj:type_of% @List.append_assoc:=@List.append_assoc
theorem Ai:type_of% @List.length_cons:=@List.length_cons
theorem AV:type_of% @Nat.le_refl:=@Nat.le_refl
theorem Ag:type_of% @Nat.zero_le:=@Nat.zero_le
theorem As:type_of% @List.mem_cons:=@List.mem_cons
theorem A4:type_of% @List.map_cons:=@List.map_cons
theorem A7:type_of% @List.map_append:=@List.map_append
theorem Ah:type_of% @List.sublist_append_right:=@List.sublist_append_right
theorem BU:type_of% @List.append_nil:=@List.append_nil
theorem Bl:type_of% @List.mem_append:=@List.mem_append
theorem BV:type_of% @List.mem_map:=@List.mem_map
theorem BR:type_of% @List.length_take:=@List.length_take
theorem Bs:type_of% @List.take_succ_eq_append_getElem:=@List.take_succ_eq_append_getElem
theorem CB:type_of% @List.getElem?_eq_getElem:=@List.getElem?_eq_getElem
theorem Bo:type_of% @List.length_nil:=@List.length_nil
theorem Bz:type_of% @List.take_length:=@List.take_length
theorem CJ:type_of% @List.mem_cons_of_mem:=@List.mem_cons_of_mem
theorem CN:type_of% @List.mem_cons_self:=@List.mem_cons_self
theorem CO:type_of% @List.take_append_drop:=@List.take_append_drop
theorem BM:type_of% @List.length_map:=@List.length_map
theorem CC:type_of% @List.sublist_append_left:=@List.sublist_append_left
theorem Ca:type_of% @List.getElem_mem:=@List.getElem_mem
theorem CD:type_of% @List.mem_map_of_mem:=@List.mem_map_of_mem
theorem Cm:type_of% @List.mem_singleton:=@List.mem_singleton
theorem Cn:type_of% @List.getElem?_append_left:=@List.getElem?_append_left
theorem CU:type_of% @List.nil_append:=@List.nil_append
theorem DT:type_of% @List.pairwise_cons:=@List.pairwise_cons
theorem Dc:type_of% @List.flatten_cons:=@List.flatten_cons
theorem Au:type_of% @Nat.le_trans:=@Nat.le_trans
theorem Dy:type_of% @Nat.mod_eq_of_lt:=@Nat.mod_eq_of_lt
theorem C8:type_of% @List.all_eq_true:=@List.all_eq_true
theorem D3:type_of% @List.cons_append:=@List.cons_append
theorem Do:type_of% @List.length_drop:=@List.length_drop
theorem Dd:type_of% @List.perm_middle:=@List.perm_middle
theorem Dp:type_of% @List.getElem?_append_right:=@List.getElem?_append_right
theorem EO:type_of% @List.mem_append_left:=@List.mem_append_left
theorem Cs:type_of% @Nat.zero_add:=@Nat.zero_add
theorem FA:type_of% @List.flatMap_cons:=@List.flatMap_cons
theorem FP:type_of% @Nat.mod_lt:=@Nat.mod_lt
theorem FQ:type_of% @List.drop_eq_getElem_cons:=@List.drop_eq_getElem_cons
theorem FC:type_of% @List.mem_append_right:=@List.mem_append_right
theorem Ew:type_of% @List.nodup_cons:=@List.nodup_cons
theorem Dz:type_of% @Nat.le_succ:=@Nat.le_succ
theorem FR:type_of% @List.getElem?_eq_some_iff:=@List.getElem?_eq_some_iff
theorem FU:type_of% @List.nodup_append:=@List.nodup_append
theorem FD:type_of% @Option.getD_some:=@Option.getD_some
theorem D4:type_of% @List.length_singleton:=@List.length_singleton
theorem GV:type_of% @List.pairwise_append:=@List.pairwise_append
theorem GW:type_of% @List.flatten_append:=@List.flatten_append
theorem Fp:type_of% @List.map_map:=@List.map_map
theorem kC:type_of% @List.map_nil:=@List.map_nil
theorem Gl:type_of% @List.take_left':=@List.take_left'
theorem Ea:type_of% @Int.le_refl:=@Int.le_refl
theorem Gm:type_of% @List.flatten_nil:=@List.flatten_nil
theorem HJ:type_of% @List.foldl_cons:=@List.foldl_cons
theorem Gn:type_of% @List.getD_eq_getElem?_getD:=@List.getD_eq_getElem?_getD
theorem HK:type_of% @Nat.add_mul:=@Nat.add_mul
theorem Hn:type_of% @List.flatMap_append:=@List.flatMap_append
theorem Ho:type_of% @List.length_eq_zero_iff:=@List.length_eq_zero_iff
theorem Gp:type_of% @List.perm_append_comm:=@List.perm_append_comm
theorem HL:type_of% @List.sum_cons:=@List.sum_cons
theorem HM:type_of% @Nat.mul_comm:=@Nat.mul_comm
theorem Hp:type_of% @List.count_append:=@List.count_append
theorem IJ:type_of% @List.drop_length:=@List.drop_length
theorem Hq:type_of% @List.foldl_append:=@List.foldl_append
theorem Ex:type_of% @List.getElem?_map:=@List.getElem?_map
theorem G5:type_of% @List.getElem_map:=@List.getElem_map
theorem GX:type_of% @List.perm_append_comm_assoc:=@List.perm_append_comm_assoc
theorem IK:type_of% @List.set_append_right:=@List.set_append_right
theorem IL:type_of% @List.sum_append:=@List.sum_append
theorem Gq:type_of% @Nat.add_assoc:=@Nat.add_assoc
theorem Is:type_of% @List.eq_nil_of_length_eq_zero:=@List.eq_nil_of_length_eq_zero
theorem It:type_of% @List.getElem?_drop:=@List.getElem?_drop
theorem IM:type_of% @List.getElem?_take:=@List.getElem?_take
theorem Iu:type_of% @List.mem_flatten:=@List.mem_flatten
theorem Hr:type_of% @List.mem_iff_getElem:=@List.mem_iff_getElem
theorem Iv:type_of% @Nat.eq_zero_or_pos:=@Nat.eq_zero_or_pos
theorem kD:type_of% @Option.map_some:=@Option.map_some
theorem Iw:type_of% @List.count_cons:=@List.count_cons
theorem JU:type_of% @List.getElem_cons_zero:=@List.getElem_cons_zero
theorem IN:type_of% @List.length_set:=@List.length_set
theorem HN:type_of% @List.mem_of_mem_take:=@List.mem_of_mem_take
theorem JV:type_of% @List.pairwise_iff_getElem:=@List.pairwise_iff_getElem
theorem Ix:type_of% @List.perm_iff_count:=@List.perm_iff_count
theorem J2:type_of% @List.eq_nil_or_concat:=@List.eq_nil_or_concat
theorem J3:type_of% @List.filter_append:=@List.filter_append
theorem J4:type_of% @List.filter_eq_self:=@List.filter_eq_self
theorem J5:type_of% @List.length_pos_iff:=@List.length_pos_iff
theorem HO:type_of% @List.take_of_length_le:=@List.take_of_length_le
theorem Iy:type_of% @Option.isSome_none:=@Option.isSome_none
theorem Kz:type_of% @List.length_eq_one_iff:=@List.length_eq_one_iff
theorem K0:type_of% @List.mem_of_getLast?:=@List.mem_of_getLast?
theorem J6:type_of% @Nat.le_of_ble_eq_true:=@Nat.le_of_ble_eq_true
theorem GY:type_of% @Nat.mul_le_mul_right:=@Nat.mul_le_mul_right
theorem Mo:type_of% @List.findIdx?_eq_some_iff_getElem:=@List.findIdx?_eq_some_iff_getElem
theorem Mp:type_of% @Nat.and_two_pow_sub_one_eq_mod:=@Nat.and_two_pow_sub_one_eq_mod
end Go
namespace Go
theorem AA {p : Prop} (h : p := by omega) : p := h
theorem AB {p : Prop} (h : p := by simp) : p := h
theorem AC {p : Prop} (h : p := by decide) : p := h
theorem AD {p : Prop} (h : p := by kernel_rfl) : p := h
end Go
