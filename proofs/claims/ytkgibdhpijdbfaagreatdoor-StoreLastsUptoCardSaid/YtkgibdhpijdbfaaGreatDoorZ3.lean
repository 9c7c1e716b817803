/- Texts of this claim, one behind the other. -/
import Derived.Test.YtkgibdhpijdbfaaGreatDoorZ1
set_option linter.unusedVariables false
set_option linter.unusedSimpArgs false
set_option maxHeartbeats 16000000
namespace Go.Eng
open Go
structure Bn{κ:Type} [DecidableEq κ](d:TypeDesc)(enc:κ→Value):Prop where
 same: ∀a b,Instr.sameNow d (enc a) (enc b)=some (decide (a=b))
 bits: ∀a,Instr.sameBits 10000 (enc a) (enc a)=true
 check: ∀(P:Program)(t:TypeId)(w:World)(e:Bool)(a:κ),P.underlying t=some d→(Instr.checkKey e 10000 t (enc a)).run P w= .ok () w
theorem Ty(a b:List UInt8):((ByteArray.mk ⟨a⟩)==(ByteArray.mk ⟨b⟩))=decide (a=b):=by
 show((Array.mk a)==(Array.mk b))=_;rw[Bool.eq_iff_iff,beq_iff_eq];simp
theorem Bn.str:Bn .string AG:=by
 refine⟨λa b=>?_,λa=>?_,λP t w e a h=>?_⟩
 ·simp only[Instr.sameNow]
  congr 1
  exact Ty a b
 ·have key: ∀n,Instr.sameBits (n+1) (AG a) (AG a)=true:=λn=>by simp only[Instr.sameBits];rw[Ty];simp
  exact key 9999
 ·have key: ∀n,(Instr.checkKey e (n+1) t (AG a)).run P w= .ok () w:=λn=>by simp[Instr.checkKey,run_underlying h]
  exact key 9999
theorem Bn.i64:Bn (.int .i64) (λn:Int=>Value.int .i64 n):=by
 refine⟨λa b=>?_,λa=>?_,λP t w e a h=>?_⟩
 ·simp[Instr.sameNow];rfl
 ·have key: ∀n,Instr.sameBits (n+1) (.int .i64 a) (.int .i64 a)=true:=λn=>by simp[Instr.sameBits]
  exact key 9999
 ·have key: ∀n,(Instr.checkKey e (n+1) t (.int .i64 a)).run P w= .ok () w:=λn=>by simp[Instr.checkKey,run_underlying h]
  exact key 9999
section
variable {κ α : Type} [DecidableEq κ]
def Fc(enc:κ→Value)(val:α→Value)(es:Array MapEntry)(kvs:List (κ×α)):Prop:=es.toList.map (λe=>(e.key,e.val))=kvs.map λx=>(enc x.1,val x.2)
def E3(l:List MapEntry)(clock:Nat):Prop:=(∀x∈l,x.born<clock)∧(l.map (·.born)).Nodup∧(l.map (·.key)).Nodup
structure MapC(enc:κ→Value)(val:α→Value)(es:Array MapEntry)(clock:Nat)(kvs:List (κ×α)):Prop where
 of:Fc enc val es kvs
 st:E3 es.toList clock
theorem E3.push{l:List MapEntry}{c:Nat}(h:E3 l c){k v:Value}(hk:k∉l.map (·.key)):E3 (l++[{key:=k,val:=v,born:=c}]) (c+1):=by
 obtain⟨h1,h2,h3⟩:=h;refine⟨λx hx=>?_,?_,?_⟩
 ·rcases Bk.1 hx with hx|hx
  ·have:=h1 x hx;omega
  ·simp at hx;subst hx;show c<c+1;omega
 ·rw[A7,F8];refine⟨h2,AB,λa ha b hb=>?_⟩;obtain⟨x,hx,rfl⟩:=BU.1 ha;simp at hb;subst hb;have:=h1 x hx;omega
 ·rw[A7,F8];refine⟨h3,AB,λa ha b hb=>?_⟩;simp at hb;subst hb;rintro rfl;exact hk ha
theorem E3.modify{l:List MapEntry}{c:Nat}(h:E3 l c){j:Nat}{e:MapEntry}{k v:Value}(he:l[j]?=some e)(hk:e.key=k):E3 (l.modify j λe=>{e with key:=k,val:=v}) c:=by
 have e1:(l.modify j λe=>{e with key:=k,val:=v}).map (·.born)=l.map (·.born):=by
  apply List.ext_getElem?;intro i;simp only[Et,List.getElem?_modify];by_cases hij:j=i
  ·subst hij;rw[he];simp
  ·simp[hij]
 have e2:(l.modify j λe=>{e with key:=k,val:=v}).map (·.key)=l.map (·.key):=by
  apply List.ext_getElem?;intro i;simp only[Et,List.getElem?_modify];by_cases hij:j=i
  ·subst hij;rw[he];simp[hk]
  ·simp[hij]
 obtain⟨h1,h2,h3⟩:=h;refine⟨λx hx=>?_,by rw[e1];exact h2,by rw[e2];exact h3⟩;have hm:x.born∈(l.modify j λe=>{e with key:=k,val:=v}).map (·.born):=CC hx;rw[e1]at hm;obtain⟨y,hy,hyb⟩:=BU.1 hm;rw[←hyb];exact h1 y hy
theorem E3.erase{l:List MapEntry}{c:Nat}(h:E3 l c)(j:Nat):E3 (l.eraseIdx j) c:=by
 obtain⟨h1,h2,h3⟩:=h;have hs:=List.eraseIdx_sublist l j;exact⟨λx hx=>h1 x (hs.subset hx),(hs.map _).nodup h2,(hs.map _).nodup h3⟩
def Am(k:κ):List (κ×α)→Option α
 |[]=>none
 |(a,v)::r=>if k=a then some v else Am k r
def Fp(k:κ):List (κ×α)→Nat→Option (Nat×α)
 |[],_=>none
 |(a,v)::r,i=>if k=a then some (i,v)else Fp k r (i+1)
def BV(k:κ)(v:α):List (κ×α)→List (κ×α)
 |[]=>[(k,v)]
 |(a,u)::r=>if k=a then(k,v)::r else(a,u)::BV k v r
def Cn(k:κ):List (κ×α)→List (κ×α)
 |[]=>[]
 |(a,u)::r=>if k=a then r else(a,u)::Cn k r
theorem G6(a:κ)(v:α)(k:κ): ∀m:List (κ×α),Am k (BV a v m)=if k=a then some v else Am k m
 |[]=>rfl
 |(b,u)::r=>by
  by_cases h:a=b
  ·subst h;simp only[BV,if_pos,Am]
   split<;>rfl
  ·simp only[BV,if_neg h,Am,G6 a v k r];by_cases h2:k=b
   ·subst h2;rw[if_pos rfl,if_neg (λe=>h e.symm),if_pos rfl]
   ·rw[if_neg h2,if_neg h2]
theorem WJ(k:κ): ∀(kvs:List (κ×α))(i:Nat),(Fp k kvs i).map (·.2)=Am k kvs
 |[],_=>rfl
 |(a,v)::r,i=>by
  simp only[Fp,Am]
  split
  ·rfl
  ·exact WJ k r (i+1)
theorem VT{d:TypeDesc}{enc:κ→Value}{val:α→Value}(hk:Bn d enc)(k:κ): ∀(es:List MapEntry)(kvs:List (κ×α))(i:Nat),es.map (λe=>(e.key,e.val))=(kvs.map λx=>(enc x.1,val x.2))→
  Instr.findNow d (enc k) es i=some ((Fp k kvs i).map λx=>(x.1,val x.2))
 |[],[],_,_=>rfl
 |[],_::_,_,h=>by simp at h
 |_::_,[],_,h=>by simp at h
 |e::es,(a,v)::r,i,h=>by
  simp only[A4,List.cons.injEq,Prod.mk.injEq]at h;obtain⟨⟨h1,h2⟩,h3⟩:=h;simp only[Instr.findNow,h1,hk.same,Fp,h2];by_cases hka:k=a
  ·simp[hka]
  ·simp[hka];exact VT hk k es r (i+1) h3
variable {P : Program} {T0 : BL}
theorem KQ{d:TypeDesc}{enc:κ→Value}{val:α→Value}(hk:Bn d enc){kt:TypeId}(hu:P.underlying kt=some d)(k:κ){es:Array MapEntry}{kvs:List (κ×α)}(hes:Fc enc val es kvs)(w:World):
  (Instr.findKey kt (enc k) es.toList).run P w= .ok ((Fp k kvs 0).map λx=>(x.1,val x.2)) w:=by
 simp[Instr.findKey,run_underlying hu,VT hk k es.toList kvs 0 hes]
theorem IS(hT:BR P T0){t kt et:TypeId}{i ie:TI}{d:TypeDesc}{enc:κ→Value}{val:α→Value}(hk:Bn d enc)(hi:tf T0 t=some i)(hik:i.k= .map kt et)(hkt:P.underlying kt=some d)(hie:tf T0 et=some ie)
  {C:World→Prop}{m:Nat}{k:κ}{kvs:List (κ×α)}(hm: ∀w,C w→ ∃es clock,w.heap[m]?=some (.map es clock)∧Fc enc val es kvs){ok:Bool}{K:Value→Prop}
  (hK:K (match ok with|false=>((Am k kvs).map val).getD ie.zero|true=> .tuple ⟨[((Am k kvs).map val).getD ie.zero,.bool (Am k kvs).isSome]⟩)):Fz P (Instr.lookup t (.map (some m)) (enc k) ok) C K:=by
 refine⟨⟨_,λw hw=>?_,hK⟩⟩;obtain⟨es,clock,h1,h2⟩:=hm w hw;have hu:=CZ hT hi;rw[hik]at hu;have hu':P.underlying t=some (.map kt et):=hu;have hg:(getObj m).run P w= .ok (.map es clock) w:=by simp[getObj,Sem.run,h1]
 have hz:=PS hT hie;rw[←WJ k kvs 0];cases hx:Fp k kvs 0 with
 |none=>
  cases ok<;>simp[Instr.lookup,run_underlying hu',hg,hk.check P kt w _ k hkt,KQ hk hkt k h2,hx,hz]
 |some x=>
  obtain⟨j,v⟩:=x;cases ok<;>simp[Instr.lookup,run_underlying hu',hg,hk.check P kt w _ k hkt,KQ hk hkt k h2,hx]
theorem tI(hT:BR P T0){t kt et:TypeId}{i ie:TI}{d:TypeDesc}{enc:κ→Value}(hk:Bn d enc)(hi:tf T0 t=some i)(hik:i.k= .map kt et)(hkt:P.underlying kt=some d)(hie:tf T0 et=some ie)
  {C:World→Prop}{k:κ}{ok:Bool}{K:Value→Prop}(hK:K (match ok with|false=>ie.zero|true=> .tuple ⟨[ie.zero,.bool false]⟩)):Fz P (Instr.lookup t (.map none) (enc k) ok) C K:=by
 refine⟨⟨_,λw _=>?_,hK⟩⟩;have hu:=CZ hT hi;rw[hik]at hu;have hu':P.underlying t=some (.map kt et):=hu;have hz:=PS hT hie;have hf:(Instr.findKey kt (enc k) (#[]:Array MapEntry).toList).run P w= .ok none w:=KQ (α:=Value) (val:=id) (kvs:=[]) hk hkt k (by simp[Fc]) w;cases ok<;>simp[Instr.lookup,run_underlying hu',hk.check P kt w _ k hkt,hf,hz]
theorem O8(w:World)(m:Nat)(es es':Array MapEntry)(c c':Nat)(h:w.heap[m]?=some (.map es c)):(setObj m (.map es' c')).run P w= .ok () {w with heap:=w.heap.setIfInBounds m (.map es' c')}:=by
 simp[setObj,Sem.run,h]
theorem Fc.put{d:TypeDesc}{enc:κ→Value}{val:α→Value}(_hk:Bn d enc){k:κ}{v:α}: ∀(es:List MapEntry)(kvs:List (κ×α))(i:Nat),es.map (λe=>(e.key,e.val))=(kvs.map λx=>(enc x.1,val x.2))→
  match Fp k kvs i with
  |none=>(es++[({key:=enc k,val:=val v,born:=0}:MapEntry)]).map (λ(e:MapEntry)=>(e.key,e.val))=((BV k v kvs).map λx=>(enc x.1,val x.2))
  |some (j,_)=>i≤j∧(es.modify (j-i) λ(e:MapEntry)=>{e with key:=enc k,val:=val v}).map (λ(e:MapEntry)=>(e.key,e.val))=((BV k v kvs).map λx=>(enc x.1,val x.2))∧ ∃e,es[j-i]?=some e∧e.key=enc k
 |[],[],_,_=>rfl
 |[],_::_,_,h=>by simp at h
 |_::_,[],_,h=>by simp at h
 |e::es,(a,u)::r,i,h=>by
  simp only[A4,List.cons.injEq,Prod.mk.injEq]at h;obtain⟨⟨h1,h2⟩,h3⟩:=h;simp only[Fp,BV];by_cases hka:k=a
  ·subst hka;simp[h1,h3]
  ·rw[if_neg hka,if_neg hka];have ih:=Fc.put _hk (k:=k) (v:=v) es r (i+1) h3;cases hx:Fp k r (i+1)with
   |none=>
    rw[hx]at ih;simp only at ih⊢;simp only[A4,D1,h1,h2,ih]
   |some x=>
    obtain⟨j,y⟩:=x;rw[hx]at ih;simp only at ih⊢;obtain⟨h4,h5,h6⟩:=ih;have e1:j-i=(j-(i+1))+1:=AA;refine⟨AA,?_,?_⟩
    ·rw[e1,List.modify_succ_cons,A4,h5,h1,h2];rfl
    ·rw[e1];simpa using h6
theorem Bn.inj{d:TypeDesc}{enc:κ→Value}(hk:Bn d enc){a b:κ}(h:enc a=enc b):a=b:=by
 have h1:=hk.same a b;rw[←h,hk.same a a]at h1;simpa using h1
theorem WK{k:κ}: ∀{kvs:List (κ×α)}{i:Nat},Fp k kvs i=none→k∉kvs.map (·.1)
 |[],_,_=>AB
 |(a,v)::r,i,h=>by
  simp only[Fp]at h;by_cases hka:k=a
  ·rw[if_pos hka]at h;cases h
  ·rw[if_neg hka]at h;have:=WK h;simp at this⊢;exact⟨hka,this⟩
theorem Fc.keys{d:TypeDesc}{enc:κ→Value}(_hk:Bn d enc){val:α→Value}{es:Array MapEntry}{kvs:List (κ×α)}(h:Fc enc val es kvs):es.toList.map (·.key)=kvs.map λx=>enc x.1:=by
 have:=congrArg (List.map Prod.fst) h;simpa[Function.comp_def]using this
theorem St.mapSet(hT:BR P T0){t kt et:TypeId}{i:TI}{d:TypeDesc}{enc:κ→Value}{val:α→Value}(hk:Bn d enc)(hi:tf T0 t=some i)(hik:i.k= .map kt et)(hkt:P.underlying kt=some d)
  {w0 w:World}{T:List Nat}{H:AH}{m:Nat}{es:Array MapEntry}{clock:Nat}{F:Obj→AH}(hS:St w0 T H w) [Slot H m (.map es clock) F]{k:κ}{v:α}{kvs:List (κ×α)}(hesC:MapC enc val es clock kvs)
  {K:Unit→World→Prop}(h: ∀es' clock' w',MapC enc val es' clock' (BV k v kvs)→St w0 T (F (.map es' clock')) w'→K () w'):Bm P (Instr.mapUpdate t (.map (some m)) (enc k) (val v)) w K:=by
 have hes:=hesC.of;have hu:=CZ hT hi;rw[hik]at hu;have hu':P.underlying t=some (.map kt et):=hu;have hmem:=hS.mem (b:=m) (o:= .map es clock);have hg:(getObj m).run P w= .ok (.map es clock) w:=by simp[getObj,Sem.run,hmem]
 have hput:=Fc.put hk (k:=k) (v:=v) es.toList kvs 0 hes;have fin: ∀es' c',St w0 T (F (.map es' c')) {w with heap:=w.heap.setIfInBounds m (.map es' c')}:=λes' c'=>by
  refine hS.setBlock (b:=m) (o:= .map es clock) rfl rfl rfl AB (λj hj=>?_) ?_
  ·simp only[Array.getElem?_setIfInBounds];rw[if_neg (Ne.symm hj)]
  ·have hlt:=(Array.getElem?_eq_some_iff.1 hmem).1;simp[hlt]
 cases hx:Fp k kvs 0 with
 |none=>
  rw[hx]at hput;refine⟨⟨(),_,?_,h (es.push {key:=enc k,val:=val v,born:=clock}) (clock+1) _ ?_ (fin _ _)⟩⟩
  ·simp[Instr.mapUpdate,run_underlying hu',hg,hk.check P kt w _ k hkt,KQ hk hkt k hes,hx,O8 w m es _ clock _ hmem]
  ·refine⟨?_,?_⟩
   ·unfold Fc;simp only[Array.toList_push];simpa using hput
   ·simp only[Array.toList_push];refine hesC.st.push ?_;rw[hes.keys hk];intro hm;obtain⟨y,hy,hye⟩:=BU.1 hm;have:=hk.inj hye;exact WK hx (BU.2 ⟨y,hy,this⟩)
 |some x=>
  obtain⟨j,y⟩:=x;rw[hx]at hput;simp only[Ag,true_and,Nat.sub_zero]at hput;obtain⟨h1,e,h2,h3⟩:=hput;refine⟨⟨(),_,?_,h (es.modify j λe=>{e with key:=enc k,val:=val v}) clock _ ?_ (fin _ _)⟩⟩
  ·have h2':es[j]?=some e:=by simpa using h2
   simp[Instr.mapUpdate,run_underlying hu',hg,hk.check P kt w _ k hkt,KQ hk hkt k hes,hx,h2',h3,Instr.keyThatStays,hk.bits,O8 w m es _ clock _ hmem]
  ·refine⟨?_,?_⟩
   ·unfold Fc;simp only[Array.toList_modify];exact h1
   ·simp only[Array.toList_modify];exact hesC.st.modify h2 h3
theorem Fc.del{enc:κ→Value}{val:α→Value}{k:κ}: ∀(es:List MapEntry)(kvs:List (κ×α))(i:Nat),es.map (λe=>(e.key,e.val))=(kvs.map λx=>(enc x.1,val x.2))→
  match Fp k kvs i with
  |none=>Cn k kvs=kvs
  |some (j,_)=>i≤j∧j-i<es.length∧(es.eraseIdx (j-i)).map (λ(e:MapEntry)=>(e.key,e.val))=((Cn k kvs).map λx=>(enc x.1,val x.2))
 |[],[],_,_=>rfl
 |[],_::_,_,h=>by simp at h
 |_::_,[],_,h=>by simp at h
 |e::es,(a,u)::r,i,h=>by
  simp only[A4,List.cons.injEq,Prod.mk.injEq]at h;obtain⟨⟨h1,h2⟩,h3⟩:=h;simp only[Fp,Cn];by_cases hka:k=a
  ·subst hka;simp[h3]
  ·rw[if_neg hka,if_neg hka];have ih:=Fc.del (k:=k) es r (i+1) h3;cases hx:Fp k r (i+1)with
   |none=>rw[hx]at ih;simp only at ih⊢;rw[ih]
   |some x=>
    obtain⟨j,y⟩:=x;rw[hx]at ih;simp only at ih⊢;obtain⟨h4,h5,h6⟩:=ih;have e1:j-i=(j-(i+1))+1:=AA;refine⟨AA,by simp;omega,?_⟩;rw[e1,List.eraseIdx_cons_succ,A4,h6,h1,h2];rfl
theorem St.mapDel(hT:BR P T0){t kt et u ty:TypeId}{i:TI}{d:TypeDesc}{enc:κ→Value}{val:α→Value}(hk:Bn d enc)(hi:tf T0 t=some i)(hik:i.k= .map kt et)(hkt:P.underlying kt=some d)
  {w0 w:World}{T:List Nat}{H:AH}{m:Nat}{es:Array MapEntry}{clock:Nat}{F:Obj→AH}(hS:St w0 T H w) [Slot H m (.map es clock) F]{k:κ}{kvs:List (κ×α)}(hesC:MapC enc val es clock kvs)
  {K:Value→World→Prop}(h: ∀es' clock' w',MapC enc val es' clock' (Cn k kvs)→St w0 T (F (.map es' clock')) w'→K (.tuple #[]) w'):Bm P (Builtin.delete_ ⟨[t,u]⟩ ty ⟨[.map (some m),enc k]⟩) w K:=by
 have hes:=hesC.of;have hu:=CZ hT hi;rw[hik]at hu;have hu':P.underlying t=some (.map kt et):=hu;have hmem:=hS.mem (b:=m) (o:= .map es clock);have hg:(getObj m).run P w= .ok (.map es clock) w:=by simp[getObj,Sem.run,hmem]
 have hdel:=Fc.del (k:=k) es.toList kvs 0 hes;have fin: ∀es' c',St w0 T (F (.map es' c')) {w with heap:=w.heap.setIfInBounds m (.map es' c')}:=λes' c'=>by
  refine hS.setBlock (b:=m) (o:= .map es clock) rfl rfl rfl AB (λj hj=>?_) ?_
  ·simp only[Array.getElem?_setIfInBounds];rw[if_neg (Ne.symm hj)]
  ·have hlt:=(Array.getElem?_eq_some_iff.1 hmem).1;simp[hlt]
 cases hx:Fp k kvs 0 with
 |none=>
  rw[hx]at hdel;refine⟨⟨_,_,?_,h es clock _ (by rw[hdel];exact hesC) (fin _ _)⟩⟩;simp[Builtin.delete_,run_underlying hu',hg,hk.check P kt w _ k hkt,KQ hk hkt k hes,hx,O8 w m es _ clock _ hmem]
 |some x=>
  obtain⟨j,y⟩:=x;rw[hx]at hdel;simp only[Ag,true_and,Nat.sub_zero]at hdel;obtain⟨h1,h2⟩:=hdel;have h1':j<es.size:=by simpa using h1
  refine⟨⟨_,_,?_,h (es.eraseIdxIfInBounds j) clock _ ?_ (fin _ _)⟩⟩
  ·simp[Builtin.delete_,run_underlying hu',hg,hk.check P kt w _ k hkt,KQ hk hkt k hes,hx,O8 w m es _ clock _ hmem]
  ·refine⟨?_,?_⟩
   ·unfold Fc;rw[Array.eraseIdxIfInBounds,dif_pos h1',Array.toList_eraseIdx];exact h2
   ·rw[Array.eraseIdxIfInBounds,dif_pos h1',Array.toList_eraseIdx];exact hesC.st.erase j
end
end Go.Eng
namespace Go.Proofs.YtkgibdhpijdbfaaGreatDoor
open Go Go.Eng Go.Proofs
abbrev AE:=List UInt8
def AY(n:Int):Value:= .int .i64 n
theorem Bc{P:Program}{T:BL}(hT:BR P T){t:TypeId}{i:TI}{e:TypeId}(hi:tf T t=some i)(hk:i.k= .ptr e):P.underlying t=some (.pointer (P.pointee t)):=by
 have:=CZ hT hi;rw[hk]at this;have h:P.underlying t=some (.pointer e):=this;simp[Program.pointee,h]
abbrev ptr(b:Nat):Value:= .pointer (some ⟨b,0,none⟩)
def BG(ps:List (List UInt8)):Nat:=(ps.map List.length).sum
theorem NQ(ps:List (List UInt8))(k:Nat)(hk:k<ps.length):BG (ps.take (k+1))=BG (ps.take k)+ps[k].length:=by
 unfold BG;rw[Bq hk,A7,kD];simp
theorem Jn(ps:List (List UInt8))(k:Nat):BG (ps.take k)≤BG ps:=by
 have h:=congrArg (λl=>(l.map List.length).sum) (CN k ps);simp only[A7,kD]at h;unfold BG;omega
theorem WO(ps:List (List UInt8))(k:Nat)(hk:k<ps.length):ps[k].length≤BG ps:=by
 have h1:=NQ ps k hk;have h2:=Jn ps (k+1);omega
theorem M0{b:Nat}{o:Obj}{H:AH}{w0 w:World}{T:List Nat}(hS:St w0 T ((b,o)::H) w):b∉keys H:=by
 have:=hS.nd;simp only[keys,A4,Eu]at this;exact this.1
theorem St.arrNew{w0 w:World}{T:List Nat}{H L:AH}{F:AH→AH}(hS:St w0 T H w) [hc:Chunk H L F]{a:Option Addr}{xs:List Value}(h:Arr w0 T a xs):Arr w (keys L) a xs:=λj x hx=>by
 obtain⟨b,off,h1,h2,h3⟩:=h j x hx;refine⟨b,off,h1,λhm=>?_,hS.oldCell (a:=⟨b,off+j,none⟩) h2 h3⟩;obtain⟨A,B,hH,_⟩:=hc.at_;obtain⟨p,hp,rfl⟩:=BU.1 hm;refine h2 (hS.fresh p (by rw[hH];simp[hp]) ?_);cases hb:w0.heap[p.1]? with
 |none=>simp[World.cell?,hb]at h3
 |some o=>exact(Array.getElem?_eq_some_iff.1 hb).1
def lU(id:Nat)(K:AZ→World→Prop):Exit→AZ→World→Prop
 |.exit k,e,w=>k=id∧K e w
 |_,_,_=>False
theorem JM.join{P:Program}{N:Nat}{c y:Code}{id:Nat}{Q1 Q2:Exit→AZ→World→Prop}{e:AZ}{w:World}{ι:Type}(I:ι→AZ)(J:ι→World→Prop)
  (h:JM P N c (lU id λe' w'=>∃i,JC (I i) e'∧J i w') e w)(hy: ∀i w',J i w'→AM P N y Q1 (I i) w'):JM P N c (JR id (Gt (AM P N y Q1) Q2)) e w:=by
 refine⟨h.out.mono λex e' w' hq=>?_⟩;cases ex with
 |exit k=>
  obtain⟨rfl,i,h1,h2⟩:=hq;simp only[JR,Gt,Nat.beq_refl];exact AM.weaken h1 (hy i w' h2)
 |_=>exact hq.elim
theorem Arr.dropA{w:World}{T:List Nat}{g off cap:Nat}{xs ys:List Value}(h:Arr w T (some ⟨g,off,none⟩) (xs++ys))(hc:xs.length+ys.length≤cap):Arr w T (CU g off xs.length cap 1) ys:=by
 unfold CU
 split
 ·have:ys=[]:=It AA;subst this;exact Arr.nil _ _ _
 ·intro j x hj;obtain⟨b,o,h1,h2,h3⟩:=h (xs.length+j) x (by rw[D2 AA,show xs.length+j-xs.length=j by omega];exact hj);simp at h1;obtain⟨rfl,rfl⟩:=h1;exact⟨g,off+xs.length*1,rfl,h2,by rw[show off+xs.length*1+j=off+(xs.length+j) by omega];exact h3⟩
theorem Arr.left{w:World}{T:List Nat}{a:Option Addr}{ps qs:List AE}(h:Arr w T a ((ps++qs).map AG)):Arr w T a (ps.map AG):=by
 rw[A7]at h;exactλj x hx=>h j x (by rw[Cq ((Fm.1 hx).1)];exact hx)
theorem Arr.right{w:World}{T:List Nat}{g off cap n:Nat}{ps qs:List AE}(h:Arr w T (some ⟨g,off,none⟩) ((ps++qs).map AG))(hn:n=ps.length)(hc:ps.length+qs.length≤cap):Arr w T (CU g off n cap 1) (qs.map AG):=by
 rw[A7]at h;have:=Arr.dropA (cap:=cap) h (by simpa using hc);rwa[BZ,←hn]at this
theorem Arr.take{w:World}{T:List Nat}{a:Option Addr}{xs ys:List Value}(h:Arr w T a (xs++ys)):Arr w T a xs:=λj x hx=>h j x (by
 rw[Cq ((Fm.1 hx).1)];exact hx)
end Go.Proofs.YtkgibdhpijdbfaaGreatDoor
