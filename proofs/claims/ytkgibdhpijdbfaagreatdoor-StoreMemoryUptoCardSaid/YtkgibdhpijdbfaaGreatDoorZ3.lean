/- Texts of this claim, one behind the other. -/
import Derived.Test.YtkgibdhpijdbfaaGreatDoorZ1
import Derived.Maps.RangeRun
set_option linter.unusedVariables false
set_option linter.unusedSimpArgs false
set_option maxHeartbeats 16000000
namespace Go.Eng
open Go
structure Bq{κ:Type} [DecidableEq κ](d:TypeDesc)(enc:κ→Value):Prop where
 same: ∀a b,Instr.sameNow d (enc a) (enc b)=some (decide (a=b))
 bits: ∀a,Instr.sameBits 10000 (enc a) (enc a)=true
 check: ∀(P:Program)(t:TypeId)(w:World)(e:Bool)(a:κ),P.underlying t=some d→(Instr.checkKey e 10000 t (enc a)).run P w= .ok () w
theorem T1(a b:List UInt8):((ByteArray.mk ⟨a⟩)==(ByteArray.mk ⟨b⟩))=decide (a=b):=by
 show((Array.mk a)==(Array.mk b))=_;rw[Bool.eq_iff_iff,beq_iff_eq];simp
theorem Bq.str:Bq .string AG:=by
 refine⟨λa b=>?_,λa=>?_,λP t w e a h=>?_⟩
 ·simp only[Instr.sameNow]
  congr 1
  exact T1 a b
 ·have key: ∀n,Instr.sameBits (n+1) (AG a) (AG a)=true:=λn=>by simp only[Instr.sameBits];rw[T1];simp
  exact key 9999
 ·have key: ∀n,(Instr.checkKey e (n+1) t (AG a)).run P w= .ok () w:=λn=>by simp[Instr.checkKey,run_underlying h]
  exact key 9999
theorem Bq.i64:Bq (.int .i64) (λn:Int=>Value.int .i64 n):=by
 refine⟨λa b=>?_,λa=>?_,λP t w e a h=>?_⟩
 ·simp[Instr.sameNow];rfl
 ·have key: ∀n,Instr.sameBits (n+1) (.int .i64 a) (.int .i64 a)=true:=λn=>by simp[Instr.sameBits]
  exact key 9999
 ·have key: ∀n,(Instr.checkKey e (n+1) t (.int .i64 a)).run P w= .ok () w:=λn=>by simp[Instr.checkKey,run_underlying h]
  exact key 9999
section
variable {κ α : Type} [DecidableEq κ]
def Ff(enc:κ→Value)(val:α→Value)(es:Array MapEntry)(kvs:List (κ×α)):Prop:=es.toList.map (λe=>(e.key,e.val))=kvs.map λx=>(enc x.1,val x.2)
def E5(l:List MapEntry)(clock:Nat):Prop:=(∀x∈l,x.born<clock)∧(l.map (·.born)).Nodup∧(l.map (·.key)).Nodup
structure MapC(enc:κ→Value)(val:α→Value)(es:Array MapEntry)(clock:Nat)(kvs:List (κ×α)):Prop where
 of:Ff enc val es kvs
 st:E5 es.toList clock
theorem E5.push{l:List MapEntry}{c:Nat}(h:E5 l c){k v:Value}(hk:k∉l.map (·.key)):E5 (l++[{key:=k,val:=v,born:=c}]) (c+1):=by
 obtain⟨h1,h2,h3⟩:=h;refine⟨λx hx=>?_,?_,?_⟩
 ·rcases Bl.1 hx with hx|hx
  ·have:=h1 x hx;omega
  ·simp at hx;subst hx;show c<c+1;omega
 ·rw[A7,FU];refine⟨h2,AB,λa ha b hb=>?_⟩;obtain⟨x,hx,rfl⟩:=BV.1 ha;simp at hb;subst hb;have:=h1 x hx;omega
 ·rw[A7,FU];refine⟨h3,AB,λa ha b hb=>?_⟩;simp at hb;subst hb;rintro rfl;exact hk ha
theorem E5.modify{l:List MapEntry}{c:Nat}(h:E5 l c){j:Nat}{e:MapEntry}{k v:Value}(he:l[j]?=some e)(hk:e.key=k):E5 (l.modify j λe=>{e with key:=k,val:=v}) c:=by
 have e1:(l.modify j λe=>{e with key:=k,val:=v}).map (·.born)=l.map (·.born):=by
  apply List.ext_getElem?;intro i;simp only[Ex,List.getElem?_modify];by_cases hij:j=i
  ·subst hij;rw[he];simp
  ·simp[hij]
 have e2:(l.modify j λe=>{e with key:=k,val:=v}).map (·.key)=l.map (·.key):=by
  apply List.ext_getElem?;intro i;simp only[Ex,List.getElem?_modify];by_cases hij:j=i
  ·subst hij;rw[he];simp[hk]
  ·simp[hij]
 obtain⟨h1,h2,h3⟩:=h;refine⟨λx hx=>?_,by rw[e1];exact h2,by rw[e2];exact h3⟩;have hm:x.born∈(l.modify j λe=>{e with key:=k,val:=v}).map (·.born):=CD hx;rw[e1]at hm;obtain⟨y,hy,hyb⟩:=BV.1 hm;rw[←hyb];exact h1 y hy
theorem E5.erase{l:List MapEntry}{c:Nat}(h:E5 l c)(j:Nat):E5 (l.eraseIdx j) c:=by
 obtain⟨h1,h2,h3⟩:=h;have hs:=List.eraseIdx_sublist l j;exact⟨λx hx=>h1 x (hs.subset hx),(hs.map _).nodup h2,(hs.map _).nodup h3⟩
def Al(k:κ):List (κ×α)→Option α
 |[]=>none
 |(a,v)::r=>if k=a then some v else Al k r
def Fq(k:κ):List (κ×α)→Nat→Option (Nat×α)
 |[],_=>none
 |(a,v)::r,i=>if k=a then some (i,v)else Fq k r (i+1)
def Ba(k:κ)(v:α):List (κ×α)→List (κ×α)
 |[]=>[(k,v)]
 |(a,u)::r=>if k=a then(k,v)::r else(a,u)::Ba k v r
def Co(k:κ):List (κ×α)→List (κ×α)
 |[]=>[]
 |(a,u)::r=>if k=a then r else(a,u)::Co k r
theorem G6(a:κ)(v:α)(k:κ): ∀m:List (κ×α),Al k (Ba a v m)=if k=a then some v else Al k m
 |[]=>rfl
 |(b,u)::r=>by
  by_cases h:a=b
  ·subst h;simp only[Ba,if_pos,Al]
   split<;>rfl
  ·simp only[Ba,if_neg h,Al,G6 a v k r];by_cases h2:k=b
   ·subst h2;rw[if_pos rfl,if_neg (λe=>h e.symm),if_pos rfl]
   ·rw[if_neg h2,if_neg h2]
theorem WG(k:κ): ∀(kvs:List (κ×α))(i:Nat),(Fq k kvs i).map (·.2)=Al k kvs
 |[],_=>rfl
 |(a,v)::r,i=>by
  simp only[Fq,Al]
  split
  ·rfl
  ·exact WG k r (i+1)
theorem VR{d:TypeDesc}{enc:κ→Value}{val:α→Value}(hk:Bq d enc)(k:κ): ∀(es:List MapEntry)(kvs:List (κ×α))(i:Nat),es.map (λe=>(e.key,e.val))=(kvs.map λx=>(enc x.1,val x.2))→
  Instr.findNow d (enc k) es i=some ((Fq k kvs i).map λx=>(x.1,val x.2))
 |[],[],_,_=>rfl
 |[],_::_,_,h=>by simp at h
 |_::_,[],_,h=>by simp at h
 |e::es,(a,v)::r,i,h=>by
  simp only[A4,List.cons.injEq,Prod.mk.injEq]at h;obtain⟨⟨h1,h2⟩,h3⟩:=h;simp only[Instr.findNow,h1,hk.same,Fq,h2];by_cases hka:k=a
  ·simp[hka]
  ·simp[hka];exact VR hk k es r (i+1) h3
variable {P : Program} {T0 : BO}
theorem KH{d:TypeDesc}{enc:κ→Value}{val:α→Value}(hk:Bq d enc){kt:TypeId}(hu:P.underlying kt=some d)(k:κ){es:Array MapEntry}{kvs:List (κ×α)}(hes:Ff enc val es kvs)(w:World):
  (Instr.findKey kt (enc k) es.toList).run P w= .ok ((Fq k kvs 0).map λx=>(x.1,val x.2)) w:=by
 simp[Instr.findKey,run_underlying hu,VR hk k es.toList kvs 0 hes]
theorem IT(hT:BX P T0){t kt et:TypeId}{i ie:TI}{d:TypeDesc}{enc:κ→Value}{val:α→Value}(hk:Bq d enc)(hi:tf T0 t=some i)(hik:i.k= .map kt et)(hkt:P.underlying kt=some d)(hie:tf T0 et=some ie)
  {C:World→Prop}{m:Nat}{k:κ}{kvs:List (κ×α)}(hm: ∀w,C w→ ∃es clock,w.heap[m]?=some (.map es clock)∧Ff enc val es kvs){ok:Bool}{K:Value→Prop}
  (hK:K (match ok with|false=>((Al k kvs).map val).getD ie.zero|true=> .tuple ⟨[((Al k kvs).map val).getD ie.zero,.bool (Al k kvs).isSome]⟩)):Fz P (Instr.lookup t (.map (some m)) (enc k) ok) C K:=by
 refine⟨⟨_,λw hw=>?_,hK⟩⟩;obtain⟨es,clock,h1,h2⟩:=hm w hw;have hu:=CZ hT hi;rw[hik]at hu;have hu':P.underlying t=some (.map kt et):=hu;have hg:(getObj m).run P w= .ok (.map es clock) w:=by simp[getObj,Sem.run,h1]
 have hz:=PO hT hie;rw[←WG k kvs 0];cases hx:Fq k kvs 0 with
 |none=>
  cases ok<;>simp[Instr.lookup,run_underlying hu',hg,hk.check P kt w _ k hkt,KH hk hkt k h2,hx,hz]
 |some x=>
  obtain⟨j,v⟩:=x;cases ok<;>simp[Instr.lookup,run_underlying hu',hg,hk.check P kt w _ k hkt,KH hk hkt k h2,hx]
theorem tH(hT:BX P T0){t kt et:TypeId}{i ie:TI}{d:TypeDesc}{enc:κ→Value}(hk:Bq d enc)(hi:tf T0 t=some i)(hik:i.k= .map kt et)(hkt:P.underlying kt=some d)(hie:tf T0 et=some ie)
  {C:World→Prop}{k:κ}{ok:Bool}{K:Value→Prop}(hK:K (match ok with|false=>ie.zero|true=> .tuple ⟨[ie.zero,.bool false]⟩)):Fz P (Instr.lookup t (.map none) (enc k) ok) C K:=by
 refine⟨⟨_,λw _=>?_,hK⟩⟩;have hu:=CZ hT hi;rw[hik]at hu;have hu':P.underlying t=some (.map kt et):=hu;have hz:=PO hT hie;have hf:(Instr.findKey kt (enc k) (#[]:Array MapEntry).toList).run P w= .ok none w:=KH (α:=Value) (val:=id) (kvs:=[]) hk hkt k (by simp[Ff]) w;cases ok<;>simp[Instr.lookup,run_underlying hu',hk.check P kt w _ k hkt,hf,hz]
theorem O5(w:World)(m:Nat)(es es':Array MapEntry)(c c':Nat)(h:w.heap[m]?=some (.map es c)):(setObj m (.map es' c')).run P w= .ok () {w with heap:=w.heap.setIfInBounds m (.map es' c')}:=by
 simp[setObj,Sem.run,h]
theorem Ff.put{d:TypeDesc}{enc:κ→Value}{val:α→Value}(_hk:Bq d enc){k:κ}{v:α}: ∀(es:List MapEntry)(kvs:List (κ×α))(i:Nat),es.map (λe=>(e.key,e.val))=(kvs.map λx=>(enc x.1,val x.2))→
  match Fq k kvs i with
  |none=>(es++[({key:=enc k,val:=val v,born:=0}:MapEntry)]).map (λ(e:MapEntry)=>(e.key,e.val))=((Ba k v kvs).map λx=>(enc x.1,val x.2))
  |some (j,_)=>i≤j∧(es.modify (j-i) λ(e:MapEntry)=>{e with key:=enc k,val:=val v}).map (λ(e:MapEntry)=>(e.key,e.val))=((Ba k v kvs).map λx=>(enc x.1,val x.2))∧ ∃e,es[j-i]?=some e∧e.key=enc k
 |[],[],_,_=>rfl
 |[],_::_,_,h=>by simp at h
 |_::_,[],_,h=>by simp at h
 |e::es,(a,u)::r,i,h=>by
  simp only[A4,List.cons.injEq,Prod.mk.injEq]at h;obtain⟨⟨h1,h2⟩,h3⟩:=h;simp only[Fq,Ba];by_cases hka:k=a
  ·subst hka;simp[h1,h3]
  ·rw[if_neg hka,if_neg hka];have ih:=Ff.put _hk (k:=k) (v:=v) es r (i+1) h3;cases hx:Fq k r (i+1)with
   |none=>
    rw[hx]at ih;simp only at ih⊢;simp only[A4,D3,h1,h2,ih]
   |some x=>
    obtain⟨j,y⟩:=x;rw[hx]at ih;simp only at ih⊢;obtain⟨h4,h5,h6⟩:=ih;have e1:j-i=(j-(i+1))+1:=AA;refine⟨AA,?_,?_⟩
    ·rw[e1,List.modify_succ_cons,A4,h5,h1,h2];rfl
    ·rw[e1];simpa using h6
theorem Bq.inj{d:TypeDesc}{enc:κ→Value}(hk:Bq d enc){a b:κ}(h:enc a=enc b):a=b:=by
 have h1:=hk.same a b;rw[←h,hk.same a a]at h1;simpa using h1
theorem WH{k:κ}: ∀{kvs:List (κ×α)}{i:Nat},Fq k kvs i=none→k∉kvs.map (·.1)
 |[],_,_=>AB
 |(a,v)::r,i,h=>by
  simp only[Fq]at h;by_cases hka:k=a
  ·rw[if_pos hka]at h;cases h
  ·rw[if_neg hka]at h;have:=WH h;simp at this⊢;exact⟨hka,this⟩
theorem Ff.keys{d:TypeDesc}{enc:κ→Value}(_hk:Bq d enc){val:α→Value}{es:Array MapEntry}{kvs:List (κ×α)}(h:Ff enc val es kvs):es.toList.map (·.key)=kvs.map λx=>enc x.1:=by
 have:=congrArg (List.map Prod.fst) h;simpa[Function.comp_def]using this
theorem St.mapSet(hT:BX P T0){t kt et:TypeId}{i:TI}{d:TypeDesc}{enc:κ→Value}{val:α→Value}(hk:Bq d enc)(hi:tf T0 t=some i)(hik:i.k= .map kt et)(hkt:P.underlying kt=some d)
  {w0 w:World}{T:List Nat}{H:AH}{m:Nat}{es:Array MapEntry}{clock:Nat}{F:Obj→AH}(hS:St w0 T H w) [Slot H m (.map es clock) F]{k:κ}{v:α}{kvs:List (κ×α)}(hesC:MapC enc val es clock kvs)
  {K:Unit→World→Prop}(h: ∀es' clock' w',MapC enc val es' clock' (Ba k v kvs)→St w0 T (F (.map es' clock')) w'→K () w'):Bk P (Instr.mapUpdate t (.map (some m)) (enc k) (val v)) w K:=by
 have hes:=hesC.of;have hu:=CZ hT hi;rw[hik]at hu;have hu':P.underlying t=some (.map kt et):=hu;have hmem:=hS.mem (b:=m) (o:= .map es clock);have hg:(getObj m).run P w= .ok (.map es clock) w:=by simp[getObj,Sem.run,hmem]
 have hput:=Ff.put hk (k:=k) (v:=v) es.toList kvs 0 hes;have fin: ∀es' c',St w0 T (F (.map es' c')) {w with heap:=w.heap.setIfInBounds m (.map es' c')}:=λes' c'=>by
  refine hS.setBlock (b:=m) (o:= .map es clock) rfl rfl rfl AB (λj hj=>?_) ?_
  ·simp only[Array.getElem?_setIfInBounds];rw[if_neg (Ne.symm hj)]
  ·have hlt:=(Array.getElem?_eq_some_iff.1 hmem).1;simp[hlt]
 cases hx:Fq k kvs 0 with
 |none=>
  rw[hx]at hput;refine⟨⟨(),_,?_,h (es.push {key:=enc k,val:=val v,born:=clock}) (clock+1) _ ?_ (fin _ _)⟩⟩
  ·simp[Instr.mapUpdate,run_underlying hu',hg,hk.check P kt w _ k hkt,KH hk hkt k hes,hx,O5 w m es _ clock _ hmem]
  ·refine⟨?_,?_⟩
   ·unfold Ff;simp only[Array.toList_push];simpa using hput
   ·simp only[Array.toList_push];refine hesC.st.push ?_;rw[hes.keys hk];intro hm;obtain⟨y,hy,hye⟩:=BV.1 hm;have:=hk.inj hye;exact WH hx (BV.2 ⟨y,hy,this⟩)
 |some x=>
  obtain⟨j,y⟩:=x;rw[hx]at hput;simp only[Ag,true_and,Nat.sub_zero]at hput;obtain⟨h1,e,h2,h3⟩:=hput;refine⟨⟨(),_,?_,h (es.modify j λe=>{e with key:=enc k,val:=val v}) clock _ ?_ (fin _ _)⟩⟩
  ·have h2':es[j]?=some e:=by simpa using h2
   simp[Instr.mapUpdate,run_underlying hu',hg,hk.check P kt w _ k hkt,KH hk hkt k hes,hx,h2',h3,Instr.keyThatStays,hk.bits,O5 w m es _ clock _ hmem]
  ·refine⟨?_,?_⟩
   ·unfold Ff;simp only[Array.toList_modify];exact h1
   ·simp only[Array.toList_modify];exact hesC.st.modify h2 h3
theorem Ff.del{enc:κ→Value}{val:α→Value}{k:κ}: ∀(es:List MapEntry)(kvs:List (κ×α))(i:Nat),es.map (λe=>(e.key,e.val))=(kvs.map λx=>(enc x.1,val x.2))→
  match Fq k kvs i with
  |none=>Co k kvs=kvs
  |some (j,_)=>i≤j∧j-i<es.length∧(es.eraseIdx (j-i)).map (λ(e:MapEntry)=>(e.key,e.val))=((Co k kvs).map λx=>(enc x.1,val x.2))
 |[],[],_,_=>rfl
 |[],_::_,_,h=>by simp at h
 |_::_,[],_,h=>by simp at h
 |e::es,(a,u)::r,i,h=>by
  simp only[A4,List.cons.injEq,Prod.mk.injEq]at h;obtain⟨⟨h1,h2⟩,h3⟩:=h;simp only[Fq,Co];by_cases hka:k=a
  ·subst hka;simp[h3]
  ·rw[if_neg hka,if_neg hka];have ih:=Ff.del (k:=k) es r (i+1) h3;cases hx:Fq k r (i+1)with
   |none=>rw[hx]at ih;simp only at ih⊢;rw[ih]
   |some x=>
    obtain⟨j,y⟩:=x;rw[hx]at ih;simp only at ih⊢;obtain⟨h4,h5,h6⟩:=ih;have e1:j-i=(j-(i+1))+1:=AA;refine⟨AA,by simp;omega,?_⟩;rw[e1,List.eraseIdx_cons_succ,A4,h6,h1,h2];rfl
theorem St.mapDel(hT:BX P T0){t kt et u ty:TypeId}{i:TI}{d:TypeDesc}{enc:κ→Value}{val:α→Value}(hk:Bq d enc)(hi:tf T0 t=some i)(hik:i.k= .map kt et)(hkt:P.underlying kt=some d)
  {w0 w:World}{T:List Nat}{H:AH}{m:Nat}{es:Array MapEntry}{clock:Nat}{F:Obj→AH}(hS:St w0 T H w) [Slot H m (.map es clock) F]{k:κ}{kvs:List (κ×α)}(hesC:MapC enc val es clock kvs)
  {K:Value→World→Prop}(h: ∀es' clock' w',MapC enc val es' clock' (Co k kvs)→St w0 T (F (.map es' clock')) w'→K (.tuple #[]) w'):Bk P (Builtin.delete_ ⟨[t,u]⟩ ty ⟨[.map (some m),enc k]⟩) w K:=by
 have hes:=hesC.of;have hu:=CZ hT hi;rw[hik]at hu;have hu':P.underlying t=some (.map kt et):=hu;have hmem:=hS.mem (b:=m) (o:= .map es clock);have hg:(getObj m).run P w= .ok (.map es clock) w:=by simp[getObj,Sem.run,hmem]
 have hdel:=Ff.del (k:=k) es.toList kvs 0 hes;have fin: ∀es' c',St w0 T (F (.map es' c')) {w with heap:=w.heap.setIfInBounds m (.map es' c')}:=λes' c'=>by
  refine hS.setBlock (b:=m) (o:= .map es clock) rfl rfl rfl AB (λj hj=>?_) ?_
  ·simp only[Array.getElem?_setIfInBounds];rw[if_neg (Ne.symm hj)]
  ·have hlt:=(Array.getElem?_eq_some_iff.1 hmem).1;simp[hlt]
 cases hx:Fq k kvs 0 with
 |none=>
  rw[hx]at hdel;refine⟨⟨_,_,?_,h es clock _ (by rw[hdel];exact hesC) (fin _ _)⟩⟩;simp[Builtin.delete_,run_underlying hu',hg,hk.check P kt w _ k hkt,KH hk hkt k hes,hx,O5 w m es _ clock _ hmem]
 |some x=>
  obtain⟨j,y⟩:=x;rw[hx]at hdel;simp only[Ag,true_and,Nat.sub_zero]at hdel;obtain⟨h1,h2⟩:=hdel;have h1':j<es.size:=by simpa using h1
  refine⟨⟨_,_,?_,h (es.eraseIdxIfInBounds j) clock _ ?_ (fin _ _)⟩⟩
  ·simp[Builtin.delete_,run_underlying hu',hg,hk.check P kt w _ k hkt,KH hk hkt k hes,hx,O5 w m es _ clock _ hmem]
  ·refine⟨?_,?_⟩
   ·unfold Ff;rw[Array.eraseIdxIfInBounds,dif_pos h1',Array.toList_eraseIdx];exact h2
   ·rw[Array.eraseIdxIfInBounds,dif_pos h1',Array.toList_eraseIdx];exact hesC.st.erase j
end
end Go.Eng
namespace Go.Proofs.YtkgibdhpijdbfaaGreatDoor
open Go Go.Eng Go.Proofs
abbrev AE:=List UInt8
def AY(n:Int):Value:= .int .i64 n
theorem Bd{P:Program}{T:BO}(hT:BX P T){t:TypeId}{i:TI}{e:TypeId}(hi:tf T t=some i)(hk:i.k= .ptr e):P.underlying t=some (.pointer (P.pointee t)):=by
 have:=CZ hT hi;rw[hk]at this;have h:P.underlying t=some (.pointer e):=this;simp[Program.pointee,h]
abbrev ptr(b:Nat):Value:= .pointer (some ⟨b,0,none⟩)
def BG(ps:List (List UInt8)):Nat:=(ps.map List.length).sum
theorem NJ(ps:List (List UInt8))(k:Nat)(hk:k<ps.length):BG (ps.take (k+1))=BG (ps.take k)+ps[k].length:=by
 unfold BG;rw[Bs hk,A7,IL];simp
theorem Jh(ps:List (List UInt8))(k:Nat):BG (ps.take k)≤BG ps:=by
 have h:=congrArg (λl=>(l.map List.length).sum) (CO k ps);simp only[A7,IL]at h;unfold BG;omega
theorem WM(ps:List (List UInt8))(k:Nat)(hk:k<ps.length):ps[k].length≤BG ps:=by
 have h1:=NJ ps k hk;have h2:=Jh ps (k+1);omega
theorem Mv{b:Nat}{o:Obj}{H:AH}{w0 w:World}{T:List Nat}(hS:St w0 T ((b,o)::H) w):b∉keys H:=by
 have:=hS.nd;simp only[keys,A4,Ew]at this;exact this.1
theorem St.arrNew{w0 w:World}{T:List Nat}{H L:AH}{F:AH→AH}(hS:St w0 T H w) [hc:Chunk H L F]{a:Option Addr}{xs:List Value}(h:Arr w0 T a xs):Arr w (keys L) a xs:=λj x hx=>by
 obtain⟨b,off,h1,h2,h3⟩:=h j x hx;refine⟨b,off,h1,λhm=>?_,hS.oldCell (a:=⟨b,off+j,none⟩) h2 h3⟩;obtain⟨A,B,hH,_⟩:=hc.at_;obtain⟨p,hp,rfl⟩:=BV.1 hm;refine h2 (hS.fresh p (by rw[hH];simp[hp]) ?_);cases hb:w0.heap[p.1]? with
 |none=>simp[World.cell?,hb]at h3
 |some o=>exact(Array.getElem?_eq_some_iff.1 hb).1
def lT(id:Nat)(K:AZ→World→Prop):Exit→AZ→World→Prop
 |.exit k,e,w=>k=id∧K e w
 |_,_,_=>False
theorem JI.join{P:Program}{N:Nat}{c y:Code}{id:Nat}{Q1 Q2:Exit→AZ→World→Prop}{e:AZ}{w:World}{ι:Type}(I:ι→AZ)(J:ι→World→Prop)
  (h:JI P N c (lT id λe' w'=>∃i,I9 (I i) e'∧J i w') e w)(hy: ∀i w',J i w'→AL P N y Q1 (I i) w'):JI P N c (JN id (Gt (AL P N y Q1) Q2)) e w:=by
 refine⟨h.out.mono λex e' w' hq=>?_⟩;cases ex with
 |exit k=>
  obtain⟨rfl,i,h1,h2⟩:=hq;simp only[JN,Gt,Nat.beq_refl];exact AL.weaken h1 (hy i w' h2)
 |_=>exact hq.elim
theorem Arr.dropA{w:World}{T:List Nat}{g off cap:Nat}{xs ys:List Value}(h:Arr w T (some ⟨g,off,none⟩) (xs++ys))(hc:xs.length+ys.length≤cap):Arr w T (CV g off xs.length cap 1) ys:=by
 unfold CV
 split
 ·have:ys=[]:=Is AA;subst this;exact Arr.nil _ _ _
 ·intro j x hj;obtain⟨b,o,h1,h2,h3⟩:=h (xs.length+j) x (by rw[Dp AA,show xs.length+j-xs.length=j by omega];exact hj);simp at h1;obtain⟨rfl,rfl⟩:=h1;exact⟨g,off+xs.length*1,rfl,h2,by rw[show off+xs.length*1+j=off+(xs.length+j) by omega];exact h3⟩
theorem Arr.left{w:World}{T:List Nat}{a:Option Addr}{ps qs:List AE}(h:Arr w T a ((ps++qs).map AG)):Arr w T a (ps.map AG):=by
 rw[A7]at h;exactλj x hx=>h j x (by rw[Cn ((FR.1 hx).1)];exact hx)
theorem Arr.right{w:World}{T:List Nat}{g off cap n:Nat}{ps qs:List AE}(h:Arr w T (some ⟨g,off,none⟩) ((ps++qs).map AG))(hn:n=ps.length)(hc:ps.length+qs.length≤cap):Arr w T (CV g off n cap 1) (qs.map AG):=by
 rw[A7]at h;have:=Arr.dropA (cap:=cap) h (by simpa using hc);rwa[BM,←hn]at this
theorem uV{w0 w:World}{T:List Nat}{A B C:AH}(hS:St w0 T (A++(B++C)) w): ∀b∈keys A,b∉keys B:=by
 have:=hS.nd;rw[show keys (A++(B++C))=keys A++(keys B++keys C) by simp[keys]]at this;intro b hb hB;exact(FU.1 this).2.2 b hb b (EO _ hB) rfl
theorem Arr.take{w:World}{T:List Nat}{a:Option Addr}{xs ys:List Value}(h:Arr w T a (xs++ys)):Arr w T a xs:=λj x hx=>h j x (by
 rw[Cn ((FR.1 hx).1)];exact hx)
end Go.Proofs.YtkgibdhpijdbfaaGreatDoor
namespace Go.Eng
open Go
section
variable {P : Program} {T0 : BO}
theorem foldl_push_bytes: ∀(l:List UInt8)(r:ByteArray),(l.map (λb=>(b.toNat:Int))).foldl (λr n=>r.push (UInt8.ofNat n.toNat)) r=⟨r.data++l.toArray⟩
 |[],r=>AB
 |b::l,r=>by
  simp only[A4,HJ,foldl_push_bytes l];apply ByteArray.ext;simp
theorem SP(hT:BX P T0){s d e:TypeId}{i ie id:TI}(hi:tf T0 s=some i)(hk:i.k= .slice e 1)(hie:tf T0 e=some ie)(hke:ie.k= .int .u8)(hid:tf T0 d=some id)(hkd:id.k= .str)
  {C:World→Prop}{T:List Nat}{a:Option Addr}{bs:List UInt8}{n cap:Nat}(hn:bs.length=n)(ha: ∀w,C w→Arr w T a (bs.map Eg)){K:Value→Prop}(hK:K (AG bs)):
  Fz P (convert s d (.slice a n cap)) C K:=by
 refine⟨⟨_,λw hw=>?_,hK⟩⟩;have hs:=CZ hT hi;rw[hk]at hs;have he:=CZ hT hie;rw[hke]at he;have hd:=CZ hT hid;rw[hkd]at hd;rw[run_convert_bytes_string w s d e a n cap hs.1 he hd];cases a with
 |none=>
  cases bs with
  |nil=>rfl
  |cons b bs=>obtain⟨_,_,h,_⟩:=ha w hw 0 (Eg b) rfl;cases h
 |some a=>
  have h1:=run_loadCells_list (P:=P) (w:=w) a ((bs.map λb=>(b.toNat:Int)).map (Value.int .u8)) (λj v hj=>by
   have hj':(bs.map Eg)[j]?=some v:=by simpa[Eg,Ex,Function.comp]using hj
   obtain⟨bk,off,h1,_,h3⟩:=ha w hw j v hj';cases h1;rw[Addr.add_eq];exact h3)
  rw[run_bytesToString (P:=P) w a n cap (bs.map λb=>(b.toNat:Int)) (by simpa[hn]using h1)]
  congr 2
  rw[foldl_push_bytes];simp
end
/-! ### Unsigned integers-/
theorem Fc(k:IntKind)(hs:k.signed=false)(n:Nat):k.wrap (n:Int)=((n % 2 ^ k.bits:Nat):Int):=by
 unfold IntKind.wrap;simp only[hs];simp
theorem PJ(n:Nat):IntKind.u8.wrap (n:Int)=((UInt8.ofNat n).toNat:Int):=by
 rw[Fc .u8 rfl];simp[UInt8.toNat_ofNat'];rfl
theorem qR(n k:Nat):(n:Int).fdiv (k:Int)=((n / k:Nat):Int):=by
 rw[←Int.ofNat_fdiv]
theorem Io(n k:Nat):(n:Int).fdiv (2 ^ k)=((n / 2 ^ k:Nat):Int):=by
 have:((2:Int) ^ k)=((2 ^ k:Nat):Int):=AB;rw[this,qR]
theorem LH(k:IntKind)(hs:k.signed=false)(x y:Nat)(hx:x<2 ^ k.bits)(hy:y<2 ^ k.bits):HV k x y=((x ||| y:Nat):Int):=by
 unfold HV;rw[BitVec.toNat_or,BitVec.ofInt_natCast,BitVec.ofInt_natCast,BitVec.toNat_ofNat,BitVec.toNat_ofNat,Dy hx,Dy hy,Fc k hs,Dy (Nat.or_lt_two_pow hx hy)]
theorem Np(k:IntKind)(hs:k.signed=false)(x y:Nat)(hx:x<2 ^ k.bits)(hy:y<2 ^ k.bits):F3 k x y=((x &&& y:Nat):Int):=by
 unfold F3;rw[BitVec.toNat_and,BitVec.ofInt_natCast,BitVec.ofInt_natCast,BitVec.toNat_ofNat,BitVec.toNat_ofNat,Dy hx,Dy hy,Fc k hs,Dy (Nat.and_lt_two_pow _ hy)]
theorem Sc(k:IntKind)(hs:k.signed=false)(x y:Nat)(hx:x<2 ^ k.bits)(hy:y<2 ^ k.bits):Gv k x y=((x ^^^ y:Nat):Int):=by
 unfold Gv;rw[BitVec.toNat_xor,BitVec.ofInt_natCast,BitVec.ofInt_natCast,BitVec.toNat_ofNat,BitVec.toNat_ofNat,Dy hx,Dy hy,Fc k hs,Dy (Nat.xor_lt_two_pow hx hy)]
theorem On(a b k:Nat)(hb:b<2 ^ k):(a*2 ^ k) ||| b=a*2 ^ k+b:=by
 rw[←Nat.shiftLeft_eq,Nat.shiftLeft_add_eq_or_of_lt hb]
end Go.Eng
namespace Go.Proofs.YtkgibdhpijdbfaaGreatDoor
open Go Go.Eng Go.Proofs
section
variable {κ α β : Type} [DecidableEq κ]
theorem JW{k:κ}{v:α}: ∀{l:List (κ×α)},Al k l=some v→(k,v)∈l
 |[],h=>by cases h
 |(a,u)::r,h=>by
  unfold Al at h
  split at h
  ·rename_i e;subst e;cases h;exact CN
  ·exact CJ _ (JW h)
theorem JX{k:κ}: ∀{l:List (κ×α)},Al k l=none↔k∉l.map (·.1)
 |[]=>by simp[Al]
 |(a,u)::r=>by
  unfold Al
  split
  ·rename_i e;subst e;simp
  ·rename_i e;rw[JX (l:=r)];simp[e]
theorem F9{k:κ}{v:α}: ∀{l:List (κ×α)},(l.map (·.1)).Nodup→(k,v)∈l→Al k l=some v
 |[],_,h=>by cases h
 |(a,u)::r,hn,h=>by
  rw[A4,Ew]at hn;unfold Al;rcases As.1 h with e|h
  ·cases e;rw[if_pos rfl]
  ·have:k≠a:=λe=>hn.1 (by rw[←e];exact CD (f:=(·.1)) h);rw[if_neg this];exact F9 hn.2 h
theorem IP{k:κ}{v:α}: ∀{l:List (κ×α)}{x:κ×α},x∈Ba k v l→x=(k,v)∨x∈l
 |[],x,h=>by simp[Ba]at h;exact .inl h
 |(a,u)::r,x,h=>by
  unfold Ba at h
  split at h
  ·rcases As.1 h with h|h
   ·exact .inl h
   ·exact .inr (CJ _ h)
  ·rcases As.1 h with h|h
   ·exact .inr (by rw[h];exact CN)
   ·rcases IP h with h|h
    ·exact .inl h
    ·exact .inr (CJ _ h)
theorem WJ{k:κ}{v:α}: ∀{l:List (κ×α)}{x:κ},x∈(Ba k v l).map (·.1)↔x=k∨x∈l.map (·.1)
 |[],x=>by simp[Ba]
 |(a,u)::r,x=>by
  unfold Ba
  split
  ·rename_i e;subst e;simp
  ·rw[A4,As,WJ (l:=r),A4,As];grind
theorem Mq{k:κ}{v:α}: ∀{l:List (κ×α)},(l.map (·.1)).Nodup→((Ba k v l).map (·.1)).Nodup
 |[],_=>by simp[Ba]
 |(a,u)::r,h=>by
  unfold Ba
  split
  ·rename_i e;subst e;exact h
  ·rename_i e;rw[A4,Ew]at h⊢;refine⟨λhm=>?_,Mq h.2⟩;rcases WJ.1 hm with h'|h'
   ·exact e h'.symm
   ·exact h.1 h'
theorem JY(k:κ)(v:α): ∀l:List (κ×α),(Ba k v l).length≤l.length+1
 |[]=>by simp[Ba]
 |(a,u)::r=>by
  unfold Ba
  split
  ·simp
  ·have:=JY k v r;simp only[Ai];omega
theorem OY{k:κ}{v:α}: ∀{l:List (κ×α)},k∉l.map (·.1)→Ba k v l=l++[(k,v)]
 |[],_=>rfl
 |(a,u)::r,h=>by
  rw[A4,As,not_or]at h;unfold Ba;rw[if_neg h.1,OY h.2];rfl
theorem GZ(k:κ): ∀l:List (κ×α),(Co k l).Sublist l
 |[]=>List.nil_sublist _
 |(a,u)::r=>by
  unfold Co
  split
  ·exact AS _ _
  ·exact(GZ k r).cons_cons _
theorem OX{k:κ}{l:List (κ×α)}(h:(l.map (·.1)).Nodup):((Co k l).map (·.1)).Nodup:=h.sublist ((GZ k l).map _)
theorem J7(k j:κ): ∀{l:List (κ×α)},(l.map (·.1)).Nodup→Al j (Co k l)=if j=k then none else Al j l
 |[],_=>by simp[Co,Al]
 |(a,u)::r,h=>by
  rw[A4,Ew]at h;unfold Co
  split
  ·rename_i e;subst e
   split
   ·rename_i e;subst e;exact JX.2 h.1
   ·rename_i e;rw[Al,if_neg e]
  ·rename_i e;unfold Al;rw[J7 k j h.2]
   split
   ·rename_i e2;subst e2;rw[if_neg (λe3=>e e3.symm)]
   ·rfl
end
end Go.Proofs.YtkgibdhpijdbfaaGreatDoor
namespace Go.Proofs.YtkgibdhpijdbfaaGreatDoor
open Go Go.Eng Go.Proofs
def EY(k:AE):Nat:=k.foldl (λh c=>((h ^^^ c.toNat)*1099511628211) % 18446744073709551616) 14695981039346656037
theorem rX(k:AE):EY k<18446744073709551616:=by
 unfold EY;rcases J2 k with rfl|⟨l,c,rfl⟩
 ·show 14695981039346656037<18446744073709551616;omega
 ·rw[List.concat_eq_append,Hq,HJ,List.foldl_nil];exact FP _ AA
def BW(k:AE)(m i:Nat):Nat:=(EY k % 4294967296+i*(EY k / 4294967296 ||| 1)) % m
def LI(k:AE)(m:Nat):List Nat:=(List.range 4).map (BW k m)
def Fu(bits:List Nat)(p:Nat):List Nat:=bits.set (p / 8) (bits.getD (p / 8) 0 ||| 2 ^ (p % 8))
def E7(bits:List Nat)(p:Nat):Bool:=(bits.getD (p / 8) 0).testBit (p % 8)
theorem R7(bits:List Nat)(p:Nat):(Fu bits p).length=bits.length:=by simp[Fu]
def HZ(bits:List Nat)(k:AE):List Nat:=(LI k (8*bits.length)).foldl Fu bits
theorem Va: ∀(ps:List Nat)(bits:List Nat),(ps.foldl Fu bits).length=bits.length
 |[],_=>rfl
 |p::ps,bits=>by rw[HJ,Va ps,R7]
theorem R8(bits:List Nat)(k:AE):(HZ bits k).length=bits.length:=Va _ _
theorem xG{bits:List Nat}{p q:Nat}(h:E7 bits q=true):E7 (Fu bits p) q=true:=by
 unfold E7 Fu at*;rw[Gn,List.getElem?_set]at*
 split
 ·rename_i hpq
  split
  ·simp only[FD,Nat.testBit_or,Bool.or_eq_true];left;rw[hpq];rw[Gn];exact h
  ·rename_i hl;rw[List.getElem?_eq_none AA]at h;simp at h
 ·exact h
theorem xH{bits:List Nat}{p:Nat}(h:p / 8<bits.length):E7 (Fu bits p) p=true:=by
 unfold E7 Fu;rw[Gn,List.getElem?_set_self h];simp only[FD,Nat.testBit_or,Bool.or_eq_true];right;simp[Nat.testBit_two_pow_self]
theorem Qr: ∀(ps:List Nat){bits:List Nat}{q:Nat},E7 bits q=true→E7 (ps.foldl Fu bits) q=true
 |[],_,_,h=>h
 |_::ps,_,_,h=>Qr ps (xG h)
theorem Vc: ∀(ps:List Nat){bits:List Nat}{q:Nat},q∈ps→q / 8<bits.length→E7 (ps.foldl Fu bits) q=true
 |p::ps,bits,q,h,hq=>by
  rw[HJ];rcases As.1 h with rfl|h
  ·exact Qr ps (xH hq)
  ·exact Vc ps h (by rw[R7];exact hq)
def Gj(keys:List AE):List Nat:=keys.foldl HZ (List.replicate ((10*keys.length+7) / 8) 0)
def Du(keys:List AE):AE:=match keys with|[]=>[]|_=>(Gj keys).map UInt8.ofNat
def IU(f k:AE):Bool:= !decide (f=[])&&(LI k (8*f.length)).all λp=>E7 (f.map UInt8.toNat) p
theorem Qq: ∀(ks:List AE)(bits:List Nat),(ks.foldl HZ bits).length=bits.length
 |[],_=>rfl
 |k::ks,bits=>by rw[HJ,Qq ks,R8]
theorem VV: ∀(ks:List AE){bits:List Nat}{q:Nat},E7 bits q=true→E7 (ks.foldl HZ bits) q=true
 |[],_,_,h=>h
 |_::ks,_,_,h=>VV ks (Qr _ h)
theorem VX: ∀(ks:List AE){bits:List Nat}{k:AE},k∈ks→0<bits.length→ ∀q∈LI k (8*bits.length),E7 (ks.foldl HZ bits) q=true
 |k'::ks,bits,k,h,h0,q,hq=>by
  rw[HJ];rcases As.1 h with rfl|h
  ·refine VV ks (Vc _ hq ?_);obtain⟨i,_,rfl⟩:=BV.1 hq;have:=FP (EY k % 4294967296+i*(EY k / 4294967296 ||| 1)) (show 0<8*bits.length by omega);unfold BW;omega
  ·exact VX ks h (by rw[R8];exact h0) q (by rw[R8];exact hq)
theorem X8{bits:List Nat}(h: ∀x∈bits,x<256)(p:Nat): ∀x∈Fu bits p,x<256:=by
 intro x hx;rcases List.mem_or_eq_of_mem_set hx with hx|rfl
 ·exact h x hx
 ·have h1:bits.getD (p / 8) 0<2 ^ 8:=by
   rw[Gn];cases hg:bits[p / 8]? with
   |none=>simp
   |some y=>exact h y (List.mem_of_getElem? hg)
  have h2:2 ^ (p % 8)<2 ^ 8:=Nat.pow_lt_pow_right AA (FP _ AA);exact Nat.or_lt_two_pow h1 h2
theorem Vb: ∀(ps:List Nat){bits:List Nat},(∀x∈bits,x<256)→ ∀x∈ps.foldl Fu bits,x<256
 |[],_,h=>h
 |p::ps,_,h=>Vb ps (X8 h p)
theorem VW: ∀(ks:List AE){bits:List Nat},(∀x∈bits,x<256)→ ∀x∈ks.foldl HZ bits,x<256
 |[],_,h=>h
 |_::ks,_,h=>VW ks (Vb _ h)
theorem bO(keys:List AE): ∀x∈Gj keys,x<256:=VW _ (by intro x hx;rw[(List.mem_replicate.1 hx).2];decide)
theorem P8(keys:List AE):(Gj keys).length=(10*keys.length+7) / 8:=by unfold Gj;rw[Qq];simp
theorem tN{keys:List AE}{k:AE}(h:k∈keys):IU (Du keys) k=true:=by
 have e:Du keys=(Gj keys).map UInt8.ofNat:=by cases keys with|nil=>cases h|cons=>rfl
 have h1:0<keys.length:=List.length_pos_of_mem h;have hl:=P8 keys;have h0:0<(Gj keys).length:=AA;unfold IU;rw[e,Bool.and_eq_true];refine⟨?_,C8.2 λq hq=>?_⟩
 ·rw[Bool.not_eq_eq_eq_not,Bool.not_true,decide_eq_false_iff_not];intro e2;have:=congrArg List.length e2;simp at this;rw[this]at h0;simp at h0
 ·have e3:((Gj keys).map UInt8.ofNat).map UInt8.toNat=Gj keys:=by
   rw[Fp];have: ∀x∈Gj keys,(UInt8.toNat∘UInt8.ofNat) x=x:=λx hx=>by
    have:=bO keys x hx;simp;omega
   rw[List.map_congr_left this,List.map_id']
  rw[e3];rw[BM]at hq;unfold Gj at hq⊢;rw[Qq]at hq;exact VX keys h (by simp;omega) q hq
end Go.Proofs.YtkgibdhpijdbfaaGreatDoor
namespace Go.Eng
open Go
section
variable {κ α : Type} {P : Program} {T0 : BO}
structure H6(enc:κ→Value)(val:α→Value)(es:Array MapEntry)(seen:Array Nat)(kvs done todo:List (κ×α)):Prop where
 perm:(done++todo).Perm kvs
 left:(leftOf es seen).toList.map (λe=>(e.key,e.val))=todo.map λx=>(enc x.1,val x.2)
theorem H6.start{enc:κ→Value}{val:α→Value}{es:Array MapEntry}{c:Nat}{kvs:List (κ×α)}(h:MapC enc val es c kvs):H6 enc val es #[] kvs [] kvs:=by
 refine⟨List.Perm.refl _,?_⟩;have:leftOf es #[]=es:=by simp[leftOf]
 rw[this];exact h.of
theorem s8{es:Array MapEntry}{seen:Array Nat}{e:MapEntry}{L1 L2:List MapEntry}(hn:(es.toList.map (·.born)).Nodup)(h:(leftOf es seen).toList=L1++e::L2):(leftOf es (seen.push e.born)).toList=L1++L2:=by
 have h1:(leftOf es (seen.push e.born)).toList=(leftOf es seen).toList.filter (λx=> !decide (x.born=e.born)):=by
  unfold leftOf;simp only[Array.toList_filter,List.filter_filter];apply List.filter_congr;intro x _;simp only[Array.contains_push,Bool.not_or];rw[Bool.and_comm]
  congr 1
 have h2:((leftOf es seen).toList.map (·.born)).Nodup:=by
  unfold leftOf;simp only[Array.toList_filter];exact List.Nodup.sublist (List.Sublist.map _ List.filter_sublist) hn
 rw[h1,h];rw[h,A7,A4,FU]at h2;obtain⟨_,h3,h4⟩:=h2;rw[Ew]at h3;rw[J3,List.filter_cons];simp only[decide_true,Bool.not_true,Bool.false_eq_true,if_false]
 congr 1
 ·rw[J4];intro x hx;have:=h4 x.born (CD hx) e.born AB;simpa using this
 ·rw[J4];intro x hx;have:x.born≠e.born:=λhe=>h3.1 (he▸CD hx);simpa using this
theorem WZ{β γ:Type}{f:β→γ}{g:κ×α→γ}: ∀{L1:List β}{e:β}{L2:List β}{todo:List (κ×α)},(L1++e::L2).map f=todo.map g→ ∃A x B,todo=A++x::B∧L1.map f=A.map g∧f e=g x∧L2.map f=B.map g
 |[],e,L2,[],h=>by simp at h
 |[],e,L2,x::B,h=>by simp at h;exact⟨[],x,B,rfl,rfl,h.1,h.2⟩
 |y::L1,e,L2,[],h=>by simp at h
 |y::L1,e,L2,z::todo,h=>by
  simp only[D3,A4,List.cons.injEq]at h;obtain⟨A,x,B,h1,h2,h3,h4⟩:=WZ h.2;exact⟨z::A,x,B,by rw[h1];rfl,by simp[h.1,h2],h3,h4⟩
variable {w0 w : World} {T : List Nat} {H : AH}
theorem St.rangeM(hT:BX P T0){t kt et:TypeId}{i:TI}(hi:tf T0 t=some i)(hk:i.k= .map kt et){m:Nat}{es:Array MapEntry}{c:Nat}{F:Obj→AH}(hS:St w0 T H w) [Slot H m (.map es c) F]
  {K:Value→World→Prop}(h: ∀it w',w0.heap.size≤it→St w0 T ((it,.mapIter (some m) c #[] c)::H) w'→K (.pointer (some ⟨it,0,none⟩)) w'):Bk P (Instr.range t (.map (some m))) w K:=by
 have hu:P.underlying t=some (.map kt et):=by have:=CZ hT hi;rw[hk]at this;exact this
 refine Bk.of (v:= .pointer (some ⟨w.heap.size,0,none⟩)) (w':=w.alloc (.mapIter (some m) c #[] c)) ?_ (h _ _ hS.size (hS.alloc _));have hm:=hS.mem (b:=m);simp only[Instr.range,Sem.run_bind,run_underlying hu,Result.andThen_ok,getObj,Sem.run,hm,Sem.run_pure]
 rfl
theorem St.nextM{enc:κ→Value}{val:α→Value}{es:Array MapEntry}{c m it:Nat}{seen:Array Nat}{kvs done todo:List (κ×α)}{ty:TypeId}{F:Obj→AH}(hS:St w0 T H w) [Slot H it (.mapIter (some m) c seen c) F]
  (hm:w.heap[m]?=some (.map es c))(hC:MapC enc val es c kvs)(hR:H6 enc val es seen kvs done todo){K:Value→World→Prop}
  (h0:todo=[]→K (.tuple ⟨[.bool false]⟩) w)
  (h1: ∀A x B e w',todo=A++x::B→H6 enc val es (seen.push e.born) kvs (done++[x]) (A++B)→e∈es.toList→e.key=enc x.1→e.val=val x.2→
   St w0 T (F (.mapIter (some m) c (seen.push e.born) c)) w'→K (.tuple ⟨[.bool true,enc x.1,val x.2]⟩) w'):Bk P (Instr.next (.pointer (some ⟨it,0,none⟩)) false ty) w K:=by
 rcases run_next_at (P:=P) w ty it m c c seen es c (hS.mem (b:=it)) hm hC.st.1 (AV _)with⟨hz,hrun⟩|⟨e,he,w1,hw1,hrun⟩
 ·refine Bk.of hrun (h0 ?_);have:=congrArg List.length hR.left;simp only[BM,Array.length_toList,hz]at this;exact Is this.symm
 ·obtain⟨L1,L2,hl⟩:=List.append_of_mem he;have hleft:=hR.left;rw[hl]at hleft;obtain⟨A,x,B,h2,h3,h4,h5⟩:=WZ hleft;simp only[Prod.mk.injEq]at h4;have hS1:St w0 T H w1:=by
   rcases hw1 with rfl|rfl
   ·exact hS
   ·exact hS.drew
  have hS2:St w0 T (F (.mapIter (some m) c (seen.push e.born) c)) (ChangeMaps.setBlock w1 it (.mapIter (some m) c (seen.push e.born) c)):=
   hS1.setBlock (b:=it) rfl rfl rfl (by simp[ChangeMaps.setBlock]) (λk hk=>by simp[ChangeMaps.setBlock,Array.getElem?_setIfInBounds_ne (Ne.symm hk)]) (by
    have h:=(Array.getElem?_eq_some_iff.1 (hS1.mem (b:=it))).1;simp[ChangeMaps.setBlock,h])
  refine Bk.of hrun ?_;rw[h4.1,h4.2];refine h1 A x B e _ h2 ⟨?_,?_⟩ ?_ h4.1 h4.2 hS2
  ·refine List.Perm.trans ?_ hR.perm;rw[h2,Aj];exact List.Perm.append_left _ (show(x::(A++B)).Perm (A++x::B)from Dd.symm)
  ·rw[s8 hC.st.2.1 hl,A7,A7,h3,h5]
  ·have:e∈(leftOf es seen).toList:=he;simp[leftOf]at this⊢;exact this.1
theorem St.entryM{enc:κ→Value}{val:α→Value}{es:Array MapEntry}{c m it:Nat}{seen:Array Nat}{kvs:List (κ×α)}{e:MapEntry}{x:κ×α}{F:Obj→AH}(hS:St w0 T H w) [Slot H it (.mapIter (some m) c (seen.push e.born) c) F]
  (hm:w.heap[m]?=some (.map es c))(hC:MapC enc val es c kvs)(he:e∈es.toList)(h1:e.key=enc x.1)(h2:e.val=val x.2){K:Value→World→Prop}(h:K (.tuple ⟨[enc x.1,val x.2]⟩) w):Bk P (Instr.entry (.pointer (some ⟨it,0,none⟩))) w K:=by
 refine Bk.of (run_entry_at w it m c seen es c e (hS.mem (b:=it)) hm he hC.st.2.1) ?_;rw[h1,h2];exact h
end
end Go.Eng
