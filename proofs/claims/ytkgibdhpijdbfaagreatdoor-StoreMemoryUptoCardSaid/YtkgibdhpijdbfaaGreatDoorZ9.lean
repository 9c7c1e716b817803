/- Texts of this claim, one behind the other. -/
import Derived.Shelf.Strconv.AtoiAll
import Derived.Lib.AtoiErrMem
import Derived.Ground.NamesProg
import Derived.Test.YtkgibdhpijdbfaaGreatDoorProg
import Derived.Test.YtkgibdhpijdbfaaGreatDoorZ2
import Derived.Test.YtkgibdhpijdbfaaGreatDoorZ3
import Derived.Shelf.Strconv.Itoa3
import Derived.Lib.LaidTab
import Derived.Lib.AppendIntMem
import Derived.Test.YtkgibdhpijdbfaaGreatDoorZ6
import Derived.Test.YtkgibdhpijdbfaaGreatDoorZ5
set_option linter.unusedVariables false
set_option linter.unusedSimpArgs false
set_option maxHeartbeats 16000000
namespace Go.Proofs
open Go.Shelf
def Tryz.laysAtoi_ren:Go.Shelf.Ren:=⟨λ |172=>123|244=>163|245=>164|247=>204|279=>205|280=>206|281=>207|282=>208|287=>226|316=>227|171=>124|205=>228|321=>245|322=>246|243=>165|246=>209|283=>229|284=>230|285=>231|286=>232|129=>198|317=>247|318=>248|319=>249|320=>250|337=>257|338=>258|n=>n,λ |9=>9|3=>3|75=>194|76=>195|4=>4|5=>5|167=>305|37=>189|0=>0|85=>306|2=>2|168=>308|53=>159|175=>327|46=>155|210=>331|127=>252|145=>349|143=>347|21=>21|171=>333|173=>335|212=>352|51=>235|20=>20|213=>353|232=>359|233=>360|80=>178|n=>n,λ |15=>1|16=>2|17=>3|18=>4|19=>5|n=>n⟩
theorem Tryz.laysAtoi:Go.Proofs.LaysC.n172 Tryz.prog Tryz.laysAtoi_ren:={
 mixed:=AD
 f129:=Tryz.func198.trans (congrArg some AD)
 f171:=Tryz.func124.trans (congrArg some AD)
 f172:=Tryz.func123.trans (congrArg some AD)
 f205:=Tryz.func228.trans (congrArg some AD)
 f243:=Tryz.func165.trans (congrArg some AD)
 f244:=Tryz.func163.trans (congrArg some AD)
 f245:=Tryz.func164.trans (congrArg some AD)
 f246:=Tryz.func209.trans (congrArg some AD)
 f247:=Tryz.func204.trans (congrArg some AD)
 f279:=Tryz.func205.trans (congrArg some AD)
 f280:=Tryz.func206.trans (congrArg some AD)
 f281:=Tryz.func207.trans (congrArg some AD)
 f282:=Tryz.func208.trans (congrArg some AD)
 f283:=Tryz.func229.trans (congrArg some AD)
 f284:=Tryz.func230.trans (congrArg some AD)
 f285:=Tryz.func231.trans (congrArg some AD)
 f286:=Tryz.func232.trans (congrArg some AD)
 f287:=Tryz.func226.trans (congrArg some AD)
 f316:=Tryz.func227.trans (congrArg some AD)
 f317:=Tryz.func247.trans (congrArg some AD)
 f318:=Tryz.func248.trans (congrArg some AD)
 f319:=Tryz.func249.trans (congrArg some AD)
 f320:=Tryz.func250.trans (congrArg some AD)
 f321:=Tryz.func245.trans (congrArg some AD)
 f322:=Tryz.func246.trans (congrArg some AD)
 f337:=Tryz.func257.trans (congrArg some AD)
 f338:=Tryz.func258.trans (congrArg some AD)
 t0:=Tryz.underlying0
 a0:=Tryz.isAgg0
 z0:=Tryz.sizeOf0
 v0:=Tryz.zeroValue0
 t2:=Tryz.underlying2
 a2:=Tryz.isAgg2
 z2:=Tryz.sizeOf2
 v2:=Tryz.zeroValue2
 t3:=Tryz.underlying3
 a3:=Tryz.isAgg3
 z3:=Tryz.sizeOf3
 v3:=Tryz.zeroValue3
 t4:=Tryz.underlying4
 a4:=Tryz.isAgg4
 z4:=Tryz.sizeOf4
 v4:=Tryz.zeroValue4
 t5:=Tryz.underlying5
 a5:=Tryz.isAgg5
 z5:=Tryz.sizeOf5
 v5:=Tryz.zeroValue5
 t9:=Tryz.underlying9
 a9:=Tryz.isAgg9
 z9:=Tryz.sizeOf9
 v9:=Tryz.zeroValue9
 t20:=Tryz.underlying20
 a20:=Tryz.isAgg20
 z20:=Tryz.sizeOf20
 v20:=Tryz.zeroValue20
 t21:=Tryz.underlying21
 a21:=Tryz.isAgg21
 z21:=Tryz.sizeOf21
 v21:=Tryz.zeroValue21
 t37:=Tryz.underlying189
 a37:=Tryz.isAgg189
 z37:=Tryz.sizeOf189
 v37:=Tryz.zeroValue189
 t46:=Tryz.underlying155
 a46:=Tryz.isAgg155
 z46:=Tryz.sizeOf155
 v46:=Tryz.zeroValue155
 t51:=Tryz.underlying235
 a51:=Tryz.isAgg235
 z51:=Tryz.sizeOf235
 v51:=Tryz.zeroValue235
 t53:=Tryz.underlying159
 a53:=Tryz.isAgg159
 z53:=Tryz.sizeOf159
 v53:=Tryz.zeroValue159
 t75:=Tryz.underlying194
 a75:=Tryz.isAgg194
 z75:=Tryz.sizeOf194
 v75:=Tryz.zeroValue194
 t76:=Tryz.underlying195
 a76:=Tryz.isAgg195
 z76:=Tryz.sizeOf195
 v76:=Tryz.zeroValue195
 t85:=Tryz.underlying306
 a85:=Tryz.isAgg306
 z85:=Tryz.sizeOf306
 v85:=Tryz.zeroValue306
 t127:=Tryz.underlying252
 a127:=Tryz.isAgg252
 z127:=Tryz.sizeOf252
 v127:=Tryz.zeroValue252
 t143:=Tryz.underlying347
 a143:=Tryz.isAgg347
 z143:=Tryz.sizeOf347
 v143:=Tryz.zeroValue347
 t145:=Tryz.underlying349
 a145:=Tryz.isAgg349
 z145:=Tryz.sizeOf349
 v145:=Tryz.zeroValue349
 t167:=Tryz.underlying305
 a167:=Tryz.isAgg305
 z167:=Tryz.sizeOf305
 v167:=Tryz.zeroValue305
 t168:=Tryz.underlying308
 a168:=Tryz.isAgg308
 z168:=Tryz.sizeOf308
 v168:=Tryz.zeroValue308
 t171:=Tryz.underlying333
 a171:=Tryz.isAgg333
 z171:=Tryz.sizeOf333
 v171:=Tryz.zeroValue333
 t173:=Tryz.underlying335
 a173:=Tryz.isAgg335
 z173:=Tryz.sizeOf335
 v173:=Tryz.zeroValue335
 t175:=Tryz.underlying327
 a175:=Tryz.isAgg327
 z175:=Tryz.sizeOf327
 v175:=Tryz.zeroValue327
 t210:=Tryz.underlying331
 a210:=Tryz.isAgg331
 z210:=Tryz.sizeOf331
 v210:=Tryz.zeroValue331
 t212:=Tryz.underlying352
 a212:=Tryz.isAgg352
 z212:=Tryz.sizeOf352
 v212:=Tryz.zeroValue352
 t213:=Tryz.underlying353
 a213:=Tryz.isAgg353
 z213:=Tryz.sizeOf353
 t232:=Tryz.underlying359
 a232:=Tryz.isAgg359
 z232:=Tryz.sizeOf359
 v232:=Tryz.zeroValue359
 t233:=Tryz.underlying360
 a233:=Tryz.isAgg360
 z233:=Tryz.sizeOf360
 v233:=Tryz.zeroValue360
 g15:=AD
 g16:=AD
 g17:=AD
 g18:=AD
 g19:=AD
 t80:=Tryz.underlying178
 a80:=Tryz.isAgg178
 z80:=Tryz.sizeOf178
 v80:=Tryz.zeroValue178
 i0:=AD
 i2:=AD
 i3:=AD
 i4:=AD
 i5:=AD
 i9:=AD
 i20:=AD
 i21:=AD
 i37:=AD
 i46:=AD
 i51:=AD
 i53:=AD
 i75:=AD
 i76:=AD
 i80:=AD
 i85:=AD
 i127:=AD
 i143:=AD
 i145:=AD
 i167:=AD
 i168:=AD
 i171:=AD
 i173:=AD
 i175:=AD
 i210:=AD
 i212:=AD
 i232:=AD
 i233:=AD
 m15:=AD
 m16:=AD
 m17:=AD
 m18:=AD
 m19:=AD
 c0:=AD
 c2:=AD
 c3:=AD
 c4:=AD
 c5:=AD
 c9:=AD
 c20:=AD
 c21:=AD
 c37:=AD
 c46:=AD
 c51:=AD
 c53:=AD
 c75:=AD
 c76:=AD
 c80:=AD
 c85:=AD
 c127:=AD
 c143:=AD
 c145:=AD
 c167:=AD
 c168:=AD
 c171:=AD
 c173:=AD
 c175:=AD
 c210:=AD
 c212:=AD
 c213:=AD
 c232:=AD
 c233:=by kernel_rfl}
end Go.Proofs
namespace Go.Proofs.YtkgibdhpijdbfaaGreatDoor
open Go Go.Eng Go.Proofs Go.RowKit
abbrev Mc:Nat:=1
abbrev Me:Nat:=2
structure H1(w:World):Prop where
 syn: ∃t p,w.cell? ⟨Mc,0,none⟩=some (.iface t p)
 ran: ∃t p,w.cell? ⟨Me,0,none⟩=some (.iface t p)
theorem H1.keep{w0 w:World}{T:List Nat}{H:AH}(h:H1 w0)(hS:St w0 T H w)(h0:Mc∉T)(h1:Me∉T):H1 w:=by
 obtain⟨⟨t,p,e⟩,⟨t',p',e'⟩⟩:=h;exact⟨⟨t,p,hS.oldCell h0 e⟩,⟨t',p',hS.oldCell h1 e'⟩⟩
theorem H1.apart{w:World}(h:H1 w){b:Nat}{x:Value}{l:List Value}{t:TypeId}{fz:Nat×Nat}(hm:w.heap[b]?=some (.cells ⟨x::l⟩ t fz))(hx: ∀t p,x≠ .iface t p):b≠Mc∧b≠Me:=by
 obtain⟨⟨t0,p0,e0⟩,⟨t1,p1,e1⟩⟩:=h;refine⟨λe=>?_,λe=>?_⟩
 ·subst e;simp[World.cell?,hm]at e0;exact hx _ _ e0
 ·subst e;simp[World.cell?,hm]at e1;exact hx _ _ e1
theorem St.of_below{w w':World}(h:Below w.heap.size w w'):St w [] [] w':=
 ⟨h.os,h.tape,h.output,h.size,λb hb _=>h.block b hb,AB,by simp[keys],AB⟩
theorem bF{s:AE}{v:Int}(h:Lib.atoiAll s= .ok v): -9223372036854775808≤v∧v≤9223372036854775807:=by
 unfold Lib.atoiAll at h
 split at h
 ·cases h
 ·simp only at h
  split at h
  ·cases h
  ·cases h
  ·split at h
   ·cases h
   ·split at h
    ·cases h
    ·simp only[Lib.NumEnd.ok.injEq]at h;subst h
     split<;>omega
theorem Yv{w:World}{s:AE}(hs:s.length≤281474976710656)(hE:H1 w):Cl Tryz.prog pK [AG s] w λv w'=>St w [] [] w'∧
  ∃n ev,v= .tuple ⟨[.int .i64 n,ev]⟩∧(-9223372036854775808≤n∧n≤9223372036854775807)∧((Lib.atoiAll s= .ok n∧ev= .nilIface)∨((∀m,Lib.atoiAll s≠ .ok m)∧(n≤0∨99<n)∧ ∃t p,ev= .iface t p)):=by
 have hsz:(ByteArray.mk (Array.mk s)).size=s.length:=rfl;obtain⟨⟨t0,p0,e0⟩,⟨t1,p1,e1⟩⟩:=hE;refine .inl ⟨Tryz.call123 _ _,?_⟩;cases h:Lib.atoiAll s
 ·next v=>
  refine Calls.mono (Any.strconv_Atoi_ok Tryz.laysAtoi ⟨⟨s⟩⟩ AA v h w) ?_;rintro e w'⟨rfl,hw⟩;refine⟨_,rfl,?_,v,.nilIface,rfl,bF h,.inl ⟨rfl,rfl⟩⟩;rcases hw with rfl|⟨t,rfl⟩
  ·exact St.start _
  ·exact St.of_below (Lib.bytesWorld_below _ _ _)
 ·refine Calls.mono (Any.strconv_Atoi_syntax Tryz.laysAtoi ⟨⟨s⟩⟩ AA h _ w e0 (.inr ⟨_,_,rfl⟩)) ?_;rintro e w'⟨M,rfl, -, -,hb⟩;exact⟨_,rfl,St.of_below hb,0,_,rfl,⟨AA,AA⟩,.inr ⟨(λm hm=>by cases hm),.inl (Ea 0),_,_,rfl⟩⟩
 ·refine Calls.mono (Any.strconv_Atoi_range Tryz.laysAtoi ⟨⟨s⟩⟩ AA h _ w e1 (.inr ⟨_,_,rfl⟩)) ?_;rintro e w'⟨M,rfl, -, -,hb⟩;exact⟨_,rfl,St.of_below hb,Lib.atoiSat s,_,rfl,(by unfold Lib.atoiSat;split<;>omega),.inr ⟨(λm hm=>by cases hm),(by unfold Lib.atoiSat;split<;>omega),_,_,rfl⟩⟩
end Go.Proofs.YtkgibdhpijdbfaaGreatDoor
namespace Go.Proofs
open Go.Shelf
def Tryz.laysItoa_ren:Go.Shelf.Ren:=⟨λ |171=>124|243=>165|246=>209|283=>229|284=>230|285=>231|286=>232|129=>198|317=>247|318=>248|319=>249|320=>250|337=>257|338=>258|n=>n,λ |3=>3|9=>9|2=>2|4=>4|171=>333|0=>0|53=>159|37=>189|5=>5|173=>335|212=>352|51=>235|20=>20|213=>353|46=>155|232=>359|233=>360|n=>n,λ |17=>3|18=>4|19=>5|n=>n⟩
theorem Tryz.laysItoa:Go.Proofs.LaysM.n171 Tryz.prog Tryz.laysItoa_ren:={
 mixed:=AD
 f129:=Tryz.func198.trans (congrArg some AD)
 f171:=Tryz.func124.trans (congrArg some AD)
 f243:=Tryz.func165.trans (congrArg some AD)
 f246:=Tryz.func209.trans (congrArg some AD)
 f283:=Tryz.func229.trans (congrArg some AD)
 f284:=Tryz.func230.trans (congrArg some AD)
 f285:=Tryz.func231.trans (congrArg some AD)
 f286:=Tryz.func232.trans (congrArg some AD)
 f317:=Tryz.func247.trans (congrArg some AD)
 f318:=Tryz.func248.trans (congrArg some AD)
 f319:=Tryz.func249.trans (congrArg some AD)
 f320:=Tryz.func250.trans (congrArg some AD)
 f337:=Tryz.func257.trans (congrArg some AD)
 f338:=Tryz.func258.trans (congrArg some AD)
 t0:=Tryz.underlying0
 a0:=Tryz.isAgg0
 z0:=Tryz.sizeOf0
 v0:=Tryz.zeroValue0
 t2:=Tryz.underlying2
 a2:=Tryz.isAgg2
 z2:=Tryz.sizeOf2
 v2:=Tryz.zeroValue2
 t3:=Tryz.underlying3
 a3:=Tryz.isAgg3
 z3:=Tryz.sizeOf3
 v3:=Tryz.zeroValue3
 t4:=Tryz.underlying4
 a4:=Tryz.isAgg4
 z4:=Tryz.sizeOf4
 v4:=Tryz.zeroValue4
 t5:=Tryz.underlying5
 a5:=Tryz.isAgg5
 z5:=Tryz.sizeOf5
 v5:=Tryz.zeroValue5
 t9:=Tryz.underlying9
 a9:=Tryz.isAgg9
 z9:=Tryz.sizeOf9
 v9:=Tryz.zeroValue9
 t20:=Tryz.underlying20
 a20:=Tryz.isAgg20
 z20:=Tryz.sizeOf20
 v20:=Tryz.zeroValue20
 t37:=Tryz.underlying189
 a37:=Tryz.isAgg189
 z37:=Tryz.sizeOf189
 v37:=Tryz.zeroValue189
 t46:=Tryz.underlying155
 a46:=Tryz.isAgg155
 z46:=Tryz.sizeOf155
 v46:=Tryz.zeroValue155
 t51:=Tryz.underlying235
 a51:=Tryz.isAgg235
 z51:=Tryz.sizeOf235
 v51:=Tryz.zeroValue235
 t53:=Tryz.underlying159
 a53:=Tryz.isAgg159
 z53:=Tryz.sizeOf159
 v53:=Tryz.zeroValue159
 t171:=Tryz.underlying333
 a171:=Tryz.isAgg333
 z171:=Tryz.sizeOf333
 v171:=Tryz.zeroValue333
 t173:=Tryz.underlying335
 a173:=Tryz.isAgg335
 z173:=Tryz.sizeOf335
 v173:=Tryz.zeroValue335
 t212:=Tryz.underlying352
 a212:=Tryz.isAgg352
 z212:=Tryz.sizeOf352
 v212:=Tryz.zeroValue352
 t213:=Tryz.underlying353
 a213:=Tryz.isAgg353
 z213:=Tryz.sizeOf353
 t232:=Tryz.underlying359
 a232:=Tryz.isAgg359
 z232:=Tryz.sizeOf359
 v232:=Tryz.zeroValue359
 t233:=Tryz.underlying360
 a233:=Tryz.isAgg360
 z233:=Tryz.sizeOf360
 v233:=Tryz.zeroValue360
 g17:=AD
 g18:=AD
 g19:=AD
 i0:=AD
 i2:=AD
 i3:=AD
 i4:=AD
 i5:=AD
 i9:=AD
 i20:=AD
 i37:=AD
 i46:=AD
 i51:=AD
 i53:=AD
 i171:=AD
 i173:=AD
 i212:=AD
 i232:=AD
 i233:=AD
 m17:=AD
 m18:=AD
 m19:=by kernel_rfl}
end Go.Proofs
namespace Go.Proofs.YtkgibdhpijdbfaaGreatDoor
open Go Go.Eng Go.Proofs Go.RowKit
def F1(w:World):Prop:=Lib.TabIs Tryz.prog w "internal/strconv.uint64pow10" .u64 Lib.pow10Tab
theorem St.of_grow{w:World}{k:Nat}{os:Array Obj}:St w [] [] (Go.Sort.grow (w.drewN k) os):=
 have h:=Lib.below_grow w.heap.size w (AV _) k os
 ⟨h.os,h.tape,h.output,h.size,λb hb _=>h.block b hb,AB,by simp[keys],AB⟩
theorem NV{w:World}{n:Int}(h0: -9223372036854775808≤n)(h1:n≤9223372036854775807)(hT:F1 w):Cl Tryz.prog pL [.int .i64 n] w λv w'=>v=AG (Lib.itoa n)∧St w [] [] w':=by
 refine .inl ⟨Tryz.call124 _ _,?_⟩;refine Calls.mono (Any.strconv_Itoa Tryz.laysItoa n h0 h1 w hT) ?_;rintro e w'⟨rfl,k,os,rfl⟩;exact⟨_,rfl,rfl,St.of_grow⟩
theorem F1.keep{w0 w:World}{H:AH}(h:F1 w0)(hS:St w0 [] H w):F1 w:=by
 unfold F1 Lib.TabIs World.var? at*;cases hg:Tryz.prog.globalNamed "internal/strconv.uint64pow10" with
 |none=>simp[hg]at h
 |some g=>
  simp only[hg,Option.bind_some]at h⊢;have hlt:g<w0.heap.size:=by
   rcases Nat.lt_or_ge g w0.heap.size with h'|h'
   ·exact h'
   ·rw[Array.getElem?_eq_none h']at h;simp at h
  rw[hS.old g hlt AB];exact h
end Go.Proofs.YtkgibdhpijdbfaaGreatDoor
namespace Go.Proofs.YtkgibdhpijdbfaaGreatDoor
open Go Go.Eng Go.Proofs
def Dh:AE→AE→Nat
 |a::x,b::y=>if a=b then Dh x y+1 else 0
 |_,_=>0
theorem NE: ∀a b:AE,Dh a b≤a.length∧Dh a b≤b.length
 |[],_=>by simp[Dh]
 |_::_,[]=>by simp[Dh]
 |a::x,b::y=>by
  have:=NE x y;unfold Dh
  split<;>simp only[Ai]<;>omega
theorem YA: ∀a b:AE,a.take (Dh a b)=b.take (Dh a b)
 |[],_=>by simp[Dh]
 |_::_,[]=>by simp[Dh]
 |a::x,b::y=>by
  unfold Dh
  split
  ·rename_i h;subst h;simp only[List.take_succ_cons,YA x y]
  ·simp
theorem xK(a b:AE):a.take (Dh a b)++b.drop (Dh a b)=b:=by rw[YA,CO]
theorem R9: ∀(a b:AE)(n:Nat),n≤a.length→n≤b.length→(∀i(h1:i<a.length)(h2:i<b.length),i<n→a[i]=b[i])→(∀(h1:n<a.length)(h2:n<b.length),a[n]≠b[n])→Dh a b=n
 |[],b,n,h1,_,_,_=>by simp at h1;subst h1;simp[Dh]
 |_::_,[],n,_,h2,_,_=>by simp at h2;subst h2;simp[Dh]
 |a::x,b::y,0,_,_,_,h4=>by
  have:=h4 AB AB;simp at this;unfold Dh;rw[if_neg this]
 |a::x,b::y,n+1,h1,h2,h3,h4=>by
  have h5:=h3 0 AB AB AA;simp at h5;subst h5;unfold Dh;rw[if_pos rfl]
  congr 1
  refine R9 x y n (by simpa using h1) (by simpa using h2) (λi hi hj hn=>?_) (λhi hj=>?_)
  ·have:=h3 (i+1) (by simpa using hi) (by simpa using hj) AA;simpa using this
  ·have:=h4 (by simpa using hi) (by simpa using hj);simpa using this
def GU(last:AE)(x:AF):AE:=Ak (Dh last x.k)++(Be (x.k.drop (Dh last x.k))++(Bh x.s++(if x.d then Ak 1 else Ak 0++Be x.v)))
def Dw:AE→List AF→AE
 |_,[]=>[]
 |last,x::l=>GU last x++Dw x.k l
def CF(last:AE)(l:List AF):AE:=match l.getLast? with|none=>last|some x=>x.k
theorem RC(last:AE)(l:List AF)(x:AF):CF last (l++[x])=x.k:=by simp[CF]
theorem Ul: ∀(l:List AF)(last:AE)(x:AF),Dw last (l++[x])=Dw last l++GU (CF last l) x
 |[],last,x=>by simp[Dw,CF]
 |y::l,last,x=>by
  rw[D3,Dw,Dw,Ul l y.k x,Aj];have:CF y.k l=CF last (y::l):=by
   unfold CF;cases l with
   |nil=>rfl
   |cons z l=>
    rw[List.getLast?_cons_cons];cases h:(z::l).getLast? with
    |none=>simp at h
    |some u=>rfl
  rw[this]
def E8(es:List AF):AE:=Ak es.length++Dw [] es
def KY(l:List AF):Prop:=∀x∈l,x.d=true→x.v=[]
def Hf(l:List AF):Prop:=∀x∈l, -9223372036854775808≤x.s∧x.s≤9223372036854775807
def CS(x:AF):Nat:=x.k.length+x.v.length
def An(l:List AF):Nat:=(l.map CS).sum
theorem G9(a b:List AF):An (a++b)=An a+An b:=by simp[An]
theorem LV{l:List AF}{x:AF}(h:x∈l):CS x≤An l:=by
 induction l with
 |nil=>cases h
 |cons y l ih=>
  have e:An (y::l)=CS y+An l:=by simp[An]
  rcases As.1 h with rfl|h
  ·omega
  ·have:=ih h;omega
theorem YS(l:List AF)(k:Nat):An (l.take k)≤An l:=by
 have:=G9 (l.take k) (l.drop k);rw[CO]at this;omega
/-! ## Pieces of so many-/
def AR{α:Type}(n:Nat)(l:List α):List (List α):=(List.range ((l.length+n-1) / n)).map λi=>(l.drop (i*n)).take n
theorem Jd{α:Type}(n:Nat)(l:List α):(AR n l).length=(l.length+n-1) / n:=by simp[AR]
theorem M9{α:Type}{n:Nat}{l:List α}{i:Nat}(h:i<(AR n l).length):(AR n l)[i]=(l.drop (i*n)).take n:=by simp[AR]
theorem Ox{α:Type}{n:Nat}(hn:0<n)(l:List α): ∀i,i≤(AR n l).length→((AR n l).take i).flatten=l.take (i*n)
 |0,_=>AB
 |i+1,h=>by
  have hi:i<(AR n l).length:=AA;rw[Bs hi,GW,Ox hn l i AA,M9 hi];simp only[Dc,Gm,BU];rw[show(i+1)*n=i*n+n by rw[HK];omega,List.take_add]
theorem KD{α:Type}{n:Nat}(hn:0<n)(l:List α):(AR n l).flatten=l:=by
 have h:=Ox hn l (AR n l).length (AV _);rw[Bz]at h;rw[h,Jd];refine HO ?_;have:=Nat.div_add_mod (l.length+n-1) n;have:=FP (l.length+n-1) hn;have e:(l.length+n-1) / n*n=n*((l.length+n-1) / n):=HM _ _;omega
theorem Ow{α:Type}{n:Nat}(hn:0<n){l:List α}{i:Nat}(h:i<(AR n l).length):i*n<l.length:=by
 rw[Jd]at h;have h1:=(Nat.le_div_iff_mul_le hn).1 (show i+1≤(l.length+n-1) / n from h);rw[HK]at h1;omega
theorem KE{α:Type}{n:Nat}(hn:0<n){l p:List α}(h:p∈AR n l):p≠[]∧p.length≤n∧ ∃a b,l=a++(p++b):=by
 obtain⟨i,hi,rfl⟩:=Hr.1 h;have h1:=Ow hn hi;rw[M9 hi];refine⟨?_,by simp;omega,l.take (i*n),(l.drop (i*n)).drop n,?_⟩
 ·intro e;have:=congrArg List.length e;simp at this;omega
 ·rw[CO,CO]
end Go.Proofs.YtkgibdhpijdbfaaGreatDoor
