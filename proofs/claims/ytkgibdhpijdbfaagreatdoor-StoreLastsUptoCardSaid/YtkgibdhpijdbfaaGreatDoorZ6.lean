/- Texts of this claim, one behind the other. -/
import Derived.Shelf.Strconv.AtoiAll
import Derived.Lib.AtoiErrMem
import Derived.Ground.NamesProg
import Derived.Test.YtkgibdhpijdbfaaGreatDoorProg
import Derived.Test.YtkgibdhpijdbfaaGreatDoorZ2
import Derived.Test.YtkgibdhpijdbfaaGreatDoorZ3
import Derived.Shelf.Strconv.Itoa3
import Derived.Lib.LaidTab
import Derived.Lib.AppendIntMem
import Derived.Test.YtkgibdhpijdbfaaGreatDoorRows
import Derived.WalkKit
import Derived.ProofKit
import Derived.OpenShut
import Derived.Carry
import Derived.SliceStrings
import Derived.JoinedCond
import Derived.Deep.Slices
import Derived.Shelf.SlIter.Nil
import Derived.Shelf.SortM.Plain
import Derived.Shelf.SortM.SortNone
import Derived.Ground.GgzProg
import Derived.Ground.SlgmProg
import Derived.Shelf.SlIterI.Nil
set_option linter.unusedVariables false
set_option linter.unusedSimpArgs false
set_option maxHeartbeats 16000000
namespace Go.Proofs
open Go.Shelf
def Tryz.laysAtoi_ren:Go.Shelf.Ren:=⟨λ |172=>123|244=>163|245=>164|247=>204|279=>205|280=>206|281=>207|282=>208|287=>226|316=>227|171=>124|205=>228|321=>245|322=>246|243=>165|246=>209|283=>229|284=>230|285=>231|286=>232|129=>198|317=>247|318=>248|319=>249|320=>250|337=>257|338=>258|n=>n,λ |9=>9|3=>3|75=>194|76=>195|4=>4|5=>5|167=>305|37=>189|0=>0|85=>306|2=>2|168=>308|53=>159|175=>327|46=>155|210=>331|127=>252|145=>349|143=>347|21=>21|171=>333|173=>335|212=>352|51=>235|20=>20|213=>353|232=>359|233=>360|80=>178|n=>n,λ |15=>1|16=>2|17=>3|18=>4|19=>5|n=>n⟩
theorem Tryz.laysAtoi:Go.Proofs.LaysC.n172 Tryz.prog Tryz.laysAtoi_ren:={
 mixed:=AD
 f129:=Tryz.func198.trans (congrArg some AD)
 f171:=Tryz.func124.trans (congrArg some AD)
 f172:=Tryz.func123.trans (congrArg some AD)
 f205:=Tryz.func228.trans (congrArg some AD)
 f243:=Tryz.func165.trans (congrArg some AD)
 f244:=Tryz.func163.trans (congrArg some AD)
 f245:=Tryz.func164.trans (congrArg some AD)
 f246:=Tryz.func209.trans (congrArg some AD)
 f247:=Tryz.func204.trans (congrArg some AD)
 f279:=Tryz.func205.trans (congrArg some AD)
 f280:=Tryz.func206.trans (congrArg some AD)
 f281:=Tryz.func207.trans (congrArg some AD)
 f282:=Tryz.func208.trans (congrArg some AD)
 f283:=Tryz.func229.trans (congrArg some AD)
 f284:=Tryz.func230.trans (congrArg some AD)
 f285:=Tryz.func231.trans (congrArg some AD)
 f286:=Tryz.func232.trans (congrArg some AD)
 f287:=Tryz.func226.trans (congrArg some AD)
 f316:=Tryz.func227.trans (congrArg some AD)
 f317:=Tryz.func247.trans (congrArg some AD)
 f318:=Tryz.func248.trans (congrArg some AD)
 f319:=Tryz.func249.trans (congrArg some AD)
 f320:=Tryz.func250.trans (congrArg some AD)
 f321:=Tryz.func245.trans (congrArg some AD)
 f322:=Tryz.func246.trans (congrArg some AD)
 f337:=Tryz.func257.trans (congrArg some AD)
 f338:=Tryz.func258.trans (congrArg some AD)
 t0:=Tryz.underlying0
 a0:=Tryz.isAgg0
 z0:=Tryz.sizeOf0
 v0:=Tryz.zeroValue0
 t2:=Tryz.underlying2
 a2:=Tryz.isAgg2
 z2:=Tryz.sizeOf2
 v2:=Tryz.zeroValue2
 t3:=Tryz.underlying3
 a3:=Tryz.isAgg3
 z3:=Tryz.sizeOf3
 v3:=Tryz.zeroValue3
 t4:=Tryz.underlying4
 a4:=Tryz.isAgg4
 z4:=Tryz.sizeOf4
 v4:=Tryz.zeroValue4
 t5:=Tryz.underlying5
 a5:=Tryz.isAgg5
 z5:=Tryz.sizeOf5
 v5:=Tryz.zeroValue5
 t9:=Tryz.underlying9
 a9:=Tryz.isAgg9
 z9:=Tryz.sizeOf9
 v9:=Tryz.zeroValue9
 t20:=Tryz.underlying20
 a20:=Tryz.isAgg20
 z20:=Tryz.sizeOf20
 v20:=Tryz.zeroValue20
 t21:=Tryz.underlying21
 a21:=Tryz.isAgg21
 z21:=Tryz.sizeOf21
 v21:=Tryz.zeroValue21
 t37:=Tryz.underlying189
 a37:=Tryz.isAgg189
 z37:=Tryz.sizeOf189
 v37:=Tryz.zeroValue189
 t46:=Tryz.underlying155
 a46:=Tryz.isAgg155
 z46:=Tryz.sizeOf155
 v46:=Tryz.zeroValue155
 t51:=Tryz.underlying235
 a51:=Tryz.isAgg235
 z51:=Tryz.sizeOf235
 v51:=Tryz.zeroValue235
 t53:=Tryz.underlying159
 a53:=Tryz.isAgg159
 z53:=Tryz.sizeOf159
 v53:=Tryz.zeroValue159
 t75:=Tryz.underlying194
 a75:=Tryz.isAgg194
 z75:=Tryz.sizeOf194
 v75:=Tryz.zeroValue194
 t76:=Tryz.underlying195
 a76:=Tryz.isAgg195
 z76:=Tryz.sizeOf195
 v76:=Tryz.zeroValue195
 t85:=Tryz.underlying306
 a85:=Tryz.isAgg306
 z85:=Tryz.sizeOf306
 v85:=Tryz.zeroValue306
 t127:=Tryz.underlying252
 a127:=Tryz.isAgg252
 z127:=Tryz.sizeOf252
 v127:=Tryz.zeroValue252
 t143:=Tryz.underlying347
 a143:=Tryz.isAgg347
 z143:=Tryz.sizeOf347
 v143:=Tryz.zeroValue347
 t145:=Tryz.underlying349
 a145:=Tryz.isAgg349
 z145:=Tryz.sizeOf349
 v145:=Tryz.zeroValue349
 t167:=Tryz.underlying305
 a167:=Tryz.isAgg305
 z167:=Tryz.sizeOf305
 v167:=Tryz.zeroValue305
 t168:=Tryz.underlying308
 a168:=Tryz.isAgg308
 z168:=Tryz.sizeOf308
 v168:=Tryz.zeroValue308
 t171:=Tryz.underlying333
 a171:=Tryz.isAgg333
 z171:=Tryz.sizeOf333
 v171:=Tryz.zeroValue333
 t173:=Tryz.underlying335
 a173:=Tryz.isAgg335
 z173:=Tryz.sizeOf335
 v173:=Tryz.zeroValue335
 t175:=Tryz.underlying327
 a175:=Tryz.isAgg327
 z175:=Tryz.sizeOf327
 v175:=Tryz.zeroValue327
 t210:=Tryz.underlying331
 a210:=Tryz.isAgg331
 z210:=Tryz.sizeOf331
 v210:=Tryz.zeroValue331
 t212:=Tryz.underlying352
 a212:=Tryz.isAgg352
 z212:=Tryz.sizeOf352
 v212:=Tryz.zeroValue352
 t213:=Tryz.underlying353
 a213:=Tryz.isAgg353
 z213:=Tryz.sizeOf353
 t232:=Tryz.underlying359
 a232:=Tryz.isAgg359
 z232:=Tryz.sizeOf359
 v232:=Tryz.zeroValue359
 t233:=Tryz.underlying360
 a233:=Tryz.isAgg360
 z233:=Tryz.sizeOf360
 v233:=Tryz.zeroValue360
 g15:=AD
 g16:=AD
 g17:=AD
 g18:=AD
 g19:=AD
 t80:=Tryz.underlying178
 a80:=Tryz.isAgg178
 z80:=Tryz.sizeOf178
 v80:=Tryz.zeroValue178
 i0:=AD
 i2:=AD
 i3:=AD
 i4:=AD
 i5:=AD
 i9:=AD
 i20:=AD
 i21:=AD
 i37:=AD
 i46:=AD
 i51:=AD
 i53:=AD
 i75:=AD
 i76:=AD
 i80:=AD
 i85:=AD
 i127:=AD
 i143:=AD
 i145:=AD
 i167:=AD
 i168:=AD
 i171:=AD
 i173:=AD
 i175:=AD
 i210:=AD
 i212:=AD
 i232:=AD
 i233:=AD
 m15:=AD
 m16:=AD
 m17:=AD
 m18:=AD
 m19:=AD
 c0:=AD
 c2:=AD
 c3:=AD
 c4:=AD
 c5:=AD
 c9:=AD
 c20:=AD
 c21:=AD
 c37:=AD
 c46:=AD
 c51:=AD
 c53:=AD
 c75:=AD
 c76:=AD
 c80:=AD
 c85:=AD
 c127:=AD
 c143:=AD
 c145:=AD
 c167:=AD
 c168:=AD
 c171:=AD
 c173:=AD
 c175:=AD
 c210:=AD
 c212:=AD
 c213:=AD
 c232:=AD
 c233:=by kernel_rfl}
end Go.Proofs
namespace Go.Proofs.YtkgibdhpijdbfaaGreatDoor
open Go Go.Eng Go.Proofs Go.RowKit
abbrev Mi:Nat:=1
abbrev Mj:Nat:=2
structure H3(w:World):Prop where
 syn: ∃t p,w.cell? ⟨Mi,0,none⟩=some (.iface t p)
 ran: ∃t p,w.cell? ⟨Mj,0,none⟩=some (.iface t p)
theorem H3.keep{w0 w:World}{T:List Nat}{H:AH}(h:H3 w0)(hS:St w0 T H w)(h0:Mi∉T)(h1:Mj∉T):H3 w:=by
 obtain⟨⟨t,p,e⟩,⟨t',p',e'⟩⟩:=h;exact⟨⟨t,p,hS.oldCell h0 e⟩,⟨t',p',hS.oldCell h1 e'⟩⟩
theorem H3.apart{w:World}(h:H3 w){b:Nat}{x:Value}{l:List Value}{t:TypeId}{fz:Nat×Nat}(hm:w.heap[b]?=some (.cells ⟨x::l⟩ t fz))(hx: ∀t p,x≠ .iface t p):b≠Mi∧b≠Mj:=by
 obtain⟨⟨t0,p0,e0⟩,⟨t1,p1,e1⟩⟩:=h;refine⟨λe=>?_,λe=>?_⟩
 ·subst e;simp[World.cell?,hm]at e0;exact hx _ _ e0
 ·subst e;simp[World.cell?,hm]at e1;exact hx _ _ e1
theorem St.of_below{w w':World}(h:Below w.heap.size w w'):St w [] [] w':=
 ⟨h.os,h.tape,h.output,h.size,λb hb _=>h.block b hb,AB,by simp[keys],AB⟩
theorem bM{s:AE}{v:Int}(h:Lib.atoiAll s= .ok v): -9223372036854775808≤v∧v≤9223372036854775807:=by
 unfold Lib.atoiAll at h
 split at h
 ·cases h
 ·simp only at h
  split at h
  ·cases h
  ·cases h
  ·split at h
   ·cases h
   ·split at h
    ·cases h
    ·simp only[Lib.NumEnd.ok.injEq]at h;subst h
     split<;>omega
theorem Y1{w:World}{s:AE}(hs:s.length≤281474976710656)(hE:H3 w):Cl Tryz.prog pK [AG s] w λv w'=>St w [] [] w'∧
  ∃n ev,v= .tuple ⟨[.int .i64 n,ev]⟩∧(-9223372036854775808≤n∧n≤9223372036854775807)∧((Lib.atoiAll s= .ok n∧ev= .nilIface)∨((∀m,Lib.atoiAll s≠ .ok m)∧(n≤0∨99<n)∧ ∃t p,ev= .iface t p)):=by
 have hsz:(ByteArray.mk (Array.mk s)).size=s.length:=rfl;obtain⟨⟨t0,p0,e0⟩,⟨t1,p1,e1⟩⟩:=hE;refine .inl ⟨Tryz.call123 _ _,?_⟩;cases h:Lib.atoiAll s
 ·next v=>
  refine Calls.mono (Any.strconv_Atoi_ok Tryz.laysAtoi ⟨⟨s⟩⟩ AA v h w) ?_;rintro e w'⟨rfl,hw⟩;refine⟨_,rfl,?_,v,.nilIface,rfl,bM h,.inl ⟨rfl,rfl⟩⟩;rcases hw with rfl|⟨t,rfl⟩
  ·exact St.start _
  ·exact St.of_below (Lib.bytesWorld_below _ _ _)
 ·refine Calls.mono (Any.strconv_Atoi_syntax Tryz.laysAtoi ⟨⟨s⟩⟩ AA h _ w e0 (.inr ⟨_,_,rfl⟩)) ?_;rintro e w'⟨M,rfl, -, -,hb⟩;exact⟨_,rfl,St.of_below hb,0,_,rfl,⟨AA,AA⟩,.inr ⟨(λm hm=>by cases hm),.inl (EZ 0),_,_,rfl⟩⟩
 ·refine Calls.mono (Any.strconv_Atoi_range Tryz.laysAtoi ⟨⟨s⟩⟩ AA h _ w e1 (.inr ⟨_,_,rfl⟩)) ?_;rintro e w'⟨M,rfl, -, -,hb⟩;exact⟨_,rfl,St.of_below hb,Lib.atoiSat s,_,rfl,(by unfold Lib.atoiSat;split<;>omega),.inr ⟨(λm hm=>by cases hm),(by unfold Lib.atoiSat;split<;>omega),_,_,rfl⟩⟩
end Go.Proofs.YtkgibdhpijdbfaaGreatDoor
namespace Go.Proofs
open Go.Shelf
def Tryz.laysItoa_ren:Go.Shelf.Ren:=⟨λ |171=>124|243=>165|246=>209|283=>229|284=>230|285=>231|286=>232|129=>198|317=>247|318=>248|319=>249|320=>250|337=>257|338=>258|n=>n,λ |3=>3|9=>9|2=>2|4=>4|171=>333|0=>0|53=>159|37=>189|5=>5|173=>335|212=>352|51=>235|20=>20|213=>353|46=>155|232=>359|233=>360|n=>n,λ |17=>3|18=>4|19=>5|n=>n⟩
theorem Tryz.laysItoa:Go.Proofs.LaysM.n171 Tryz.prog Tryz.laysItoa_ren:={
 mixed:=AD
 f129:=Tryz.func198.trans (congrArg some AD)
 f171:=Tryz.func124.trans (congrArg some AD)
 f243:=Tryz.func165.trans (congrArg some AD)
 f246:=Tryz.func209.trans (congrArg some AD)
 f283:=Tryz.func229.trans (congrArg some AD)
 f284:=Tryz.func230.trans (congrArg some AD)
 f285:=Tryz.func231.trans (congrArg some AD)
 f286:=Tryz.func232.trans (congrArg some AD)
 f317:=Tryz.func247.trans (congrArg some AD)
 f318:=Tryz.func248.trans (congrArg some AD)
 f319:=Tryz.func249.trans (congrArg some AD)
 f320:=Tryz.func250.trans (congrArg some AD)
 f337:=Tryz.func257.trans (congrArg some AD)
 f338:=Tryz.func258.trans (congrArg some AD)
 t0:=Tryz.underlying0
 a0:=Tryz.isAgg0
 z0:=Tryz.sizeOf0
 v0:=Tryz.zeroValue0
 t2:=Tryz.underlying2
 a2:=Tryz.isAgg2
 z2:=Tryz.sizeOf2
 v2:=Tryz.zeroValue2
 t3:=Tryz.underlying3
 a3:=Tryz.isAgg3
 z3:=Tryz.sizeOf3
 v3:=Tryz.zeroValue3
 t4:=Tryz.underlying4
 a4:=Tryz.isAgg4
 z4:=Tryz.sizeOf4
 v4:=Tryz.zeroValue4
 t5:=Tryz.underlying5
 a5:=Tryz.isAgg5
 z5:=Tryz.sizeOf5
 v5:=Tryz.zeroValue5
 t9:=Tryz.underlying9
 a9:=Tryz.isAgg9
 z9:=Tryz.sizeOf9
 v9:=Tryz.zeroValue9
 t20:=Tryz.underlying20
 a20:=Tryz.isAgg20
 z20:=Tryz.sizeOf20
 v20:=Tryz.zeroValue20
 t37:=Tryz.underlying189
 a37:=Tryz.isAgg189
 z37:=Tryz.sizeOf189
 v37:=Tryz.zeroValue189
 t46:=Tryz.underlying155
 a46:=Tryz.isAgg155
 z46:=Tryz.sizeOf155
 v46:=Tryz.zeroValue155
 t51:=Tryz.underlying235
 a51:=Tryz.isAgg235
 z51:=Tryz.sizeOf235
 v51:=Tryz.zeroValue235
 t53:=Tryz.underlying159
 a53:=Tryz.isAgg159
 z53:=Tryz.sizeOf159
 v53:=Tryz.zeroValue159
 t171:=Tryz.underlying333
 a171:=Tryz.isAgg333
 z171:=Tryz.sizeOf333
 v171:=Tryz.zeroValue333
 t173:=Tryz.underlying335
 a173:=Tryz.isAgg335
 z173:=Tryz.sizeOf335
 v173:=Tryz.zeroValue335
 t212:=Tryz.underlying352
 a212:=Tryz.isAgg352
 z212:=Tryz.sizeOf352
 v212:=Tryz.zeroValue352
 t213:=Tryz.underlying353
 a213:=Tryz.isAgg353
 z213:=Tryz.sizeOf353
 t232:=Tryz.underlying359
 a232:=Tryz.isAgg359
 z232:=Tryz.sizeOf359
 v232:=Tryz.zeroValue359
 t233:=Tryz.underlying360
 a233:=Tryz.isAgg360
 z233:=Tryz.sizeOf360
 v233:=Tryz.zeroValue360
 g17:=AD
 g18:=AD
 g19:=AD
 i0:=AD
 i2:=AD
 i3:=AD
 i4:=AD
 i5:=AD
 i9:=AD
 i20:=AD
 i37:=AD
 i46:=AD
 i51:=AD
 i53:=AD
 i171:=AD
 i173:=AD
 i212:=AD
 i232:=AD
 i233:=AD
 m17:=AD
 m18:=AD
 m19:=by kernel_rfl}
end Go.Proofs
namespace Go.Proofs.YtkgibdhpijdbfaaGreatDoor
open Go Go.Eng Go.Proofs Go.RowKit
def F1(w:World):Prop:=Lib.TabIs Tryz.prog w "internal/strconv.uint64pow10" .u64 Lib.pow10Tab
theorem St.of_grow{w:World}{k:Nat}{os:Array Obj}:St w [] [] (Go.Sort.grow (w.drewN k) os):=
 have h:=Lib.below_grow w.heap.size w (AW _) k os
 ⟨h.os,h.tape,h.output,h.size,λb hb _=>h.block b hb,AB,by simp[keys],AB⟩
theorem Nb{w:World}{n:Int}(h0: -9223372036854775808≤n)(h1:n≤9223372036854775807)(hT:F1 w):Cl Tryz.prog pL [.int .i64 n] w λv w'=>v=AG (Lib.itoa n)∧St w [] [] w':=by
 refine .inl ⟨Tryz.call124 _ _,?_⟩;refine Calls.mono (Any.strconv_Itoa Tryz.laysItoa n h0 h1 w hT) ?_;rintro e w'⟨rfl,k,os,rfl⟩;exact⟨_,rfl,rfl,St.of_grow⟩
theorem F1.keep{w0 w:World}{H:AH}(h:F1 w0)(hS:St w0 [] H w):F1 w:=by
 unfold F1 Lib.TabIs World.var? at*;cases hg:Tryz.prog.globalNamed "internal/strconv.uint64pow10" with
 |none=>simp[hg]at h
 |some g=>
  simp only[hg,Option.bind_some]at h⊢;have hlt:g<w0.heap.size:=by
   rcases Nat.lt_or_ge g w0.heap.size with h'|h'
   ·exact h'
   ·rw[Array.getElem?_eq_none h']at h;simp at h
  rw[hS.old g hlt AB];exact h
end Go.Proofs.YtkgibdhpijdbfaaGreatDoor
namespace Go.Proofs.YtkgibdhpijdbfaaGreatDoor
open Go Go.Eng Go.Proofs
open Go.ChangeShapes Go.WideShapes Go.ChangeAt Go.RowKit
theorem XM:ownKnob Tryz.prog.godebug=none:=AD
theorem WM:laidOutB Tryz.prog=true:=AD
theorem T4{P:Program}{f:FuncId}{args:List Value}{w:World}{R:Value→World→Prop}(hc: ∀(args:Array Value)(w:World),(callFunc f args).run P w= .ok (.enter f args) w)
  (h:Cl P f args w R):Calls P f ⟨args⟩ w λe w'=>∃v,e= .returned v∧R v w':=by
 rcases h with⟨_,h⟩|⟨v,w',h,_⟩
 ·exact h
 ·rw[hc]at h;cases h
theorem St.below{w w':World}(h:St w [] [] w'):Below w.heap.size w w':=⟨h.os,h.tape,h.output,h.size,λk hk=>h.old k hk AB⟩
theorem Yn{H:Type}{enc:TypeId×Value→H}{P:Program}(hl:laidOutB P=true){W W':World}(hb:Below W.heap.size W W'): ∀{ts:List TypeId}{vs:List Value}{ds:List (DataW H)}{ps:List MemPlace},
  (ts.all λt=>P.readableRec t&&decide (t<P.types.size))=true→(∀x∈ps,x.block<W.heap.size)→DataW.TrodAll enc P W 0 (λ_=>true) true ts vs ds ps→
  DataW.TrodAll enc P W' 0 (λb=>decide (b<W.heap.size)) true ts vs ds ps
 |[],[],[],_,_,_,h=>h
 |t::ts,v::vs,d::ds,ps,ht,hlt,⟨p,q,h1,h2,e⟩=>by
  subst e;simp only[List.all_cons,Bool.and_eq_true,decide_eq_true_eq]at ht;exact⟨p,q,Below.trod hl ht.1.1 ht.1.2 h1 hb (λx hx=>hlt x (by simp[hx])),Yn hl hb (by simpa using ht.2) (λx hx=>hlt x (by simp[hx])) h2,rfl⟩
 |[],[],_::_,_,_,_,h=>h.elim
 |[],_::_,_,_,_,_,h=>h.elim
 |_::_,[],_,_,_,_,h=>h.elim
 |_::_,_::_,[],_,_,_,h=>h.elim
theorem XU{H:Type}{enc:TypeId×Value→H}{P:Program}{f:Func}{s:ChangeSpec}{W W':World}{args:Array Value}{ds gs:List (DataW H)}{Fh:List MemPlace}(hl:laidOutB P=true)
  (hts:(f.params.toList.all λt=>P.readableRec t&&decide (t<P.types.size))=true){tb:TypeId}(hrt:f.resultTypes= #[tb])(hb:P.underlying tb=some .bool)
  (hW:DataW.Whole enc P f.params.toList s.vars false W args.toList ds gs Fh)(hv:s.vars=[])(hfn:gs=[]→s.fn H (ds++gs)={results:=[.lit (.bool true)],args:=ds})(hst:St W [] [] W'):
  s.post enc P f false true false false W args (.bool true) W':=by
 have hW':=hW;obtain⟨p,q,hA,hV,rfl,_,_⟩:=hW;rw[hv]at hV;obtain⟨rfl,rfl⟩:=trodVars_none hV;have hlt: ∀x∈p,x.block<W.heap.size:=λx hx=>by have:=hW'.lt x (by simp[hx]);simpa using this
 refine⟨ds,[],_,[],p,[],hW',?_,?_,?_,(St.below hst).frame _,λh=>by cases h⟩
 ·rw[hfn rfl,hrt];exact trodAll_mk1 (shut_bool hb _)
 ·rw[hfn rfl];exact Yn hl (St.below hst) hts hlt hA
 ·rw[hfn rfl,hv]
  rfl
theorem aJ(s:ByteArray):Value.string s=AG s.data.toList:=by
 cases s;rfl
theorem Tw{H:Type}{d1 d2:DataW H}(h:Rows.uptoSmall H [d1,d2]=true):Rows.uptoBulk d1+Rows.uptoBulk d2≤1048576:=by
 have h:Rows.uptoBulkAll [d1,d2]≤1048576:=of_decide_eq_true h;simp only[Rows.uptoBulkAll]at h;omega
abbrev CS(β:Type):=World→List Value→β→Prop
structure Bl(P:Program)(t:TypeId){β:Type}(R:CS β)(bulk:β→Nat):Prop where
 out: ∀{H:Type}{enc:TypeId×Value→H}{W:World}{fuel:Nat}{cs:List Value}{x:DataW H×List MemPlace},DataW.trod enc P W 0 (λ_=>true) true fuel t cs=some x→ ∃b,R W cs b∧bulk b≤Rows.uptoBulk x.1
def TB:CS AE:=λ_ cs s=>cs=[AG s]∧s.length≤maxLen
def HD(k:IntKind):CS Int:=λ_ cs n=>cs=[.int k n]∧(Lit.int k n).wf=true
def S9:CS Bool:=λ_ cs b=>cs=[.bool b]
structure Bo{β:Type}(sz:Nat)(R:CS β)(W:World)(cs:List Value)(xs:List β):Prop where
 ex: ∃(a:Option Addr)(cap:Nat),cs=[.slice a xs.length cap]∧xs.length≤cap∧True∧
  ∀j(h:j<xs.length),∃b off cs',a=some ⟨b,off,none⟩∧cs'.length=sz∧(∀i v,cs'[i]?=some v→W.cell? ⟨b,off+(j*sz+i),none⟩=some v)∧R W cs' xs[j]
def Ii{α β:Type}(n:Nat)(R:CS α)(S:CS β):CS (α×β):=λW cs x=>R W (cs.take n) x.1∧S W (cs.drop n) x.2
theorem Bl.str{P:Program}{t:TypeId}(ht:P.underlying t=some .string):Bl P t TB (λs=>s.length+1):=by
 refine⟨λ{H enc W fuel cs x}h=>?_⟩;obtain⟨s,rfl,rfl,hs⟩:=DataW.trod_string ht h;exact⟨s.data.toList,⟨by rw[aJ],by rw[Array.length_toList];exact hs⟩,AW _⟩
theorem Bl.int{P:Program}{t:TypeId}{k:IntKind}(ht:P.underlying t=some (.int k)):Bl P t (HD k) (λ_=>1):=by
 refine⟨λ{H enc W fuel cs x}h=>?_⟩;obtain⟨n,rfl,rfl,hs⟩:=DataW.trod_int ht h;exact⟨n,⟨rfl,hs⟩,AW _⟩
theorem Bl.bool{P:Program}{t:TypeId}(ht:P.underlying t=some .bool):Bl P t S9 (λ_=>1):=by
 refine⟨λ{H enc W fuel cs x}h=>?_⟩;obtain⟨n,rfl,rfl⟩:=DataW.trod_bool ht h;exact⟨n,rfl,AW _⟩
theorem Tx{H:Type}{β:Type}(bulk:β→Nat): ∀(xs:List β)(D:Nat→DataW H),(∀j(h:j<xs.length),bulk xs[j]≤Rows.uptoBulk (D j))→(xs.map bulk).sum≤Rows.uptoBulkAll ((List.range xs.length).map D)
 |[],_,_=>AB
 |x::r,D,h=>by
  have ih:=Tx bulk r (λj=>D (j+1)) (λj hj=>h (j+1) (by simpa using hj));have h0:=h 0 AB;rw[Ah,List.range_succ_eq_map,A4,A4,Fo,HK];simp only[Rows.uptoBulkAll];have:Function.comp D Nat.succ= λj=>D (j+1):=rfl;rw[this];simp only[Ja]at h0;omega
theorem Bl.slice{P:Program}{t e:TypeId}{β:Type}{R:CS β}{bulk:β→Nat}(ht:P.underlying t=some (.slice e)){sz:Nat}(hc:P.cellsOf e=sz)(h0:0<sz)(he:Bl P e R bulk):
  Bl P t (Bo sz R) (λxs=>(xs.map bulk).sum+1):=by
 refine⟨λ{H enc W fuel cs x}h=>?_⟩;rcases Go.Deep.open_slice ht h with⟨rfl,rfl⟩|⟨a,len,cap,m,n,D,Pl,rfl, -,hl,hm,hmm,rfl,hx⟩
 ·exact⟨[],⟨none,0,rfl,AW _,AC,λj h=>by simp at h⟩,by simp[Rows.uptoBulk]⟩
 rw[if_pos rfl]at hmm;subst hmm;rw[hc]at hx;have hall: ∀i,i<len→ ∃b:β,(∃cs',W.cells? 0 (a.add (i*sz)) sz=some cs'∧R W cs' b)∧bulk b≤Rows.uptoBulk (D i):=by
  intro i hi;obtain⟨cs',h1,h2⟩:=hx i AA;obtain⟨b,h3,h4⟩:=he.out h2;exact⟨b,⟨cs',h1,h3⟩,h4⟩
 have hxs: ∃xs:List β,xs.length=len∧ ∀i(hi:i<xs.length),(∃cs',W.cells? 0 (a.add (i*sz)) sz=some cs'∧R W cs' xs[i])∧bulk xs[i]≤Rows.uptoBulk (D i):=by
  clear h hx hl hm
  induction len with
  |zero=>exact⟨[],rfl,λi hi=>by simp at hi⟩
  |succ k ih=>
   obtain⟨xs,hxl,hxs⟩:=ih (λi hi=>hall i AA);obtain⟨b,hb⟩:=hall k AA;refine⟨xs++[b],by simp[hxl],λi hi=>?_⟩;by_cases hik:i<xs.length
   ·rw[List.getElem_append_left hik];exact hxs i hik
   ·have:i=k:=by simp at hi;omega
    subst this;rw[List.getElem_append_right AA];simpa[hxl]using hb
 obtain⟨xs,rfl,hxs⟩:=hxs;refine⟨xs,⟨some a,_,rfl,hl,trivial,λj hj=>?_⟩,?_⟩
 ·obtain⟨⟨cs',h1,h2⟩, -⟩:=hxs j hj;obtain⟨_,h3,h4⟩:=World.cells?_some h1;obtain⟨b,off,spot⟩:=a;have hcell: ∀i v,cs'[i]?=some v→W.cell? ((Addr.mk b off spot).add (j*sz+i))=some v:=by
   intro i v hv;have:=h4 i (by have:=(Fm.1 hv).1;omega);rw[hv]at this;rwa[Go.Deep.add_add]at this
  have hspot:spot=none:=by
   obtain⟨⟨cs0,k1, -⟩, -⟩:=hxs 0 AA;obtain⟨_,k3,k4⟩:=World.cells?_some k1;have:=k4 0 h0;rw[CB (show 0<cs0.length by omega)]at this;simpa[Addr.add]using World.cell?_spot this
  subst hspot;refine⟨b,off,cs',rfl,h3,λi v hv=>?_,h2⟩;have:=hcell i v hv;rwa[add_plain]at this
 ·have:=Tx bulk xs D (λj hj=>(hxs j hj).2);simp only[Rows.uptoBulk];omega
theorem Bl.pair{P:Program}{t:TypeId}{f0 f1:Field}{α β:Type}{R:CS α}{S:CS β}{b0:α→Nat}{b1:β→Nat}(ht:P.underlying t=some (.struct #[f0,f1])){s0 s1:Nat}(o0:f0.offset=0)(o1:f1.offset=s0)
  (c0:P.cellsOf f0.type=s0)(c1:P.cellsOf f1.type=s1)(ct:P.cellsOf t=s0+s1)(h0:Bl P f0.type R b0)(h1:Bl P f1.type S b1):Bl P t (Ii s0 R S) (λx=>b0 x.1+b1 x.2+1):=by
 refine⟨λ{H enc W fuel cs x}h=>?_⟩;obtain⟨xs,n, -,rfl,hl,hxl,hx⟩:=DataW.trod_struct ht h;have e0:=hx 0 f0 rfl;have e1:=hx 1 f1 rfl;have hx2:xs.length=2:=by simpa using hxl
 rw[o0,c0,List.drop_zero]at e0;rw[o1,c1,HL (by rw[D3];omega)]at e1;rw[CB (show 0<xs.length by omega)]at e0;rw[CB (show 1<xs.length by omega)]at e1;obtain⟨a,g0,g1⟩:=h0.out e0;obtain⟨b,g2,g3⟩:=h1.out e1;refine⟨(a,b),⟨g0,g2⟩,?_⟩
 match xs,hx2 with
 |[u,v],_=>
  simp only[Ja,List.getElem_cons_succ]at g1 g3;simp only[A4,GV,Rows.uptoBulk,Rows.uptoBulkAll];omega
structure ER(P:Program)(o:Nat)(fs:List Field)(sz:Nat){β:Type}(R:CS β)(bulk:β→Nat):Prop where
 out: ∀{H:Type}{enc:TypeId×Value→H}{W:World}{fuel:Nat}{cs:List Value}{xs:List (DataW H×List MemPlace)},cs.length=sz→xs.length=fs.length→
  (∀(i:Nat)(f:Field),fs[i]?=some f→DataW.trod enc P W 0 (λ_=>true) true fuel f.type ((cs.drop f.offset).take (P.cellsOf f.type))=xs[i]?)→ ∃b,R W (cs.drop o) b∧bulk b≤Rows.uptoBulkAll (xs.map (·.1))
def Zr:CS Unit:=λ_ cs _=>cs=[]
theorem ER.nil{P:Program}{sz:Nat}:ER P sz [] sz Zr (λ_=>0):=by
 refine⟨λ{H enc W fuel cs xs}h1 h2 h3=>?_⟩;refine⟨(),?_,Ag _⟩;show cs.drop sz=[];rw[List.drop_eq_nil_iff];omega
theorem ER.cons{P:Program}{o s sz:Nat}{f:Field}{fs:List Field}{α β:Type}{R:CS α}{S:CS β}{b0:α→Nat}{b1:β→Nat}(ho:f.offset=o)(hc:P.cellsOf f.type=s)(h0:Bl P f.type R b0)(h1:ER P (o+s) fs sz S b1):
  ER P o (f::fs) sz (Ii s R S) (λx=>b0 x.1+b1 x.2):=by
 refine⟨λ{H enc W fuel cs xs}hl hx h=>?_⟩
 match xs,hx with
 |x::xs,hx=>
  have e0:=h 0 f rfl;rw[ho,hc]at e0;obtain⟨a,g0,g1⟩:=h0.out e0;obtain⟨b,g2,g3⟩:=h1.out hl (by simpa using hx) (λi f' hf=>by simpa using h (i+1) f' (by simpa using hf));refine⟨(a,b),⟨g0,by rw[List.drop_drop];exact g2⟩,?_⟩;simp only[A4,Rows.uptoBulkAll];omega
theorem Bl.struct{P:Program}{t:TypeId}{fs:List Field}{sz:Nat}{β:Type}{R:CS β}{bulk:β→Nat}(ht:P.underlying t=some (.struct ⟨fs⟩))(ct:P.cellsOf t=sz)(h:ER P 0 fs sz R bulk):Bl P t R (λx=>bulk x+1):=by
 refine⟨λ{H enc W fuel cs x}hx=>?_⟩;obtain⟨xs,n, -,rfl,hl,hxl,hx⟩:=DataW.trod_struct ht hx;obtain⟨b,g0,g1⟩:=h.out (by rw[hl,ct]) (by simpa using hxl) (λi f hf=>hx i f (by simpa using hf));refine⟨b,by simpa using g0,?_⟩;simp only[Rows.uptoBulk];omega
theorem Bo.inv{β:Type}{sz:Nat}{R:CS β}{W:World}{v:Value}{xs:List β}(h:Bo sz R W [v] xs): ∃(a:Option Addr)(cap:Nat),v= .slice a xs.length cap∧xs.length≤cap∧True∧Bo sz R W [.slice a xs.length cap] xs:=by
 obtain⟨a,cap,h1,h2,h3,h4⟩:=h.ex;refine⟨a,cap,by simpa using h1,h2,h3,⟨a,cap,rfl,h2,h3,h4⟩⟩
theorem Bo.get{β:Type}{R:CS β}{W:World}{a:Option Addr}{n cap:Nat}{xs:List β}(h:Bo 1 R W [.slice a n cap] xs){j:Nat}(hj:j<xs.length): ∃b off v,a=some ⟨b,off,none⟩∧W.cell? ⟨b,off+j,none⟩=some v∧R W [v] xs[j]:=by
 obtain⟨a',cap',h1, -, -,h4⟩:=h.ex;obtain⟨b,off,cs,h5,h6,h7,h8⟩:=h4 j hj;have:a=a':=by simpa using(List.cons.inj h1).1|> λh=>(Value.slice.inj h).1
 subst this
 match cs,h6 with
 |[v],_=>exact⟨b,off,v,h5,by simpa using h7 0 v rfl,h8⟩
theorem Trod.out{H:Type}{enc:TypeId×Value→H}{P:Program}{W:World}{t:TypeId}{v:Value}{d:DataW H}{p:List MemPlace}(hd:DataW.Trod enc P W 0 (λ_=>true) true t v d p){β:Type}{R:CS β}{bulk:β→Nat}(h:Bl P t R bulk):
  ∃b,R W v.cells.toList b∧bulk b≤Rows.uptoBulk d:=by
 obtain⟨fuel,hf⟩:=hd;exact h.out hf
end Go.Proofs.YtkgibdhpijdbfaaGreatDoor
namespace Go.Proofs.YtkgibdhpijdbfaaGreatDoor
open Go Go.Eng Go.Proofs
def EX(k:AE):Nat:=k.foldl (λh c=>((h ^^^ c.toNat)*1099511628211) % 18446744073709551616) 14695981039346656037
theorem rX(k:AE):EX k<18446744073709551616:=by
 unfold EX;rcases J8 k with rfl|⟨l,c,rfl⟩
 ·show 14695981039346656037<18446744073709551616;omega
 ·rw[List.concat_eq_append,Ho,HI,List.foldl_nil];exact FO _ AA
def BQ(k:AE)(m i:Nat):Nat:=(EX k % 4294967296+i*(EX k / 4294967296 ||| 1)) % m
def LQ(k:AE)(m:Nat):List Nat:=(List.range 4).map (BQ k m)
def Fu(bits:List Nat)(p:Nat):List Nat:=bits.set (p / 8) (bits.getD (p / 8) 0 ||| 2 ^ (p % 8))
def E6(bits:List Nat)(p:Nat):Bool:=(bits.getD (p / 8) 0).testBit (p % 8)
theorem R4(bits:List Nat)(p:Nat):(Fu bits p).length=bits.length:=by simp[Fu]
def HW(bits:List Nat)(k:AE):List Nat:=(LQ k (8*bits.length)).foldl Fu bits
theorem Vc: ∀(ps:List Nat)(bits:List Nat),(ps.foldl Fu bits).length=bits.length
 |[],_=>rfl
 |p::ps,bits=>by rw[HI,Vc ps,R4]
theorem R5(bits:List Nat)(k:AE):(HW bits k).length=bits.length:=Vc _ _
theorem xE{bits:List Nat}{p q:Nat}(h:E6 bits q=true):E6 (Fu bits p) q=true:=by
 unfold E6 Fu at*;rw[Gk,List.getElem?_set]at*
 split
 ·rename_i hpq
  split
  ·simp only[FA,Nat.testBit_or,Bool.or_eq_true];left;rw[hpq];rw[Gk];exact h
  ·rename_i hl;rw[JZ AA]at h;simp at h
 ·exact h
theorem xF{bits:List Nat}{p:Nat}(h:p / 8<bits.length):E6 (Fu bits p) p=true:=by
 unfold E6 Fu;rw[Gk,List.getElem?_set_self h];simp only[FA,Nat.testBit_or,Bool.or_eq_true];right;simp[Nat.testBit_two_pow_self]
theorem Qr: ∀(ps:List Nat){bits:List Nat}{q:Nat},E6 bits q=true→E6 (ps.foldl Fu bits) q=true
 |[],_,_,h=>h
 |_::ps,_,_,h=>Qr ps (xE h)
theorem Ve: ∀(ps:List Nat){bits:List Nat}{q:Nat},q∈ps→q / 8<bits.length→E6 (ps.foldl Fu bits) q=true
 |p::ps,bits,q,h,hq=>by
  rw[HI];rcases As.1 h with rfl|h
  ·exact Qr ps (xF hq)
  ·exact Ve ps h (by rw[R4];exact hq)
def Gh(keys:List AE):List Nat:=keys.foldl HW (List.replicate ((10*keys.length+7) / 8) 0)
def Dt(keys:List AE):AE:=match keys with|[]=>[]|_=>(Gh keys).map UInt8.ofNat
def IT(f k:AE):Bool:= !decide (f=[])&&(LQ k (8*f.length)).all λp=>E6 (f.map UInt8.toNat) p
theorem Qq: ∀(ks:List AE)(bits:List Nat),(ks.foldl HW bits).length=bits.length
 |[],_=>rfl
 |k::ks,bits=>by rw[HI,Qq ks,R5]
theorem VX: ∀(ks:List AE){bits:List Nat}{q:Nat},E6 bits q=true→E6 (ks.foldl HW bits) q=true
 |[],_,_,h=>h
 |_::ks,_,_,h=>VX ks (Qr _ h)
theorem VZ: ∀(ks:List AE){bits:List Nat}{k:AE},k∈ks→0<bits.length→ ∀q∈LQ k (8*bits.length),E6 (ks.foldl HW bits) q=true
 |k'::ks,bits,k,h,h0,q,hq=>by
  rw[HI];rcases As.1 h with rfl|h
  ·refine VX ks (Ve _ hq ?_);obtain⟨i,_,rfl⟩:=BU.1 hq;have:=FO (EX k % 4294967296+i*(EX k / 4294967296 ||| 1)) (show 0<8*bits.length by omega);unfold BQ;omega
  ·exact VZ ks h (by rw[R5];exact h0) q (by rw[R5];exact hq)
theorem YD{bits:List Nat}(h: ∀x∈bits,x<256)(p:Nat): ∀x∈Fu bits p,x<256:=by
 intro x hx;rcases List.mem_or_eq_of_mem_set hx with hx|rfl
 ·exact h x hx
 ·have h1:bits.getD (p / 8) 0<2 ^ 8:=by
   rw[Gk];cases hg:bits[p / 8]? with
   |none=>simp
   |some y=>exact h y (List.mem_of_getElem? hg)
  have h2:2 ^ (p % 8)<2 ^ 8:=Nat.pow_lt_pow_right AA (FO _ AA);exact Nat.or_lt_two_pow h1 h2
theorem Vd: ∀(ps:List Nat){bits:List Nat},(∀x∈bits,x<256)→ ∀x∈ps.foldl Fu bits,x<256
 |[],_,h=>h
 |p::ps,_,h=>Vd ps (YD h p)
theorem VY: ∀(ks:List AE){bits:List Nat},(∀x∈bits,x<256)→ ∀x∈ks.foldl HW bits,x<256
 |[],_,h=>h
 |_::ks,_,h=>VY ks (Vd _ h)
theorem bU(keys:List AE): ∀x∈Gh keys,x<256:=VY _ (by intro x hx;rw[(List.mem_replicate.1 hx).2];decide)
theorem P9(keys:List AE):(Gh keys).length=(10*keys.length+7) / 8:=by unfold Gh;rw[Qq];simp
theorem tO{keys:List AE}{k:AE}(h:k∈keys):IT (Dt keys) k=true:=by
 have e:Dt keys=(Gh keys).map UInt8.ofNat:=by cases keys with|nil=>cases h|cons=>rfl
 have h1:0<keys.length:=List.length_pos_of_mem h;have hl:=P9 keys;have h0:0<(Gh keys).length:=AA;unfold IT;rw[e,Bool.and_eq_true];refine⟨?_,Db.2 λq hq=>?_⟩
 ·rw[Bool.not_eq_eq_eq_not,Bool.not_true,decide_eq_false_iff_not];intro e2;have:=congrArg List.length e2;simp at this;rw[this]at h0;simp at h0
 ·have e3:((Gh keys).map UInt8.ofNat).map UInt8.toNat=Gh keys:=by
   rw[Fo];have: ∀x∈Gh keys,(UInt8.toNat∘UInt8.ofNat) x=x:=λx hx=>by
    have:=bU keys x hx;simp;omega
   rw[KC this,List.map_id']
  rw[e3];rw[BZ]at hq;unfold Gh at hq⊢;rw[Qq]at hq;exact VZ keys h (by simp;omega) q hq
end Go.Proofs.YtkgibdhpijdbfaaGreatDoor
namespace Go.Proofs
open Go.Shelf
def Tryz.keys150_ren:Go.Shelf.Ren:=⟨λ |7=>150|10=>187|n=>n,λ |23=>71|26=>9|3=>124|28=>255|0=>0|27=>254|33=>122|4=>4|n=>n,λ |n=>n⟩
theorem Tryz.keys150:Go.Proofs.SlLaysZ.n7 Tryz.prog Tryz.keys150_ren:={
 mixed:=AD
 f7:=⟨Tryz.f150.name,AC,Tryz.func150.trans (congrArg some AD)⟩
 f10:=⟨Tryz.f187.name,AC,Tryz.func187.trans (congrArg some AD)⟩
 t0:=Tryz.underlying0
 a0:=Tryz.isAgg0
 z0:=Tryz.sizeOf0
 v0:=Tryz.zeroValue0
 t4:=Tryz.underlying4
 a4:=Tryz.isAgg4
 z4:=Tryz.sizeOf4
 v4:=Tryz.zeroValue4
 t23:=Tryz.underlying71
 a23:=Tryz.isAgg71
 z23:=Tryz.sizeOf71
 v23:=Tryz.zeroValue71
 t26:=Tryz.underlying9
 a26:=Tryz.isAgg9
 z26:=Tryz.sizeOf9
 v26:=Tryz.zeroValue9
 t27:=Tryz.underlying254
 a27:=Tryz.isAgg254
 z27:=Tryz.sizeOf254
 v27:=Tryz.zeroValue254
 t28:=Tryz.underlying255
 a28:=Tryz.isAgg255
 z28:=Tryz.sizeOf255
 v28:=Tryz.zeroValue255
 t33:=Tryz.underlying122
 a33:=Tryz.isAgg122
 z33:=Tryz.sizeOf122
 v33:=Tryz.zeroValue122}
def Tryz.sorted149_ren:Go.Shelf.Ren:=⟨λ |6=>149|8=>185|9=>186|11=>216|13=>152|12=>217|23=>197|24=>198|14=>234|15=>235|16=>236|17=>237|18=>238|19=>239|20=>240|21=>241|22=>242|25=>253|26=>219|27=>220|28=>254|29=>255|30=>256|31=>260|n=>n,λ |26=>9|28=>255|24=>93|0=>0|3=>3|37=>155|48=>235|50=>159|4=>4|40=>293|39=>292|45=>117|5=>5|9=>9|51=>321|55=>324|57=>343|58=>344|33=>122|n=>n,λ |n=>n⟩
theorem Tryz.sorted149:Go.Proofs.SlLaysZ.n6 Tryz.prog Tryz.sorted149_ren:={
 mixed:=AD
 f6:=⟨Tryz.f149.name,AC,Tryz.func149.trans (congrArg some AD)⟩
 f8:=⟨Tryz.f185.name,AC,Tryz.func185.trans (congrArg some AD)⟩
 f11:=⟨Tryz.f216.name,AC,Tryz.func216.trans (congrArg some AD)⟩
 t0:=Tryz.underlying0
 a0:=Tryz.isAgg0
 z0:=Tryz.sizeOf0
 v0:=Tryz.zeroValue0
 t24:=Tryz.underlying93
 a24:=Tryz.isAgg93
 z24:=Tryz.sizeOf93
 v24:=Tryz.zeroValue93
 t26:=Tryz.underlying9
 a26:=Tryz.isAgg9
 z26:=Tryz.sizeOf9
 v26:=Tryz.zeroValue9
 t28:=Tryz.underlying255
 a28:=Tryz.isAgg255
 z28:=Tryz.sizeOf255
 v28:=Tryz.zeroValue255
 i26:=by kernel_rfl}
def Tryz.sort186_ren:Go.Shelf.Ren:=⟨λ |6=>186|8=>152|9=>217|19=>197|20=>198|21=>234|22=>235|23=>236|24=>237|25=>238|26=>239|27=>240|28=>241|29=>242|36=>253|31=>219|32=>220|37=>254|38=>255|39=>256|41=>260|n=>n,λ |27=>93|29=>9|3=>3|32=>155|26=>93|0=>0|44=>235|46=>159|4=>4|36=>293|35=>292|41=>117|5=>5|9=>9|53=>321|57=>324|63=>343|64=>344|n=>n,λ |n=>n⟩
theorem Tryz.sort186:Go.Proofs.SlLaysM.n6 Tryz.prog Tryz.sort186_ren:={
 mixed:=AD
 f6:=⟨Tryz.f186.name,AC,Tryz.func186.trans (congrArg some AD)⟩
 f8:=Tryz.func152.trans (congrArg some AD)
 f9:=⟨Tryz.f217.name,AC,Tryz.func217.trans (congrArg some AD)⟩
 f19:=Tryz.func197.trans (congrArg some AD)
 f20:=Tryz.func198.trans (congrArg some AD)
 f21:=⟨Tryz.f234.name,AC,Tryz.func234.trans (congrArg some AD)⟩
 f22:=⟨Tryz.f235.name,AC,Tryz.func235.trans (congrArg some AD)⟩
 f23:=⟨Tryz.f236.name,AC,Tryz.func236.trans (congrArg some AD)⟩
 f24:=⟨Tryz.f237.name,AC,Tryz.func237.trans (congrArg some AD)⟩
 f25:=⟨Tryz.f238.name,AC,Tryz.func238.trans (congrArg some AD)⟩
 f26:=⟨Tryz.f239.name,AC,Tryz.func239.trans (congrArg some AD)⟩
 f27:=⟨Tryz.f240.name,AC,Tryz.func240.trans (congrArg some AD)⟩
 f28:=⟨Tryz.f241.name,AC,Tryz.func241.trans (congrArg some AD)⟩
 f29:=⟨Tryz.f242.name,AC,Tryz.func242.trans (congrArg some AD)⟩
 f31:=Tryz.func219.trans (congrArg some AD)
 f32:=Tryz.func220.trans (congrArg some AD)
 f36:=⟨Tryz.f253.name,AC,Tryz.func253.trans (congrArg some AD)⟩
 f37:=⟨Tryz.f254.name,AC,Tryz.func254.trans (congrArg some AD)⟩
 f38:=⟨Tryz.f255.name,AC,Tryz.func255.trans (congrArg some AD)⟩
 f39:=⟨Tryz.f256.name,AC,Tryz.func256.trans (congrArg some AD)⟩
 f41:=⟨Tryz.f260.name,AC,Tryz.func260.trans (congrArg some AD)⟩
 t0:=Tryz.underlying0
 a0:=Tryz.isAgg0
 z0:=Tryz.sizeOf0
 v0:=Tryz.zeroValue0
 t3:=Tryz.underlying3
 a3:=Tryz.isAgg3
 z3:=Tryz.sizeOf3
 v3:=Tryz.zeroValue3
 t4:=Tryz.underlying4
 a4:=Tryz.isAgg4
 z4:=Tryz.sizeOf4
 v4:=Tryz.zeroValue4
 t5:=Tryz.underlying5
 a5:=Tryz.isAgg5
 z5:=Tryz.sizeOf5
 v5:=Tryz.zeroValue5
 t9:=Tryz.underlying9
 a9:=Tryz.isAgg9
 z9:=Tryz.sizeOf9
 v9:=Tryz.zeroValue9
 t26:=Tryz.underlying93
 a26:=Tryz.isAgg93
 z26:=Tryz.sizeOf93
 v26:=Tryz.zeroValue93
 t27:=Tryz.underlying93
 a27:=Tryz.isAgg93
 z27:=Tryz.sizeOf93
 v27:=Tryz.zeroValue93
 t29:=Tryz.underlying9
 a29:=Tryz.isAgg9
 z29:=Tryz.sizeOf9
 v29:=Tryz.zeroValue9
 t32:=Tryz.underlying155
 a32:=Tryz.isAgg155
 z32:=Tryz.sizeOf155
 v32:=Tryz.zeroValue155
 t35:=Tryz.underlying292
 a35:=Tryz.isAgg292
 z35:=Tryz.sizeOf292
 v35:=Tryz.zeroValue292
 t36:=Tryz.underlying293
 a36:=Tryz.isAgg293
 z36:=Tryz.sizeOf293
 v36:=Tryz.zeroValue293
 t41:=Tryz.underlying117
 a41:=Tryz.isAgg117
 z41:=Tryz.sizeOf117
 v41:=Tryz.zeroValue117
 t44:=Tryz.underlying235
 a44:=Tryz.isAgg235
 z44:=Tryz.sizeOf235
 v44:=Tryz.zeroValue235
 t46:=Tryz.underlying159
 a46:=Tryz.isAgg159
 z46:=Tryz.sizeOf159
 v46:=Tryz.zeroValue159
 t53:=Tryz.underlying321
 a53:=Tryz.isAgg321
 z53:=Tryz.sizeOf321
 v53:=Tryz.zeroValue321
 t57:=Tryz.underlying324
 a57:=Tryz.isAgg324
 z57:=Tryz.sizeOf324
 v57:=Tryz.zeroValue324
 t63:=Tryz.underlying343
 a63:=Tryz.isAgg343
 z63:=Tryz.sizeOf343
 v63:=Tryz.zeroValue343
 t64:=Tryz.underlying344
 a64:=Tryz.isAgg344
 z64:=Tryz.sizeOf344
 v64:=Tryz.zeroValue344}
open Go.RowKit Go.Maps Go.Sort
theorem Tryz.sorts149(m:Nat):AnyZ.SortsIn Tryz.prog Tryz.sorted149_ren Fence.wide m:=
 ⟨λblk off cap ss W hH hblk hsz=>callsIn_wide.2 (AnyM.slices_Sort_string Tryz.sort186 blk off cap ss W hH hblk hsz),
  λp cap W=>callsIn_wide.2 (AnyM.slices_Sort_string_none Tryz.sort186 p cap W)⟩
theorem Tryz.mapsKeys(mb:Option Nat)(W:World):CallsIn Fence.wide 5 Tryz.prog 150 #[.map mb] W λe w'=>e= .returned (.func (.func 187) #[] #[.pointer (some ⟨W.heap.size,0,none⟩)])∧w'=W.alloc (.cells #[.map mb] 71):=
 AnyZ.keys_in Tryz.keys150 Fence.wide 5 trivial rfl mb W
theorem Tryz.sortedKeys{H:Type}(b nn:Nat)(D0:DataW H)(R:Value→Option (DataW H×List MemPlace))(w:World)(hown:w.ownsMap Tryz.prog 9 R b nn D0)(hmax:Maps.size D0≤maxLen)(hbytes:Maps.size D0*16≤140737488355328):
  CallsIn Fence.wide 5 Tryz.prog 149 #[.func (.func 187) #[] #[.pointer (some ⟨w.heap.size,0,none⟩)]] (w.alloc (.cells #[.map (some b)] 71)) λe w'=>∃(v:Value)(ss:List (List UInt8)),e= .returned v∧ss.Perm (strKeys D0)∧
   w'.ownsRow (w.alloc (.cells #[.map (some b)] 71)).heap.size 9 1 v ss.length ((ss.mergeSort (λx y=>decide (x≤y))).map encStr)∧(v= .slice none 0 0↔ss=[])∧Below (w.alloc (.cells #[.map (some b)] 71)).heap.size (w.alloc (.cells #[.map (some b)] 71)) w':=by
 have hbl:=hown.lt;have hseq:SeqGives Fence.wide 2 Tryz.prog 187 #[.pointer (some ⟨w.heap.size,0,none⟩)] encStr (λss=>ss.Perm (strKeys D0)) (Maps.size D0) (w.alloc (.cells #[.map (some b)] 71)):=
  AnyZ.keys_gives (ρ:=Tryz.keys150_ren) {Tryz.keys150 with} Fence.wide _ trivial rfl AA w.heap.size b nn D0 _ AB AB (by
   obtain⟨es,clock,hb,Ft,hs,hD⟩:=hown;exact⟨es,clock,(Below.heap_alloc _ _ b hbl).trans hb,Ft,hs,hD⟩)
 exact AnyZ.sorted_in Tryz.sorted149 Fence.wide 5 trivial trivial trivial trivial rfl AA (Tryz.sorts149 _) (enters_of Tryz.func186 AD rfl) 187 #[.pointer (some ⟨w.heap.size,0,none⟩)] trivial (enters_of Tryz.func187 AD rfl) _ _ hmax hbytes _ hseq
theorem Tryz.callKeys: ∀(args:Array Value)(w:World),(callFunc 150 args).run Tryz.prog w= .ok (.enter 150 args) w:=Tryz.call150
theorem Tryz.callSorted: ∀(args:Array Value)(w:World),(callFunc 149 args).run Tryz.prog w= .ok (.enter 149 args) w:=Tryz.call149
end Go.Proofs
namespace Go.Proofs
open Go.Shelf
def Tryz.keysI_ren:Go.Shelf.Ren:=⟨λ |7=>64|10=>111|n=>n,λ |23=>61|26=>3|3=>137|28=>135|0=>0|27=>134|33=>201|4=>4|n=>n,λ |n=>n⟩
theorem Tryz.keysI:Go.Proofs.SlLaysZI.n7 Tryz.prog Tryz.keysI_ren:={
 mixed:=AD
 f7:=⟨Tryz.f64.name,AC,Tryz.func64.trans (congrArg some AD)⟩
 f10:=⟨Tryz.f111.name,AC,Tryz.func111.trans (congrArg some AD)⟩
 t0:=Tryz.underlying0
 a0:=Tryz.isAgg0
 z0:=Tryz.sizeOf0
 v0:=Tryz.zeroValue0
 t4:=Tryz.underlying4
 a4:=Tryz.isAgg4
 z4:=Tryz.sizeOf4
 v4:=Tryz.zeroValue4
 t23:=Tryz.underlying61
 a23:=Tryz.isAgg61
 z23:=Tryz.sizeOf61
 v23:=Tryz.zeroValue61
 t26:=Tryz.underlying3
 a26:=Tryz.isAgg3
 z26:=Tryz.sizeOf3
 v26:=Tryz.zeroValue3
 t27:=Tryz.underlying134
 a27:=Tryz.isAgg134
 z27:=Tryz.sizeOf134
 v27:=Tryz.zeroValue134
 t28:=Tryz.underlying135
 a28:=Tryz.isAgg135
 z28:=Tryz.sizeOf135
 v28:=Tryz.zeroValue135
 t33:=Tryz.underlying201
 a33:=Tryz.isAgg201
 z33:=Tryz.sizeOf201
 v33:=Tryz.zeroValue201}
def Tryz.sortedI_ren:Go.Shelf.Ren:=⟨λ |6=>63|8=>101|9=>110|11=>144|13=>152|12=>151|23=>197|24=>198|14=>188|15=>189|16=>190|17=>191|18=>192|19=>193|20=>194|21=>195|22=>196|25=>218|26=>219|27=>220|28=>221|29=>222|30=>202|31=>243|n=>n,λ |26=>3|28=>135|24=>22|0=>0|3=>3|37=>155|48=>235|50=>159|4=>4|40=>293|39=>292|45=>117|5=>5|9=>9|51=>321|55=>324|57=>343|58=>344|33=>201|n=>n,λ |n=>n⟩
theorem Tryz.sortedI:Go.Proofs.SlLaysZI.n6 Tryz.prog Tryz.sortedI_ren:={
 mixed:=AD
 f6:=⟨Tryz.f63.name,AC,Tryz.func63.trans (congrArg some AD)⟩
 f8:=⟨Tryz.f101.name,AC,Tryz.func101.trans (congrArg some AD)⟩
 f11:=⟨Tryz.f144.name,AC,Tryz.func144.trans (congrArg some AD)⟩
 t0:=Tryz.underlying0
 a0:=Tryz.isAgg0
 z0:=Tryz.sizeOf0
 v0:=Tryz.zeroValue0
 t24:=Tryz.underlying22
 a24:=Tryz.isAgg22
 z24:=Tryz.sizeOf22
 v24:=Tryz.zeroValue22
 t26:=Tryz.underlying3
 a26:=Tryz.isAgg3
 z26:=Tryz.sizeOf3
 v26:=Tryz.zeroValue3
 t28:=Tryz.underlying135
 a28:=Tryz.isAgg135
 z28:=Tryz.sizeOf135
 v28:=Tryz.zeroValue135
 i26:=by kernel_rfl}
def Tryz.sortI_ren:Go.Shelf.Ren:=⟨λ |5=>110|8=>152|7=>151|19=>197|20=>198|10=>188|11=>189|12=>190|13=>191|14=>192|15=>193|16=>194|17=>195|18=>196|30=>218|31=>219|32=>220|33=>221|34=>222|35=>202|40=>243|n=>n,λ |23=>22|25=>3|3=>3|32=>155|22=>22|0=>0|44=>235|46=>159|4=>4|36=>293|35=>292|41=>117|5=>5|9=>9|53=>321|57=>324|63=>343|64=>344|n=>n,λ |n=>n⟩
theorem Tryz.sortI:Go.Proofs.SlLaysM.n5 Tryz.prog Tryz.sortI_ren:={
 mixed:=AD
 f5:=⟨Tryz.f110.name,AC,Tryz.func110.trans (congrArg some AD)⟩
 f7:=⟨Tryz.f151.name,AC,Tryz.func151.trans (congrArg some AD)⟩
 f8:=Tryz.func152.trans (congrArg some AD)
 f10:=⟨Tryz.f188.name,AC,Tryz.func188.trans (congrArg some AD)⟩
 f11:=⟨Tryz.f189.name,AC,Tryz.func189.trans (congrArg some AD)⟩
 f12:=⟨Tryz.f190.name,AC,Tryz.func190.trans (congrArg some AD)⟩
 f13:=⟨Tryz.f191.name,AC,Tryz.func191.trans (congrArg some AD)⟩
 f14:=⟨Tryz.f192.name,AC,Tryz.func192.trans (congrArg some AD)⟩
 f15:=⟨Tryz.f193.name,AC,Tryz.func193.trans (congrArg some AD)⟩
 f16:=⟨Tryz.f194.name,AC,Tryz.func194.trans (congrArg some AD)⟩
 f17:=⟨Tryz.f195.name,AC,Tryz.func195.trans (congrArg some AD)⟩
 f18:=⟨Tryz.f196.name,AC,Tryz.func196.trans (congrArg some AD)⟩
 f19:=Tryz.func197.trans (congrArg some AD)
 f20:=Tryz.func198.trans (congrArg some AD)
 f30:=⟨Tryz.f218.name,AC,Tryz.func218.trans (congrArg some AD)⟩
 f31:=Tryz.func219.trans (congrArg some AD)
 f32:=Tryz.func220.trans (congrArg some AD)
 f33:=⟨Tryz.f221.name,AC,Tryz.func221.trans (congrArg some AD)⟩
 f34:=⟨Tryz.f222.name,AC,Tryz.func222.trans (congrArg some AD)⟩
 f35:=⟨Tryz.f202.name,AC,Tryz.func202.trans (congrArg some AD)⟩
 f40:=⟨Tryz.f243.name,AC,Tryz.func243.trans (congrArg some AD)⟩
 t0:=Tryz.underlying0
 a0:=Tryz.isAgg0
 z0:=Tryz.sizeOf0
 v0:=Tryz.zeroValue0
 t3:=Tryz.underlying3
 a3:=Tryz.isAgg3
 z3:=Tryz.sizeOf3
 v3:=Tryz.zeroValue3
 t4:=Tryz.underlying4
 a4:=Tryz.isAgg4
 z4:=Tryz.sizeOf4
 v4:=Tryz.zeroValue4
 t5:=Tryz.underlying5
 a5:=Tryz.isAgg5
 z5:=Tryz.sizeOf5
 v5:=Tryz.zeroValue5
 t9:=Tryz.underlying9
 a9:=Tryz.isAgg9
 z9:=Tryz.sizeOf9
 v9:=Tryz.zeroValue9
 t22:=Tryz.underlying22
 a22:=Tryz.isAgg22
 z22:=Tryz.sizeOf22
 v22:=Tryz.zeroValue22
 t23:=Tryz.underlying22
 a23:=Tryz.isAgg22
 z23:=Tryz.sizeOf22
 v23:=Tryz.zeroValue22
 t25:=Tryz.underlying3
 a25:=Tryz.isAgg3
 z25:=Tryz.sizeOf3
 v25:=Tryz.zeroValue3
 t32:=Tryz.underlying155
 a32:=Tryz.isAgg155
 z32:=Tryz.sizeOf155
 v32:=Tryz.zeroValue155
 t35:=Tryz.underlying292
 a35:=Tryz.isAgg292
 z35:=Tryz.sizeOf292
 v35:=Tryz.zeroValue292
 t36:=Tryz.underlying293
 a36:=Tryz.isAgg293
 z36:=Tryz.sizeOf293
 v36:=Tryz.zeroValue293
 t41:=Tryz.underlying117
 a41:=Tryz.isAgg117
 z41:=Tryz.sizeOf117
 v41:=Tryz.zeroValue117
 t44:=Tryz.underlying235
 a44:=Tryz.isAgg235
 z44:=Tryz.sizeOf235
 v44:=Tryz.zeroValue235
 t46:=Tryz.underlying159
 a46:=Tryz.isAgg159
 z46:=Tryz.sizeOf159
 v46:=Tryz.zeroValue159
 t53:=Tryz.underlying321
 a53:=Tryz.isAgg321
 z53:=Tryz.sizeOf321
 v53:=Tryz.zeroValue321
 t57:=Tryz.underlying324
 a57:=Tryz.isAgg324
 z57:=Tryz.sizeOf324
 v57:=Tryz.zeroValue324
 t63:=Tryz.underlying343
 a63:=Tryz.isAgg343
 z63:=Tryz.sizeOf343
 v63:=Tryz.zeroValue343
 t64:=Tryz.underlying344
 a64:=Tryz.isAgg344
 z64:=Tryz.sizeOf344
 v64:=Tryz.zeroValue344}
open Go.RowKit Go.Maps Go.Sort
theorem Tryz.sortsI(m:Nat):AnyZI.SortsIn Tryz.prog Tryz.sortedI_ren Fence.wide m:=
 ⟨λblk off cap ss W hH hblk hsz=>callsIn_wide.2 (AnyM.slices_Sort_int Tryz.sortI blk off cap ss W hH hblk hsz),
  λp cap W=>callsIn_wide.2 (AnyM.slices_Sort_int_none Tryz.sortI p cap W)⟩
theorem Tryz.mapsKeysI(mb:Option Nat)(W:World):CallsIn Fence.wide 5 Tryz.prog 64 #[.map mb] W λe w'=>e= .returned (.func (.func 111) #[] #[.pointer (some ⟨W.heap.size,0,none⟩)])∧w'=W.alloc (.cells #[.map mb] 61):=
 AnyZI.keys_in Tryz.keysI Fence.wide 5 trivial rfl mb W
theorem Tryz.sortedKeysI{H:Type}(b nn:Nat)(D0:DataW H)(R:Value→Option (DataW H×List MemPlace))(w:World)(hown:w.ownsMap Tryz.prog 3 R b nn D0)(hmax:Maps.size D0≤maxLen)(hbytes:Maps.size D0*8≤140737488355328):
  CallsIn Fence.wide 5 Tryz.prog 63 #[.func (.func 111) #[] #[.pointer (some ⟨w.heap.size,0,none⟩)]] (w.alloc (.cells #[.map (some b)] 61)) λe w'=>∃(v:Value)(ss:List Int),e= .returned v∧ss.Perm (intKeys D0)∧
   w'.ownsRow (w.alloc (.cells #[.map (some b)] 61)).heap.size 3 1 v ss.length ((ss.mergeSort (λx y=>decide (x≤y))).map encZ)∧(v= .slice none 0 0↔ss=[])∧Below (w.alloc (.cells #[.map (some b)] 61)).heap.size (w.alloc (.cells #[.map (some b)] 61)) w':=by
 have hbl:=hown.lt;have hseq:SeqGives Fence.wide 2 Tryz.prog 111 #[.pointer (some ⟨w.heap.size,0,none⟩)] encZ (λss=>ss.Perm (intKeys D0)) (Maps.size D0) (w.alloc (.cells #[.map (some b)] 61)):=
  AnyZI.keys_gives (ρ:=Tryz.keysI_ren) {Tryz.keysI with} Fence.wide _ trivial rfl AA w.heap.size b nn D0 _ AB AB (by
   obtain⟨es,clock,hb,Ft,hs,hD⟩:=hown;exact⟨es,clock,(Below.heap_alloc _ _ b hbl).trans hb,Ft,hs,hD⟩)
 exact AnyZI.sorted_in Tryz.sortedI Fence.wide 5 trivial trivial trivial trivial rfl AA (Tryz.sortsI _) (enters_of Tryz.func110 AD rfl) 111 #[.pointer (some ⟨w.heap.size,0,none⟩)] trivial (enters_of Tryz.func111 AD rfl) _ _ hmax hbytes _ hseq
theorem Tryz.callKeysI: ∀(args:Array Value)(w:World),(callFunc 64 args).run Tryz.prog w= .ok (.enter 64 args) w:=Tryz.call64
theorem Tryz.callSortedI: ∀(args:Array Value)(w:World),(callFunc 63 args).run Tryz.prog w= .ok (.enter 63 args) w:=Tryz.call63
end Go.Proofs
