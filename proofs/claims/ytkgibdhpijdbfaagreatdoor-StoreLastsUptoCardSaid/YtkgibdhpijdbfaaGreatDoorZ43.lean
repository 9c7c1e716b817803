/- Texts of this claim, one behind the other. -/
import Derived.Test.YtkgibdhpijdbfaaGreatDoorZ40
import Derived.Test.YtkgibdhpijdbfaaGreatDoorZ11
import Derived.Test.YtkgibdhpijdbfaaGreatDoorZ8
import Derived.Test.YtkgibdhpijdbfaaGreatDoorZ9
import Derived.Test.YtkgibdhpijdbfaaGreatDoorZ42
import Derived.Test.YtkgibdhpijdbfaaGreatDoorZ26
set_option linter.unusedVariables false
set_option linter.unusedSimpArgs false
set_option maxHeartbeats 16000000
namespace Go.Proofs.YtkgibdhpijdbfaaGreatDoor
open Go Go.Eng Go.Proofs Go.Srt
theorem Bo.arrO{β:Type}{sz:Nat}{R:CS β}{W:World}{a:Option Addr}{n cap:Nat}{xs:List β}{cv:β→List Value}(h:Bo sz R W [.slice a n cap] xs)(hR: ∀cs x,R W cs x→cs=cv x)(hc: ∀x,(cv x).length=sz)(h0:0<sz):Arr W [] a (xs.flatMap cv):=by
 intro j v hj;have hjl:j<xs.length*sz:=by
  have:=(Fm.1 hj).1;rwa[Kw hc]at this
 have hi:j / sz<xs.length:=Nat.div_lt_of_lt_mul (by rw[Hs];exact hjl);obtain⟨b,off,cs,h1,h2,h3,h4⟩:=h.at hi;have hcs:=hR _ _ h4;have hat:=Mn hc xs [] (j / sz) hi;rw[BT,←hcs]at hat;refine⟨b,off,h1,AB,?_⟩;have hr:j % sz<sz:=FO _ h0;have hdm:j / sz*sz+j % sz=j:=by rw[Hs];exact Nat.div_add_mod j sz
 have hv:cs[j % sz]?=some v:=by
  rw[←hat,IJ,if_pos hr,Iu,hdm];exact hj
 have:=h3 _ _ hv;rw[hdm]at this;exact this
theorem Bo.intsO{W:World}{a:Option Addr}{n cap:Nat}{xs:List Int}(h:Bo 1 (HD .i64) W [.slice a n cap] xs):Arr W [] a (xs.map AY):=by
 have:=h.arrO (cv:=λz=>[AY z]) (λcs x hx=>hx.1) (λ_=>rfl) AC;have e: ∀l:List Int,l.flatMap (λz=>[AY z])=l.map AY:=λl=>by induction l<;>simp_all
 rwa[e]at this
def Ph:CS Ac:=λ_ cs o=>cs=A8 o
structure Ha where
 kind:Int
 n:Int
 key:AE
 to:AE
 ops:List Ac
 fates:List (Int×Int)
 keep:List Int
def Jt:CS Ha:=λW cs x=>∃vo vf vk,cs=[.int .i64 x.kind,.int .i64 x.n,AG x.key,AG x.to,vo,vf,vk]∧Bo 3 Ph W [vo] x.ops∧Bo 2 (Ii 1 (HD .i64) (HD .i64)) W [vf] x.fates∧Bo 1 (HD .i64) W [vk] x.keep∧K1 x.n
def Qj(x:Int×Int):List Value:=[AY x.1,AY x.2]
theorem qQ{W:World}{a:Option Addr}{n cap:Nat}{xs:List (Int×Int)}(h:Bo 2 (Ii 1 (HD .i64) (HD .i64)) W [.slice a n cap] xs):Arr W [] a (xs.flatMap Qj):=by
 refine h.arrO (cv:=Qj) (λcs x hx=>?_) (λ_=>rfl) AC;obtain⟨e1, -,h2⟩:=NC hx;have h2:cs.drop 1=[.int .i64 x.2]:=h2.1;rw[e1,h2];rfl
theorem X8{w0 w:World}{H:AH}(hS:St w0 [] H w){a:Option Addr}{n cap:Nat}{scr:List Ha}(h:Bo 7 Jt w0 [.slice a n cap] scr){k:Nat}(hk:k<scr.length):
  ∃b off ao co af cf ak ck,a=some ⟨b,off,none⟩∧(∀K:List Value→Prop,K [.int .i64 scr[k].kind,.int .i64 scr[k].n,AG scr[k].key,AG scr[k].to,.slice ao scr[k].ops.length co,.slice af scr[k].fates.length cf,.slice ak scr[k].keep.length ck]→GM (λw'=>w=w') 7 b (off+k*7) K)∧
   Arr w0 [] ao (scr[k].ops.flatMap A8)∧Arr w0 [] af (scr[k].fates.flatMap Qj)∧Arr w0 [] ak (scr[k].keep.map AY)∧K1 scr[k].n:=by
 obtain⟨b,off,cs,h1,⟨vo,vf,vk,rfl,h2,h3,h4,h5⟩,h6⟩:=h.ldn hS hk;obtain⟨ao,co,rfl, -, -,h2⟩:=h2.inv;obtain⟨af,cf,rfl, -, -,h3⟩:=h3.inv;obtain⟨ak,ck,rfl, -, -,h4⟩:=h4.inv;exact⟨b,off,ao,co,af,cf,ak,ck,h1,h6,h2.arrO (cv:=A8) (λ_ _ h=>h) (λ_=>rfl) AC,qQ h3,h4.intsO,h5⟩
def Er(scr:List Ha):Nat:=(scr.map λx=>x.ops.length).sum
theorem UB(scr:List Ha)(k:Nat)(hk:k<scr.length):Er (scr.take (k+1))=Er (scr.take k)+scr[k].ops.length:=by
 unfold Er;rw[Bq hk,A7,kD];simp
theorem UA(scr:List Ha)(k:Nat):Er (scr.take k)≤Er scr:=by
 have:Er scr=Er (scr.take k)+Er (scr.drop k):=by
  unfold Er;rw[←kD,←A7,CN]
 omega
end Go.Proofs.YtkgibdhpijdbfaaGreatDoor
namespace Go.Proofs.YtkgibdhpijdbfaaGreatDoor
open Go Go.Eng Go.Proofs Go.Srt
open Go.ChangeShapes Go.WideShapes Go.ChangeAt Go.RowKit
def Gs(o:Ac):Nat:=o.1.length+o.2.2.length+4
theorem vI:Bl Tryz.prog Bs Ph Gs:=by
 refine Bl.map (Bl.struct (sz:=3) Tryz.underlying30 AD (ER.cons (s:=1) rfl AD (Bl.str Tryz.underlying9) (ER.cons (s:=1) rfl AD (Bl.bool Tryz.underlying4) (ER.cons (s:=1) rfl AD (Bl.str Tryz.underlying9) ER.nil))))
  (λx=>(x.1,x.2.1,x.2.2.1)) ?_ (λx=>by unfold Gs;(try simp only);omega)
 intro W cs x h;obtain⟨e1,h⟩:=Ou h;obtain⟨e2,h⟩:=vU h;obtain⟨e3,h⟩:=Ou h;have h:(((cs.drop 1).drop 1).drop 1)=[]:=h;rw[h]at e3;rw[e3]at e2;rw[e2]at e1;exact e1
def Tr(b:List Ac):Nat:=(b.map Gs).sum+1
theorem vJ:Bl Tryz.prog TU (Bo 3 Ph) Tr:=
 Bl.slice Tryz.underlying27 (show Tryz.prog.cellsOf Bs=3 by kernel_rfl) AC vI
theorem XA: ∀(b:List Ac),4*b.length≤(b.map Gs).sum∧Av b≤4*(b.map Gs).sum
 |[]=>⟨AW _,AW _⟩
 |o::b=>by
  obtain⟨h1,h2⟩:=XA b;have e1:((o::b).map Gs).sum=Gs o+(b.map Gs).sum:=AB;have e2:Av (o::b)=EA o+Av b:=by unfold Av;simp
  have e3:EA o≤4*Gs o∧4≤Gs o:=by unfold EA Gs;omega
  rw[Ah];omega
def Zs:CS (Int×Int×List Int):=λW cs s=>∃v,cs=[.int .i64 s.1,.int .i64 s.2.1,v]∧Bo 1 (HD .i64) W [v] s.2.2
theorem vL:Bl Tryz.prog Ps Zs (λs=>s.2.2.length+4):=by
 have hs: ∀l:List Int,(l.map λ_=>1).sum=l.length:=λl=>by
  induction l with
  |nil=>rfl
  |cons a l ih=>rw[A4,HK,ih,Ah,Nat.add_comm]
 refine Bl.map (Bl.struct (sz:=3) Tryz.underlying24 AD (ER.cons (s:=1) rfl AD (Bl.int Tryz.underlying3) (ER.cons (s:=1) rfl AD (Bl.int Tryz.underlying3) (ER.cons (s:=1) rfl AD (Bl.slice Tryz.underlying22 (show Tryz.prog.cellsOf BX=1 by kernel_rfl) AC (Bl.int Tryz.underlying3)) ER.nil))))
  (λx=>(x.1,x.2.1,x.2.2.1)) ?_ (λx=>by(try simp only[hs]);omega)
 intro W cs x h;obtain⟨e1, -,h⟩:=NC h;obtain⟨e2, -,h⟩:=NC h;obtain⟨v,e3,h3,h⟩:=Ot h;have h:(((cs.drop 1).drop 1).drop 1)=[]:=h;rw[h]at e3;rw[e3]at e2;rw[e2]at e1;exact⟨v,e1,h3⟩
theorem XF{H:Type}{enc:TypeId×Value→H}{W:World}{v:Value}{d:DataW H}{p:List MemPlace}(hd:DataW.Trod enc Tryz.prog W 0 (λ_=>true) true Ps v d p):
  ∃(mm fan:Int)(hs:List Int)(a:Option Addr)(c:Nat),v= .agg ⟨[.int .i64 mm,.int .i64 fan,.slice a hs.length c]⟩∧Arr W [] a (hs.map AY)∧hs.length+4≤Rows.uptoBulk d:=by
 obtain⟨⟨mm,fan,hs⟩,⟨u,hcs,h1⟩,hb⟩:=Trod.out hd vL;obtain⟨a,c,rfl, -, -,h2⟩:=h1.inv;refine⟨mm,fan,hs,a,c,?_,h2.intsO,hb⟩;cases v with
 |agg cs=>cases cs;simp only[Value.cells]at hcs;rw[hcs]
 |_=>simp[Value.cells]at hcs
theorem Vp{W:World}(h1:F1 W)(h2:H3 W):Bw W []:=⟨h2,h1,AB,AB,AB⟩
theorem YS{α:Type}(l:List α)(c:Nat):(l.map λ_=>c).sum=c*l.length:=by
 induction l with
 |nil=>rfl
 |cons a l ih=>rw[A4,HK,ih,Ah,Nat.mul_succ,Nat.add_comm]
theorem vG:Bl Tryz.prog aL (Bo 2 (Ii 1 (HD .i64) (HD .i64))) (λxs=>3*xs.length+1):=
 Bl.map (Bl.slice Tryz.underlying47 (show Tryz.prog.cellsOf MP=2 by kernel_rfl) AC (Bl.pair (s0:=1) (s1:=1) Tryz.underlying75 rfl rfl AD AD AD (Bl.int Tryz.underlying3) (Bl.int Tryz.underlying3))) id (λ_ _ _ h=>h) (λx=>by simp only[id];rw[YS];omega)
theorem vH:Bl Tryz.prog TV (Bo 1 (HD .i64)) (λxs=>xs.length+1):=
 Bl.map (Bl.slice Tryz.underlying22 (show Tryz.prog.cellsOf BX=1 by kernel_rfl) AC (Bl.int Tryz.underlying3)) id (λ_ _ _ h=>h) (λx=>by simp only[id];rw[YS];omega)
def Fs(x:Ha):Nat:=x.key.length+x.to.length+(x.ops.map Gs).sum+3*x.fates.length+x.keep.length+8
theorem vK:Bl Tryz.prog F0 Jt Fs:=by
 refine Bl.map (Bl.struct (sz:=7) Tryz.underlying49 AD (ER.cons (s:=1) rfl AD (Bl.int Tryz.underlying3) (ER.cons (s:=1) rfl AD (Bl.int Tryz.underlying3) (ER.cons (s:=1) rfl AD (Bl.str Tryz.underlying9) (ER.cons (s:=1) rfl AD (Bl.str Tryz.underlying9)
  (ER.cons (s:=1) rfl AD vJ (ER.cons (s:=1) rfl AD vG (ER.cons (s:=1) rfl AD vH ER.nil))))))))
  (λx=>⟨x.1,x.2.1,x.2.2.1,x.2.2.2.1,x.2.2.2.2.1,x.2.2.2.2.2.1,x.2.2.2.2.2.2.1⟩) ?_ (λx=>by unfold Fs Tr;(try simp only);omega)
 intro W cs x h;obtain⟨e1,w1,h⟩:=NC h;obtain⟨e2,w2,h⟩:=NC h;obtain⟨e3,h⟩:=Ou h;obtain⟨e4,h⟩:=Ou h;obtain⟨vo,e5,h5,h⟩:=Ot h;obtain⟨vf,e6,h6,h⟩:=Ot h;obtain⟨vk,e7,h7,h⟩:=Ot h;have h:(((((((cs.drop 1).drop 1).drop 1).drop 1).drop 1).drop 1).drop 1)=[]:=h;rw[h]at e7;rw[e7]at e6;rw[e6]at e5;rw[e5]at e4;rw[e4]at e3;rw[e3]at e2;rw[e2]at e1;exact⟨vo,vf,vk,e1,h5,h6,h7,zB w2⟩
theorem XG:Bl Tryz.prog aM (Bo 7 Jt) (λxs=>(xs.map Fs).sum+1):=
 Bl.slice Tryz.underlying42 (show Tryz.prog.cellsOf F0=7 by kernel_rfl) AC vK
theorem O6: ∀(scr:List Ha),8*scr.length≤(scr.map Fs).sum∧4*Er scr≤(scr.map Fs).sum∧ ∀x∈scr,Av x.ops≤4*(scr.map Fs).sum∧Fs x≤(scr.map Fs).sum
 |[]=>⟨AW _,AW _,by nofun⟩
 |y::scr=>by
  obtain⟨h1,h2,h3⟩:=O6 scr;obtain⟨h4,h5⟩:=XA y.ops;have e1:((y::scr).map Fs).sum=Fs y+(scr.map Fs).sum:=AB;have e2:Er (y::scr)=y.ops.length+Er scr:=by unfold Er;simp
  have e3:(y.ops.map Gs).sum+8≤Fs y:=by unfold Fs;omega
  rw[Ah];refine⟨AA,AA,λx hx=>?_⟩;rcases As.1 hx with rfl|hx
  ·omega
  ·have:=h3 x hx;omega
end Go.Proofs.YtkgibdhpijdbfaaGreatDoor
namespace Go.Proofs.YtkgibdhpijdbfaaGreatDoor
open Go Go.Eng Go.Proofs Go.Srt
theorem Ts{w:World}(hG:Bw w []){a:Option Addr}{c:Nat}{hs:List Int}{mm fan:Int}(ha:Arr w [] a (hs.map AY))(hhl:hs.length≤1099511627776):
  Cl Tryz.prog p6 [.agg ⟨[.int .i64 mm,.int .i64 fan,.slice a hs.length c]⟩] w λv w'=>∃lb x H',v= .tuple ⟨[ptr lb,.bool true]⟩∧x.ah=a∧x.hs=hs∧GN lb 2 0 x H'∧St w [] H' w':=by
 have hS:=St.start w;refine kH rfl ?_;(repeat(refine jt ⟨?_⟩;refine hS.q ?_;intro _ hS));refine jt ⟨?_⟩;refine hS.al ?_;intro b1 w1 _ hS;(repeat(refine jt ⟨?_⟩;refine hS.q ?_;intro _ hS));refine jt ⟨?_⟩;have hcell: ∀w' H,St w [] (H++[(b1,.cells ⟨[.int .i64 mm,.int .i64 fan,.slice a hs.length c]⟩ Ps (0,0))]) w'→ ∀(j:Nat)(v:Value),([.int .i64 mm,.int .i64 fan,.slice a hs.length c]:List Value)[j]?=some v→w'.cell? ⟨b1,0+j,none⟩=some v:=by
  intro w' H hS j v hj;rw[DR];exact hS.cell (b:=b1) (off:=j) hj
 refine AM.draw AK mixed (λw'=>∀(j:Nat)(v:Value),([.int .i64 mm,.int .i64 fan,.slice a hs.length c]:List Value)[j]?=some v→w'.cell? ⟨b1,0+j,none⟩=some v) [3,4] [1,0,2,3,4] AD (hcell _ [] hS.drew) ?_;have hS:=hS.drew;refine jr ⟨?_⟩;refine Mw (l:=[.int .i64 mm,.int .i64 fan,.slice a hs.length c]) (λw' h=>h) rfl ?_;refine jr ⟨?_⟩;refine Cl.mono Pc ?_;rintro _ w2⟨f,L0,rfl, -,hF,hS'⟩;have hS:=hS.callNew hS'
 refine Ae.mk (hcell _ L0 hS) ?_;refine jr ⟨?_⟩;refine hS.al ?_;intro lb w3 _ hS;(repeat(refine jt ⟨?_⟩;refine hS.q ?_;intro _ hS));refine jt ⟨?_⟩;refine AM.draw AK mixed (λw'=>St w [] _ w') [5,6,7,8,9,10] [0,1,2,3,4,5,6,7,8,9,10] AD hS.drew ?_;have hS:=hS.drew;refine jr ⟨?_⟩;refine Cl.mono (Ss (hs:=hs) (mm:=mm) (fan:=fan) (cp:=c) (a:=a) hF (hS.part (L:=L0)) (hG.part hS (L:=L0)) rL AA AA (ha.stay hS (L:=L0)) hhl) ?_
 rintro _ w4 hv;cases hv with
 |ok sb L1 _ h hS'=>
  have hS:=hS.call (L:=L0) hS';refine jr ⟨?_⟩;(repeat(refine jt ⟨?_⟩;refine hS.q ?_;intro _ hS));refine jt ⟨?_⟩;refine⟨lb,⟨f,sb,mm,fan,a,hs,c,none,[],0,none,[],0,none,[],0⟩,_,rfl,rfl,rfl,⟨L1,[],[],_,rfl,?_⟩,hS⟩;refine⟨?_,⟨Fa.nil _,.inl rfl,Ag _,List.Pairwise.nil⟩,AT.nil,nofun,AT.nil,rfl⟩;rw[show DF (⟨f,sb,mm,fan,a,hs,c,none,[],0,none,[],0,none,[],0⟩:LM)=Hv from funext λn=>by unfold DF Hv;simp];exact h
 |space m2 L2 _ hf h hF2 hS'=>exact absurd rfl hf
 |down m2 L2 _ hf h hF2 hS'=>exact absurd rfl hf
theorem rT(l:List AO)(k:AE):Vn (Ip (l.map Dh) k)= .tuple ⟨[AG ((FP l k).getD []),.bool (FP l k).isSome]⟩:=by
 have e:Ip (l.map Dh) k=(l.find? λr=>decide (r.1=k)).map Dh:=by
  unfold Ip;rw[List.find?_map];rfl
 rw[e];unfold FP;cases l.find? λr=>decide (r.1=k)<;>rfl
theorem Sz{w:World}{a:Option Addr}{c:Nat}{l:List AO}(ha:Arr w [] a (l.flatMap BM))(k:AE)(hl:l.length≤262144):Cl Tryz.prog VG [.slice a l.length c,AG k] w λv w'=>v= .tuple ⟨[AG ((FP l k).getD []),.bool (FP l k).isSome]⟩∧St w [] [] w':=by
 have hl2:=NJ l;rw[←NJ l,←rT];exact ZP (by rw[NI];exact ha) k AA
theorem S0{w:World}{a:Option Addr}{c:Nat}{l:List AO}(ha:Arr w [] a (l.flatMap BM))(fr to:AE)(hl:l.length≤262144):Cl Tryz.prog VH [.slice a l.length c,AG fr,AG to] w λv w'=>∃a' c' L,v= .slice a' ((l.filter (Ef fr to)).map Dh).length c'∧AT Bs 3 a' ((l.filter (Ef fr to)).map Dh).length c' (((l.filter (Ef fr to)).map Dh).flatMap A8) L∧St w [] L w':=by
 have hl2:=NJ l;rw[←NJ l,←sD];exact Z7 (by rw[NI];exact ha) fr to AA
theorem WR{x:LM}{n:Int}(hlen:x.gn.length=x.sn.length)(h:DF x n=none):n<1∨(1≤n∧(x.sn.length:Int)<n)∨(1≤n∧n≤x.sn.length∧x.gn[(n-1).toNat]?=some true):=by
 by_cases h1:n<1
 ·exact .inl h1
 by_cases h2:(x.sn.length:Int)<n
 ·exact .inr (.inl ⟨AA,h2⟩)
 refine .inr (.inr ⟨AA,AA,?_⟩);have hb:(n-1).toNat<x.gn.length:=AA;have hb2:(n-1).toNat<x.sn.length:=AA;unfold DF at h;rw[if_neg h1,CB hb,CB hb2]at h;rw[CB hb];cases hg:x.gn[(n-1).toNat]with
 |true=>rfl
 |false=>rw[hg,if_pos rfl]at h;cases h
theorem RH{x:LM}{n:Int}{l:List AO}(hlen:x.gn.length=x.sn.length)(h:DF x n=some l):1≤n∧n≤x.sn.length∧x.gn[(n-1).toNat]?=some false∧ ∃s,x.sn[(n-1).toNat]?=some s∧s.l=l:=by
 unfold DF at h
 split at h
 ·cases h
 split at h
 ·rename_i h1 h2;obtain⟨s,hs,rfl⟩:=Option.map_eq_some_iff.1 h;have:=(Fm.1 hs).1;exact⟨AA,AA,h2,s,hs,rfl⟩
 ·cases h
theorem tF{c e:Nat}{x:LM}{L Lv Lg P:AH}(h:Lf c e x L Lv Lg P)(n:Int):((DF x n).getD []).length≤262144:=by
 cases hl:DF x n with
 |none=>exact Ag _
 |some l=>
  obtain⟨-, -, -,s,hs,rfl⟩:=RH h.len hl;exact(h.sn s (List.mem_of_getElem? hs)).2
theorem JE{e:TypeId}{sz:Nat}{a:Option Addr}{n cap:Nat}{xs:List Value}{L:AH}(h:AT e sz a n cap xs L){w0 w:World}{T:List Nat}{H:AH}{F:AH→AH}(hS:St w0 T H w) [hc:Chunk H L F]{j:Nat}{v:Value}(hx:xs[j]?=some v): ∃g off,a=some ⟨g,off,none⟩∧w.cell? ⟨g,off+j,none⟩=some v:=by
 obtain⟨g,off,h1, -,h3⟩:=(h.arr hS (T':=[]) AB) j v hx;exact⟨g,off,h1,h3⟩
theorem WX{w:World}{lb c e:Nat}{x:LM}{H:AH}(h:GN lb c e x H)(hh:Holds H w)(n:Int)(hn64:K1 n)(key:AE)(hkl:key.length≤1099511627776)(to:AE){kd:Int}{ao:Option Addr}{no co:Nat}{af:Option Addr}{nf cf:Nat}{ak:Option Addr}{nk ck:Nat}:
  Cl Tryz.prog p7 [ptr lb,.agg ⟨D9 kd n key to ao no co af nf cf ak nk ck⟩] w λv w'=>v= .bool true∧ ∃H',GN lb c e x H'∧St w (keys H) H' w':=by
 obtain⟨L,Lv,Lg,P,rfl,hf⟩:=h;have hS:=St.enter hh;generalize hT:keys ((lb,x.obj)::(L++(Lv++(Lg++P))))=T0 at hS⊢;have hlen:=hf.len;obtain⟨hn1,hn2⟩:=hn64;refine kK rfl ?_;(repeat(refine jt ⟨?_⟩;refine hS.q ?_;intro _ hS));refine jt ⟨?_⟩;refine hS.al ?_;intro b3 w1 _ hS;(repeat(refine jt ⟨?_⟩;refine hS.q ?_;intro _ hS));refine jt ⟨?_⟩;refine AM.draw AK mixed (λw'=>St w T0 ((b3,.cells ⟨D9 kd n key to ao no co af nf cf ak nk ck⟩ F0 (0,0))::(lb,x.obj)::(L++(Lv++(Lg++P)))) w') [10,11,12,13,14,15] [0,1,2,3,4,5,6,7,8,9,10,11,12,13,14,15] AD hS.drew ?_
 have hS:=hS.drew;refine jr ⟨?_⟩;refine Cl.mono (ZM hf.st (hS.part (L:=L)) n key to) ?_;rintro _ w2⟨a2,c2,Lw,L2,rfl,hv2,hK,hS'⟩;have hS:=hS.call (L:=L) hS';refine jr ⟨?_⟩;have hfl:(((DF x n).getD []).filter (Ef key to)).length≤262144:=Au (K6 _ _) (tF hf n);generalize hops:(((DF x n).getD []).filter (Ef key to))=fo at hv2 hS hfl;have hS:St w T0 ((b3,.cells ⟨D9 kd n key to ao no co af nf cf ak nk ck⟩ F0 (0,0))::(lb,x.obj)::((Lw++L2)++(Lv++(Lg++P)))) _:=hS
 (repeat(refine jt ⟨?_⟩;refine hS.q ?_;intro _ hS));refine jt ⟨?_⟩;refine AM.draw AK mixed (λw'=>St w T0 ((b3,.cells ⟨D9 kd n key to ao no co af nf cf ak nk ck⟩ F0 (0,0))::(lb,x.obj)::((Lw++L2)++(Lv++(Lg++P)))) w') [8,9,10,11,12,13,14,15] [0,1,2,3,4,5,6,7,8,9,10,11,12,13,14,15] AD hS.drew ?_;have hS:=hS.drew;refine jr ⟨?_⟩;refine Cl.mono (ZL hK (hS.part (L:=L2)) n key hkl) ?_;rintro _ w3⟨rfl,L3,hK3,hS'⟩
 have hS:=hS.call (L:=L2) hS';clear hK hS';have hf3:Lf c e x L3 Lv Lg P:={hf with st:=hK3};have hend: ∀{w' A},St w T0 (A++((b3,.cells ⟨D9 kd n key to ao no co af nf cf ak nk ck⟩ F0 (0,0))::(lb,x.obj)::((Lw++L3)++(Lv++(Lg++P))))) w'→ ∃H',GN lb c e x H'∧St w T0 H' w':=λhS=>⟨_,⟨L3,Lv,Lg,P,rfl,hf3⟩,hS.sub ((((Ai Lw L3).append_right _).cons_cons _ |>.cons _).trans (Ai _ _))⟩;refine jr ⟨?_⟩;refine AM.drawQ AK mixed (λw'=>St w T0 ((b3,.cells ⟨D9 kd n key to ao no co af nf cf ak nk ck⟩ F0 (0,0))::(lb,x.obj)::((Lw++L3)++(Lv++(Lg++P)))) w') [0,1,2,3,4,5,6,7,8,9,10,11,12,13,14,15,16,17,18,19,20,21,22,23] AD hS.drew ?_
 have hS:=hS.drew;cases hl:DF x n with
 |none=>
  have hfo:fo=[]:=by rw[←hops,hl];rfl
  subst hfo;have hat:E4 (DF x) n=3:=by unfold E4;rw[hl];rfl
  have hlk:FP ((none:Option (List AO)).getD []) key=none:=rfl;rw[hlk,hat,Option.getD_none,I0];rcases WR hlen hl with h1|⟨h1,h2⟩|⟨h1,h2,h3⟩
  ·refine jr ⟨?_⟩;(repeat(refine jt ⟨?_⟩;refine hS.q ?_;intro _ hS));refine jt ⟨?_⟩;exact⟨rfl,hend (A:=[]) hS⟩
  ·refine jr ⟨?_⟩;(repeat(refine jt ⟨?_⟩;refine hS.q ?_;intro _ hS));refine jt ⟨?_⟩;exact⟨rfl,hend (A:=[]) hS⟩
  ·have hc:=JE hf.g hS (j:=(n-1).toNat) (v:= .bool true) (by rw[Et,h3];rfl);obtain⟨g,off,hga, -⟩:=hc;refine jr ⟨?_⟩;rw[hga];refine jr ⟨?_⟩;refine CL (v:= .bool true) (λw' h=>by
    obtain⟨g2,off2,e2,hc⟩:=JE hf.g h (j:=(n-1).toNat) (v:= .bool true) (by rw[Et,h3];rfl);rw[hga]at e2;cases e2;rw[show off+(n-1).toNat*1=off+(n-1).toNat by omega];exact hc) ?_
   refine jr ⟨?_⟩;(repeat(refine jt ⟨?_⟩;refine hS.q ?_;intro _ hS));refine jt ⟨?_⟩;exact⟨rfl,hend (A:=[]) hS⟩
 |some l=>
  obtain⟨h1,h2,h3,s,hs,rfl⟩:=RH hlen hl;have hgl:x.gn.length=x.gn.length:=rfl;have hat:E4 (DF x) n=0:=by unfold E4;rw[hl];rfl
  have hfo:fo=s.l.filter (Ef key to):=by rw[←hops,hl];rfl
  subst hfo;obtain⟨hsa,hsl⟩:=hf.sn s (List.mem_of_getElem? hs);rw[hat,FA];clear hops;obtain⟨g,off,hga, -⟩:=JE hf.g hS (j:=(n-1).toNat) (v:= .bool false) (by rw[Et,h3];rfl);obtain⟨g4,off4,hgs, -⟩:=JE hf.v hS (j:=(n-1).toNat) (v:= .slice s.a s.l.length s.c) (by rw[Et,hs];rfl);refine jr ⟨?_⟩;rw[hga];refine jr ⟨?_⟩;refine CL (v:= .bool false) (λw' h=>by
   obtain⟨g2,off2,e2,hc⟩:=JE hf.g h (j:=(n-1).toNat) (v:= .bool false) (by rw[Et,h3];rfl);rw[hga]at e2;cases e2;rw[show off+(n-1).toNat*1=off+(n-1).toNat by omega];exact hc) ?_
  refine jr ⟨?_⟩;refine AM.draw AK mixed (λw'=>St w T0 ((b3,.cells ⟨D9 kd n key to ao no co af nf cf ak nk ck⟩ F0 (0,0))::(lb,x.obj)::((Lw++L3)++(Lv++(Lg++P)))) w') [11,12,13,14,15,16] [0,1,2,3,4,5,6,7,8,9,10,11,12,13,14,15,16] AD hS.drew ?_;have hS:=hS.drew;refine jr ⟨?_⟩;rw[hgs];refine jr ⟨?_⟩;refine CL (v:= .slice s.a s.l.length s.c) (λw' h=>by
   obtain⟨g2,off2,e2,hc⟩:=JE hf.v h (j:=(n-1).toNat) (v:= .slice s.a s.l.length s.c) (by rw[Et,hs];rfl);rw[hgs]at e2;cases e2;rw[show off4+(n-1).toNat*1=off4+(n-1).toNat by omega];exact hc) ?_
  refine jr ⟨?_⟩;refine Cl.mono (Sz (hsa.in hS) key hsl) ?_;rintro _ w4⟨rfl,hS'⟩;have hS:=hS.call0 hS';refine jr ⟨?_⟩;refine AM.drawQ AK mixed (λw'=>St w T0 ((b3,.cells ⟨D9 kd n key to ao no co af nf cf ak nk ck⟩ F0 (0,0))::(lb,x.obj)::((Lw++L3)++(Lv++(Lg++P)))) w') [0,1,2,3,4,5,6,7,8,9,10,11,12,13,14,15,16,17,18,19,20,21,22,23,24,25,26,27,28,29,30,31,32,33,34] AD hS.drew ?_;have hS:=hS.drew;refine jr ⟨?_⟩
  rw[hgs];refine jr ⟨?_⟩;refine CL (v:= .slice s.a s.l.length s.c) (λw' h=>by
   obtain⟨g2,off2,e2,hc⟩:=JE hf.v h (j:=(n-1).toNat) (v:= .slice s.a s.l.length s.c) (by rw[Et,hs];rfl);rw[hgs]at e2;cases e2;rw[show off4+(n-1).toNat*1=off4+(n-1).toNat by omega];exact hc) ?_
  refine jr ⟨?_⟩;refine Cl.mono (S0 (hsa.in hS) key to hsl) ?_;rintro _ w5⟨a5,c5,L5,rfl,hv5,hS'⟩;have hS:=hS.callNew hS';refine Ae.mk (hS.sub (Ai L5 _)) ?_;refine jr ⟨?_⟩;refine Cl.mono (Nk (hv2.arr hS AB) (hv5.arr hS AB) (by rw[BZ];omega) (by rw[BZ];omega)) ?_;rintro _ w6⟨rfl,hS'⟩;have hS:=hS.call0 hS';refine Ae.mk (hS.sub (Ai L5 _)) ?_;rw[decide_eq_true rfl];refine jr ⟨?_⟩;refine Ae.mk Tryz.underlying4 ?_
  refine jr ⟨?_⟩;rw[beq_self_eq_true];(repeat(refine jt ⟨?_⟩;refine hS.q ?_;intro _ hS));refine jt ⟨?_⟩;exact⟨rfl,hend (A:=L5) hS⟩
end Go.Proofs.YtkgibdhpijdbfaaGreatDoor
