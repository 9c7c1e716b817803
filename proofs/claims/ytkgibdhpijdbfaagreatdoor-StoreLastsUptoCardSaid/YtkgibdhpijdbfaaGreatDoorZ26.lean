/- Texts of this claim, one behind the other. -/
import Derived.Test.YtkgibdhpijdbfaaGreatDoorZ3
import Derived.Maps.RangeRun
import Derived.Test.YtkgibdhpijdbfaaGreatDoorZ24
import Derived.Test.YtkgibdhpijdbfaaGreatDoorZ14
import Derived.Test.YtkgibdhpijdbfaaGreatDoorZ5
import Derived.Lib.ItoaLen
import Derived.Test.YtkgibdhpijdbfaaGreatDoorZ23
import Derived.Test.YtkgibdhpijdbfaaGreatDoorZ9
import Derived.Test.YtkgibdhpijdbfaaGreatDoorZ8
import Derived.Test.YtkgibdhpijdbfaaGreatDoorZ2
import Derived.Test.YtkgibdhpijdbfaaGreatDoorZ1
set_option linter.unusedVariables false
set_option linter.unusedSimpArgs false
set_option maxHeartbeats 16000000
namespace Go.Eng
open Go
section
variable {κ α : Type} {P : Program} {T0 : BL}
structure H7(enc:κ→Value)(val:α→Value)(es:Array MapEntry)(seen:Array Nat)(kvs done todo:List (κ×α)):Prop where
 perm:(done++todo).Perm kvs
 left:(leftOf es seen).toList.map (λe=>(e.key,e.val))=todo.map λx=>(enc x.1,val x.2)
theorem H7.start{enc:κ→Value}{val:α→Value}{es:Array MapEntry}{c:Nat}{kvs:List (κ×α)}(h:MapC enc val es c kvs):H7 enc val es #[] kvs [] kvs:=by
 refine⟨List.Perm.refl _,?_⟩;have:leftOf es #[]=es:=by simp[leftOf]
 rw[this];exact h.of
theorem s9{es:Array MapEntry}{seen:Array Nat}{e:MapEntry}{L1 L2:List MapEntry}(hn:(es.toList.map (·.born)).Nodup)(h:(leftOf es seen).toList=L1++e::L2):(leftOf es (seen.push e.born)).toList=L1++L2:=by
 have h1:(leftOf es (seen.push e.born)).toList=(leftOf es seen).toList.filter (λx=> !decide (x.born=e.born)):=by
  unfold leftOf;simp only[Array.toList_filter,List.filter_filter];apply List.filter_congr;intro x _;simp only[Array.contains_push,Bool.not_or];rw[Bool.and_comm]
  congr 1
 have h2:((leftOf es seen).toList.map (·.born)).Nodup:=by
  unfold leftOf;simp only[Array.toList_filter];exact List.Nodup.sublist (List.Sublist.map _ List.filter_sublist) hn
 rw[h1,h];rw[h,A7,A4,F8]at h2;obtain⟨_,h3,h4⟩:=h2;rw[Eu]at h3;rw[J9,List.filter_cons];simp only[decide_true,Bool.not_true,Bool.false_eq_true,if_false]
 congr 1
 ·rw[KA];intro x hx;have:=h4 x.born (CC hx) e.born AB;simpa using this
 ·rw[KA];intro x hx;have:x.born≠e.born:=λhe=>h3.1 (he▸CC hx);simpa using this
theorem Wb{β γ:Type}{f:β→γ}{g:κ×α→γ}: ∀{L1:List β}{e:β}{L2:List β}{todo:List (κ×α)},(L1++e::L2).map f=todo.map g→ ∃A x B,todo=A++x::B∧L1.map f=A.map g∧f e=g x∧L2.map f=B.map g
 |[],e,L2,[],h=>by simp at h
 |[],e,L2,x::B,h=>by simp at h;exact⟨[],x,B,rfl,rfl,h.1,h.2⟩
 |y::L1,e,L2,[],h=>by simp at h
 |y::L1,e,L2,z::todo,h=>by
  simp only[D1,A4,List.cons.injEq]at h;obtain⟨A,x,B,h1,h2,h3,h4⟩:=Wb h.2;exact⟨z::A,x,B,by rw[h1];rfl,by simp[h.1,h2],h3,h4⟩
variable {w0 w : World} {T : List Nat} {H : AH}
theorem St.rangeM(hT:BR P T0){t kt et:TypeId}{i:TI}(hi:tf T0 t=some i)(hk:i.k= .map kt et){m:Nat}{es:Array MapEntry}{c:Nat}{F:Obj→AH}(hS:St w0 T H w) [Slot H m (.map es c) F]
  {K:Value→World→Prop}(h: ∀it w',w0.heap.size≤it→St w0 T ((it,.mapIter (some m) c #[] c)::H) w'→K (.pointer (some ⟨it,0,none⟩)) w'):Bm P (Instr.range t (.map (some m))) w K:=by
 have hu:P.underlying t=some (.map kt et):=by have:=CZ hT hi;rw[hk]at this;exact this
 refine Bm.of (v:= .pointer (some ⟨w.heap.size,0,none⟩)) (w':=w.alloc (.mapIter (some m) c #[] c)) ?_ (h _ _ hS.size (hS.alloc _));have hm:=hS.mem (b:=m);simp only[Instr.range,Sem.run_bind,run_underlying hu,Result.andThen_ok,getObj,Sem.run,hm,Sem.run_pure]
 rfl
theorem St.nextM{enc:κ→Value}{val:α→Value}{es:Array MapEntry}{c m it:Nat}{seen:Array Nat}{kvs done todo:List (κ×α)}{ty:TypeId}{F:Obj→AH}(hS:St w0 T H w) [Slot H it (.mapIter (some m) c seen c) F]
  (hm:w.heap[m]?=some (.map es c))(hC:MapC enc val es c kvs)(hR:H7 enc val es seen kvs done todo){K:Value→World→Prop}
  (h0:todo=[]→K (.tuple ⟨[.bool false]⟩) w)
  (h1: ∀A x B e w',todo=A++x::B→H7 enc val es (seen.push e.born) kvs (done++[x]) (A++B)→e∈es.toList→e.key=enc x.1→e.val=val x.2→
   St w0 T (F (.mapIter (some m) c (seen.push e.born) c)) w'→K (.tuple ⟨[.bool true,enc x.1,val x.2]⟩) w'):Bm P (Instr.next (.pointer (some ⟨it,0,none⟩)) false ty) w K:=by
 rcases run_next_at (P:=P) w ty it m c c seen es c (hS.mem (b:=it)) hm hC.st.1 (AW _)with⟨hz,hrun⟩|⟨e,he,w1,hw1,hrun⟩
 ·refine Bm.of hrun (h0 ?_);have:=congrArg List.length hR.left;simp only[BZ,Array.length_toList,hz]at this;exact It this.symm
 ·obtain⟨L1,L2,hl⟩:=List.append_of_mem he;have hleft:=hR.left;rw[hl]at hleft;obtain⟨A,x,B,h2,h3,h4,h5⟩:=Wb hleft;simp only[Prod.mk.injEq]at h4;have hS1:St w0 T H w1:=by
   rcases hw1 with rfl|rfl
   ·exact hS
   ·exact hS.drew
  have hS2:St w0 T (F (.mapIter (some m) c (seen.push e.born) c)) (ChangeMaps.setBlock w1 it (.mapIter (some m) c (seen.push e.born) c)):=
   hS1.setBlock (b:=it) rfl rfl rfl (by simp[ChangeMaps.setBlock]) (λk hk=>by simp[ChangeMaps.setBlock,Array.getElem?_setIfInBounds_ne (Ne.symm hk)]) (by
    have h:=(Array.getElem?_eq_some_iff.1 (hS1.mem (b:=it))).1;simp[ChangeMaps.setBlock,h])
  refine Bm.of hrun ?_;rw[h4.1,h4.2];refine h1 A x B e _ h2 ⟨?_,?_⟩ ?_ h4.1 h4.2 hS2
  ·refine List.Perm.trans ?_ hR.perm;rw[h2,Aj];exact List.Perm.append_left _ (show(x::(A++B)).Perm (A++x::B)from Dd.symm)
  ·rw[s9 hC.st.2.1 hl,A7,A7,h3,h5]
  ·have:e∈(leftOf es seen).toList:=he;simp[leftOf]at this⊢;exact this.1
theorem St.entryM{enc:κ→Value}{val:α→Value}{es:Array MapEntry}{c m it:Nat}{seen:Array Nat}{kvs:List (κ×α)}{e:MapEntry}{x:κ×α}{F:Obj→AH}(hS:St w0 T H w) [Slot H it (.mapIter (some m) c (seen.push e.born) c) F]
  (hm:w.heap[m]?=some (.map es c))(hC:MapC enc val es c kvs)(he:e∈es.toList)(h1:e.key=enc x.1)(h2:e.val=val x.2){K:Value→World→Prop}(h:K (.tuple ⟨[enc x.1,val x.2]⟩) w):Bm P (Instr.entry (.pointer (some ⟨it,0,none⟩))) w K:=by
 refine Bm.of (run_entry_at w it m c seen es c e (hS.mem (b:=it)) hm he hC.st.2.1) ?_;rw[h1,h2];exact h
end
end Go.Eng
namespace Go.Proofs.YtkgibdhpijdbfaaGreatDoor
open Go Go.Eng Go.Proofs Go.Srt
def Ck(n:Int):Prop:= -9223372036854775808≤n∧n≤9223372036854775807
theorem J7{n:Int}(h:Ck n):(Lib.itoa n).length≤21:=Lib.itoa_length_le n h.1 h.2
theorem Pu{w:World}{n:Int}(hn:Ck n)(hT:F1 w):Cl Tryz.prog mX [.int .i64 n] w λv w'=>v=AG (116::Lib.itoa n)∧St w [] [] w':=by
 have hS:=St.start w;refine eX rfl ?_;refine jq ⟨?_⟩;refine Cl.mono (Nb hn.1 hn.2 hT) ?_;rintro _ w1⟨rfl,hS'⟩;have hS:=hS.call0 hS';have hil:=J7 hn;refine jq ⟨?_⟩;refine Ae.mk (by simp;omega) ?_;refine jq ⟨?_⟩;exact⟨rfl,hS⟩
theorem ML{w:World}{n:Int}(hn:Ck n)(hT:F1 w):Cl Tryz.prog mU [.int .i64 n] w λv w'=>v=AG (119::Lib.itoa n)∧St w [] [] w':=by
 have hS:=St.start w;refine eU rfl ?_;refine jq ⟨?_⟩;refine Cl.mono (Nb hn.1 hn.2 hT) ?_;rintro _ w1⟨rfl,hS'⟩;have hS:=hS.call0 hS';have hil:=J7 hn;refine jq ⟨?_⟩;refine Ae.mk (by simp;omega) ?_;refine jq ⟨?_⟩;exact⟨rfl,hS⟩
theorem Kh{w:World}{n:Int}(hn:Ck n)(hT:F1 w):Cl Tryz.prog mT [.int .i64 n] w λv w'=>v=AG (109::Lib.itoa n)∧St w [] [] w':=by
 have hS:=St.start w;refine eT rfl ?_;refine jq ⟨?_⟩;refine Cl.mono (Nb hn.1 hn.2 hT) ?_;rintro _ w1⟨rfl,hS'⟩;have hS:=hS.call0 hS';have hil:=J7 hn;refine jq ⟨?_⟩;refine Ae.mk (by simp;omega) ?_;refine jq ⟨?_⟩;exact⟨rfl,hS⟩
theorem uW{c:UInt8}(h1:c.toNat≠116)(h2:c.toNat≠119)(h3:c.toNat≠109):JY c=false:=by
 unfold JY;have e1:(c==116)=false:=beq_eq_false_iff_ne.2 λe=>h1 (by rw[e];rfl);have e2:(c==119)=false:=beq_eq_false_iff_ne.2 λe=>h2 (by rw[e];rfl);have e3:(c==109)=false:=beq_eq_false_iff_ne.2 λe=>h3 (by rw[e];rfl);rw[e1,e2,e3];rfl
theorem S8{w:World}{t:AE}(ht:t.length≤281474976710656)(hE:H3 w)(hT:F1 w):Cl Tryz.prog mV [AG t] w λv w'=>v=Ji t∧St w [] [] w':=by
 have hS:=St.start w;refine eV rfl ?_;cases t with
 |nil=>
  refine jq ⟨?_⟩;exact⟨rfl,hS⟩
 |cons c r=>
  have hlen:(c::r).length=r.length+1:=rfl;refine jq ⟨?_⟩;rw[decide_eq_false (List.cons_ne_nil c r)];refine jq ⟨?_⟩;refine Cl.mono (Y1 (s:=r) AA hE) ?_;rintro _ w2⟨hS',n,ev,rfl,hrng,hev⟩;have hS:=hS.call0 hS';have hp:=XO (c:=c) (r:=r) (n:=n) hrng (hev.imp (λh=>h.1) (λh=>h.1));have hfalse:EG c r n=false→Value.tuple ⟨[.int .u8 0,.int .i64 0,.bool false]⟩=Ji (c::r):=λh=>by
   unfold Ji;rw[hp,h];rfl
  have htrue:EG c r n=true→Value.tuple ⟨[.int .u8 (c.toNat:Nat),.int .i64 n,.bool true]⟩=Ji (c::r):=λh=>by
   unfold Ji;rw[hp,h];rfl
  have hil:=J7 hrng;rcases hev with⟨ha,rfl⟩|⟨ha, -,t,p,rfl⟩
  ·refine jq ⟨?_⟩;refine AM.draw AK mixed (λw'=>St w [] [] w') [] [0,1,2,3,4,5,6,7,9,10,8,11,12] AD hS.drew ?_;have hS:=hS.drew;generalize w2.drew=w2 at hS;refine jr ⟨?_⟩;refine uM AK rfl rfl ?_;by_cases hn1:n<1
   ·have hf:EG c r n=false:=by unfold EG;rw[decide_eq_false AA];rfl
    refine jr ⟨?_⟩;refine jq ⟨?_⟩;exact⟨hfalse hf,hS⟩
   ·refine jr ⟨?_⟩;refine Cl.mono (Nb hrng.1 hrng.2 (hT.keep hS)) ?_;rintro _ w3⟨rfl,hS'⟩;have hS:=hS.call0 hS';refine jr ⟨?_⟩;rw[show List.drop (Int.toNat 1) (c::r)=r from rfl];by_cases hr:Lib.itoa n=r
    ·rw[decide_eq_true hr];refine jq ⟨?_⟩;rw[show(c::r).getD (Int.toNat 0) 0=c from rfl];by_cases h1:c.toNat=116
     ·have hc:JY c=true:=by
       have:c=116:=UInt8.toNat_inj.1 h1;subst this;rfl
      have ht:EG c r n=true:=by unfold EG;rw[decide_eq_true hr,hc,decide_eq_true AA];rfl
      refine jq ⟨?_⟩;exact⟨htrue ht,hS⟩
     by_cases h2:c.toNat=119
     ·have hc:JY c=true:=by
       have:c=119:=UInt8.toNat_inj.1 h2;subst this;rfl
      have ht:EG c r n=true:=by unfold EG;rw[decide_eq_true hr,hc,decide_eq_true AA];rfl
      refine jq ⟨?_⟩;exact⟨htrue ht,hS⟩
     by_cases h3:c.toNat=109
     ·have hc:JY c=true:=by
       have:c=109:=UInt8.toNat_inj.1 h3;subst this;rfl
      have ht:EG c r n=true:=by unfold EG;rw[decide_eq_true hr,hc,decide_eq_true AA];rfl
      refine jq ⟨?_⟩;exact⟨htrue ht,hS⟩
     have hc:JY c=false:=uW h1 h2 h3;have hf:EG c r n=false:=by unfold EG;rw[hc];simp
     refine jq ⟨?_⟩;exact⟨hfalse hf,hS⟩
    ·have hf:EG c r n=false:=by unfold EG;rw[decide_eq_false hr];simp
     rw[decide_eq_false hr];refine jq ⟨?_⟩;exact⟨hfalse hf,hS⟩
  ·have hne:Lib.itoa n≠r:=λe=>ha n (by rw[←e];exact MX hrng.1 hrng.2);have hf:EG c r n=false:=by unfold EG;rw[decide_eq_false hne];simp
   refine jq ⟨?_⟩;refine AM.draw AK mixed (λw'=>St w [] [] w') [] [0,1,2,3,4,5,6,7,9,10,8,11,12] AD hS.drew ?_;have hS:=hS.drew;generalize w2.drew=w2 at hS;refine jr ⟨?_⟩;refine uL AK rfl rfl ?_;refine jr ⟨?_⟩;refine jq ⟨?_⟩;exact⟨hfalse hf,hS⟩
theorem aX{w:World}{a:Option Addr}{c:Nat}{v:VM}(hv:Gz w a c v)(hlen:v.files.length≤16777216):
  Cl Tryz.prog mY [.agg ⟨C8 a c v⟩] w λr w'=>∃a' c' L,r= .agg ⟨Du a' none c' 0 (En v)⟩∧AT BE 2 a' v.files.length c' (v.files.flatMap Ad) L∧St w [] L w':=by
 have hS:=St.start w;unfold C8;refine eY rfl ?_;refine jq ⟨?_⟩;refine hS.al ?_;intro b1 w1 _ hS;refine jq ⟨?_⟩;refine hS.al ?_;intro b2 w2 _ hS;refine jq ⟨?_⟩;refine AM.draw AK mixed (λw'=>St w [] [(b2,.cells ⟨[.slice none 0 0,.slice none 0 0,.int .i64 0,.int .i64 0,.int .i64 0]⟩ Br (0,0)),(b1,.cells ⟨[.slice a v.files.length c,.int .i64 v.wal,.int .i64 v.next,.int .i64 v.seq]⟩ Ec (0,0))] w') [10] [0,1,3,4,5,6,7,8,2,9,10] AD hS.drew ?_
 have hS:=hS.drew;generalize w2.drew=w2 at hS;refine jr ⟨?_⟩;refine(Se (hv.files.keep hS.nil) hlen).mono ?_;rintro _ w3⟨a3,c3,L3,rfl,hv3,hS'⟩;have hS:=hS.callNew hS';refine Ae.mk (hS.sub (Ai _ _)) ?_;(repeat(refine jt ⟨?_⟩;refine hS.q ?_;intro _ hS));refine jt ⟨?_⟩;exact⟨a3,c3,L3,rfl,hv3,hS.sub (CD _ _)⟩
def Kq(e:EM):Value:=if C6 e then .tuple ⟨[AG (Al e),.int .i64 0]⟩else .tuple ⟨[AG [],.int .i64 11]⟩
theorem qS(l:List Af)(k:Nat)(hk:k<l.length):DY (l.take (k+1))=DY (l.take k)++Hk l[k]:=by
 unfold DY;rw[Bq hk,A7,kC];simp
theorem Ms(z:Int)(h:CA z):(Bg z).length≤10:=EO _ (MC h)
theorem Qk(l:List Af)(h: ∀f∈l,CA f.1∧CA f.2):(DY l).length≤20*l.length:=by
 induction l with
 |nil=>simp[DY]
 |cons f l ih=>
  have h1:=h f AB;have h2:=Ms _ h1.1;have h3:=Ms _ h1.2;have h4:=ih λg hg=>h g (by simp[hg]);simp only[DY,Hk,A4,Dc,AP,Ah]at h4⊢;omega
theorem sN(f:Af):Ci [f.1,f.2]=Hk f:=by simp[Ci,Hk]
theorem yX{f:Af}(h:CA f.1∧CA f.2): ∀z∈[f.1,f.2],CA z:=by
 intro z hz;simp only[As,List.mem_nil_iff,or_false]at hz;rcases hz with rfl|rfl
 ·exact h.1
 ·exact h.2
theorem NY{w:World}{a b:Option Addr}{ca cb:Nat}{e:EM}(he:HZ w a b ca cb e)(ho:EQ e):
  Cl Tryz.prog mS [.agg ⟨Du a b ca cb e⟩] w λv w'=>v=Kq e∧St w [] [] w':=by
 have hS:=St.start w;have hl:=he.len;have hcl:=G3 e.add;have hfl:=Qk e.add ho.add;have hil:=OW e.del ho.del;have hn1:=EO e.add.length AA;have hn2:=EO e.del.length AA;unfold Du Kq;refine eS rfl ?_;refine jq ⟨?_⟩;refine hS.al ?_;intro b1 w1 _ hS;(repeat(refine jt ⟨?_⟩;refine hS.q ?_;intro _ hS));refine jt ⟨?_⟩;refine(Rv (he.keep hS)).mono ?_;rintro _ w2⟨rfl,hS'⟩;have hS:=hS.call0 hS';cases hr:C6 e with
 |false=>
  (repeat(refine jt ⟨?_⟩;refine hS.q ?_;intro _ hS));refine jt ⟨?_⟩;exact⟨rfl,hS.nil⟩
 |true=>
  (repeat(refine jt ⟨?_⟩;refine hS.q ?_;intro _ hS));refine jt ⟨?_⟩;refine Cl.mono MM ?_;rintro _ w3⟨pb,L,rfl,hW,hS'⟩;have hS:=hS.callNew hS';(repeat(refine jt ⟨?_⟩;refine hS.q ?_;intro _ hS));refine jt ⟨?_⟩;refine hS.al ?_;intro r w4 _ hS;(repeat(refine jt ⟨?_⟩;refine hS.q ?_;intro _ hS));refine jt ⟨?_⟩;refine Cl.mono (Ge hW (hS.part (L:=L)) (ns:=[e.add.length]) (hS.arr (b:=r) (Cu hS)) (by intro n hn;simp only[As,List.mem_nil_iff,or_false]at hn;subst hn;omega) AB AB) ?_
  rintro _ w5⟨L1,hW,hS'⟩;have hS:=hS.call (L:=L) hS';have hW:DK pb (Ak e.add.length) L1:=by simpa using hW
  have hS:=St.tl1 hS;(repeat(refine jt ⟨?_⟩;refine hS.q ?_;intro _ hS));refine jt ⟨?_⟩;refine AM.loop (λk:Nat=>[(1,ptr b1),(4,ptr pb),(19,.slice a e.add.length ca),(20,.int .i64 e.add.length),(21,.int .i64 k)])
   (λk w'=>k≤e.add.length∧ ∃L,DK pb (Ak e.add.length++DY (e.add.take k)) L∧St w [] (L++[(b1,.cells ⟨[.slice a e.add.length ca,.slice b e.del.length cb,.int .i64 e.wal,.int .i64 e.next,.int .i64 e.seq]⟩ Br (0,0))]) w') (λk=>e.add.length-k) 0
   ⟨rfl,rfl,rfl,rfl,rfl,trivial⟩ ⟨Ag _,L1,by simpa[DY]using hW,hS⟩ ?_
  clear hS hW hS';rintro k w6⟨hk,L2,hW,hS⟩;have htl:=Qk (e.add.take k) λf hf=>ho.add f (HJ hf);rw[Ba]at htl;by_cases hkl:k<e.add.length
  ·obtain⟨g,off,rfl⟩:=he.add.pos AA;have hat:=he.add.at hkl;have hsucc:=qS e.add k hkl;have hfo:=ho.add _ (CW hkl);generalize e.add[k]=f at hat hsucc hfo;refine jq ⟨?_⟩;refine Arr.ldn hS he.add.arr rfl (k:=k*2) hat rfl ?_;unfold Ad;refine jq ⟨?_⟩;refine hS.al ?_;intro b6 w7 _ hS;(repeat(refine jt ⟨?_⟩;refine hS.q ?_;intro _ hS));refine jt ⟨?_⟩;refine hS.al ?_;intro r2 w8 _ hS;(repeat(refine jt ⟨?_⟩;refine hS.q ?_;intro _ hS));refine jt ⟨?_⟩
   refine Cl.mono (MK hW (hS.part (L:=L2)) (zs:=[f.1,f.2]) (hS.arr (b:=r2) (Cu hS)) (yX hfo) AB (by simp only[AP,Ah,Bv];omega)) ?_;rintro _ w9⟨L3,hW,hS'⟩;have hS:=hS.call (L:=L2) hS';refine jq ⟨?_⟩;exact⟨k+1,⟨rfl,rfl,rfl,rfl,rfl,trivial⟩,⟨AA,L3,by rw[hsucc,←Aj,←sN];exact hW,St.tl2 hS⟩,AA⟩
  ·have hke:k=e.add.length:=AA;subst hke;rw[Bz]at hW htl;(repeat(refine jt ⟨?_⟩;refine hS.q ?_;intro _ hS));refine jt ⟨?_⟩;refine hS.al ?_;intro r w7 _ hS;(repeat(refine jt ⟨?_⟩;refine hS.q ?_;intro _ hS));refine jt ⟨?_⟩;refine Cl.mono (Ge hW (hS.part (L:=L2)) (ns:=[e.del.length]) (hS.arr (b:=r) (Cu hS)) (by intro n hn;simp only[As,List.mem_nil_iff,or_false]at hn;subst hn;omega) AB (by simp only[AP,Ah,Bv];omega)) ?_
   rintro _ w8⟨L3,hW,hS'⟩;have hS:=hS.call (L:=L2) hS';have hW:DK pb (Ak e.add.length++DY e.add++Ak e.del.length) L3:=by simpa using hW
   have hS:=St.tl1 hS;(repeat(refine jt ⟨?_⟩;refine hS.q ?_;intro _ hS));refine jt ⟨?_⟩;refine Cl.mono (MK hW (hS.part (L:=L3)) (zs:=e.del) (St.arrNew hS he.del) ho.del AA (by simp only[AP];omega)) ?_;rintro _ w9⟨L4,hW,hS'⟩;have hS:=hS.call (L:=L3) hS';(repeat(refine jt ⟨?_⟩;refine hS.q ?_;intro _ hS));refine jt ⟨?_⟩;refine hS.al ?_;intro r2 w10 _ hS;(repeat(refine jt ⟨?_⟩;refine hS.q ?_;intro _ hS));refine jt ⟨?_⟩
   refine Cl.mono (MK hW (hS.part (L:=L4)) (zs:=[e.wal,e.next,e.seq]) (hS.arr (b:=r2) (Cu hS)) (by
    intro z hz;simp only[As,List.mem_nil_iff,or_false]at hz;rcases hz with rfl|rfl|rfl
    ·exact ho.wal
    ·exact ho.next
    ·exact ho.seq) AB (by simp only[AP,Ah,Bv];omega)) ?_
   rintro _ w11⟨L5,hW,hS'⟩;have hS:=hS.call (L:=L4) hS';(repeat(refine jt ⟨?_⟩;refine hS.q ?_;intro _ hS));refine jt ⟨?_⟩;refine Cl.mono (ME hW (hS.part (L:=L5))) ?_;rintro _ w12⟨rfl,hS'⟩;have hS:=hS.call (L:=L5) hS';(repeat(refine jt ⟨?_⟩;refine hS.q ?_;intro _ hS));refine jt ⟨?_⟩;refine⟨?_,hS.nil⟩;simp[Al,Ci]
structure zQ where
 k:Nat
 out:AE
 a:Option Addr
 c:Nat
end Go.Proofs.YtkgibdhpijdbfaaGreatDoor
namespace Go.Proofs.YtkgibdhpijdbfaaGreatDoor
open Go Go.Eng Go.Proofs
theorem sO(l:List Int):(l.map AY).all Value.oneCell'=true:=by
 induction l with
 |nil=>rfl
 |cons p ps ih=>rw[A4,List.all_cons,ih];rfl
theorem cE{w:World}{a:Option Addr}{cap:Nat}{l:List Int}(ha:Arr w [] a (l.map AY))(hlen:l.length≤1099511627776):
  Cl Tryz.prog oN [.slice a l.length cap] w λv w'=>∃a' c' L,v= .slice a' l.length c'∧AT BX 1 a' l.length c' (l.map AY) L∧St w [] L w':=by
 have hS:=St.start w;refine gS rfl ?_;rcases a with _|p
 ·have hl:l=[]:=by
   cases l with
   |nil=>rfl
   |cons x l=>obtain⟨g,off,h, -⟩:=ha.get (j:=0) AB;cases h
  subst hl;refine jq ⟨?_⟩;refine Kr AK rfl rfl ?_;refine jq ⟨?_⟩;exact⟨_,_,[],rfl,AT.nil,hS⟩
 ·refine jq ⟨?_⟩;refine Kr AK rfl rfl ?_;refine jq ⟨?_⟩;refine hS.al ?_;intro r w1 _ hS;have hv:AT BX 1 (some ⟨r,0,none⟩) 0 0 [] [(r,.cells ⟨[]⟩ BX (0,0))]:=AT.row r 0 0 [] [] rfl rfl (AW _);refine jq ⟨?_⟩;refine St.app (sz:=1) (m:=l.length) AK rfl rfl rfl rfl hS hv (news:=l.map AY) AB (hS.arrOld ha) (sO l) (by show(_+_)*8≤_;omega) AA ?_;intro a1 c1 L1 w2 hv hS;rw[Ca,DR]at hv;rw[DR];refine jq ⟨?_⟩
  exact⟨a1,c1,L1,rfl,hv,hS⟩
end Go.Proofs.YtkgibdhpijdbfaaGreatDoor
namespace Go.Eng
open Go
theorem UQ{ops:Array Oper}{i:Nat}: ∀{n m j:Nat},n≤m→Es ops n j i=true→Es ops m j i=true
 |0,_,_,_,h=>by simp[Es]at h
 |n+1,0,_,hl,_=>absurd hl (Nat.not_succ_le_zero n)
 |n+1,m+1,j,hl,h=>by
  unfold Es at h⊢;cases hj:ops[j]? with
  |none=>rw[hj]at h;cases h
  |some oj=>
   rw[hj]at h;simp only[Array.any_eq_true]at h⊢;obtain⟨k,hk,h⟩:=h;refine⟨k,hk,?_⟩;rw[Bool.and_eq_true,Bool.or_eq_true]at h⊢;exact⟨h.1,h.2.imp id (UQ (Nat.le_of_succ_le_succ hl))⟩
def OQ(q:Nat)(ops:Array Oper)(listed:Array Bool)(i:Nat):Bool:=
 match ops[i]? with
 |none=>false
 |some oi=>(List.range ops.size).all λj=>j==i||listed.getD j true||(match ops[j]? with|some oj=>oi.apart ops oj|none=>true)||Es ops q j i
theorem Vh{q:Nat}{ops:Array Oper}{listed:Array Bool}{i:Nat}(hq:q≤ops.size)(h:OQ q ops listed i=true):IG ops listed i=true:=by
 unfold OQ at h;unfold IG;cases hi:ops[i]? with
 |none=>rw[hi]at h;cases h
 |some oi=>
  rw[hi]at h;simp only[Db,Bool.or_eq_true]at h⊢;intro j hj;rcases h j hj with((h1|h1)|h1)|h1
  ·exact .inl (.inl (.inl h1))
  ·exact .inl (.inl (.inr h1))
  ·exact .inr h1
  ·exact .inl (.inr (UQ hq h1))
def O0(q:Nat)(ops:Array Oper)(kd:Op→JI):List Nat→Array Bool→Bool
 |[],listed=>(Region.ready .any ops listed).isEmpty
 |i::r,listed=>match ops[i]? with
  |none=>false
  |some o=>(match kd o.op with
   |.pure=>(Region.ready .any ops listed).contains i&&OQ q ops listed i
   |.read=>(Region.ready .any ops listed).contains i&&OQ q ops listed i
   |.eff=>(Region.ready .any ops listed)==[i])&&O0 q ops kd r (listed.setIfInBounds i true)
theorem XT{q:Nat}{ops:Array Oper}{kd:Op→JI}(hq:q≤ops.size): ∀{ord:List Nat}{listed:Array Bool},O0 q ops kd ord listed=true→Jk ops kd [] ord true listed=true
 |[],_,h=>h
 |i::r,listed,h=>by
  unfold O0 at h;unfold Jk;cases hi:ops[i]? with
  |none=>rw[hi]at h;cases h
  |some o=>
   rw[hi]at h;simp only at h⊢;have hw: ∀l j,J2 ops l [] j=true:=λ_ _=>rfl;rw[Bool.and_eq_true]at h;obtain⟨h1,h2⟩:=h;have ih:=XT hq h2;cases hk:kd o.op with
   |pure=>
    rw[hk]at h1;simp only[Bool.and_eq_true]at h1⊢;exact⟨⟨AB,⟨⟨h1.1,Vh hq h1.2⟩,by rw[hw];simp⟩⟩,ih⟩
   |read=>
    rw[hk]at h1;simp only[Bool.and_eq_true]at h1⊢;exact⟨⟨AB,⟨⟨⟨h1.1,Vh hq h1.2⟩,AB⟩,hw _ _⟩⟩,ih⟩
   |eff=>
    rw[hk]at h1;simp only[Bool.and_eq_true]at h1⊢;exact⟨⟨AB,h1⟩,by simpa using ih⟩
theorem AM.drawQ{P:Program}{T:BL}(hT:BR P T){N:Nat}{id:Nat}{all:List Oper}{Q:Exit→AZ→World→Prop}{e:AZ}{w:World}(hm:P.follows .mixedOrders=true)
  (C:World→Prop)(ord:List Nat)(hok:(Region.noSelect ⟨all⟩&&Nat.beq ord.length all.length&&Nat.ble 3 (Array.mk all).size&&O0 3 ⟨all⟩ (kind T) ord (Array.replicate (Array.mk all).size false))=true)
  (hC:C w.drew)(h:HA P T N all C [] ord e w.drew λe' w'=>Q .normal e' w'):JM P N (.region id ⟨all⟩ true) Q e w:=by
 simp only[Bool.and_eq_true]at hok;obtain⟨⟨⟨h1,h2⟩,h3⟩,h4⟩:=hok;refine AM.draw hT hm C [] ord ?_ hC h;simp only[Bool.and_eq_true];exact⟨⟨h1,h2⟩,XT (KE h3) h4⟩
end Go.Eng
