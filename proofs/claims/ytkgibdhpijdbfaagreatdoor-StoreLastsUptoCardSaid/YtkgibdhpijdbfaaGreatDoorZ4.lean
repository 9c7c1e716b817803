/- Texts of this claim, one behind the other. -/
import Derived.Test.YtkgibdhpijdbfaaGreatDoorZ1
import Derived.Test.YtkgibdhpijdbfaaGreatDoorZ3
set_option linter.unusedVariables false
set_option linter.unusedSimpArgs false
set_option maxHeartbeats 16000000
namespace Go.Eng
open Go
section
variable {P : Program} {T0 : BL}
theorem foldl_push_bytes: ∀(l:List UInt8)(r:ByteArray),(l.map (λb=>(b.toNat:Int))).foldl (λr n=>r.push (UInt8.ofNat n.toNat)) r=⟨r.data++l.toArray⟩
 |[],r=>AB
 |b::l,r=>by
  simp only[A4,HI,foldl_push_bytes l];apply ByteArray.ext;simp
theorem SK(hT:BR P T0){s d e:TypeId}{i ie id:TI}(hi:tf T0 s=some i)(hk:i.k= .slice e 1)(hie:tf T0 e=some ie)(hke:ie.k= .int .u8)(hid:tf T0 d=some id)(hkd:id.k= .str)
  {C:World→Prop}{T:List Nat}{a:Option Addr}{bs:List UInt8}{n cap:Nat}(hn:bs.length=n)(ha: ∀w,C w→Arr w T a (bs.map Ee)){K:Value→Prop}(hK:K (AG bs)):
  Fz P (convert s d (.slice a n cap)) C K:=by
 refine⟨⟨_,λw hw=>?_,hK⟩⟩;have hs:=CZ hT hi;rw[hk]at hs;have he:=CZ hT hie;rw[hke]at he;have hd:=CZ hT hid;rw[hkd]at hd;rw[run_convert_bytes_string w s d e a n cap hs.1 he hd];cases a with
 |none=>
  cases bs with
  |nil=>rfl
  |cons b bs=>obtain⟨_,_,h,_⟩:=ha w hw 0 (Ee b) rfl;cases h
 |some a=>
  have h1:=run_loadCells_list (P:=P) (w:=w) a ((bs.map λb=>(b.toNat:Int)).map (Value.int .u8)) (λj v hj=>by
   have hj':(bs.map Ee)[j]?=some v:=by simpa[Ee,Et,Function.comp]using hj
   obtain⟨bk,off,h1,_,h3⟩:=ha w hw j v hj';cases h1;rw[Addr.add_eq];exact h3)
  rw[run_bytesToString (P:=P) w a n cap (bs.map λb=>(b.toNat:Int)) (by simpa[hn]using h1)]
  congr 2
  rw[foldl_push_bytes];simp
end
/-! ### Unsigned integers-/
theorem FY(k:IntKind)(hs:k.signed=false)(n:Nat):k.wrap (n:Int)=((n % 2 ^ k.bits:Nat):Int):=by
 unfold IntKind.wrap;simp only[hs];simp
theorem PN(n:Nat):IntKind.u8.wrap (n:Int)=((UInt8.ofNat n).toNat:Int):=by
 rw[FY .u8 rfl];simp[UInt8.toNat_ofNat'];rfl
theorem qR(n k:Nat):(n:Int).fdiv (k:Int)=((n / k:Nat):Int):=by
 rw[←Int.ofNat_fdiv]
theorem Io(n k:Nat):(n:Int).fdiv (2 ^ k)=((n / 2 ^ k:Nat):Int):=by
 have:((2:Int) ^ k)=((2 ^ k:Nat):Int):=AB;rw[this,qR]
theorem LP(k:IntKind)(hs:k.signed=false)(x y:Nat)(hx:x<2 ^ k.bits)(hy:y<2 ^ k.bits):HS k x y=((x ||| y:Nat):Int):=by
 unfold HS;rw[BitVec.toNat_or,BitVec.ofInt_natCast,BitVec.ofInt_natCast,BitVec.toNat_ofNat,BitVec.toNat_ofNat,Dx hx,Dx hy,FY k hs,Dx (Nat.or_lt_two_pow hx hy)]
theorem Nu(k:IntKind)(hs:k.signed=false)(x y:Nat)(hx:x<2 ^ k.bits)(hy:y<2 ^ k.bits):F3 k x y=((x &&& y:Nat):Int):=by
 unfold F3;rw[BitVec.toNat_and,BitVec.ofInt_natCast,BitVec.ofInt_natCast,BitVec.toNat_ofNat,BitVec.toNat_ofNat,Dx hx,Dx hy,FY k hs,Dx (Nat.and_lt_two_pow _ hy)]
theorem SZ(k:IntKind)(hs:k.signed=false)(x y:Nat)(hx:x<2 ^ k.bits)(hy:y<2 ^ k.bits):Gv k x y=((x ^^^ y:Nat):Int):=by
 unfold Gv;rw[BitVec.toNat_xor,BitVec.ofInt_natCast,BitVec.ofInt_natCast,BitVec.toNat_ofNat,BitVec.toNat_ofNat,Dx hx,Dx hy,FY k hs,Dx (Nat.xor_lt_two_pow hx hy)]
theorem Oq(a b k:Nat)(hb:b<2 ^ k):(a*2 ^ k) ||| b=a*2 ^ k+b:=by
 rw[←Nat.shiftLeft_eq,Nat.shiftLeft_add_eq_or_of_lt hb]
end Go.Eng
namespace Go.Proofs.YtkgibdhpijdbfaaGreatDoor
open Go Go.Eng Go.Proofs
section
variable {κ α β : Type} [DecidableEq κ]
theorem Jc{k:κ}{v:α}: ∀{l:List (κ×α)},Am k l=some v→(k,v)∈l
 |[],h=>by cases h
 |(a,u)::r,h=>by
  unfold Am at h
  split at h
  ·rename_i e;subst e;cases h;exact CM
  ·exact CH _ (Jc h)
theorem Jd{k:κ}: ∀{l:List (κ×α)},Am k l=none↔k∉l.map (·.1)
 |[]=>by simp[Am]
 |(a,u)::r=>by
  unfold Am
  split
  ·rename_i e;subst e;simp
  ·rename_i e;rw[Jd (l:=r)];simp[e]
theorem F9{k:κ}{v:α}: ∀{l:List (κ×α)},(l.map (·.1)).Nodup→(k,v)∈l→Am k l=some v
 |[],_,h=>by cases h
 |(a,u)::r,hn,h=>by
  rw[A4,Eu]at hn;unfold Am;rcases As.1 h with e|h
  ·cases e;rw[if_pos rfl]
  ·have:k≠a:=λe=>hn.1 (by rw[←e];exact CC (f:=(·.1)) h);rw[if_neg this];exact F9 hn.2 h
theorem IN{k:κ}{v:α}: ∀{l:List (κ×α)}{x:κ×α},x∈BV k v l→x=(k,v)∨x∈l
 |[],x,h=>by simp[BV]at h;exact .inl h
 |(a,u)::r,x,h=>by
  unfold BV at h
  split at h
  ·rcases As.1 h with h|h
   ·exact .inl h
   ·exact .inr (CH _ h)
  ·rcases As.1 h with h|h
   ·exact .inr (by rw[h];exact CM)
   ·rcases IN h with h|h
    ·exact .inl h
    ·exact .inr (CH _ h)
theorem WL{k:κ}{v:α}: ∀{l:List (κ×α)}{x:κ},x∈(BV k v l).map (·.1)↔x=k∨x∈l.map (·.1)
 |[],x=>by simp[BV]
 |(a,u)::r,x=>by
  unfold BV
  split
  ·rename_i e;subst e;simp
  ·rw[A4,As,WL (l:=r),A4,As];grind
theorem Mv{k:κ}{v:α}: ∀{l:List (κ×α)},(l.map (·.1)).Nodup→((BV k v l).map (·.1)).Nodup
 |[],_=>by simp[BV]
 |(a,u)::r,h=>by
  unfold BV
  split
  ·rename_i e;subst e;exact h
  ·rename_i e;rw[A4,Eu]at h⊢;refine⟨λhm=>?_,Mv h.2⟩;rcases WL.1 hm with h'|h'
   ·exact e h'.symm
   ·exact h.1 h'
theorem Je(k:κ)(v:α): ∀l:List (κ×α),(BV k v l).length≤l.length+1
 |[]=>by simp[BV]
 |(a,u)::r=>by
  unfold BV
  split
  ·simp
  ·have:=Je k v r;simp only[Ah];omega
theorem Oa{k:κ}{v:α}: ∀{l:List (κ×α)},k∉l.map (·.1)→BV k v l=l++[(k,v)]
 |[],_=>rfl
 |(a,u)::r,h=>by
  rw[A4,As,not_or]at h;unfold BV;rw[if_neg h.1,Oa h.2];rfl
theorem GY(k:κ): ∀l:List (κ×α),(Cn k l).Sublist l
 |[]=>List.nil_sublist _
 |(a,u)::r=>by
  unfold Cn
  split
  ·exact AS _ _
  ·exact(GY k r).cons_cons _
theorem OZ{k:κ}{l:List (κ×α)}(h:(l.map (·.1)).Nodup):((Cn k l).map (·.1)).Nodup:=h.sublist ((GY k l).map _)
theorem KG(k j:κ): ∀{l:List (κ×α)},(l.map (·.1)).Nodup→Am j (Cn k l)=if j=k then none else Am j l
 |[],_=>by simp[Cn,Am]
 |(a,u)::r,h=>by
  rw[A4,Eu]at h;unfold Cn
  split
  ·rename_i e;subst e
   split
   ·rename_i e;subst e;exact Jd.2 h.1
   ·rename_i e;rw[Am,if_neg e]
  ·rename_i e;unfold Am;rw[KG k j h.2]
   split
   ·rename_i e2;subst e2;rw[if_neg (λe3=>e e3.symm)]
   ·rfl
end
end Go.Proofs.YtkgibdhpijdbfaaGreatDoor
namespace Go.Srt
variable {α : Type} (lt : α → α → Bool)
def Srt(l:List α):Prop:=l.Pairwise λx y=>lt y x=false
structure Ord:Prop where
 asym: ∀x y,lt x y=true→lt y x=false
 trans: ∀x y z,lt y x=false→lt z y=false→lt z x=false
variable {lt}
theorem Srt.app{a b:List α}(ha:Srt lt a)(hb:Srt lt b)(h: ∀x∈a,∀y∈b,lt y x=false):Srt lt (a++b):=GW.2 ⟨ha,hb,h⟩
theorem Srt.left{a b:List α}(h:Srt lt (a++b)):Srt lt a:=(GW.1 h).1
theorem Srt.right{a b:List α}(h:Srt lt (a++b)):Srt lt b:=(GW.1 h).2.1
theorem Srt.cross{a b:List α}(h:Srt lt (a++b)): ∀x∈a,∀y∈b,lt y x=false:=(GW.1 h).2.2
theorem Ord.irrefl(h:Ord lt)(x:α):lt x x=false:=by
 cases e:lt x x with
 |false=>rfl
 |true=>have:=h.asym x x e;rw[e]at this;exact this
theorem Srt.at{l:List α}(h:Srt lt l){i j:Nat}(hi:i<l.length)(hj:j<l.length)(hij:i<j):lt l[j] l[i]=false:=(Jb.1 h) i j hi hj hij
def swp(l:List α)(i j:Nat)(hi:i<l.length)(hj:j<l.length):List α:=(l.set i l[j]).set j l[i]
theorem yE(P Q S:List α)(x y:α)(i j:Nat)(hi:i<(P++x::Q++y::S).length)(hj:j<(P++x::Q++y::S).length)(e1:i=P.length)(e2:j=P.length+1+Q.length):
  swp (P++x::Q++y::S) i j hi hj=P++y::Q++x::S:=by
 subst e1 e2;have h1:(P++x::Q++y::S)[P.length]?=some x:=AB;have h2:(P++x::Q++y::S)[P.length+1+Q.length]?=some y:=by
  rw[D2 (by simp;omega)];have:P.length+1+Q.length-(P++x::Q).length=0:=by simp;omega
  rw[this];rfl
 rw[CB hi,Option.some.injEq]at h1;rw[CB hj,Option.some.injEq]at h2;unfold swp;rw[h1,h2];have e3:(P++x::Q++y::S).set P.length y=P++y::Q++y::S:=by
  rw[Aj,IK _ _ (AW _),Nat.sub_self];simp
 rw[e3];have e4:P.length+1+Q.length=(P++y::Q).length:=by simp;omega
 rw[e4,IK _ _ (AW _),Nat.sub_self];rfl
def rg(P A Q B S:List α)(k:Nat):List α:=P++(B.take k++A.drop k)++Q++(A.take k++B.drop k)++S
section
variable {P A Q B S : List α} {k a b : Nat}
theorem Xx:rg P A Q B S 0=P++A++Q++B++S:=by simp[rg]
theorem Xu(hAB:A.length=B.length)(hk:k=A.length):rg P A Q B S k=P++B++Q++A++S:=by
 subst hk;have h:B.take A.length=B:=by rw[hAB];exact Bz
 have h2:B.drop A.length=[]:=by rw[hAB];exact II
 unfold rg;rw[h,h2];simp
theorem Xv(hAB:A.length=B.length):(rg P A Q B S k).length=P.length+A.length+Q.length+B.length+S.length:=by
 simp only[rg,AP,Ba,D3];omega
theorem wN(hAB:A.length=B.length)(hk:k<A.length): ∃P' Q' S' x y,rg P A Q B S k=P'++x::Q'++y::S'∧rg P A Q B S (k+1)=P'++y::Q'++x::S'∧P'.length=P.length+k∧P'.length+1+Q'.length=P.length+A.length+Q.length+k:=by
 refine⟨P++B.take k,A.drop (k+1)++Q++A.take k,B.drop (k+1)++S,A[k],B[k]'AA,?_,?_,?_,?_⟩
 ·have h1:=FM hk;have h2:=FM (l:=B) (i:=k) AA;unfold rg;rw[h1,h2];simp only[Aj,D1]
 ·have h1:=Bq hk;have h2:=Bq (l:=B) (i:=k) AA;unfold rg;rw[h1,h2];simp only[Aj,D1,Ca]
 ·simp only[AP,Ba];omega
 ·simp only[AP,Ba,D3];omega
theorem Xw(hAB:A.length=B.length)(hk:k<A.length)(hi:a<(rg P A Q B S k).length)(hj:b<(rg P A Q B S k).length)(e1:a=P.length+k)(e2:b=P.length+A.length+Q.length+k):((rg P A Q B S k).set a (rg P A Q B S k)[b]).set b (rg P A Q B S k)[a]=rg P A Q B S (k+1):=by
 obtain⟨P',Q',S',x,y,h1,h2,h3,h4⟩:=wN (P:=P) (Q:=Q) (S:=S) hAB hk;rw[h2];simp only[h1]at hi hj⊢;exact yE P' Q' S' x y a b hi hj AA AA
end
theorem PE(P T:List α)(u x:α)(n:Nat)(h:n=P.length):((P++u::x::T).set (n+1) u).set n x=P++x::u::T:=by
 subst h;rw[IK _ _ AA,IK _ _ AA];have e:P.length+1-P.length=1:=AA;rw[e,Nat.sub_self];rfl
theorem YT(P T:List α)(u x:α)(n:Nat)(h:n=P.length):((P++u::x::T).set n x).set (n+1) u=P++x::u::T:=by
 subst h;rw[IK _ _ AA,IK _ _ AA];have e:P.length+1-P.length=1:=AA;rw[e,Nat.sub_self];rfl
theorem Kz(P T:List α)(u x:α)(n:Nat)(h:n<(P++u::x::T).length)(e:n=P.length+1):(P++u::x::T)[n]=x:=by
 subst e;simp
theorem cut(l:List α)(a b:Nat)(hab:a≤b)(hb:b≤l.length): ∃P M S,l=P++M++S∧P.length=a∧M.length=b-a:=by
 refine⟨l.take a,(l.drop a).take (b-a),l.drop b,?_,by simp;omega,by simp;omega⟩;have h1:=CN a l;have h2:=CN (b-a) (l.drop a);rw[List.drop_drop,show a+(b-a)=b by omega]at h2;rw[Aj,h2,h1]
theorem cut_at{l:List α}{k:Nat}(h:k<l.length): ∃P x S,l=P++x::S∧P.length=k∧l[k]=x:=⟨l.take k,l[k],l.drop (k+1),by rw[←FM h,CN],by simp;omega,rfl⟩
theorem IH(P S:List α)(x:α)(k:Nat)(h:k<(P++x::S).length)(e:k=P.length):(P++x::S)[k]=x:=by
 subst e;simp
theorem insert_sorted(hO:Ord lt){U V:List α}{x:α}(h:Srt lt (U++V))(hV: ∀v∈V,lt x v=true)(hU: ∀u,U.getLast?=some u→lt x u=false):Srt lt (U++x::V):=by
 have hU': ∀u∈U,lt x u=false:=by
  intro u hu;cases hl:U.getLast? with
  |none=>rw[List.getLast?_eq_none_iff]at hl;subst hl;cases hu
  |some z=>
   have hz:=hU z hl;obtain⟨W,rfl⟩: ∃W,U=W++[z]:=List.getLast?_eq_some_iff.1 hl;rcases Bk.1 hu with hu|hu
   ·have:=h.left.cross u hu z AB;exact hO.trans u z x this hz
   ·rw[Cm]at hu;subst hu;exact hz
 refine Srt.app h.left (DQ.2 ⟨λv hv=>hO.asym x v (hV v hv),h.right⟩) λu hu y hy=>?_;rcases As.1 hy with rfl|hy
 ·exact hU' u hu
 ·exact h.cross u hu y hy
theorem Vz(hO:Ord lt){U V:List α}{x:α}(h:Srt lt (U++V))(hU: ∀u,U.getLast?=some u→lt u x=true)(hV: ∀v,V.head?=some v→lt v x=false):Srt lt (U++x::V):=by
 have hU': ∀u∈U,lt x u=false:=by
  intro u hu;cases hl:U.getLast? with
  |none=>rw[List.getLast?_eq_none_iff]at hl;subst hl;cases hu
  |some z=>
   have hz:=hO.asym _ _ (hU z hl);obtain⟨W,rfl⟩: ∃W,U=W++[z]:=List.getLast?_eq_some_iff.1 hl;rcases Bk.1 hu with hu|hu
   ·have:=h.left.cross u hu z AB;exact hO.trans u z x this hz
   ·rw[Cm]at hu;subst hu;exact hz
 have hV': ∀v∈V,lt v x=false:=by
  intro v hv;cases V with
  |nil=>cases hv
  |cons z V=>
   have hz:=hV z rfl;rcases As.1 hv with rfl|hv
   ·exact hz
   ·exact hO.trans x z v hz ((DQ.1 h.right).1 v hv)
 refine Srt.app h.left (DQ.2 ⟨hV',h.right⟩) λu hu y hy=>?_;rcases As.1 hy with rfl|hy
 ·exact hU' u hu
 ·exact h.cross u hu y hy
theorem V0(hO:Ord lt){U V:List α}{x:α}(h:Srt lt (U++V))(hU: ∀u,U.getLast?=some u→lt x u=false)(hV: ∀v,V.head?=some v→lt x v=true):Srt lt (U++x::V):=by
 refine insert_sorted hO h (λv hv=>?_) hU;cases V with
 |nil=>cases hv
 |cons z V=>
  have hz:=hV z rfl;rcases As.1 hv with rfl|hv
  ·exact hz
  ·have h1:=(DQ.1 h.right).1 v hv;cases hxv:lt x v with
   |true=>rfl
   |false=>
    have:=hO.trans z v x h1 hxv;rw[hz]at this;cases this
theorem PK{l:List α}{k:Nat}(h:k<l.length):(l.take (k+1)).getLast?=some l[k]:=by
 rw[Bq h,List.getLast?_concat]
theorem N8{l:List α}{k:Nat}(h:k<l.length):(l.drop k).head?=some l[k]:=by
 rw[FM h];rfl
theorem YN(hO:Ord lt){A1 A2 B1 B2:List α}(hA:Srt lt (A1++A2))(hB:Srt lt (B1++B2))(h1: ∀x y,A1.getLast?=some x→B2.head?=some y→lt y x=false)(h2: ∀x y,B1.getLast?=some x→A2.head?=some y→lt x y=true):
  ∀x∈A1++B1,∀y∈A2++B2,lt y x=false:=by
 have last: ∀{U:List α}{x:α},Srt lt U→x∈U→ ∃z,U.getLast?=some z∧lt z x=false:=by
  intro U x hU hx;cases hl:U.getLast? with
  |none=>rw[List.getLast?_eq_none_iff]at hl;subst hl;cases hx
  |some z=>
   refine⟨z,rfl,?_⟩;obtain⟨W,rfl⟩: ∃W,U=W++[z]:=List.getLast?_eq_some_iff.1 hl;rcases Bk.1 hx with hx|hx
   ·exact hU.cross x hx z AB
   ·rw[Cm]at hx;subst hx;exact hO.irrefl _
 have head: ∀{U:List α}{y:α},Srt lt U→y∈U→ ∃z,U.head?=some z∧lt y z=false:=by
  intro U y hU hy;cases U with
  |nil=>cases hy
  |cons z U=>
   refine⟨z,rfl,?_⟩;rcases As.1 hy with rfl|hy
   ·exact hO.irrefl _
   ·exact(DQ.1 hU).1 y hy
 intro x hx y hy;rcases Bk.1 hx with hx|hx<;>rcases Bk.1 hy with hy|hy
 ·exact hA.cross x hx y hy
 ·obtain⟨z,e1,l1⟩:=last hA.left hx;obtain⟨u,e2,l2⟩:=head hB.right hy;exact hO.trans x u y (hO.trans x z u l1 (h1 z u e1 e2)) l2
 ·obtain⟨z,e1,l1⟩:=last hB.left hx;obtain⟨u,e2,l2⟩:=head hA.right hy;exact hO.trans x u y (hO.trans x z u l1 (hO.asym z u (h2 z u e1 e2))) l2
 ·exact hB.cross x hx y hy
theorem Ws{P A1 A2 B1 B2 S:List α}(h:A2.length=0∨B1.length=0):P++(A1++A2)++(B1++B2)++S=P++(A1++B1)++(A2++B2)++S:=by
 rcases h with h|h<;>rw[Hp.1 h]<;>simp
theorem XD{A1 A2 B1 B2:List α}(h:A1.length=0∨B1.length=0)(hA:Srt lt (A1++A2))(hB:Srt lt (B1++B2)):Srt lt (A1++B1):=by
 rcases h with h|h<;>rw[Hp.1 h]
 ·exact hB.left
 ·rw[BT];exact hA.left
theorem XE{A1 A2 B1 B2:List α}(h:A2.length=0∨B2.length=0)(hA:Srt lt (A1++A2))(hB:Srt lt (B1++B2)):Srt lt (A2++B2):=by
 rcases h with h|h<;>rw[Hp.1 h]
 ·exact hB.right
 ·rw[BT];exact hA.right
theorem Vu{A1 A2 B1 B2 L R:List α}(h1:L.Perm (A1++B1))(h2:R.Perm (A2++B2)):(L++R).Perm ((A1++A2)++(B1++B2)):=by
 refine(h1.append h2).trans ?_;rw[Aj,Aj];refine List.Perm.append_left A1 ?_;rw[←Aj,←Aj];exact List.Perm.append_right B2 Gl
def Sk(lt:α→α→Bool)(A B:List α)(d s s0:Nat):Prop:=s=s0∨ ∃x y,A[s-1]?=some x∧B[d-s]?=some y∧lt y x=false
def Sl(lt:α→α→Bool)(A B:List α)(d r r0:Nat):Prop:=r=r0∨ ∃x y,A[r]?=some x∧B[d-r-1]?=some y∧lt y x=true
def GK(lt:α→α→Bool)(n:Nat)(bs:List (List α)):Prop:=∀x∈bs,x.length=n∧Srt lt x
theorem GK.snoc{n:Nat}{bs:List (List α)}{x:List α}(h:GK lt n bs)(h1:x.length=n)(h2:Srt lt x):GK lt n (bs++[x]):=by
 intro y hy;rcases Bk.1 hy with hy|hy
 ·exact h y hy
 ·rw[Cm]at hy;subst hy;exact⟨h1,h2⟩
theorem GK.hd{n:Nat}{x:List α}{bs:List (List α)}(h:GK lt n (x::bs)):x.length=n∧Srt lt x:=h x AB
theorem GK.tl{n:Nat}{x:List α}{bs:List (List α)}(h:GK lt n (x::bs)):GK lt n bs:=λy hy=>h y (by simp[hy])
def Ke(lt:α→α→Bool)(n:Nat)(l:List α):Prop:=∃bs r,l=bs.flatten++r∧GK lt n bs∧r.length<n∧Srt lt r
theorem Ke.all{n:Nat}{l:List α}(h:Ke lt n l)(hn:l.length≤n):Srt lt l:=by
 obtain⟨bs,r,rfl,hf,hr,hs⟩:=h;cases bs with
 |nil=>exact hs
 |cons x bs=>
  have h1:=hf.hd;rw[Dc,AP,AP]at hn;have e1:bs.flatten=[]:=Hp.1 AA;have e2:r=[]:=Hp.1 AA;rw[Dc,e1,e2,BT,BT];exact h1.2
theorem Srt.nil:Srt lt ([]:List α):=List.Pairwise.nil
theorem YO(hA: ∀x y,lt x y=false→lt y x=false→x=y): ∀{l m:List α},Srt lt l→Srt lt m→l.Perm m→l=m
 |[],m,_,_,hp=>(List.nil_perm.1 hp).symm
 |x::l,[],_,_,hp=>by have:=List.perm_nil.1 hp;cases this
 |x::l,y::m,hl,hm,hp=>by
  have hl':=DQ.1 hl;have hm':=DQ.1 hm;have hxy:x=y:=by
   rcases As.1 (hp.mem_iff.1 (CM (a:=x) (l:=l)))with e|e
   ·exact e
   ·rcases As.1 (hp.mem_iff.2 (CM (a:=y) (l:=m)))with e'|e'
    ·exact e'.symm
    ·exact hA x y (hm'.1 x e) (hl'.1 y e')
  subst hxy;rw[YO hA hl'.2 hm'.2 hp.cons_inv]
def JX(lt:α→α→Bool)(l:List α)(x:α):List α:=(l.takeWhile λy=> !lt x y)++x::(l.dropWhile λy=> !lt x y)
theorem sH(l:List α)(x:α):(JX lt l x).Perm (x::l):=by
 unfold JX;refine Dd.trans (List.Perm.cons _ ?_);rw[List.takeWhile_append_dropWhile]
theorem sI(hO:Ord lt){l:List α}(hl:Srt lt l)(x:α):Srt lt (JX lt l x):=by
 unfold JX;have h:=List.takeWhile_append_dropWhile (p:=λy=> !lt x y) (l:=l);refine insert_sorted hO (by rw[h];exact hl) ?_ ?_
 ·intro v hv;have hd:Srt lt (l.dropWhile λy=> !lt x y):=by rw[←h]at hl;exact hl.right
  cases hdw:(l.dropWhile λy=> !lt x y)with
  |nil=>rw[hdw]at hv;cases hv
  |cons z s=>
   have hz:lt x z=true:=by
    have:=List.head_dropWhile_not (p:=λy=> !lt x y) (l:=l) (by rw[hdw];simp);simp only[hdw,List.head_cons]at this;simpa using this
   rw[hdw]at hv hd;rcases As.1 hv with rfl|hv
   ·exact hz
   ·have h1:=(DQ.1 hd).1 v hv;cases hxv:lt x v with
    |true=>rfl
    |false=>
     have:=hO.trans z v x h1 hxv;rw[hz]at this;cases this
 ·intro u hu;have:=K7 hu;have h2:=Db.1 (List.all_takeWhile (p:=λy=> !lt x y) (l:=l)) u this;simpa using h2
end Go.Srt
