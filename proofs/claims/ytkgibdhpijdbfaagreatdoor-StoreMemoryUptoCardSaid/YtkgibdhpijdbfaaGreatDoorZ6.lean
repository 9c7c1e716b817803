/- Texts of this claim, one behind the other. -/
import Derived.Test.YtkgibdhpijdbfaaGreatDoorZ3
import Derived.Lib.Bytealg
import Derived.Lib.SliceRun
import Derived.Laws.CopyRow
import Derived.Laws.StructEq
set_option linter.unusedVariables false
set_option linter.unusedSimpArgs false
set_option maxHeartbeats 16000000
namespace Go.Srt
variable {α : Type} (lt : α → α → Bool)
def Srt(l:List α):Prop:=l.Pairwise λx y=>lt y x=false
structure Ord:Prop where
 asym: ∀x y,lt x y=true→lt y x=false
 trans: ∀x y z,lt y x=false→lt z y=false→lt z x=false
variable {lt}
theorem Srt.app{a b:List α}(ha:Srt lt a)(hb:Srt lt b)(h: ∀x∈a,∀y∈b,lt y x=false):Srt lt (a++b):=GV.2 ⟨ha,hb,h⟩
theorem Srt.left{a b:List α}(h:Srt lt (a++b)):Srt lt a:=(GV.1 h).1
theorem Srt.right{a b:List α}(h:Srt lt (a++b)):Srt lt b:=(GV.1 h).2.1
theorem Srt.cross{a b:List α}(h:Srt lt (a++b)): ∀x∈a,∀y∈b,lt y x=false:=(GV.1 h).2.2
theorem Ord.irrefl(h:Ord lt)(x:α):lt x x=false:=by
 cases e:lt x x with
 |false=>rfl
 |true=>have:=h.asym x x e;rw[e]at this;exact this
theorem Srt.at{l:List α}(h:Srt lt l){i j:Nat}(hi:i<l.length)(hj:j<l.length)(hij:i<j):lt l[j] l[i]=false:=(JV.1 h) i j hi hj hij
def swp(l:List α)(i j:Nat)(hi:i<l.length)(hj:j<l.length):List α:=(l.set i l[j]).set j l[i]
theorem yI(P Q S:List α)(x y:α)(i j:Nat)(hi:i<(P++x::Q++y::S).length)(hj:j<(P++x::Q++y::S).length)(e1:i=P.length)(e2:j=P.length+1+Q.length):
  swp (P++x::Q++y::S) i j hi hj=P++y::Q++x::S:=by
 subst e1 e2;have h1:(P++x::Q++y::S)[P.length]?=some x:=AB;have h2:(P++x::Q++y::S)[P.length+1+Q.length]?=some y:=by
  rw[Dp (by simp;omega)];have:P.length+1+Q.length-(P++x::Q).length=0:=by simp;omega
  rw[this];rfl
 rw[CB hi,Option.some.injEq]at h1;rw[CB hj,Option.some.injEq]at h2;unfold swp;rw[h1,h2];have e3:(P++x::Q++y::S).set P.length y=P++y::Q++y::S:=by
  rw[Aj,IK _ _ (AV _),Nat.sub_self];simp
 rw[e3];have e4:P.length+1+Q.length=(P++y::Q).length:=by simp;omega
 rw[e4,IK _ _ (AV _),Nat.sub_self];rfl
def rg(P A Q B S:List α)(k:Nat):List α:=P++(B.take k++A.drop k)++Q++(A.take k++B.drop k)++S
section
variable {P A Q B S : List α} {k a b : Nat}
theorem Xu:rg P A Q B S 0=P++A++Q++B++S:=by simp[rg]
theorem Xr(hAB:A.length=B.length)(hk:k=A.length):rg P A Q B S k=P++B++Q++A++S:=by
 subst hk;have h:B.take A.length=B:=by rw[hAB];exact Bz
 have h2:B.drop A.length=[]:=by rw[hAB];exact IJ
 unfold rg;rw[h,h2];simp
theorem Xs(hAB:A.length=B.length):(rg P A Q B S k).length=P.length+A.length+Q.length+B.length+S.length:=by
 simp only[rg,AP,BR,Do];omega
theorem wN(hAB:A.length=B.length)(hk:k<A.length): ∃P' Q' S' x y,rg P A Q B S k=P'++x::Q'++y::S'∧rg P A Q B S (k+1)=P'++y::Q'++x::S'∧P'.length=P.length+k∧P'.length+1+Q'.length=P.length+A.length+Q.length+k:=by
 refine⟨P++B.take k,A.drop (k+1)++Q++A.take k,B.drop (k+1)++S,A[k],B[k]'AA,?_,?_,?_,?_⟩
 ·have h1:=FQ hk;have h2:=FQ (l:=B) (i:=k) AA;unfold rg;rw[h1,h2];simp only[Aj,D3]
 ·have h1:=Bs hk;have h2:=Bs (l:=B) (i:=k) AA;unfold rg;rw[h1,h2];simp only[Aj,D3,CU]
 ·simp only[AP,BR];omega
 ·simp only[AP,BR,Do];omega
theorem Xt(hAB:A.length=B.length)(hk:k<A.length)(hi:a<(rg P A Q B S k).length)(hj:b<(rg P A Q B S k).length)(e1:a=P.length+k)(e2:b=P.length+A.length+Q.length+k):((rg P A Q B S k).set a (rg P A Q B S k)[b]).set b (rg P A Q B S k)[a]=rg P A Q B S (k+1):=by
 obtain⟨P',Q',S',x,y,h1,h2,h3,h4⟩:=wN (P:=P) (Q:=Q) (S:=S) hAB hk;rw[h2];simp only[h1]at hi hj⊢;exact yI P' Q' S' x y a b hi hj AA AA
end
theorem PB(P T:List α)(u x:α)(n:Nat)(h:n=P.length):((P++u::x::T).set (n+1) u).set n x=P++x::u::T:=by
 subst h;rw[IK _ _ AA,IK _ _ AA];have e:P.length+1-P.length=1:=AA;rw[e,Nat.sub_self];rfl
theorem YN(P T:List α)(u x:α)(n:Nat)(h:n=P.length):((P++u::x::T).set n x).set (n+1) u=P++x::u::T:=by
 subst h;rw[IK _ _ AA,IK _ _ AA];have e:P.length+1-P.length=1:=AA;rw[e,Nat.sub_self];rfl
theorem Kt(P T:List α)(u x:α)(n:Nat)(h:n<(P++u::x::T).length)(e:n=P.length+1):(P++u::x::T)[n]=x:=by
 subst e;simp
theorem cut(l:List α)(a b:Nat)(hab:a≤b)(hb:b≤l.length): ∃P M S,l=P++M++S∧P.length=a∧M.length=b-a:=by
 refine⟨l.take a,(l.drop a).take (b-a),l.drop b,?_,by simp;omega,by simp;omega⟩;have h1:=CO a l;have h2:=CO (b-a) (l.drop a);rw[List.drop_drop,show a+(b-a)=b by omega]at h2;rw[Aj,h2,h1]
theorem cut_at{l:List α}{k:Nat}(h:k<l.length): ∃P x S,l=P++x::S∧P.length=k∧l[k]=x:=⟨l.take k,l[k],l.drop (k+1),by rw[←FQ h,CO],by simp;omega,rfl⟩
theorem II(P S:List α)(x:α)(k:Nat)(h:k<(P++x::S).length)(e:k=P.length):(P++x::S)[k]=x:=by
 subst e;simp
theorem insert_sorted(hO:Ord lt){U V:List α}{x:α}(h:Srt lt (U++V))(hV: ∀v∈V,lt x v=true)(hU: ∀u,U.getLast?=some u→lt x u=false):Srt lt (U++x::V):=by
 have hU': ∀u∈U,lt x u=false:=by
  intro u hu;cases hl:U.getLast? with
  |none=>rw[List.getLast?_eq_none_iff]at hl;subst hl;cases hu
  |some z=>
   have hz:=hU z hl;obtain⟨W,rfl⟩: ∃W,U=W++[z]:=List.getLast?_eq_some_iff.1 hl;rcases Bl.1 hu with hu|hu
   ·have:=h.left.cross u hu z AB;exact hO.trans u z x this hz
   ·rw[Cm]at hu;subst hu;exact hz
 refine Srt.app h.left (DT.2 ⟨λv hv=>hO.asym x v (hV v hv),h.right⟩) λu hu y hy=>?_;rcases As.1 hy with rfl|hy
 ·exact hU' u hu
 ·exact h.cross u hu y hy
theorem Vx(hO:Ord lt){U V:List α}{x:α}(h:Srt lt (U++V))(hU: ∀u,U.getLast?=some u→lt u x=true)(hV: ∀v,V.head?=some v→lt v x=false):Srt lt (U++x::V):=by
 have hU': ∀u∈U,lt x u=false:=by
  intro u hu;cases hl:U.getLast? with
  |none=>rw[List.getLast?_eq_none_iff]at hl;subst hl;cases hu
  |some z=>
   have hz:=hO.asym _ _ (hU z hl);obtain⟨W,rfl⟩: ∃W,U=W++[z]:=List.getLast?_eq_some_iff.1 hl;rcases Bl.1 hu with hu|hu
   ·have:=h.left.cross u hu z AB;exact hO.trans u z x this hz
   ·rw[Cm]at hu;subst hu;exact hz
 have hV': ∀v∈V,lt v x=false:=by
  intro v hv;cases V with
  |nil=>cases hv
  |cons z V=>
   have hz:=hV z rfl;rcases As.1 hv with rfl|hv
   ·exact hz
   ·exact hO.trans x z v hz ((DT.1 h.right).1 v hv)
 refine Srt.app h.left (DT.2 ⟨hV',h.right⟩) λu hu y hy=>?_;rcases As.1 hy with rfl|hy
 ·exact hU' u hu
 ·exact h.cross u hu y hy
theorem Vy(hO:Ord lt){U V:List α}{x:α}(h:Srt lt (U++V))(hU: ∀u,U.getLast?=some u→lt x u=false)(hV: ∀v,V.head?=some v→lt x v=true):Srt lt (U++x::V):=by
 refine insert_sorted hO h (λv hv=>?_) hU;cases V with
 |nil=>cases hv
 |cons z V=>
  have hz:=hV z rfl;rcases As.1 hv with rfl|hv
  ·exact hz
  ·have h1:=(DT.1 h.right).1 v hv;cases hxv:lt x v with
   |true=>rfl
   |false=>
    have:=hO.trans z v x h1 hxv;rw[hz]at this;cases this
theorem PG{l:List α}{k:Nat}(h:k<l.length):(l.take (k+1)).getLast?=some l[k]:=by
 rw[Bs h,List.getLast?_concat]
theorem N3{l:List α}{k:Nat}(h:k<l.length):(l.drop k).head?=some l[k]:=by
 rw[FQ h];rfl
theorem YI(hO:Ord lt){A1 A2 B1 B2:List α}(hA:Srt lt (A1++A2))(hB:Srt lt (B1++B2))(h1: ∀x y,A1.getLast?=some x→B2.head?=some y→lt y x=false)(h2: ∀x y,B1.getLast?=some x→A2.head?=some y→lt x y=true):
  ∀x∈A1++B1,∀y∈A2++B2,lt y x=false:=by
 have last: ∀{U:List α}{x:α},Srt lt U→x∈U→ ∃z,U.getLast?=some z∧lt z x=false:=by
  intro U x hU hx;cases hl:U.getLast? with
  |none=>rw[List.getLast?_eq_none_iff]at hl;subst hl;cases hx
  |some z=>
   refine⟨z,rfl,?_⟩;obtain⟨W,rfl⟩: ∃W,U=W++[z]:=List.getLast?_eq_some_iff.1 hl;rcases Bl.1 hx with hx|hx
   ·exact hU.cross x hx z AB
   ·rw[Cm]at hx;subst hx;exact hO.irrefl _
 have head: ∀{U:List α}{y:α},Srt lt U→y∈U→ ∃z,U.head?=some z∧lt y z=false:=by
  intro U y hU hy;cases U with
  |nil=>cases hy
  |cons z U=>
   refine⟨z,rfl,?_⟩;rcases As.1 hy with rfl|hy
   ·exact hO.irrefl _
   ·exact(DT.1 hU).1 y hy
 intro x hx y hy;rcases Bl.1 hx with hx|hx<;>rcases Bl.1 hy with hy|hy
 ·exact hA.cross x hx y hy
 ·obtain⟨z,e1,l1⟩:=last hA.left hx;obtain⟨u,e2,l2⟩:=head hB.right hy;exact hO.trans x u y (hO.trans x z u l1 (h1 z u e1 e2)) l2
 ·obtain⟨z,e1,l1⟩:=last hB.left hx;obtain⟨u,e2,l2⟩:=head hA.right hy;exact hO.trans x u y (hO.trans x z u l1 (hO.asym z u (h2 z u e1 e2))) l2
 ·exact hB.cross x hx y hy
theorem Wp{P A1 A2 B1 B2 S:List α}(h:A2.length=0∨B1.length=0):P++(A1++A2)++(B1++B2)++S=P++(A1++B1)++(A2++B2)++S:=by
 rcases h with h|h<;>rw[Ho.1 h]<;>simp
theorem XA{A1 A2 B1 B2:List α}(h:A1.length=0∨B1.length=0)(hA:Srt lt (A1++A2))(hB:Srt lt (B1++B2)):Srt lt (A1++B1):=by
 rcases h with h|h<;>rw[Ho.1 h]
 ·exact hB.left
 ·rw[BU];exact hA.left
theorem XB{A1 A2 B1 B2:List α}(h:A2.length=0∨B2.length=0)(hA:Srt lt (A1++A2))(hB:Srt lt (B1++B2)):Srt lt (A2++B2):=by
 rcases h with h|h<;>rw[Ho.1 h]
 ·exact hB.right
 ·rw[BU];exact hA.right
theorem Vs{A1 A2 B1 B2 L R:List α}(h1:L.Perm (A1++B1))(h2:R.Perm (A2++B2)):(L++R).Perm ((A1++A2)++(B1++B2)):=by
 refine(h1.append h2).trans ?_;rw[Aj,Aj];refine List.Perm.append_left A1 ?_;rw[←Aj,←Aj];exact List.Perm.append_right B2 Gp
def So(lt:α→α→Bool)(A B:List α)(d s s0:Nat):Prop:=s=s0∨ ∃x y,A[s-1]?=some x∧B[d-s]?=some y∧lt y x=false
def Sp(lt:α→α→Bool)(A B:List α)(d r r0:Nat):Prop:=r=r0∨ ∃x y,A[r]?=some x∧B[d-r-1]?=some y∧lt y x=true
def GL(lt:α→α→Bool)(n:Nat)(bs:List (List α)):Prop:=∀x∈bs,x.length=n∧Srt lt x
theorem GL.snoc{n:Nat}{bs:List (List α)}{x:List α}(h:GL lt n bs)(h1:x.length=n)(h2:Srt lt x):GL lt n (bs++[x]):=by
 intro y hy;rcases Bl.1 hy with hy|hy
 ·exact h y hy
 ·rw[Cm]at hy;subst hy;exact⟨h1,h2⟩
theorem GL.hd{n:Nat}{x:List α}{bs:List (List α)}(h:GL lt n (x::bs)):x.length=n∧Srt lt x:=h x AB
theorem GL.tl{n:Nat}{x:List α}{bs:List (List α)}(h:GL lt n (x::bs)):GL lt n bs:=λy hy=>h y (by simp[hy])
def KW(lt:α→α→Bool)(n:Nat)(l:List α):Prop:=∃bs r,l=bs.flatten++r∧GL lt n bs∧r.length<n∧Srt lt r
theorem KW.all{n:Nat}{l:List α}(h:KW lt n l)(hn:l.length≤n):Srt lt l:=by
 obtain⟨bs,r,rfl,hf,hr,hs⟩:=h;cases bs with
 |nil=>exact hs
 |cons x bs=>
  have h1:=hf.hd;rw[Dc,AP,AP]at hn;have e1:bs.flatten=[]:=Ho.1 AA;have e2:r=[]:=Ho.1 AA;rw[Dc,e1,e2,BU,BU];exact h1.2
theorem Srt.nil:Srt lt ([]:List α):=List.Pairwise.nil
theorem YJ(hA: ∀x y,lt x y=false→lt y x=false→x=y): ∀{l m:List α},Srt lt l→Srt lt m→l.Perm m→l=m
 |[],m,_,_,hp=>(List.nil_perm.1 hp).symm
 |x::l,[],_,_,hp=>by have:=List.perm_nil.1 hp;cases this
 |x::l,y::m,hl,hm,hp=>by
  have hl':=DT.1 hl;have hm':=DT.1 hm;have hxy:x=y:=by
   rcases As.1 (hp.mem_iff.1 (CN (a:=x) (l:=l)))with e|e
   ·exact e
   ·rcases As.1 (hp.mem_iff.2 (CN (a:=y) (l:=m)))with e'|e'
    ·exact e'.symm
    ·exact hA x y (hm'.1 x e) (hl'.1 y e')
  subst hxy;rw[YJ hA hl'.2 hm'.2 hp.cons_inv]
def JS(lt:α→α→Bool)(l:List α)(x:α):List α:=(l.takeWhile λy=> !lt x y)++x::(l.dropWhile λy=> !lt x y)
theorem sG(l:List α)(x:α):(JS lt l x).Perm (x::l):=by
 unfold JS;refine Dd.trans (List.Perm.cons _ ?_);rw[List.takeWhile_append_dropWhile]
theorem sH(hO:Ord lt){l:List α}(hl:Srt lt l)(x:α):Srt lt (JS lt l x):=by
 unfold JS;have h:=List.takeWhile_append_dropWhile (p:=λy=> !lt x y) (l:=l);refine insert_sorted hO (by rw[h];exact hl) ?_ ?_
 ·intro v hv;have hd:Srt lt (l.dropWhile λy=> !lt x y):=by rw[←h]at hl;exact hl.right
  cases hdw:(l.dropWhile λy=> !lt x y)with
  |nil=>rw[hdw]at hv;cases hv
  |cons z s=>
   have hz:lt x z=true:=by
    have:=List.head_dropWhile_not (p:=λy=> !lt x y) (l:=l) (by rw[hdw];simp);simp only[hdw,List.head_cons]at this;simpa using this
   rw[hdw]at hv hd;rcases As.1 hv with rfl|hv
   ·exact hz
   ·have h1:=(DT.1 hd).1 v hv;cases hxv:lt x v with
    |true=>rfl
    |false=>
     have:=hO.trans z v x h1 hxv;rw[hz]at this;cases this
 ·intro u hu;have:=K0 hu;have h2:=C8.1 (List.all_takeWhile (p:=λy=> !lt x y) (l:=l)) u this;simpa using h2
end Go.Srt
namespace Go.Eng
open Go
theorem Arr.ldn{w0 w:World}{T:List Nat}{H:AH}(hS:St w0 T H w){a:Option Addr}{xs:List Value}(ha:Arr w0 T a xs){b off n:Nat}(hb:a=some ⟨b,off,none⟩){k:Nat}{l':List Value}(hl:(xs.drop k).take n=l')(hn:l'.length=n){K:List Value→Prop}(hk:K l'):
  GN (λw'=>w=w') n b (off+k) K:=by
 subst hl;refine⟨⟨_,hn,λ_ e j v hv=>?_,hk⟩⟩;subst e;have hv2:xs[k+j]?=some v:=by
  rw[IM]at hv
  split at hv
  ·rw[It]at hv;exact hv
  ·cases hv
 obtain⟨b',off',h1,h2,h3⟩:=ha (k+j) v hv2;rw[hb]at h1;simp only[Option.some.injEq,Addr.mk.injEq,and_true]at h1;obtain⟨rfl,rfl⟩:=h1;have:=hS.oldCell (a:=⟨b,off+(k+j),none⟩) h2 h3;rw[Gq];exact this
theorem Arr.dropS{w:World}{T:List Nat}{g off cap k sz:Nat}{xs ys:List Value}(h:Arr w T (some ⟨g,off,none⟩) (xs++ys))(hx:xs.length=k*sz)(hc:ys≠[]→k<cap):Arr w T (CV g off k cap sz) ys:=by
 unfold CV
 split
 ·next hk=>
  have:ys=[]:=by
   cases ys with
   |nil=>rfl
   |cons y ys=>have:=hc AB;omega
  subst this;exact Arr.nil _ _ _
 ·intro j x hj;obtain⟨b,o,h1,h2,h3⟩:=h (xs.length+j) x (by rw[Dp AA,show xs.length+j-xs.length=j by omega];exact hj);simp at h1;obtain⟨rfl,rfl⟩:=h1;exact⟨g,off+k*sz,rfl,h2,by rw[←hx,show off+xs.length+j=off+(xs.length+j) by omega];exact h3⟩
theorem Arr.ldc{w0 w:World}{T:List Nat}{H:AH}(hS:St w0 T H w){g off i j:Nat}{xs:List Value}(ha:Arr w0 T (some ⟨g,off,none⟩) xs){v:Value}(hx:xs[j]?=some v)(hi:i=off+j){K:Value→Prop}(hk:K v):FK (λw'=>w=w') ⟨g,i,none⟩ K:=by
 obtain⟨b',off',h1,h2,h3⟩:=ha j v hx;simp only[Option.some.injEq,Addr.mk.injEq,and_true]at h1;obtain⟨rfl,rfl⟩:=h1;rw[hi];exact hS.ldOld h2 h3 hk
theorem Arr.ldcC{w0:World}{T:List Nat}{H:AH}{g off i j:Nat}{xs:List Value}(ha:Arr w0 T (some ⟨g,off,none⟩) xs){v:Value}(hx:xs[j]?=some v)(hi:i=off+j){K:Value→Prop}(hk:K v):FK (λw'=>St w0 T H w') ⟨g,i,none⟩ K:=by
 obtain⟨b',off',h1,h2,h3⟩:=ha j v hx;simp only[Option.some.injEq,Addr.mk.injEq,and_true]at h1;obtain⟨rfl,rfl⟩:=h1;rw[hi];exact⟨⟨v,λ_ h'=>h'.oldCell (a:=⟨g,off+j,none⟩) h2 h3,hk⟩⟩
theorem Arr.ldnC{w0:World}{T:List Nat}{H:AH}{g off i n k:Nat}{xs l':List Value}(ha:Arr w0 T (some ⟨g,off,none⟩) xs)(hl:(xs.drop k).take n=l')(hn:l'.length=n)(hi:i=off+k){K:List Value→Prop}(hk:K l'):
  GN (λw'=>St w0 T H w') n g i K:=by
 subst hl;refine⟨⟨_,hn,λ_ h' j v hv=>?_,hk⟩⟩;have hv2:xs[k+j]?=some v:=by
  rw[IM]at hv
  split at hv
  ·rw[It]at hv;exact hv
  ·cases hv
 obtain⟨b',off',h1,h2,h3⟩:=ha (k+j) v hv2;simp only[Option.some.injEq,Addr.mk.injEq,and_true]at h1;obtain⟨rfl,rfl⟩:=h1;have:=h'.oldCell (a:=⟨g,off+(k+j),none⟩) h2 h3;rw[hi,Gq];exact this
end Go.Eng
namespace Go.Eng
open Go
section
variable {β : Type} {sz : Nat} {cv : β → List Value}
theorem Kq(hc: ∀x,(cv x).length=sz)(l:List β):(l.flatMap cv).length=l.length*sz:=by
 induction l with
 |nil=>simp
 |cons p ps ih=>rw[FA,AP,ih,hc,Ai,HK,Nat.one_mul];omega
theorem Qo(P S:List β)(x:β):(P++x::S).flatMap cv=P.flatMap cv++(cv x++S.flatMap cv):=AB
theorem Mi(hc: ∀x,(cv x).length=sz)(l:List β)(tail:List Value)(k:Nat)(hk:k<l.length):((l.flatMap cv++tail).drop (k*sz)).take sz=cv l[k]:=by
 obtain⟨P,x,S,e1,e2,e3⟩:=Srt.cut_at hk;rw[e3];rw[e1,Qo,Aj];have hp:k*sz=(P.flatMap cv).length:=by rw[Kq hc,e2]
 rw[hp,List.drop_left,Aj];exact Gl (hc x)
theorem rB(hc: ∀x,(cv x).length=sz)(l:List β)(tail:List Value)(k:Nat)(hk:k<l.length)(y:β):En (l.flatMap cv++tail) (k*sz) (cv y)=(l.set k y).flatMap cv++tail:=by
 obtain⟨P,x,S,e1,e2,e3⟩:=Srt.cut_at hk;have hp:k*sz=(P.flatMap cv).length:=by rw[Kq hc,e2]
 have e4:l.set k y=P++y::S:=by
  rw[e1,←e2,IK _ _ (AV _),Nat.sub_self];rfl
 rw[e4,e1,Qo,Qo];unfold En;rw[hp];have e5:(P.flatMap cv).length+(cv y).length=(P.flatMap cv++cv x).length:=by rw[AP,hc,hc]
 rw[e5];have e6:P.flatMap cv++(cv x++S.flatMap cv)++tail=(P.flatMap cv++cv x)++(S.flatMap cv++tail):=AB;rw[show List.take (P.flatMap cv).length (P.flatMap cv++(cv x++S.flatMap cv)++tail)=P.flatMap cv by rw[Aj,List.take_left]];rw[e6,List.drop_left];simp
variable {w0 w : World} {T : List Nat} {H : AH} {g : Nat} {l : List β} {tail : List Value} {t : TypeId} {F : Obj → AH}
theorem St.ldEC(hc: ∀x,(cv x).length=sz)(_hS:St w0 T H w) [Slot H g (.cells ⟨l.flatMap cv++tail⟩ t (0,0)) F]{k q:Nat}(hk:k<l.length)(hq:q=k*sz){K:List Value→Prop}(hK:K (cv l[k])):GN (λw'=>St w0 T H w') sz g q K:=by
 refine⟨⟨_,hc _,λ_ h j v hv=>?_,hK⟩⟩;have hat:=Mi hc l tail k hk;refine h.cell ?_;rw[←hat,IM]at hv
 split at hv
 ·rw[It]at hv;rw[hq];exact hv
 ·cases hv
theorem St.stE(hc: ∀x,(cv x).length=sz)(h1: ∀x,(cv x).all Value.oneCell'=true)(hS:St w0 T H w) [Slot H g (.cells ⟨l.flatMap cv++tail⟩ t (0,0)) F]{k q:Nat}(hk:k<l.length)(hq:q=k*sz){y:β}
  {K:World→Prop}(hK: ∀w',St w0 T (F (.cells ⟨(l.set k y).flatMap cv++tail⟩ t (0,0))) w'→K w'):IA w g q (cv y) K:=by
 have hle:(k+1)*sz≤l.length*sz:=GY _ hk;have hfit:k*sz+(cv y).length≤(l.flatMap cv++tail).length:=by
  rw[AP,Kq hc,hc];rw[HK,Nat.one_mul]at hle;omega
 subst hq;refine⟨⟨_,t,(0,0),hS.mem,.inl (Ag _),hfit,λv h=>C8.1 (h1 y) v h,?_⟩⟩;rw[rB hc l tail k hk y];exact hK _ (hS.setRow (l:=l.flatMap cv++tail))
theorem St.call1{w':World}{o:Obj}{L':AH}(hS:St w0 T [(g,o)] w)(h:St w [g] L' w'):St w0 T L' w':=hS.call (L:=[(g,o)]) h
end
theorem CG.half{z r:Int}{K:Value→Prop}(h0:0≤z∧z≤9223372036854775807)(hr:z / 2=r)(hk:K (.int .i64 r)):CG .i64 (z.fdiv (2 ^ (min (Int.toNat 1) (IntKind.bits .u64)))) K:=by
 have e:(2:Int) ^ (min (Int.toNat 1) (IntKind.bits .u64))=2:=AC;rw[e,Int.fdiv_eq_ediv_of_nonneg _ AC,hr];exact CG.nw AA hk
end Go.Eng
namespace Go.Proofs.YtkgibdhpijdbfaaGreatDoor
open Go Go.Eng
def KB:Nat:=4294967296
def IX(n x:Nat):Nat:=x / 2 ^ n+x % 2 ^ n*2 ^ (32-n)
def sS:List Nat:=[1116352408,1899447441,3049323471,3921009573,961987163,1508970993,2453635748,2870763221,3624381080,310598401,607225278,1426881987,1925078388,2162078206,2614888103,3248222580,3835390401,4022224774,264347078,604807628,770255983,1249150122,1555081692,1996064986,2554220882,2821834349,2952996808,3210313671,3336571891,3584528711,113926993,338241895,666307205,773529912,1294757372,1396182291,1695183700,1986661051,2177026350,2456956037,2730485921,2820302411,3259730800,3345764771,3516065817,3600352804,4094571909,275423344,430227734,506948616,659060556,883997877,958139571,1322822218,1537002063,1747873779,1955562222,2024104815,2227730452,2361852424,2428436474,2756734187,3204031479,3329325298]
def zG(b:AE)(i:Nat):Nat:=((b.getD (4*i) 0).toNat*16777216+(b.getD (4*i+1) 0).toNat*65536)+(b.getD (4*i+2) 0).toNat*256+(b.getD (4*i+3) 0).toNat
def xI(x:Nat):Nat:=IX 7 x ^^^ IX 18 x ^^^ x / 8
def xJ(x:Nat):Nat:=IX 17 x ^^^ IX 19 x ^^^ x / 1024
def zE(w:List Nat)(i:Nat):Nat:=(w.getD (i-16) 0+w.getD (i-7) 0+xI (w.getD (i-15) 0)+xJ (w.getD (i-2) 0)) % KB
def PM(b:AE):Nat→List Nat
 |0=>(List.range 16).map (zG b)
 |n+1=>PM b n++[zE (PM b n) (16+n)]
def nt(x:Nat):Nat:=KB-1-x
def MV(a:Nat):Nat:=IX 2 a ^^^ IX 13 a ^^^ IX 22 a
def bQ(e:Nat):Nat:=IX 6 e ^^^ IX 11 e ^^^ IX 25 e
def YT(v:List Nat)(k w:Nat):Nat:=(v.getD 7 0+bQ (v.getD 4 0)+((v.getD 4 0 &&& v.getD 5 0) ^^^ (nt (v.getD 4 0) &&& v.getD 6 0))+k+w) % KB
def yK(v:List Nat):Nat:=(MV (v.getD 0 0)+((v.getD 0 0 &&& v.getD 1 0) ^^^ (v.getD 0 0 &&& v.getD 2 0) ^^^ (v.getD 1 0 &&& v.getD 2 0))) % KB
def wT(v:List Nat)(k w:Nat):List Nat:=
 [(YT v k w+yK v) % KB,v.getD 0 0,v.getD 1 0,v.getD 2 0,(v.getD 3 0+YT v k w) % KB,v.getD 4 0,v.getD 5 0,v.getD 6 0]
def Xx(v w:List Nat):Nat→List Nat
 |0=>v
 |n+1=>wT (Xx v w n) (sS.getD n 0) (w.getD n 0)
def aU(h v:List Nat):List Nat:=(List.range 8).map λi=>(h.getD i 0+v.getD i 0) % KB
def PA(h:List Nat)(b:AE):List Nat:=aU h (Xx h (PM b 48) 64)
def bG(n:Nat):AE:=[UInt8.ofNat (n / 2 ^ 56),UInt8.ofNat (n / 2 ^ 48),UInt8.ofNat (n / 2 ^ 40),UInt8.ofNat (n / 2 ^ 32),UInt8.ofNat (n / 2 ^ 24),UInt8.ofNat (n / 2 ^ 16),UInt8.ofNat (n / 2 ^ 8),UInt8.ofNat n]
def zQ(n:Nat):Nat:=(119-n % 64) % 64
def qV(t:AE):AE:=t++([128]++List.replicate (zQ t.length) 0)++bG (8*t.length)
theorem s9(x y:UInt8)(xs ys:AE):Op.bytesLess (x::xs) (y::ys)=(decide (x.toNat<y.toNat)||(decide (x.toNat=y.toNat)&&Op.bytesLess xs ys)):=by
 show(decide (x<y)||(x==y&&Op.bytesLess xs ys))=_;have e1:decide (x<y)=decide (x.toNat<y.toNat):=by
  rw[decide_eq_decide];exact UInt8.lt_iff_toNat_lt
 have e2:(x==y)=decide (x.toNat=y.toNat):=by
  rw[Bool.eq_iff_iff,beq_iff_eq,decide_eq_true_eq];exact⟨λh=>by rw[h],λh=>UInt8.toNat_inj.1 h⟩
 rw[e1,e2]
end Go.Proofs.YtkgibdhpijdbfaaGreatDoor
namespace Go.Proofs.YtkgibdhpijdbfaaGreatDoor
open Go Go.Eng Go.Proofs
theorem MU(x y:UInt8)(xs ys:AE):Op.bytesLess (x::xs) (y::ys)=(decide (x.toNat<y.toNat)||(decide (x.toNat=y.toNat)&&Op.bytesLess xs ys)):=s9 x y xs ys
theorem F4: ∀x:AE,Op.bytesLess x x=false
 |[]=>rfl
 |c::x=>by rw[MU,F4 x];simp
theorem P5(x:AE):Op.bytesLess x []=false:=by cases x<;>rfl
theorem JM: ∀x y z:AE,Op.bytesLess x y=true→Op.bytesLess y z=true→Op.bytesLess x z=true
 |_,[],_,h,_=>by rw[P5]at h;cases h
 |_,_::_,[],_,h=>by rw[P5]at h;cases h
 |[],_::_,_::_,_,_=>rfl
 |a::x,b::y,c::z,h1,h2=>by
  rw[MU]at h1 h2⊢;simp only[Bool.or_eq_true,Bool.and_eq_true,decide_eq_true_eq]at h1 h2⊢;rcases h1 with h1|⟨h1,h1'⟩
  ·rcases h2 with h2|⟨h2, -⟩
   ·exact .inl (Nat.lt_trans h1 h2)
   ·exact .inl (h2▸h1)
  ·rcases h2 with h2|⟨h2,h2'⟩
   ·exact .inl (h1▸h2)
   ·exact .inr ⟨h1.trans h2,JM x y z h1' h2'⟩
theorem P6: ∀x y:AE,Op.bytesLess x y=true∨x=y∨Op.bytesLess y x=true
 |[],[]=> .inr (.inl rfl)
 |[],_::_=> .inl rfl
 |_::_,[]=> .inr (.inr rfl)
 |a::x,b::y=>by
  rw[MU,MU];simp only[Bool.or_eq_true,Bool.and_eq_true,decide_eq_true_eq];rcases Nat.lt_trichotomy a.toNat b.toNat with h|h|h
  ·exact .inl (.inl h)
  ·rcases P6 x y with h2|h2|h2
   ·exact .inl (.inr ⟨h,h2⟩)
   ·exact .inr (.inl (by rw[UInt8.toNat_inj.1 h,h2]))
   ·exact .inr (.inr (.inr ⟨h.symm,h2⟩))
  ·exact .inr (.inr (.inl h))
theorem bN{x y:AE}(h:Op.bytesLess x y=true):Op.bytesLess y x=false:=by
 cases h2:Op.bytesLess y x with
 |false=>rfl
 |true=>have:=JM x y x h h2;rw[F4]at this;cases this
def F6(x y:Int):Int:=if x<y then-1 else if y<x then 1 else 0
theorem UC: ∀(a b:AE),decide (Lib.compareBytes a b<0)=Op.bytesLess a b
 |[],[]=>rfl
 |[],_::_=>rfl
 |_::_,[]=>rfl
 |a::la,b::lb=>by
  rw[MU];unfold Lib.compareBytes;have e: ∀x y:UInt8,x<y↔x.toNat<y.toNat:=λx y=>UInt8.lt_iff_toNat_lt;by_cases h:a.toNat<b.toNat
  ·rw[if_pos ((e a b).2 h),decide_eq_true h];rfl
  ·rw[if_neg (λh2=>h ((e a b).1 h2)),decide_eq_false h,Bool.false_or];by_cases h2:b.toNat<a.toNat
   ·rw[if_pos ((e b a).2 h2),decide_eq_false (by omega: ¬a.toNat=b.toNat)];rfl
   ·rw[if_neg (λh3=>h2 ((e b a).1 h3)),decide_eq_true (by omega:a.toNat=b.toNat),Bool.true_and];exact UC la lb
theorem MW: ∀(a b:AE),Lib.compareBytes a b=0↔a=b
 |[],[]=>by simp[Lib.compareBytes]
 |[],_::_=>by simp[Lib.compareBytes]
 |_::_,[]=>by simp[Lib.compareBytes]
 |a::la,b::lb=>by
  unfold Lib.compareBytes;have e: ∀x y:UInt8,x<y↔x.toNat<y.toNat:=λx y=>UInt8.lt_iff_toNat_lt;by_cases h:a.toNat<b.toNat
  ·rw[if_pos ((e a b).2 h)];exact⟨nofun,λh2=>by simp only[List.cons.injEq]at h2;rw[h2.1]at h;omega⟩
  ·rw[if_neg (λh2=>h ((e a b).1 h2))];by_cases h2:b.toNat<a.toNat
   ·rw[if_pos ((e b a).2 h2)];exact⟨nofun,λh3=>by simp only[List.cons.injEq]at h3;rw[h3.1]at h2;omega⟩
   ·rw[if_neg (λh3=>h2 ((e b a).1 h3)),MW la lb];have:a=b:=UInt8.toNat_inj.1 AA;simp[this]
end Go.Proofs.YtkgibdhpijdbfaaGreatDoor
namespace Go.Eng
open Go
theorem Kk{P:Program}{T0:BO}(hT:BX P T0){t e:TypeId}{sz:Nat}{i:TI}(hi:tf T0 t=some i)(hk:i.k= .slice e sz){x y:Operand}{a:Option Addr}{n c:Nat}{K:Value→Prop}(hK:K (.bool a.isNone)):
  JG P (do eqGuard .eql t x y (.slice a n c) (.slice none 0 0);binOp .eql t (.slice a n c) (.slice none 0 0)) K:=by
 have h:=CZ hT hi;rw[hk]at h;have h2:P.underlying t=some (.slice e):=h.1;refine⟨_,λw=>?_,hK⟩;rw[Sem.run_bind,O3 P .eql t x y _ _ w (by intro c h;cases h) (by intro h;cases h)];exact Lib.run_eql_slice_nil w t e a n c 0 0 h2
end Go.Eng
namespace Go.Proofs.YtkgibdhpijdbfaaGreatDoor
open Go Go.Eng Go.Proofs
structure AF where
 k:AE
 s:Int
 d:Bool
 v:AE
 deriving DecidableEq
def AU(e:AF):List Value:=[AG e.k,.int .i64 e.s,.bool e.d,AG e.v]
def EW(a:AF)(k:AE)(s:Int):Bool:=Op.bytesLess a.k k||(decide (a.k=k)&&decide (s<a.s))
def CL(a b:AF):Bool:=EW a b.k b.s
def G3(a b:AF):Int:=if Lib.compareBytes a.k b.k≠0 then Lib.compareBytes a.k b.k else if b.s<a.s then-1 else if a.s<b.s then 1 else 0
def GQ(a b:AF):Prop:=a.k=b.k∧a.s=b.s
theorem cB(a b:AE):Lib.compareBytes a b<0↔Op.bytesLess a b=true:=by rw[←UC];simp
theorem MY(a b:AF):G3 a b<0↔CL a b=true:=by
 unfold G3 CL EW;simp only[Bool.or_eq_true,Bool.and_eq_true,decide_eq_true_eq];by_cases h:Lib.compareBytes a.k b.k=0
 ·rw[if_neg (by simpa using h)];have h2:=(MW _ _).1 h;have h3: ¬Op.bytesLess a.k b.k=true:=by rw[h2,F4];simp
  constructor
  ·intro h4;right;refine⟨h2,?_⟩
   split at h4
   ·assumption
   ·split at h4<;>omega
  ·rintro(h4|⟨_,h4⟩)
   ·exact absurd h4 h3
   ·rw[if_pos h4];decide
 ·rw[if_pos h,cB];constructor
  ·exact .inl
  ·rintro(h4|⟨h4,_⟩)
   ·exact h4
   ·exact absurd ((MW _ _).2 h4) h
theorem QM(a b:AF):G3 a b=0↔GQ a b:=by
 unfold G3 GQ;by_cases h:Lib.compareBytes a.k b.k=0
 ·rw[if_neg (by simpa using h)];have h2:=(MW _ _).1 h;constructor
  ·intro h4;refine⟨h2,?_⟩
   split at h4
   ·cases h4
   ·split at h4
    ·cases h4
    ·omega
  ·rintro⟨_,h4⟩;rw[if_neg AA,if_neg AA]
 ·rw[if_pos h];exact⟨λh4=>absurd h4 h,λh4=>absurd ((MW _ _).2 h4.1) h⟩
theorem In(a b:AF):CL a b=true↔Op.bytesLess a.k b.k=true∨(a.k=b.k∧b.s<a.s):=by unfold CL EW;simp
theorem QP(a:AF):CL a a=false:=by unfold CL EW;rw[F4];simp
theorem Mb{a b c:AF}(h1:CL a b=true)(h2:CL b c=true):CL a c=true:=by
 rw[In]at*;rcases h1 with h1|⟨h1,h1'⟩
 ·rcases h2 with h2|⟨h2,_⟩
  ·exact .inl (JM _ _ _ h1 h2)
  ·exact .inl (h2▸h1)
 ·rcases h2 with h2|⟨h2,h2'⟩
  ·exact .inl (h1▸h2)
  ·exact .inr ⟨h1.trans h2,AA⟩
theorem QQ(a b:AF):CL a b=true∨GQ a b∨CL b a=true:=by
 rw[In,In];unfold GQ;rcases P6 a.k b.k with h|h|h
 ·exact .inl (.inl h)
 ·rcases Int.lt_trichotomy a.s b.s with h2|h2|h2
  ·exact .inr (.inr (.inr ⟨h.symm,h2⟩))
  ·exact .inr (.inl ⟨h,h2⟩)
  ·exact .inl (.inr ⟨h,h2⟩)
 ·exact .inr (.inr (.inl h))
theorem dH{a b:AF}(h:CL a b=true):CL b a=false:=by
 cases h2:CL b a with
 |false=>rfl
 |true=>have:=Mb h h2;rw[QP]at this;cases this
theorem N8{a b c:AF}(h:GQ a b):CL a c=CL b c∧CL c a=CL c b:=by
 obtain⟨h1,h2⟩:=h;unfold CL EW;rw[h1,h2];exact⟨rfl,rfl⟩
abbrev Az(l:List AF):Prop:=l.Pairwise λa b=>CL a b=true
def Br(k:AE)(s:Int):List AF→List AF
 |[]=>[]
 |x::l=>if EW x k s then Br k s l else x::l
def CY(k:AE)(s:Int):List AF→List AF
 |[]=>[]
 |x::l=>if EW x k s then x::CY k s l else []
theorem GH(k:AE)(s:Int): ∀l,CY k s l++Br k s l=l
 |[]=>rfl
 |x::l=>by
  unfold CY Br
  split
  ·rw[D3,GH k s l]
  ·rfl
theorem NM(k:AE)(s:Int): ∀l,∀x∈CY k s l,EW x k s=true
 |[],x,h=>by simp[CY]at h
 |y::l,x,h=>by
  unfold CY at h
  split at h
  ·rcases As.1 h with rfl|h
   ·assumption
   ·exact NM k s l x h
  ·simp at h
theorem Ks{k:AE}{s:Int}: ∀{l:List AF},Az l→ ∀x∈Br k s l,EW x k s=false
 |[],_,x,h=>by simp[Br]at h
 |y::l,hr,x,h=>by
  unfold Br at h;have hr':=DT.1 hr
  split at h
  ·exact Ks hr'.2 x h
  ·rename_i hy;rcases As.1 h with rfl|h
   ·simpa using hy
   ·cases hx:EW x k s with
    |false=>rfl
    |true=>
     have h1:CL y x=true:=hr'.1 x h;have:EW y k s=true:=Mb (c:=⟨k,s,false,[]⟩) h1 hx;exact absurd this hy
def DH(l:List AF)(k:AE)(s:Int):Option AF:=
 match Br k s l with
 |[]=>none
 |x::_=>if x.k=k then some x else none
def DS(x:AF):List AF→List AF
 |[]=>[x]
 |y::l=>if CL y x then y::DS x l else if y.k=x.k∧y.s=x.s then x::l else x::y::l
theorem J0(x:AF): ∀l,DS x l=CY x.k x.s l++x::(match Br x.k x.s l with|[]=>[]|y::r=>if y.k=x.k∧y.s=x.s then r else y::r)
 |[]=>rfl
 |y::l=>by
  unfold DS CY Br;show(if EW y x.k x.s=true then _ else _)=_
  split
  ·rw[J0 x l];rfl
  ·show _=x::(if y.k=x.k∧y.s=x.s then l else y::l);by_cases hs:y.k=x.k∧y.s=x.s
   ·rw[if_pos hs,if_pos hs]
   ·rw[if_neg hs,if_neg hs]
theorem Vv(x:AF): ∀l z,z∈DS x l↔z=x∨(z∈l∧ ¬(z.k=x.k∧z.s=x.s))∨(z∈l∧z.k=x.k∧z.s=x.s∧z∈DS x l)
 |l,z=>by
  constructor
  ·intro h;by_cases hz:z=x
   ·exact .inl hz
   ·right;have hl:z∈l:=by
     rw[J0]at h;have hm: ∀w,w∈Br x.k x.s l→w∈l:=λw hw=>by rw[←GH x.k x.s l];exact FC _ hw
     rcases Bl.1 h with h|h
     ·rw[←GH x.k x.s l];exact EO _ h
     ·rcases As.1 h with h|h
      ·exact absurd h hz
      ·split at h
       ·simp at h
       ·rename_i y r hf
        split at h
        ·exact hm z (by rw[hf];exact CJ _ h)
        ·exact hm z (by rw[hf];exact h)
    by_cases hs:z.k=x.k∧z.s=x.s
    ·exact .inr ⟨hl,hs.1,hs.2,h⟩
    ·exact .inl ⟨hl,hs⟩
  ·rintro(h|⟨h1,h2⟩|⟨_,_,_,h⟩)
   ·subst h;rw[J0];exact FC _ (CN ..)
   ·rw[J0];rw[←GH x.k x.s l]at h1;rcases Bl.1 h1 with h1|h1
    ·exact EO _ h1
    ·refine FC _ (CJ _ ?_)
     split
     ·rename_i hf;rw[hf]at h1;simp at h1
     ·rename_i y r hf;rw[hf]at h1
      split
      ·rename_i hs;rcases As.1 h1 with rfl|h1
       ·exact absurd hs h2
       ·exact h1
      ·exact h1
   ·exact h
theorem Xw{a b:List AF}:Az (a++b)↔Az a∧Az b∧ ∀x∈a,∀y∈b,CL x y=true:=GV
theorem OT{x:AF}{l:List AF}(h:Az l):Az (DS x l):=by
 have hsp:=GH x.k x.s l;have h':=h;rw[←hsp,Xw]at h';obtain⟨h1,h2,h3⟩:=h';have hge:=Ks (k:=x.k) (s:=x.s) h;rw[J0,Xw];have hlt:=NM x.k x.s l;have tail: ∀y∈(match Br x.k x.s l with|[]=>[]|y::r=>if y.k=x.k∧y.s=x.s then r else y::r),CL x y=true:=by
  intro y hy;cases hf:Br x.k x.s l with
  |nil=>rw[hf]at hy;simp at hy
  |cons z r=>
   rw[hf]at hy h2;have hz:=hge z (by rw[hf];exact CN ..);have hz2:=(DT.1 h2).1;simp only at hy
   split at hy
   ·rename_i hs;have:CL z y=true:=hz2 y hy;rw[(N8 (a:=z) (b:=x) ⟨hs.1,hs.2⟩).1]at this;exact this
   ·rename_i hs;have hxz:CL x z=true:=by
     rcases QQ x z with h|h|h
     ·exact h
     ·exact absurd ⟨h.1.symm,h.2.symm⟩ hs
     ·have:CL z x=false:=hz;rw[this]at h;cases h
    rcases As.1 hy with rfl|hy
    ·exact hxz
    ·exact Mb hxz (hz2 y hy)
 refine⟨h1,DT.2 ⟨tail,?_⟩,?_⟩
 ·cases hf:Br x.k x.s l with
  |nil=>exact List.Pairwise.nil
  |cons z r=>
   rw[hf]at h2;simp only
   split
   ·exact(DT.1 h2).2
   ·exact h2
 ·intro a ha y hy;have hax:CL a x=true:=hlt a ha;rcases As.1 hy with rfl|hy
  ·exact hax
  ·exact Mb hax (tail y hy)
end Go.Proofs.YtkgibdhpijdbfaaGreatDoor
namespace Go.Eng
open Go
section
variable {P : Program} {T0 : BO}
theorem Q7(hT:BX P T0){t e:TypeId}{i ie:TI}{n:Nat}(hi:tf T0 t=some i)(hk:i.k= .arr n e 1)(hie:tf T0 e=some ie)(hagg:ie.agg=false){cs:List Value}{j:Nat}(hj:j<n){v:Value}(hv:cs[j]?=some v){k:IntKind}{K:Value→Prop}(hK:K v):
  JG P (Instr.index t (.agg ⟨cs⟩) (.int k (j:Int))) K:=by
 refine⟨v,λw=>?_,hK⟩;have ht:=CZ hT hi;rw[hk]at ht;obtain⟨hu,hs⟩:=ht;cases hinf:P.info? e with
 |none=>rw[hinf]at hs;simp at hs
 |some inf=>
  rw[hinf]at hs;have hs1:inf.size=1:=by simpa using hs
  have ha:(isAgg e).run P w= .ok false w:=Oc hT hie hagg w;simp[Instr.index,run_underlying hu,asIntOf,hj,part,ha,sizeOf,typeInfo,hinf,hs1];rw[hv];rfl
theorem St.copy(hT:BX P T0){t u e ty:TypeId}{i:TI}(hi:tf T0 t=some i)(hk:i.k= .slice e 1){w0 w:World}{T:List Nat}{H:AH}{g off n cap:Nat}{l:List Value}{et:TypeId}{F:Obj→AH}(hS:St w0 T H w) [hs:Slot H g (.cells ⟨l⟩ et (0,0)) F]
  {a:Addr}{m c:Nat}{cs:List Value}(hn:cs.length=min m n)(ha:Arr w [] (some a) cs)(h1:cs.all Value.oneCell'=true)(hfit:off+cs.length≤l.length){K:Value→World→Prop}
  (h: ∀w',St w0 T (F (.cells ⟨En l off cs⟩ et (0,0))) w'→K (.int .i64 cs.length) w'):
  Bk P (Builtin.copy_ ⟨[t,u]⟩ ty ⟨[.slice (some ⟨g,off,none⟩) n cap,.slice (some a) m c]⟩) w K:=by
 have ht:=CZ hT hi;rw[hk]at ht;have hmem:=hS.mem (b:=g);refine Bk.of (run_copy_row P w t u ty e g off n cap a m c ⟨l⟩ et cs ht.1 ht.2 hmem hn (λj v hj=>?_) (by simpa using hfit) (λv hv=>C8.1 h1 v hv)) ?_
 ·obtain⟨b',o',h2, -,h3⟩:=ha j v hj;cases h2;rw[Addr.add_eq];exact h3
 ·exact h _ (hS.setRow (l:=l))
end
end Go.Eng
namespace Go.Eng
open Go
section
variable {P : Program} {T0 : BO}
def HC(P:Program)(t:TypeId)(xs:List Value)(off:Nat)(v:Value):Prop:=∀w,(part t ⟨xs⟩ off).run P w= .ok v w
theorem HC.one(hT:BX P T0){t:TypeId}{i:TI}(hi:tf T0 t=some i)(ha:i.agg=false){xs:List Value}{off:Nat}{v:Value}(hx:xs[off]?=some v):HC P t xs off v:=by
 intro w;have h1:=Oc hT hi ha w;simp[part,h1];rw[hx];rfl
theorem HC.agg(hT:BX P T0){t:TypeId}{i:TI}(hi:tf T0 t=some i)(ha:i.agg=true){xs vs:List Value}{off:Nat}(hx:(xs.drop off).take i.size=vs):HC P t xs off (.agg ⟨vs⟩):=by
 intro w;have h1:=RJ hT hi ha w;have h2:=O8 hT hi w;simp[part,h1,h2];exact hx
def Fx(n:Nat)(P:Program)(t:TypeId)(a b:Value)(r:Bool):Prop:=∀k w,(Op.equalIn (k+n) t a b).run P w= .ok r w
def Mg(fs:List Field):List (Bool×TypeId×Nat):=fs.map λf=>(decide (f.name≠ "_"),f.type,f.offset)
def Hz(n:Nat)(P:Program)(xs ys:List Value)(d:List (TypeId×Nat))(r:Bool):Prop:=
 ∀(fs:List Field),Mg fs=d.map (λx=>(true,x.1,x.2))→ ∀k w,(Op.eqFields (k+n) ⟨xs⟩ ⟨ys⟩ fs).run P w= .ok r w
theorem Fx.int{n:Nat}(hT:BX P T0){t:TypeId}{i:TI}(hi:tf T0 t=some i){kk k:IntKind}(hk:i.k= .int kk)(a b:Int):Fx (n+1) P t (.int k a) (.int k b) (decide (a=b)):=by
 intro d w;have h:=CZ hT hi;rw[hk]at h;rw[show decide (a=b)=(a==b) by rw[Bool.eq_iff_iff];simp];exact run_equalIn_int w (d+n) t k kk a b h
theorem Fx.bool{n:Nat}(hT:BX P T0){t:TypeId}{i:TI}(hi:tf T0 t=some i)(hk:i.k= .bool)(a b:Bool):Fx (n+1) P t (.bool a) (.bool b) (decide (a=b)):=by
 intro d w;have h:=CZ hT hi;rw[hk]at h;rw[show decide (a=b)=(a==b) by rw[Bool.eq_iff_iff];simp];exact run_equalIn_bool' w (d+n) t a b h
theorem Fx.str{n:Nat}(hT:BX P T0){t:TypeId}{i:TI}(hi:tf T0 t=some i)(hk:i.k= .str)(a b:List UInt8):Fx (n+1) P t (AG a) (AG b) (decide (a=b)):=by
 intro d w;have h:=CZ hT hi;rw[hk]at h;rw[show decide (a=b)=((⟨⟨a⟩⟩:ByteArray).toList==(⟨⟨b⟩⟩:ByteArray).toList) by rw[T4,T4,Bool.eq_iff_iff];simp];exact run_equalIn_string w (d+n) t _ _ h
theorem Hz.nil{n:Nat}{xs ys:List Value}:Hz n P xs ys [] true:=by
 intro fs h k w;cases fs with
 |nil=>simp[Op.eqFields]
 |cons f fs=>simp[Mg]at h
theorem Hz.cons{n:Nat}{xs ys:List Value}{t:TypeId}{off:Nat}{d:List (TypeId×Nat)}{a b:Value}{r1 r2:Bool}(h1:HC P t xs off a)(h2:HC P t ys off b)(h3:Fx n P t a b r1)(h4:Hz n P xs ys d r2):
  Hz n P xs ys ((t,off)::d) (r1&&r2):=by
 intro fs h k w;cases fs with
 |nil=>simp[Mg]at h
 |cons f fs=>
  simp only[Mg,A4,List.cons.injEq,Prod.mk.injEq,decide_eq_true_eq]at h;obtain⟨⟨hn,rfl,rfl⟩,h⟩:=h;have e:=h4 fs h k w;simp only[Op.eqFields,if_pos hn,Sem.run_bind,h1 w,h2 w,h3 k w,Result.andThen_ok,Sem.run_ite];cases r1 with
  |false=>simp
  |true=>simp[e]
theorem Fx.struct{n:Nat}{t:TypeId}{d:List (TypeId×Nat)}(ht:P.underlying t=some (.struct (P.fieldsOf t)))(hp:P.stoodInHeld t=false)(hd:Mg (P.fieldsOf t).toList=d.map (λx=>(true,x.1,x.2))){xs ys:List Value}{r:Bool}(h:Hz n P xs ys d r):
  Fx (n+1) P t (.agg ⟨xs⟩) (.agg ⟨ys⟩) r:=by
 intro k w;rw[show k+(n+1)=(k+n)+1 by omega,run_equalIn_struct w (k+n) t _ _ ht hp];exact h _ hd k w
theorem uJ{n:Nat}{t:TypeId}{x y:Operand}{xs ys:List Value}{r:Bool}(hn:n≤10000)(hm:P.eqGuardType P.depth t=false)(h:Fx n P t (.agg ⟨xs⟩) (.agg ⟨ys⟩) r){K:Value→Prop}(hK:K (.bool (!r))):
  JG P (do eqGuard .neq t x y (.agg ⟨xs⟩) (.agg ⟨ys⟩);binOp .neq t (.agg ⟨xs⟩) (.agg ⟨ys⟩)) K:=by
 refine⟨_,λw=>?_,hK⟩;have h1:=run_eqGuard_agg (P:=P) w .neq t x y ⟨xs⟩ ⟨ys⟩ hm;have h2:=h (10000-n) w;rw[show 10000-n+n=10000 by omega]at h2;simp only[Sem.run_bind,h1,Result.andThen_ok,run_neq_struct,h2]
end
end Go.Eng
