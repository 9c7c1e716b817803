/- Texts of this claim, one behind the other. -/
import Derived.Test.YtkgibdhpijdbfaaGreatDoorZ18
import Derived.Test.YtkgibdhpijdbfaaGreatDoorZ15
import Derived.Test.YtkgibdhpijdbfaaGreatDoorZ13
import Derived.Test.YtkgibdhpijdbfaaGreatDoorZ20
import Derived.Test.YtkgibdhpijdbfaaGreatDoorZ12
import Derived.Test.YtkgibdhpijdbfaaGreatDoorZ16
import Derived.Test.YtkgibdhpijdbfaaGreatDoorZ6
import Derived.Test.YtkgibdhpijdbfaaGreatDoorZ2
import Derived.Test.YtkgibdhpijdbfaaGreatDoorZ4
set_option linter.unusedVariables false
set_option linter.unusedSimpArgs false
set_option maxHeartbeats 16000000
namespace Go.Proofs.YtkgibdhpijdbfaaGreatDoor
open Go Go.Eng Go.Proofs
/-! ### A frame is read back-/
theorem RV(n:Nat)(l:List UInt8)(hn:n<4294967296):Cq (B6 n++l)=n:=by
 have:Cq (B6 n++l)=Cq (B6 n):=rfl;rw[this,uX n hn]
theorem VS(pre p rest:AE)(hp:p.length≤65536):B7 (pre++(Dl p++rest)) pre.length=(p,pre.length+(8+p.length),0):=by
 have hd:(pre++(Dl p++rest)).drop pre.length=B6 p.length++(B6 (Fl [B6 p.length,p])++(p++rest)):=by
  rw[List.drop_left];simp[Dl]
 have hc:=(UJ [B6 p.length,p]).2;unfold B7;rw[hd,RV _ _ AA];have h4:(B6 p.length++(B6 (Fl [B6 p.length,p])++(p++rest))).take 4=B6 p.length:=rfl;have h5:(B6 p.length++(B6 (Fl [B6 p.length,p])++(p++rest))).drop 4=B6 (Fl [B6 p.length,p])++(p++rest):=rfl;have h6:((B6 p.length++(B6 (Fl [B6 p.length,p])++(p++rest))).take (8+p.length)).drop 8=p:=by
  rw[List.drop_take];have:(B6 p.length++(B6 (Fl [B6 p.length,p])++(p++rest))).drop 8=p++rest:=rfl;rw[this,show 8+p.length-8=p.length by omega,List.take_left]
 rw[h4,h5,h6,RV _ _ hc,if_neg,if_neg,if_pos rfl]
 ·simp;omega
 ·simp[B6];omega
 ·simp[Dl,B6]
theorem Qm(t:AE)(k:Nat)(h:t.length<k+8):B7 t k=([],0,1):=by
 unfold B7;rw[if_pos h]
theorem R0(tail:AE)(k:Nat): ∀(ps:List AE)(pre:AE)(fuel:Nat),Bc ps=true→ps.length<fuel→(B7 (pre++(AQ ps++tail)) (pre.length+(AQ ps).length)).2.2≠0→
  I7 (pre++(AQ ps++tail)) fuel pre.length=(ps,pre.length+(AQ ps).length)
 |[],pre,fuel+1,_,_,h=>by
  simp only[I7];have:(B7 (pre++(AQ []++tail)) pre.length).2.2≠0:=h;rw[if_pos this];rfl
 |p::ps,pre,fuel+1,hok,hf,h=>by
  simp only[Bc,List.all_cons,Bool.and_eq_true,decide_eq_true_eq]at hok;have e1:pre++(AQ (p::ps)++tail)=pre++(Dl p++(AQ ps++tail)):=by simp[AQ]
  have e2:(AQ (p::ps)).length=8+p.length+(AQ ps).length:=by simp[AQ,Mk];omega
  have e3:pre++(AQ (p::ps)++tail)=(pre++Dl p)++(AQ ps++tail):=by rw[e1];simp
  have e4:(pre++Dl p).length=pre.length+(8+p.length):=by simp[Mk];omega
  simp only[I7];rw[e2,e3]at h;have ih:=R0 tail k ps (pre++Dl p) fuel (by simpa[Bc]using hok.2) (by simp at hf;omega) (by rw[e4,show pre.length+(8+p.length)+(AQ ps).length=pre.length+(8+p.length+(AQ ps).length) by omega];exact h);have e5:B7 (pre++(AQ (p::ps)++tail)) pre.length=(p,pre.length+(8+p.length),0):=by rw[e1];exact VS _ _ _ hok.1
  rw[e5];simp only[ne_eq,not_true_eq_false,if_false];rw[e3,←e4,ih,e4,e2];simp;omega
theorem IY(ps:List AE)(h:Bc ps=true):scan (AQ ps)=(ps,(AQ ps).length):=by
 have h0:(B7 ([]++(AQ ps++[])) (([]:AE).length+(AQ ps).length)).2.2≠0:=by
  rw[Qm _ _ AB];simp
 have h1:=R0 [] 0 ps [] ((AQ ps).length+1) h (by have:=Ds ps;omega) h0;simpa[scan]using h1
theorem ND(ps qs:List AE):AQ (ps++qs)=AQ ps++AQ qs:=by simp[AQ]
end Go.Proofs.YtkgibdhpijdbfaaGreatDoor
namespace Go.Eng
open Go
section
variable {P : Program} {T0 : BO}
theorem St.appZ(hT:BX P T0){t u e ty:TypeId}{sz:Nat}{i ie:TI}{k0 k1:IntKind}(hi:tf T0 t=some i)(hk:i.k= .slice e sz)(hie:tf T0 e=some ie)(hz:ie.zero.cells.size=sz)(hu:P.underlying u=some (.int k0)){w0 w:World}{T:List Nat}{H:AH}(hS:St w0 T H w)
  {m:Nat}(hm:0<m)(hlen:m*ie.bytes≤140737488355328)(hm2:m≤9223372036854775807){K:Value→World→Prop}
  (h: ∀g cap' L' w',AT e sz (some ⟨g,0,none⟩) 0 cap' [] L'→m≤cap'→St w0 T (L'++H) w'→K (.slice (some ⟨g,0,none⟩) m cap') w'):
  Bk P (Builtin.append_ ⟨[t,u]⟩ ty ⟨[.slice none 0 0,.int k1 (m:Int)]⟩) w K:=by
 have ht:=CZ hT hi;rw[hk]at ht;obtain⟨ht,hes⟩:=ht;obtain⟨inf,hinf,hzz,hs1,hby⟩:=OS hT hie;have hsz:inf.size=sz:=by rw[hinf]at hes;simpa using hes
 have hw:IntKind.i64.wrap (m:Int)=(m:Int):=IntWalk.i64_in _ AA;have h2: ¬((m:Int)<0):=AA;have h3: ¬(9223372036854775807<(m:Int)):=AA;have h4: ¬(281474976710656<Builtin.nextslicecap m 0*inf.bytes):=by rw[nextslicecap_zero AA,hby];omega
 have h5: ¬(281474976710656<(m:Int)*(inf.bytes:Int)):=by
  rw[hby];have:((m*ie.bytes:Nat):Int)≤((140737488355328:Nat):Int):=Int.ofNat_le.2 hlen;rw[Int.natCast_mul]at this;omega
 have hge:=grownCap_ge w m 0 e;have hlz:([]:List Value).length+((Builtin.zeroCells ie.zero.cells m).toList++(Builtin.zeroCells ie.zero.cells (grownCap w m 0 e-m)).toList).length=grownCap w m 0 e*sz:=by
  rw[AP,PN,PN,hz,←HK,Bo,Cs];congr 1;omega
 have hS2:St w0 T ([(w.heap.size,Obj.cells ⟨[]++((Builtin.zeroCells ie.zero.cells m).toList++(Builtin.zeroCells ie.zero.cells (grownCap w m 0 e-m)).toList)⟩ e (0,0))]++H) (w.drew.alloc (.cells ⟨[]++((Builtin.zeroCells ie.zero.cells m).toList++(Builtin.zeroCells ie.zero.cells (grownCap w m 0 e-m)).toList)⟩ e (0,0))):=(hS.drew).alloc _;refine Bk.of (v:= .slice (some ⟨w.heap.size,0,none⟩) m (grownCap w m 0 e)) ?_ (h _ _ _ _ (AT.row w.heap.size 0 _ [] _ AB hlz (Ag _)) hge hS2)
 have hm0:m≠0:=AA;simp[Builtin.append_,run_underlying ht,run_underlying hu,sizeOf,typeInfo,zeroValue,hinf,hzz,hsz,asInt,asIntOf,hw,h2,h3,h4,h5,hm0,Question.forced,run_firstCells_none,newRow,grownCap];by_cases h0:m*sz=0
 ·have e0:(Builtin.zeroCells ie.zero.cells m).toList=[]:=Is (by rw[PN,hz];exact h0);rw[if_pos h0,e0];simp
 ·rw[if_neg h0]
  congr 3
  apply Array.ext';simp
end
end Go.Eng
namespace Go.Proofs.YtkgibdhpijdbfaaGreatDoor
open Go Go.Eng Go.Proofs Go.Srt
inductive EC(w:World):List Value→List (List AF)→Prop where
 |nil:EC w [] []
 |cons {a:Option Addr} {c:Nat} {l:List AF} {xs:List Value} {ls:List (List AF)} (ha:Arr w [] a (l.flatMap AU)) (hc:l.length≤c) (h:EC w xs ls):EC w (.slice a l.length c::xs) (l::ls)
theorem EC.len{w:World}{xs:List Value}{ls:List (List AF)}(h:EC w xs ls):xs.length=ls.length:=by
 induction h with
 |nil=>rfl
 |cons _ _ _ ih=>simp[ih]
theorem EC.get{w:World}{xs:List Value}{ls:List (List AF)}(h:EC w xs ls): ∀(k:Nat)(hk:k<ls.length),∃a c,xs[k]?=some (.slice a ls[k].length c)∧Arr w [] a (ls[k].flatMap AU)∧ls[k].length≤c:=by
 induction h with
 |nil=>intro k hk;simp at hk
 |cons ha hc h ih=>
  intro k hk;cases k with
  |zero=>exact⟨_,_,rfl,ha,hc⟩
  |succ k=>obtain⟨a,c,h1,h2⟩:=ih k (by simpa using hk);exact⟨a,c,by simpa using h1,by simpa using h2⟩
theorem Hi(l:List AF):(l.flatMap AU).length=l.length*4:=Kq (cv:=AU) (sz:=4) (λ_=>rfl) l
theorem OB(l:List AF):(l.flatMap AU).all Value.oneCell'=true:=by
 induction l with
 |nil=>rfl
 |cons p ps ih=>rw[FA,List.all_append,ih];rfl
theorem lQ(l:List AF)(k:Nat)(hk:k<l.length):((l.flatMap AU).drop (k*4)).take 4=AU l[k]:=by
 induction l generalizing k with
 |nil=>simp at hk
 |cons p ps ih=>
  cases k with
  |zero=>simp only[Nat.zero_mul,List.drop_zero,FA,JU];exact Gl rfl
  |succ k=>
   rw[FA,show(k+1)*4=(AU p).length+k*4 by show _=4+_;omega,List.drop_length_add_append];exact ih k (by simpa using hk)
theorem Hj(p q:List AF):(p++q).flatMap AU=p.flatMap AU++q.flatMap AU:=Hn
theorem vP:Ord λx y:AF=>decide (G3 x y<0)where
 asym x y h:=by
  simp only[decide_eq_true_eq,decide_eq_false_iff_not,MY]at h⊢;rw[dH h];simp
 trans x y z h1 h2:=by
  simp only[decide_eq_false_iff_not,MY,Bool.not_eq_true]at h1 h2⊢;cases h3:CL z x with
  |false=>rfl
  |true=>
   rcases QQ y z with h|h|h
   ·have:=Mb h h3;rw[h1]at this;cases this
   ·rw[(N8 h).1,h3]at h1;cases h1
   ·rw[h2]at h;cases h
theorem wP{l:List AF}(hs:Srt (λx y:AF=>decide (G3 x y<0)) l)(h1:C1 l):Az l:=by
 have h:=List.Pairwise.and hs h1;refine h.imp λ{a b}hab=>?_;simp only[decide_eq_false_iff_not,MY,Bool.not_eq_true]at hab;rcases QQ a b with h|h|h
 ·exact h
 ·exact absurd h hab.2
 ·rw[hab.1]at h;cases h
theorem t7(x y:AF)(w:World):Cl Tryz.prog QX [B9 x,B9 y] w λv w'=>v= .bool (decide (G3 x y=0))∧St w [] [] w':=by
 have hS:=St.start w;have hc:=λw=>Wd x y w;unfold B9 AU at hc⊢;refine fS rfl ?_;refine jq ⟨?_⟩;refine hS.al ?_;intro b2 w2 _ hS;refine jq ⟨?_⟩;refine hS.al ?_;intro b3 w3 _ hS;(repeat(refine jt ⟨?_⟩;refine hS.q ?_;intro _ hS));refine jt ⟨?_⟩;refine(hc _).mono ?_;rintro _ w4⟨rfl,hS'⟩;have hS:=hS.call0 hS';refine jq ⟨?_⟩;exact⟨rfl,hS.nil⟩
theorem ZL{w:World}(m:Nat)(hm:m≤1099511627776):
  Cl Tryz.prog oS [.slice none 0 0,.int .i64 m] w λv w'=>∃a c L,v= .slice a 0 c∧AT Aq 4 a 0 c [] L∧St w [] L w':=by
 have hS:=St.start w;refine gU rfl ?_;by_cases h0:m=0
 ·subst h0;refine jq ⟨?_⟩;exact⟨none,0,[],rfl,AT.nil,hS⟩
 ·refine jq ⟨?_⟩;refine St.appZ (k1:= .i64) (sz:=4) AK rfl rfl rfl rfl (CZ AK (t:=BP) rfl) hS (m:=m) AA (by show _*48≤_;omega) AA ?_;intro g c L w1 hv hc hS;rw[BU]at hS;refine jq ⟨?_⟩;exact⟨_,c,L,rfl,hv,hS⟩
theorem Y0{w:World}{a:Option Addr}{c:Nat}{xs:List Value}{ls:List (List AF)}(ha:Arr w [] a xs)(hL:EC w xs ls)(hl:ls.length≤1099511627776)(hn:ls.flatten.length≤16777216):
  Cl Tryz.prog oQ [.slice a ls.length c] w λv w'=>∃a' c' L,v= .slice a' ls.flatten.length c'∧AT Aq 4 a' ls.flatten.length c' (ls.flatten.flatMap AU) L∧St w [] L w':=by
 have hS:=St.start w;have hlx:=hL.len;have htake: ∀k,k≤ls.length→(ls.take k).flatten.length≤ls.flatten.length:=λk _=>by
  have:=congrArg List.length (GW (L₁:=ls.take k) (L₂:=ls.drop k));rw[CO,AP]at this;omega
 have hsucc: ∀k(hk:k<ls.length),(ls.take (k+1)).flatten=(ls.take k).flatten++ls[k]:=λk hk=>by
  rw[Bs hk,GW];simp
 refine gS rfl ?_;refine jq ⟨?_⟩;refine AL.loop (λk:Nat=>[(0,.slice a ls.length c),(3,.int .i64 (ls.take k).flatten.length),(9,.slice a ls.length c),(10,.int .i64 ls.length),(11,.int .i64 k)])
  (λk w'=>k≤ls.length∧St w [] [] w') (λk=>ls.length-k) 0
  ⟨rfl,rfl,rfl,rfl,rfl,trivial⟩ ⟨Ag _,hS⟩ ?_
 clear hS;rintro k w1⟨hk,hS⟩;by_cases hkl:k<ls.length
 ·obtain⟨a1,c1,hx,ha1,hc1⟩:=hL.get k hkl;have h1:=htake (k+1) AA;have h2:=htake k AA;have h3:=hsucc k hkl;rw[h3,AP]at h1;obtain⟨g,off,rfl, -, -⟩:=ha.get (j:=k) AA;refine jq ⟨?_⟩;refine Arr.ldc (j:=k) hS ha hx AA ?_;refine jq ⟨?_⟩;exact⟨k+1,⟨rfl,by rw[h3,AP];rfl,rfl,rfl,rfl,trivial⟩,⟨AA,hS⟩,AA⟩
 ·obtain rfl:k=ls.length:=AA;rw[Bz];refine jq ⟨?_⟩;refine(ZL ls.flatten.length AA).mono ?_;rintro _ w2⟨a2,c2,L2,rfl,hv2,hS2⟩;have hS:=hS.callNew hS2;rw[BU]at hS;refine jq ⟨?_⟩;refine AL.loop (λi:Nat×Option Addr×Nat=>[(0,.slice a ls.length c),(6,.slice i.2.1 (ls.take i.1).flatten.length i.2.2),(25,.slice a ls.length c),(26,.int .i64 ls.length),(27,.int .i64 i.1)])
   (λi w'=>i.1≤ls.length∧ ∃L,AT Aq 4 i.2.1 (ls.take i.1).flatten.length i.2.2 ((ls.take i.1).flatten.flatMap AU) L∧St w [] L w') (λi=>ls.length-i.1) (0,a2,c2)
   ⟨rfl,rfl,rfl,rfl,rfl,trivial⟩ ⟨Ag _,L2,hv2,hS⟩ ?_
  clear hS hk hkl;rintro⟨k,a3,c3⟩w3⟨hk,L3,hv,hS⟩;simp only at hk hv hS⊢;by_cases hkl:k<ls.length
  ·obtain⟨a1,c1,hx,ha1,hc1⟩:=hL.get k hkl;have h1:=htake (k+1) AA;have h3:=hsucc k hkl;rw[h3,AP]at h1;obtain⟨g,off,rfl, -, -⟩:=ha.get (j:=k) AA;refine jq ⟨?_⟩;refine Arr.ldc (j:=k) hS ha hx AA ?_;refine jq ⟨?_⟩;refine St.app (sz:=4) (m:=ls[k].length) AK rfl rfl rfl rfl hS hv (news:=ls[k].flatMap AU) (Hi _) (hS.arrOld ha1) (OB _) (by show(_+_)*48≤_;omega) AA ?_;intro a4 c4 L4 w4 hv4 hS;refine jq ⟨?_⟩
   exact⟨(k+1,a4,c4),⟨rfl,by rw[h3,AP];rfl,rfl,rfl,rfl,trivial⟩,⟨AA,L4,by rw[h3,AP,Hj];exact hv4,hS⟩,by simp;omega⟩
  ·obtain rfl:k=ls.length:=AA;rw[Bz]at hv⊢;refine jq ⟨?_⟩;exact⟨a3,c3,L3,rfl,hv,hS⟩
theorem FO{w:World}{T:List Nat}{a:Option Addr}{l:List AF}(ha:Arr w T a (l.flatMap AU)){k:Nat}(hk:k<l.length): ∃g off,a=some ⟨g,off,none⟩∧ ∀(j:Nat)(v:Value),(AU l[k])[j]?=some v→w.cell? ⟨g,off+k*4+j,none⟩=some v:=by
 have hlen:=Hi l;obtain⟨g,off,hg, -, -⟩:=ha.get (j:=k*4) AA;refine⟨g,off,hg,λj v hj=>?_⟩;have hj4:j<4:=(FR.1 hj).1;have hx:(l.flatMap AU)[k*4+j]?=some v:=by
  rw[←lQ l k hk,IM,if_pos hj4,It]at hj;exact hj
 obtain⟨g',o',h1,_,h3⟩:=ha _ v hx;rw[hg]at h1;simp only[Option.some.injEq,Addr.mk.injEq,and_true]at h1;obtain⟨rfl,rfl⟩:=h1;rw[Gq];exact h3
theorem Sl{w:World}{a:Option Addr}{c:Nat}{l:List AF}(ha:Arr w [] a (l.flatMap AU))(hr:Az l)(hl:l.length≤1099511627776):
  Cl Tryz.prog oP [.slice a l.length c,.func (.func QX) ⟨[]⟩ ⟨[]⟩] w λv w'=>v= .slice a l.length c∧St w [] [] w':=by
 have hS:=St.start w;refine gR rfl ?_;by_cases h2:l.length<2
 ·refine jq ⟨?_⟩;exact⟨rfl,hS⟩
 ·refine jq ⟨?_⟩;refine AL.loop (λk:Nat=>[(0,.slice a l.length c),(1,.func (.func QX) ⟨[]⟩ ⟨[]⟩),(4,.slice none 0 0),(5,.int .i64 k)])
   (λk w'=>1≤k∧k≤l.length∧St w [] [] w') (λk=>l.length-k) 1
   ⟨rfl,rfl,rfl,rfl,trivial⟩ ⟨AV _,AA,hS⟩ ?_
  clear hS;rintro k w1⟨hk1,hk,hS⟩;by_cases hkl:k<l.length
  ·obtain⟨g,off,rfl,hx⟩:=FO ha hkl;obtain⟨g',o',h1,hy⟩:=FO ha (show k-1<l.length by omega);simp only[Option.some.injEq,Addr.mk.injEq,and_true]at h1;obtain⟨rfl,rfl⟩:=h1;have hne: ¬G3 l[k] l[k-1]=0:=λh=>by
    have h3:=(QM _ _).1 h;have h4:=JV.1 hr (k-1) k AA hkl AA;rw[(N8 h3.symm).1,QP]at h4;cases h4
   have hcm:=λw=>t7 l[k] l[k-1] w;generalize hu:l[k]=u at hx hne hcm;generalize hv:l[k-1]=v at hy hne hcm;unfold B9 AU at hcm;refine jq ⟨?_⟩;refine AL.draw AK mixed (λw'=>St w _ _ w') [10] [0,1,2,3,4,5,6,7,8,9,10] AD hS.drew ?_;have hS:=hS.drew;refine jr ⟨?_⟩;refine JZ (cs:=[AG u.k,.int .i64 u.s,.bool u.d,AG u.v]) rfl (λw' hw j x hj=>hw.oldCell AB (by have:=hx j x hj;rw[show off+((k:Int)).toNat*4+j=off+k*4+j by omega];exact this)) ?_
   refine jr ⟨?_⟩;refine JZ (cs:=[AG v.k,.int .i64 v.s,.bool v.d,AG v.v]) rfl (λw' hw j x hj=>hw.oldCell AB (by have:=hy j x hj;rw[show off+((k:Int)-1).toNat*4+j=off+(k-1)*4+j by omega];exact this)) ?_;refine jr ⟨?_⟩;refine(hcm _).mono ?_;rintro _ w2⟨rfl,hS'⟩;have hS:=hS.call0 hS';refine jr ⟨?_⟩;refine jq ⟨?_⟩;exact⟨k+1,⟨rfl,rfl,rfl,rfl,trivial⟩,⟨AA,AA,hS⟩,AA⟩
  ·refine jq ⟨?_⟩;exact⟨rfl,hS⟩
end Go.Proofs.YtkgibdhpijdbfaaGreatDoor
namespace Go.Proofs.YtkgibdhpijdbfaaGreatDoor
open Go Go.Eng Go.Proofs
theorem uI{w:World}{a:Option Addr}{c:Nat}{l:List AF}(ha:Arr w [] a (l.flatMap AU))(hl:l.length≤16777216):
  Cl Tryz.prog p3 [.slice a l.length c] w λv w'=>∃a' c' L,v= .slice a' (Cb l).length c'∧AT C3 1 a' (Cb l).length c' ((Cb l).map AG) L∧St w [] L w':=by
 have hS:=St.start w;refine j8 rfl ?_;refine jq ⟨?_⟩;refine AL.loop (λi:Nat×Option Addr×Nat=>[(3,.slice i.2.1 (Cb (l.take i.1)).length i.2.2),(6,.slice a l.length c),(7,.int .i64 l.length),(8,.int .i64 i.1)])
  (λi w'=>i.1≤l.length∧ ∃L,AT C3 1 i.2.1 (Cb (l.take i.1)).length i.2.2 ((Cb (l.take i.1)).map AG) L∧St w [] L w') (λi=>l.length-i.1) (0,none,0)
  ⟨rfl,rfl,rfl,rfl,trivial⟩ ⟨Ag _,[],AT.nil,hS⟩ ?_
 clear hS;rintro⟨k,a1,c1⟩w1⟨hk,L,hv,hS⟩;simp only at hk hv hS⊢;by_cases hkl:k<l.length
 ·obtain⟨g,off,rfl,hx⟩:=FO ha hkl;have hsucc:Cb (l.take (k+1))=GB (Cb (l.take k)) l[k]:=by rw[Bs hkl,uC]
  have hlen:=Og (l.take k);rw[BR]at hlen;generalize l[k]=u at hx hsucc;generalize Cb (l.take k)=N at hv hsucc hlen⊢;refine jq ⟨?_⟩;refine IQ (cs:=[AG u.k,.int .i64 u.s,.bool u.d,AG u.v]) rfl (λj x hj=>hS.oldCell AB (by have:=hx j x hj;rw[show off+((k:Int)).toNat*4+j=off+k*4+j by omega];exact this)) ?_;refine jq ⟨?_⟩;refine hS.al ?_;intro b5 w2 _ hS;(repeat(refine jt ⟨?_⟩;refine hS.q ?_;intro _ hS));refine jt ⟨?_⟩
  refine AL.draw AK mixed (λw'=>St w _ _ w') [] [0,1,2,3,4,5,6,7,8,9,10,11,12,13] AD hS.drew ?_;have hS:=hS.drew;rcases J2 N with rfl|⟨M,z,rfl⟩
  ·have hsucc:Cb (l.take (k+1))=[]++[u.k]:=by rw[hsucc];rfl
   refine jr ⟨?_⟩;have hlN:=congrArg List.length hsucc;rw[AP]at hlN;(repeat(refine jt ⟨?_⟩;refine hS.q ?_;intro _ hS));refine jt ⟨?_⟩;refine hS.al ?_;intro b6 w3 _ hS;(repeat(refine jt ⟨?_⟩;refine hS.q ?_;intro _ hS));refine jt ⟨?_⟩;refine St.app (sz:=1) (m:=1) AK rfl rfl rfl rfl hS hv (news:=[AG u.k]) (by rfl) (hS.arr (b:=b6) (T':=[]) AB) (by rfl) (by show(_+_)*16≤_;simp only[AP,Ai,Bo]at*;omega) (by simp only[AP,Ai,Bo]at*;omega) ?_
   intro a4 c4 L4 w4 hv4 hS;refine jq ⟨?_⟩;exact⟨(k+1,a4,c4),⟨by rw[hlN];rfl,rfl,rfl,rfl,trivial⟩,⟨hkl,L4,by rw[hlN,hsucc,A7];exact hv4,hS.sub ((AS _ _).trans (AS _ _))⟩,by simp;omega⟩
  ·rw[List.concat_eq_append]at hv hsucc hlen⊢;have hlM:(M++[z]).length=M.length+1:=AB;have hz:((M++[z]).map AG)[M.length]?=some (AG z):=AB;unfold GB at hsucc;rw[List.getLast?_append]at hsucc;simp only[List.getLast?_singleton,Option.some_or,Option.some.injEq]at hsucc;rcases hv.inv with⟨-,h1, -, -, -⟩|⟨g2,tl,rfl,hx4,hx5,hx6,hLe⟩
   ·omega
   ·refine jr ⟨?_⟩;refine Yl hv rfl (j:=M.length) hz AA ?_;refine jr ⟨?_⟩;by_cases hzu:z=u.k
    ·rw[if_pos hzu]at hsucc;refine jr ⟨?_⟩;refine jq ⟨?_⟩;exact⟨(k+1,some ⟨g2,0,none⟩,c1),⟨by rw[hsucc];rfl,rfl,rfl,rfl,trivial⟩,⟨hkl,L,by rw[hsucc];exact hv,hS.sub (AS _ _)⟩,by simp;omega⟩
    ·rw[if_neg hzu]at hsucc;refine jr ⟨?_⟩;have hlN:=congrArg List.length hsucc;rw[AP]at hlN;(repeat(refine jt ⟨?_⟩;refine hS.q ?_;intro _ hS));refine jt ⟨?_⟩;refine hS.al ?_;intro b6 w3 _ hS;(repeat(refine jt ⟨?_⟩;refine hS.q ?_;intro _ hS));refine jt ⟨?_⟩;refine St.app (sz:=1) (m:=1) AK rfl rfl rfl rfl hS hv (news:=[AG u.k]) (by rfl) (hS.arr (b:=b6) (T':=[]) AB) (by rfl) (by show(_+_)*16≤_;simp only[AP,Ai,Bo]at*;omega) (by simp only[AP,Ai,Bo]at*;omega) ?_
     intro a4 c4 L4 w4 hv4 hS;refine jq ⟨?_⟩;exact⟨(k+1,a4,c4),⟨by rw[hlN];rfl,rfl,rfl,rfl,trivial⟩,⟨hkl,L4,by rw[hlN,hsucc,A7];exact hv4,hS.sub ((AS _ _).trans (AS _ _))⟩,by simp;omega⟩
 ·obtain rfl:k=l.length:=AA;rw[Bz]at hv⊢;refine jq ⟨?_⟩;exact⟨a1,c1,L,rfl,hv,hS⟩
theorem PT{w:World}{a:Option Addr}{c:Nat}{l:List AF}(ha:Arr w [] a (l.flatMap AU))(hl:l.length≤16777216):
  Cl Tryz.prog oL [.slice a l.length c] w λv w'=>∃a' c' L,v= .slice a' l.length c'∧AT Aq 4 a' l.length c' (l.flatMap AU) L∧St w [] L w':=by
 have hS:=St.start w;have hol:=Hi l;refine gN rfl ?_;rcases a with _|p
 ·have hl:l=[]:=by
   cases l with
   |nil=>rfl
   |cons x l=>obtain⟨g,off,h, -⟩:=ha.get (j:=0) (by rw[hol,Ai];omega);cases h
  subst hl;refine jq ⟨?_⟩;refine Kk AK rfl rfl ?_;refine jq ⟨?_⟩;exact⟨_,_,[],rfl,AT.nil,hS⟩
 ·refine jq ⟨?_⟩;refine Kk AK rfl rfl ?_;refine jq ⟨?_⟩;refine hS.al ?_;intro r w1 _ hS;have hv:AT Aq 4 (some ⟨r,0,none⟩) 0 0 [] [(r,.cells ⟨[]⟩ Aq (0,0))]:=AT.row r 0 0 [] [] rfl rfl (AV _);refine jq ⟨?_⟩;refine St.app (sz:=4) (m:=l.length) AK rfl rfl rfl rfl hS hv (news:=l.flatMap AU) (by rw[hol]) (hS.arrOld ha) (OB l) (by show(_+_)*48≤_;omega) AA ?_;intro a1 c1 L1 w2 hv hS;rw[CU,Cs]at hv;rw[Cs]
  refine jq ⟨?_⟩;exact⟨a1,c1,L1,rfl,hv,hS⟩
theorem dJ{args:List Value}{w:World}{R:Value→World→Prop}(hlen:Nat.ble args.length 59=true)(h:ED Tryz.prog 59 (Tryz.f96.body.getD .skip) (LP NL [.cell 8 56,.cell 9 61,.cell 10 33] R) (HG 0 args) w):Cl Tryz.prog 96 args w R:=
 Cl.enterX AK Tryz.call96 Tryz.func96 Tryz.ntmps96 rfl Tryz.results96 hlen h
theorem dK{args:List Value}{w:World}{R:Value→World→Prop}(hlen:Nat.ble args.length 87=true)(h:ED Tryz.prog 87 (Tryz.f130.body.getD .skip) (LP NL [.tmp 2,.tmp 3] R) (HG 0 args) w):Cl Tryz.prog 130 args w R:=
 Cl.enterX AK Tryz.call130 Tryz.func130 Tryz.ntmps130 rfl Tryz.results130 hlen h
theorem dI{args:List Value}{w:World}{R:Value→World→Prop}(hlen:Nat.ble args.length 13=true)(h:ED Tryz.prog 13 (Tryz.f144.body.getD .skip) (LP NL [.tmp 4] R) (HG 0 args) w):Cl Tryz.prog 144 args w R:=
 Cl.enterX AK Tryz.call144 Tryz.func144 Tryz.ntmps144 rfl Tryz.results144 hlen h
theorem bT: ∀(args:Array Value)(w:World),(callFunc 145 args).run Tryz.prog w= .ok (.enter 145 args) w:=Tryz.call145
theorem T6: ∀(args:Array Value)(w:World),(callFunc 182 args).run Tryz.prog w= .ok (.enter 182 args) w:=Tryz.call182
def LY(t:AE):AE×Int×AE:=match PI t with
 |some (s,r)=>(s,0,r)
 |none=>([],1,t)
theorem Nc{w:World}{b:Nat}{t:AE}(hh:Holds [(b,A6 t)] w)(ht:t.length≤70368744177664):
  Cl Tryz.prog oD [ptr b] w λv w'=>v= .tuple ⟨[AG (LY t).1,.int .i64 (LY t).2.1]⟩∧St w [b] [(b,A6 (LY t).2.2)] w':=by
 have hS:St w [b] [(b,A6 t)] w:=St.enter hh;refine gF rfl ?_;(repeat(refine jt ⟨?_⟩;refine hS.q ?_;intro _ hS));refine jt ⟨?_⟩;refine Cl.mono (JH hh ht) ?_;rintro _ w1⟨rfl,hS1⟩;have hlt:=K9 t;have hln:=K8 t;unfold LY PI;cases h:Hv t with
 |none=>
  have hn:CQ t=(0,1,t):=by unfold CQ;rw[h]
  rw[hn]at hS1⊢;simp only at hS1⊢;have hS:=hS1;(repeat(refine jt ⟨?_⟩;refine hS.q ?_;intro _ hS));refine jt ⟨?_⟩;exact⟨rfl,hS⟩
 |some x=>
  obtain⟨m,r⟩:=x;have hn:CQ t=(m,0,r):=by unfold CQ;rw[h]
  rw[hn]at hS1 hlt hln⊢;simp only at hS1 hlt hln⊢;have hS:=hS1;by_cases hm:r.length<m
  ·rw[if_pos hm];(repeat(refine jt ⟨?_⟩;refine hS.q ?_;intro _ hS));refine jt ⟨?_⟩;exact⟨rfl,hS⟩
  ·rw[if_neg hm];(repeat(refine jt ⟨?_⟩;refine hS.q ?_;intro _ hS));refine jt ⟨?_⟩;exact⟨rfl,hS⟩
end Go.Proofs.YtkgibdhpijdbfaaGreatDoor
