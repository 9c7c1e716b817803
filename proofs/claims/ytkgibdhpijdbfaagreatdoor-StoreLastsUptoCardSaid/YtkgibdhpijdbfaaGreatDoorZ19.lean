/- Texts of this claim, one behind the other. -/
import Derived.Test.YtkgibdhpijdbfaaGreatDoorZ17
import Derived.Test.YtkgibdhpijdbfaaGreatDoorZ4
import Derived.Test.YtkgibdhpijdbfaaGreatDoorZ16
import Derived.Test.YtkgibdhpijdbfaaGreatDoorZ9
import Derived.Test.YtkgibdhpijdbfaaGreatDoorZ15
import Derived.Test.YtkgibdhpijdbfaaGreatDoorZ5
set_option linter.unusedVariables false
set_option linter.unusedSimpArgs false
set_option maxHeartbeats 16000000
namespace Go.Proofs.YtkgibdhpijdbfaaGreatDoor
open Go Go.Eng Go.Proofs
structure FB(A:Nat)(m:AJ):Prop where
 armed:m.armed≤A
 acts:m.acts≤A
 num:m.files.length≤A
 nd:(m.files.map (·.1)).Nodup
 name: ∀x∈m.files,x.1.length≤40
 text: ∀x∈m.files,x.2.1.length≤1099511627776
theorem FB.mono{A B:Nat}{m:AJ}(h:FB A m)(hl:A≤B):FB B m:=⟨Au h.armed hl,Au h.acts hl,Au h.num hl,h.nd,h.name,h.text⟩
theorem FB.get{A:Nat}{m:AJ}(h:FB A m)(n:AE):((AN m n).getD ([],0)).1.length≤1099511627776:=by
 cases e:AN m n with
 |none=>simp
 |some x=>exact h.text _ (Jc e)
theorem FB.find{A:Nat}{m:AJ}(h:FB A m)(n:AE):(BA m n).1.1.length≤1099511627776:=by
 have:=h.get n;unfold BA
 split
 ·simp
 ·cases e:AN m n with
  |none=>simp
  |some x=>rw[e]at this;exact this
theorem FB.acted{A:Nat}{m:AJ}(h:FB A m):FB (A+1) (acted m):=⟨Nat.succ_le_succ h.armed,Nat.succ_le_succ h.acts,Nat.le_succ_of_le h.num,h.nd,h.name,h.text⟩
theorem FB.put{A:Nat}{m:AJ}(h:FB A m){n:AE}{x:AE×Nat}(hn:n.length≤40)(hx:x.1.length≤1099511627776):FB (A+1) {Proofs.YtkgibdhpijdbfaaGreatDoor.acted m with files:=BV n x m.files}:=
 ⟨h.acted.armed,h.acted.acts,Au (Je _ _ _) (Nat.succ_le_succ h.num),Mv h.nd,λy hy=>(IN hy).elim (λe=>by rw[e];exact hn) (h.name y),λy hy=>(IN hy).elim (λe=>by rw[e];exact hx) (h.text y)⟩
theorem FB.dele{A:Nat}{m:AJ}(h:FB A m)(n:AE):FB (A+1) {Proofs.YtkgibdhpijdbfaaGreatDoor.acted m with files:=Cn n m.files}:=
 ⟨h.acted.armed,h.acted.acts,Au (GY n _).length_le h.acted.num,OZ h.nd,λy hy=>h.name y ((GY n _).mem hy),λy hy=>h.text y ((GY n _).mem hy)⟩
theorem Wk{n:AE}(h:named n=true):n.length≤40:=by
 unfold named at h;simp at h;exact h.2
theorem FB.del{A:Nat}{m:AJ}(h:FB A m)(n:AE):FB (A+1) (A9 m n).2:=by
 unfold A9
 split
 ·exact h.mono (D5 _)
 ·simp only
  split
  ·exact h.acted
  ·exact h.dele n
theorem FB.app{A:Nat}{m:AJ}(h:FB A m)(n:AE)(ps:List AE)(hl:((AN m n).getD ([],0)).1.length+ps.flatten.length≤1099511627776):FB (A+1) (BB m n ps).2:=by
 unfold BB
 split
 ·exact h.mono (D5 _)
 split
 ·exact h.mono (D5 _)
 rename_i hn
 split
 ·exact h.acted
 split
 ·exact h.acted
 ·exact h.put (Wk (by simpa using hn)) (by simpa using hl)
theorem qY{A:Nat}{m:AJ}(h:FB A m){n:AE}(hf:(BA m n).2=0):n.length≤40:=by
 unfold BA at hf
 split at hf
 ·simp at hf
 ·cases e:AN m n with
  |none=>rw[e]at hf;simp at hf
  |some x=>exact h.name _ (Jc e)
theorem FB.sync{A:Nat}{m:AJ}(h:FB A m)(n:AE):FB (A+1) (CV m n).2:=by
 unfold CV
 split
 ·exact h.mono (D5 _)
 rename_i hf;have hf:(BA m n).2=0:=by simpa using hf
 simp only
 split
 ·exact h.acted
 ·exact h.put (qY h hf) (h.find n)
def Cv(m:AJ)(a b:AE):Int×AJ:=
 if m.off=false∧named b=false then(4,m)
 else if(BA m a).2≠0 then((BA m a).2,m)
 else(if(acted m).off then 7 else 0,if DN m=1 then acted m else{acted m with files:=BV b (BA m a).1 (Cn a m.files)})
theorem FB.ren{A:Nat}{m:AJ}(h:FB A m)(a b:AE):FB (A+1) (Cv m a b).2:=by
 unfold Cv
 split
 ·exact h.mono (D5 _)
 rename_i hn
 split
 ·exact h.mono (D5 _)
 rename_i hf;have hf:(BA m a).2=0:=by simpa using hf
 have hoff:m.off=false:=by
  cases e:m.off with
  |false=>rfl
  |true=>unfold BA at hf;rw[e]at hf;simp at hf
 have hnb:named b=true:=by
  cases e:named b with
  |true=>rfl
  |false=>exact absurd ⟨hoff,e⟩ hn
 simp only
 split
 ·exact h.acted
 ·have hd:FB A {m with files:=Cn a m.files}:=⟨h.armed,h.acts,Au (GY a _).length_le h.num,OZ h.nd,λy hy=>h.name y ((GY a _).mem hy),λy hy=>h.text y ((GY a _).mem hy)⟩;have:=hd.put (n:=b) (x:=(BA m a).1) (Wk hnb) (h.find a);exact this
def CE(m:AJ)(nm t:AE):Int×AJ:=
 if(A9 m nm).1≠0∧(A9 m nm).1≠5 then A9 m nm
 else if(BB (A9 m nm).2 nm [t]).1≠0 then BB (A9 m nm).2 nm [t]
 else CV (BB (A9 m nm).2 nm [t]).2 nm
def Cd(m:AJ)(nm:AE)(ps:List AE):Int×AJ:=if Bb ps then CE m nm (AQ ps)else(2,m)
theorem N4{m:AJ}{n:AE}(hnd:(m.files.map (·.1)).Nodup)(h:(A9 m n).1=0∨(A9 m n).1=5):AN (A9 m n).2 n=none:=by
 unfold A9 at h⊢
 split
 ·rename_i hf;rw[if_pos hf]at h;simp only at h⊢;unfold BA at h hf
  split at h
  ·simp at h
  ·cases e:AN m n with
   |none=>rfl
   |some x=>rename_i ho;rw[if_neg ho]at hf;rw[e]at hf;simp at hf
 ·rename_i hf;rw[if_neg hf]at h;simp only at h⊢
  split
  ·rename_i h1;exfalso;have:(acted m).off=true:=by unfold acted;simp[h1]
   rw[this]at h;simp at h
  ·unfold AN;rw[KG _ _ hnd,if_pos rfl]
theorem FB.file{A:Nat}{m:AJ}(h:FB A m)(n t:AE)(ht:t.length≤1099511627776):FB (A+3) (CE m n t).2:=by
 unfold CE
 split
 ·exact(h.del n).mono AA
 rename_i hd;have hg:=N4 (n:=n) h.nd AA;have ha:=(h.del n).app n [t] (by rw[hg];simpa using ht)
 split
 ·exact ha.mono AA
 ·exact ha.sync n
theorem FB.rewrite{A:Nat}{m:AJ}(h:FB A m)(n:AE)(ps:List AE)(ht:(AQ ps).length≤1099511627776):FB (A+3) (Cd m n ps).2:=by
 unfold Cd
 split
 ·exact h.file n _ ht
 ·exact h.mono AA
theorem uJ{w:World}{a:Option Addr}{c:Nat}{l:List AF}(ha:Arr w [] a (l.flatMap AU))(hl:l.length≤16777216):
  Cl Tryz.prog p3 [.slice a l.length c] w λv w'=>∃a' c' L,v= .slice a' (Cb l).length c'∧AT C0 1 a' (Cb l).length c' ((Cb l).map AG) L∧St w [] L w':=by
 have hS:=St.start w;refine j9 rfl ?_;refine jq ⟨?_⟩;refine AM.loop (λi:Nat×Option Addr×Nat=>[(3,.slice i.2.1 (Cb (l.take i.1)).length i.2.2),(6,.slice a l.length c),(7,.int .i64 l.length),(8,.int .i64 i.1)])
  (λi w'=>i.1≤l.length∧ ∃L,AT C0 1 i.2.1 (Cb (l.take i.1)).length i.2.2 ((Cb (l.take i.1)).map AG) L∧St w [] L w') (λi=>l.length-i.1) (0,none,0)
  ⟨rfl,rfl,rfl,rfl,trivial⟩ ⟨Ag _,[],AT.nil,hS⟩ ?_
 clear hS;rintro⟨k,a1,c1⟩w1⟨hk,L,hv,hS⟩;simp only at hk hv hS⊢;by_cases hkl:k<l.length
 ·obtain⟨g,off,rfl,hx⟩:=FL ha hkl;have hsucc:Cb (l.take (k+1))=GB (Cb (l.take k)) l[k]:=by rw[Bq hkl,uD]
  have hlen:=Oi (l.take k);rw[Ba]at hlen;generalize l[k]=u at hx hsucc;generalize Cb (l.take k)=N at hv hsucc hlen⊢;refine jq ⟨?_⟩;refine IP (cs:=[AG u.k,.int .i64 u.s,.bool u.d,AG u.v]) rfl (λj x hj=>hS.oldCell AB (by have:=hx j x hj;rw[show off+((k:Int)).toNat*4+j=off+k*4+j by omega];exact this)) ?_;refine jq ⟨?_⟩;refine hS.al ?_;intro b5 w2 _ hS;(repeat(refine jt ⟨?_⟩;refine hS.q ?_;intro _ hS));refine jt ⟨?_⟩
  refine AM.draw AK mixed (λw'=>St w _ _ w') [] [0,1,2,3,4,5,6,7,8,9,10,11,12,13] AD hS.drew ?_;have hS:=hS.drew;rcases J8 N with rfl|⟨M,z,rfl⟩
  ·have hsucc:Cb (l.take (k+1))=[]++[u.k]:=by rw[hsucc];rfl
   refine jr ⟨?_⟩;have hlN:=congrArg List.length hsucc;rw[AP]at hlN;(repeat(refine jt ⟨?_⟩;refine hS.q ?_;intro _ hS));refine jt ⟨?_⟩;refine hS.al ?_;intro b6 w3 _ hS;(repeat(refine jt ⟨?_⟩;refine hS.q ?_;intro _ hS));refine jt ⟨?_⟩;refine St.app (sz:=1) (m:=1) AK rfl rfl rfl rfl hS hv (news:=[AG u.k]) (by rfl) (hS.arr (b:=b6) (T':=[]) AB) (by rfl) (by show(_+_)*16≤_;simp only[AP,Ah,Bv]at*;omega) (by simp only[AP,Ah,Bv]at*;omega) ?_
   intro a4 c4 L4 w4 hv4 hS;refine jq ⟨?_⟩;exact⟨(k+1,a4,c4),⟨by rw[hlN];rfl,rfl,rfl,rfl,trivial⟩,⟨hkl,L4,by rw[hlN,hsucc,A7];exact hv4,hS.sub ((AS _ _).trans (AS _ _))⟩,by simp;omega⟩
  ·rw[List.concat_eq_append]at hv hsucc hlen⊢;have hlM:(M++[z]).length=M.length+1:=AB;have hz:((M++[z]).map AG)[M.length]?=some (AG z):=AB;unfold GB at hsucc;rw[List.getLast?_append]at hsucc;simp only[List.getLast?_singleton,Option.some_or,Option.some.injEq]at hsucc;rcases hv.inv with⟨-,h1, -, -, -⟩|⟨g2,tl,rfl,hx4,hx5,hx6,hLe⟩
   ·omega
   ·refine jr ⟨?_⟩;refine Yr hv rfl (j:=M.length) hz AA ?_;refine jr ⟨?_⟩;by_cases hzu:z=u.k
    ·rw[if_pos hzu]at hsucc;refine jr ⟨?_⟩;refine jq ⟨?_⟩;exact⟨(k+1,some ⟨g2,0,none⟩,c1),⟨by rw[hsucc];rfl,rfl,rfl,rfl,trivial⟩,⟨hkl,L,by rw[hsucc];exact hv,hS.sub (AS _ _)⟩,by simp;omega⟩
    ·rw[if_neg hzu]at hsucc;refine jr ⟨?_⟩;have hlN:=congrArg List.length hsucc;rw[AP]at hlN;(repeat(refine jt ⟨?_⟩;refine hS.q ?_;intro _ hS));refine jt ⟨?_⟩;refine hS.al ?_;intro b6 w3 _ hS;(repeat(refine jt ⟨?_⟩;refine hS.q ?_;intro _ hS));refine jt ⟨?_⟩;refine St.app (sz:=1) (m:=1) AK rfl rfl rfl rfl hS hv (news:=[AG u.k]) (by rfl) (hS.arr (b:=b6) (T':=[]) AB) (by rfl) (by show(_+_)*16≤_;simp only[AP,Ah,Bv]at*;omega) (by simp only[AP,Ah,Bv]at*;omega) ?_
     intro a4 c4 L4 w4 hv4 hS;refine jq ⟨?_⟩;exact⟨(k+1,a4,c4),⟨by rw[hlN];rfl,rfl,rfl,rfl,trivial⟩,⟨hkl,L4,by rw[hlN,hsucc,A7];exact hv4,hS.sub ((AS _ _).trans (AS _ _))⟩,by simp;omega⟩
 ·obtain rfl:k=l.length:=AA;rw[Bz]at hv⊢;refine jq ⟨?_⟩;exact⟨a1,c1,L,rfl,hv,hS⟩
theorem PX{w:World}{a:Option Addr}{c:Nat}{l:List AF}(ha:Arr w [] a (l.flatMap AU))(hl:l.length≤16777216):
  Cl Tryz.prog oL [.slice a l.length c] w λv w'=>∃a' c' L,v= .slice a' l.length c'∧AT Ap 4 a' l.length c' (l.flatMap AU) L∧St w [] L w':=by
 have hS:=St.start w;have hol:=Hg l;refine gQ rfl ?_;rcases a with _|p
 ·have hl:l=[]:=by
   cases l with
   |nil=>rfl
   |cons x l=>obtain⟨g,off,h, -⟩:=ha.get (j:=0) (by rw[hol,Ah];omega);cases h
  subst hl;refine jq ⟨?_⟩;refine Kr AK rfl rfl ?_;refine jq ⟨?_⟩;exact⟨_,_,[],rfl,AT.nil,hS⟩
 ·refine jq ⟨?_⟩;refine Kr AK rfl rfl ?_;refine jq ⟨?_⟩;refine hS.al ?_;intro r w1 _ hS;have hv:AT Ap 4 (some ⟨r,0,none⟩) 0 0 [] [(r,.cells ⟨[]⟩ Ap (0,0))]:=AT.row r 0 0 [] [] rfl rfl (AW _);refine jq ⟨?_⟩;refine St.app (sz:=4) (m:=l.length) AK rfl rfl rfl rfl hS hv (news:=l.flatMap AU) (by rw[hol]) (hS.arrOld ha) (OG l) (by show(_+_)*48≤_;omega) AA ?_;intro a1 c1 L1 w2 hv hS;rw[Ca,DR]at hv;rw[DR]
  refine jq ⟨?_⟩;exact⟨a1,c1,L1,rfl,hv,hS⟩
end Go.Proofs.YtkgibdhpijdbfaaGreatDoor
namespace Go.Proofs.YtkgibdhpijdbfaaGreatDoor
open Go Go.Eng Go.Proofs Go.Srt
theorem Ng{w:World}{a:Option Addr}{c:Nat}{xs:List Value}{ls:List (List AF)}(ha:Arr w [] a xs)(hL:ED w xs ls)(hl:ls.length≤1099511627776)(hn:ls.flatten.length≤16777216)(h1:Cz ls.flatten):
  Cl Tryz.prog nT [.slice a ls.length c] w λv w'=>∃r a' c' L,r.Perm ls.flatten∧Az r∧v= .slice a' r.length c'∧AT Ap 4 a' r.length c' (r.flatMap AU) L∧St w [] L w':=by
 refine fU rfl ?_;refine jq ⟨?_⟩;refine(Y6 ha hL hl hn).mono ?_;rintro _ w1⟨a1,c1,L,rfl,hv,hS⟩;have hcl:=Hg ls.flatten;rcases hv.inv with⟨rfl,hl0,rfl, -,rfl⟩|⟨g,tl,rfl, -,hc2,hc1,rfl⟩
 ·have hf:ls.flatten=[]:=Hp.1 hl0;rw[hf];refine jq ⟨?_⟩;refine xN.mono ?_;intro _ w2 hS';have hS:=hS.call0 hS';refine jq ⟨?_⟩;refine(Sh (l:=[]) (Arr.nil _ _ _) List.Pairwise.nil (Ag _)).mono ?_;rintro _ w3⟨rfl,hS'⟩;have hS:=hS.call0 hS';refine jq ⟨?_⟩;exact⟨[],none,0,[],List.Perm.refl _,List.Pairwise.nil,rfl,AT.nil,hS⟩
 ·refine jq ⟨?_⟩;refine(xP vP Wf hS.holds rfl hn).mono ?_;rintro _ w2⟨r,hp,hs,hS'⟩;have hS:=hS.call1 hS';have hr:Az r:=wP hs (h1.perm hp.symm);have hlen:=hp.length_eq;have hcr:=Hg r;have hv:AT Ap 4 (some ⟨g,0,none⟩) r.length c1 (r.flatMap AU) [(g,.cells ⟨r.flatMap AU++tl⟩ Ap (0,0))]:=
   AT.row g _ c1 _ tl hcr AA AA
  rw[←hlen];refine jq ⟨?_⟩;refine(Sh (hv.arr hS (T':=[]) AB) hr AA).mono ?_;rintro _ w3⟨rfl,hS'⟩;have hS:=hS.call0 hS';refine jq ⟨?_⟩;exact⟨r,_,_,_,hp,hr,rfl,hv,hS⟩
def RR(b:Nat):Value:= .func (.func Ut) ⟨[]⟩ ⟨[ptr b]⟩
theorem uN{w:World}{b:Nat}{t:Int}(hb:w.cell? ⟨b,0,none⟩=some (.int .i64 t))(x:AF):Cl Tryz.prog Ut [B9 x,ptr b] w λv w'=>v= .bool (decide (x.s≤t))∧St w [] [] w':=by
 have hS:=St.start w;unfold B9 AU;refine gB rfl ?_;refine jq ⟨?_⟩;refine hS.al ?_;intro b2 w2 _ hS;(repeat(refine jt ⟨?_⟩;refine hS.q ?_;intro _ hS));refine jt ⟨?_⟩;refine hS.ldOld AB hb ?_;refine jq ⟨?_⟩;exact⟨rfl,hS.nil⟩
def LC(t:Int)(g:List AF):Int:=match GC t g with|none=> -1|some i=>(i:Int)
theorem ZW{w:World}{a:Option Addr}{c b:Nat}{l:List AF}{t:Int}(ha:Arr w [] a (l.flatMap AU))(hb:w.cell? ⟨b,0,none⟩=some (.int .i64 t))(hl:l.length≤1099511627776):
  Cl Tryz.prog oT [.slice a l.length c,RR b] w λv w'=>v= .int .i64 (LC t l)∧St w [] [] w':=by
 have hS:=St.start w;refine gY rfl ?_;refine jq ⟨?_⟩;refine AM.loop (λk:Nat=>[(0,.slice a l.length c),(1,RR b),(7,.int .i64 l.length),(8,.int .i64 k)])
  (λk w'=>(k≤l.length∧ ∀i(h:i<l.length),i<k→ ¬l[i].s≤t)∧St w [] [] w') (λk=>l.length-k) 0
  ⟨rfl,rfl,rfl,rfl,trivial⟩ ⟨⟨Ag _,λi _ h=>AA⟩,hS⟩ ?_
 clear hS;rintro k w1⟨⟨hk,hno⟩,hS⟩;by_cases hkl:k<l.length
 ·obtain⟨g,off,rfl,hx⟩:=FL ha hkl;have hfn:GC t l=some k↔l[k].s≤t:=by
   unfold GC;rw[Mt];constructor
   ·rintro⟨h,h1,_⟩;simpa using h1
   ·intro h1;exact⟨hkl,by simpa using h1,λj hj=>by simpa using hno j AA hj⟩
  have hsucc: ¬l[k].s≤t→ ∀i(h:i<l.length),i<k+1→ ¬l[i].s≤t:=λh i hi hik=>by
   by_cases e:i=k
   ·subst e;exact h
   ·exact hno i hi AA
  generalize hu:l[k]=u at hx hfn hsucc;unfold RR;refine jq ⟨?_⟩;refine IP (cs:=[AG u.k,.int .i64 u.s,.bool u.d,AG u.v]) rfl (λj x hj=>hS.oldCell AB (by have:=hx j x hj;rw[show off+((k:Int)).toNat*4+j=off+k*4+j by omega];exact this)) ?_;refine jq ⟨?_⟩;refine(uN (hS.oldCell AB hb) u).mono ?_;rintro _ w2⟨rfl,hS'⟩;have hS:=hS.call0 hS';by_cases hut:u.s≤t
  ·unfold LC;rw[hfn.2 hut];refine jq ⟨?_⟩;exact⟨rfl,hS⟩
  ·refine jq ⟨?_⟩;exact⟨k+1,⟨rfl,rfl,rfl,rfl,trivial⟩,⟨⟨AA,hsucc hut⟩,hS⟩,AA⟩
 ·have hnone:GC t l=none:=by
   unfold GC;rw[List.findIdx?_eq_none_iff];intro x hx;obtain⟨i,hi,rfl⟩:=Hq.1 hx;simpa using hno i hi AA
  unfold LC;rw[hnone];refine jq ⟨?_⟩;exact⟨rfl,hS⟩
theorem Wn{w:World}{a:Option Addr}{c:Nat}{l:List AF}{t:Int}(ha:Arr w [] a (l.flatMap AU))(hl:l.length≤1099511627776):
  Cl Tryz.prog nY [.slice a l.length c,.int .i64 t] w λv w'=>v= .int .i64 (LC t l)∧St w [] [] w':=by
 have hS:=St.start w;refine gA rfl ?_;refine jq ⟨?_⟩;refine hS.al ?_;intro b w1 _ hS;refine jq ⟨?_⟩;refine Bm.of rfl ?_;refine jq ⟨?_⟩;refine(ZW (hS.arrOld ha) (hS.cell (b:=b) rfl) hl).mono ?_;rintro _ w2⟨rfl,hS'⟩;have hS:=hS.call0 hS';refine jq ⟨?_⟩;exact⟨rfl,hS.nil⟩
theorem Vt: ∀(A:List AF)(x:AF)(B:List AF),(∀y∈A,y.k=x.k)→(∀y∈B.head?,y.k≠x.k)→BC (x::A++B)=(x::A)::BC B
 |[],x,[],_,_=>rfl
 |[],x,y::B,_,h=>by
  rw[D1,Ca,Qx,if_neg (h y AB)]
 |z::A,x,B,ha,hb=>by
  have hz:=ha z CM;have ih:=Vt A z B (λy hy=>(ha y (CH _ hy)).trans hz.symm) (λy hy=>by rw[hz];exact hb y hy);rw[D1,D1,Qx,if_pos hz,←D1,ih]
theorem Mq: ∀l,(BC l).length≤l.length
 |[]=>AW _
 |x::l=>by
  have ih:=Mq l;unfold BC
  split
  ·simp
  ·rename_i h;rw[h]at ih;simp only[Ah]at ih⊢;split<;>simp only[Ah]<;>omega
theorem ED.snoc{w:World}{a:Option Addr}{c:Nat}{l:List AF}{xs:List Value}{ls:List (List AF)}(h:ED w xs ls)(ha:Arr w [] a (l.flatMap AU))(hc:l.length≤c):ED w (xs++[.slice a l.length c]) (ls++[l]):=by
 induction h with
 |nil=>exact .cons ha hc .nil
 |cons ha' hc' _ ih=>exact .cons ha' hc' ih
theorem Ow{w:World}{T:List Nat}{g off c:Nat}{l:List AF}(ha:Arr w T (some ⟨g,off,none⟩) (l.flatMap AU))(hc:l.length≤c){p n:Nat}(hp:p+n≤l.length):
  Arr w T (CU g off p c 4) (((l.drop p).take n).flatMap AU):=by
 have e1:l.flatMap AU=(l.take p).flatMap AU++(l.drop p).flatMap AU:=by rw[←Hh,CN]
 rw[e1]at ha;have hlen:=Hg (l.take p);rw[Ba,IM AA]at hlen;have h1:=ha.dropS (k:=p) (sz:=4) (cap:=c) hlen (λh=>by
  rcases Nat.lt_or_ge p l.length with h2|h2
  ·omega
  ·rw[List.drop_eq_nil_of_le h2]at h;exact absurd rfl h)
 rw[←CN n (l.drop p),Hh]at h1;exact Arr.take h1
theorem Vr{w:World}{a:Option Addr}{c:Nat}{l:List AF}(ha:Arr w [] a (l.flatMap AU))(hc:l.length≤c)(hl:l.length≤16777216):
  Cl Tryz.prog nX [.slice a l.length c] w λv w'=>∃a' c' xs L,v= .slice a' (BC l).length c'∧ED w xs (BC l)∧AT GR 1 a' (BC l).length c' xs L∧St w [] L w':=by
 have hS:=St.start w;have hgl:=Mq l;refine fZ rfl ?_;refine jq ⟨?_⟩;refine AM.loop (λi:Nat×Nat×Nat×Option Addr×Nat=>[(0,.slice a l.length c),(3,.slice i.2.2.2.1 i.2.2.1 i.2.2.2.2),(4,.int .i64 i.2.1),(7,.int .i64 l.length),(8,.int .i64 i.1)])
  (λi w'=>i.1≤l.length∧i.2.1≤i.1∧(i.1=l.length→i.2.1=i.1)∧(∀j(hj:j<l.length)(hi:i.2.1<l.length),i.2.1≤j→j≤i.1→l[j].k=l[i.2.1].k)∧
   ∃gs xs L,gs++BC (l.drop i.2.1)=BC l∧gs.length=i.2.2.1∧ED w xs gs∧AT GR 1 i.2.2.2.1 i.2.2.1 i.2.2.2.2 xs L∧St w [] L w') (λi=>l.length-i.1) (0,0,0,none,0)
  ⟨rfl,rfl,rfl,rfl,rfl,trivial⟩ ⟨Ag _,AW _,λ_=>rfl,λj hj hi h1 h2=>(by have:j=0:=Nat.le_zero.1 h2;subst this;rfl),[],[],[],AB,rfl,.nil,AT.nil,hS⟩ ?_
 clear hS;rintro⟨k,p,n,a1,c1⟩w1⟨hk,hp,hend,hsame,gs,xs,L,hgs,hn,hL,hv,hS⟩;simp only at hk hp hend hsame hn hgs hv hS⊢;by_cases hkl:k<l.length
 ·obtain⟨g,off,rfl,hx⟩:=FL ha hkl;have hgl2:=congrArg List.length hgs;rw[AP]at hgl2;refine jq ⟨?_⟩;refine AM.draw AK mixed (λw'=>St w _ _ w') [] [0,1,2,3,4,5,6,7,8,9,10,11,12,13,14,15,16,17,18] AD hS.drew ?_;have hS:=hS.drew;have hpl:p<l.length:=AA;have hm:((l.drop p).take (k+1-p)).length=k+1-p:=by rw[Ba,D3];omega
  have hLn:ED w (xs++[.slice (CU g off p c 4) (k+1-p) (c-p)]) (gs++[(l.drop p).take (k+1-p)]):=by
   have:=hL.snoc (Ow ha hc (p:=p) (n:=k+1-p) AA) (c:=c-p) (by rw[hm];omega);rw[hm]at this;exact this
  have hcut:(∀y∈(l.drop (k+1)).head?,y.k≠l[p].k)→(gs++[(l.drop p).take (k+1-p)])++BC (l.drop (k+1))=BC l:=λhy=>by
   rw[←hgs,Aj]
   congr 1
   have e1:l.drop p=(l.drop p).take (k+1-p)++l.drop (k+1):=by
    conv=>lhs;rw[←CN (k+1-p) (l.drop p),List.drop_drop,show p+(k+1-p)=k+1 by omega]
   have e2:(l.drop p).take (k+1-p)=l[p]::(l.drop (p+1)).take (k-p):=by
    rw[FM hpl,show k+1-p=(k-p)+1 by omega,KD]
   conv=>rhs;rw[e1,e2]
   rw[e2,Vt _ _ _ _ hy]
   ·rfl
   ·intro y hy;obtain⟨j,hj,rfl⟩:=Hq.1 hy;rw[Ba,D3]at hj;rw[List.getElem_take,List.getElem_drop];exact hsame _ AA hpl AA AA
  by_cases hkn:k+1<l.length
  ·obtain⟨g',o',h1,hy⟩:=FL ha hkn;simp only[Option.some.injEq,Addr.mk.injEq,and_true]at h1;obtain⟨rfl,rfl⟩:=h1;have hkk:=hsame k hkl hpl hp (AW _);generalize hv2:l[k+1]=v at hy;generalize hu:l[k]=u at hx hkk;refine jr ⟨?_⟩;refine hS.ldOldC AB (by have:=hy 0 _ rfl;rw[show off+((k:Int)+1).toNat*4+0=off+(k+1)*4+0 by omega];exact this) ?_;refine jr ⟨?_⟩;refine hS.ldOldC AB (by have:=hx 0 _ rfl;rw[show off+((k:Int)).toNat*4+0=off+k*4+0 by omega];exact this) ?_
   refine jr ⟨?_⟩;have hd: ∀y∈(l.drop (k+1)).head?,y=v:=λy hy=>by
    rw[List.head?_drop,CB hkn,hv2]at hy;simpa using hy.symm
   by_cases hvu:v.k=u.k
   ·refine jq ⟨?_⟩;exact⟨(k+1,p,n,a1,c1),⟨rfl,rfl,rfl,rfl,rfl,trivial⟩,⟨AA,Nat.le_succ_of_le hp,λh=>absurd h (Nat.ne_of_lt hkn),λj hj hi h1 h2=>(by
     rcases Nat.lt_or_ge j (k+1)with h|h
     ·exact hsame j hj hi h1 (Nat.le_of_lt_succ h)
     ·have:j=k+1:=Nat.le_antisymm h2 h;subst this;exact(congrArg AF.k hv2).trans (hvu.trans hkk)),gs,xs,L,hgs,hn,hL,hv,hS⟩,by simp;omega⟩
   ·have hcat:=hcut (λy hy=>by rw[hd y hy,←hkk];exact hvu);refine jq ⟨?_⟩;refine hS.al ?_;intro b2 w2 _ hS;refine jq ⟨?_⟩;refine St.app (sz:=1) (m:=1) AK rfl rfl rfl rfl hS hv (news:=[.slice (CU g off p c 4) (k+1-p) (c-p)]) (by rfl) (by
     have:=hS.arr (b:=b2) (T':=[]) AB;rw[show((p:Int)).toNat=p by omega,show((k:Int)+1).toNat=k+1 by omega]at this;exact this) (by rfl) (by show(_+_)*24≤_;omega) AA ?_
    intro a4 c4 L4 w4 hv4 hS;refine jq ⟨?_⟩;exact⟨(k+1,k+1,n+1,a4,c4),⟨rfl,rfl,rfl,rfl,rfl,trivial⟩,⟨AA,AW _,λ_=>rfl,λj hj hi h1 h2=>(by have:j=k+1:=Nat.le_antisymm h2 h1;subst this;rfl),gs++[(l.drop p).take (k+1-p)],xs++[.slice (CU g off p c 4) (k+1-p) (c-p)],L4,hcat,by simp[hn],hLn,hv4,hS.sub (AS _ _)⟩,by simp;omega⟩
  ·have hcat:=hcut (by rw[List.drop_eq_nil_of_le AA];simp);refine jr ⟨?_⟩;refine jq ⟨?_⟩;refine hS.al ?_;intro b2 w2 _ hS;refine jq ⟨?_⟩;refine St.app (sz:=1) (m:=1) AK rfl rfl rfl rfl hS hv (news:=[.slice (CU g off p c 4) (k+1-p) (c-p)]) (by rfl) (by
    have:=hS.arr (b:=b2) (T':=[]) AB;rw[show((p:Int)).toNat=p by omega,show((k:Int)+1).toNat=k+1 by omega]at this;exact this) (by rfl) (by show(_+_)*24≤_;omega) AA ?_
   intro a4 c4 L4 w4 hv4 hS;refine jq ⟨?_⟩;exact⟨(k+1,k+1,n+1,a4,c4),⟨rfl,rfl,rfl,rfl,rfl,trivial⟩,⟨AA,AW _,λ_=>rfl,λj hj hi h1 h2=>(by have:j=k+1:=Nat.le_antisymm h2 h1;subst this;rfl),gs++[(l.drop p).take (k+1-p)],xs++[.slice (CU g off p c 4) (k+1-p) (c-p)],L4,hcat,by simp[hn],hLn,hv4,hS.sub (AS _ _)⟩,by simp;omega⟩
 ·obtain rfl:k=l.length:=AA;obtain rfl:=hend rfl;rw[II]at hgs;simp only[BC,BT]at hgs;subst hgs;subst hn;refine jq ⟨?_⟩;exact⟨a1,c1,xs,L,rfl,hL,hv,hS⟩
end Go.Proofs.YtkgibdhpijdbfaaGreatDoor
namespace Go.Proofs.YtkgibdhpijdbfaaGreatDoor
open Go Go.Eng Go.Proofs
structure Fg(w:World)(tb:Nat)(l:List AF)(a:Option Addr)(c nb:Nat):Prop where
 cells:Arr w [] (some ⟨tb,0,none⟩) [.int .i64 l.length,.int .i64 nb,.slice a l.length c,AG (Dt (Cb l))]
 ents:Arr w [] a (l.flatMap AU)
 cap:l.length≤c
 addr:a=none∨ ∃g,a=some ⟨g,0,none⟩
theorem Fg.old{w w':World}{H:AH}(hS:St w [] H w'){tb:Nat}{l:List AF}{a:Option Addr}{c nb:Nat}(h:Fg w tb l a c nb):Fg w' tb l a c nb:=⟨hS.arrOld h.cells,hS.arrOld h.ents,h.cap,h.addr⟩
theorem yQ{k:AE}{s:Int}{l:List AF}(hr:Az l){i:Nat}(h:i<l.length):EV l[i] k s=decide (i<(CY k s l).length):=by
 have e:=GG k s l;by_cases hi:i<(CY k s l).length
 ·rw[decide_eq_true hi];have:l[i]=(CY k s l)[i]:=by
   have h2:i<(CY k s l++Bp k s l).length:=by rw[e];exact h
   have h3:(CY k s l++Bp k s l)[i]=l[i]:=by congr 1
   rw[←h3,List.getElem_append_left hi]
  rw[this];exact NS k s l _ (CW hi)
 ·rw[decide_eq_false hi];have h2:i<(CY k s l++Bp k s l).length:=by rw[e];exact h
  have h3:(CY k s l++Bp k s l)[i]=l[i]:=by congr 1
  refine Ky hr _ ?_;rw[←h3,List.getElem_append_right AA];exact CW _
theorem SJ(k:AE)(s:Int)(l:List AF):(CY k s l).length≤l.length:=by
 have:=congrArg List.length (GG k s l);rw[AP]at this;omega
def Rh(b3 b4 b5:Nat):Value:= .func (.func VD) ⟨[]⟩ ⟨[ptr b3,ptr b4,ptr b5]⟩
theorem vY{w:World}{tb b3 b4 b5:Nat}{l:List AF}{a:Option Addr}{c nb:Nat}{k:AE}{s:Int}(hT:Fg w tb l a c nb)(h3:w.cell? ⟨b3,0,none⟩=some (ptr tb))(h4:w.cell? ⟨b4,0,none⟩=some (AG k))(h5:w.cell? ⟨b5,0,none⟩=some (.int .i64 s)){i:Nat}(hi:i<l.length)(hl:l.length≤1099511627776):
  Cl Tryz.prog VD [.int .i64 i,ptr b3,ptr b4,ptr b5] w λv w'=>v= .bool (!EV l[i] k s)∧St w [] [] w':=by
 have hS:=St.start w;obtain⟨g,off,rfl,hx⟩:=FL hT.ents hi;have hc2:=hT.cells 2 _ rfl;obtain⟨g2,o2,e2, -,hc2⟩:=hc2;simp only[Option.some.injEq,Addr.mk.injEq,and_true]at e2;obtain⟨rfl,rfl⟩:=e2;generalize l[i]=u at hx;refine j8 rfl ?_;unfold EV;refine jq ⟨?_⟩;refine hS.ldOld AB h3 ?_;refine jq ⟨?_⟩;refine hS.ldOld AB (by simpa using hc2) ?_;refine jq ⟨?_⟩;refine IP (cs:=[AG u.k,.int .i64 u.s,.bool u.d,AG u.v]) rfl (λj x hj=>hS.oldCell AB (by have:=hx j x hj;rw[show off+((i:Int)).toNat*4+j=off+i*4+j by omega];exact this)) ?_
 refine jq ⟨?_⟩;refine hS.al ?_;intro b6 w2 _ hS;(repeat(refine jt ⟨?_⟩;refine hS.q ?_;intro _ hS));refine jt ⟨?_⟩;refine hS.ldOld AB h4 ?_;cases hB:(Op.bytesLess u.k k||decide (u.k=k))with
 |false=>
  have h6:(Op.bytesLess u.k k||decide (u.k=k)&&decide (s<u.s))=false:=by
   rw[Bool.or_eq_false_iff]at hB⊢;exact⟨hB.1,by rw[hB.2];rfl⟩
  rw[h6];(repeat(refine jt ⟨?_⟩;refine hS.q ?_;intro _ hS));refine jt ⟨?_⟩;repeat(refine Ax.eqf hB ?_;(repeat(refine jt ⟨?_⟩;refine hS.q ?_;intro _ hS));refine jt ⟨?_⟩)
  exact⟨rfl,hS.nil⟩
 |true=>
  (repeat(refine jt ⟨?_⟩;refine hS.q ?_;intro _ hS));refine jt ⟨?_⟩;repeat(refine Ax.eqt hB ?_;(repeat(refine jt ⟨?_⟩;refine hS.q ?_;intro _ hS));refine jt ⟨?_⟩)
  refine hS.ldOld AB h4 ?_;by_cases hk:u.k=k
  ·(repeat(refine jt ⟨?_⟩;refine hS.q ?_;intro _ hS));refine jt ⟨?_⟩;refine hS.ldOld AB h5 ?_;(repeat(refine jt ⟨?_⟩;refine hS.q ?_;intro _ hS));refine jt ⟨?_⟩;have h7:Op.bytesLess u.k k=false:=by rw[hk];exact F4 k
   refine⟨?_,hS.nil⟩;rw[h7,decide_eq_true hk];by_cases hs:u.s≤s
   ·simp[hs,Int.not_lt.2 hs]
   ·simp[hs,Int.not_le.1 hs]
  ·(repeat(refine jt ⟨?_⟩;refine hS.q ?_;intro _ hS));refine jt ⟨?_⟩;have h7:Op.bytesLess u.k k=true:=by simpa[hk]using hB
   exact⟨by simp[h7],hS.nil⟩
theorem aA{w:World}{tb b3 b4 b5:Nat}{l:List AF}{a:Option Addr}{c nb:Nat}{k:AE}{s:Int}(hT:Fg w tb l a c nb)(hr:Az l)(h3:w.cell? ⟨b3,0,none⟩=some (ptr tb))(h4:w.cell? ⟨b4,0,none⟩=some (AG k))(h5:w.cell? ⟨b5,0,none⟩=some (.int .i64 s))(hl:l.length≤1099511627776):
  Cl Tryz.prog o6 [.int .i64 l.length,Rh b3 b4 b5] w λv w'=>v= .int .i64 (CY k s l).length∧St w [] [] w':=by
 have hS:=St.start w;have hle:=SJ k s l;refine iA rfl ?_;refine jq ⟨?_⟩;refine AM.loop (λi:Nat×Nat=>[(1,Rh b3 b4 b5),(5,.int .i64 i.1),(6,.int .i64 i.2)])
  (λi w'=>(i.1≤(CY k s l).length∧(CY k s l).length≤i.2∧i.2≤l.length)∧St w [] [] w') (λi=>i.2-i.1) (0,l.length)
  ⟨rfl,rfl,rfl,trivial⟩ ⟨⟨Ag _,hle,AW _⟩,hS⟩ ?_
 clear hS;rintro⟨i,j⟩w1⟨⟨h1,h2,h6⟩,hS⟩;simp only at h1 h2 h6 hS⊢;by_cases hij:i<j
 ·have hm:(i+j) / 2<l.length:=AA;have hg:=yQ (k:=k) (s:=s) hr hm;have hf:=λw'(hS':St w [] [] w')=>vY (w:=w') (i:=(i+j) / 2) (hT.old hS') (hS'.oldCell AB h3) (hS'.oldCell AB h4) (hS'.oldCell AB h5) hm hl;rw[hg]at hf;have hdv:((i:Int)+(j:Int)).fdiv (2 ^ (min (1:Int).toNat IntKind.u64.bits))=(((i+j) / 2:Nat):Int):=by
   rw[show(i:Int)+(j:Int)=((i+j:Nat):Int) by simp,show min (1:Int).toNat IntKind.u64.bits=1 from rfl,Io]
  unfold Rh;refine jq ⟨?_⟩;rw[hdv];generalize hq:(i+j) / 2=q at hf hm;refine jq ⟨?_⟩;refine(hf _ hS).mono ?_;rintro _ w2⟨rfl,hS'⟩;have hS:=hS.call0 hS';by_cases hqm:q<(CY k s l).length
  ·refine jq ⟨?_⟩;exact⟨(q+1,j),⟨rfl,rfl,rfl,trivial⟩,⟨⟨hqm,h2,h6⟩,hS⟩,by simp only;omega⟩
  ·refine jq ⟨?_⟩;exact⟨(i,q),⟨rfl,rfl,rfl,trivial⟩,⟨⟨h1,by simp only;omega,by simp only;omega⟩,hS⟩,by simp only;omega⟩
 ·refine jq ⟨?_⟩;exact⟨by rw[show i=(CY k s l).length by omega],hS⟩
theorem Zk{w:World}{tb:Nat}{l:List AF}{a:Option Addr}{c nb:Nat}{k:AE}(hT:Fg w tb l a c nb)(hk:k.length≤1099511627776)(hb:(Dt (Cb l)).length≤1099511627776):
  Cl Tryz.prog pY [ptr tb,AG k] w λv w'=>v= .bool (IT (Dt (Cb l)) k)∧St w [] [] w':=by
 have hS:=St.start w;obtain⟨g2,o2,e2, -,hc2⟩:=hT.cells 3 _ rfl;simp only[Option.some.injEq,Addr.mk.injEq,and_true]at e2;obtain⟨rfl,rfl⟩:=e2;refine j6 rfl ?_;refine jq ⟨?_⟩;refine hS.ldOld AB (by simpa using hc2) ?_;refine jq ⟨?_⟩;refine(Zl _ k hb hk _).mono ?_;rintro _ w1⟨rfl,hS'⟩;have hS:=hS.call0 hS';refine jq ⟨?_⟩;exact⟨rfl,hS⟩
theorem XR{w:World}{tb:Nat}{l:List AF}{a:Option Addr}{c nb:Nat}{k:AE}{s:Int}(hT:Fg w tb l a c nb)(hr:Az l)(hl:l.length≤1099511627776):
  Cl Tryz.prog pZ [ptr tb,AG k,.int .i64 s] w λv w'=>v= .int .i64 (CY k s l).length∧St w [] [] w':=by
 have hS:=St.start w;obtain⟨g2,o2,e2, -,hc2⟩:=hT.cells 2 _ rfl;simp only[Option.some.injEq,Addr.mk.injEq,and_true]at e2;obtain⟨rfl,rfl⟩:=e2;refine j7 rfl ?_;refine jq ⟨?_⟩;refine hS.al ?_;intro b3 w1 _ hS;refine jq ⟨?_⟩;refine hS.al ?_;intro b4 w2 _ hS;refine jq ⟨?_⟩;refine hS.al ?_;intro b5 w3 _ hS;(repeat(refine jt ⟨?_⟩;refine hS.q ?_;intro _ hS));refine jt ⟨?_⟩;refine hS.ldOld AB (by simpa using hc2) ?_
 refine jq ⟨?_⟩;refine Bm.of rfl ?_;refine jq ⟨?_⟩;refine(aA (b3:=b3) (b4:=b4) (b5:=b5) (w:=w3) ⟨hS.arrOld hT.cells,hS.arrOld hT.ents,hT.cap,hT.addr⟩ hr (hS.cell (b:=b3) rfl) (hS.cell (b:=b4) rfl) (hS.cell (b:=b5) rfl) hl).mono ?_;rintro _ w4⟨rfl,hS'⟩;have hS:=hS.call0 hS';refine jq ⟨?_⟩;exact⟨rfl,hS.nil⟩
end Go.Proofs.YtkgibdhpijdbfaaGreatDoor
