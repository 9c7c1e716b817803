/- Texts of this claim, one behind the other. -/
import Derived.Test.YtkgibdhpijdbfaaGreatDoorZ10
import Derived.Test.YtkgibdhpijdbfaaGreatDoorZ6
import Derived.Test.YtkgibdhpijdbfaaGreatDoorZ11
set_option linter.unusedVariables false
set_option linter.unusedSimpArgs false
set_option maxHeartbeats 16000000
namespace Go.Proofs.YtkgibdhpijdbfaaGreatDoor
open Go Go.Eng Go.Proofs Go.Srt
structure Zx where
 bs:List (List Af)
 R:List Af
structure Zz where
 l:List Af
 n:Nat
set_option maxRecDepth 4000 in
theorem xZ{fc:FuncId}{cm:Af→Af→Int}(hO:Ord λx y=>decide (cm x y<0))(hcm: ∀(x y:Af)(w:World),Cl Tryz.prog fc [Fo x,Fo y] w λv w'=>v= .int .i64 (cm x y)∧St w [] [] w'){w:World}{g cap len:Nat}{l:List Af}{tail:List Value}(hh:Holds [(g,.cells ⟨l.flatMap Ad++tail⟩ BE (0,0))] w)(hlL:l.length=len)(hlen:len≤16777216):
  Cl Tryz.prog U2 [.slice (some ⟨g,0,none⟩) len cap,.int .i64 len,.func (.func fc) ⟨[]⟩ ⟨[]⟩] w λ_ w'=>∃l',l'.Perm l∧Srt (λx y=>decide (cm x y<0)) l'∧St w [g] [(g,.cells ⟨l'.flatMap Ad++tail⟩ BE (0,0))] w':=by
 have hS:St w [g] [(g,.cells ⟨l.flatMap Ad++tail⟩ BE (0,0))] w:=St.enter hh;refine Uh rfl ?_;refine jq ⟨?_⟩;refine AL.loop (λx:Zx=>[(0,.slice (some ⟨g,0,none⟩) len cap),(1,.int .i64 len),(2,.func (.func fc) ⟨[]⟩ ⟨[]⟩),(6,.int .i64 20),(7,.int .i64 x.bs.flatten.length),(8,.int .i64 (x.bs.flatten.length+20))])
  (λx w'=>((x.bs.flatten++x.R).Perm l∧GL (λx y=>decide (cm x y<0)) 20 x.bs)∧St w [g] [(g,.cells ⟨(x.bs.flatten++x.R).flatMap Ad++tail⟩ BE (0,0))] w') (λx=>x.R.length) ⟨[],l⟩
  ⟨rfl,rfl,rfl,rfl,rfl,rfl,trivial⟩ ⟨⟨List.Perm.refl _,nofun⟩,hS⟩ ?_
 clear hS;rintro⟨bs,R⟩w1⟨⟨hp,hf⟩,hS⟩;simp only at hp hf hS⊢;have hpl:=hp.length_eq;rw[AP]at hpl;generalize hbl:bs.flatten.length=q at hpl⊢;by_cases hle:20≤R.length
 ·obtain⟨X,R',rfl,hX⟩: ∃X R',R=X++R'∧X.length=20:=⟨R.take 20,R.drop 20,(CO _ _).symm,by rw[BR];omega⟩;rw[AP]at hpl;refine jq ⟨?_⟩;refine(V0 hO hcm hS.holds (P:=bs.flatten) (M:=X) (S:=R') (by simp only[Aj]) (hp.length_eq.trans hlL) hlen AA AA).mono ?_;rintro _ w2⟨X',p1,s1,hS'⟩;have hS:=hS.call1 hS';have e1:(bs++[X']).flatten=bs.flatten++X':=AB;have hXl:=p1.length_eq;have e2:(bs++[X']).flatten.length=q+20:=by rw[e1,AP];omega
  refine jq ⟨?_⟩;refine⟨⟨bs++[X'],R'⟩,⟨rfl,rfl,rfl,rfl,by show _=Value.int .i64 _;congr 1;simp only;omega,by show _=Value.int .i64 _;congr 1;simp only;omega,trivial⟩,⟨⟨?_,hf.snoc AA s1⟩,?_⟩,by simp only[AP];omega⟩
  ·simp only[e1];refine List.Perm.trans ?_ hp;rw[Aj];exact(p1.append_right R').append_left _
  ·simp only[e1];exact hS
 ·refine jq ⟨?_⟩;refine(V0 hO hcm hS.holds (P:=bs.flatten) (M:=R) (S:=[]) (by rw[BU]) (hp.length_eq.trans hlL) hlen AA AA).mono ?_;rintro _ w2⟨R1,p1,s1,hS'⟩;have hS:=hS.call1 hS';rw[BU]at hS;have hRl:=p1.length_eq;have hp1:(bs.flatten++R1).Perm l:=(p1.append_left _).trans hp;have hc:KW (λx y=>decide (cm x y<0)) 20 (bs.flatten++R1):=⟨bs,R1,rfl,hf,AA,s1⟩;generalize bs.flatten++R1=l1 at hS hc hp1;clear hRl p1 s1 hpl hbl hf hp hle
  refine jq ⟨?_⟩;refine AL.loop (λx:Zz=>[(0,.slice (some ⟨g,0,none⟩) len cap),(1,.int .i64 len),(2,.func (.func fc) ⟨[]⟩ ⟨[]⟩),(6,.int .i64 x.n)])
   (λx w'=>(x.l.Perm l∧KW (λx y=>decide (cm x y<0)) x.n x.l∧1≤x.n)∧St w [g] [(g,.cells ⟨x.l.flatMap Ad++tail⟩ BE (0,0))] w') (λx=>len-x.n) ⟨l1,20⟩
   ⟨rfl,rfl,rfl,rfl,trivial⟩ ⟨⟨hp1,hc,by simp only;omega⟩,hS⟩ ?_
  clear hS hp1 hc;rintro⟨l2,n⟩w3⟨⟨hp,hc,hn⟩,hS⟩;simp only at hp hc hn hS⊢;have hpl:=hp.length_eq;by_cases hnl:n<len
  ·obtain⟨MV,r,rfl,hf0,hr,hsr⟩:=hc;refine jq ⟨?_⟩;refine AL.loop (λx:List (List Af)×List (List Af)=>[(0,.slice (some ⟨g,0,none⟩) len cap),(1,.int .i64 len),(2,.func (.func fc) ⟨[]⟩ ⟨[]⟩),(6,.int .i64 n),(7,.int .i64 x.1.flatten.length),(8,.int .i64 (x.1.flatten.length+2*n))])
    (λx w'=>((x.1.flatten++x.2.flatten++r).Perm l∧GL (λx y=>decide (cm x y<0)) (2*n) x.1∧GL (λx y=>decide (cm x y<0)) n x.2)∧St w [g] [(g,.cells ⟨(x.1.flatten++x.2.flatten++r).flatMap Ad++tail⟩ BE (0,0))] w') (λx=>x.2.length) ([],MV)
    ⟨rfl,rfl,rfl,rfl,rfl,by show _=Value.int .i64 _;congr 1;simp only[Gm,Bo];omega,trivial⟩ ⟨⟨hp,nofun,hf0⟩,hS⟩ ?_
   clear hS hf0 hp;rintro⟨b1,b2⟩w4⟨⟨hp,hf1,hf2⟩,hS⟩;simp only at hp hf1 hf2 hS⊢;have hpl2:=hp.length_eq;rw[AP,AP]at hpl2;have hlL4:=hp.length_eq.trans hlL;generalize hbl:b1.flatten.length=q at hpl2⊢
   match b2,hf2,hpl2,hp,hS,hlL4 with
   |x::y::rest,hf2,hpl2,hp,hS,hlL4=>
    have hx:=hf2.hd;have hy:=hf2.tl.hd;have hxy:(x::y::rest).flatten=x++(y++rest.flatten):=AB;rw[hxy]at hS hp hpl2 hlL4;rw[AP,AP]at hpl2;refine jq ⟨?_⟩;refine(Wc hO hcm hlen _ hS.holds (P:=b1.flatten) (A:=x) (B:=y) (S:=rest.flatten++r) (by simp only[Aj]) hlL4 AA AA AA hx.2 hy.2 AA AA (AV _)).mono ?_;rintro _ w5⟨M,p1,s1,hS'⟩;have hS:=hS.call1 hS';have e1:(b1++[M]).flatten=b1.flatten++M:=AB;have hMl:=p1.length_eq
    rw[AP]at hMl;have e2:(b1++[M]).flatten.length=q+2*n:=by rw[e1,AP];omega
    refine jq ⟨?_⟩;refine⟨(b1++[M],rest),⟨rfl,rfl,rfl,rfl,by show _=Value.int .i64 _;congr 1;simp only;omega,by show _=Value.int .i64 _;congr 1;simp only;omega,trivial⟩,⟨⟨?_,hf1.snoc AA s1,hf2.tl.tl⟩,?_⟩,by simp only[Ai];omega⟩
    ·simp only[e1];refine List.Perm.trans ?_ hp;rw[Aj,Aj,Aj b1.flatten];refine List.Perm.append_left _ ?_;refine(p1.append_right _).trans (List.Perm.of_eq ?_);simp only[Aj]
    ·simp only[e1];rw[Aj (b1.flatten++M)];exact hS
   |[x],hf2,hpl2,hp,hS,hlL4=>
    have hx:=hf2.hd;have hxy:[x].flatten=x:=AB;rw[hxy]at hS hp hpl2 hlL4;by_cases hr0:0<r.length
    ·refine jq ⟨?_⟩;refine(Wc hO hcm hlen _ hS.holds (P:=b1.flatten) (A:=x) (B:=r) (S:=[]) (by rw[BU]) hlL4 AA AA AA hx.2 hsr AA AA (AV _)).mono ?_;rintro _ w5⟨M,p1,s1,hS'⟩;have hS:=hS.call1 hS';rw[BU]at hS;have hMl:=p1.length_eq;rw[AP]at hMl;refine jq ⟨?_⟩;refine⟨⟨b1.flatten++M,n*2⟩,⟨rfl,rfl,rfl,rfl,trivial⟩,⟨⟨?_,⟨b1,M,rfl,by rw[HM];exact hf1,by simp only;omega,s1⟩,by simp only;omega⟩,hS⟩,by simp only;omega⟩
     refine List.Perm.trans ?_ hp;rw[Aj];exact p1.append_left _
    ·refine jq ⟨?_⟩;have hr1:r=[]:=Ho.1 AA;rw[hr1,BU]at hS hp;refine⟨⟨b1.flatten++x,n*2⟩,⟨rfl,rfl,rfl,rfl,trivial⟩,⟨⟨hp,⟨b1,x,rfl,by rw[HM];exact hf1,by simp only;omega,hx.2⟩,by simp only;omega⟩,hS⟩,by simp only;omega⟩
   |[],hf2,hpl2,hp,hS,hlL4=>
    rw[Gm,BU]at hS hp hlL4;rw[Gm,Bo]at hpl2;refine jq ⟨?_⟩;refine⟨⟨b1.flatten++r,n*2⟩,⟨rfl,rfl,rfl,rfl,trivial⟩,⟨⟨hp,⟨b1,r,rfl,by rw[HM];exact hf1,by simp only;omega,hsr⟩,by simp only;omega⟩,hS⟩,by simp only;omega⟩
  ·refine jq ⟨?_⟩;refine⟨l2,hp,hc.all AA,hS⟩
theorem xS{fc:FuncId}{cm:Af→Af→Int}(hO:Ord λx y=>decide (cm x y<0))(hcm: ∀(x y:Af)(w:World),Cl Tryz.prog fc [Fo x,Fo y] w λv w'=>v= .int .i64 (cm x y)∧St w [] [] w'){w:World}{g cap len:Nat}{l:List Af}{tail:List Value}(hh:Holds [(g,.cells ⟨l.flatMap Ad++tail⟩ BE (0,0))] w)(hlL:l.length=len)(hlen:len≤16777216):
  Cl Tryz.prog Ux [.slice (some ⟨g,0,none⟩) len cap,.func (.func fc) ⟨[]⟩ ⟨[]⟩] w λ_ w'=>∃l',l'.Perm l∧Srt (λx y=>decide (cm x y<0)) l'∧St w [g] [(g,.cells ⟨l'.flatMap Ad++tail⟩ BE (0,0))] w':=by
 refine Ud rfl ?_;refine jq ⟨?_⟩;refine(xZ hO hcm hh hlL hlen).mono ?_;intro _ w' h;refine jq ⟨?_⟩;exact h
theorem sJ{w:World}{F:Value}:Cl Tryz.prog Uz [.slice none 0 0,.int .i64 0,.int .i64 0,F] w λ_ w'=>St w [] [] w':=by
 have hS:=St.start w;refine Uf rfl ?_;refine jq ⟨?_⟩;refine AL.loop (λ_:Unit=>[(2,.int .i64 0),(8,.int .i64 1)]) (λ_ w'=>St w [] [] w') (λ_=>0) () ⟨rfl,rfl,trivial⟩ hS ?_;clear hS;intro _ w1 hS;refine jq ⟨?_⟩;exact hS
theorem xX{w:World}{F:Value}:Cl Tryz.prog U2 [.slice none 0 0,.int .i64 0,F] w λ_ w'=>St w [] [] w':=by
 have hS:=St.start w;refine Uh rfl ?_;refine jq ⟨?_⟩;refine AL.loop (λ_:Unit=>[(0,.slice none 0 0),(1,.int .i64 0),(2,F),(6,.int .i64 20),(7,.int .i64 0),(8,.int .i64 20)]) (λ_ w'=>St w [] [] w') (λ_=>0) () ⟨rfl,rfl,rfl,rfl,rfl,rfl,trivial⟩ hS ?_;clear hS;intro _ w1 hS;refine jq ⟨?_⟩;refine sJ.mono ?_;intro _ w2 hS';have hS:=hS.call0 hS';refine jq ⟨?_⟩;refine AL.loop (λ_:Unit=>[(1,.int .i64 0),(6,.int .i64 20)]) (λ_ w'=>St w [] [] w') (λ_=>0) () ⟨rfl,rfl,trivial⟩ hS ?_
 clear hS;intro _ w3 hS;refine jq ⟨?_⟩;exact hS
theorem xQ{w:World}{F:Value}:Cl Tryz.prog Ux [.slice none 0 0,F] w λ_ w'=>St w [] [] w':=by
 refine Ud rfl ?_;refine jq ⟨?_⟩;refine xX.mono ?_;intro _ w' h;refine jq ⟨?_⟩;exact h
def Nw(a b:Af):Int:=if F6 a.1 b.1=0 then F6 a.2 b.2 else F6 a.1 b.1
def GA(a b:Af):Bool:=decide (Nw a b<0)
theorem WY(a b:Af):GA a b=true↔a.1<b.1∨(a.1=b.1∧a.2<b.2):=by
 unfold GA Nw F6;rw[decide_eq_true_iff]
 repeat' split
 all_goals omega
theorem RM(a b:Af):GA a b=false↔b.1<a.1∨(a.1=b.1∧b.2≤a.2):=by
 have:=WY a b;cases h:GA a b with
 |true=>rw[h]at this;have:=this.1 rfl;simp;omega
 |false=>rw[h]at this;simp at this⊢;omega
theorem XE:Ord GA:=by
 constructor
 ·intro x y h;rw[WY]at h;rw[RM];omega
 ·intro x y z h1 h2;rw[RM]at*;omega
theorem aY(x y:Af)(h1:GA x y=false)(h2:GA y x=false):x=y:=by
 rw[RM]at h1 h2;exact Prod.ext AA AA
def Di(l:List Af):List Af:=l.foldl (JS GA) []
theorem YF(l acc:List Af)(h:Srt GA acc):Srt GA (l.foldl (JS GA) acc)∧(l.foldl (JS GA) acc).Perm (acc++l):=by
 induction l generalizing acc with
 |nil=>exact⟨h,AB⟩
 |cons x l ih=>
  obtain⟨h1,h2⟩:=ih (JS GA acc x) (sH XE h x);refine⟨h1,h2.trans ?_⟩;refine((sG (lt:=GA) acc x).append_right l).trans ?_;rw[D3];exact Dd.symm
theorem YG(l:List Af):Srt GA (Di l):=(YF l [] Srt.nil).1
theorem I8(l:List Af):(Di l).Perm l:=by have:=(YF l [] Srt.nil).2;rwa[CU]at this
theorem LS(l:List Af):(Di l).length=l.length:=(I8 l).length_eq
theorem YE{l m:List Af}(h1:m.Perm l)(h2:Srt GA m):m=Di l:=YJ aY h2 (YG l) (h1.trans (I8 l).symm)
theorem SA{l m:List Af}(h:m.Perm l):Di m=Di l:=YE ((I8 m).trans h) (YG m)
theorem xO(l:List Af):Di (Di l)=Di l:=SA (I8 l)
def Dx(l:List Af)(n:Int):Bool:=l.any λf=>f.2==n
theorem Vu{l m:List Af}(h:l.Perm m)(n:Int):Dx l n=Dx m n:=by
 unfold Dx;rw[Bool.eq_iff_iff,List.any_eq_true,List.any_eq_true];exact⟨λ⟨x,h1,h2⟩=>⟨x,h.mem_iff.1 h1,h2⟩,λ⟨x,h1,h2⟩=>⟨x,h.mem_iff.2 h1,h2⟩⟩
structure VM where
 files:List Af
 wal:Int
 next:Int
 seq:Int
structure EM where
 add:List Af
 del:List Int
 wal:Int
 next:Int
 seq:Int
def HS(f:Af):Bool:= !(decide (f.2<1)||decide (f.1<0)||decide (1<f.1))
def LD(n:Int):Bool:= !decide (n<1)
def DA(e:EM):Bool:=e.add.all HS&&e.del.all LD&&decide (0≤e.wal∧0≤e.next∧0≤e.seq)
def Gk(e:EM)(fs:List Af):Bool:=e.del.all λn=>decide (e.del.count n=1)&&Dx fs n
def EJ(next:Int):List Af→List Af→Option (List Af)
 |fs,[]=>some fs
 |fs,f::r=>if next≤f.2∨Dx fs f.2=true then none else EJ next (fs++[f]) r
def Ei(e:EM)(fs:List Af):List Af:=fs.filter λf=> !e.del.contains f.2
def GG(v:VM)(e:EM):Bool:=DA e&&decide (v.next≤e.next)&&decide (v.seq≤e.seq)
def BQ(v:VM)(e:EM):Option VM:=
 if GG v e&&Gk e v.files then(EJ e.next (Ei e v.files) e.add).map λfs=>⟨Di fs,e.wal,e.next,e.seq⟩else none
def Il:VM→List EM→Option VM
 |v,[]=>some v
 |v,e::r=>match BQ v e with
  |none=>none
  |some v'=>Il v' r
def FX(v:VM):VM:={v with files:=Di v.files}
theorem Tf(next:Int): ∀(r fs gs:List Af),fs.Perm gs→(EJ next fs r=none∧EJ next gs r=none)∨ ∃a b,EJ next fs r=some a∧EJ next gs r=some b∧a.Perm b
 |[],fs,gs,h=> .inr ⟨fs,gs,rfl,rfl,h⟩
 |f::r,fs,gs,h=>by
  unfold EJ;rw[Vu h];by_cases hc:next≤f.2∨Dx gs f.2=true
  ·rw[if_pos hc,if_pos hc];exact .inl ⟨rfl,rfl⟩
  ·rw[if_neg hc,if_neg hc];exact Tf next r _ _ (h.append_right [f])
theorem bA(v:VM)(e:EM):BQ (FX v) e=BQ v e:=by
 unfold BQ;have h1:Gk e (FX v).files=Gk e v.files:=by
  unfold Gk;simp only[FX,Vu (I8 v.files)]
 have h2:GG (FX v) e=GG v e:=rfl;rw[h1,h2]
 split
 ·have h3:(Ei e (FX v).files).Perm (Ei e v.files):=(I8 v.files).filter _;rcases Tf e.next e.add _ _ h3 with⟨e1,e2⟩|⟨a,b,e1,e2,hp⟩
  ·rw[e1,e2]
  ·rw[e1,e2];simp only[kD];rw[SA hp]
 ·rfl
theorem Te(next:Int): ∀(r fs a:List Af),EJ next fs r=some a→a.length=fs.length+r.length
 |[],fs,a,h=>by cases h;rfl
 |f::r,fs,a,h=>by
  unfold EJ at h
  split at h
  ·cases h
  ·have:=Te next r _ _ h
   rw[AP,D4]at this;rw[Ai];omega
theorem Nq{v v':VM}{e:EM}(h:BQ v e=some v'):v'.files.length≤v.files.length+e.add.length:=by
 unfold BQ at h
 split at h
 ·cases ha:EJ e.next (Ei e v.files) e.add with
  |none=>rw[ha]at h;cases h
  |some a=>
   rw[ha]at h;simp only[kD,Option.some.injEq]at h;subst h;have:=Te _ _ _ _ ha;have h2:(Ei e v.files).length≤v.files.length:=List.length_filter_le _ _;simp only[LS];omega
 ·cases h
theorem bB{v v':VM}{e:EM}(h:BQ v e=some v'):FX v'=v':=by
 unfold BQ at h
 split at h
 ·cases ha:EJ e.next (Ei e v.files) e.add with
  |none=>rw[ha]at h;cases h
  |some a=>
   rw[ha]at h;simp only[kD,Option.some.injEq]at h;subst h;simp only[FX,xO]
 ·cases h
def Ic(kvs:List (Int×Int))(l:List Int):Prop:=∀n,(Al n kvs).getD 0=(l.count n:Int)
theorem Ic.nil:Ic [] []:=λ_=>rfl
theorem Ic.step{kvs:List (Int×Int)}{l:List Int}(h:Ic kvs l)(n:Int):Ic (Ba n ((Al n kvs).getD 0+1) kvs) (l++[n]):=by
 intro m;rw[G6,Hp];by_cases hm:n=m
 ·subst hm;rw[if_pos rfl,FD,h n];simp
 ·rw[if_neg (Ne.symm hm),h m,List.count_singleton];simp[hm]
theorem Vt(fs:List Af)(n:Int):((fs.map (·.2)).count n=0)↔Dx fs n=false:=by
 rw[List.count_eq_zero];unfold Dx;rw[List.any_eq_false];simp only[BV,not_exists,not_and,beq_iff_eq]
theorem cX{e:EM}{fs:List Af}(h1:e.del.Nodup)(h2: ∀n∈e.del,Dx fs n=true):Gk e fs=true:=by
 unfold Gk;rw[C8];intro n hn;rw[Bool.and_eq_true,decide_eq_true_iff];exact⟨by rw[h1.count,if_pos hn],h2 n hn⟩
theorem cV{e:EM}{fs:List Af}{n:Int}(hn:n∈e.del)(hc:1<e.del.count n):Gk e fs=false:=by
 unfold Gk;rw[List.all_eq_false];exact⟨n,hn,by simp;omega⟩
theorem cW{e:EM}{fs:List Af}{n:Int}(hn:n∈e.del)(hc:Dx fs n=false):Gk e fs=false:=by
 unfold Gk;rw[List.all_eq_false];exact⟨n,hn,by simp[hc]⟩
theorem cM(l:List Int)(k:Nat)(n:Int):(l.take k).count n≤l.count n:=(List.take_sublist k l).count_le n
theorem uU{l:List Int}{n:Int}(h:l.Nodup)(hc:(l++[n]).count n≤1):(l++[n]).Nodup:=by
 rw[Hp,List.count_singleton]at hc;simp only[beq_self_eq_true,if_true]at hc;rw[FU];refine⟨h,AB,λa ha b hb=>?_⟩;rw[Cm]at hb;subst hb;intro hab;subst hab;have:=List.count_pos_iff.2 ha;omega
theorem sU(e:EM)(l:List Af)(f:Af):Ei e (l++[f])=if e.del.count f.2=0 then Ei e l++[f]else Ei e l:=by
 unfold Ei;rw[J3];by_cases h:f.2∈e.del
 ·have:e.del.count f.2≠0:=by have:=List.count_pos_iff.2 h;omega
  rw[if_neg this];simp[h]
 ·rw[if_pos (List.count_eq_zero.2 h)];simp[h]
def Hg(es:List EM):Nat:=(es.map λe=>e.add.length).sum
theorem cA(x y:Af)(w:World):Cl Tryz.prog nB [Fo x,Fo y] w λv w'=>v= .int .i64 (Nw x y)∧St w [] [] w':=by
 have hS:=St.start w;unfold Fo Ad;refine fB rfl ?_;refine jq ⟨?_⟩;refine hS.al ?_;intro b2 w2 _ hS;refine jq ⟨?_⟩;refine hS.al ?_;intro b3 w3 _ hS;refine jq ⟨?_⟩;refine AL.draw AK mixed (λw'=>St w [] [(b3,.cells ⟨[.int .i64 y.1,.int .i64 y.2]⟩ BE (0,0)),(b2,.cells ⟨[.int .i64 x.1,.int .i64 x.2]⟩ BE (0,0))] w') [11,12] [0,1,2,3,5,6,7,8,4,9,10,11,12] AD hS.drew ?_;have hS:=hS.drew;generalize w3.drew=w4 at hS
 refine jr ⟨?_⟩;refine Nx.mono ?_;rintro _ _⟨rfl,rfl⟩;refine Ae.mk hS ?_;refine jr ⟨?_⟩;refine Nx.mono ?_;rintro _ _⟨rfl,rfl⟩;refine Ae.mk hS ?_;refine jr ⟨?_⟩;refine hS.al ?_;intro g w5 _ hS;refine Ae.mk (hS.sub (AS _ _)) ?_;refine jr ⟨?_⟩;refine(Rh (hS.part (L:=[(g,.cells ⟨[.int .i64 (F6 x.1 y.1),.int .i64 (F6 x.2 y.2)]⟩ BP (0,0))]))).mono ?_;rintro _ w6⟨rfl,hS'⟩;have hS:=hS.call (L:=[(g,.cells ⟨[.int .i64 (F6 x.1 y.1),.int .i64 (F6 x.2 y.2)]⟩ BP (0,0))]) hS'
 refine jr ⟨?_⟩;refine jq ⟨?_⟩;exact⟨rfl,hS.nil⟩
structure Fe(w:World)(a:Option Addr)(cap:Nat)(l:List Af):Prop where
 arr:Arr w [] a (l.flatMap Ad)
 cap:l.length≤cap
theorem Fe.keep{w0 w:World}{H:AH}(hS:St w0 [] H w){a:Option Addr}{cap:Nat}{l:List Af}(h:Fe w0 a cap l):Fe w a cap l:=⟨hS.arrOld h.arr,h.cap⟩
theorem Fe.nil(w:World):Fe w none 0 []:=⟨Arr.nil _ _ _,AV _⟩
theorem G4(l:List Af):(l.flatMap Ad).length=l.length*2:=Kq (cv:=Ad) (sz:=2) (λ_=>rfl) l
theorem qT(l:List Af):(l.flatMap Ad).all Value.oneCell'=true:=by
 induction l with
 |nil=>rfl
 |cons p ps ih=>rw[FA,List.all_append,ih];rfl
theorem VQ(p q:List Af):(p++q).flatMap Ad=p.flatMap Ad++q.flatMap Ad:=Hn
theorem Fe.pos{w:World}{a:Option Addr}{cap:Nat}{l:List Af}(h:Fe w a cap l)(hl:0<l.length): ∃g off,a=some ⟨g,off,none⟩:=by
 have:=G4 l;obtain⟨g,off,hg, -, -⟩:=h.arr.get (j:=0) AA;exact⟨g,off,hg⟩
theorem Km{w0 w:World}{T:List Nat}{H L:AH}{F:AH→AH}(hS:St w0 T H w) [hc:Chunk H L F]{a:Option Addr}{n cap:Nat}{l:List Af}(hv:AT BE 2 a n cap (l.flatMap Ad) L):Fe w a cap l:=by
 have h1:=G4 l;have h2:=hv.len;exact⟨hv.arr hS AB,by have:=hv.cap;omega⟩
theorem Si{w:World}{a:Option Addr}{cap:Nat}{l:List Af}(ha:Fe w a cap l)(hlen:l.length≤16777216):
  Cl Tryz.prog oM [.slice a l.length cap] w λv w'=>∃a' c' L,v= .slice a' l.length c'∧AT BE 2 a' l.length c' (l.flatMap Ad) L∧St w [] L w':=by
 have hS:=St.start w;refine gO rfl ?_;rcases a with _|p
 ·have hl:l=[]:=by
   cases l with
   |nil=>rfl
   |cons x l=>obtain⟨g,off,h⟩:=ha.pos AB;cases h
  subst hl;refine jq ⟨?_⟩;refine Kk AK rfl rfl ?_;refine jq ⟨?_⟩;exact⟨_,_,[],rfl,AT.nil,hS⟩
 ·refine jq ⟨?_⟩;refine Kk AK rfl rfl ?_;refine jq ⟨?_⟩;refine hS.al ?_;intro r w1 _ hS;have hv:AT BE 2 (some ⟨r,0,none⟩) 0 0 [] [(r,.cells ⟨[]⟩ BE (0,0))]:=AT.row r 0 0 [] [] rfl rfl (AV _);refine jq ⟨?_⟩;refine St.app (sz:=2) (m:=l.length) AK rfl rfl rfl rfl hS hv (news:=l.flatMap Ad) (G4 l) (hS.arrOld ha.arr) (qT l) (by show(_+_)*16≤_;omega) AA ?_;intro a1 c1 L1 w2 hv hS;rw[CU,Cs]at hv;rw[Cs];refine jq ⟨?_⟩
  exact⟨a1,c1,L1,rfl,hv,hS⟩
theorem bZ:Ord λx y=>decide (Nw x y<0):=XE
theorem YH{w:World}{a:Option Addr}{cap:Nat}{l:List Af}(ha:Fe w a cap l)(hlen:l.length≤16777216):
  Cl Tryz.prog nA [.slice a l.length cap] w λv w'=>∃a' c' L,v= .slice a' (Di l).length c'∧AT BE 2 a' (Di l).length c' ((Di l).flatMap Ad) L∧St w [] L w':=by
 have hS:=St.start w;refine fA rfl ?_;refine jq ⟨?_⟩;refine(Si ha hlen).mono ?_;rintro _ w1⟨a1,c1,L,rfl,hv,hS'⟩;have hS:=hS';have hcl:=G4 l;rcases hv.inv with⟨rfl,hl0,rfl, -,rfl⟩|⟨g,tl,rfl, -,hc2,hc1,rfl⟩
 ·have hl:l=[]:=Ho.1 hl0;subst hl;refine jq ⟨?_⟩;refine xQ.mono ?_;intro _ w2 hS';have hS:=hS.call0 hS';refine jq ⟨?_⟩;exact⟨none,0,[],rfl,AT.nil,hS⟩
 ·refine jq ⟨?_⟩;refine(xS bZ cA hS.holds rfl hlen).mono ?_;rintro _ w2⟨l',hp,hs,hS'⟩;have hS:=hS.call1 hS';have hl':=YE hp hs;subst hl';have hv:AT BE 2 (some ⟨g,0,none⟩) (Di l).length c1 ((Di l).flatMap Ad) [(g,.cells ⟨(Di l).flatMap Ad++tl⟩ BE (0,0))]:=by
   exact AT.row g _ c1 _ tl (G4 _) (by rw[G4,LS];omega) (by rw[LS];exact hc1)
  rw[←LS l];refine jq ⟨?_⟩;exact⟨_,_,_,rfl,hv,hS⟩
structure Hc(w:World)(a b:Option Addr)(ca cb:Nat)(e:EM):Prop where
 add:Fe w a ca e.add
 del:Arr w [] b (e.del.map AY)
 dcap:e.del.length≤cb
 len:e.add.length+e.del.length≤16777216
 rng: -9223372036854775808≤e.wal∧e.wal≤9223372036854775807∧ -9223372036854775808≤e.next∧e.next≤9223372036854775807∧ -9223372036854775808≤e.seq∧e.seq≤9223372036854775807
theorem Hc.keep{w0 w:World}{H:AH}(hS:St w0 [] H w){a b:Option Addr}{ca cb:Nat}{e:EM}(h:Hc w0 a b ca cb e):Hc w a b ca cb e:=⟨h.add.keep hS,hS.arrOld h.del,h.dcap,h.len,h.rng⟩
def Dv(a b:Option Addr)(ca cb:Nat)(e:EM):List Value:=[.slice a e.add.length ca,.slice b e.del.length cb,.int .i64 e.wal,.int .i64 e.next,.int .i64 e.seq]
theorem Fe.at{w:World}{a:Option Addr}{cap:Nat}{l:List Af}(_h:Fe w a cap l){k:Nat}(hk:k<l.length):((l.flatMap Ad).drop (k*2)).take 2=Ad l[k]:=by
 have:=Mi (cv:=Ad) (sz:=2) (λ_=>rfl) l [] k hk;rwa[BU]at this
theorem Rx{w:World}{a b:Option Addr}{ca cb:Nat}{e:EM}(he:Hc w a b ca cb e):
  Cl Tryz.prog m8 [.agg ⟨Dv a b ca cb e⟩] w λv w'=>v= .bool (DA e)∧St w [] [] w':=by
 have hS:=St.start w;have hl:=he.len;have hcl:=G4 e.add;unfold Dv;refine eZ rfl ?_;refine jq ⟨?_⟩;refine hS.al ?_;intro b1 w1 _ hS;(repeat(refine jt ⟨?_⟩;refine hS.q ?_;intro _ hS));refine jt ⟨?_⟩;refine AL.loop (λk:Nat=>[(1,ptr b1),(8,.slice a e.add.length ca),(9,.int .i64 e.add.length),(10,.int .i64 k)])
  (λk w'=>(k≤e.add.length∧(e.add.take k).all HS=true)∧St w [] [(b1,.cells ⟨Dv a b ca cb e⟩ Bu (0,0))] w') (λk=>e.add.length-k) 0
  ⟨rfl,rfl,rfl,rfl,trivial⟩ ⟨⟨Ag _,rfl⟩,hS⟩ ?_
 clear hS;rintro k w2⟨⟨hk,hok⟩,hS⟩;by_cases hkl:k<e.add.length
 ·obtain⟨g,off,rfl⟩:=he.add.pos AA;have hat:=he.add.at hkl;have hsucc:=Bs hkl;have hmem:e.add[k]∈e.add:=Ca hkl;generalize e.add[k]=f at hat hsucc hmem;refine jq ⟨?_⟩;refine Arr.ldn hS he.add.arr rfl (k:=k*2) hat rfl ?_;unfold Ad;refine jq ⟨?_⟩;refine hS.al ?_;intro b4 w3 _ hS;by_cases hf:HS f=true
  ·have hf':=hf;simp only[HS,Bool.not_eq_true',Bool.or_eq_false_iff,decide_eq_false_iff_not]at hf';obtain⟨⟨h1,h2⟩,h3⟩:=hf';(repeat(refine jt ⟨?_⟩;refine hS.q ?_;intro _ hS));refine jt ⟨?_⟩;refine⟨k+1,⟨rfl,rfl,rfl,rfl,trivial⟩,⟨⟨AA,?_⟩,hS.sub (AS _ _)⟩,AA⟩;rw[hsucc,List.all_append,hok];simp[hf]
  ·have hr:DA e=false:=by
    have:e.add.all HS=false:=by
     rw[List.all_eq_false];exact⟨f,hmem,hf⟩
    simp[DA,this]
   have hf':f.2<1∨f.1<0∨1<f.1:=by
    simp only[HS,Bool.not_eq_true,Bool.not_eq_false',Bool.or_eq_true,decide_eq_true_iff]at hf;omega
   rw[hr];by_cases h1:f.2<1
   ·(repeat(refine jt ⟨?_⟩;refine hS.q ?_;intro _ hS));refine jt ⟨?_⟩;exact⟨rfl,hS.nil⟩
   ·by_cases h2:f.1<0
    ·(repeat(refine jt ⟨?_⟩;refine hS.q ?_;intro _ hS));refine jt ⟨?_⟩;exact⟨rfl,hS.nil⟩
    ·(repeat(refine jt ⟨?_⟩;refine hS.q ?_;intro _ hS));refine jt ⟨?_⟩;exact⟨rfl,hS.nil⟩
 ·have hke:k=e.add.length:=AA;rw[hke,Bz]at hok;unfold Dv at hS;(repeat(refine jt ⟨?_⟩;refine hS.q ?_;intro _ hS));refine jt ⟨?_⟩;refine AL.loop (λk:Nat=>[(1,ptr b1),(29,.slice b e.del.length cb),(30,.int .i64 e.del.length),(31,.int .i64 k)])
   (λk w'=>(k≤e.del.length∧(e.del.take k).all LD=true)∧St w [] [(b1,.cells ⟨Dv a b ca cb e⟩ Bu (0,0))] w') (λk=>e.del.length-k) 0
   ⟨rfl,rfl,rfl,rfl,trivial⟩ ⟨⟨Ag _,rfl⟩,hS⟩ ?_
  clear hS;rintro k w2⟨⟨hk,hok2⟩,hS⟩;by_cases hkl:k<e.del.length
  ·have hx:(e.del.map AY)[k]?=some (AY e.del[k]):=by rw[Ex,CB hkl];rfl
   obtain⟨g,off,rfl, -, -⟩:=he.del.get (j:=k) (by rw[BM];exact hkl);have hsucc:=Bs hkl;have hmem:e.del[k]∈e.del:=Ca hkl;generalize e.del[k]=n at hx hsucc hmem;by_cases hn:n<1
   ·have hr:DA e=false:=by
     have:e.del.all LD=false:=by
      rw[List.all_eq_false];exact⟨n,hmem,by simp[LD,hn]⟩
     simp[DA,this]
    rw[hr];refine jq ⟨?_⟩;refine Arr.ldc hS he.del hx AB ?_;unfold AY;refine jq ⟨?_⟩;exact⟨rfl,hS.nil⟩
   ·refine jq ⟨?_⟩;refine Arr.ldc hS he.del hx AB ?_;unfold AY;refine jq ⟨?_⟩;refine⟨k+1,⟨rfl,rfl,rfl,rfl,trivial⟩,⟨⟨AA,?_⟩,hS⟩,AA⟩;rw[hsucc,List.all_append,hok2];simp[LD,hn]
  ·have hke:k=e.del.length:=AA;rw[hke,Bz]at hok2;have hr:DA e=decide (0≤e.wal∧0≤e.next∧0≤e.seq):=by simp[DA,hok,hok2]
   rw[hr];unfold Dv at hS;(repeat(refine jt ⟨?_⟩;refine hS.q ?_;intro _ hS));refine jt ⟨?_⟩;refine jq ⟨?_⟩;refine⟨?_,hS.nil⟩;rw[Value.bool.injEq,decide_eq_decide];unfold RP
   split<;>split<;>omega
end Go.Proofs.YtkgibdhpijdbfaaGreatDoor
