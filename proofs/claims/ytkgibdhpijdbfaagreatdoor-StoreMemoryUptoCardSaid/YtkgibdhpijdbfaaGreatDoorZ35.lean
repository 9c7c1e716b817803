/- Texts of this claim, one behind the other. -/
import Derived.Test.YtkgibdhpijdbfaaGreatDoorZ31
import Derived.Test.YtkgibdhpijdbfaaGreatDoorZ32
import Derived.Test.YtkgibdhpijdbfaaGreatDoorZ29
set_option linter.unusedVariables false
set_option linter.unusedSimpArgs false
set_option maxHeartbeats 16000000
namespace Go.Proofs.YtkgibdhpijdbfaaGreatDoor
open Go Go.Eng Go.Proofs
structure Hd(s:AM):Prop where
 rise:Az s.mem
 seqs:Hf s.mem
 tab: ∀x∈s.tabs,B8 x.2
 one:C1 (BZ s)
 num:(BZ s).length≤8388608
 tnum:s.tabs.length≤8388608
 keys: ∀x∈s.tabs, -9223372036854775808≤x.1∧x.1≤9223372036854775807
theorem Eb{w:World}{a:Addr}{v:Value}(h:w.cell? a=some v){K:Value→Prop}(hk:K v):FK (λw'=>w=w') a K:=⟨⟨v,λ_ e=>by subst e;exact h,hk⟩⟩
theorem AW.cell{sb f:Nat}{s:AM}{m:AJ}{L:AH}(hO:AW sb f s m L){w:World}(hh:Holds L w): ∃sq tm mb ha hc a ca lv gv,∀(i:Nat)(v:Value),([.int .i64 s.given,.map (some sq),ptr f,.int .i64 s.memMax,.int .i64 s.fan,.slice ha s.hts.length hc,.slice a s.v.files.length ca,.int .i64 s.v.wal,.int .i64 s.v.next,.int .i64 s.v.seq,lv,gv,ptr mb,.map (some tm),.int .i64 s.seq,.bool s.dead]:List Value)[i]?=some v→w.cell? ⟨sb,i,none⟩=some v:=by
 obtain⟨sq,es,c,hsq,ha,hc,Lh,hvh,a,ca,La,hv,lv,Ll,hl,gv,Lg,hg,mb,Lm,hm,tm,et,ct,ks,ht,Lt,hts,LF,hF⟩:=hO;exact⟨sq,tm,mb,ha,hc,a,ca,lv,gv,λi v hi=>(St.enter hh).cell (b:=sb) (off:=i) hi⟩
theorem AW.seqC{sb f:Nat}{s:AM}{m:AJ}{L:AH}(hO:AW sb f s m L){w:World}(hh:Holds L w):w.cell? ⟨sb,14,none⟩=some (.int .i64 s.seq):=by
 obtain⟨_,_,_,_,_,_,_,_,_,h⟩:=hO.cell hh;exact h 14 _ rfl
theorem AW.fC{sb f:Nat}{s:AM}{m:AJ}{L:AH}(hO:AW sb f s m L){w:World}(hh:Holds L w):w.cell? ⟨sb,2,none⟩=some (ptr f):=by
 obtain⟨_,_,_,_,_,_,_,_,_,h⟩:=hO.cell hh;exact h 2 _ rfl
theorem AW.memC{sb f:Nat}{s:AM}{m:AJ}{L:AH}(hO:AW sb f s m L){w:World}(hh:Holds L w):w.cell? ⟨sb,3,none⟩=some (.int .i64 s.memMax):=by
 obtain⟨_,_,_,_,_,_,_,_,_,h⟩:=hO.cell hh;exact h 3 _ rfl
theorem AW.fanC{sb f:Nat}{s:AM}{m:AJ}{L:AH}(hO:AW sb f s m L){w:World}(hh:Holds L w):w.cell? ⟨sb,4,none⟩=some (.int .i64 s.fan):=by
 obtain⟨_,_,_,_,_,_,_,_,_,h⟩:=hO.cell hh;exact h 4 _ rfl
theorem AW.walC{sb f:Nat}{s:AM}{m:AJ}{L:AH}(hO:AW sb f s m L){w:World}(hh:Holds L w):w.cell? ⟨sb,7,none⟩=some (.int .i64 s.v.wal):=by
 obtain⟨_,_,_,_,_,_,_,_,_,h⟩:=hO.cell hh;exact h 7 _ rfl
theorem AW.nextC{sb f:Nat}{s:AM}{m:AJ}{L:AH}(hO:AW sb f s m L){w:World}(hh:Holds L w):w.cell? ⟨sb,8,none⟩=some (.int .i64 s.v.next):=by
 obtain⟨_,_,_,_,_,_,_,_,_,h⟩:=hO.cell hh;exact h 8 _ rfl
theorem AW.vseqC{sb f:Nat}{s:AM}{m:AJ}{L:AH}(hO:AW sb f s m L){w:World}(hh:Holds L w):w.cell? ⟨sb,9,none⟩=some (.int .i64 s.v.seq):=by
 obtain⟨_,_,_,_,_,_,_,_,_,h⟩:=hO.cell hh;exact h 9 _ rfl
def ME(s:AM)(k:AE)(q:Int)(b:Option AF):Prop:=GK (DH s.mem k q::s.tabs.map λx=>DH x.2 k q) b
def Ng(s:AM)(k to:AE)(q:Int)(ops:List Ac):Prop:=∃r,r.Perm ((BZ s).filter λx=> !Op.bytesLess x.k k)∧Az r∧ops=(HX to (FG q r)).map HT
def Lj(b:Option AF):AE:=(b.getD Ha).v
def LG(b:Option AF):Bool:=b.isSome&& !(b.getD Ha).d
theorem Vm{w:World}{sb f:Nat}{s:AM}{m:AJ}{L:AH}(hO:AW sb f s m L)(hh:Holds L w)(k:AE)(q:Int)(hk:k.length≤1099511627776)(hR:Hd s):
  Cl Tryz.prog U5 [ptr sb,AG k,.int .i64 q] w λv w'=>∃b,ME s k q b∧v= .tuple ⟨[AG (Lj b),.bool (LG b)]⟩∧St w (keys L) L w':=rU hO hh k q hk hR.rise hR.tab
theorem Xz{w:World}{sb f:Nat}{s:AM}{m:AJ}{L:AH}(hO:AW sb f s m L)(hh:Holds L w)(k to:AE)(q:Int)(hR:Hd s):
  Cl Tryz.prog U7 [ptr sb,AG k,AG to,.int .i64 q] w λv w'=>∃ops,Ng s k to q ops∧ ∃a c Lv,v= .slice a ops.length c∧AT Bn 3 a ops.length c (ops.flatMap A8) Lv∧St w (keys L) (Lv++L) w':=by
 refine(xB hO hh k to q hR.rise hR.seqs hR.tab hR.one hR.num hR.tnum hR.keys).mono ?_;rintro v w'⟨r,h1,h2,a,c,Lv,h3,h4,h5⟩;have e:((HX to (FG q r)).map HT).length=(HX to (FG q r)).length:=AB;exact⟨_,⟨r,h1,h2,rfl⟩,a,c,Lv,by rw[e];exact h3,by rw[e];exact h4,h5⟩
def C5(s:AM)(m:AJ):Bool:=s.dead||m.off
def Kf(s:AM):AM:={s with dead:=true}
theorem Sz{w:World}{sb f:Nat}{s:AM}{m:AJ}{L:AH}(hO:AW sb f s m L)(hh:Holds L w)(k:AE)(hk:k.length≤1099511627776)(hR:Hd s):
  Cl Tryz.prog Qd [ptr sb,AG k] w λv w'=>(C5 s m=true∧v= .tuple ⟨[AG [],.bool false,.int .i64 7]⟩∧ ∃L',AW sb f (Kf s) m L'∧St w (keys L) L' w')∨
   (C5 s m=false∧ ∃b,ME s k s.seq b∧v= .tuple ⟨[AG (Lj b),.bool (LG b),.int .i64 0]⟩∧St w (keys L) L w'):=by
 have hS:=St.enter hh;refine iE rfl ?_;unfold C5;refine jq ⟨?_⟩;refine(H8 hO hS.holds).mono ?_;rintro _ w1⟨rfl,hS'⟩;have hS:=hS.call hS';cases hd:(s.dead||m.off)with
 |true=>
  refine jq ⟨?_⟩;refine(He hO hS.holds 7).mono ?_;rw[Kh hd];rintro _ w2⟨rfl,L2,hO2,hS'⟩;have hS:=hS.call hS';refine jq ⟨?_⟩;exact .inl ⟨rfl,rfl,L2,hO2,hS⟩
 |false=>
  refine jq ⟨?_⟩;refine Eb (hO.seqC hS.holds) ?_;refine jq ⟨?_⟩;refine(Vm hO hS.holds k s.seq hk hR).mono ?_;rintro _ w2⟨b,hb,rfl,hS'⟩;have hS:=hS.call hS';refine jq ⟨?_⟩;exact .inr ⟨rfl,b,hb,rfl,hS⟩
theorem Ph{w:World}{sb f:Nat}{s:AM}{m:AJ}{L:AH}(hO:AW sb f s m L)(hh:Holds L w)(k to:AE)(hR:Hd s):
  Cl Tryz.prog OF [ptr sb,AG k,AG to] w λv w'=>(C5 s m=true∧v= .tuple ⟨[.slice none 0 0,.int .i64 7]⟩∧ ∃L',AW sb f (Kf s) m L'∧St w (keys L) L' w')∨
   (C5 s m=false∧ ∃ops,Ng s k to s.seq ops∧ ∃a c Lv,v= .tuple ⟨[.slice a ops.length c,.int .i64 0]⟩∧AT Bn 3 a ops.length c (ops.flatMap A8) Lv∧St w (keys L) (Lv++L) w'):=by
 have hS:=St.enter hh;refine iG rfl ?_;unfold C5;refine jq ⟨?_⟩;refine(H8 hO hS.holds).mono ?_;rintro _ w1⟨rfl,hS'⟩;have hS:=hS.call hS';cases hd:(s.dead||m.off)with
 |true=>
  refine jq ⟨?_⟩;refine(He hO hS.holds 7).mono ?_;rw[Kh hd];rintro _ w2⟨rfl,L2,hO2,hS'⟩;have hS:=hS.call hS';refine jq ⟨?_⟩;exact .inl ⟨rfl,rfl,L2,hO2,hS⟩
 |false=>
  refine jq ⟨?_⟩;refine Eb (hO.seqC hS.holds) ?_;refine jq ⟨?_⟩;refine(Xz hO hS.holds k to s.seq hR).mono ?_;rintro _ w2⟨ops,hb,a,c,Lv,rfl,hv,hS'⟩;have hS:=hS.call hS';refine jq ⟨?_⟩;exact .inr ⟨rfl,ops,hb,a,c,Lv,rfl,hv,hS⟩
theorem Tr{s:AM}{m:AJ}{n:Int}:(DX s m n).2=0→C5 s m=false∧Al n s.seqs=some (DX s m n).1:=by
 unfold DX C5;intro h
 split at h
 ·simp at h
 ·rename_i hd;rw[if_neg hd];cases e:Al n s.seqs with
  |none=>rw[e]at h;simp at h
  |some q=>exact⟨by simpa using hd,rfl⟩
theorem Ns{s:AM}{m:AJ}(h:C5 s m=false):ID s m=s:=by
 unfold ID;unfold C5 at h;rw[h];rfl
theorem Sy{w:World}{sb f:Nat}{s:AM}{m:AJ}{L:AH}(hO:AW sb f s m L)(hh:Holds L w)(n:Int)(k:AE)(hk:k.length≤1099511627776)(hR:Hd s):
  Cl Tryz.prog Qe [ptr sb,.int .i64 n,AG k] w λv w'=>((DX s m n).2≠0∧v= .tuple ⟨[AG [],.bool false,.int .i64 (DX s m n).2]⟩∧ ∃L',AW sb f (ID s m) m L'∧St w (keys L) L' w')∨
   ((DX s m n).2=0∧ ∃b,ME s k (DX s m n).1 b∧v= .tuple ⟨[AG (Lj b),.bool (LG b),.int .i64 0]⟩∧ ∃L',AW sb f s m L'∧St w (keys L) L' w'):=by
 have hS:=St.enter hh;refine iF rfl ?_;refine jq ⟨?_⟩;refine(Tt hO hS.holds n).mono ?_;have hup:(DX s m n).2=0→ID s m=s:=λh=>Ns (Tr h).1;rintro _ w1⟨rfl,L1,hO1,hS'⟩;have hS:=hS.call hS';generalize DX s m n=y at hup⊢;obtain⟨q,e⟩:=y;simp only at hup⊢;by_cases he:e=0
 ·subst he;rw[hup rfl]at hO1;refine jq ⟨?_⟩;refine(Vm hO1 hS.holds k q hk hR).mono ?_;rintro _ w2⟨b,hb,rfl,hS'⟩;have hS:=hS.call hS';refine jq ⟨?_⟩;exact .inr ⟨rfl,b,hb,rfl,L1,hO1,hS⟩
 ·refine jq ⟨?_⟩;exact .inl ⟨he,rfl,L1,hO1,hS⟩
theorem Z2{w:World}{sb f:Nat}{s:AM}{m:AJ}{L:AH}(hO:AW sb f s m L)(hh:Holds L w)(n:Int)(k to:AE)(hR:Hd s):
  Cl Tryz.prog U3 [ptr sb,.int .i64 n,AG k,AG to] w λv w'=>((DX s m n).2≠0∧v= .tuple ⟨[.slice none 0 0,.int .i64 (DX s m n).2]⟩∧ ∃L',AW sb f (ID s m) m L'∧St w (keys L) L' w')∨
   ((DX s m n).2=0∧ ∃ops,Ng s k to (DX s m n).1 ops∧ ∃a c Lv,v= .tuple ⟨[.slice a ops.length c,.int .i64 0]⟩∧AT Bn 3 a ops.length c (ops.flatMap A8) Lv∧ ∃L',AW sb f s m L'∧St w (keys L) (Lv++L') w'):=by
 have hS:=St.enter hh;refine iH rfl ?_;refine jq ⟨?_⟩;refine(Tt hO hS.holds n).mono ?_;have hup:(DX s m n).2=0→ID s m=s:=λh=>Ns (Tr h).1;rintro _ w1⟨rfl,L1,hO1,hS'⟩;have hS:=hS.call hS';generalize DX s m n=y at hup⊢;obtain⟨q,e⟩:=y;simp only at hup⊢;by_cases he:e=0
 ·subst he;rw[hup rfl]at hO1;refine jq ⟨?_⟩;refine(Xz hO1 hS.holds k to q hR).mono ?_;rintro _ w2⟨ops,hb,a,c,Lv,rfl,hv,hS'⟩;have hS:=hS.call hS';refine jq ⟨?_⟩;exact .inr ⟨rfl,ops,hb,a,c,Lv,rfl,hv,L1,hO1,hS⟩
 ·refine jq ⟨?_⟩;exact .inl ⟨he,rfl,L1,hO1,hS⟩
theorem AW.fs{sb f:Nat}{s:AM}{m:AJ}{L:AH}(hO:AW sb f s m L): ∃o R LF,L=(sb,o)::(R++LF)∧BI f m LF∧ ∀m' LF',BI f m' LF'→AW sb f s m' ((sb,o)::(R++LF')):=by
 obtain⟨sq,es,c,hsq,ha,hc,Lh,hvh,a,ca,La,hv,lv,Ll,hl,gv,Lg,hg,mb,Lm,hm,tm,et,ct,ks,ht,Lt,hts,LF,hF⟩:=hO;refine⟨.cells ⟨[.int .i64 s.given,.map (some sq),ptr f,.int .i64 s.memMax,.int .i64 s.fan,.slice ha s.hts.length hc,.slice a s.v.files.length ca,.int .i64 s.v.wal,.int .i64 s.v.next,.int .i64 s.v.seq,lv,gv,ptr mb,.map (some tm),.int .i64 s.seq,.bool s.dead]⟩ Ta (0,0),(sq,.map es c)::(tm,.map et ct)::(Lh++(La++(Ll++(Lg++(Lm++Lt))))),LF,AB,hF,λm' LF' hF'=>?_⟩
 have:=AW.mk (sb:=sb) (m:=m') sq es c hsq ha hc Lh hvh a ca La hv lv Ll hl gv Lg hg mb Lm hm tm et ct ks ht Lt hts LF' hF';simpa using this
theorem AW.down{w:World}{sb f:Nat}{s:AM}{m:AJ}{L:AH}(hO:AW sb f s m L)(hh:Holds L w):Cl Tryz.prog VN [ptr f] w λv w'=>v= .bool m.off∧St w (keys L) L w':=by
 obtain⟨o,R,LF,rfl,hF,hm⟩:=hO.fs;have hS:=St.enter hh;refine(Ie hF (hS.part (L:=LF))).mono ?_;rintro _ w1⟨rfl,hS'⟩;exact⟨rfl,hS.call (L:=LF) hS'⟩
theorem AW.read{w:World}{sb f:Nat}{s:AM}{m:AJ}{L:AH}(hO:AW sb f s m L)(hh:Holds L w)(name:AE):Cl Tryz.prog VK [ptr f,AG name] w λv w'=>v= .tuple ⟨[AG (BB m name).1.1,.int .i64 (BB m name).2]⟩∧St w (keys L) L w':=by
 obtain⟨o,R,LF,rfl,hF,hm⟩:=hO.fs;have hS:=St.enter hh;refine(KX hF (hS.part (L:=LF)) name).mono ?_;rintro _ w1⟨rfl,hS'⟩;exact⟨rfl,hS.call (L:=LF) hS'⟩
theorem AW.file{w:World}{sb f A:Nat}{s:AM}{m:AJ}{L:AH}(hO:AW sb f s m L)(hh:Holds L w)(name t:AE)(ht:t.length≤1099511627776)(hB:FB A m)(hA:A+3≤9223372036854775807):
  Cl Tryz.prog U4 [ptr sb,AG name,AG t] w λv w'=>v= .int .i64 (CE m name t).1∧ ∃L',AW sb f s (CE m name t).2 L'∧St w (keys L) L' w':=by
 have hc:=hO.fC hh;obtain⟨o,R,LF,rfl,hF,hm⟩:=hO.fs;have hS:=St.enter hh;refine(VP hF (hS.part (L:=LF)) hc (Cp hS) name t ht hB hA).mono ?_;rintro _ w1⟨rfl,L1,hF1,hS'⟩;exact⟨rfl,_,hm _ _ hF1,hS.call (L:=LF) hS'⟩
theorem AW.rewrite{w:World}{sb f A:Nat}{s:AM}{m:AJ}{L:AH}(hO:AW sb f s m L)(hh:Holds L w)(name:AE){a:Option Addr}{cap:Nat}{ps:List AE}(ha:Arr w (keys L) a (ps.map AG))(hlen:BG ps+8*ps.length≤1099511627776)(hB:FB A m)(hA:A+3≤9223372036854775807):
  Cl Tryz.prog VO [ptr f,AG name,.slice a ps.length cap] w λv w'=>v= .int .i64 (Cd m name ps).1∧ ∃L',AW sb f s (Cd m name ps).2 L'∧St w (keys L) L' w':=by
 obtain⟨o,R,LF,rfl,hF,hm⟩:=hO.fs;have hS:=St.enter hh;refine(Zs hF (hS.part (L:=LF)) name (ha.sub λb hb=>by
  simp only[keys,A4,A7,As,Bl];exact .inr (.inr hb)) hlen hB hA).mono ?_
 rintro _ w1⟨rfl,L1,hF1,hS'⟩;exact⟨rfl,_,hm _ _ hF1,hS.call (L:=LF) hS'⟩
theorem AW.rename{w:World}{sb f A:Nat}{s:AM}{m:AJ}{L:AH}(hO:AW sb f s m L)(hh:Holds L w)(x y:AE)(hB:FB A m)(hA:A+1≤9223372036854775807):
  Cl Tryz.prog VL [ptr f,AG x,AG y] w λv w'=>v= .int .i64 (Cx m x y).1∧ ∃L',AW sb f s (Cx m x y).2 L'∧St w (keys L) L' w':=by
 obtain⟨o,R,LF,rfl,hF,hm⟩:=hO.fs;have hS:=St.enter hh;refine(Zr hF (hS.part (L:=LF)) x y (by have:=hB.armed;omega) (by have:=hB.acts;omega)).mono ?_;rintro _ w1⟨rfl,L1,hF1,hS'⟩;exact⟨rfl,_,hm _ _ hF1,hS.call (L:=LF) hS'⟩
theorem AW.delete{w:World}{sb f A:Nat}{s:AM}{m:AJ}{L:AH}(hO:AW sb f s m L)(hh:Holds L w)(x:AE)(hB:FB A m)(hA:A+1≤9223372036854775807):
  Cl Tryz.prog VH [ptr f,AG x] w λv w'=>v= .int .i64 (BA m x).1∧ ∃L',AW sb f s (BA m x).2 L'∧St w (keys L) L' w':=by
 obtain⟨o,R,LF,rfl,hF,hm⟩:=hO.fs;have hS:=St.enter hh;refine(PV hF (hS.part (L:=LF)) x (by have:=hB.armed;omega) (by have:=hB.acts;omega)).mono ?_;rintro _ w1⟨rfl,L1,hF1,hS'⟩;exact⟨rfl,_,hm _ _ hF1,hS.call (L:=LF) hS'⟩
theorem AW.list{w:World}{sb f A:Nat}{s:AM}{m:AJ}{L:AH}(hO:AW sb f s m L)(hh:Holds L w)(hB:FB A m)(hN:m.files.length≤1099511627776):
  Cl Tryz.prog VJ [ptr f] w λv w'=>(m.off=true∧v= .tuple ⟨[.slice none 0 0,.int .i64 7]⟩∧St w (keys L) L w')∨(m.off=false∧ ∃(ns:List AE)(a:Option Addr)(cap:Nat)(Lv:AH),ns.Perm (m.files.map (·.1))∧v= .tuple ⟨[.slice a ns.length cap,.int .i64 0]⟩∧AT C3 1 a ns.length cap (ns.map AG) Lv∧St w (keys L) (Lv++L) w'):=by
 obtain⟨o,R,LF,rfl,hF,hm⟩:=hO.fs;have hS:=St.enter hh;refine(Y7 hF (hS.part (L:=LF)) hB hN).mono ?_;rintro _ w1(⟨h1,rfl,hS'⟩|⟨h1,ns,a,cap,Lv,hp,rfl,hv,hS'⟩)
 ·exact .inl ⟨h1,rfl,hS.call (L:=LF) hS'⟩
 ·refine .inr ⟨h1,ns,a,cap,Lv,hp,rfl,hv,?_⟩;refine St.perm (hS.call (L:=LF) hS') ?_;refine(List.Perm.cons _ (GX R Lv LF)).trans ?_;exact Dd.symm
theorem AW.wopen{w:World}{sb f A:Nat}{s:AM}{m:AJ}{L:AH}(hO:AW sb f s m L)(hh:Holds L w)(name:AE)(h0:C9 m name=0)(hB:FB A m):
  Cl Tryz.prog OH [ptr f,AG name] w λv w'=>∃bl a cap Lv,v= .tuple ⟨[ptr bl,.slice a (scan (BB m name).1.1).1.length cap,.int .i64 0]⟩∧
   AT C3 1 a (scan (BB m name).1.1).1.length cap ((scan (BB m name).1.1).1.map AG) Lv∧GO f (some (D6 m name)) (ptr bl) [(bl,IS f name (D6 m name).n (D6 m name).torn false)]∧
   St w (keys L) (Lv++(bl,IS f name (D6 m name).n (D6 m name).torn false)::L) w':=by
 obtain⟨o,R,LF,rfl,hF,hm⟩:=hO.fs;have hS:=St.enter hh;refine(S9 hF (hS.part (L:=LF)) name h0 (hB.find name)).mono ?_;rintro _ w1⟨bl,a,cap,Lv, -,rfl,hv,hS'⟩;refine⟨bl,a,cap,Lv,rfl,hv,GO.some bl (D6 m name),?_⟩;have hS:=hS.call (L:=LF) hS';refine St.perm hS ?_;refine(List.Perm.cons _ ?_).trans (Dd.symm.trans (List.Perm.append_left _ (List.Perm.swap _ _ _)));refine(GX R Lv _).trans (List.Perm.append_left _ ?_)
 exact Dd
theorem AW.wopenE{w:World}{sb f:Nat}{s:AM}{m:AJ}{L:AH}(hO:AW sb f s m L)(hh:Holds L w)(name:AE)(h0:C9 m name≠0):
  Cl Tryz.prog OH [ptr f,AG name] w λv w'=>v= .tuple ⟨[.pointer none,.slice none 0 0,.int .i64 (C9 m name)]⟩∧St w (keys L) L w':=by
 obtain⟨o,R,LF,rfl,hF,hm⟩:=hO.fs;have hS:=St.enter hh;refine(Zh hF (hS.part (L:=LF)) name h0).mono ?_;rintro _ w1⟨rfl,hS'⟩;exact⟨rfl,hS.call (L:=LF) hS'⟩
end Go.Proofs.YtkgibdhpijdbfaaGreatDoor
