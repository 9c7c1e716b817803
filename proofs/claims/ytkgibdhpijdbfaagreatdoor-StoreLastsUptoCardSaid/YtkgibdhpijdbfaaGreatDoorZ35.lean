/- Texts of this claim, one behind the other. -/
import Derived.Test.YtkgibdhpijdbfaaGreatDoorZ32
import Derived.Test.YtkgibdhpijdbfaaGreatDoorZ28
import Derived.Test.YtkgibdhpijdbfaaGreatDoorZ30
import Derived.Test.YtkgibdhpijdbfaaGreatDoorZ23
set_option linter.unusedVariables false
set_option linter.unusedSimpArgs false
set_option maxHeartbeats 16000000
namespace Go.Proofs.YtkgibdhpijdbfaaGreatDoor
open Go Go.Eng Go.Proofs Go.Srt
def Cr(s:AL)(list:Int)(nm:AE):Bool:=decide (nm=Bf)||(decide ((Ei nm).1=109)&&decide ((Ei nm).2.1=list))||(decide ((Ei nm).1=119)&&decide ((Ei nm).2.1=s.v.wal))||(decide ((Ei nm).1=116)&&(Am (Ei nm).2.1 s.tabs).isSome)
def DB(s:AL)(list:Int):List AE→AJ→Int×AJ
 |[],m=>(0,m)
 |nm::r,m=>if Cr s list nm=true then DB s list r m else if(A9 m nm).1≠0 then A9 m nm else DB s list r (A9 m nm).2
theorem cD{s:AL}{list:Int}{m mi:AJ}{ns:List AE}{k:Nat}(h:DB s list ns m=DB s list (ns.drop k) mi)(hk:k<ns.length):
  DB s list ns m=if Cr s list ns[k]=true then DB s list (ns.drop (k+1)) mi else if(A9 mi ns[k]).1≠0 then A9 mi ns[k]else DB s list (ns.drop (k+1)) (A9 mi ns[k]).2:=by
 rw[h,FM hk];rfl
def Y4(sb f:Nat)(s:AL)(m:AJ)(list:Int)(w:World)(T0:List Nat)(v:Value)(w':World):Prop:=(m.off=true∧v= .int .i64 7∧ ∃L',AV sb f s m L'∧St w T0 L' w')∨
 (m.off=false∧ ∃ns:List AE,ns.Perm (m.files.map (·.1))∧v= .int .i64 (DB s list ns m).1∧ ∃L',AV sb f s (DB s list ns m).2 L'∧St w T0 L' w')
theorem AV.tabQ{sb f:Nat}{s:AL}{m:AJ}{L:AH}(hO:AV sb f s m L): ∃tm et ct ks,MapC AY (λb:Nat=>ptr b) et ct ks∧(∀n,(Am n ks).isSome=(Am n s.tabs).isSome)∧ ∀w,Holds L w→w.cell? ⟨sb,13,none⟩=some (.map (some tm))∧w.heap[tm]?=some (.map et ct):=by
 obtain⟨sq,es,c,hsq,ha,hc,Lh,hvh,a,ca,La,hv,lv,Ll,hl,gv,Lg,hg,mb,Lm,hm,tm,et,ct,ks,ht,Lt,hts,LF,hF⟩:=hO;have hkk:=hts.keys;refine⟨tm,et,ct,ks,ht,λn=>?_,λw hw=>⟨(St.enter hw).cell (b:=sb) (off:=13) rfl,(St.enter hw).mem (b:=tm)⟩⟩;have h1:=Jd (k:=n) (l:=ks);have h2:=Jd (k:=n) (l:=s.tabs);rw[hkk]at h1;have h3:Am n ks=none↔Am n s.tabs=none:=h1.trans h2.symm;cases e1:Am n ks<;>cases e2:Am n s.tabs<;>simp_all
theorem SR(c:UInt8)(k:Nat)(hk:k<256):(c=UInt8.ofNat k)↔((c.toNat:Int)=(k:Int)):=by
 constructor
 ·rintro rfl;simp[UInt8.toNat_ofNat'];omega
 ·intro h;apply UInt8.toNat_inj.1;simp[UInt8.toNat_ofNat'];omega
set_option maxRecDepth 8000 in
theorem Z9{w:World}{sb f A:Nat}{s:AL}{m:AJ}{L:AH}(hO:AV sb f s m L)(hh:Holds L w)(hG:Bw w (keys L))(list:Int)(hB:FB A m)(hA:A+m.files.length≤4611686018427387904)(hN:m.files.length≤549755813888):
  Cl Tryz.prog o8 [ptr sb,.int .i64 list] w λv w'=>Y4 sb f s m list w (keys L) v w':=by
 have hS:=St.enter hh;generalize hT:keys L=T0 at hS hG⊢;refine iM rfl ?_;refine jq ⟨?_⟩;refine Ev (hO.fC hS.holds) ?_;refine jq ⟨?_⟩;refine Cl.mono (hO.list hS.holds hB AA) ?_;rintro _ w1(⟨hoff,rfl,hS'⟩|⟨hoff,ns,an,cn,Ln,hp,rfl,hvn,hS'⟩)
 ·have hS:=hS.call (L:=L) hS';refine jq ⟨?_⟩;exact .inl ⟨hoff,rfl,L,hO,hS⟩
 ·have hS:=hS.call (L:=L) hS';have hnl:ns.length≤m.files.length:=by have:=hp.length_eq;rw[BZ]at this;omega
  have hnb: ∀n∈ns,n.length≤40:=λn hn=>by
   obtain⟨x,hx,rfl⟩:=BU.1 (hp.mem_iff.1 hn);exact hB.name x hx
  refine jq ⟨?_⟩;refine AM.loop (λk:Nat=>[(0,ptr sb),(1,.int .i64 list),(25,.slice an ns.length cn),(26,.int .i64 ns.length),(27,.int .i64 k)])
   (λk w'=>k≤ns.length∧ ∃mi L2,DB s list ns m=DB s list (ns.drop k) mi∧FB (A+k) mi∧AV sb f s mi L2∧St w T0 (Ln++L2) w') (λk=>ns.length-k) 0
   ⟨rfl,rfl,rfl,rfl,rfl,trivial⟩ ⟨Ag _,m,L,by rw[List.drop_zero],hB,hO,hS⟩ ?_
  clear hS hS';rintro k w2⟨hk,mi,L2,hcl,hBi,hO2,hS⟩;by_cases hkl:k<ns.length
  ·obtain⟨gn,tn,rfl, -, -, -,rfl⟩: ∃g l',an=some ⟨g,0,none⟩∧(ns.map AG).length=ns.length*1∧(ns.map AG).length+l'.length=cn*1∧ns.length≤cn∧Ln=[(g,.cells ⟨ns.map AG++l'⟩ C0 (0,0))]:=by
    rcases hvn.inv with⟨_,h,_⟩|h
    ·omega
    ·exact h
   have hget:(ns.map AG++tn)[k]?=some (AG ns[k]):=by
    rw[Cq (by rw[BZ];exact hkl)];simp[hkl]
   have hstep:=cD hcl hkl;have hn40:=hnb _ (CW hkl);generalize ns[k]=n at hget hstep hn40;refine jq ⟨?_⟩;refine hS.ld (v:=AG n) (by rw[show 0+(k:Int).toNat*1=k by omega];exact hget) ?_;refine jq ⟨?_⟩;refine Cl.mono (S8 (t:=n) AA (hG.keep hS).err (hG.keep hS).tab) ?_;rintro _ w3⟨rfl,hS'⟩;have hS:=hS.call0 hS';have hkp:Cr s list n=(decide (n=Bf)||(decide ((Ei n).1=109)&&decide ((Ei n).2.1=list))||(decide ((Ei n).1=119)&&decide ((Ei n).2.1=s.v.wal))||(decide ((Ei n).1=116)&&(Am (Ei n).2.1 s.tabs).isSome)):=rfl
   unfold Ji;obtain⟨pn,hpn⟩: ∃pn,Ei n=pn:=⟨_,rfl⟩;rw[hpn]at hkp⊢;obtain⟨c,z,ok⟩:=pn;simp only at hkp⊢;have d1:decide (c=109)=decide ((c.toNat:Int)=109):=decide_eq_decide.2 (SR c 109 AC);have d2:decide (c=119)=decide ((c.toNat:Int)=119):=decide_eq_decide.2 (SR c 119 AC);have d3:decide (c=116)=decide ((c.toNat:Int)=116):=decide_eq_decide.2 (SR c 116 AC);rw[d1,d2,d3]at hkp;have hcb:=c.toNat_lt;refine jq ⟨?_⟩
   by_cases hcur:n=[67,85,82,82,69,78,84]
   ·have hkt:Cr s list n=true:=by rw[hkp,decide_eq_true (show n=Bf from hcur)];rfl
    subst hcur;refine jq ⟨?_⟩;rw[if_pos hkt]at hstep;refine jq ⟨?_⟩;exact⟨k+1,⟨rfl,rfl,rfl,rfl,rfl,trivial⟩,⟨hkl,mi,L2,hstep,hBi.mono AA,hO2,hS⟩,AA⟩
   ·have hcur2:decide (n=Bf)=false:=decide_eq_false hcur;by_cases h109:(c.toNat:Int)=109
    ·by_cases hzl:z=list
     ·have hkt:Cr s list n=true:=by rw[hkp];simp[h109,hzl]
      refine jq ⟨?_⟩;rw[if_pos hkt]at hstep;refine jq ⟨?_⟩;exact⟨k+1,⟨rfl,rfl,rfl,rfl,rfl,trivial⟩,⟨hkl,mi,L2,hstep,hBi.mono AA,hO2,hS⟩,AA⟩
     ·have hkt:Cr s list n=false:=by rw[hkp,hcur2];simp[h109,hzl]
      refine jq ⟨?_⟩;rw[if_neg (by rw[hkt];simp)]at hstep;refine jq ⟨?_⟩;refine Ev (hO2.fC (hS.part (L:=L2))) ?_;refine jq ⟨?_⟩;refine Cl.mono (hO2.delete (hS.part (L:=L2)) n hBi AA) ?_;rintro _ w4⟨rfl,L3,hO3,hS'⟩;have hS:=hS.call (L:=L2) hS';have hB3:=hBi.del n;generalize A9 mi n=dm at hO3 hB3 hstep⊢;obtain⟨e3,m3⟩:=dm;simp only at hO3 hB3 hstep⊢;by_cases he3:e3=0
      ·subst he3;rw[if_neg AB]at hstep;refine jq ⟨?_⟩;exact⟨k+1,⟨rfl,rfl,rfl,rfl,rfl,trivial⟩,⟨hkl,m3,L3,hstep,hB3,hO3,hS⟩,AA⟩
      ·rw[if_pos he3]at hstep;refine jq ⟨?_⟩;exact .inr ⟨hoff,ns,hp,by rw[hstep],L3,by rw[hstep];exact hO3,hS.sub (Ai _ _)⟩
    ·by_cases h119:(c.toNat:Int)=119
     ·by_cases hzw:z=s.v.wal
      ·have hkt:Cr s list n=true:=by rw[hkp];simp[h119,hzw]
       refine jq ⟨?_⟩;refine Ev (hO2.walC (hS.part (L:=L2))) ?_;refine jq ⟨?_⟩;rw[if_pos hkt]at hstep;refine jq ⟨?_⟩;exact⟨k+1,⟨rfl,rfl,rfl,rfl,rfl,trivial⟩,⟨hkl,mi,L2,hstep,hBi.mono AA,hO2,hS⟩,AA⟩
      ·have hkt:Cr s list n=false:=by rw[hkp,hcur2];simp[h119,hzw]
       refine jq ⟨?_⟩;refine Ev (hO2.walC (hS.part (L:=L2))) ?_;refine jq ⟨?_⟩;rw[if_neg (by rw[hkt];simp)]at hstep;refine jq ⟨?_⟩;refine Ev (hO2.fC (hS.part (L:=L2))) ?_;refine jq ⟨?_⟩;refine Cl.mono (hO2.delete (hS.part (L:=L2)) n hBi AA) ?_;rintro _ w4⟨rfl,L3,hO3,hS'⟩;have hS:=hS.call (L:=L2) hS';have hB3:=hBi.del n;generalize A9 mi n=dm at hO3 hB3 hstep⊢;obtain⟨e3,m3⟩:=dm;simp only at hO3 hB3 hstep⊢
       by_cases he3:e3=0
       ·subst he3;rw[if_neg AB]at hstep;refine jq ⟨?_⟩;exact⟨k+1,⟨rfl,rfl,rfl,rfl,rfl,trivial⟩,⟨hkl,m3,L3,hstep,hB3,hO3,hS⟩,AA⟩
       ·rw[if_pos he3]at hstep;refine jq ⟨?_⟩;exact .inr ⟨hoff,ns,hp,by rw[hstep],L3,by rw[hstep];exact hO3,hS.sub (Ai _ _)⟩
     ·by_cases h116:(c.toNat:Int)=116
      ·obtain⟨tm,et,ct,ks,hks,hkk,htp⟩:=hO2.tabQ;have hkz:=hkk z;refine jq ⟨?_⟩;refine Ev (htp _ (hS.part (L:=L2))).1 ?_;refine jq ⟨?_⟩;refine IS AK Bn.i64 rfl rfl Em rfl (kvs:=ks) (λw' hw'=>⟨et,ct,by subst hw';exact(htp _ (hS.part (L:=L2))).2,hks.of⟩) ?_;cases hkg:Am z ks with
       |some tb=>
        rw[hkg]at hkz;have hkt:Cr s list n=true:=by rw[hkp,←hkz];simp[h116]
        simp only[I1,FA];refine jq ⟨?_⟩;rw[if_pos hkt]at hstep;refine jq ⟨?_⟩;exact⟨k+1,⟨rfl,rfl,rfl,rfl,rfl,trivial⟩,⟨hkl,mi,L2,hstep,hBi.mono AA,hO2,hS⟩,AA⟩
       |none=>
        rw[hkg]at hkz;have hkt:Cr s list n=false:=by rw[hkp,hcur2,←hkz];simp[h109,h119]
        simp only[Option.map_none,Option.getD_none];refine jq ⟨?_⟩;rw[if_neg (by rw[hkt];simp)]at hstep;refine jq ⟨?_⟩;refine Ev (hO2.fC (hS.part (L:=L2))) ?_;refine jq ⟨?_⟩;refine Cl.mono (hO2.delete (hS.part (L:=L2)) n hBi AA) ?_;rintro _ w4⟨rfl,L3,hO3,hS'⟩;have hS:=hS.call (L:=L2) hS';have hB3:=hBi.del n;generalize A9 mi n=dm at hO3 hB3 hstep⊢;obtain⟨e3,m3⟩:=dm;simp only at hO3 hB3 hstep⊢;by_cases he3:e3=0
        ·subst he3;rw[if_neg AB]at hstep;refine jq ⟨?_⟩;exact⟨k+1,⟨rfl,rfl,rfl,rfl,rfl,trivial⟩,⟨hkl,m3,L3,hstep,hB3,hO3,hS⟩,AA⟩
        ·rw[if_pos he3]at hstep;refine jq ⟨?_⟩;exact .inr ⟨hoff,ns,hp,by rw[hstep],L3,by rw[hstep];exact hO3,hS.sub (Ai _ _)⟩
      ·have hkt:Cr s list n=false:=by rw[hkp,hcur2];simp[h109,h119,h116]
       refine jq ⟨?_⟩;rw[if_neg (by rw[hkt];simp)]at hstep;refine jq ⟨?_⟩;refine Ev (hO2.fC (hS.part (L:=L2))) ?_;refine jq ⟨?_⟩;refine Cl.mono (hO2.delete (hS.part (L:=L2)) n hBi AA) ?_;rintro _ w4⟨rfl,L3,hO3,hS'⟩;have hS:=hS.call (L:=L2) hS';have hB3:=hBi.del n;generalize A9 mi n=dm at hO3 hB3 hstep⊢;obtain⟨e3,m3⟩:=dm;simp only at hO3 hB3 hstep⊢;by_cases he3:e3=0
       ·subst he3;rw[if_neg AB]at hstep;refine jq ⟨?_⟩;exact⟨k+1,⟨rfl,rfl,rfl,rfl,rfl,trivial⟩,⟨hkl,m3,L3,hstep,hB3,hO3,hS⟩,AA⟩
       ·rw[if_pos he3]at hstep;refine jq ⟨?_⟩;exact .inr ⟨hoff,ns,hp,by rw[hstep],L3,by rw[hstep];exact hO3,hS.sub (Ai _ _)⟩
  ·have hke:k=ns.length:=AA;subst hke;rw[II]at hcl;refine jq ⟨?_⟩;refine .inr ⟨hoff,ns,hp,by rw[hcl];rfl,L2,by rw[hcl];exact hO2,hS.sub (Ai _ _)⟩
theorem AV.setLog{w0 w:World}{T:List Nat}{sb f bl:Nat}{s:AL}{m:AJ}{L:AH}(hO:AV sb f s m L){g:BF}(hS:St w0 T ((bl,HO f g)::L) w){K:World→Prop}(h: ∀L' w',AV sb f {s with log:=some g} m L'→St w0 T L' w'→K w'):Ik w sb (0+11) [ptr bl] K:=by
 obtain⟨sq,es,c,hsq2,ha,hc,Lh,hvh,a3,c3,La,hv3,lv,Ll,hl3,gv,Lg,hg3,mb2,Lm,hm,tm2,et2,ct2,ks2,ht,Lt2,hts,LF,hF⟩:=hO;refine hS.q ?_;intro w8 hS;have hS:=(St.perm hS (WT _ _ _ _ Lh La Ll _)).sub (.cons_cons _ (.cons_cons _ (.cons_cons _ ((List.Sublist.refl Lh).append ((List.Sublist.refl La).append ((List.Sublist.refl Ll).append ((List.Sublist.refl _).append (Ai Lg _))))))));exact h _ _ (AV.mk (sb:=sb) (s:={s with log:=some g}) (m:=m) sq es c hsq2 ha hc Lh hvh a3 c3 La hv3 lv Ll hl3 (ptr bl) _ (GO.some bl g) mb2 Lm hm tm2 et2 ct2 ks2 ht Lt2 hts LF hF) hS
theorem AV.setLogN{w0 w:World}{T:List Nat}{sb f:Nat}{s:AL}{m:AJ}{L:AH}(hO:AV sb f s m L)(hS:St w0 T L w){K:World→Prop}(h: ∀L' w',AV sb f {s with log:=none} m L'→St w0 T L' w'→K w'):Ik w sb (0+11) [.pointer none] K:=by
 obtain⟨sq,es,c,hsq2,ha,hc,Lh,hvh,a3,c3,La,hv3,lv,Ll,hl3,gv,Lg,hg3,mb2,Lm,hm,tm2,et2,ct2,ks2,ht,Lt2,hts,LF,hF⟩:=hO;refine hS.q ?_;intro w8 hS;have hS:=hS.sub (.cons_cons _ (.cons_cons _ (.cons_cons _ ((List.Sublist.refl Lh).append ((List.Sublist.refl La).append ((List.Sublist.refl Ll).append (Ai Lg _)))))));exact h _ _ (AV.mk (sb:=sb) (s:={s with log:=none}) (m:=m) sq es c hsq2 ha hc Lh hvh a3 c3 La hv3 lv Ll hl3 (.pointer none) [] GO.none mb2 Lm hm tm2 et2 ct2 ks2 ht Lt2 hts LF hF) hS
theorem AV.setList{w0 w:World}{T:List Nat}{sb f bl:Nat}{s:AL}{m:AJ}{L:AH}(hO:AV sb f s m L){g:BF}(hS:St w0 T ((bl,HO f g)::L) w){K:World→Prop}(h: ∀L' w',AV sb f {s with list:=some g} m L'→St w0 T L' w'→K w'):Ik w sb (0+10) [ptr bl] K:=by
 obtain⟨sq,es,c,hsq2,ha,hc,Lh,hvh,a3,c3,La,hv3,lv,Ll,hl3,gv,Lg,hg3,mb2,Lm,hm,tm2,et2,ct2,ks2,ht,Lt2,hts,LF,hF⟩:=hO;refine hS.q ?_;intro w8 hS;have hS:=St.perm (hS.sub (.cons_cons _ (.cons_cons _ (.cons_cons _ (.cons_cons _ ((List.Sublist.refl Lh).append ((List.Sublist.refl La).append (Ai Ll _)))))))) (XQ _ _ _ _ Lh La _);exact h _ _ (AV.mk (sb:=sb) (s:={s with list:=some g}) (m:=m) sq es c hsq2 ha hc Lh hvh a3 c3 La hv3 (ptr bl) _ (GO.some bl g) gv Lg hg3 mb2 Lm hm tm2 et2 ct2 ks2 ht Lt2 hts LF hF) hS
theorem AV.setListN{w0 w:World}{T:List Nat}{sb f:Nat}{s:AL}{m:AJ}{L:AH}(hO:AV sb f s m L)(hS:St w0 T L w){K:World→Prop}(h: ∀L' w',AV sb f {s with list:=none} m L'→St w0 T L' w'→K w'):Ik w sb (0+10) [.pointer none] K:=by
 obtain⟨sq,es,c,hsq2,ha,hc,Lh,hvh,a3,c3,La,hv3,lv,Ll,hl3,gv,Lg,hg3,mb2,Lm,hm,tm2,et2,ct2,ks2,ht,Lt2,hts,LF,hF⟩:=hO;refine hS.q ?_;intro w8 hS;have hS:=hS.sub (.cons_cons _ (.cons_cons _ (.cons_cons _ ((List.Sublist.refl Lh).append ((List.Sublist.refl La).append (Ai Ll _))))));exact h _ _ (AV.mk (sb:=sb) (s:={s with list:=none}) (m:=m) sq es c hsq2 ha hc Lh hvh a3 c3 La hv3 (.pointer none) [] GO.none gv Lg hg3 mb2 Lm hm tm2 et2 ct2 ks2 ht Lt2 hts LF hF) hS
theorem AV.versP{sb f:Nat}{s:AL}{m:AJ}{L:AH}(hO:AV sb f s m L): ∃a ca,(-9223372036854775808≤s.v.wal∧s.v.wal≤9223372036854775807∧ -9223372036854775808≤s.v.next∧s.v.next≤9223372036854775807∧ -9223372036854775808≤s.v.seq∧s.v.seq≤9223372036854775807)∧ ∀w,Holds L w→(∀j v,(C8 a ca s.v)[j]?=some v→w.cell? ⟨sb,6+j,none⟩=some v)∧Gz w a ca s.v:=by
 obtain⟨sq,es,c,hsq,ha,hc,Lh,hvh,a,ca,La,hv,lv,Ll,hl,gv,Lg,hg,mb,Lm,hm,tm,et,ct,ks,ht,Lt,hts,LF,hF⟩:=hO;refine⟨a,ca,hv.rng,λw hw=>⟨λj v hj=>?_,hv.at (St.enter hw)⟩⟩;refine(St.enter hw).cell (b:=sb) (off:=6+j) ?_
 match j with
 |0=>exact hj
 |1=>exact hj
 |2=>exact hj
 |3=>exact hj
 |j+4=>simp[C8]at hj
theorem Mw{C:World→Prop}{n b off:Nat}{l:List Value}(h: ∀w',C w'→ ∀j v,l[j]?=some v→w'.cell? ⟨b,off+j,none⟩=some v)(hn:l.length=n){K:List Value→Prop}(hk:K l):GM C n b off K:=⟨⟨l,hn,h,hk⟩⟩
def BJ(s:AL):AL:={s with v:={s.v with wal:=s.v.next,next:=s.v.next+2}}
def Cp(s:AL)(m:AJ)(ps:List AE):Int×AJ:=Cd m (Aa s.v.next) ps
def C7(s:AL)(m:AJ)(ps:List AE):Int×AJ:=Cd (Cp s m ps).2 (AX (s.v.next+1)) (Ay (BJ s).v)
def DT(s:AL)(m:AJ)(ps:List AE):Int×AJ:=CE (C7 s m ps).2 BW (AX (s.v.next+1))
def Bi(s:AL)(m:AJ)(ps:List AE):Int×AJ:=Cv (DT s m ps).2 BW Bf
def NH(s:AL)(m:AJ):AL:={BJ s with log:=some (D7 m (Aa s.v.next))}
def GD(s:AL)(m:AJ):AL:={NH s m with list:=some (D7 m (AX (s.v.next+1)))}
inductive FH(s:AL)(m:AJ)(ps:List AE):Int→AL→AJ→Prop where
 |e1 (h:(Cp s m ps).1≠0):FH s m ps (Cp s m ps).1 (BJ s) (Cp s m ps).2
 |e2 (h1:(Cp s m ps).1=0) (h:(C7 s m ps).1≠0):FH s m ps (C7 s m ps).1 (BJ s) (C7 s m ps).2
 |e3 (h1:(Cp s m ps).1=0) (h2:(C7 s m ps).1=0) (h:(DT s m ps).1≠0):FH s m ps (DT s m ps).1 (BJ s) (DT s m ps).2
 |e4 (h1:(Cp s m ps).1=0) (h2:(C7 s m ps).1=0) (h3:(DT s m ps).1=0) (h:(Bi s m ps).1≠0):FH s m ps (Bi s m ps).1 (BJ s) (Bi s m ps).2
 |e5 (s':AL) (h1:(Cp s m ps).1=0) (h2:(C7 s m ps).1=0) (h3:(DT s m ps).1=0) (h4:(Bi s m ps).1=0) (h:C5 (Bi s m ps).2 (Aa s.v.next)≠0):FH s m ps (C5 (Bi s m ps).2 (Aa s.v.next)) s' (Bi s m ps).2
 |e6 (s':AL) (h1:(Cp s m ps).1=0) (h2:(C7 s m ps).1=0) (h3:(DT s m ps).1=0) (h4:(Bi s m ps).1=0) (h5:C5 (Bi s m ps).2 (Aa s.v.next)=0) (h:C5 (Bi s m ps).2 (AX (s.v.next+1))≠0):FH s m ps (C5 (Bi s m ps).2 (AX (s.v.next+1))) s' (Bi s m ps).2
 |e7 (h1:(Cp s m ps).1=0) (h2:(C7 s m ps).1=0) (h3:(DT s m ps).1=0) (h4:(Bi s m ps).1=0) (h5:C5 (Bi s m ps).2 (Aa s.v.next)=0) (h6:C5 (Bi s m ps).2 (AX (s.v.next+1))=0) (ns:List AE) (hp:ns.Perm ((Bi s m ps).2.files.map (·.1))):
   FH s m ps (DB (GD s (Bi s m ps).2) (s.v.next+1) ns (Bi s m ps).2).1 (GD s (Bi s m ps).2) (DB (GD s (Bi s m ps).2) (s.v.next+1) ns (Bi s m ps).2).2
def Rp(n:Nat):VM→List EM→VM→Prop
 |v,[],v'=>v=v'
 |v,e::es,v'=>(Al e).length≤65536∧Fk (Al e)=some e∧ ∃u,BN v e=some u∧u.files.length≤n∧Rp n u es v'
theorem Rp.app{n:Nat}: ∀{es fs:List EM}{v u x:VM},Rp n v es u→Rp n u fs x→Rp n v (es++fs) x
 |[],fs,v,u,x,h1,h2=>by cases h1;exact h2
 |e::es,fs,v,u,x,⟨h1,h2,y,h3,h4,h5⟩,h6=>⟨h1,h2,y,h3,h4,h5.app h6⟩
theorem Rp.mono{n m:Nat}(hl:n≤m): ∀{es:List EM}{v u:VM},Rp n v es u→Rp m v es u
 |[],v,u,h=>h
 |e::es,v,u,⟨h1,h2,y,h3,h4,h5⟩=>⟨h1,h2,y,h3,Au h4 hl,h5.mono hl⟩
theorem Rp.ok{n:Nat}: ∀{es:List EM}{v u:VM},Rp n v es u→Bb (es.map Al)=true
 |[],v,u,h=>rfl
 |e::es,v,u,⟨h1,h2,y,h3,h4,h5⟩=>by
  have:=h5.ok;simp only[Bb,A4,List.all_cons,Bool.and_eq_true,decide_eq_true_eq]at this⊢;exact⟨h1,this⟩
theorem Rp.one{n:Nat}{v u:VM}{e:EM}(h1:(Al e).length≤65536)(h2:Fk (Al e)=some e)(h3:BN v e=some u)(h4:u.files.length≤n):Rp n v [e] u:=⟨h1,h2,u,h3,h4,rfl⟩
inductive Rt(t:AE):VM→Nat→VM→Nat→Prop where
 |refl (v:VM) (k:Nat):Rt t v k v k
 |head {v v' u:VM} {k k' j:Nat} (h:next t v k=some (v',k')) (r:Rt t v' k' u j):Rt t v k u j
theorem Rt.snoc{t:AE}{v u x:VM}{k j i:Nat}(h:Rt t v k u j)(hn:next t u j=some (x,i)):Rt t v k x i:=by
 induction h with
 |refl v k=>exact .head hn (.refl _ _)
 |head h _ ih=>exact .head h (ih hn)
theorem Rp.read{n:Nat}(tail:AE): ∀{es:List EM}{u v:VM}(pre:AE),u.files.length≤n→Rp n u es v→(B7 (pre++(AQ (es.map Al)++tail)) (pre.length+(AQ (es.map Al)).length)).2.2≠0→
  Rd (pre++(AQ (es.map Al)++tail)) u pre.length (v,pre.length+(AQ (es.map Al)).length)∧ ∀x j,Rt (pre++(AQ (es.map Al)++tail)) u pre.length x j→x.files.length≤n
 |[],u,v,pre,hu,h,hf=>by
  cases h;have hno:next (pre++(AQ (([]:List EM).map Al)++tail)) u pre.length=none:=by
   have hf:(B7 (pre++(AQ (([]:List EM).map Al)++tail)) pre.length).2.2≠0:=hf;unfold next
   rw[if_neg hf]
  refine⟨.stop hno,λx j hr=>?_⟩;cases hr with
  |refl=>exact hu
  |head h' _=>rw[hno]at h';cases h'
 |e::es,u,v,pre,hu,⟨h1,h2,y,h3,h4,h5⟩,hf=>by
  have he:pre++(AQ ((e::es).map Al)++tail)=(pre++Dm (Al e))++(AQ (es.map Al)++tail):=by simp[AQ]
  have hl:(AQ ((e::es).map Al)).length=(Dm (Al e)).length+(AQ (es.map Al)).length:=by simp[AQ]
  have hfl:=Mp (Al e);have hff:=VU pre (Al e) (AQ (es.map Al)++tail) h1;rw[he,hl,←Gn,←AP]at hf;obtain⟨i1,i2⟩:=Rp.read tail (pre++Dm (Al e)) h4 h5 hf;have hnx:next (pre++(AQ ((e::es).map Al)++tail)) u pre.length=some (y,(pre++Dm (Al e)).length):=by
   have e3:pre++(AQ ((e::es).map Al)++tail)=pre++(Dm (Al e)++(AQ (es.map Al)++tail)):=by simp[AQ]
   unfold next
   rw[e3,hff];simp only[if_true,h2,h3];rw[AP,hfl,Nat.add_comm (Al e).length 8]
  rw[he]at hnx⊢;rw[hl,←Gn,←AP];refine⟨.step hnx i1,λx j hr=>?_⟩;cases hr with
  |refl=>exact hu
  |head h' r=>rw[hnx]at h';cases h';exact i2 x j r
/-! ## The list of a version-/
theorem bJ{v:VM}{e:EM}(hst:GF v e=true)(hd:e.del=[])(hg:Gb e.next (v.files++e.add)):BN v e=some ⟨Dj (v.files++e.add),e.wal,e.next,e.seq⟩:=by
 have hdl:Gi e v.files=true:=by unfold Gi;rw[hd];rfl
 have hk:Eh e v.files=v.files:=by unfold Eh;rw[hd];simp
 unfold BN;rw[hst,hdl,hk,Pv e.add v.files hg];rfl
theorem dE{α:Type}(l:List α)(i:Nat):l.take (i*2000)++(l.drop (i*2000)).take 2000=l.take ((i+1)*2000):=by
 rw[Nat.succ_mul,List.take_add]
theorem UY{v:VM}(hv:DA v){n:Nat}(hn:v.files.length≤n):Rp n Cs (JU v) v:=by
 obtain⟨w1,w2⟩:=hv.whole;have hso:Dj v.files=v.files:=congrArg VM.files hv.good.so;have hnn:=hv.good.nn;have hpart: ∀i,(Al (C3 v i)).length≤65536∧Fk (Al (C3 v i))=some (C3 v i):=λi=>by
  have hpl:(C3 v i).add.length≤2000:=by
   show((v.files.drop (i*2000)).take 2000).length≤2000;rw[Ba];omega
  have h1:=N9 (M7 w2 i) AA rfl;refine⟨AA,(Mc AA).2 ⟨rfl,M7 w2 i,?_⟩⟩;unfold C6 at w1⊢;simp only[Bool.and_eq_true,Db]at w1⊢;exact⟨⟨λf hf=>w1.1.1 f (List.mem_of_mem_drop (HJ hf)),w1.1.2⟩,w1.2⟩
 have hgood: ∀i,Gb v.next (v.files.take i):=λi=>⟨λf hf=>hv.good.files.1 f (HJ hf),hv.good.files.2.sublist ((List.take_sublist i v.files).map _)⟩;have step: ∀i(u:VM),u.next≤v.next→u.seq≤v.seq→u.files.Perm (v.files.take (i*2000))→BN u (C3 v i)=some ⟨Dj (v.files.take ((i+1)*2000)),v.wal,v.next,v.seq⟩:=λi u h1 h2 h3=>by
  have hp:(u.files++(C3 v i).add).Perm (v.files.take ((i+1)*2000)):=by
   rw[←dE];exact h3.append_right _
  have hst:GF u (C3 v i)=true:=by
   have:=((Mc (by have:=(hpart i).1;omega)).1 (hpart i).2).2.2;unfold GF;rw[this];simp only[Bool.true_and,Bool.and_eq_true,decide_eq_true_eq];exact⟨h1,h2⟩
  rw[bJ hst rfl ((hgood _).perm hp),R7 hp];rfl
 have hz:(Cs.files).Perm (v.files.take (0*2000)):=by simp[Cs]
 have key: ∀k,1≤k→Rp n Cs ((List.range k).map (C3 v)) ⟨Dj (v.files.take (k*2000)),v.wal,v.next,v.seq⟩:=by
  intro k
  induction k with
  |zero=>intro h;omega
  |succ k ih=>
   intro _;rw[List.range_succ,A7];have hlen:(Dj (v.files.take ((k+1)*2000))).length≤n:=by rw[LZ,Ba];omega
   by_cases hk:k=0
   ·subst hk;exact Rp.one (hpart 0).1 (hpart 0).2 (step 0 Cs hnn.2.1 hnn.2.2 hz) hlen
   ·refine(ih AA).app (Rp.one (hpart k).1 (hpart k).2 (step k _ (EZ _) (EZ _) (JB _)) hlen)
 have hN:1≤EU v:=by unfold EU;omega
 have h:=key (EU v) hN;rw[HL (by unfold EU;omega),hso]at h;exact h
theorem OB(v:VM):Ay v=(JU v).map Al:=rfl
end Go.Proofs.YtkgibdhpijdbfaaGreatDoor
