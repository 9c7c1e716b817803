/- Texts of this claim, one behind the other. -/
import Derived.Test.YtkgibdhpijdbfaaGreatDoorZ38
set_option linter.unusedVariables false
set_option linter.unusedSimpArgs false
set_option maxHeartbeats 16000000
namespace Go.Proofs.YtkgibdhpijdbfaaGreatDoor
open Go Go.Eng Go.Proofs Go.Srt
def Ct(s:AM)(list:Int)(nm:AE):Bool:=decide (nm=Bg)||(decide ((Ej nm).1=109)&&decide ((Ej nm).2.1=list))||(decide ((Ej nm).1=119)&&decide ((Ej nm).2.1=s.v.wal))||(decide ((Ej nm).1=116)&&(Al (Ej nm).2.1 s.tabs).isSome)
def DF(s:AM)(list:Int):List AE→AJ→Int×AJ
 |[],m=>(0,m)
 |nm::r,m=>if Ct s list nm=true then DF s list r m else if(BA m nm).1≠0 then BA m nm else DF s list r (BA m nm).2
theorem bX{s:AM}{list:Int}{m mi:AJ}{ns:List AE}{k:Nat}(h:DF s list ns m=DF s list (ns.drop k) mi)(hk:k<ns.length):
  DF s list ns m=if Ct s list ns[k]=true then DF s list (ns.drop (k+1)) mi else if(BA mi ns[k]).1≠0 then BA mi ns[k]else DF s list (ns.drop (k+1)) (BA mi ns[k]).2:=by
 rw[h,FQ hk];rfl
def Yy(sb f:Nat)(s:AM)(m:AJ)(list:Int)(w:World)(T0:List Nat)(v:Value)(w':World):Prop:=(m.off=true∧v= .int .i64 7∧ ∃L',AW sb f s m L'∧St w T0 L' w')∨
 (m.off=false∧ ∃ns:List AE,ns.Perm (m.files.map (·.1))∧v= .int .i64 (DF s list ns m).1∧ ∃L',AW sb f s (DF s list ns m).2 L'∧St w T0 L' w')
theorem AW.tabQ{sb f:Nat}{s:AM}{m:AJ}{L:AH}(hO:AW sb f s m L): ∃tm et ct ks,MapC AY (λb:Nat=>ptr b) et ct ks∧(∀n,(Al n ks).isSome=(Al n s.tabs).isSome)∧ ∀w,Holds L w→w.cell? ⟨sb,13,none⟩=some (.map (some tm))∧w.heap[tm]?=some (.map et ct):=by
 obtain⟨sq,es,c,hsq,ha,hc,Lh,hvh,a,ca,La,hv,lv,Ll,hl,gv,Lg,hg,mb,Lm,hm,tm,et,ct,ks,ht,Lt,hts,LF,hF⟩:=hO;have hkk:=hts.keys;refine⟨tm,et,ct,ks,ht,λn=>?_,λw hw=>⟨(St.enter hw).cell (b:=sb) (off:=13) rfl,(St.enter hw).mem (b:=tm)⟩⟩;have h1:=JX (k:=n) (l:=ks);have h2:=JX (k:=n) (l:=s.tabs);rw[hkk]at h1;have h3:Al n ks=none↔Al n s.tabs=none:=h1.trans h2.symm;cases e1:Al n ks<;>cases e2:Al n s.tabs<;>simp_all
theorem SV(c:UInt8)(k:Nat)(hk:k<256):(c=UInt8.ofNat k)↔((c.toNat:Int)=(k:Int)):=by
 constructor
 ·rintro rfl;simp[UInt8.toNat_ofNat'];omega
 ·intro h;apply UInt8.toNat_inj.1;simp[UInt8.toNat_ofNat'];omega
set_option maxRecDepth 8000 in
theorem Z3{w:World}{sb f A:Nat}{s:AM}{m:AJ}{L:AH}(hO:AW sb f s m L)(hh:Holds L w)(hG:Bp w (keys L))(list:Int)(hB:FB A m)(hA:A+m.files.length≤4611686018427387904)(hN:m.files.length≤549755813888):
  Cl Tryz.prog o8 [ptr sb,.int .i64 list] w λv w'=>Yy sb f s m list w (keys L) v w':=by
 have hS:=St.enter hh;generalize hT:keys L=T0 at hS hG⊢;refine iL rfl ?_;refine jq ⟨?_⟩;refine Eb (hO.fC hS.holds) ?_;refine jq ⟨?_⟩;refine Cl.mono (hO.list hS.holds hB AA) ?_;rintro _ w1(⟨hoff,rfl,hS'⟩|⟨hoff,ns,an,cn,Ln,hp,rfl,hvn,hS'⟩)
 ·have hS:=hS.call (L:=L) hS';refine jq ⟨?_⟩;exact .inl ⟨hoff,rfl,L,hO,hS⟩
 ·have hS:=hS.call (L:=L) hS';have hnl:ns.length≤m.files.length:=by have:=hp.length_eq;rw[BM]at this;omega
  have hnb: ∀n∈ns,n.length≤40:=λn hn=>by
   obtain⟨x,hx,rfl⟩:=BV.1 (hp.mem_iff.1 hn);exact hB.name x hx
  refine jq ⟨?_⟩;refine AL.loop (λk:Nat=>[(0,ptr sb),(1,.int .i64 list),(25,.slice an ns.length cn),(26,.int .i64 ns.length),(27,.int .i64 k)])
   (λk w'=>k≤ns.length∧ ∃mi L2,DF s list ns m=DF s list (ns.drop k) mi∧FB (A+k) mi∧AW sb f s mi L2∧St w T0 (Ln++L2) w') (λk=>ns.length-k) 0
   ⟨rfl,rfl,rfl,rfl,rfl,trivial⟩ ⟨Ag _,m,L,by rw[List.drop_zero],hB,hO,hS⟩ ?_
  clear hS hS';rintro k w2⟨hk,mi,L2,hcl,hBi,hO2,hS⟩;by_cases hkl:k<ns.length
  ·obtain⟨gn,tn,rfl, -, -, -,rfl⟩: ∃g l',an=some ⟨g,0,none⟩∧(ns.map AG).length=ns.length*1∧(ns.map AG).length+l'.length=cn*1∧ns.length≤cn∧Ln=[(g,.cells ⟨ns.map AG++l'⟩ C3 (0,0))]:=by
    rcases hvn.inv with⟨_,h,_⟩|h
    ·omega
    ·exact h
   have hget:(ns.map AG++tn)[k]?=some (AG ns[k]):=by
    rw[Cn (by rw[BM];exact hkl)];simp[hkl]
   have hstep:=bX hcl hkl;have hn40:=hnb _ (Ca hkl);generalize ns[k]=n at hget hstep hn40;refine jq ⟨?_⟩;refine hS.ld (v:=AG n) (by rw[show 0+(k:Int).toNat*1=k by omega];exact hget) ?_;refine jq ⟨?_⟩;refine Cl.mono (TB (t:=n) AA (hG.keep hS).err (hG.keep hS).tab) ?_;rintro _ w3⟨rfl,hS'⟩;have hS:=hS.call0 hS';have hkp:Ct s list n=(decide (n=Bg)||(decide ((Ej n).1=109)&&decide ((Ej n).2.1=list))||(decide ((Ej n).1=119)&&decide ((Ej n).2.1=s.v.wal))||(decide ((Ej n).1=116)&&(Al (Ej n).2.1 s.tabs).isSome)):=rfl
   unfold Jc;obtain⟨pn,hpn⟩: ∃pn,Ej n=pn:=⟨_,rfl⟩;rw[hpn]at hkp⊢;obtain⟨c,z,ok⟩:=pn;simp only at hkp⊢;have d1:decide (c=109)=decide ((c.toNat:Int)=109):=decide_eq_decide.2 (SV c 109 AC);have d2:decide (c=119)=decide ((c.toNat:Int)=119):=decide_eq_decide.2 (SV c 119 AC);have d3:decide (c=116)=decide ((c.toNat:Int)=116):=decide_eq_decide.2 (SV c 116 AC);rw[d1,d2,d3]at hkp;have hcb:=c.toNat_lt;refine jq ⟨?_⟩
   by_cases hcur:n=[67,85,82,82,69,78,84]
   ·have hkt:Ct s list n=true:=by rw[hkp,decide_eq_true (show n=Bg from hcur)];rfl
    subst hcur;refine jq ⟨?_⟩;rw[if_pos hkt]at hstep;refine jq ⟨?_⟩;exact⟨k+1,⟨rfl,rfl,rfl,rfl,rfl,trivial⟩,⟨hkl,mi,L2,hstep,hBi.mono AA,hO2,hS⟩,AA⟩
   ·have hcur2:decide (n=Bg)=false:=decide_eq_false hcur;by_cases h109:(c.toNat:Int)=109
    ·by_cases hzl:z=list
     ·have hkt:Ct s list n=true:=by rw[hkp];simp[h109,hzl]
      refine jq ⟨?_⟩;rw[if_pos hkt]at hstep;refine jq ⟨?_⟩;exact⟨k+1,⟨rfl,rfl,rfl,rfl,rfl,trivial⟩,⟨hkl,mi,L2,hstep,hBi.mono AA,hO2,hS⟩,AA⟩
     ·have hkt:Ct s list n=false:=by rw[hkp,hcur2];simp[h109,hzl]
      refine jq ⟨?_⟩;rw[if_neg (by rw[hkt];simp)]at hstep;refine jq ⟨?_⟩;refine Eb (hO2.fC (hS.part (L:=L2))) ?_;refine jq ⟨?_⟩;refine Cl.mono (hO2.delete (hS.part (L:=L2)) n hBi AA) ?_;rintro _ w4⟨rfl,L3,hO3,hS'⟩;have hS:=hS.call (L:=L2) hS';have hB3:=hBi.del n;generalize BA mi n=dm at hO3 hB3 hstep⊢;obtain⟨e3,m3⟩:=dm;simp only at hO3 hB3 hstep⊢;by_cases he3:e3=0
      ·subst he3;rw[if_neg AB]at hstep;refine jq ⟨?_⟩;exact⟨k+1,⟨rfl,rfl,rfl,rfl,rfl,trivial⟩,⟨hkl,m3,L3,hstep,hB3,hO3,hS⟩,AA⟩
      ·rw[if_pos he3]at hstep;refine jq ⟨?_⟩;exact .inr ⟨hoff,ns,hp,by rw[hstep],L3,by rw[hstep];exact hO3,hS.sub (Ah _ _)⟩
    ·by_cases h119:(c.toNat:Int)=119
     ·by_cases hzw:z=s.v.wal
      ·have hkt:Ct s list n=true:=by rw[hkp];simp[h119,hzw]
       refine jq ⟨?_⟩;refine Eb (hO2.walC (hS.part (L:=L2))) ?_;refine jq ⟨?_⟩;rw[if_pos hkt]at hstep;refine jq ⟨?_⟩;exact⟨k+1,⟨rfl,rfl,rfl,rfl,rfl,trivial⟩,⟨hkl,mi,L2,hstep,hBi.mono AA,hO2,hS⟩,AA⟩
      ·have hkt:Ct s list n=false:=by rw[hkp,hcur2];simp[h119,hzw]
       refine jq ⟨?_⟩;refine Eb (hO2.walC (hS.part (L:=L2))) ?_;refine jq ⟨?_⟩;rw[if_neg (by rw[hkt];simp)]at hstep;refine jq ⟨?_⟩;refine Eb (hO2.fC (hS.part (L:=L2))) ?_;refine jq ⟨?_⟩;refine Cl.mono (hO2.delete (hS.part (L:=L2)) n hBi AA) ?_;rintro _ w4⟨rfl,L3,hO3,hS'⟩;have hS:=hS.call (L:=L2) hS';have hB3:=hBi.del n;generalize BA mi n=dm at hO3 hB3 hstep⊢;obtain⟨e3,m3⟩:=dm;simp only at hO3 hB3 hstep⊢
       by_cases he3:e3=0
       ·subst he3;rw[if_neg AB]at hstep;refine jq ⟨?_⟩;exact⟨k+1,⟨rfl,rfl,rfl,rfl,rfl,trivial⟩,⟨hkl,m3,L3,hstep,hB3,hO3,hS⟩,AA⟩
       ·rw[if_pos he3]at hstep;refine jq ⟨?_⟩;exact .inr ⟨hoff,ns,hp,by rw[hstep],L3,by rw[hstep];exact hO3,hS.sub (Ah _ _)⟩
     ·by_cases h116:(c.toNat:Int)=116
      ·obtain⟨tm,et,ct,ks,hks,hkk,htp⟩:=hO2.tabQ;have hkz:=hkk z;refine jq ⟨?_⟩;refine Eb (htp _ (hS.part (L:=L2))).1 ?_;refine jq ⟨?_⟩;refine IT AK Bq.i64 rfl rfl Eo rfl (kvs:=ks) (λw' hw'=>⟨et,ct,by subst hw';exact(htp _ (hS.part (L:=L2))).2,hks.of⟩) ?_;cases hkg:Al z ks with
       |some tb=>
        rw[hkg]at hkz;have hkt:Ct s list n=true:=by rw[hkp,←hkz];simp[h116]
        simp only[kD,FD];refine jq ⟨?_⟩;rw[if_pos hkt]at hstep;refine jq ⟨?_⟩;exact⟨k+1,⟨rfl,rfl,rfl,rfl,rfl,trivial⟩,⟨hkl,mi,L2,hstep,hBi.mono AA,hO2,hS⟩,AA⟩
       |none=>
        rw[hkg]at hkz;have hkt:Ct s list n=false:=by rw[hkp,hcur2,←hkz];simp[h109,h119]
        simp only[Option.map_none,Option.getD_none];refine jq ⟨?_⟩;rw[if_neg (by rw[hkt];simp)]at hstep;refine jq ⟨?_⟩;refine Eb (hO2.fC (hS.part (L:=L2))) ?_;refine jq ⟨?_⟩;refine Cl.mono (hO2.delete (hS.part (L:=L2)) n hBi AA) ?_;rintro _ w4⟨rfl,L3,hO3,hS'⟩;have hS:=hS.call (L:=L2) hS';have hB3:=hBi.del n;generalize BA mi n=dm at hO3 hB3 hstep⊢;obtain⟨e3,m3⟩:=dm;simp only at hO3 hB3 hstep⊢;by_cases he3:e3=0
        ·subst he3;rw[if_neg AB]at hstep;refine jq ⟨?_⟩;exact⟨k+1,⟨rfl,rfl,rfl,rfl,rfl,trivial⟩,⟨hkl,m3,L3,hstep,hB3,hO3,hS⟩,AA⟩
        ·rw[if_pos he3]at hstep;refine jq ⟨?_⟩;exact .inr ⟨hoff,ns,hp,by rw[hstep],L3,by rw[hstep];exact hO3,hS.sub (Ah _ _)⟩
      ·have hkt:Ct s list n=false:=by rw[hkp,hcur2];simp[h109,h119,h116]
       refine jq ⟨?_⟩;rw[if_neg (by rw[hkt];simp)]at hstep;refine jq ⟨?_⟩;refine Eb (hO2.fC (hS.part (L:=L2))) ?_;refine jq ⟨?_⟩;refine Cl.mono (hO2.delete (hS.part (L:=L2)) n hBi AA) ?_;rintro _ w4⟨rfl,L3,hO3,hS'⟩;have hS:=hS.call (L:=L2) hS';have hB3:=hBi.del n;generalize BA mi n=dm at hO3 hB3 hstep⊢;obtain⟨e3,m3⟩:=dm;simp only at hO3 hB3 hstep⊢;by_cases he3:e3=0
       ·subst he3;rw[if_neg AB]at hstep;refine jq ⟨?_⟩;exact⟨k+1,⟨rfl,rfl,rfl,rfl,rfl,trivial⟩,⟨hkl,m3,L3,hstep,hB3,hO3,hS⟩,AA⟩
       ·rw[if_pos he3]at hstep;refine jq ⟨?_⟩;exact .inr ⟨hoff,ns,hp,by rw[hstep],L3,by rw[hstep];exact hO3,hS.sub (Ah _ _)⟩
  ·have hke:k=ns.length:=AA;subst hke;rw[IJ]at hcl;refine jq ⟨?_⟩;refine .inr ⟨hoff,ns,hp,by rw[hcl];rfl,L2,by rw[hcl];exact hO2,hS.sub (Ah _ _)⟩
theorem AW.setLog{w0 w:World}{T:List Nat}{sb f bl:Nat}{s:AM}{m:AJ}{L:AH}(hO:AW sb f s m L){g:BF}(hS:St w0 T ((bl,HQ f g)::L) w){K:World→Prop}(h: ∀L' w',AW sb f {s with log:=some g} m L'→St w0 T L' w'→K w'):IA w sb (0+11) [ptr bl] K:=by
 obtain⟨sq,es,c,hsq2,ha,hc,Lh,hvh,a3,c3,La,hv3,lv,Ll,hl3,gv,Lg,hg3,mb2,Lm,hm,tm2,et2,ct2,ks2,ht,Lt2,hts,LF,hF⟩:=hO;refine hS.q ?_;intro w8 hS;have hS:=(St.perm hS (WR _ _ _ _ Lh La Ll _)).sub (.cons_cons _ (.cons_cons _ (.cons_cons _ ((List.Sublist.refl Lh).append ((List.Sublist.refl La).append ((List.Sublist.refl Ll).append ((List.Sublist.refl _).append (Ah Lg _))))))));exact h _ _ (AW.mk (sb:=sb) (s:={s with log:=some g}) (m:=m) sq es c hsq2 ha hc Lh hvh a3 c3 La hv3 lv Ll hl3 (ptr bl) _ (GO.some bl g) mb2 Lm hm tm2 et2 ct2 ks2 ht Lt2 hts LF hF) hS
theorem AW.setLogN{w0 w:World}{T:List Nat}{sb f:Nat}{s:AM}{m:AJ}{L:AH}(hO:AW sb f s m L)(hS:St w0 T L w){K:World→Prop}(h: ∀L' w',AW sb f {s with log:=none} m L'→St w0 T L' w'→K w'):IA w sb (0+11) [.pointer none] K:=by
 obtain⟨sq,es,c,hsq2,ha,hc,Lh,hvh,a3,c3,La,hv3,lv,Ll,hl3,gv,Lg,hg3,mb2,Lm,hm,tm2,et2,ct2,ks2,ht,Lt2,hts,LF,hF⟩:=hO;refine hS.q ?_;intro w8 hS;have hS:=hS.sub (.cons_cons _ (.cons_cons _ (.cons_cons _ ((List.Sublist.refl Lh).append ((List.Sublist.refl La).append ((List.Sublist.refl Ll).append (Ah Lg _)))))));exact h _ _ (AW.mk (sb:=sb) (s:={s with log:=none}) (m:=m) sq es c hsq2 ha hc Lh hvh a3 c3 La hv3 lv Ll hl3 (.pointer none) [] GO.none mb2 Lm hm tm2 et2 ct2 ks2 ht Lt2 hts LF hF) hS
theorem AW.setList{w0 w:World}{T:List Nat}{sb f bl:Nat}{s:AM}{m:AJ}{L:AH}(hO:AW sb f s m L){g:BF}(hS:St w0 T ((bl,HQ f g)::L) w){K:World→Prop}(h: ∀L' w',AW sb f {s with list:=some g} m L'→St w0 T L' w'→K w'):IA w sb (0+10) [ptr bl] K:=by
 obtain⟨sq,es,c,hsq2,ha,hc,Lh,hvh,a3,c3,La,hv3,lv,Ll,hl3,gv,Lg,hg3,mb2,Lm,hm,tm2,et2,ct2,ks2,ht,Lt2,hts,LF,hF⟩:=hO;refine hS.q ?_;intro w8 hS;have hS:=St.perm (hS.sub (.cons_cons _ (.cons_cons _ (.cons_cons _ (.cons_cons _ ((List.Sublist.refl Lh).append ((List.Sublist.refl La).append (Ah Ll _)))))))) (XN _ _ _ _ Lh La _);exact h _ _ (AW.mk (sb:=sb) (s:={s with list:=some g}) (m:=m) sq es c hsq2 ha hc Lh hvh a3 c3 La hv3 (ptr bl) _ (GO.some bl g) gv Lg hg3 mb2 Lm hm tm2 et2 ct2 ks2 ht Lt2 hts LF hF) hS
theorem AW.setListN{w0 w:World}{T:List Nat}{sb f:Nat}{s:AM}{m:AJ}{L:AH}(hO:AW sb f s m L)(hS:St w0 T L w){K:World→Prop}(h: ∀L' w',AW sb f {s with list:=none} m L'→St w0 T L' w'→K w'):IA w sb (0+10) [.pointer none] K:=by
 obtain⟨sq,es,c,hsq2,ha,hc,Lh,hvh,a3,c3,La,hv3,lv,Ll,hl3,gv,Lg,hg3,mb2,Lm,hm,tm2,et2,ct2,ks2,ht,Lt2,hts,LF,hF⟩:=hO;refine hS.q ?_;intro w8 hS;have hS:=hS.sub (.cons_cons _ (.cons_cons _ (.cons_cons _ ((List.Sublist.refl Lh).append ((List.Sublist.refl La).append (Ah Ll _))))));exact h _ _ (AW.mk (sb:=sb) (s:={s with list:=none}) (m:=m) sq es c hsq2 ha hc Lh hvh a3 c3 La hv3 (.pointer none) [] GO.none gv Lg hg3 mb2 Lm hm tm2 et2 ct2 ks2 ht Lt2 hts LF hF) hS
theorem AW.versP{sb f:Nat}{s:AM}{m:AJ}{L:AH}(hO:AW sb f s m L): ∃a ca,(-9223372036854775808≤s.v.wal∧s.v.wal≤9223372036854775807∧ -9223372036854775808≤s.v.next∧s.v.next≤9223372036854775807∧ -9223372036854775808≤s.v.seq∧s.v.seq≤9223372036854775807)∧ ∀w,Holds L w→(∀j v,(DC a ca s.v)[j]?=some v→w.cell? ⟨sb,6+j,none⟩=some v)∧G0 w a ca s.v:=by
 obtain⟨sq,es,c,hsq,ha,hc,Lh,hvh,a,ca,La,hv,lv,Ll,hl,gv,Lg,hg,mb,Lm,hm,tm,et,ct,ks,ht,Lt,hts,LF,hF⟩:=hO;refine⟨a,ca,hv.rng,λw hw=>⟨λj v hj=>?_,hv.at (St.enter hw)⟩⟩;refine(St.enter hw).cell (b:=sb) (off:=6+j) ?_
 match j with
 |0=>exact hj
 |1=>exact hj
 |2=>exact hj
 |3=>exact hj
 |j+4=>simp[DC]at hj
theorem Mr{C:World→Prop}{n b off:Nat}{l:List Value}(h: ∀w',C w'→ ∀j v,l[j]?=some v→w'.cell? ⟨b,off+j,none⟩=some v)(hn:l.length=n){K:List Value→Prop}(hk:K l):GN C n b off K:=⟨⟨l,hn,h,hk⟩⟩
def BJ(s:AM):AM:={s with v:={s.v with wal:=s.v.next,next:=s.v.next+2}}
def Cr(s:AM)(m:AJ)(ps:List AE):Int×AJ:=Cd m (Aa s.v.next) ps
def DB(s:AM)(m:AJ)(ps:List AE):Int×AJ:=Cd (Cr s m ps).2 (AX (s.v.next+1)) (Ay (BJ s).v)
def DV(s:AM)(m:AJ)(ps:List AE):Int×AJ:=CE (DB s m ps).2 Bb (AX (s.v.next+1))
def Bj(s:AM)(m:AJ)(ps:List AE):Int×AJ:=Cx (DV s m ps).2 Bb Bg
def NC(s:AM)(m:AJ):AM:={BJ s with log:=some (D6 m (Aa s.v.next))}
def GD(s:AM)(m:AJ):AM:={NC s m with list:=some (D6 m (AX (s.v.next+1)))}
inductive FL(s:AM)(m:AJ)(ps:List AE):Int→AM→AJ→Prop where
 |e1 (h:(Cr s m ps).1≠0):FL s m ps (Cr s m ps).1 (BJ s) (Cr s m ps).2
 |e2 (h1:(Cr s m ps).1=0) (h:(DB s m ps).1≠0):FL s m ps (DB s m ps).1 (BJ s) (DB s m ps).2
 |e3 (h1:(Cr s m ps).1=0) (h2:(DB s m ps).1=0) (h:(DV s m ps).1≠0):FL s m ps (DV s m ps).1 (BJ s) (DV s m ps).2
 |e4 (h1:(Cr s m ps).1=0) (h2:(DB s m ps).1=0) (h3:(DV s m ps).1=0) (h:(Bj s m ps).1≠0):FL s m ps (Bj s m ps).1 (BJ s) (Bj s m ps).2
 |e5 (s':AM) (h1:(Cr s m ps).1=0) (h2:(DB s m ps).1=0) (h3:(DV s m ps).1=0) (h4:(Bj s m ps).1=0) (h:C9 (Bj s m ps).2 (Aa s.v.next)≠0):FL s m ps (C9 (Bj s m ps).2 (Aa s.v.next)) s' (Bj s m ps).2
 |e6 (s':AM) (h1:(Cr s m ps).1=0) (h2:(DB s m ps).1=0) (h3:(DV s m ps).1=0) (h4:(Bj s m ps).1=0) (h5:C9 (Bj s m ps).2 (Aa s.v.next)=0) (h:C9 (Bj s m ps).2 (AX (s.v.next+1))≠0):FL s m ps (C9 (Bj s m ps).2 (AX (s.v.next+1))) s' (Bj s m ps).2
 |e7 (h1:(Cr s m ps).1=0) (h2:(DB s m ps).1=0) (h3:(DV s m ps).1=0) (h4:(Bj s m ps).1=0) (h5:C9 (Bj s m ps).2 (Aa s.v.next)=0) (h6:C9 (Bj s m ps).2 (AX (s.v.next+1))=0) (ns:List AE) (hp:ns.Perm ((Bj s m ps).2.files.map (·.1))):
   FL s m ps (DF (GD s (Bj s m ps).2) (s.v.next+1) ns (Bj s m ps).2).1 (GD s (Bj s m ps).2) (DF (GD s (Bj s m ps).2) (s.v.next+1) ns (Bj s m ps).2).2
end Go.Proofs.YtkgibdhpijdbfaaGreatDoor
