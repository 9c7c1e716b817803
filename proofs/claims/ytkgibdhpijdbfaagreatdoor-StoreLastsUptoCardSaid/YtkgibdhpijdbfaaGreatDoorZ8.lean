/- Texts of this claim, one behind the other. -/
import Derived.Test.YtkgibdhpijdbfaaGreatDoorZ4
import Derived.Test.YtkgibdhpijdbfaaGreatDoorZ5
import Derived.Test.YtkgibdhpijdbfaaGreatDoorZ2
import Derived.Test.YtkgibdhpijdbfaaGreatDoorZ3
import Derived.Laws.IdiomStrings
import Derived.Laws.StructEq
set_option linter.unusedVariables false
set_option linter.unusedSimpArgs false
set_option maxHeartbeats 16000000
namespace Go.Eng
open Go
section
variable {β : Type} {sz : Nat} {cv : β → List Value}
theorem Kw(hc: ∀x,(cv x).length=sz)(l:List β):(l.flatMap cv).length=l.length*sz:=by
 induction l with
 |nil=>simp
 |cons p ps ih=>rw[E9,AP,ih,hc,Ah,HM,Nat.one_mul];omega
theorem Qo(P S:List β)(x:β):(P++x::S).flatMap cv=P.flatMap cv++(cv x++S.flatMap cv):=AB
theorem Mn(hc: ∀x,(cv x).length=sz)(l:List β)(tail:List Value)(k:Nat)(hk:k<l.length):((l.flatMap cv++tail).drop (k*sz)).take sz=cv l[k]:=by
 obtain⟨P,x,S,e1,e2,e3⟩:=Srt.cut_at hk;rw[e3];rw[e1,Qo,Aj];have hp:k*sz=(P.flatMap cv).length:=by rw[Kw hc,e2]
 rw[hp,List.drop_left,Aj];exact Gm (hc x)
theorem rB(hc: ∀x,(cv x).length=sz)(l:List β)(tail:List Value)(k:Nat)(hk:k<l.length)(y:β):FU (l.flatMap cv++tail) (k*sz) (cv y)=(l.set k y).flatMap cv++tail:=by
 obtain⟨P,x,S,e1,e2,e3⟩:=Srt.cut_at hk;have hp:k*sz=(P.flatMap cv).length:=by rw[Kw hc,e2]
 have e4:l.set k y=P++y::S:=by
  rw[e1,←e2,IK _ _ (AW _),Nat.sub_self];rfl
 rw[e4,e1,Qo,Qo];unfold FU;rw[hp];have e5:(P.flatMap cv).length+(cv y).length=(P.flatMap cv++cv x).length:=by rw[AP,hc,hc]
 rw[e5];have e6:P.flatMap cv++(cv x++S.flatMap cv)++tail=(P.flatMap cv++cv x)++(S.flatMap cv++tail):=AB;rw[show List.take (P.flatMap cv).length (P.flatMap cv++(cv x++S.flatMap cv)++tail)=P.flatMap cv by rw[Aj,List.take_left]];rw[e6,List.drop_left];simp
variable {w0 w : World} {T : List Nat} {H : AH} {g : Nat} {l : List β} {tail : List Value} {t : TypeId} {F : Obj → AH}
theorem St.ldEC(hc: ∀x,(cv x).length=sz)(_hS:St w0 T H w) [Slot H g (.cells ⟨l.flatMap cv++tail⟩ t (0,0)) F]{k q:Nat}(hk:k<l.length)(hq:q=k*sz){K:List Value→Prop}(hK:K (cv l[k])):GM (λw'=>St w0 T H w') sz g q K:=by
 refine⟨⟨_,hc _,λ_ h j v hv=>?_,hK⟩⟩;have hat:=Mn hc l tail k hk;refine h.cell ?_;rw[←hat,IJ]at hv
 split at hv
 ·rw[Iu]at hv;rw[hq];exact hv
 ·cases hv
theorem St.stE(hc: ∀x,(cv x).length=sz)(h1: ∀x,(cv x).all Value.oneCell'=true)(hS:St w0 T H w) [Slot H g (.cells ⟨l.flatMap cv++tail⟩ t (0,0)) F]{k q:Nat}(hk:k<l.length)(hq:q=k*sz){y:β}
  {K:World→Prop}(hK: ∀w',St w0 T (F (.cells ⟨(l.set k y).flatMap cv++tail⟩ t (0,0))) w'→K w'):Ik w g q (cv y) K:=by
 have hle:(k+1)*sz≤l.length*sz:=Gp _ hk;have hfit:k*sz+(cv y).length≤(l.flatMap cv++tail).length:=by
  rw[AP,Kw hc,hc];rw[HM,Nat.one_mul]at hle;omega
 subst hq;refine⟨⟨_,t,(0,0),hS.mem,.inl (Ag _),hfit,λv h=>Db.1 (h1 y) v h,?_⟩⟩;rw[rB hc l tail k hk y];exact hK _ (hS.setRow (l:=l.flatMap cv++tail))
theorem St.call1{w':World}{o:Obj}{L':AH}(hS:St w0 T [(g,o)] w)(h:St w [g] L' w'):St w0 T L' w':=hS.call (L:=[(g,o)]) h
end
theorem CG.half{z r:Int}{K:Value→Prop}(h0:0≤z∧z≤9223372036854775807)(hr:z / 2=r)(hk:K (.int .i64 r)):CG .i64 (z.fdiv (2 ^ (min (Int.toNat 1) (IntKind.bits .u64)))) K:=by
 have e:(2:Int) ^ (min (Int.toNat 1) (IntKind.bits .u64))=2:=AC;rw[e,Int.fdiv_eq_ediv_of_nonneg _ AC,hr];exact CG.nw AA hk
end Go.Eng
namespace Go.Proofs.YtkgibdhpijdbfaaGreatDoor
open Go Go.Eng Go.Proofs
theorem V6{w:World}{x:Int}:Cl Tryz.prog mG [.int .i64 x] w λv w'=>v= .bool false∧w=w':=by
 refine eE rfl ?_;refine jq ⟨?_⟩;simp only[decide_true,Bool.not_true];refine jq ⟨?_⟩;exact⟨rfl,rfl⟩
theorem N2{w:World}{x y:Int}:Cl Tryz.prog mE [.int .i64 x,.int .i64 y] w λv w'=>v= .int .i64 (F6 x y)∧w=w':=by
 unfold F6;refine eC rfl ?_;refine jq ⟨?_⟩;refine V6.mono ?_;rintro _ _⟨rfl,rfl⟩;refine jq ⟨?_⟩;refine V6.mono ?_;rintro _ _⟨rfl,rfl⟩;by_cases h1:x<y
 ·rw[if_pos h1];refine jq ⟨?_⟩;exact⟨rfl,rfl⟩
 ·rw[if_neg h1];by_cases h2:y<x
  ·rw[if_pos h2];refine jq ⟨?_⟩;exact⟨rfl,rfl⟩
  ·rw[if_neg h2];refine jq ⟨?_⟩;exact⟨rfl,rfl⟩
theorem Rf{w:World}{g:Nat}{a b:Int}(hh:Holds [(g,.cells ⟨[.int .i64 a,.int .i64 b]⟩ BX (0,0))] w):
  Cl Tryz.prog mF [.slice (some ⟨g,0,none⟩) 2 2] w λv w'=>v= .int .i64 (if a=0 then b else a)∧St w [g] [(g,.cells ⟨[.int .i64 a,.int .i64 b]⟩ BX (0,0))] w':=by
 have hS:St w [g] [(g,.cells ⟨[.int .i64 a,.int .i64 b]⟩ BX (0,0))] w:=St.enter hh;refine eD rfl ?_;refine jq ⟨?_⟩;refine AM.loop (λk:Nat=>[(3,.int .i64 0),(6,.slice (some ⟨g,0,none⟩) 2 2),(7,.int .i64 2),(8,.int .i64 k)])
  (λk w'=>(k≤2∧(0<k→a=0)∧(1<k→b=0))∧St w [g] [(g,.cells ⟨[.int .i64 a,.int .i64 b]⟩ BX (0,0))] w') (λk=>2-k) 0
  ⟨rfl,rfl,rfl,rfl,trivial⟩ ⟨⟨AA,nofun,nofun⟩,hS⟩ ?_
 clear hS;rintro k w1⟨⟨hk,h1,h2⟩,hS⟩
 match k,hk,h1,h2 with
 |0,hk,h1,h2=>
  (repeat(refine jt ⟨?_⟩;refine hS.q ?_;intro _ hS));refine jt ⟨?_⟩;by_cases ha:a=0
  ·(repeat(refine jt ⟨?_⟩;refine hS.q ?_;intro _ hS));refine jt ⟨?_⟩;exact⟨1,⟨rfl,rfl,rfl,rfl,trivial⟩,⟨⟨AA,λ_=>ha,nofun⟩,hS⟩,AA⟩
  ·rw[if_neg ha];(repeat(refine jt ⟨?_⟩;refine hS.q ?_;intro _ hS));refine jt ⟨?_⟩;exact⟨rfl,hS⟩
 |1,hk,h1,h2=>
  have ha:=h1 AA;rw[if_pos ha];(repeat(refine jt ⟨?_⟩;refine hS.q ?_;intro _ hS));refine jt ⟨?_⟩;by_cases hb:b=0
  ·(repeat(refine jt ⟨?_⟩;refine hS.q ?_;intro _ hS));refine jt ⟨?_⟩;exact⟨2,⟨rfl,rfl,rfl,rfl,trivial⟩,⟨⟨AA,λ_=>ha,λ_=>hb⟩,hS⟩,AA⟩
  ·(repeat(refine jt ⟨?_⟩;refine hS.q ?_;intro _ hS));refine jt ⟨?_⟩;exact⟨rfl,hS⟩
 |2,hk,h1,h2=>
  have ha:=h1 AA;have hb:=h2 AA;rw[if_pos ha];subst hb;(repeat(refine jt ⟨?_⟩;refine hS.q ?_;intro _ hS));refine jt ⟨?_⟩;exact⟨rfl,hS⟩
end Go.Proofs.YtkgibdhpijdbfaaGreatDoor
namespace Go.Proofs.YtkgibdhpijdbfaaGreatDoor
open Go Go.Eng
def Ak(n:Nat):AE:=if n<128 then [UInt8.ofNat n]else UInt8.ofNat (n % 128+128)::Ak (n / 128)
termination_by n
decreasing_by omega
theorem KJ{n:Nat}(h:n<128):Ak n=[UInt8.ofNat n]:=by rw[Ak,if_pos h]
theorem LD{n:Nat}(h: ¬n<128):Ak n=UInt8.ofNat (n % 128+128)::Ak (n / 128):=by rw[Ak,if_neg h]
theorem LG(n:Nat):1≤(Ak n).length:=by
 by_cases h:n<128
 ·rw[KJ h];simp
 ·rw[LD h];simp
theorem RV: ∀(k n:Nat),n<128 ^ (k+1)→(Ak n).length≤k+1
 |0,n,h=>by rw[KJ (by simpa using h)];simp
 |k+1,n,h=>by
  by_cases h2:n<128
  ·rw[KJ h2];simp
  ·rw[LD h2];have h3:128 ^ (k+1+1)=128 ^ (k+1)*128:=Nat.pow_succ ..;have:=RV k (n / 128) AA;simp only[Ah];omega
def Eb(z:Int):Nat:=if 0≤z then 2*z.toNat else 2*(-(z+1)).toNat+1
def Bg(z:Int):AE:=Ak (Eb z)
def Ci(zs:List Int):AE:=(zs.map Bg).flatten
def Bd(s:AE):AE:=Ak s.length++s
end Go.Proofs.YtkgibdhpijdbfaaGreatDoor
namespace Go.Proofs.YtkgibdhpijdbfaaGreatDoor
open Go Go.Eng Go.Proofs
theorem St.toBytes{P:Program}{T0:BL}(hT:BR P T0){t u e:TypeId}{i iu ie:TI}(hi:tf T0 t=some i)(hk:i.k= .slice e 1)(hiu:tf T0 u=some iu)(hku:iu.k= .str)(hie:tf T0 e=some ie)(hke:ie.k= .int .u8)
  {w0 w:World}{T:List Nat}{H:AH}(hS:St w0 T H w){s:AE}{K:Value→World→Prop}
  (h: ∀b c z fz w',s.length≤c∧s.length≤fz.1→St w0 T ((b,.cells ⟨s.map Ee++z⟩ e fz)::H) w'→K (.slice (some ⟨b,0,none⟩) s.length c) w'):Bm P (convert u t (AG s)) w K:=by
 have h1:=CZ hT hiu;rw[hku]at h1;have h2:=CZ hT hi;rw[hk]at h2;have h3:=CZ hT hie;rw[hke]at h3;have hge:=grownCap_ge w s.length 0 e;have e1:bytesRow ⟨⟨s⟩⟩ (grownCap w s.length 0 e)=⟨s.map Ee++List.replicate (grownCap w s.length 0 e-s.length) (.int .u8 0)⟩:=by
  apply Array.ext';simp[bytesRow];rfl
 have hrun:(convert u t (AG s)).run P w= .ok (.slice (some ⟨w.heap.size,0,none⟩) s.length (grownCap w s.length 0 e))
   (w.drew.alloc (.cells (bytesRow ⟨⟨s⟩⟩ (grownCap w s.length 0 e)) e ((bytesRow ⟨⟨s⟩⟩ (grownCap w s.length 0 e)).size,(bytesRow ⟨⟨s⟩⟩ (grownCap w s.length 0 e)).size+1))):=run_bytes_of_string w u t e ⟨⟨s⟩⟩ h1 h2.1 h3
 rw[e1]at hrun;exact Bm.of hrun (h _ _ _ _ _ ⟨hge,AB⟩ (hS.drew.alloc _))
inductive DK(b:Nat)(bs:AE):AH→Prop where
 |mk (a:Option Addr) (cap:Nat) (L:AH) (hv:AT GS 1 a bs.length cap (bs.map Ee) L):DK b bs ((b,.cells ⟨[.int .i64 bs.length,.slice a bs.length cap]⟩ aO (0,0))::L)
theorem MM{w:World}:Cl Tryz.prog n8 [] w λv w'=>∃b L,v=ptr b∧DK b [] L∧St w [] L w':=by
 have hS:=St.start w;refine gD rfl ?_;refine jq ⟨?_⟩;refine hS.al ?_;intro b w1 _ hS;refine jq ⟨?_⟩;exact⟨b,_,rfl,DK.mk none 0 [] AT.nil,hS⟩
theorem Pw{w:World}{b:Nat}{bs:AE}{L:AH}(hW:DK b bs L)(hh:Holds L w){a:Option Addr}{cap:Nat}{xs:AE}(ha:Arr w (keys L) a (xs.map Ee))(hlen:bs.length+xs.length≤140737488355328):
  Cl Tryz.prog oI [ptr b,.slice a xs.length cap] w λ_ w'=>∃L',DK b (bs++xs) L'∧St w (keys L) L' w':=by
 have hS:=St.enter hh;generalize hT:keys L=T0 at hS ha⊢;obtain⟨a0,c0,L0,hv⟩:=hW;refine gN rfl ?_;(repeat(refine jt ⟨?_⟩;refine hS.q ?_;intro _ hS));refine jt ⟨?_⟩;refine St.app (sz:=1) (m:=xs.length) AK rfl rfl rfl rfl hS hv (news:=xs.map Ee) AB ((hS.arrOld ha).sub AB) (by simp[Ee,Value.oneCell']) (by show(_+_)*1≤_;omega) AA ?_;intro a' c' L' w' hv' hS;have hl:(bs++xs).length=bs.length+xs.length:=AP
 rw[←hl,←A7]at hv';rw[←hl];(repeat(refine jt ⟨?_⟩;refine hS.q ?_;intro _ hS));refine jt ⟨?_⟩;refine⟨_,DK.mk a' c' L' hv',?_⟩;rw[show(((bs++xs).length:Nat):Int)=(bs.length:Int)+(xs.length:Int) by rw[hl];omega];exact hS
def SQ(n:Nat):Value:= .int .u64 n
theorem vO(m:Nat):HS .u8 (IntKind.u8.wrap (m:Int)) 128=(((UInt8.ofNat (m % 128+128)).toNat:Nat):Int):=by
 have e1:IntKind.u8.wrap (m:Int)=((m % 256:Nat):Int):=FY .u8 rfl m;rw[e1];have h:=FO m (show 0<256 by omega);have e2:m % 128=m % 256 % 128:=AA;rw[e2];generalize m % 256=r at h;have key: ∀r:Fin 256,HS .u8 ((r.val:Nat):Int) 128=(((UInt8.ofNat (r.val % 128+128)).toNat:Nat):Int):=by decide+kernel
 exact key ⟨r,h⟩
theorem u7(ns:List Nat)(k:Nat)(hk:k<ns.length):((ns.take (k+1)).map Ak).flatten=((ns.take k).map Ak).flatten++Ak ns[k]:=by
 rw[Bq hk,A7,kC,A4,GV,Dc,Gj,BT]
theorem EO(n:Nat)(h:n<18446744073709551616):(Ak n).length≤10:=RV 9 n (Nat.lt_of_lt_of_le h AC)
theorem u6(ns:List Nat)(h: ∀n∈ns,n<18446744073709551616):((ns.map Ak).flatten).length≤10*ns.length:=by
 induction ns with
 |nil=>simp
 |cons n r ih=>
  have h1:=EO n (h n AB);have h2:=ih (λm hm=>h m (CH _ hm));simp only[A4,Dc,AP,Ah];omega
theorem bX(m:Nat)(h:m<256):Ee (UInt8.ofNat m)= .int .u8 (m:Int):=by
 have:(UInt8.ofNat m).toNat=m:=by simp;omega
 unfold Ee;rw[this]
theorem Ge{w:World}{b:Nat}{bs:AE}{L:AH}(hW:DK b bs L)(hh:Holds L w){a:Option Addr}{cap:Nat}{ns:List Nat}(ha:Arr w (keys L) a (ns.map SQ))(hn: ∀n∈ns,n<18446744073709551616)(_hl:ns.length≤1099511627776)(hlen:bs.length+10*ns.length≤140737488355328):
  Cl Tryz.prog oG [ptr b,.slice a ns.length cap] w λ_ w'=>∃L',DK b (bs++(ns.map Ak).flatten) L'∧St w (keys L) L' w':=by
 have hS:=St.enter hh;generalize hT:keys L=T0 at hS ha⊢;refine gL rfl ?_;refine jq ⟨?_⟩;refine AM.loop (λk:Nat=>[(0,ptr b),(6,.slice a ns.length cap),(7,.int .i64 ns.length),(8,.int .i64 k)])
  (λk w'=>k≤ns.length∧ ∃L',DK b (bs++((ns.take k).map Ak).flatten) L'∧St w T0 L' w') (λk=>ns.length-k) 0
  ⟨rfl,rfl,rfl,rfl,trivial⟩ ⟨Ag _,L,by simpa using hW,hS⟩ ?_
 rintro k w1⟨hk,L1,hW1,hS⟩;by_cases hkl:k<ns.length
 ·obtain⟨b',off',rfl,hbT,hck⟩:=ha.get (j:=k) (by simp;omega);simp only[G4]at hck;have hs:=u7 ns k hkl;have hnk:=hn ns[k] (CW hkl);have hln:=u6 (ns.take k) (λn h=>hn n (HJ h));have hlt:(ns.take k).length=k:=by simp;omega
  have h10:=EO _ hnk;refine jq ⟨?_⟩;refine hS.ldOld hbT (by simpa using hck) ?_;refine jq ⟨?_⟩;refine AM.loop (λx:Nat×AE=>[(0,ptr b),(5,SQ x.1),(6,.slice (some ⟨b',off',none⟩) ns.length cap),(7,.int .i64 ns.length),(8,.int .i64 k)])
   (λx w'=>x.2++Ak x.1=Ak ns[k]∧ ∃L',DK b (bs++((ns.take k).map Ak).flatten++x.2) L'∧St w T0 L' w') (λx=>x.1) (ns[k],[])
   ⟨rfl,rfl,rfl,rfl,rfl,trivial⟩ ⟨rfl,L1,by simpa using hW1,hS⟩ ?_
  rintro⟨m,p⟩w2⟨hp,L2,hW2,hS⟩;simp only at hp hW2⊢;have hpl:=congrArg List.length hp;rw[AP]at hpl;have hpos:=LG m;by_cases hm:m<128
  ·rw[KJ hm]at hp;refine jq ⟨?_⟩;refine hS.al ?_;intro r w3 _ hS;refine jq ⟨?_⟩;refine Cl.mono (Pw hW2 (hS.part (L:=L2)) (xs:=[UInt8.ofNat m]) (by rw[A4,bX m AA];exact hS.arr (b:=r) (M0 hS)) (by rw[AP,AP,D4];omega)) ?_;rintro _ w4⟨L3,hW3,hS'⟩;have hS:=(hS.call (L:=L2) hS').sub (AS _ _);refine jq ⟨?_⟩;refine⟨k+1,⟨rfl,rfl,rfl,rfl,trivial⟩,⟨AA,L3,?_,hS⟩,AA⟩;rw[hs,←hp,←Aj,←Aj];exact hW3
  ·rw[LD hm]at hp;have hpos2:=LG (m / 128);rw[LD hm,Ah]at hpl;refine jq ⟨?_⟩;refine hS.al ?_;intro r w3 _ hS;refine jq ⟨?_⟩;refine Cl.mono (Pw hW2 (hS.part (L:=L2)) (xs:=[UInt8.ofNat (m % 128+128)]) (by have:=hS.arr (b:=r) (M0 hS);rw[vO]at this;exact this) (by rw[AP,AP,D4];omega)) ?_;rintro _ w4⟨L3,hW3,hS'⟩;have hS:=(hS.call (L:=L2) hS').sub (AS _ _);refine jq ⟨?_⟩;refine⟨(m / 128,p++[UInt8.ofNat (m % 128+128)]),⟨rfl,?_,rfl,rfl,rfl,trivial⟩,⟨by simpa using hp,L3,by rw[←Aj];exact hW3,hS⟩,by simp only;omega⟩
   show Value.int .u64 ((m:Int).fdiv (2 ^ 7))=SQ (m / 128);rw[Io];rfl
 ·have hke:k=ns.length:=AA;subst hke;rw[Bz]at hW1;refine jq ⟨?_⟩;exact⟨L1,hW1,hS⟩
theorem Yz(z:Int)(h1: -9223372036854775808≤z)(h2:z≤9223372036854775807):
  Gv .u64 (IntKind.u64.wrap (IntKind.u64.wrap z*2 ^ 1)) (IntKind.u64.wrap (z.fdiv (2 ^ 63)))=(Eb z:Int)∧Eb z<18446744073709551616:=by
 unfold Eb;by_cases h0:0≤z
 ·rw[if_pos h0];obtain⟨n,rfl⟩:=Int.eq_ofNat_of_zero_le h0;have e0:((n:Nat):Int).toNat=n:=Int.toNat_natCast n;have e1:IntKind.u64.wrap ((n:Nat):Int)=(n:Int):=by rw[FY .u64 rfl];congr 1;exact Dx (by show n<18446744073709551616;omega)
  have e2:IntKind.u64.wrap ((n:Int)*2 ^ 1)=((2*n:Nat):Int):=by
   rw[show((n:Nat):Int)*2 ^ 1=((2*n:Nat):Int) by omega,FY .u64 rfl];congr 1;exact Dx (by show 2*n<18446744073709551616;omega)
  have e3:((n:Nat):Int).fdiv (2 ^ 63)=((0:Nat):Int):=by
   rw[Io];congr 1;exact Nat.div_eq_of_lt AA
  have e4:IntKind.u64.wrap ((0:Nat):Int)=((0:Nat):Int):=by rw[FY .u64 rfl];rfl
  rw[e0,e1,e2,e3,e4,SZ .u64 rfl _ _ (by show 2*n<18446744073709551616;omega) AC,Nat.xor_zero];exact⟨rfl,AA⟩
 ·rw[if_neg h0];obtain⟨n,hn⟩: ∃n:Nat,z= -(n:Int)-1:=⟨(-(z+1)).toNat,AA⟩;subst hn;have hn9:n<9223372036854775808:=AA;have e0:(-(-(n:Int)-1+1)).toNat=n:=AA;have e1:IntKind.u64.wrap (-(n:Int)-1)=((18446744073709551615-n:Nat):Int):=by
   unfold IntKind.wrap;simp only[IntKind.signed,IntKind.bits];simp;omega
  have e2:IntKind.u64.wrap (((18446744073709551615-n:Nat):Int)*2 ^ 1)=((18446744073709551614-2*n:Nat):Int):=by
   rw[show((18446744073709551615-n:Nat):Int)*2 ^ 1=((2*(18446744073709551615-n):Nat):Int) by omega,FY .u64 rfl];congr 1;show 2*(18446744073709551615-n) % 18446744073709551616=_;omega
  have e3:(-(n:Int)-1).fdiv (2 ^ 63)= -1:=by
   rw[Int.fdiv_eq_ediv_of_nonneg _ AC];omega
  have e4:IntKind.u64.wrap (-1)=((18446744073709551615:Nat):Int):=AC;rw[e0,e1,e2,e3,e4,SZ .u64 rfl _ _ (by show _<18446744073709551616;omega) AC];have e5:(18446744073709551614-2*n) ^^^ 18446744073709551615=2*n+1:=by
   have h1:(BitVec.ofNat 64 (18446744073709551614-2*n) ^^^ BitVec.allOnes 64).toNat=(18446744073709551614-2*n) ^^^ 18446744073709551615:=by
    rw[BitVec.toNat_xor,BitVec.toNat_allOnes,BitVec.toNat_ofNat,Dx AA]
   rw[←h1,BitVec.xor_allOnes,BitVec.toNat_not,BitVec.toNat_ofNat,Dx AA];omega
  rw[e5];exact⟨rfl,AA⟩
theorem sP(zs:List Int)(k:Nat)(hk:k<zs.length):Ci (zs.take (k+1))=Ci (zs.take k)++Bg zs[k]:=by
 unfold Ci;rw[Bq hk,A7,kC,A4,GV,Dc,Gj,BT]
def CA(z:Int):Prop:= -9223372036854775808≤z∧z≤9223372036854775807
theorem OW(zs:List Int)(h: ∀z∈zs,CA z):(Ci zs).length≤10*zs.length:=by
 induction zs with
 |nil=>simp[Ci]
 |cons z r ih=>
  have h1:=EO (Eb z) (Yz z (h z AB).1 (h z AB).2).2;have h2:=ih (λm hm=>h m (CH _ hm));simp only[Ci,A4,Dc,AP,Ah,Bg]at h2⊢;omega
theorem MK{w:World}{b:Nat}{bs:AE}{L:AH}(hW:DK b bs L)(hh:Holds L w){a:Option Addr}{cap:Nat}{zs:List Int}(ha:Arr w (keys L) a (zs.map AY))(hn: ∀z∈zs,CA z)(_hl:zs.length≤1099511627776)(hlen:bs.length+10*zs.length≤140737488355328):
  Cl Tryz.prog oF [ptr b,.slice a zs.length cap] w λ_ w'=>∃L',DK b (bs++Ci zs) L'∧St w (keys L) L' w':=by
 have hS:=St.enter hh;generalize hT:keys L=T0 at hS ha⊢;refine gK rfl ?_;refine jq ⟨?_⟩;refine AM.loop (λk:Nat=>[(0,ptr b),(6,.slice a zs.length cap),(7,.int .i64 zs.length),(8,.int .i64 k)])
  (λk w'=>k≤zs.length∧ ∃L',DK b (bs++Ci (zs.take k)) L'∧St w T0 L' w') (λk=>zs.length-k) 0
  ⟨rfl,rfl,rfl,rfl,trivial⟩ ⟨Ag _,L,by simpa[Ci]using hW,hS⟩ ?_
 rintro k w1⟨hk,L1,hW1,hS⟩;by_cases hkl:k<zs.length
 ·obtain⟨b',off',rfl,hbT,hck⟩:=ha.get (j:=k) (by simp;omega);simp only[G4]at hck;have hs:=sP zs k hkl;obtain⟨hr1,hr2⟩:=hn zs[k] (CW hkl);obtain⟨hz1,hz2⟩:=Yz zs[k] hr1 hr2;have hln:=OW (zs.take k) (λn h=>hn n (HJ h));have hlt:(zs.take k).length=k:=by simp;omega
  refine jq ⟨?_⟩;refine hS.ldOld hbT (by simpa using hck) ?_;refine jq ⟨?_⟩;refine hS.al ?_;intro r w3 _ hS;refine jq ⟨?_⟩;refine Cl.mono (Ge hW1 (hS.part (L:=L1)) (ns:=[Eb zs[k]]) (by have:=hS.arr (b:=r) (M0 hS);rw[show min (Int.toNat 1) IntKind.u64.bits=1 from rfl,show min (Int.toNat 63) IntKind.i64.bits=63 from rfl,hz1]at this;exact this) (by simpa using hz2) AB (by rw[AP,D4];omega)) ?_;rintro _ w4⟨L3,hW3,hS'⟩
  have hS:=(hS.call (L:=L1) hS').sub (AS _ _);refine jq ⟨?_⟩;refine⟨k+1,⟨rfl,rfl,rfl,rfl,trivial⟩,⟨AA,L3,?_,hS⟩,AA⟩;rw[hs,←Aj];simpa[Bg]using hW3
 ·have hke:k=zs.length:=AA;subst hke;rw[Bz]at hW1;refine jq ⟨?_⟩;exact⟨L1,hW1,hS⟩
theorem ME{w:World}{b:Nat}{bs:AE}{L:AH}(hW:DK b bs L)(hh:Holds L w):Cl Tryz.prog oE [ptr b] w λv w'=>v=AG bs∧St w (keys L) L w':=by
 have hS:=St.enter hh;generalize hT:keys L=T0 at hS⊢;obtain⟨a0,c0,L0,hv⟩:=hW;refine gJ rfl ?_;(repeat(refine jt ⟨?_⟩;refine hS.q ?_;intro _ hS));refine jt ⟨?_⟩;refine SK (T:=[]) AK rfl rfl rfl rfl rfl rfl (bs:=bs) rfl (λw' hw'=>by subst hw';exact hv.arr hS AB) ?_;refine jq ⟨?_⟩;exact⟨rfl,hS⟩
structure AF where
 k:AE
 s:Int
 d:Bool
 v:AE
 deriving DecidableEq
def AU(e:AF):List Value:=[AG e.k,.int .i64 e.s,.bool e.d,AG e.v]
def EV(a:AF)(k:AE)(s:Int):Bool:=Op.bytesLess a.k k||(decide (a.k=k)&&decide (s<a.s))
def CK(a b:AF):Bool:=EV a b.k b.s
def G2(a b:AF):Int:=if Lib.compareBytes a.k b.k≠0 then Lib.compareBytes a.k b.k else if b.s<a.s then-1 else if a.s<b.s then 1 else 0
def GQ(a b:AF):Prop:=a.k=b.k∧a.s=b.s
theorem cH(a b:AE):Lib.compareBytes a b<0↔Op.bytesLess a b=true:=by rw[←T9];simp
theorem Me(a b:AF):G2 a b<0↔CK a b=true:=by
 unfold G2 CK EV;simp only[Bool.or_eq_true,Bool.and_eq_true,decide_eq_true_eq];by_cases h:Lib.compareBytes a.k b.k=0
 ·rw[if_neg (by simpa using h)];have h2:=(Ma _ _).1 h;have h3: ¬Op.bytesLess a.k b.k=true:=by rw[h2,F4];simp
  constructor
  ·intro h4;right;refine⟨h2,?_⟩
   split at h4
   ·assumption
   ·split at h4<;>omega
  ·rintro(h4|⟨_,h4⟩)
   ·exact absurd h4 h3
   ·rw[if_pos h4];decide
 ·rw[if_pos h,cH];constructor
  ·exact .inl
  ·rintro(h4|⟨h4,_⟩)
   ·exact h4
   ·exact absurd ((Ma _ _).2 h4) h
theorem QN(a b:AF):G2 a b=0↔GQ a b:=by
 unfold G2 GQ;by_cases h:Lib.compareBytes a.k b.k=0
 ·rw[if_neg (by simpa using h)];have h2:=(Ma _ _).1 h;constructor
  ·intro h4;refine⟨h2,?_⟩
   split at h4
   ·cases h4
   ·split at h4
    ·cases h4
    ·omega
  ·rintro⟨_,h4⟩;rw[if_neg AA,if_neg AA]
 ·rw[if_pos h];exact⟨λh4=>absurd h4 h,λh4=>absurd ((Ma _ _).2 h4.1) h⟩
theorem In(a b:AF):CK a b=true↔Op.bytesLess a.k b.k=true∨(a.k=b.k∧b.s<a.s):=by unfold CK EV;simp
theorem QQ(a:AF):CK a a=false:=by unfold CK EV;rw[F4];simp
theorem Mh{a b c:AF}(h1:CK a b=true)(h2:CK b c=true):CK a c=true:=by
 rw[In]at*;rcases h1 with h1|⟨h1,h1'⟩
 ·rcases h2 with h2|⟨h2,_⟩
  ·exact .inl (JQ _ _ _ h1 h2)
  ·exact .inl (h2▸h1)
 ·rcases h2 with h2|⟨h2,h2'⟩
  ·exact .inl (h1▸h2)
  ·exact .inr ⟨h1.trans h2,AA⟩
theorem QR(a b:AF):CK a b=true∨GQ a b∨CK b a=true:=by
 rw[In,In];unfold GQ;rcases P7 a.k b.k with h|h|h
 ·exact .inl (.inl h)
 ·rcases Int.lt_trichotomy a.s b.s with h2|h2|h2
  ·exact .inr (.inr (.inr ⟨h.symm,h2⟩))
  ·exact .inr (.inl ⟨h,h2⟩)
  ·exact .inl (.inr ⟨h,h2⟩)
 ·exact .inr (.inr (.inl h))
theorem dL{a b:AF}(h:CK a b=true):CK b a=false:=by
 cases h2:CK b a with
 |false=>rfl
 |true=>have:=Mh h h2;rw[QQ]at this;cases this
theorem OD{a b c:AF}(h:GQ a b):CK a c=CK b c∧CK c a=CK c b:=by
 obtain⟨h1,h2⟩:=h;unfold CK EV;rw[h1,h2];exact⟨rfl,rfl⟩
abbrev Az(l:List AF):Prop:=l.Pairwise λa b=>CK a b=true
def Bp(k:AE)(s:Int):List AF→List AF
 |[]=>[]
 |x::l=>if EV x k s then Bp k s l else x::l
def CY(k:AE)(s:Int):List AF→List AF
 |[]=>[]
 |x::l=>if EV x k s then x::CY k s l else []
theorem GG(k:AE)(s:Int): ∀l,CY k s l++Bp k s l=l
 |[]=>rfl
 |x::l=>by
  unfold CY Bp
  split
  ·rw[D1,GG k s l]
  ·rfl
theorem NS(k:AE)(s:Int): ∀l,∀x∈CY k s l,EV x k s=true
 |[],x,h=>by simp[CY]at h
 |y::l,x,h=>by
  unfold CY at h
  split at h
  ·rcases As.1 h with rfl|h
   ·assumption
   ·exact NS k s l x h
  ·simp at h
theorem Ky{k:AE}{s:Int}: ∀{l:List AF},Az l→ ∀x∈Bp k s l,EV x k s=false
 |[],_,x,h=>by simp[Bp]at h
 |y::l,hr,x,h=>by
  unfold Bp at h;have hr':=DQ.1 hr
  split at h
  ·exact Ky hr'.2 x h
  ·rename_i hy;rcases As.1 h with rfl|h
   ·simpa using hy
   ·cases hx:EV x k s with
    |false=>rfl
    |true=>
     have h1:CK y x=true:=hr'.1 x h;have:EV y k s=true:=Mh (c:=⟨k,s,false,[]⟩) h1 hx;exact absurd this hy
def DE(l:List AF)(k:AE)(s:Int):Option AF:=
 match Bp k s l with
 |[]=>none
 |x::_=>if x.k=k then some x else none
def DP(x:AF):List AF→List AF
 |[]=>[x]
 |y::l=>if CK y x then y::DP x l else if y.k=x.k∧y.s=x.s then x::l else x::y::l
theorem J6(x:AF): ∀l,DP x l=CY x.k x.s l++x::(match Bp x.k x.s l with|[]=>[]|y::r=>if y.k=x.k∧y.s=x.s then r else y::r)
 |[]=>rfl
 |y::l=>by
  unfold DP CY Bp;show(if EV y x.k x.s=true then _ else _)=_
  split
  ·rw[J6 x l];rfl
  ·show _=x::(if y.k=x.k∧y.s=x.s then l else y::l);by_cases hs:y.k=x.k∧y.s=x.s
   ·rw[if_pos hs,if_pos hs]
   ·rw[if_neg hs,if_neg hs]
theorem Vx(x:AF): ∀l z,z∈DP x l↔z=x∨(z∈l∧ ¬(z.k=x.k∧z.s=x.s))∨(z∈l∧z.k=x.k∧z.s=x.s∧z∈DP x l)
 |l,z=>by
  constructor
  ·intro h;by_cases hz:z=x
   ·exact .inl hz
   ·right;have hl:z∈l:=by
     rw[J6]at h;have hm: ∀w,w∈Bp x.k x.s l→w∈l:=λw hw=>by rw[←GG x.k x.s l];exact FN _ hw
     rcases Bk.1 h with h|h
     ·rw[←GG x.k x.s l];exact Eg _ h
     ·rcases As.1 h with h|h
      ·exact absurd h hz
      ·split at h
       ·simp at h
       ·rename_i y r hf
        split at h
        ·exact hm z (by rw[hf];exact CH _ h)
        ·exact hm z (by rw[hf];exact h)
    by_cases hs:z.k=x.k∧z.s=x.s
    ·exact .inr ⟨hl,hs.1,hs.2,h⟩
    ·exact .inl ⟨hl,hs⟩
  ·rintro(h|⟨h1,h2⟩|⟨_,_,_,h⟩)
   ·subst h;rw[J6];exact FN _ (CM ..)
   ·rw[J6];rw[←GG x.k x.s l]at h1;rcases Bk.1 h1 with h1|h1
    ·exact Eg _ h1
    ·refine FN _ (CH _ ?_)
     split
     ·rename_i hf;rw[hf]at h1;simp at h1
     ·rename_i y r hf;rw[hf]at h1
      split
      ·rename_i hs;rcases As.1 h1 with rfl|h1
       ·exact absurd hs h2
       ·exact h1
      ·exact h1
   ·exact h
theorem Xz{a b:List AF}:Az (a++b)↔Az a∧Az b∧ ∀x∈a,∀y∈b,CK x y=true:=GW
theorem OV{x:AF}{l:List AF}(h:Az l):Az (DP x l):=by
 have hsp:=GG x.k x.s l;have h':=h;rw[←hsp,Xz]at h';obtain⟨h1,h2,h3⟩:=h';have hge:=Ky (k:=x.k) (s:=x.s) h;rw[J6,Xz];have hlt:=NS x.k x.s l;have tail: ∀y∈(match Bp x.k x.s l with|[]=>[]|y::r=>if y.k=x.k∧y.s=x.s then r else y::r),CK x y=true:=by
  intro y hy;cases hf:Bp x.k x.s l with
  |nil=>rw[hf]at hy;simp at hy
  |cons z r=>
   rw[hf]at hy h2;have hz:=hge z (by rw[hf];exact CM ..);have hz2:=(DQ.1 h2).1;simp only at hy
   split at hy
   ·rename_i hs;have:CK z y=true:=hz2 y hy;rw[(OD (a:=z) (b:=x) ⟨hs.1,hs.2⟩).1]at this;exact this
   ·rename_i hs;have hxz:CK x z=true:=by
     rcases QR x z with h|h|h
     ·exact h
     ·exact absurd ⟨h.1.symm,h.2.symm⟩ hs
     ·have:CK z x=false:=hz;rw[this]at h;cases h
    rcases As.1 hy with rfl|hy
    ·exact hxz
    ·exact Mh hxz (hz2 y hy)
 refine⟨h1,DQ.2 ⟨tail,?_⟩,?_⟩
 ·cases hf:Bp x.k x.s l with
  |nil=>exact List.Pairwise.nil
  |cons z r=>
   rw[hf]at h2;simp only
   split
   ·exact(DQ.1 h2).2
   ·exact h2
 ·intro a ha y hy;have hax:CK a x=true:=hlt a ha;rcases As.1 hy with rfl|hy
  ·exact hax
  ·exact Mh hax (tail y hy)
theorem wX(a b:AE)(w:World):(callFunc mP ⟨[AG a,AG b]⟩).run Tryz.prog w= .ok (.value (.int .i64 (Lib.compareBytes a b))) w:=by
 rw[run_callFunc_extern rO AD AD AD (e:=Extern.BytealgCompare.compare) AD];have:=Lib.run_compareString (P:=Tryz.prog) ⟨⟨a⟩⟩ ⟨⟨b⟩⟩ w;rw[show(Array.mk [AG a,AG b])= #[AG a,AG b]from rfl];rw[this]
 rfl
theorem Si{w:World}(a b:AE):Cl Tryz.prog pR [AG a,AG b] w λv w'=>v= .int .i64 (Lib.compareBytes a b)∧St w [] [] w':=by
 have hS:=St.start w;refine jW rfl ?_;refine jq ⟨?_⟩;refine Cl.mono (P:=Tryz.prog) (R:=λv w'=>v= .int .i64 (Lib.compareBytes a b)∧St w [] [] w') ?_ ?_
 ·refine eM rfl ?_;refine jq ⟨?_⟩;refine Cl.val (wX a b w) ?_;refine jq ⟨?_⟩;exact⟨rfl,hS⟩
 ·rintro _ w3⟨rfl,hS⟩;refine jq ⟨?_⟩;exact⟨rfl,hS⟩
def B9(e:AF):Value:= .agg ⟨AU e⟩
theorem US(x y:AF):(if Lib.compareBytes x.k y.k=0 then F6 y.s x.s else Lib.compareBytes x.k y.k)=G2 x y:=by
 unfold G2 F6;by_cases h:Lib.compareBytes x.k y.k=0
 ·simp[h]
 ·simp[h]
theorem RN(x y:AF)(w:World):Cl Tryz.prog nQ [B9 x,B9 y] w λv w'=>v= .int .i64 (G2 x y)∧St w [] [] w':=by
 have hS:=St.start w;unfold B9 AU;refine fR rfl ?_;refine jq ⟨?_⟩;refine hS.al ?_;intro b2 w2 _ hS;refine jq ⟨?_⟩;refine hS.al ?_;intro b3 w3 _ hS;refine jq ⟨?_⟩;refine AM.draw AK mixed (λw'=>St w [] [(b3,.cells ⟨[AG y.k,.int .i64 y.s,.bool y.d,AG y.v]⟩ Ap (0,0)),(b2,.cells ⟨[AG x.k,.int .i64 x.s,.bool x.d,AG x.v]⟩ Ap (0,0))] w') [11,12] [0,1,2,3,5,6,7,8,4,9,10,11,12] AD hS.drew ?_;have hS:=hS.drew
 generalize w3.drew=w4 at hS;refine jr ⟨?_⟩;refine(Si x.k y.k).mono ?_;rintro _ w5⟨rfl,hS'⟩;have hS:=hS.call0 hS';refine Ae.mk hS ?_;refine jr ⟨?_⟩;refine N2.mono ?_;rintro _ _⟨rfl,rfl⟩;refine Ae.mk hS ?_;refine jr ⟨?_⟩;refine hS.al ?_;intro g w6 _ hS;refine Ae.mk (hS.sub (AS _ _)) ?_;refine jr ⟨?_⟩;refine(Rf (hS.part (L:=[(g,.cells ⟨[.int .i64 (Lib.compareBytes x.k y.k),.int .i64 (F6 y.s x.s)]⟩ BX (0,0))]))).mono ?_
 rintro _ w7⟨rfl,hS'⟩;have hS:=hS.call (L:=[(g,.cells ⟨[.int .i64 (Lib.compareBytes x.k y.k),.int .i64 (F6 y.s x.s)]⟩ BX (0,0))]) hS';refine jr ⟨?_⟩;rw[US];refine jq ⟨?_⟩;exact⟨rfl,hS.nil⟩
theorem Wf(x y:AF)(w:World):Cl Tryz.prog nW [B9 x,B9 y] w λv w'=>v= .int .i64 (G2 x y)∧St w [] [] w':=by
 have hS:=St.start w;unfold B9 AU;refine fY rfl ?_;refine jq ⟨?_⟩;refine hS.al ?_;intro b2 w2 _ hS;refine jq ⟨?_⟩;refine hS.al ?_;intro b3 w3 _ hS;refine jq ⟨?_⟩;refine AM.draw AK mixed (λw'=>St w [] [(b3,.cells ⟨[AG y.k,.int .i64 y.s,.bool y.d,AG y.v]⟩ Ap (0,0)),(b2,.cells ⟨[AG x.k,.int .i64 x.s,.bool x.d,AG x.v]⟩ Ap (0,0))] w') [11,12] [0,1,2,3,5,6,7,8,4,9,10,11,12] AD hS.drew ?_;have hS:=hS.drew
 generalize w3.drew=w4 at hS;refine jr ⟨?_⟩;refine(Si x.k y.k).mono ?_;rintro _ w5⟨rfl,hS'⟩;have hS:=hS.call0 hS';refine Ae.mk hS ?_;refine jr ⟨?_⟩;refine N2.mono ?_;rintro _ _⟨rfl,rfl⟩;refine Ae.mk hS ?_;refine jr ⟨?_⟩;refine hS.al ?_;intro g w6 _ hS;refine Ae.mk (hS.sub (AS _ _)) ?_;refine jr ⟨?_⟩;refine(Rf (hS.part (L:=[(g,.cells ⟨[.int .i64 (Lib.compareBytes x.k y.k),.int .i64 (F6 y.s x.s)]⟩ BX (0,0))]))).mono ?_
 rintro _ w7⟨rfl,hS'⟩;have hS:=hS.call (L:=[(g,.cells ⟨[.int .i64 (Lib.compareBytes x.k y.k),.int .i64 (F6 y.s x.s)]⟩ BX (0,0))]) hS';refine jr ⟨?_⟩;rw[US];refine jq ⟨?_⟩;exact⟨rfl,hS.nil⟩
end Go.Proofs.YtkgibdhpijdbfaaGreatDoor
namespace Go.Proofs.YtkgibdhpijdbfaaGreatDoor
open Go Go.Eng Go.Proofs Go.Srt
theorem R9{w:World}{g cap len:Nat}{a b n:Int}{l P A Q B S:List AF}{tail:List Value}{F:Value}(hh:Holds [(g,.cells ⟨l.flatMap AU++tail⟩ Ap (0,0))] w)(hl:l=P++A++Q++B++S)(hAB:A.length=B.length)(hlL:l.length=len)(hlen:len≤16777216)(ha:a=P.length)(hb:b=P.length+A.length+Q.length)(hn:n=A.length):
  Cl Tryz.prog oZ [.slice (some ⟨g,0,none⟩) len cap,.int .i64 a,.int .i64 b,.int .i64 n,F] w λ_ w'=>St w [g] [(g,.cells ⟨(P++B++Q++A++S).flatMap AU++tail⟩ Ap (0,0))] w':=by
 have hS:St w [g] [(g,.cells ⟨l.flatMap AU++tail⟩ Ap (0,0))] w:=St.enter hh;have hll:l.length=P.length+A.length+Q.length+B.length+S.length:=by rw[hl];simp only[AP]
 refine g9 rfl ?_;refine jq ⟨?_⟩;refine AM.loop (λk:Nat=>[(0,.slice (some ⟨g,0,none⟩) len cap),(1,.int .i64 a),(2,.int .i64 b),(3,.int .i64 n),(10,.int .i64 k)])
  (λk w'=>k≤A.length∧St w [g] [(g,.cells ⟨(rg P A Q B S k).flatMap AU++tail⟩ Ap (0,0))] w') (λk=>A.length-k) 0
  ⟨rfl,rfl,rfl,rfl,rfl,trivial⟩ ⟨Ag _,by rw[Xx,←hl];exact hS⟩ ?_
 clear hS;rintro k w1⟨hk,hS⟩;have hrl:=Xv (P:=P) (Q:=Q) (S:=S) (k:=k) hAB;by_cases hkl:k<A.length
 ·have hi:P.length+k<(rg P A Q B S k).length:=AA;have hj:P.length+A.length+Q.length+k<(rg P A Q B S k).length:=AA;have hsw:=Xw hAB hkl hi hj rfl rfl;refine jq ⟨?_⟩;refine AM.draw AK mixed (λw'=>St w [g] [(g,.cells ⟨(rg P A Q B S k).flatMap AU++tail⟩ Ap (0,0))] w') [4,5,6,7,21,22,23] [4,5,6,7,0,1,2,3,8,9,10,11,12,13,14,15,16,17,18,19,20,21,22,23] AD hS.drew ?_;have hS:=hS.drew;refine jr ⟨?_⟩;refine St.ldEC (sz:=4) (λ_=>rfl) hS hj ?_ ?_
  ·omega
  refine jr ⟨?_⟩;refine St.ldEC (sz:=4) (λ_=>rfl) hS hi ?_ ?_
  ·omega
  refine jr ⟨?_⟩;refine St.stE (sz:=4) (λ_=>rfl) (λ_=>rfl) hS hi ?_ ?_
  ·omega
  intro w2 hS;refine jr ⟨?_⟩;refine St.stE (sz:=4) (λ_=>rfl) (λ_=>rfl) hS (k:=P.length+A.length+Q.length+k) (by rw[Iv];exact hj) ?_ ?_
  ·omega
  intro w3 hS;simp only[hsw]at hS;refine jq ⟨?_⟩;exact⟨k+1,⟨rfl,rfl,rfl,rfl,rfl,trivial⟩,⟨AA,hS⟩,AA⟩
 ·refine jq ⟨?_⟩;rw[Xu hAB AA]at hS;exact hS
structure Zt where
 P:List AF
 U:List AF
 V:List AF
 S:List AF
theorem wR{w:World}{g cap len:Nat}{a m b:Int}{l P U V S:List AF}{tail:List Value}{F:Value}(hh:Holds [(g,.cells ⟨l.flatMap AU++tail⟩ Ap (0,0))] w)(hl:l=P++U++V++S)(hlL:l.length=len)(hlen:len≤16777216)(ha:a=P.length)(hm:m=P.length+U.length)(hb:b=P.length+U.length+V.length)(hU:0<U.length)(hV:0<V.length):
  Cl Tryz.prog oX [.slice (some ⟨g,0,none⟩) len cap,.int .i64 a,.int .i64 m,.int .i64 b,F] w λ_ w'=>St w [g] [(g,.cells ⟨(P++V++U++S).flatMap AU++tail⟩ Ap (0,0))] w':=by
 have hS:St w [g] [(g,.cells ⟨l.flatMap AU++tail⟩ Ap (0,0))] w:=St.enter hh;have hll:l.length=P.length+U.length+V.length+S.length:=by rw[hl];simp only[AP]
 refine g7 rfl ?_;refine jq ⟨?_⟩;refine AM.loop (λx:Zt=>[(0,.slice (some ⟨g,0,none⟩) len cap),(2,.int .i64 m),(4,F),(10,.int .i64 x.U.length),(11,.int .i64 x.V.length)])
  (λx w'=>(P++V++U++S=x.P++x.V++x.U++x.S∧m=x.P.length+x.U.length∧0<x.U.length∧0<x.V.length)∧St w [g] [(g,.cells ⟨(x.P++x.U++x.V++x.S).flatMap AU++tail⟩ Ap (0,0))] w') (λx=>x.U.length+x.V.length) ⟨P,U,V,S⟩
  ⟨rfl,rfl,rfl,by show _=Value.int .i64 _;congr 1;simp only;omega,by show _=Value.int .i64 _;congr 1;simp only;omega,trivial⟩ ⟨⟨rfl,hm,hU,hV⟩,by rw[←hl];exact hS⟩ ?_
 clear hS;rintro⟨P1,U1,V1,S1⟩w1⟨⟨hT,hm1,hU1,hV1⟩,hS⟩;simp only at hT hm1 hU1 hV1 hS⊢;have hl1:(P1++U1++V1++S1).length=len:=by
  have:=congrArg List.length hT;simp only[AP]at this⊢;omega
 have hl2:(P1++U1++V1++S1).length=P1.length+U1.length+V1.length+S1.length:=by simp only[AP]
 by_cases hne:U1.length=V1.length
 ·refine jq ⟨?_⟩;refine(R9 hS.holds (Q:=[]) (A:=U1) (B:=V1) (P:=P1) (S:=S1) (by rw[BT]) hne hl1 hlen AA (by simp only[Bv];omega) rfl).mono ?_;intro _ w2 hS';have hS:=hS.call1 hS';rw[BT,←hT]at hS;refine jq ⟨?_⟩;exact hS
 ·by_cases hgt:V1.length<U1.length
  ·obtain⟨X,Y,hXY,hX⟩: ∃X Y,U1=X++Y∧X.length=V1.length:=⟨U1.take V1.length,U1.drop V1.length,(CN _ _).symm,by rw[Ba];omega⟩;have hY:U1.length=V1.length+Y.length:=by rw[hXY,AP,hX]
   refine jq ⟨?_⟩;refine(R9 hS.holds (Q:=Y) (A:=X) (B:=V1) (P:=P1) (S:=S1) (by rw[hXY];simp only[Aj]) hX hl1 hlen AA AA AA).mono ?_;intro _ w2 hS';have hS:=hS.call1 hS';refine jq ⟨?_⟩;refine⟨⟨P1++V1,Y,X,S1⟩,⟨rfl,rfl,rfl,by show _=Value.int .i64 _;congr 1;simp only;omega,by show _=Value.int .i64 _;congr 1;simp only;omega,trivial⟩,⟨⟨by rw[hT,hXY];simp only[Aj],by simp only[AP];omega,by simp only;omega,by simp only;omega⟩,hS⟩,by simp only;omega⟩
  ·obtain⟨X,Y,hXY,hY⟩: ∃X Y,V1=X++Y∧Y.length=U1.length:=⟨V1.take (V1.length-U1.length),V1.drop (V1.length-U1.length),(CN _ _).symm,by rw[D3];omega⟩;have hX:V1.length=X.length+U1.length:=by rw[hXY,AP,hY]
   refine jq ⟨?_⟩;refine(R9 hS.holds (Q:=X) (A:=U1) (B:=Y) (P:=P1) (S:=S1) (by rw[hXY];simp only[Aj]) hY.symm hl1 hlen AA AA rfl).mono ?_;intro _ w2 hS';have hS:=hS.call1 hS';refine jq ⟨?_⟩;refine⟨⟨P1,Y,X,U1++S1⟩,⟨rfl,rfl,rfl,by show _=Value.int .i64 _;congr 1;simp only;omega,by show _=Value.int .i64 _;congr 1;simp only;omega,trivial⟩,⟨⟨by rw[hT,hXY];simp only[Aj],by simp only;omega,by simp only;omega,by simp only;omega⟩,by simp only[Aj]at hS⊢;exact hS⟩,by simp only;omega⟩
end Go.Proofs.YtkgibdhpijdbfaaGreatDoor
namespace Go.Eng
open Go
section
variable {P : Program} {T0 : BL}
def HC(P:Program)(t:TypeId)(xs:List Value)(off:Nat)(v:Value):Prop:=∀w,(part t ⟨xs⟩ off).run P w= .ok v w
theorem HC.one(hT:BR P T0){t:TypeId}{i:TI}(hi:tf T0 t=some i)(ha:i.agg=false){xs:List Value}{off:Nat}{v:Value}(hx:xs[off]?=some v):HC P t xs off v:=by
 intro w;have h1:=Oe hT hi ha w;simp[part,h1];rw[hx];rfl
theorem HC.agg(hT:BR P T0){t:TypeId}{i:TI}(hi:tf T0 t=some i)(ha:i.agg=true){xs vs:List Value}{off:Nat}(hx:(xs.drop off).take i.size=vs):HC P t xs off (.agg ⟨vs⟩):=by
 intro w;have h1:=RI hT hi ha w;have h2:=PB hT hi w;simp[part,h1,h2];exact hx
def Fx(n:Nat)(P:Program)(t:TypeId)(a b:Value)(r:Bool):Prop:=∀k w,(Op.equalIn (k+n) t a b).run P w= .ok r w
def Ml(fs:List Field):List (Bool×TypeId×Nat):=fs.map λf=>(decide (f.name≠ "_"),f.type,f.offset)
def H1(n:Nat)(P:Program)(xs ys:List Value)(d:List (TypeId×Nat))(r:Bool):Prop:=
 ∀(fs:List Field),Ml fs=d.map (λx=>(true,x.1,x.2))→ ∀k w,(Op.eqFields (k+n) ⟨xs⟩ ⟨ys⟩ fs).run P w= .ok r w
theorem Fx.int{n:Nat}(hT:BR P T0){t:TypeId}{i:TI}(hi:tf T0 t=some i){kk k:IntKind}(hk:i.k= .int kk)(a b:Int):Fx (n+1) P t (.int k a) (.int k b) (decide (a=b)):=by
 intro d w;have h:=CZ hT hi;rw[hk]at h;rw[show decide (a=b)=(a==b) by rw[Bool.eq_iff_iff];simp];exact run_equalIn_int w (d+n) t k kk a b h
theorem Fx.bool{n:Nat}(hT:BR P T0){t:TypeId}{i:TI}(hi:tf T0 t=some i)(hk:i.k= .bool)(a b:Bool):Fx (n+1) P t (.bool a) (.bool b) (decide (a=b)):=by
 intro d w;have h:=CZ hT hi;rw[hk]at h;rw[show decide (a=b)=(a==b) by rw[Bool.eq_iff_iff];simp];exact run_equalIn_bool' w (d+n) t a b h
theorem Fx.str{n:Nat}(hT:BR P T0){t:TypeId}{i:TI}(hi:tf T0 t=some i)(hk:i.k= .str)(a b:List UInt8):Fx (n+1) P t (AG a) (AG b) (decide (a=b)):=by
 intro d w;have h:=CZ hT hi;rw[hk]at h;rw[show decide (a=b)=((⟨⟨a⟩⟩:ByteArray).toList==(⟨⟨b⟩⟩:ByteArray).toList) by rw[Tz,Tz,Bool.eq_iff_iff];simp];exact run_equalIn_string w (d+n) t _ _ h
theorem H1.nil{n:Nat}{xs ys:List Value}:H1 n P xs ys [] true:=by
 intro fs h k w;cases fs with
 |nil=>simp[Op.eqFields]
 |cons f fs=>simp[Ml]at h
theorem H1.cons{n:Nat}{xs ys:List Value}{t:TypeId}{off:Nat}{d:List (TypeId×Nat)}{a b:Value}{r1 r2:Bool}(h1:HC P t xs off a)(h2:HC P t ys off b)(h3:Fx n P t a b r1)(h4:H1 n P xs ys d r2):
  H1 n P xs ys ((t,off)::d) (r1&&r2):=by
 intro fs h k w;cases fs with
 |nil=>simp[Ml]at h
 |cons f fs=>
  simp only[Ml,A4,List.cons.injEq,Prod.mk.injEq,decide_eq_true_eq]at h;obtain⟨⟨hn,rfl,rfl⟩,h⟩:=h;have e:=h4 fs h k w;simp only[Op.eqFields,if_pos hn,Sem.run_bind,h1 w,h2 w,h3 k w,Result.andThen_ok,Sem.run_ite];cases r1 with
  |false=>simp
  |true=>simp[e]
theorem Fx.struct{n:Nat}{t:TypeId}{d:List (TypeId×Nat)}(ht:P.underlying t=some (.struct (P.fieldsOf t)))(hp:P.stoodInHeld t=false)(hd:Ml (P.fieldsOf t).toList=d.map (λx=>(true,x.1,x.2))){xs ys:List Value}{r:Bool}(h:H1 n P xs ys d r):
  Fx (n+1) P t (.agg ⟨xs⟩) (.agg ⟨ys⟩) r:=by
 intro k w;rw[show k+(n+1)=(k+n)+1 by omega,run_equalIn_struct w (k+n) t _ _ ht hp];exact h _ hd k w
theorem uK{n:Nat}{t:TypeId}{x y:Operand}{xs ys:List Value}{r:Bool}(hn:n≤10000)(hm:P.eqGuardType P.depth t=false)(h:Fx n P t (.agg ⟨xs⟩) (.agg ⟨ys⟩) r){K:Value→Prop}(hK:K (.bool (!r))):
  JJ P (do eqGuard .neq t x y (.agg ⟨xs⟩) (.agg ⟨ys⟩);binOp .neq t (.agg ⟨xs⟩) (.agg ⟨ys⟩)) K:=by
 refine⟨_,λw=>?_,hK⟩;have h1:=run_eqGuard_agg (P:=P) w .neq t x y ⟨xs⟩ ⟨ys⟩ hm;have h2:=h (10000-n) w;rw[show 10000-n+n=10000 by omega]at h2;simp only[Sem.run_bind,h1,Result.andThen_ok,run_neq_struct,h2]
end
end Go.Eng
