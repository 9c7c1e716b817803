/- Texts of this claim, one behind the other. -/
import Derived.Test.YtkgibdhpijdbfaaGreatDoorZ45
import Derived.Test.YtkgibdhpijdbfaaGreatDoorZ33
import Derived.Test.YtkgibdhpijdbfaaGreatDoorZ3
import Derived.Test.YtkgibdhpijdbfaaGreatDoorZ1
import Derived.Test.YtkgibdhpijdbfaaGreatDoorZ39
set_option linter.unusedVariables false
set_option linter.unusedSimpArgs false
set_option maxHeartbeats 16000000
namespace Go.Proofs.YtkgibdhpijdbfaaGreatDoor
open Go Go.Eng Go.Proofs Go.Srt
structure NQ(s:AM)(m:AJ):Prop where
 dn:C5 s m=true
 rd:Hd s
 ft: ∃A T,FT A T m∧A≤2305843009213693952∧T+1048576≤1099511627776
 log: ∃g,s.log=some g∧g.n≤2305843009213693952
 msz:An s.mem≤549755813888
 mln:s.mem.length≤4194304
 adds:s.adds≤2305843009213693952
 seq:0≤s.seq∧s.seq≤1152921504606846976
def FJ(sb f:Nat)(L:AH):Prop:=∃s m,AW sb f s m L∧NQ s m
theorem NQ.dead{s:AM}{m:AJ}(h:NQ s m):NQ (Kf s) m:=⟨rfl,⟨h.rd.rise,h.rd.seqs,h.rd.tab,h.rd.one,h.rd.num,h.rd.tnum,h.rd.keys⟩,h.ft,h.log,h.msz,h.mln,h.adds,h.seq⟩
theorem FJ.scan{w:World}{sb f:Nat}{L:AH}(h:FJ sb f L)(hh:Holds L w)(k to:AE):Cl Tryz.prog OF [ptr sb,AG k,AG to] w λv w'=>v= .tuple ⟨[.slice none 0 0,.int .i64 7]⟩∧ ∃L',FJ sb f L'∧St w (keys L) L' w':=by
 obtain⟨s,m,hO,hI⟩:=h;refine(Ph hO hh k to hI.rd).mono ?_;rintro v w'(⟨-,rfl,L',hO',hS⟩|⟨h, -⟩)
 ·exact⟨rfl,L',⟨_,m,hO',hI.dead⟩,hS⟩
 ·rw[hI.dn]at h;cases h
theorem FJ.get{w:World}{sb f:Nat}{L:AH}(h:FJ sb f L)(hh:Holds L w)(k:AE)(hk:k.length≤1099511627776):Cl Tryz.prog Qd [ptr sb,AG k] w λv w'=>v= .tuple ⟨[AG [],.bool false,.int .i64 7]⟩∧ ∃L',FJ sb f L'∧St w (keys L) L' w':=by
 obtain⟨s,m,hO,hI⟩:=h;refine(Sz hO hh k hk hI.rd).mono ?_;rintro v w'(⟨-,rfl,L',hO',hS⟩|⟨h, -⟩)
 ·exact⟨rfl,L',⟨_,m,hO',hI.dead⟩,hS⟩
 ·rw[hI.dn]at h;cases h
theorem FJ.down{w:World}{sb f:Nat}{L:AH}(h:FJ sb f L)(hh:Holds L w):Cl Tryz.prog OE [ptr sb] w λv w'=>v= .bool true∧St w (keys L) L w':=by
 obtain⟨s,m,hO,hI⟩:=h;refine(H8 hO hh).mono ?_;rintro _ w'⟨rfl,hS⟩;exact⟨congrArg Value.bool hI.dn,hS⟩
theorem FJ.write{w:World}{sb f:Nat}{L:AH}(h:FJ sb f L)(hh:Holds L w)(hG:Bp w (keys L)){a:Option Addr}{c:Nat}{ops:List Ac}(ha:Arr w (keys L) a (ops.flatMap A8))(hl:Ap ops≤1099511627776):Cl Tryz.prog OG [ptr sb,.slice a ops.length c] w λv w'=>v= .int .i64 7∧ ∃L',FJ sb f L'∧St w (keys L) L' w':=by
 obtain⟨s,m,hO,hI⟩:=h;obtain⟨A,T,hF,hA,hT⟩:=hI.ft;obtain⟨g,hg,hgn⟩:=hI.log;refine(Pg hO hh hG ha hl hF hA hT hg hgn hI.rd.rise hI.msz hI.mln hI.adds hI.seq λ_ _ _ _ h=>by rw[hI.dn]at h;cases h).mono ?_;rintro _ w'⟨e,s',m',L',hw,rfl,hO',hS⟩;have hd:=hI.dn;cases hw with
 |down _=>exact⟨rfl,L',⟨_,m,hO',hI.dead⟩,hS⟩
 |long h=>rw[hd]at h;cases h
 |none h=>rw[hd]at h;cases h
 |bad h=>rw[hd]at h;cases h
 |ok h=>rw[hd]at h;cases h
theorem FJ.flush{w:World}{sb f:Nat}{L:AH}(h:FJ sb f L)(hh:Holds L w)(hG:Bp w (keys L)):Cl Tryz.prog Qc [ptr sb] w λv w'=>v= .int .i64 7∧ ∃L',FJ sb f L'∧St w (keys L) L' w':=by
 obtain⟨s,m,hO,hI⟩:=h;refine(TR (A:=0) (T:=0) hO hh hG λh=>by rw[hI.dn]at h;cases h).mono ?_;rintro _ w'⟨e,s',m',L',hw,rfl,hO',hS⟩;have hd:=hI.dn;cases hw with
 |down _=>exact⟨rfl,L',⟨_,m,hO',hI.dead⟩,hS⟩
 |up h=>rw[hd]at h;cases h
theorem FJ.compact{w:World}{sb f:Nat}{L:AH}(h:FJ sb f L)(hh:Holds L w)(hG:Bp w (keys L)):Cl Tryz.prog Qb [ptr sb] w λv w'=>v= .int .i64 7∧ ∃L',FJ sb f L'∧St w (keys L) L' w':=by
 obtain⟨s,m,hO,hI⟩:=h;refine(TQ (A:=0) (T:=0) hO hh hG (λh=>by rw[hI.dn]at h;cases h) λ_ h=>by rw[hI.dn]at h;cases h).mono ?_;rintro _ w'⟨e,s',m',L',hw,rfl,hO',hS⟩;have hd:=hI.dn;cases hw with
 |down _=>exact⟨rfl,L',⟨_,m,hO',hI.dead⟩,hS⟩
 |bad h=>rw[hd]at h;cases h
 |up h=>rw[hd]at h;cases h
def Se(sb f c e:Nat)(now:List AO)(lk:CH)(L:AH):Prop:=∃s m,AW sb f s {m with fates:=EK [(0,1)] 1,armed:=0} L∧Inv c e s m now lk
theorem ZV{w:World}{sb f c e:Nat}{gv:Int}{now:List AO}{lk:CH}{L:AH}(h:Gh sb f c e gv now lk L)(hh:Holds L w):Cl Tryz.prog OE [ptr sb] w λv w'=>v= .bool false∧St w (keys L) L w':=by
 obtain⟨s,m,hO,hI, -⟩:=h;refine(H8 hO hh).mono ?_;rintro _ w'⟨rfl,hS⟩;exact⟨congrArg Value.bool hI.down,hS⟩
theorem ZU{w:World}{sb f c e:Nat}{gv:Int}{now:List AO}{lk:CH}{L:AH}(h:Gh sb f c e gv now lk L)(hh:Holds L w){a:Option Addr}{cap:Nat}(ha:Arr w (keys L) a (HI [(0,1)])):Cl Tryz.prog Qh [ptr f,.slice a 1 cap] w λ_ w'=>∃L',Se sb f c e now lk L'∧St w (keys L) L' w':=by
 obtain⟨s,m,hO,hI,hg⟩:=h;obtain⟨o,R,LF,rfl,hF,hre⟩:=hO.fs;have hS:=St.enter hh;refine(Lq (fs:=[(0,1)]) hF (hS.part (L:=LF)) (ha.stay hS (L:=LF)) AC).mono ?_;rintro _ w'⟨L',hF',hS'⟩;exact⟨_,⟨s,m,hre _ _ hF',hI⟩,hS.call (L:=LF) hS'⟩
theorem ZW{w:World}{sb f c e:Nat}{now:List AO}{lk:CH}{L:AH}(h:Se sb f c e now lk L)(hh:Holds L w):Cl Tryz.prog VF [ptr f,AG [120],.slice none 0 0] w λ_ w'=>∃L',FJ sb f L'∧St w (keys L) L' w':=by
 obtain⟨s,m,hO,hI⟩:=h;obtain⟨o,R,LF,rfl,hF,hre⟩:=hO.fs;have hS:=St.enter hh;have hfb:=hI.bud.ft.fb;have hc1:=hI.c1;have he1:=hI.e1;have htx:=hI.bud.ft.get [120];refine(KV (ps:=[]) hF (hS.part (L:=LF)) [120] (Arr.nil _ _ _) (AV _) AC (by show 0+((AN m [120]).getD ([],0)).1.length≤_;omega) (by show 0+1≤_;omega) (by have:=hfb.acts;show m.acts+1≤_;omega)).mono ?_;rintro _ w'⟨-,L',hF',hS'⟩;have hoff:m.off=false:=hI.core.up.off
 have ef:Cw {m with fates:=EK [(0,1)] 1,armed:=0}=1:=by
  show(Al (0:Int) (EK [(0,1)] 1)).getD 0=1
  decide
 have eA:(A9 {m with fates:=EK [(0,1)] 1,armed:=0} [120] []).2=acted {m with fates:=EK [(0,1)] 1,armed:=0}:=by
  unfold A9;rw[if_neg (by rw[hoff];decide),if_neg AC,if_neg (by rw[ef];decide),if_pos ef]
 rw[eA]at hF';obtain⟨g,hg,hgl⟩:=hI.bud.log;have hgn:=hgl.num;have hsz:An s.mem≤549755813888:=by
  have h1:=NK 4096 s.mem hI.core.mem.sz;have hcnt:=hI.core.cnt;have h2:4096*s.mem.length≤4096*262144:=Nat.mul_le_mul_left _ AA;omega
 have hcnt:=hI.core.cnt;have hsq:=hI.bud.seq;have had:=hI.core.adds;refine⟨_,⟨s,_,hre _ _ hF',⟨?_,hI.rd,⟨c*2097152+1,_,⟨⟨?_,?_,?_,hfb.nd,hfb.name,hfb.text⟩,hI.bud.ft.tx,hI.bud.ft.sf⟩,AA,AA⟩,⟨g,hg,AA⟩,hsz,AA,AA,hI.core.seq,AA⟩⟩,hS.call (L:=LF) hS'⟩
 ·have e2:(acted {m with fates:=EK [(0,1)] 1,armed:=0}).off=true:=by
   show(decide (Cw {m with fates:=EK [(0,1)] 1,armed:=0}=1)||decide (Cw {m with fates:=EK [(0,1)] 1,armed:=0}=2))=true;rw[ef];rfl
  show(s.dead||(acted {m with fates:=EK [(0,1)] 1,armed:=0}).off)=true;rw[e2,Bool.or_true]
 ·exact Nat.succ_le_succ (Ag _)
 ·exact Nat.succ_le_succ hfb.acts
 ·exact Au hfb.num (Dz _)
end Go.Proofs.YtkgibdhpijdbfaaGreatDoor
namespace Go.Eng
open Go
theorem AL.here{P:Program}{N:Nat}{c:Code}{Q:Exit→AZ→World→Prop}{e:AZ}{w:World}(h:AL P N c Q e w):AL P N c Q e w:=h
theorem xV(l:List Value)(off:Nat)(vs:List Value)(h:off+vs.length≤l.length):(En l off vs).length=l.length:=by
 unfold En;simp only[AP,BR,Do];omega
theorem St.stN{w0 w:World}{T:List Nat}{H:AH}{b off:Nat}{vs l:List Value}{t:TypeId}{F:Obj→AH}(hS:St w0 T H w) [Slot H b (.cells ⟨l⟩ t (0,0)) F](hv:vs.all Value.oneCell'=true)(hn:off+vs.length≤l.length)
  {K:World→Prop}(hk: ∀w',St w0 T (F (.cells ⟨En l off vs⟩ t (0,0))) w'→K w'):IA w b off vs K:=
 ⟨⟨l,t,(0,0),hS.mem,.inl (Ag _),hn,λv h=>C8.1 hv v h,hk _ (hS.setRow (l:=l))⟩⟩
end Go.Eng
namespace Go.Proofs.YtkgibdhpijdbfaaGreatDoor
open Go Go.Eng Go.Proofs Go.Srt
theorem Arr.pre{w:World}{T:List Nat}{a:Option Addr}{xs ys:List Value}(h:Arr w T a (xs++ys)):Arr w T a xs:=λj v hj=>h j v (by rw[Cn (FR.1 hj).1];exact hj)
theorem aB{sb f c e:Nat}{gv:Int}{now:List AO}{lk:CH}{L:AH}(h:Gh sb f c e gv now lk L):now.length≤262144:=by
 obtain⟨s,m, -,hI, -⟩:=h;exact Au hI.core.nlen hI.e1
theorem qO{w0 w:World}{T:List Nat}{A H L:AH}{F:AH→AH}(hS:St w0 T (A++H) w) [hc:Chunk H L F]: ∀b∈keys A,b∉keys L:=by
 obtain⟨X,Y,h1, -⟩:=hc.at_;have h:=hS.nd;have e:keys (A++H)=keys A++keys H:=by simp[keys]
 rw[e]at h;intro b hb hL;refine(FU.1 h).2.2 b hb b ?_ rfl;rw[h1];unfold keys at hL⊢;rw[A7,A7];exact FC _ (EO _ hL)
theorem AT.ofLen{e:TypeId}{sz g n cap:Nat}{l:List Value}(hl:l.length=cap*sz)(hn:n≤cap):AT e sz (some ⟨g,0,none⟩) n cap (l.take (n*sz)) [(g,.cells ⟨l⟩ e (0,0))]:=by
 have h:=GY sz hn;have:=AT.row (e:=e) (sz:=sz) g n cap (l.take (n*sz)) (l.drop (n*sz)) (by rw[BR];omega) (by rw[BR,Do];omega) hn;rwa[CO]at this
set_option maxRecDepth 8000 in
theorem Zf{w:World}(hG:Bp w []){a:Option Addr}{c:Nat}{hs:List Int}{mm fan:Int}(ha:Arr w [] a (hs.map AY))(hhl:hs.length≤1099511627776){ao:Option Addr}{co:Nat}{ops:List Ac}(hop:Arr w [] ao (ops.flatMap A8))(hol:Ap ops≤1099511627776)(hn:ops.length≤262143):
  Cl Tryz.prog p4 [.agg ⟨[.int .i64 mm,.int .i64 fan,.slice a hs.length c]⟩,.slice ao ops.length co] w λv w'=>v= .bool true∧St w [] [] w':=by
 have hS:=St.start w;refine j9 rfl ?_;(repeat(refine jt ⟨?_⟩;refine hS.q ?_;intro _ hS));refine jt ⟨?_⟩;refine hS.al ?_;intro b2 w1 _ hS;(repeat(refine jt ⟨?_⟩;refine hS.q ?_;intro _ hS));refine jt ⟨?_⟩;refine Cl.mono (WO (hG.part hS (L:=[]))) ?_;rintro _ w2⟨rfl,hS'⟩;have hS:=hS.call0 hS';(repeat(refine jt ⟨?_⟩;refine hS.q ?_;intro _ hS));refine jt ⟨?_⟩;refine Cl.mono NZ ?_;rintro _ w3⟨f,L0,rfl, -,hF,hS'⟩
 have hS:=hS.callNew hS';(repeat(refine jt ⟨?_⟩;refine hS.q ?_;intro _ hS));refine jt ⟨?_⟩;refine hS.al ?_;intro r w4 _ hS;(repeat(refine jt ⟨?_⟩;refine hS.q ?_;intro _ hS));refine jt ⟨?_⟩;refine St.app (sz:=1) (m:=hs.length) AK rfl rfl rfl rfl hS (AT.made BP r []) (news:=hs.map AY) (by rw[BM,Nat.mul_one]) ((hS.arrOld ha).sub AB) (C8.2 λv hv=>by obtain⟨z, -,rfl⟩:=BV.1 hv;rfl) (by show(_+_)*8≤_;simp only[Bo];omega) (by simp only[Bo];omega) ?_
 intro a6 c6 L6 w5 hv6 hS;rw[CU,show([]:List Value).length+hs.length=hs.length from Cs _]at hv6;rw[show([]:List Value).length+hs.length=hs.length from Cs _];(repeat(refine jt ⟨?_⟩;refine hS.q ?_;intro _ hS));refine jt ⟨?_⟩;refine hS.al ?_;intro r2 w6 _ hS;(repeat(refine jt ⟨?_⟩;refine hS.q ?_;intro _ hS));refine jt ⟨?_⟩;refine St.app (sz:=1) (m:=1) AK rfl rfl rfl rfl hS hv6 (news:=[.int .i64 (-77)]) rfl (by have:=hS.arr (b:=r2) (T':=[]) AB;exact this) rfl (by show(_+_)*8≤_;omega) AA ?_
 intro a7 c7 L7 w7 hv7 hS;(repeat(refine jt ⟨?_⟩;refine hS.q ?_;intro _ hS));refine jt ⟨?_⟩;refine hS.al ?_;intro b7 w8 _ hS;(repeat(refine jt ⟨?_⟩;refine hS.q ?_;intro _ hS));refine jt ⟨?_⟩;have hA7:=hv7.arr hS (T':=[]) AB;rcases hv7.inv with⟨-,h0, -⟩|⟨g7,l7,rfl,hx7,hl7,hc7,rfl⟩
 ·exact absurd h0 (Nat.succ_ne_zero _)
 (repeat(refine jt ⟨?_⟩;refine hS.q ?_;intro _ hS));refine jt ⟨?_⟩;rw[show(hs.length:Int).toNat=hs.length from Int.toNat_natCast _];have hS:=hS.sub ((AS _ _).trans (AS _ _));(repeat(refine jt ⟨?_⟩;refine hS.q ?_;intro _ hS));refine jt ⟨?_⟩;refine Cl.mono (S2 (hs:=hs) (mm:=mm) (fan:=fan) (c:=c7) (a:=some ⟨g7,0,none⟩) hF (hS.part (L:=L0)) (hG.part hS (L:=L0)) (Arr.pre (hv7.arr hS (T':=keys L0) (uV hS))) hhl) ?_
 rintro _ w9⟨sb,L1,rfl,hK,hS'⟩;have hS:=hS.call (L:=L0) hS';clear hF;(repeat(refine jt ⟨?_⟩;refine hS.q ?_;intro _ hS));refine jt ⟨?_⟩;refine hS.al ?_;intro r3 w10 _ hS;(repeat(refine jt ⟨?_⟩;refine hS.q ?_;intro _ hS));refine jt ⟨?_⟩;refine St.app (sz:=3) (m:=ops.length) AK rfl rfl rfl rfl hS (show AT Bn 3 (some ⟨r3,0,none⟩) 0 0 [] [(r3,.cells ⟨[]⟩ Bn (0,0))]from .row r3 0 0 [] [] rfl rfl (AV _)) (news:=ops.flatMap A8) (by rw[HU,HM]) ((hS.arrOld hop).sub AB) (C8.2 λv hv=>by
  obtain⟨o, -,ho⟩:=List.mem_flatMap.1 hv;unfold A8 at ho;simp only[As,List.not_mem_nil,or_false]at ho;rcases ho with rfl|rfl|rfl<;>rfl) (by show(_+_)*40≤_;omega) AA ?_
 intro a10 c10 L10 w11 hv10 hS;rw[CU,Cs]at hv10;rw[show 0+ops.length=ops.length from Cs _];(repeat(refine jt ⟨?_⟩;refine hS.q ?_;intro _ hS));refine jt ⟨?_⟩;refine hS.al ?_;intro r4 w12 _ hS;(repeat(refine jt ⟨?_⟩;refine hS.q ?_;intro _ hS));refine jt ⟨?_⟩;refine St.app (sz:=3) (m:=1) AK rfl rfl rfl rfl hS hv10 (news:=[AG [115,112,97,114,101],.bool false,AG []]) rfl (by have:=hS.arr (b:=r4) (T':=[]) AB;exact this) rfl (by show(_+_)*40≤_;omega) AA ?_
 intro a11 c11 L11 w13 hv11 hS;have hA11:=hv11.arr hS (T':=[]) AB;have hS:=hS.sub (AS _ _);(repeat(refine jt ⟨?_⟩;refine hS.q ?_;intro _ hS));refine jt ⟨?_⟩;rcases hv11.inv with⟨-,h0, -⟩|⟨g8,l8,rfl,hx8,hl8,hc8,rfl⟩
 ·exact absurd h0 (Nat.succ_ne_zero _)
 (repeat(refine jt ⟨?_⟩;refine hS.q ?_;intro _ hS));refine jt ⟨?_⟩;rw[show(ops.length:Int).toNat=ops.length from Int.toNat_natCast _];refine Cl.mono (PZ (ops:=ops) (cp:=c11) hK (hS.part (L:=L1)) (hG.part hS (L:=L1)) (Arr.pre (hv11.arr hS (T':=keys L1) (qO hS))) hol AA AA) ?_;rintro _ w14⟨rfl,L2,hK,hS'⟩;have hS:=hS.call (L:=L1) hS';(repeat(refine jt ⟨?_⟩;refine hS.q ?_;intro _ hS));refine jt ⟨?_⟩;refine Cl.mono (Kb (l:=ops) (m:=ops) (Arr.pre (hv11.arr hS (T':=[]) AB)) ((hS.arrOld hop).sub AB) AA AA) ?_
 rintro _ w15⟨rfl,hS'⟩;have hS:=hS.call0 hS';rw[decide_eq_true rfl];(repeat(refine jt ⟨?_⟩;refine hS.q ?_;intro _ hS));refine jt ⟨?_⟩;refine Eb (v:=AG [115,112,97,114,101]) (T8 (hv11.arr hS (T':=[]) AB) (j:=3*ops.length) (by rw[Dp (by rw[HU];omega),HU,Nat.sub_self];rfl) AA) ?_;(repeat(refine jt ⟨?_⟩;refine hS.q ?_;intro _ hS));refine jt ⟨?_⟩;refine Eb (v:= .int .i64 (-77)) (T8 (hv7.arr hS (T':=[]) AB) (j:=hs.length) (by rw[Dp (by rw[BM];exact AV _),BM,Nat.sub_self];rfl) AA) ?_
 (repeat(refine jt ⟨?_⟩;refine hS.q ?_;intro _ hS));refine jt ⟨?_⟩;refine Cl.mono (Pa ((hS.arrOld hop).sub AB) hol AA) ?_;rintro _ w16⟨rfl,hS'⟩;have hS:=hS.call0 hS';have hS:=hS.sub (Ah _ _);clear hv11 hA11 hv10 hv6;have hle:decide ((if 4096<Ap ops then(2:Int)else 0)=2)=decide (4096<Ap ops):=by
  by_cases h:4096<Ap ops
  ·rw[if_pos h,decide_eq_true rfl,decide_eq_true h]
  ·rw[if_neg h,decide_eq_false h];rfl
 have hl0:decide ((if 4096<Ap ops then(2:Int)else 0)=0)= !decide (4096<Ap ops):=by
  by_cases h:4096<Ap ops
  ·rw[if_pos h,decide_eq_true h];rfl
  ·rw[if_neg h,decide_eq_false h];rfl
 (repeat(refine jt ⟨?_⟩;refine hS.q ?_;intro _ hS));refine jt ⟨?_⟩;refine Ae.mk Tryz.underlying4 ?_;rw[hle,beq_self_eq_true,Bool.not_true];(repeat(refine ju ⟨?_⟩;refine hS.q ?_;intro _ hS));refine ju ⟨?_⟩;refine jP AK ?_;(repeat(refine ju ⟨?_⟩;refine hS.q ?_;intro _ hS));refine ju ⟨?_⟩;obtain⟨now,hnow⟩: ∃n,n=if 4096<Ap ops then []else Cf [] ops:=⟨_,rfl⟩
 rw[←hnow]at hK;refine AL.here ?_;refine AL.join (λi:Option Addr×Nat=>[(5,ptr f),(6,.slice (some ⟨g7,0,none⟩) (hs.length+1) c7),(8,ptr sb),(11,.slice i.1 now.length i.2)])
  (λi w'=>∃P,Es P i.1 (now.flatMap BN)∧St w [] (P++([(g7,.cells ⟨hs.map AY++[.int .i64 (-77)]++l7⟩ BP (0,0))]++L2)) w') ?_ ?_
 ·by_cases hl:4096<Ap ops
  ·rw[if_pos hl]at hnow;subst hnow;rw[if_pos hl];(repeat(refine jt ⟨?_⟩;refine hS.q ?_;intro _ hS));refine jt ⟨?_⟩;exact⟨(none,0),⟨rfl,rfl,rfl,rfl,trivial⟩,[],Es.nil _,hS.sub ((CC _ _).append_left _)⟩
  ·rw[if_neg hl]at hnow;subst hnow;rw[if_neg hl];(repeat(refine jt ⟨?_⟩;refine hS.q ?_;intro _ hS));refine jt ⟨?_⟩;refine Cl.mono (Pt (P:=[]) (Holds.nil _) (l:=[]) (Es.nil _) (.inl rfl) (Ag _) List.Pairwise.nil ((hS.arrOld hop).sub AB) (by simp only[Bo];omega)) ?_;rintro _ w17⟨a',c',L',rfl,h1, -, -, -,hS'⟩;have hS:=hS.callNew hS';(repeat(refine jt ⟨?_⟩;refine hS.q ?_;intro _ hS));refine jt ⟨?_⟩;exact⟨(a',c'),⟨rfl,rfl,rfl,rfl,trivial⟩,L'++[],h1,by rw[BU];exact hS.sub (((CC _ _).append_left _).append_left _)⟩
 clear hS hS';rintro⟨aw,cw⟩w17⟨P,hP,hS⟩;simp only at hP⊢;have hnl:=aB hK;(repeat(refine jt ⟨?_⟩;refine hS.q ?_;intro _ hS));refine jt ⟨?_⟩;refine AL.loop (λk:Nat=>[(5,ptr f),(6,.slice (some ⟨g7,0,none⟩) (hs.length+1) c7),(8,ptr sb),(11,.slice aw now.length cw),(97,.int .i64 ((hs.length+1:Nat):Int)),(98,.int .i64 k)])
  (λk w'=>k≤hs.length+1∧ ∃l,l.length=c7*1∧St w [] (P++([(g7,.cells ⟨l⟩ BP (0,0))]++L2)) w') (λk=>hs.length+1-k) 0
  ⟨rfl,rfl,rfl,rfl,rfl,rfl,trivial⟩ ⟨Ag _,_,by rw[AP];exact hl7,hS⟩ ?_
 clear hS;rintro k w18⟨hk,l,hll,hS⟩;by_cases hkl:k<hs.length+1
 ·(repeat(refine jt ⟨?_⟩;refine hS.q ?_;intro _ hS));refine jt ⟨?_⟩;refine hS.stI rfl (by rw[hll];omega) ?_;intro w19 hS;(repeat(refine jt ⟨?_⟩;refine hS.q ?_;intro _ hS));refine jt ⟨?_⟩;exact⟨k+1,⟨rfl,rfl,rfl,rfl,rfl,rfl,trivial⟩,⟨AA,_,by rw[IN];exact hll,hS⟩,AA⟩
 obtain rfl:k=hs.length+1:=AA;(repeat(refine jt ⟨?_⟩;refine hS.q ?_;intro _ hS));refine jt ⟨?_⟩;have hS:St w [] (P++L2) w18:=hS.sub ((Ah _ _).append_left P);refine Cl.mono (PY hK (hS.part (L:=L2)) [] []) ?_;rw[Q6];rintro _ w19⟨a13,c13,Lv,rfl,hv13,hS'⟩;have hS:=hS.call (L:=L2) hS';(repeat(refine jt ⟨?_⟩;refine hS.q ?_;intro _ hS));refine jt ⟨?_⟩;refine Cl.mono (PY hK (hS.part (L:=L2)) [] []) ?_;rw[Q6]
 rintro _ w20⟨a15,c15,Lu,rfl,hv15,hS'⟩;have hS:=hS.call (L:=L2) hS';have hS:St w [] (P++(Lv++(Lu++L2))) w20:=hS;rw[I6]at hv13 hv15;rw[I6];(repeat(refine jt ⟨?_⟩;refine hS.q ?_;intro _ hS));refine jt ⟨?_⟩;refine AL.loop (λk:Nat=>[(5,ptr f),(8,ptr sb),(11,.slice aw now.length cw),(13,.slice a13 now.length c13),(15,.slice a15 now.length c15),(116,.int .i64 now.length),(117,.int .i64 k)])
  (λk w'=>k≤now.length∧ ∃xs Lw,AT Bn 3 a13 now.length c13 xs Lw∧St w [] (P++(Lw++(Lu++L2))) w') (λk=>now.length-k) 0
  ⟨rfl,rfl,rfl,rfl,rfl,rfl,rfl,trivial⟩ ⟨Ag _,_,Lv,hv13,hS⟩ ?_
 clear hS hv13 hS';rintro k w21⟨hk,xs,Lw,hvw,hS⟩;by_cases hkl:k<now.length
 ·rcases hvw.inv with⟨-,h0, -⟩|⟨g3,l3,rfl,hx3,hl3,hc3,rfl⟩
  ·omega
  (repeat(refine jt ⟨?_⟩;refine hS.q ?_;intro _ hS));refine jt ⟨?_⟩;refine St.stN hS rfl (by rw[AP,hl3];show _+3≤_;omega) ?_;intro w22 hS;(repeat(refine jt ⟨?_⟩;refine hS.q ?_;intro _ hS));refine jt ⟨?_⟩;exact⟨k+1,⟨rfl,rfl,rfl,rfl,rfl,rfl,rfl,trivial⟩,⟨AA,_,_,AT.ofLen ((xV _ _ _ (by rw[AP,hl3];show _+3≤_;omega)).trans (by rw[AP,hl3])) hc3,hS⟩,AA⟩
 obtain rfl:k=now.length:=AA;(repeat(refine jt ⟨?_⟩;refine hS.q ?_;intro _ hS));refine jt ⟨?_⟩;refine hS.al ?_;intro r5 w22 _ hS;(repeat(refine jt ⟨?_⟩;refine hS.q ?_;intro _ hS));refine jt ⟨?_⟩;refine St.app (sz:=3) (m:=1) AK rfl rfl rfl rfl hS hvw (news:=[AG [],.bool false,AG []]) rfl (by have:=hS.arr (b:=r5) (T':=[]) AB;exact this) rfl (by show(_+_)*40≤_;omega) AA ?_;intro a16 c16 L16 w23 hv16 hS
 have hS:St w [] (P++(Lu++L2)) w23:=(hS.sub (AS _ _)).sub ((Ah L16 _).append_left P);(repeat(refine jt ⟨?_⟩;refine hS.q ?_;intro _ hS));refine jt ⟨?_⟩;rw[←I6 now];refine Cl.mono (Kb (l:=now.map DM) (m:=now.map DM) (hv15.arr hS AB) (by rw[LR];exact hP.in hS) (by rw[BM];omega) (by rw[BM];omega)) ?_;rintro _ w24⟨rfl,hS'⟩;have hS:=hS.call0 hS';rw[decide_eq_true rfl,I6];(repeat(refine jt ⟨?_⟩;refine hS.q ?_;intro _ hS));refine jt ⟨?_⟩
 refine Cl.mono (ZV hK (hS.part (L:=L2))) ?_;rintro _ w25⟨rfl,hS'⟩;have hS:=hS.call (L:=L2) hS';have hS:St w [] L2 w25:=hS.sub ((Ah Lu L2).trans (Ah P _));(repeat(refine jt ⟨?_⟩;refine hS.q ?_;intro _ hS));refine jt ⟨?_⟩;refine hS.al ?_;intro r6 w26 _ hS;(repeat(refine jt ⟨?_⟩;refine hS.q ?_;intro _ hS));refine jt ⟨?_⟩;refine Cl.mono (ZU (cap:=1) hK (hS.part (L:=L2)) (by have:=hS.arr (b:=r6) (T':=keys L2) (Cp hS);exact this)) ?_
 rintro _ w27⟨L3,hA,hS'⟩;have hS:=hS.call (L:=L2) hS';have hS:=hS.sub (AS _ _);(repeat(refine jt ⟨?_⟩;refine hS.q ?_;intro _ hS));refine jt ⟨?_⟩;refine Cl.mono (ZW hA (hS.part (L:=L3))) ?_;rintro _ w28⟨L4,hD,hS'⟩;have hS:=hS.call (L:=L3) hS';(repeat(refine jt ⟨?_⟩;refine hS.q ?_;intro _ hS));refine jt ⟨?_⟩;refine Cl.mono (hD.scan (hS.part (L:=L4)) [] []) ?_;rintro _ w29⟨rfl,L5,hD,hS'⟩;have hS:=hS.call (L:=L4) hS'
 (repeat(refine jt ⟨?_⟩;refine hS.q ?_;intro _ hS));refine jt ⟨?_⟩;refine Cl.mono (hD.get (hS.part (L:=L5)) [97] AC) ?_;rintro _ w30⟨rfl,L6,hD,hS'⟩;have hS:=hS.call (L:=L5) hS';(repeat(refine jt ⟨?_⟩;refine hS.q ?_;intro _ hS));refine jt ⟨?_⟩;refine Cl.mono (hD.down (hS.part (L:=L6))) ?_;rintro _ w31⟨rfl,hS'⟩;have hS:=hS.call (L:=L6) hS';(repeat(refine jt ⟨?_⟩;refine hS.q ?_;intro _ hS));refine jt ⟨?_⟩
 refine hS.al ?_;intro r7 w32 _ hS;(repeat(refine jt ⟨?_⟩;refine hS.q ?_;intro _ hS));refine jt ⟨?_⟩;refine Cl.mono (hD.write (hS.part (L:=L6)) (hG.part hS (L:=L6)) (ops:=[([97],false,[])]) (by have:=hS.arr (b:=r7) (T':=keys L6) (Cp hS);exact this) AC) ?_;rintro _ w33⟨rfl,L7,hD,hS'⟩;have hS:=hS.call (L:=L6) hS';have hS:=hS.sub (AS _ _);(repeat(refine jt ⟨?_⟩;refine hS.q ?_;intro _ hS));refine jt ⟨?_⟩
 refine Cl.mono (hD.flush (hS.part (L:=L7)) (hG.part hS (L:=L7))) ?_;rintro _ w34⟨rfl,L8,hD,hS'⟩;have hS:=hS.call (L:=L7) hS';(repeat(refine jt ⟨?_⟩;refine hS.q ?_;intro _ hS));refine jt ⟨?_⟩;refine Cl.mono (hD.compact (hS.part (L:=L8)) (hG.part hS (L:=L8))) ?_;rintro _ w35⟨rfl,L9,hD,hS'⟩;have hS:=hS.call (L:=L8) hS';(repeat(refine jt ⟨?_⟩;refine hS.q ?_;intro _ hS));refine jt ⟨?_⟩;exact⟨rfl,hS.nil⟩
end Go.Proofs.YtkgibdhpijdbfaaGreatDoor
