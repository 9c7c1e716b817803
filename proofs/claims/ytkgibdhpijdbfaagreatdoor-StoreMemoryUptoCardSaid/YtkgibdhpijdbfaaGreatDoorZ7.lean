/- Texts of this claim, one behind the other. -/
import Derived.Test.YtkgibdhpijdbfaaGreatDoorZ5
import Derived.Lib.UnsafeStr
import Derived.Lib.Builder
import Derived.Lib.MakeNoZero
set_option linter.unusedVariables false
set_option linter.unusedSimpArgs false
set_option maxHeartbeats 16000000
namespace Go.Proofs.YtkgibdhpijdbfaaGreatDoor
open Go Go.Eng Go.Proofs
inductive Fw(b:Nat)(s:List UInt8):AH→Prop where
 |mk (p:Value) (hp:p= .pointer none∨p=ptr b) (a:Option Addr) (cap:Nat) (L:AH) (hv:AT GS 1 a s.length cap (s.map Eg) L):
  Fw b s ((b,.cells ⟨[p,.slice a s.length cap]⟩ Ef (0,0))::L)
theorem Fw.new(b:Nat):Fw b [] [(b,.cells ⟨[.pointer none,.slice none 0 0]⟩ Ef (0,0))]:=Fw.mk _ (.inl rfl) none 0 [] AT.nil
theorem wW(v:Value)(w:World):(callFunc mN ⟨[v]⟩).run Tryz.prog w= .ok (.value v) w:=by
 rw[run_callFunc_extern rM AD AD AD (e:=Extern.AbiNoEscape.same) AD]
 rfl
theorem Yj:Tryz.prog.underlying aI=some .unsafePointer:=AD
theorem tA:liesAt Tryz.prog Tryz.prog.depth Ef (2 / Tryz.prog.cellsOf Ef) 0 Ef 1=true:=AD
theorem UF{w:World}{b n cap:Nat}{p:Value}{a:Option Addr}{L1:AH}(hp:p= .pointer none∨p=ptr b)
  (hh:Holds ((b,.cells ⟨[p,.slice a n cap]⟩ Ef (0,0))::L1) w):
  Cl Tryz.prog pP [ptr b] w λv w'=>v= .tuple ⟨[]⟩∧St w (b::keys L1) ((b,.cells ⟨[ptr b,.slice a n cap]⟩ Ef (0,0))::L1) w':=by
 have hS:St w (b::keys L1) _ w:=St.enter hh;have hsh:w.shape? b=some (Ef,2):=by
  have:=hS.mem (b:=b);simp[World.shape?,this]
 obtain⟨inf,hinf, -,hsz, -⟩:=OS AK (t:=Ef) rfl;refine jT rfl ?_;rcases hp with rfl|rfl
 ·(repeat(refine jt ⟨?_⟩;refine hS.q ?_;intro _ hS));refine jt ⟨?_⟩;refine Bk.of (Lib.run_to_unsafe w ⟨b,0,none⟩ (CZ AK (t:=Ni) rfl) Yj hinf (by rw[hsz];nofun) hsh (Nat.zero_lt_succ 1)) ?_;refine Or.inr ⟨_,_,wW _ _,?_⟩;refine Bk.of (Lib.run_from_unsafe w ⟨b,0,none⟩ Yj (CZ AK (t:=Ni) rfl) hinf hsh tA) ?_;(repeat(refine jt ⟨?_⟩;refine hS.q ?_;intro _ hS));refine jt ⟨?_⟩;exact⟨rfl,hS⟩
 ·(repeat(refine jt ⟨?_⟩;refine hS.q ?_;intro _ hS));refine jt ⟨?_⟩;refine JG.mk ⟨.bool false,λw=>?_,?_⟩
  ·have:=Lib.run_neq_ptr_same (P:=Tryz.prog) w ⟨b,0,none⟩ (CZ AK (t:=Ni) rfl) hinf;simp only[Sem.run_bind,O3 Tryz.prog .neq Ni _ _ (ptr b) (ptr b) w nofun nofun,Result.andThen_ok];exact this
  ·(repeat(refine jt ⟨?_⟩;refine hS.q ?_;intro _ hS));refine jt ⟨?_⟩;exact⟨rfl,hS⟩
theorem JL{w:World}{b:Nat}{s t:List UInt8}{L:AH}(hL:Fw b s L)(hh:Holds L w)(hlen:s.length+t.length≤140737488355328):
  Cl Tryz.prog pO [ptr b,AG t] w λv w'=>v= .tuple ⟨[.int .i64 t.length,.nilIface]⟩∧ ∃L',Fw b (s++t) L'∧St w (keys L) L' w':=by
 obtain⟨p,hp,a,cap,L1,hv⟩:=hL;refine jS rfl ?_;refine jq ⟨?_⟩;refine(UF hp hh).mono ?_;rintro _ w1⟨rfl,hS⟩;(repeat(refine jt ⟨?_⟩;refine hS.q ?_;intro _ hS));refine jt ⟨?_⟩;refine St.appStr AK rfl rfl rfl rfl rfl rfl hS hv (by show(_+_)*1≤_;omega) AA ?_;intro a' cap' L' w2 hv' hS;(repeat(refine jt ⟨?_⟩;refine hS.q ?_;intro _ hS));refine jt ⟨?_⟩;refine⟨rfl,_,Fw.mk (ptr b) (.inr rfl) a' cap' L' ?_,?_⟩
 ·simpa using hv'
 ·rw[AP];exact hS
theorem X9{w:World}{g:Nat}{l:List Value}{e:TypeId}{fz:Nat×Nat}(h:w.heap[g]?=some (.cells ⟨l⟩ e fz)):w.shape? g=some (e,l.length):=by
 simp[World.shape?,h]
theorem bV:Tryz.prog.cellsOf GS=1:=AD
theorem tV{H:AH}{p:Nat×Obj}(h:p∈H):p.1∈keys H:=CD h
theorem rK{w0 w:World}{T:List Nat}{g:Nat}{o:Obj}{H:AH}(hS:St w0 T ((g,o)::H) w)(a:Addr)(ha:a.block=g)(n:Nat):St w0 T H (w.freeze a n):=by
 unfold World.freeze
 split
 ·exact hS.sub (AS _ _)
 ·refine⟨hS.os,hS.tape,hS.output,by simpa using hS.size,λb hb hT=>?_,λp hp=>?_,(Ew.1 hS.nd).2,λp hp=>hS.fresh p (CJ _ hp)⟩
  ·have hne:g≠b:=λe=>by subst e;exact hT (hS.fresh _ CN hb)
   simp only[Array.getElem?_modify,ha];rw[if_neg hne];exact hS.old b hb hT
  ·have hne:g≠p.1:=λe=>(Ew.1 hS.nd).1 (by have:=tV hp;rw[←e]at this;exact this);simp only[Array.getElem?_modify,ha];rw[if_neg hne];exact hS.own p (CJ _ hp)
theorem Pm{w:World}{b:Nat}{s:List UInt8}{L:AH}(hL:Fw b s L)(hh:Holds L w)(hlen:s.length≤140737488355328):
  Cl Tryz.prog pN [ptr b] w λv w'=>v=AG s∧St w (keys L) [] w':=by
 have hS:=St.enter hh;obtain⟨p,hp,a,cap,L1,hv⟩:=hL;refine jR rfl ?_;refine jq ⟨?_⟩;refine AL.draw AK mixed (λw'=>St w (keys ((b,.cells ⟨[p,.slice a s.length cap]⟩ Ef (0,0))::L1)) ((b,.cells ⟨[p,.slice a s.length cap]⟩ Ef (0,0))::L1) w')
  [10,11] [0,1,2,3,5,6,7,8,9,4,10,11] AD hS.drew ?_
 refine jr ⟨?_⟩;have hS:=hS.drew;generalize w.drew=w1 at hS⊢
 --the pointer to the bytes
 by_cases hs:s=[]
 ·subst hs;have key: ∃q w2,(Builtin.unsafeSliceData_ ⟨[MK]⟩ Po ⟨[.slice a 0 cap]⟩).run Tryz.prog w1= .ok (.pointer q) w2∧St w (keys ((b,.cells ⟨[p,.slice a 0 cap]⟩ Ef (0,0))::L1)) ((b,.cells ⟨[p,.slice a 0 cap]⟩ Ef (0,0))::L1) w2:=by
   cases hv with
   |nil=>exact⟨none,w1,rfl,hS⟩
   |row g n cap xs l hx hl hn=>
    by_cases hc:cap=0
    ·subst hc;exact⟨_,_,Lib.run_unsafeSliceData_zero w1 _ _ _ (CZ AK (t:=Po) rfl) _ _ _ (X9 (hS.mem (b:=g))),(hS.alloc _).sub (AS _ _)⟩
    ·exact⟨_,w1,Lib.run_unsafeSliceData_row (P:=Tryz.prog) w1 _ _ _ _ _ hc,hS⟩
  obtain⟨q,w2,h1,hS⟩:=key;refine Bk.of h1 ?_;refine Ae.mk hS ?_;refine Bk.of (Lib.run_unsafeString_none (P:=Tryz.prog) w2 _ _ _ q) ?_;refine jq ⟨?_⟩;exact⟨rfl,hS.nil⟩
 ·rcases hv.inv with⟨-,h0, -⟩|⟨g,l,rfl,hx,hl,hn,rfl⟩
  ·exact absurd (Ho.1 h0) hs
  ·have hs0:0<s.length:=J5.2 hs;have hcap:cap≠0:=AA;refine Bk.of (Lib.run_unsafeSliceData_row (P:=Tryz.prog) w1 _ _ ⟨g,0,none⟩ s.length cap hcap) ?_;refine Ae.mk hS ?_;refine Bk.of (Lib.run_unsafeString_row (P:=Tryz.prog) w1 _ _ _ GS (CZ AK (t:=Po) rfl) bV g _ (X9 (hS.mem (b:=g))) s hs AB AA ?_) ?_
   ·intro j x hx;rw[Addr.add_eq,Cs];refine hS.cell ?_;have hlt:j<s.length:=(FR.1 hx).1;rw[Cn (by simpa using hlt)];simp[hx,Eg]
   ·refine jq ⟨?_⟩;refine⟨rfl,?_⟩;exact(rK (hS.perm (List.Perm.swap _ _ _)) ⟨g,0,none⟩ rfl s.length).nil
theorem Pi{w:World}{a:Option Addr}{cap:Nat}{ps:List (List UInt8)}(hlen:BG ps+8*ps.length≤140737488355328)(ha:Arr w [] a (ps.map AG)):
  Cl Tryz.prog mJ [.slice a ps.length cap] w λv w'=>v= .tuple ⟨if Bc ps then [AG (AQ ps),.int .i64 0]else [AG [],.int .i64 2]⟩∧St w [] [] w':=by
 have hS:=St.start w;refine eE rfl ?_;refine jq ⟨?_⟩;refine hS.al ?_;intro b w1 hb hS;refine jq ⟨?_⟩;refine AL.loop (λk:Nat=>[(8,.slice a ps.length cap),(9,.int .i64 ps.length),(10,.int .i64 k),(4,ptr b)]) (λk w'=>k≤ps.length∧(∀j,(h:j<ps.length)→j<k→ps[j].length≤65536)∧ ∃L,Fw b (AQ (ps.take k)) L∧St w [] L w') (λk=>ps.length-k) 0
  ⟨rfl,rfl,rfl,rfl,trivial⟩ ⟨Ag _,λ_ _ h=>absurd h (Nat.not_lt_zero _),_,Fw.new b,hS⟩ ?_
 rintro k w2⟨hk,hall,L,hB,hS⟩;by_cases hkl:k<ps.length
 ·have h1:=NJ ps k hkl;have h2:=Jh ps (k+1);have h3:=Ds (ps.take k);have h4:(ps.take k).length=k:=by simp;omega
  obtain⟨b',off',rfl, -,hck⟩:=ha.get (j:=k) (by simp;omega);simp only[G5]at hck;refine jq ⟨?_⟩;refine hS.ldOld AB (by simpa using hck) ?_;refine jq ⟨?_⟩;refine Ax.dec (λh=>?_) (λh=>?_)
  ·refine jq ⟨?_⟩;have:Bc ps=false:=by
    cases hok:Bc ps with
    |false=>rfl
    |true=>
     have:=of_decide_eq_true (C8.1 hok ps[k] (Ca _));omega
   rw[this];exact⟨rfl,hS.nil⟩
  ·refine jq ⟨?_⟩;refine(Vd ps[k].length).mono ?_;rintro _ w3⟨rfl,hS'⟩;have hS:=hS.call0 hS';refine jq ⟨?_⟩;refine hS.al ?_;intro b2 w4 hb2 hS;refine(TT (ps:=[B6 ps[k].length,ps[k]]) AB (by simp[B6];omega) (hS.arr (b:=b2) AB)).mono ?_;rintro _ w5⟨rfl,hS'⟩;have hS:=(hS.call0 hS').sub (AS _ _);refine jq ⟨?_⟩;refine(Vd (Fl [B6 ps[k].length,ps[k]])).mono ?_;rintro _ w6⟨rfl,hS'⟩;have hS:=hS.call0 hS';refine Ae.mk (by simp[B6]) ?_
   refine(JL hB hS.holds (by simp[B6];omega)).mono ?_;rintro _ w7⟨rfl,L2,hB,hS'⟩;have hS:=hS.call hS';refine jq ⟨?_⟩;refine(JL hB hS.holds (by simp[B6];omega)).mono ?_;rintro _ w8⟨rfl,L3,hB,hS'⟩;have hS:=hS.call hS';refine jq ⟨?_⟩;refine⟨k+1,⟨rfl,rfl,rfl,rfl,trivial⟩,⟨AA,λj hj hjk=>?_,L3,?_,hS⟩,AA⟩
   ·by_cases hjk':j=k
    ·subst hjk';omega
    ·exact hall j hj AA
   ·rw[xD ps k hkl];simpa[Dl,Aj]using hB
 ·have hke:k=ps.length:=AA;subst hke;rw[Bz]at hB;have h3:=Ds ps;refine jq ⟨?_⟩;refine(Pm hB hS.holds AA).mono ?_;rintro _ w3⟨rfl,hS'⟩;have hS:=hS.call hS';refine jq ⟨?_⟩;have:Bc ps=true:=C8.2 λp hp=>by
   obtain⟨j,hj,rfl⟩:=List.getElem_of_mem hp;exact decide_eq_true (hall j hj hj)
  rw[this];exact⟨rfl,hS⟩
theorem wV{w0 w:World}{T:List Nat}{H:AH}(hS:St w0 T H w)(n:Nat)(hn:n≤281474976710656){K:Value→World→Prop}
  (h: ∀g l w',n≤l.length→St w0 T ((g,.cells ⟨l⟩ GS (0,0))::H) w'→K (.slice (some ⟨g,0,none⟩) n l.length) w'):
  Cl Tryz.prog mO [.int .i64 n] w K:=by
 obtain⟨cs,h1,h2,_⟩:=Lib.run_makeNoZero (P:=Tryz.prog) w #[BP] MK GS (CZ AK (t:=MK) rfl).1 n hn;obtain⟨l⟩:=cs;refine Or.inr ⟨_,w.drew.drew.alloc (.cells ⟨l⟩ GS),?_,h w.heap.size l _ h2 ?_⟩
 ·rw[run_callFunc_extern rN AD AD AD (e:=Extern.BytealgMakeNoZero.makeNoZero #[BP] #[MK]) AD];rw[show(Array.mk [Value.int IntKind.i64 ↑n])= #[.int .i64 ↑n]from rfl,h1]
  rfl
 ·exact hS.drew.drew.alloc _
theorem rV{w:World}{b:Nat}(n:Nat)(hn:n≤140737488355328)(hh:Holds [(b,.cells ⟨[ptr b,.slice none 0 0]⟩ Ef (0,0))] w):
  Cl Tryz.prog pQ [ptr b,.int .i64 n] w λv w'=>v= .tuple ⟨[]⟩∧ ∃L',Fw b [] L'∧St w [b] L' w':=by
 have hS:=St.enter hh;refine jU rfl ?_;refine jq ⟨?_⟩;refine AL.draw AK mixed (λw'=>∃H,St w [b] ((b,.cells ⟨[ptr b,.slice none 0 0]⟩ Ef (0,0))::H) w')
  [] [0,1,2,3,4,5,6,7,9,10,11,12,13,8,14,15] AD ⟨[],hS.drew⟩ ?_
 refine FK.mk ⟨_,λw'⟨H,h⟩=>h.cell (l:=[ptr b,.slice none 0 0]) rfl,?_⟩;refine jq ⟨?_⟩;refine FK.mk ⟨_,λw'⟨H,h⟩=>h.cell (l:=[ptr b,.slice none 0 0]) rfl,?_⟩;refine jq ⟨?_⟩;have e1:(2:Int)*((0:Nat):Int)+(n:Int)=((n:Nat):Int):=AA;rw[e1];refine wV hS.drew n AA ?_;intro g l w1 hl hS;refine Ae.mk ⟨_,hS.perm (List.Perm.swap _ _ _)⟩ ?_;(repeat(refine jt ⟨?_⟩;refine hS.q ?_;intro _ hS));refine jt ⟨?_⟩;refine Bk.of (run_copy_nil (P:=Tryz.prog) w1 _ _ _ GS ⟨g,0,none⟩ 0 l.length (CZ AK (t:=MK) rfl).1 AD) ?_
 (repeat(refine jt ⟨?_⟩;refine hS.q ?_;intro _ hS));refine jt ⟨?_⟩;refine⟨rfl,_,Fw.mk (s:=[]) (ptr b) (.inr rfl) (some ⟨g,0,none⟩) l.length [(g,.cells ⟨l⟩ GS (0,0))] ?_,hS.perm (List.Perm.swap _ _ _)⟩;have:=AT.row (e:=GS) (sz:=1) g 0 l.length [] l rfl AB AA;simpa using this
theorem S0{w:World}{b:Nat}(n:Nat)(hn:n≤140737488355328)(hh:Holds [(b,.cells ⟨[.pointer none,.slice none 0 0]⟩ Ef (0,0))] w):
  Cl Tryz.prog pM [ptr b,.int .i64 n] w λv w'=>v= .tuple ⟨[]⟩∧ ∃L',Fw b [] L'∧St w [b] L' w':=by
 refine jQ rfl ?_;refine jq ⟨?_⟩;refine(UF (.inl rfl) hh).mono ?_;rintro _ w1⟨rfl,hS⟩
 ·(repeat(refine jt ⟨?_⟩;refine hS.q ?_;intro _ hS));refine jt ⟨?_⟩;refine AL.draw AK mixed (λw'=>St w [b] [(b,.cells ⟨[ptr b,.slice none 0 0]⟩ Ef (0,0))] w')
   [] [0,1,2,3,4,5,6,7,8,9,10,11,12] AD hS.drew ?_
  have hS:St w [b] [(b,.cells ⟨[ptr b,.slice none 0 0]⟩ Ef (0,0))] w1.drew:=hS.drew;generalize w1.drew=w2 at hS⊢;refine jr ⟨?_⟩;refine Ax.dec (λh=>?_) (λh=>?_)
  ·refine jq ⟨?_⟩;refine(rV n hn hS.holds).mono ?_;rintro _ w3⟨rfl,L',hB,hS'⟩;have hS:=hS.call (L:=[(b,.cells ⟨[ptr b,.slice none 0 0]⟩ Ef (0,0))]) hS';refine jq ⟨?_⟩;exact⟨rfl,_,hB,hS⟩
  ·refine jq ⟨?_⟩;exact⟨rfl,_,Fw.mk (s:=[]) (ptr b) (.inr rfl) none 0 [] AT.nil,hS⟩
def Ir(sep:List UInt8):List (List UInt8)→List UInt8
 |[]=>[]
 |p::r=>p++(r.map (sep++ ·)).flatten
theorem sR(ps:List (List UInt8)):Ir [] ps=ps.flatten:=by
 cases ps<;>simp[Ir]
theorem sQ(sep p:List UInt8)(r:List (List UInt8)):(Ir sep (p::r)).length=BG (p::r)+sep.length*r.length:=by
 simp only[Ir,AP,BG,A4,HL];have:((r.map (sep++ ·)).flatten).length=(r.map List.length).sum+sep.length*r.length:=by
  induction r with
  |nil=>simp
  |cons x r ih=>simp only[A4,Dc,AP,ih,HL,Ai,Nat.mul_succ];omega
 omega
theorem OV(sep:List UInt8)(ps:List (List UInt8))(k:Nat)(h:0<ps.length):(ps[0]++((ps.tail.take k).map (sep++ ·)).flatten).length≤BG ps+sep.length*ps.length:=by
 cases ps with
 |nil=>simp at h
 |cons p r=>
  show(Ir sep (p::r.take k)).length≤_;rw[sQ];have h1:=Jh (p::r) (k+1);have h2:sep.length*(r.take k).length≤sep.length*(p::r).length:=Nat.mul_le_mul_left _ (by simp;omega);simp only[List.take_succ_cons]at h1;omega
theorem OW(sep:List UInt8)(ps:List (List UInt8))(k:Nat)(h:k+1<ps.length):(ps[0]++((ps.tail.take (k+1)).map (sep++ ·)).flatten)=(ps[0]++((ps.tail.take k).map (sep++ ·)).flatten)++(sep++ps[k+1]):=by
 rw[Bs (by simp;omega)];simp
theorem V5(sep:List UInt8)(ps:List (List UInt8))(h:0<ps.length):(ps[0]++((ps.tail.take (ps.length-1)).map (sep++ ·)).flatten)=Ir sep ps:=by
 cases ps with
 |nil=>simp at h
 |cons p r=>simp[Ir]
theorem ZT{w:World}{a:Option Addr}{c:Nat}{ps:List (List UInt8)}{sep:List UInt8}(ha:Arr w [] a (ps.map AG))(hc:ps.length≤c)(hcc:c≤140737488355328)(hlen:BG ps+sep.length*ps.length≤140737488355328):
  Cl Tryz.prog pS [.slice a ps.length c,AG sep] w λv w'=>v=AG (Ir sep ps)∧St w [] [] w':=by
 have hS:=St.start w;refine jW rfl ?_;by_cases h0:ps.length=0
 ·have:ps=[]:=Ho.1 h0;subst this;refine jq ⟨?_⟩;exact⟨rfl,hS⟩
 obtain⟨b,off,rfl, -,hc0⟩:=ha.get (j:=0) (by simp;omega);simp only[G5,Nat.add_zero]at hc0;by_cases h1:ps.length=1
 ·obtain⟨p,rfl⟩:=Kz.1 h1;refine jq ⟨?_⟩;refine hS.ldOld AB hc0 ?_;refine jq ⟨?_⟩;exact⟨by simp[Ir],hS⟩
 have hsl:sep.length≤sep.length*ps.length:=Nat.le_mul_of_pos_right _ AA;have hsm:sep.length*(ps.length-1)≤sep.length*ps.length:=Nat.mul_le_mul_left _ AA;have hk0:((ps.length:Int)-1)=((ps.length-1:Nat):Int):=AA;have hdiv:(sep.length:Int)<(9223372036854775807:Int).tdiv ((ps.length:Int)-1):=by
  rw[hk0,show(9223372036854775807:Int).tdiv ((ps.length-1:Nat):Int)=((9223372036854775807 / (ps.length-1):Nat):Int)from(Int.ofNat_tdiv 9223372036854775807 (ps.length-1)).symm];have:sep.length<9223372036854775807 / (ps.length-1):=by
   rw[Nat.lt_div_iff_mul_lt AA];have:sep.length*(ps.length-1)≤140737488355328:=AA;omega
  omega
 have hmul:(sep.length:Int)*((ps.length:Int)-1)=((sep.length*(ps.length-1):Nat):Int):=by rw[hk0];simp
 have hdlt:(9223372036854775807:Int).tdiv ((ps.length:Int)-1)≤9223372036854775807:=by
  rw[hk0,show(9223372036854775807:Int).tdiv ((ps.length-1:Nat):Int)=((9223372036854775807 / (ps.length-1):Nat):Int)from(Int.ofNat_tdiv 9223372036854775807 (ps.length-1)).symm];have:=Nat.div_le_self 9223372036854775807 (ps.length-1);omega
 generalize hD:(9223372036854775807:Int).tdiv ((ps.length:Int)-1)=D at hdiv hdlt;have hD0:0≤D:=AA;generalize hM:(sep.length:Int)*((ps.length:Int)-1)=M at hmul;generalize hSL:sep.length*ps.length=SL at hsl hsm hlen;generalize hSM:sep.length*(ps.length-1)=SM at hsm hmul
 --the length without the separators
 by_cases hsep:sep.length=0
 all_goals refine jq ⟨?_⟩
 all_goals try rw[hD]
 all_goals refine jq ⟨?_⟩
 all_goals try rw[hM]
 all_goals refine jq ⟨?_⟩
 ·refine AL.loop (λk:Nat=>[(0,.slice (some ⟨b,off,none⟩) ps.length c),(1,AG sep),(39,.slice (some ⟨b,off,none⟩) ps.length c),(40,.int .i64 ps.length),(41,.int .i64 k),(5,.int .i64 (0+BG (ps.take k)))]) (λk w'=>k≤ps.length∧w=w') (λk=>ps.length-k) 0
   ⟨rfl,rfl,rfl,rfl,rfl,(by show _=(_:Value);simp[BG]),trivial⟩ ⟨Ag _,rfl⟩ ?_
  rintro k _⟨hk,rfl⟩;have htl:=Jh ps k;by_cases hkl:k<ps.length
  ·have hst:=NJ ps k hkl;have htl1:=Jh ps (k+1);refine jq ⟨?_⟩;obtain⟨b',off',hbb, -,hck⟩:=ha.get (j:=k) (by simp;omega);cases hbb;simp only[G5]at hck;refine hS.ldOld AB (by simpa using hck) ?_;refine jq ⟨?_⟩;refine⟨k+1,⟨rfl,rfl,rfl,rfl,rfl,?_,trivial⟩,⟨AA,rfl⟩,AA⟩;show _=(_:Value);rw[hst];congr 1;omega
  ·have hke:k=ps.length:=AA;subst hke;rw[Bz]at*;refine jq ⟨?_⟩;refine hS.al ?_;intro bb w1 hbb hS;refine jq ⟨?_⟩;have e1:(0:Int)+(BG ps:Int)=(((0:Int).toNat+BG ps:Nat):Int):=AA;rw[e1];refine(S0 ((0:Int).toNat+BG ps) AA hS.part).mono ?_;rintro _ w2⟨rfl,L1,hB,hS'⟩;have hS:=hS.call (L:=[(bb,.cells ⟨[.pointer none,.slice none 0 0]⟩ Ef (0,0))]) hS';refine jq ⟨?_⟩;refine hS.ldOld AB (by simpa using hc0) ?_
   refine jq ⟨?_⟩;have hp0:=WM ps 0 AA;refine(JL hB hS.holds (by simp;omega)).mono ?_;rintro _ w3⟨rfl,L2,hB,hS'⟩;have hS:=hS.call hS';refine jq ⟨?_⟩;refine AL.loop (λk:Nat=>[(1,AG sep),(8,ptr bb),(63,.slice (CV b off 1 c 1) (ps.length-1) (c-1)),(64,.int .i64 (ps.length-1:Nat)),(65,.int .i64 k)]) (λk w'=>k≤ps.length-1∧ ∃L,Fw bb (ps[0]++((ps.tail.take k).map (sep++ ·)).flatten) L∧St w [] L w') (λk=>ps.length-k) 0
    ⟨rfl,rfl,rfl,rfl,rfl,trivial⟩ ⟨Ag _,_,by simpa using hB,hS⟩ ?_
   rintro k w4⟨hk,L3,hB,hS⟩;have hsub:CV b off 1 c 1=some ⟨b,off+1,none⟩:=by unfold CV;rw[if_neg AA]
   by_cases hkl:k<ps.length-1
   ·have hkt:k<ps.tail.length:=by simp;omega
    rw[hsub];refine jq ⟨?_⟩;obtain⟨b',off',hbb', -,hck⟩:=ha.get (j:=k+1) (by simp;omega);cases hbb';simp only[G5]at hck;refine hS.ldOld AB (by simpa[Gq,Nat.add_comm 1 k]using hck) ?_;refine jq ⟨?_⟩;have hx:=OV sep ps (k+1) AA;rw[hSL,OW sep ps k AA]at hx;simp only[AP]at hx;refine(JL hB hS.holds (by simp only[AP];omega)).mono ?_;rintro _ w5⟨rfl,L4,hB,hS'⟩;have hS:=hS.call hS';refine jq ⟨?_⟩;refine(JL hB hS.holds (by simp only[AP];omega)).mono ?_
    rintro _ w6⟨rfl,L5,hB,hS'⟩;have hS:=hS.call hS';refine jq ⟨?_⟩;refine⟨k+1,⟨rfl,rfl,rfl,rfl,rfl,trivial⟩,⟨AA,L5,?_,hS⟩,AA⟩;rw[OW sep ps k AA];simpa[Aj]using hB
   ·have hke:k=ps.length-1:=AA;subst hke;have hx:=OV sep ps (ps.length-1) AA;rw[hSL]at hx;rw[hsub];refine jq ⟨?_⟩;refine(Pm hB hS.holds AA).mono ?_;rintro _ w5⟨rfl,hS'⟩;have hS:=hS.call hS';refine jq ⟨?_⟩;refine⟨?_,hS⟩
    congr 3
    rw[V5 sep ps AA]
 ·refine AL.loop (λk:Nat=>[(0,.slice (some ⟨b,off,none⟩) ps.length c),(1,AG sep),(39,.slice (some ⟨b,off,none⟩) ps.length c),(40,.int .i64 ps.length),(41,.int .i64 k),(5,.int .i64 (0+M+BG (ps.take k)))]) (λk w'=>k≤ps.length∧w=w') (λk=>ps.length-k) 0
   ⟨rfl,rfl,rfl,rfl,rfl,(by show _=(_:Value);simp[BG]),trivial⟩ ⟨Ag _,rfl⟩ ?_
  rintro k _⟨hk,rfl⟩;have htl:=Jh ps k;by_cases hkl:k<ps.length
  ·have hst:=NJ ps k hkl;have htl1:=Jh ps (k+1);refine jq ⟨?_⟩;obtain⟨b',off',hbb, -,hck⟩:=ha.get (j:=k) (by simp;omega);cases hbb;simp only[G5]at hck;refine hS.ldOld AB (by simpa using hck) ?_;refine jq ⟨?_⟩;refine⟨k+1,⟨rfl,rfl,rfl,rfl,rfl,?_,trivial⟩,⟨AA,rfl⟩,AA⟩;show _=(_:Value);rw[hst];congr 1;omega
  ·have hke:k=ps.length:=AA;subst hke;rw[Bz]at*;refine jq ⟨?_⟩;refine hS.al ?_;intro bb w1 hbb hS;refine jq ⟨?_⟩;have e1:(0+M:Int)+(BG ps:Int)=(((0+M:Int).toNat+BG ps:Nat):Int):=AA;rw[e1];refine(S0 ((0+M:Int).toNat+BG ps) AA hS.part).mono ?_;rintro _ w2⟨rfl,L1,hB,hS'⟩;have hS:=hS.call (L:=[(bb,.cells ⟨[.pointer none,.slice none 0 0]⟩ Ef (0,0))]) hS';refine jq ⟨?_⟩;refine hS.ldOld AB (by simpa using hc0) ?_
   refine jq ⟨?_⟩;have hp0:=WM ps 0 AA;refine(JL hB hS.holds (by simp;omega)).mono ?_;rintro _ w3⟨rfl,L2,hB,hS'⟩;have hS:=hS.call hS';refine jq ⟨?_⟩;refine AL.loop (λk:Nat=>[(1,AG sep),(8,ptr bb),(63,.slice (CV b off 1 c 1) (ps.length-1) (c-1)),(64,.int .i64 (ps.length-1:Nat)),(65,.int .i64 k)]) (λk w'=>k≤ps.length-1∧ ∃L,Fw bb (ps[0]++((ps.tail.take k).map (sep++ ·)).flatten) L∧St w [] L w') (λk=>ps.length-k) 0
    ⟨rfl,rfl,rfl,rfl,rfl,trivial⟩ ⟨Ag _,_,by simpa using hB,hS⟩ ?_
   rintro k w4⟨hk,L3,hB,hS⟩;have hsub:CV b off 1 c 1=some ⟨b,off+1,none⟩:=by unfold CV;rw[if_neg AA]
   by_cases hkl:k<ps.length-1
   ·have hkt:k<ps.tail.length:=by simp;omega
    rw[hsub];refine jq ⟨?_⟩;obtain⟨b',off',hbb', -,hck⟩:=ha.get (j:=k+1) (by simp;omega);cases hbb';simp only[G5]at hck;refine hS.ldOld AB (by simpa[Gq,Nat.add_comm 1 k]using hck) ?_;refine jq ⟨?_⟩;have hx:=OV sep ps (k+1) AA;rw[hSL,OW sep ps k AA]at hx;simp only[AP]at hx;refine(JL hB hS.holds (by simp only[AP];omega)).mono ?_;rintro _ w5⟨rfl,L4,hB,hS'⟩;have hS:=hS.call hS';refine jq ⟨?_⟩;refine(JL hB hS.holds (by simp only[AP];omega)).mono ?_
    rintro _ w6⟨rfl,L5,hB,hS'⟩;have hS:=hS.call hS';refine jq ⟨?_⟩;refine⟨k+1,⟨rfl,rfl,rfl,rfl,rfl,trivial⟩,⟨AA,L5,?_,hS⟩,AA⟩;rw[OW sep ps k AA];simpa[Aj]using hB
   ·have hke:k=ps.length-1:=AA;subst hke;have hx:=OV sep ps (ps.length-1) AA;rw[hSL]at hx;rw[hsub];refine jq ⟨?_⟩;refine(Pm hB hS.holds AA).mono ?_;rintro _ w5⟨rfl,hS'⟩;have hS:=hS.call hS';refine jq ⟨?_⟩;refine⟨?_,hS⟩
    congr 3
    rw[V5 sep ps AA]
end Go.Proofs.YtkgibdhpijdbfaaGreatDoor
