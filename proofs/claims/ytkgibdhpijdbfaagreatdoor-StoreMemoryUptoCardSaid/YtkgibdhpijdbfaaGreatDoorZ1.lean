/- Texts of this claim, one behind the other. -/
import Derived.Test.YtkgibdhpijdbfaaGreatDoorZ0
set_option linter.unusedVariables false
set_option linter.unusedSimpArgs false
set_option maxHeartbeats 16000000
namespace Go.Eng
open Go
abbrev AH:=List (Nat×Obj)
def keys(H:AH):List Nat:=H.map (·.1)
structure St(w0:World)(T:List Nat)(H:AH)(w:World):Prop where
 os:w.os=w0.os
 tape:w.tape=w0.tape
 output:w.output=w0.output
 size:w0.heap.size≤w.heap.size
 old: ∀b,b<w0.heap.size→b∉T→w.heap[b]?=w0.heap[b]?
 own: ∀p∈H,w.heap[p.1]?=some p.2
 nd:(keys H).Nodup
 fresh: ∀p∈H,p.1<w0.heap.size→p.1∈T
structure Holds(L:AH)(w:World):Prop where
 own: ∀p∈L,w.heap[p.1]?=some p.2
 nd:(keys L).Nodup
theorem Holds.nil(w:World):Holds [] w:=⟨AB,by simp[keys]⟩
theorem St.enter{L:AH}{w:World}(h:Holds L w):St w (keys L) L w:=
 ⟨rfl,rfl,rfl,AV _,λ_ _ _=>rfl,h.own,h.nd,λp hp _=>by simp only[keys];exact CD hp⟩
theorem St.start(w:World):St w [] [] w:=St.enter (Holds.nil w)
theorem St.holds{w0:World}{T:List Nat}{H:AH}{w:World}(h:St w0 T H w):Holds H w:=⟨h.own,h.nd⟩
theorem St.lt{w0:World}{T:List Nat}{H:AH}{w:World}(h:St w0 T H w){p:Nat×Obj}(hp:p∈H):p.1<w.heap.size:=
 (Array.getElem?_eq_some_iff.1 (h.own p hp)).1
/-! ### Places in a heap-/
class Slot(H:AH)(b:Nat)(o:outParam Obj)(F:outParam (Obj→AH)):Prop where
 at_: ∃A B,H=A++(b,o)::B∧ ∀o',F o'=A++(b,o')::B
instance Slot.head{b:Nat}{o:Obj}{H:AH}:Slot ((b,o)::H) b o (λo'=>(b,o')::H):=⟨[],H,rfl,λ_=>rfl⟩
instance (priority:=low)Slot.tail{b:Nat}{o:Obj}{H:AH}{F:Obj→AH}{x:Nat×Obj} [h:Slot H b o F]:Slot (x::H) b o (λo'=>x::F o'):=by
 obtain⟨A,B,h1,h2⟩:=h.at_;exact⟨x::A,B,by rw[h1];rfl,λo'=>by rw[h2];rfl⟩
instance Slot.left{b:Nat}{o:Obj}{H G:AH}{F:Obj→AH} [h:Slot H b o F]:Slot (H++G) b o (λo'=>F o'++G):=by
 obtain⟨A,B,h1,h2⟩:=h.at_;exact⟨A,B++G,by rw[h1];simp,λo'=>by rw[h2];simp⟩
instance (priority:=low)Slot.right{b:Nat}{o:Obj}{H G:AH}{F:Obj→AH} [h:Slot G b o F]:Slot (H++G) b o (λo'=>H++F o'):=by
 obtain⟨A,B,h1,h2⟩:=h.at_;exact⟨H++A,B,by rw[h1];simp,λo'=>by rw[h2];simp⟩
class Chunk(H:AH)(L:AH)(F:outParam (AH→AH)):Prop where
 at_: ∃A B,H=A++(L++B)∧ ∀L',F L'=A++(L'++B)
instance (priority:=3000)Chunk.self{L:AH}:Chunk L L (λL'=>L'):=⟨[],[],AB,AB⟩
instance (priority:=2000)Chunk.front{L B:AH}:Chunk (L++B) L (λL'=>L'++B):=⟨[],B,rfl,λ_=>rfl⟩
instance (priority:=1500)Chunk.one{x:Nat×Obj}{B:AH}:Chunk (x::B) [x] (λL'=>L'++B):=⟨[],B,rfl,λ_=>rfl⟩
instance Chunk.two{x y:Nat×Obj}{B:AH}:Chunk (x::y::B) [x,y] (λL'=>L'++B):=⟨[],B,rfl,λ_=>rfl⟩
instance Chunk.three{x y z:Nat×Obj}{B:AH}:Chunk (x::y::z::B) [x,y,z] (λL'=>L'++B):=⟨[],B,rfl,λ_=>rfl⟩
instance (priority:=low)Chunk.tail{x:Nat×Obj}{H L:AH}{F:AH→AH} [h:Chunk H L F]:Chunk (x::H) L (λL'=>x::F L'):=by
 obtain⟨A,B,h1,h2⟩:=h.at_;exact⟨x::A,B,by rw[h1];rfl,λo'=>by rw[h2];rfl⟩
instance Chunk.left{H G L:AH}{F:AH→AH} [h:Chunk H L F]:Chunk (H++G) L (λL'=>F L'++G):=by
 obtain⟨A,B,h1,h2⟩:=h.at_;exact⟨A,B++G,by rw[h1];simp,λo'=>by rw[h2];simp⟩
instance (priority:=low)Chunk.right{H G L:AH}{F:AH→AH} [h:Chunk G L F]:Chunk (H++G) L (λL'=>H++F L'):=by
 obtain⟨A,B,h1,h2⟩:=h.at_;exact⟨H++A,B,by rw[h1];simp,λo'=>by rw[h2];simp⟩
section
variable {w0 : World} {T : List Nat} {H : AH} {w : World}
theorem St.mem{b:Nat}{o:Obj}{F:Obj→AH}(hS:St w0 T H w) [hs:Slot H b o F]:w.heap[b]?=some o:=by
 obtain⟨A,B,h1,_⟩:=hs.at_;exact hS.own (b,o) (by rw[h1];simp)
theorem St.cell{b off:Nat}{l:List Value}{t:TypeId}{fz:Nat×Nat}{F:Obj→AH}(hS:St w0 T H w) [Slot H b (.cells ⟨l⟩ t fz) F]{v:Value}(hv:l[off]?=some v):
  w.cell? ⟨b,off,none⟩=some v:=by
 have:=hS.mem (b:=b) (o:= .cells ⟨l⟩ t fz);simp only[World.cell?,this];simpa using hv
theorem St.ld{b off:Nat}{l:List Value}{t:TypeId}{fz:Nat×Nat}{F:Obj→AH}(hS:St w0 T H w) [Slot H b (.cells ⟨l⟩ t fz) F]{v:Value}(hv:l[off]?=some v)
  {K:Value→Prop}(hk:K v):FK (λw'=>w=w') ⟨b,off,none⟩ K:=
 ⟨⟨v,λ_ e=>by subst e;exact hS.cell hv,hk⟩⟩
theorem St.ldn{n b off:Nat}{l:List Value}{t:TypeId}{fz:Nat×Nat}{F:Obj→AH}(hS:St w0 T H w) [Slot H b (.cells ⟨l⟩ t fz) F](hn:Nat.ble (off+n) l.length=true)
  {K:List Value→Prop}(hk:Kr ((l.drop off).take n) K):GN (λw'=>w=w') n b off K:=by
 have hle:=J6 hn;refine⟨⟨_,by simp;omega,λ_ e j v hv=>?_,(Mj _ _).1 hk⟩⟩;subst e;refine hS.cell ?_;rw[IM]at hv
 split at hv
 ·rw[It]at hv;exact hv
 ·cases hv
theorem St.oldBlock(hS:St w0 T H w){b:Nat}(hb:b∉T){o:Obj}(h:w0.heap[b]?=some o):w.heap[b]?=some o:=by
 rw[hS.old b (Array.getElem?_eq_some_iff.1 h).1 hb];exact h
theorem St.oldCell(hS:St w0 T H w){a:Addr}(hb:a.block∉T){v:Value}(h:w0.cell? a=some v):w.cell? a=some v:=by
 rw[World.cell?_of_block (hS.old a.block (World.block_lt_of_cell? w0 a h) hb)];exact h
theorem St.ldOld(hS:St w0 T H w){a:Addr}(hb:a.block∉T){v:Value}(h:w0.cell? a=some v){K:Value→Prop}(hk:K v):FK (λw'=>w=w') a K:=
 ⟨⟨v,λ_ e=>by subst e;exact hS.oldCell hb h,hk⟩⟩
theorem St.ldC{b off:Nat}{l:List Value}{t:TypeId}{fz:Nat×Nat}{F:Obj→AH}(_hS:St w0 T H w) [Slot H b (.cells ⟨l⟩ t fz) F]{v:Value}(hv:l[off]?=some v)
  {K:Value→Prop}(hk:K v):FK (λw'=>St w0 T H w') ⟨b,off,none⟩ K:=
 ⟨⟨v,λ_ h=>h.cell hv,hk⟩⟩
theorem St.ldnC{n b off:Nat}{l:List Value}{t:TypeId}{fz:Nat×Nat}{F:Obj→AH}(_hS:St w0 T H w) [Slot H b (.cells ⟨l⟩ t fz) F](hn:Nat.ble (off+n) l.length=true)
  {K:List Value→Prop}(hk:Kr ((l.drop off).take n) K):GN (λw'=>St w0 T H w') n b off K:=by
 have hle:=J6 hn;refine⟨⟨_,by simp;omega,λ_ h j v hv=>?_,(Mj _ _).1 hk⟩⟩;refine h.cell ?_;rw[IM]at hv
 split at hv
 ·rw[It]at hv;exact hv
 ·cases hv
theorem St.ldOldC(_hS:St w0 T H w){a:Addr}(hb:a.block∉T){v:Value}(h:w0.cell? a=some v){K:Value→Prop}(hk:K v):FK (λw'=>St w0 T H w') a K:=
 ⟨⟨v,λ_ h'=>h'.oldCell hb h,hk⟩⟩
theorem St.alloc(hS:St w0 T H w)(o:Obj):St w0 T ((w.heap.size,o)::H) (w.alloc o):=by
 refine⟨hS.os,hS.tape,hS.output,by simp;exact Nat.le_succ_of_le hS.size,λb hb hT=>?_,λp hp=>?_,?_,λp hp hlt=>?_⟩
 ·rw[RowKit.Below.heap_alloc _ _ _ (Nat.lt_of_lt_of_le hb hS.size)];exact hS.old b hb hT
 ·rcases As.1 hp with rfl|hp
  ·exact heap_alloc_new w o
  ·rw[RowKit.Below.heap_alloc _ _ _ (hS.lt hp)];exact hS.own p hp
 ·simp only[keys,A4,Ew];refine⟨λhm=>?_,hS.nd⟩;obtain⟨p,hp,he⟩:=BV.1 hm;have:=hS.lt hp;omega
 ·rcases As.1 hp with rfl|hp
  ·have:=hS.size;simp at hlt;omega
  ·exact hS.fresh p hp hlt
theorem St.al(hS:St w0 T H w){o:Obj}{K:Nat→World→Prop}(h: ∀b w',w0.heap.size≤b→St w0 T ((b,o)::H) w'→K b w'):Ib w o K:=
 ⟨h _ _ hS.size (hS.alloc o)⟩
theorem RA(A B:AH)(b:Nat)(o:Obj):keys (A++(b,o)::B)=keys A++b::keys B:=by simp[keys]
theorem St.setBlock{b:Nat}{o o':Obj}{F:Obj→AH}(hS:St w0 T H w) [hs:Slot H b o F]{w':World}(h1:w'.os=w.os)(h2:w'.tape=w.tape)(h3:w'.output=w.output)
  (h4:w'.heap.size=w.heap.size)(h5: ∀k,k≠b→w'.heap[k]?=w.heap[k]?)(h6:w'.heap[b]?=some o'):St w0 T (F o') w':=by
 obtain⟨A,B,e1,e2⟩:=hs.at_;have hmem:(b,o)∈H:=by rw[e1];simp
 have hkeys:keys (F o')=keys H:=by rw[e2,e1,RA,RA]
 refine⟨h1.trans hS.os,h2.trans hS.tape,h3.trans hS.output,by rw[h4];exact hS.size,λk hk hT=>?_,λp hp=>?_,by rw[hkeys];exact hS.nd,λp hp hlt=>?_⟩
 ·have hkb:k≠b:=λe=>by subst e;exact hT (hS.fresh _ hmem hk)
  rw[h5 k hkb];exact hS.old k hk hT
 ·rw[e2]at hp;have hnd:=hS.nd;rw[e1,RA]at hnd;rcases Bl.1 hp with hp|hp
  ·have hne:p.1≠b:=λe=>by
    have:=(FU.1 hnd).2.2 p.1 (by simp only[keys];exact CD hp) b AB;exact this e
   rw[h5 _ hne];exact hS.own p (by rw[e1];simp[hp])
  ·rcases As.1 hp with rfl|hp
   ·exact h6
   ·have hne:p.1≠b:=λe=>by
     have:=(Ew.1 (FU.1 hnd).2.1).1;exact this (by rw[←e];simp only[keys];exact CD hp)
    rw[h5 _ hne];exact hS.own p (by rw[e1];simp[hp])
 ·have hk:p.1∈keys H:=by rw[←hkeys];simp only[keys];exact CD hp
  obtain⟨q,hq,he⟩:=BV.1 hk;rw[←he];exact hS.fresh q hq (by rw[he];exact hlt)
theorem St.setRow{b:Nat}{l l':List Value}{t:TypeId}{fz:Nat×Nat}{F:Obj→AH}(hS:St w0 T H w) [hs:Slot H b (.cells ⟨l⟩ t fz) F]:St w0 T (F (.cells ⟨l'⟩ t fz)) (w.setRow b ⟨l'⟩):=by
 have hm:=hS.mem (b:=b) (o:= .cells ⟨l⟩ t fz);refine hS.setBlock (b:=b) (o:= .cells ⟨l⟩ t fz) rfl rfl rfl (by simp[World.setRow]) (λk hk=>?_) (setRow_heap w b _ _ _ _ hm);simp only[World.setRow,Array.getElem?_modify];rw[if_neg (Ne.symm hk)]
theorem St.st{b off:Nat}{vs l:List Value}{t:TypeId}{F:Obj→AH}(hS:St w0 T H w) [Slot H b (.cells ⟨l⟩ t (0,0)) F](hv:vs.all Value.oneCell'=true)(hn:Nat.ble (off+vs.length) l.length=true)
  {K:World→Prop}(hk:KF l off vs λl'=>∀w',St w0 T (F (.cells ⟨l'⟩ t (0,0))) w'→K w'):IA w b off vs K:=by
 refine⟨⟨l,t,(0,0),hS.mem,.inl (Ag _),J6 hn,λv h=>C8.1 hv v h,?_⟩⟩;exact(Oz _ _ _ _ hk).2 _ (hS.setRow (l:=l))
theorem St.stI{b off:Nat}{v:Value}{l:List Value}{t:TypeId}{F:Obj→AH}(hS:St w0 T H w) [Slot H b (.cells ⟨l⟩ t (0,0)) F](hv:v.oneCell'=true)(hn:off<l.length)
  {K:World→Prop}(hk: ∀w',St w0 T (F (.cells ⟨l.set off v⟩ t (0,0))) w'→K w'):IA w b off [v] K:=by
 refine⟨⟨l,t,(0,0),hS.mem,.inl (Ag _),by simp;omega,λx h=>by simp at h;subst h;exact hv,?_⟩⟩;have e:En l off [v]=l.set off v:=by
  unfold En;rw[List.set_eq_take_append_cons_drop,if_pos hn];simp
 rw[e];exact hk _ (hS.setRow (l:=l))
theorem St.sub{H':AH}(hS:St w0 T H w)(h:H'.Sublist H):St w0 T H' w:=
 ⟨hS.os,hS.tape,hS.output,hS.size,hS.old,λp hp=>hS.own p (h.subset hp),hS.nd.sublist (h.map _),λp hp=>hS.fresh p (h.subset hp)⟩
theorem St.nil(hS:St w0 T H w):St w0 T [] w:=hS.sub (List.nil_sublist _)
theorem St.perm{H':AH}(hS:St w0 T H w)(h:H.Perm H'):St w0 T H' w:=
 ⟨hS.os,hS.tape,hS.output,hS.size,hS.old,λp hp=>hS.own p (h.mem_iff.2 hp),(h.map _).nodup_iff.1 hS.nd,λp hp=>hS.fresh p (h.mem_iff.2 hp)⟩
theorem St.part{L:AH}{F:AH→AH}(hS:St w0 T H w) [hc:Chunk H L F]:Holds L w:=by
 obtain⟨A,B,h1,_⟩:=hc.at_;have hsub:L.Sublist H:=by rw[h1];exact(CC L B).trans (Ah A _)
 exact⟨λp hp=>hS.own p (hsub.subset hp),hS.nd.sublist (hsub.map _)⟩
theorem St.call{L L':AH}{F:AH→AH}(hS:St w0 T H w) [hc:Chunk H L F]{w':World}(h:St w (keys L) L' w'):St w0 T (F L') w':=by
 obtain⟨A,B,h1,h2⟩:=hc.at_;have hnd:=hS.nd;have hk:keys H=keys A++(keys L++keys B):=by rw[h1];simp[keys]
 rw[hk]at hnd;obtain⟨ndA,ndLB,hdis⟩:=FU.1 hnd;obtain⟨ndL,ndB,hdis2⟩:=FU.1 ndLB;have inA: ∀p∈A,p∈H:=λp hp=>by rw[h1];simp[hp]
 have EZ: ∀p∈B,p∈H:=λp hp=>by rw[h1];simp[hp]
 have inL: ∀p∈L,p∈H:=λp hp=>by rw[h1];simp[hp]
 have kA: ∀p∈A,p.1∈keys A:=λp hp=>by simp only[keys];exact CD hp
 have kB: ∀p∈B,p.1∈keys B:=λp hp=>by simp only[keys];exact CD hp
 have nAL: ∀p∈A,p.1∉keys L:=λp hp hm=>hdis _ (kA p hp) _ (EO _ hm) rfl;have nBL: ∀p∈B,p.1∉keys L:=λp hp hm=>hdis2 _ hm _ (kB p hp) rfl
 --where the keys of L' lie
 have kL': ∀p∈L',p.1∈keys L∨w.heap.size≤p.1:=λp hp=>by
  rcases Nat.lt_or_ge p.1 w.heap.size with hlt|hge
  ·exact .inl (h.fresh p hp hlt)
  ·exact .inr hge
 rw[h2];refine⟨h.os.trans hS.os,h.tape.trans hS.tape,h.output.trans hS.output,Au hS.size h.size,λb hb hT=>?_,λp hp=>?_,?_,λp hp hlt=>?_⟩
 ·have hb':b<w.heap.size:=Nat.lt_of_lt_of_le hb hS.size;have hbL:b∉keys L:=λhm=>by
   obtain⟨q,hq,he⟩:=BV.1 hm;exact hT (he▸hS.fresh q (inL q hq) (by rw[he];exact hb))
  rw[h.old b hb' hbL];exact hS.old b hb hT
 ·rcases Bl.1 hp with hp|hp
  ·rw[h.old _ (hS.lt (inA p hp)) (nAL p hp)];exact hS.own p (inA p hp)
  ·rcases Bl.1 hp with hp|hp
   ·exact h.own p hp
   ·rw[h.old _ (hS.lt (EZ p hp)) (nBL p hp)];exact hS.own p (EZ p hp)
 ·have:keys (A++(L'++B))=keys A++(keys L'++keys B):=by simp[keys]
  rw[this];refine FU.2 ⟨ndA,FU.2 ⟨h.nd,ndB,λx hx y hy e=>?_⟩,λx hx y hy e=>?_⟩
  ·subst e;obtain⟨q,hq,rfl⟩:=BV.1 hx;obtain⟨r,hr,hre⟩:=BV.1 hy;rcases kL' q hq with hL|hge
   ·exact hdis2 _ hL _ hy rfl
   ·have:=hS.lt (EZ r hr);omega
  ·subst e;obtain⟨r,hr,rfl⟩:=BV.1 hx;rcases Bl.1 hy with hy|hy
   ·obtain⟨q,hq,hqe⟩:=BV.1 hy;rcases kL' q hq with hL|hge
    ·exact nAL r hr (by rw[←hqe];exact hL)
    ·have:=hS.lt (inA r hr);omega
   ·exact hdis _ (kA r hr) _ (FC _ hy) rfl
 ·rcases Bl.1 hp with hp|hp
  ·exact hS.fresh p (inA p hp) hlt
  ·rcases Bl.1 hp with hp|hp
   ·rcases kL' p hp with hL|hge
    ·obtain⟨q,hq,he⟩:=BV.1 hL;rw[←he];exact hS.fresh q (inL q hq) (by rw[he];exact hlt)
    ·have:=hS.size;omega
   ·exact hS.fresh p (EZ p hp) hlt
theorem St.callNew(hS:St w0 T H w){L':AH}{w':World}(h:St w [] L' w'):St w0 T (L'++H) w':=
 St.call (L:=[]) (F:=λL'=>L'++H) (hc:=⟨[],H,AB,λ_=>AB⟩) hS h
theorem St.call0(hS:St w0 T H w){w':World}(h:St w [] [] w'):St w0 T H w':=by
 have hc:Chunk H [] (λL'=>L'++H):=⟨[],H,rfl,λ_=>rfl⟩;exact @St.call w0 T H w [] [] _ hS hc w' h
theorem St.of_alike(hS:St w0 T H w){w':World}(h1:w'.os=w.os)(h2:w'.tape=w.tape)(h3:w'.output=w.output)(h4:w'.heap=w.heap):St w0 T H w':=
 ⟨h1.trans hS.os,h2.trans hS.tape,h3.trans hS.output,by rw[h4];exact hS.size,λb hb hT=>by rw[h4];exact hS.old b hb hT,λp hp=>by rw[h4];exact hS.own p hp,hS.nd,hS.fresh⟩
theorem St.drew(hS:St w0 T H w):St w0 T H w.drew:=hS.of_alike rfl rfl rfl rfl
end
/-! ### A slice that is read-/
def Arr(w:World)(T:List Nat)(a:Option Addr)(xs:List Value):Prop:=
 ∀j x,xs[j]?=some x→ ∃b off,a=some ⟨b,off,none⟩∧b∉T∧w.cell? ⟨b,off+j,none⟩=some x
theorem Arr.get{w:World}{T:List Nat}{a:Option Addr}{xs:List Value}(h:Arr w T a xs){j:Nat}(hj:j<xs.length): ∃b off,a=some ⟨b,off,none⟩∧b∉T∧w.cell? ⟨b,off+j,none⟩=some xs[j]:=
 h j xs[j] (CB hj)
theorem Arr.nil(w:World)(T:List Nat)(a:Option Addr):Arr w T a []:=λj x h=>by simp at h
theorem St.arrOld{w0:World}{T:List Nat}{H:AH}{w:World}(hS:St w0 T H w){a:Option Addr}{xs:List Value}(h:Arr w0 T a xs):Arr w T a xs:=λj x hx=>by
 obtain⟨b,off,h1,h2,h3⟩:=h j x hx;exact⟨b,off,h1,h2,hS.oldCell (a:=⟨b,off+j,none⟩) h2 h3⟩
theorem St.arr{w0:World}{T:List Nat}{H:AH}{w:World}{b:Nat}{l:List Value}{t:TypeId}{fz:Nat×Nat}{F:Obj→AH}(hS:St w0 T H w) [Slot H b (.cells ⟨l⟩ t fz) F]
  {T':List Nat}(hb:b∉T'):Arr w T' (some ⟨b,0,none⟩) l:=λj x hx=>⟨b,0,rfl,hb,by rw[Cs];exact hS.cell hx⟩
theorem Arr.sub{w:World}{T T':List Nat}{a:Option Addr}{xs:List Value}(h:Arr w T a xs)(hT: ∀b,b∈T'→b∈T):Arr w T' a xs:=λj x hx=>by
 obtain⟨b,off,h1,h2,h3⟩:=h j x hx;exact⟨b,off,h1,λhm=>h2 (hT b hm),h3⟩
end Go.Eng
namespace Go.Eng
theorem St.q{w0:World}{T:List Nat}{H:AH}{w:World}{b off:Nat}{vs l:List Value}{t:TypeId}{F:Obj→AH}(hS:St w0 T H w) [Slot H b (.cells ⟨l⟩ t (0,0)) F]{K:World→Prop}(hk:KF l off vs λl'=>∀w',St w0 T (F (.cells ⟨l'⟩ t (0,0))) w'→K w')(hv:vs.all Value.oneCell'=true:=by rfl)(hn:Nat.ble (off+vs.length) l.length=true:=by rfl):IA w b off vs K:=hS.st hv hn hk
end Go.Eng
namespace Go.Eng
open Go
section
variable {P : Program} {ops : Array Oper} {Q : Exit → Act → World → Prop} {md : Region.Mode} {S : Nat → World → Prop}
def KS(P:Program)(md:Region.Mode)(ops:Array Oper)(Q:Exit→Act→World→Prop)(S:Nat→World→Prop):Nat→Array Bool→Act→World→Prop
 |0,listed,a,w=>Region.ready md ops listed=[]∧Q .normal a w
 |fuel+1,listed,a,w=>
  (Region.ready md ops listed=[]→Q .normal a w)∧
  ∀i∈Region.ready md ops listed,wpOp P ops Q i (λa' w'=>S i w'∧KS P md ops Q S fuel (listed.setIfInBounds i true) a' w') a w
theorem Sa: ∀(fuel:Nat)(listed:Array Bool)(a:Act)(w:World),KS P md ops Q S fuel listed a w→wpAny P md ops Q fuel listed a w
 |0,_,_,_,h=>h
 |fuel+1,_,_,_,h=>⟨h.1,λi hi=>wpOp_mono (λa' w' h'=>Sa fuel _ a' w' h'.2) (h.2 i hi)⟩
def Ev(ops:Array Oper):Nat→Nat→Nat→Bool
 |0,_,_=>false
 |n+1,j,i=>match ops[j]? with
  |some oj=>oj.after.any λe=>Region.binds .any e&&(e.on==i||Ev ops n e.on i)
  |none=>false
def Hb(ops:Array Oper)(listed:Array Bool):Prop:=
 ∀j oj,ops[j]?=some oj→listed.getD j false=true→ ∀e∈oj.after,Region.binds .any e=true→listed.getD e.on false=true
theorem UQ{listed:Array Bool}(hc:Hb ops listed){i:Nat}: ∀(n j:Nat),Ev ops n j i=true→(∀oj,ops[j]?=some oj→ ∀e∈oj.after,Region.binds .any e=true→listed.getD e.on false=true)→listed.getD i false=true
 |0,_,h,_=>by simp[Ev]at h
 |n+1,j,h,hj=>by
  simp only[Ev]at h;cases hoj:ops[j]? with
  |none=>simp[hoj]at h
  |some oj=>
   rw[hoj]at h;obtain⟨e,he,hb⟩:=Array.any_eq_true'.1 h;simp only[Bool.and_eq_true,Bool.or_eq_true,beq_iff_eq]at hb;have hl:=hj oj hoj e he hb.1;rcases hb.2 with h1|h1
   ·rw[←h1];exact hl
   ·exact UQ hc n e.on h1 λo ho e' he' hb'=>hc _ _ ho hl e' he' hb'
theorem rP{listed:Array Bool}{i:Nat}(h:listed.getD i true=false):listed.getD i false=false:=by
 rcases Nat.lt_or_ge i listed.size with h'|h'
 ·simp[h']at h⊢;exact h
 ·simp[Array.getElem?_eq_none h']at h
theorem Xk{listed:Array Bool}(hc:Hb ops listed){i j n:Nat}(hi:listed.getD i true=false)(hj:j∈Region.ready .any ops listed):Ev ops n j i=false:=by
 cases hd:Ev ops n j i with
 |false=>rfl
 |true=>
  obtain⟨_,oj,hoj,hall⟩:=mem_ready.1 hj;have:=UQ hc n j hd λo ho e he hb=>by rw[hoj]at ho;cases ho;exact hall e he hb
  rw[rP hi]at this;cases this
theorem Hb.set{listed:Array Bool}(hc:Hb ops listed){j:Nat}(hj:j∈Region.ready .any ops listed):Hb ops (listed.setIfInBounds j true):=by
 obtain⟨_,oj,hoj,hall⟩:=mem_ready.1 hj;intro k ok hk hl e he hb;have h1:listed.getD e.on false=true:=by
  by_cases hjk:j=k
  ·subst hjk;rw[hoj]at hk;cases hk;exact hall e he hb
  ·rw[getD_set_ne false hjk]at hl;exact hc k ok hk hl e he hb
 exact getD_set_true h1
theorem zH{C:World→Prop}{n i:Nat}{oi:Oper}{v:Value}(hi:ops[i]?=some oi)(hsel: ∀(j:Nat)(o:Oper)cs b,ops[j]?=some o→o.op≠ .select cs b)
  (hQ: ∀c a w,Q (.panic c) (a.put oi.dst v) w→Q (.panic c) a w)(hSi: ∀w,C w→S i w):
  ∀(fuel:Nat)(listed:Array Bool)(a:Act)(w:World),Hb ops listed→
   (∀j oj,ops[j]?=some oj→j≠i→listed.getD j true=false→Ev ops n j i=false→oi.apart ops oj=true∧ ∀w',S j w'→C w')→
   i∈Region.ready .any ops listed→YieldsIf P ops C oi v a→C w→
   KS P .any ops Q S fuel (listed.setIfInBounds i true) (a.put oi.dst v) w→KS P .any ops Q S (fuel+1) listed a w:=by
 intro fuel
 induction fuel with
 |zero=>
  intro listed a w _ _ hr hy hS H;refine⟨λh=>(by rw[h]at hr;cases hr),λj hj=>?_⟩;by_cases hji:j=i
  ·subst hji;exact hy.wpOp hi hS ⟨hSi _ hS,H⟩
  ·have:=ready_mono hj hji;rw[H.1]at this;cases this
 |succ fuel ih=>
  intro listed a w hcl hfree hr hy hS H;refine⟨λh=>(by rw[h]at hr;cases hr),λj hj=>?_⟩;by_cases hji:j=i
  ·subst hji;exact hy.wpOp hi hS ⟨hSi _ hS,H⟩
  ·have h1:=H.2 j (ready_mono hj hji);obtain⟨hjun,oj,hoj,hall⟩:=mem_ready.1 hj;have hnot:=Xk (n:=n) hcl (mem_ready.1 hr).1 hj;obtain⟨hap,hkeep⟩:=hfree j oj hoj hji hjun hnot;have h2:=wpOp_putIf hoj hap (λcs b=>hsel i oi cs b hi) (λcs b=>hsel j oj cs b hoj) hQ hy h1;have hfree': ∀k ok,ops[k]?=some ok→k≠i→(listed.setIfInBounds j true).getD k true=false→
     Ev ops n k i=false→oi.apart ops ok=true∧ ∀w',S k w'→C w':=λk ok hk hki hun hno=>by
    refine hfree k ok hk hki ?_ hno;by_cases hjk:j=k
    ·subst hjk;exact hjun
    ·rw[getD_set_ne true hjk]at hun;exact hun
   refine wpOp_mono (λa' w' h3=>⟨h3.2.1,ih (listed.setIfInBounds j true) a' w' (hcl.set hj) hfree' (ready_mono hr (Ne.symm hji)) h3.1 (hkeep _ h3.2.1) ?_⟩) h2;rw[Array.setIfInBounds_comm _ _ hji];exact h3.2.2
end
def IH(ops:Array Oper)(listed:Array Bool)(i:Nat):Bool:=
 match ops[i]? with
 |none=>false
 |some oi=>(List.range ops.size).all λj=>j==i||listed.getD j true||Ev ops ops.size j i||(match ops[j]? with|some oj=>oi.apart ops oj|none=>true)
def Jv(ops:Array Oper)(listed:Array Bool)(fin:List Nat)(i:Nat):Bool:=fin.all λj=>j==i||listed.getD j true||Ev ops ops.size j i
def Je(ops:Array Oper)(kd:Op→JF)(fin:List Nat):List Nat→Bool→Array Bool→Bool
 |[],_,listed=>(Region.ready .any ops listed).isEmpty
 |i::r,c,listed=>match ops[i]? with
  |none=>false
  |some o=>(c||fin.elem i)&&(match kd o.op with
   |.pure=>(Region.ready .any ops listed).contains i&&IH ops listed i&&(fin.elem i||Jv ops listed fin i)
   |.read=>(Region.ready .any ops listed).contains i&&IH ops listed i&& !fin.elem i&&Jv ops listed fin i
   |.eff=>(Region.ready .any ops listed)==[i])&&
   Je ops kd fin r (match kd o.op with| .eff=>c&& !fin.elem i|_=>c) (listed.setIfInBounds i true)
def MR:List Oper→Nat→(Oper→Prop)→Prop
 |[],_,_=>False
 |o::_,0,K=>K o
 |_::t,n+1,K=>MR t n K
theorem MS: ∀{l:List Oper}{n:Nat}{K:Oper→Prop},MR l n K→ ∃o,l[n]?=some o∧K o
 |[],_,_,h=>h.elim
 |o::_,0,_,h=>⟨o,rfl,h⟩
 |_::t,n+1,_,h=>by simpa using MS (l:=t) h
def HA(P:Program)(T:BO)(N:Nat)(all:List Oper)(C:World→Prop)(fin:List Nat):List Nat→AZ→World→(AZ→World→Prop)→Prop
 |[],e,w,K=>K e w
 |i::r,e,w,K=>MR all i λo=>Jx all o.guard e
  (λe=>match kind T o.op with
   |.pure=>LJ P T e o.op λv=>Ek N o.dst v e λe'=>HA P T N all C fin r e' w K
   |.read=>LN P T e C o λv=>Ek N o.dst v e λe'=>HA P T N all C fin r e' w K
   |.eff=>Ma P T e o w λv w'=>(match fin.elem i with
    |true=>Ek N o.dst v e λe'=>HA P T N all C fin r e' w' K
    |false=>Ae (C w') (Ek N o.dst v e λe'=>HA P T N all C fin r e' w' K)))
  (λe=>Ek N o.dst undef e λe'=>HA P T N all C fin r e' w K)
variable {ds : List Deferred}
theorem PL{P:Program}{T:BO}(hT:BX P T){N:Nat}{all:List Oper}{C:World→Prop}{fin:List Nat}{Q:Exit→Act→World→Prop}{K:AZ→World→Prop}
  (hsel:Region.noSelect ⟨all⟩=true)(hQp: ∀c a w,¬Q (.panic c) a w)
  (hK: ∀e' a' w',K e' w'→BS ds N e' a'→Q .normal a' w'):
  ∀(r:List Nat)(c:Bool)(listed:Array Bool)(e:AZ)(a:Act)(w:World),Hb ⟨all⟩ listed→(c=true→C w)→BS ds N e a→Je ⟨all⟩ (kind T) fin r c listed=true→HA P T N all C fin r e w K→
   KS P .any ⟨all⟩ Q (λj w'=>j∈fin∨C w') r.length listed a w
 |[],c,listed,e,a,w,_,_,hr,hp,h=>⟨by simpa[Je]using hp,hK _ _ _ h hr⟩
 |i::r,c,listed,e,a,w,hcl,hC,hr,hp,h=>by
  obtain⟨o,ho,h⟩:=MS h;have ho':(Array.mk all)[i]?=some o:=by simpa using ho
  simp only[Je,ho',Bool.and_eq_true]at hp;obtain⟨⟨hcf,hkind⟩,hrest⟩:=hp;have hcf':C w∨i∈fin:=by
   rcases Bool.or_eq_true _ _▸hcf with h|h
   ·exact .inl (hC h)
   ·exact .inr (by simpa using h)
  --taken first
  have take: ∀(v:Value)(e':AZ),kind T o.op≠ .eff→YieldsIf P ⟨all⟩ (λw=>i∈fin∨C w) o v a→BS ds N e' (a.put o.dst v)→HA P T N all C fin r e' w K→
    KS P .any ⟨all⟩ Q (λj w'=>j∈fin∨C w') (r.length+1) listed a w:=by
   intro v e' hne hy hr' hv;have hfw:(Region.ready .any ⟨all⟩ listed).contains i=true∧IH ⟨all⟩ listed i=true∧(i∈fin∨Jv ⟨all⟩ listed fin i=true):=by
    cases hk:kind T o.op<;>simp only[hk]at hkind hne
    case pure=>
     simp only[Bool.and_eq_true,Bool.or_eq_true]at hkind;refine⟨hkind.1.1,hkind.1.2,?_⟩;rcases hkind.2 with h|h
     ·exact .inl (by simpa using h)
     ·exact .inr h
    case read=>
     simp only[Bool.and_eq_true]at hkind;exact⟨hkind.1.1.1,hkind.1.1.2,.inr hkind.2⟩
    case eff=>exact absurd rfl hne
   have hready:i∈Region.ready .any ⟨all⟩ listed:=by simpa using hfw.1
   refine zH (C:=λw=>i∈fin∨C w) (n:=all.length) ho' (Region.noSelect_spec hsel) (λc a w h=>absurd h (hQp _ _ _)) (λ_ h=>h) r.length listed a w hcl ?_ hready hy (Or.symm hcf') ?_
   ·intro j oj hj hne hun hd;have hjlt:j<all.length:=by have:=(Array.getElem?_eq_some_iff.1 hj).1;simpa using this
    have hf:=hfw.2.1;simp only[IH,ho',C8,List.mem_range]at hf;have h1:=hf j (by simpa using hjlt);have hd':Ev ⟨all⟩ (Array.mk all).size j i=false:=hd;simp only[hj,Bool.or_eq_true,beq_iff_eq,hne,false_or,hun,hd',Bool.false_eq_true]at h1;refine⟨h1,λw' hw'=>?_⟩;rcases hfw.2.2 with h2|h2
    ·exact .inl h2
    ·rcases hw' with hw'|hw'
     ·simp only[Jv,C8]at h2;have h3:=h2 j hw';simp only[Bool.or_eq_true,beq_iff_eq,hne,false_or,hun,hd',Bool.false_eq_true]at h3
     ·exact .inr hw'
   ·refine PL hT hsel hQp hK r _ _ e' _ w (hcl.set hready) ?_ hr' hrest hv;intro hc;cases hk:kind T o.op<;>rw[hk]at hc
    ·exact hC hc
    ·exact hC hc
    ·exact absurd hk hne
  --it comes up alone
  have alone:kind T o.op= .eff→ ∀(Kn:Act→World→Prop),(∀a' w',Kn a' w'→ ∃e',BS ds N e' a'∧(i∈fin∨C w')∧HA P T N all C fin r e' w' K)→wpOp P ⟨all⟩ Q i Kn a w→
    KS P .any ⟨all⟩ Q (λj w'=>j∈fin∨C w') (r.length+1) listed a w:=by
   intro hk Kn hKn hw;rw[hk]at hkind hrest;have hready:Region.ready .any ⟨all⟩ listed=[i]:=by simpa using hkind
   have hmem:i∈Region.ready .any ⟨all⟩ listed:=by rw[hready];simp
   refine⟨λh0=>(by rw[h0]at hmem;cases hmem),λj hj=>?_⟩;rw[hready]at hj;simp only[Cm]at hj;subst hj;refine wpOp_mono (λa' w' hk'=>?_) hw;obtain⟨e',h1,h2,h3⟩:=hKn a' w' hk';refine⟨h2,PL hT hsel hQp hK r _ _ e' _ w' (hcl.set hmem) (λhc=>?_) h1 hrest h3⟩;rcases h2 with h2|h2
   ·simp only[Bool.and_eq_true,Bool.not_eq_true']at hc;have:fin.elem j=true:=by simpa using h2
    rw[this]at hc;exact absurd hc.2 AB
   ·exact h2
  rcases Ku hr h with⟨e1,h1,h2,h3⟩|⟨e1,h1,h2,h3⟩
  ·cases hk:kind T o.op<;>simp only[hk]at h3
   case pure=>
    obtain⟨v,h4,h5⟩:=NA hT h1 h3;obtain⟨e',h6,h7⟩:=El h4 h1;exact take v e' (by rw[hk];nofun) (.inl ⟨h2,λw _=>h5 w⟩) h6 h7
   case read=>
    obtain⟨v,h4,h5⟩:=O1 hT h1 h3;obtain⟨e',h6,h7⟩:=El h4 h1;have hnf: ¬i∈fin:=by
     rw[hk]at hkind;simp only[Bool.and_eq_true,Bool.not_eq_true']at hkind;intro hm;have:fin.elem i=true:=by simpa using hm
     rw[this]at hkind;exact absurd hkind.1.2 AB
    exact take v e' (by rw[hk];nofun) (.inl ⟨h2,λw hw=>h5 w (hw.resolve_left hnf)⟩) h6 h7
   case eff=>
    refine alone hk (λa' w'=>∃e',BS ds N e' a'∧(i∈fin∨C w')∧HA P T N all C fin r e' w' K) (λ_ _ h=>h) ?_;unfold wpOp;simp only[ho',h2,if_true];refine .inl (QN hT h1 h3 λv w' hk'=>?_);cases hf:fin.elem i<;>rw[hf]at hk'
    ·obtain⟨e',h6,h7⟩:=El hk'.q h1;exact⟨e',h6,.inr hk'.p,h7⟩
    ·obtain⟨e',h6,h7⟩:=El hk' h1;exact⟨e',h6,.inl (by simpa using hf),h7⟩
  ·obtain⟨e',h6,h7⟩:=El h3 h1;by_cases hk:kind T o.op= .eff
   ·refine alone hk (λa' w'=>∃e',BS ds N e' a'∧(i∈fin∨C w')∧HA P T N all C fin r e' w' K) (λ_ _ h=>h) ?_;unfold wpOp;simp only[ho',h2,Bool.false_eq_true,if_false];exact⟨e',h6,Or.symm hcf',h7⟩
   ·exact take undef e' hk (.inr ⟨h2,rfl⟩) h6 h7
theorem AL.draw{P:Program}{T:BO}(hT:BX P T){N:Nat}{id:Nat}{all:List Oper}{Q:Exit→AZ→World→Prop}{e:AZ}{w:World}(hm:P.follows .mixedOrders=true)
  (C:World→Prop)(fin ord:List Nat)(hok:(Region.noSelect ⟨all⟩&&Nat.beq ord.length all.length&&Je ⟨all⟩ (kind T) fin ord true (Array.replicate (Array.mk all).size false))=true)
  (hC:C w.drew)(h:HA P T N all C fin ord e w.drew λe' w'=>Q .normal e' w'):JI P N (.region id ⟨all⟩ true) Q e w:=by
 simp only[Bool.and_eq_true]at hok;obtain⟨⟨h1,h2⟩,h3⟩:=hok;refine⟨λa hr=>wp_region_any hm ?_⟩;have hl:=Nat.eq_of_beq_eq_true h2;have hcl:Hb ⟨all⟩ (Array.replicate (Array.mk all).size false):=by
  intro j oj _ hl;simp only[Array.getD_eq_getD_getElem?,Array.getElem?_replicate]at hl
  split at hl<;>simp at hl
 have:=PL (Q:=J8 N Q) hT h1 (λ_ _ _ h=>h) (λe' a' w' hk hr'=>⟨e',hr',hk⟩) ord true _ e a w.drew hcl (λ_=>hC) hr h3 h;rw[hl]at this;exact Sa _ _ _ _ this
def Pw:List Nat→(Nat→Prop)→Prop
 |[],_=>True
 |i::r,F=>F i∧Pw r F
theorem Th: ∀{is:List Nat}{F:Nat→Prop},Pw is F→ ∀i∈is,F i
 |j::r,F,h,i,hi=>by
  rcases As.1 hi with rfl|hi
  ·exact h.1
  ·exact Th h.2 i hi
end Go.Eng
namespace Go.Eng
open Go
inductive AT(e:TypeId)(sz:Nat):Option Addr→Nat→Nat→List Value→AH→Prop where
 |nil:AT e sz none 0 0 [] []
 |row (g n cap:Nat) (xs l:List Value) (hx:xs.length=n*sz) (hl:xs.length+l.length=cap*sz) (hn:n≤cap):AT e sz (some ⟨g,0,none⟩) n cap xs [(g,.cells ⟨xs++l⟩ e (0,0))]
theorem AT.inv{e:TypeId}{sz:Nat}{a:Option Addr}{n cap:Nat}{xs:List Value}{L:AH}(h:AT e sz a n cap xs L):
  (a=none∧n=0∧cap=0∧xs=[]∧L=[])∨ ∃g l,a=some ⟨g,0,none⟩∧xs.length=n*sz∧xs.length+l.length=cap*sz∧n≤cap∧L=[(g,.cells ⟨xs++l⟩ e (0,0))]:=by
 cases h with
 |nil=>exact .inl ⟨rfl,rfl,rfl,rfl,rfl⟩
 |row g n cap xs l hx hl hn=>exact .inr ⟨g,l,rfl,hx,hl,hn,rfl⟩
theorem AT.made(e:TypeId)(g:Nat)(xs:List Value):AT e 1 (some ⟨g,0,none⟩) xs.length xs.length xs [(g,.cells ⟨xs⟩ e (0,0))]:=by
 have:=AT.row (e:=e) (sz:=1) g xs.length xs.length xs [] AB AB (AV _);simpa using this
theorem AT.len{e:TypeId}{sz:Nat}{a:Option Addr}{n cap:Nat}{xs:List Value}{L:AH}(h:AT e sz a n cap xs L):xs.length=n*sz:=by
 cases h with
 |nil=>simp
 |row=>assumption
theorem AT.cap{e:TypeId}{sz:Nat}{a:Option Addr}{n cap:Nat}{xs:List Value}{L:AH}(h:AT e sz a n cap xs L):n≤cap:=by
 cases h with
 |nil=>exact AV _
 |row g n cap xs l hx hl hn=>exact hn
theorem zA{e:TypeId}{sz:Nat}{a:Option Addr}{n cap:Nat}{xs:List Value}{L:AH}(h:AT e sz a n cap xs L):a=none∨ ∃g off,a=some ⟨g,off,none⟩:=by
 cases h with
 |nil=>exact .inl rfl
 |row g n cap xs l hx hl hn=>exact .inr ⟨g,0,rfl⟩
theorem AT.arr{e:TypeId}{sz:Nat}{a:Option Addr}{n cap:Nat}{xs:List Value}{L:AH}(h:AT e sz a n cap xs L){w0 w:World}{T T':List Nat}{H:AH}{F:AH→AH}(hS:St w0 T H w) [hc:Chunk H L F]
  (hT: ∀b∈keys L,b∉T'):Arr w T' a xs:=by
 cases h with
 |nil=>exact Arr.nil _ _ _
 |row g n cap xs l hx hl hn=>
  intro j x hj;have hm:=hS.part (L:=[(g,Obj.cells ⟨xs++l⟩ e (0,0))]).own _ (Cm.2 rfl);refine⟨g,0,rfl,hT g (by simp[keys]),?_⟩;have hlt:j<xs.length:=(FR.1 hj).1;simp only[World.cell?,hm,Cs];simp only[Iy,Bool.false_eq_true,if_false];rw[show(Array.mk (xs++l))[j]?=(xs++l)[j]? by simp,Cn hlt];exact hj
section
variable {P : Program} {T0 : BO}
theorem OS(hT:BX P T0){t:TypeId}{i:TI}(hi:tf T0 t=some i): ∃inf,P.info? t=some inf∧inf.zero=some i.zero∧inf.size=i.size∧inf.bytes=i.bytes:=by
 have:=(hT _ _ hi).1;cases hinf:P.info? t with
 |none=>rw[hinf]at this;simp at this
 |some inf=>rw[hinf]at this;simp at this;exact⟨inf,rfl,this.1,this.2.1,this.2.2⟩
theorem CZ(hT:BX P T0){t:TypeId}{i:TI}(hi:tf T0 t=some i):i.k.ok P t:=(hT _ _ hi).2
theorem PN(z:Array Value)(n:Nat):(Builtin.zeroCells z n).toList.length=n*z.size:=by simp[Builtin.zeroCells]
theorem St.appCore(hT:BX P T0){t u e ty:TypeId}{sz:Nat}{i ie:TI}(hi:tf T0 t=some i)(hk:i.k= .slice e sz)(hie:tf T0 e=some ie)
  (hz:ie.zero.cells.size=sz){w0 w:World}{T:List Nat}{H L:AH}{F:AH→AH}(hS:St w0 T H w){a:Option Addr}{n cap:Nat}{xs:List Value}(hv:AT e sz a n cap xs L) [hc:Chunk H L F]
  {x:Value}{m:Nat}{news:List Value}(hm:news.length=m*sz)(hu: ∃d,P.underlying u=some d∧ ∀k,d≠ .int k)(hl: ∀w,(Builtin.lenOf x).run P w= .ok m w)
  (hsrc: ∀w',w'.heap=w.heap→(Builtin.firstCells sz m x).run P w'= .ok ⟨news⟩ w')(h1:news.all Value.oneCell'=true)
  (hlen:(n+m)*ie.bytes≤140737488355328)(hlen':n+m≤9223372036854775807):
  ∃a' cap' L' w',(Builtin.append_ ⟨[t,u]⟩ ty ⟨[.slice a n cap,x]⟩).run P w= .ok (.slice a' (n+m) cap') w'∧AT e sz a' (n+m) cap' (xs++news) L'∧St w0 T (F L') w':=by
 have ht:=CZ hT hi;rw[hk]at ht;obtain⟨ht,hes⟩:=ht;obtain⟨inf,hinf,hzz,hs1,hby⟩:=OS hT hie;have hsz:inf.size=sz:=by rw[hinf]at hes;simpa using hes
 obtain⟨d,hd,hdi⟩:=hu;have hpart:Holds L w:=hS.part (L:=L);have hin:=St.enter hpart
 --a new array
 have grown: ∀old,old<n+m→ ∃cap',(AT e sz (some ⟨w.heap.size,0,none⟩) (n+m) cap' (xs++news) [(w.heap.size,.cells ⟨(xs++news)++(Builtin.zeroCells ie.zero.cells (cap'-(n+m))).toList⟩ e (0,0))])∧
   cap'=grownCap w (n+m) old e:=by
  intro old ho;refine⟨grownCap w (n+m) old e,?_,rfl⟩;have hge:=grownCap_ge w (n+m) old e;refine AT.row _ _ _ _ _ (by rw[AP,hv.len,hm,HK]) ?_ hge;rw[AP,hv.len,hm,PN,hz,←HK,←HK];congr 1;omega
 have step: ∀o,St w0 T (F [(w.heap.size,o)]) (w.drew.alloc o):=λo=>
  hS.call (L:=L) (((hin.drew).alloc o).sub (List.Sublist.cons_cons _ (List.nil_sublist _)))
 have hsl: ∀w',(Builtin.lenOf x).run P w'= .ok m w':=hl;cases hv with
 |nil=>
  by_cases h0:m=0
  ·subst h0;have hn0:news=[]:=Is (by simpa using hm);subst hn0;refine⟨none,0,[],w,?_,AT.nil,hS.call (L:=[]) hin⟩;simp[Builtin.append_,run_underlying ht,run_underlying hd,sizeOf,typeInfo,hinf,hsz,hsl,hsrc w rfl]
  ·obtain⟨cap',hV,hcap⟩:=grown 0 AA;refine⟨_,cap',_,_,?_,hV,step _⟩;have h3: ¬(9223372036854775807<(m:Int)):=AA;have h4: ¬(281474976710656<Builtin.nextslicecap m 0*inf.bytes):=by rw[nextslicecap_zero AA,hby];simp at hlen;omega
   have h5:=hsrc w.drew rfl;simp only[Cs]at hcap;simp[Builtin.append_,run_underlying ht,run_underlying hd,sizeOf,typeInfo,zeroValue,hinf,hzz,hsz,hsl,h0,h3,h4,Question.forced,run_firstCells_none,h5,newRow,grownCap,hcap]
   congr 2
   apply Array.ext';simp
 |row g n cap xs l hx hl2 hn=>
  have hg:w.heap[g]?=some (.cells ⟨xs++l⟩ e (0,0)):=hpart.own _ (Cm.2 rfl);by_cases hroom:n+m≤cap
  ·have hfit:(n+m)*sz≤cap*sz:=GY _ hroom;rw[HK]at hfit;have hst:=run_storeCells_at P g (n*sz) e news 0 ⟨xs++l⟩ w hg (by simp;omega) (λv hv=>C8.1 h1 v hv);simp only[Nat.add_zero]at hst;have e1:(xs++l).take (n*sz)=xs:=by rw[←hx];exact List.take_left
   have e2:(xs++l).drop (n*sz+news.length)=l.drop news.length:=by rw[←hx,List.drop_append];simp
   refine⟨some ⟨g,0,none⟩,cap,[(g,.cells ⟨(xs++news)++l.drop news.length⟩ e (0,0))],w.setRow g ⟨(xs++news)++l.drop news.length⟩,?_,AT.row _ _ _ _ _ (by rw[AP,hx,hm,HK]) (by simp;omega) hroom,?_⟩
   ·simp only[e1,e2]at hst;simp[Builtin.append_,run_underlying ht,run_underlying hd,sizeOf,typeInfo,hinf,hsz,hsl,hroom,hsrc w rfl,Addr.add_lit,hst]
   ·exact hS.call (L:=[(g,.cells ⟨xs++l⟩ e (0,0))]) (hin.setRow (b:=g) (l:=xs++l) (l':=(xs++news)++l.drop news.length))
  ·obtain⟨cap',hV,hcap⟩:=grown cap AA;refine⟨_,cap',_,_,?_,hV,step _⟩;have h3: ¬(9223372036854775807<((n:Int)+(m:Int))):=AA;have h4: ¬(281474976710656<Builtin.nextslicecap (n+m) cap*inf.bytes):=by
    have:=growslice_fits (need:=n+m) (old:=cap) (bytes:=inf.bytes) AA (by rw[hby];exact hlen);omega
   have h5:=hsrc w.drew rfl;have hfo:=run_firstCells_some (P:=P) w.drew sz n ⟨g,0,none⟩ n cap xs hx (λj v hj=>by
    rw[Addr.add_eq,Cs];have hlt:j<xs.length:=(FR.1 hj).1;have hg':w.drew.heap[g]?=some (.cells ⟨xs++l⟩ e (0,0)):=hg;simp only[World.cell?,hg',Iy,Bool.false_eq_true,if_false];rw[show(Array.mk (xs++l))[j]?=(xs++l)[j]? by simp,Cn hlt];exact hj)
   simp[Builtin.append_,run_underlying ht,run_underlying hd,sizeOf,typeInfo,zeroValue,hinf,hzz,hsz,hsl,hroom,h3,h4,Question.forced,hfo,h5,newRow,grownCap,hcap]
   congr 2
   apply Array.ext';simp
theorem Arr.firstCells{w:World}{T:List Nat}{b:Option Addr}{news:List Value}(ha:Arr w T b news){sz m c:Nat}(hm:news.length=m*sz){w':World}(hw:w'.heap=w.heap):
  (Builtin.firstCells sz m (.slice b m c)).run P w'= .ok ⟨news⟩ w':=by
 cases b with
 |none=>
  cases news with
  |nil=>exact run_firstCells_none (P:=P) w' sz m m c
  |cons x xs=>obtain⟨_,_,h,_⟩:=ha 0 x rfl;cases h
 |some b=>
  refine run_firstCells_some (P:=P) w' sz m b m c news hm λj v hj=>?_;obtain⟨bk,off,h1,_,h3⟩:=ha j v hj;cases h1;rw[Addr.add_eq];simpa[World.cell?,hw]using h3
theorem St.app(hT:BX P T0){t e ty:TypeId}{sz:Nat}{i ie:TI}(hi:tf T0 t=some i)(hk:i.k= .slice e sz)(hie:tf T0 e=some ie)
  (hz:ie.zero.cells.size=sz){w0 w:World}{T:List Nat}{H L:AH}{F:AH→AH}(hS:St w0 T H w){a:Option Addr}{n cap:Nat}{xs:List Value}(hv:AT e sz a n cap xs L) [hc:Chunk H L F]
  {b:Option Addr}{m c:Nat}{news:List Value}(hm:news.length=m*sz)(ha:Arr w [] b news)(h1:news.all Value.oneCell'=true)
  (hlen:(n+m)*ie.bytes≤140737488355328)(hlen':n+m≤9223372036854775807){K:Value→World→Prop}
  (h: ∀a' cap' L' w',AT e sz a' (n+m) cap' (xs++news) L'→St w0 T (F L') w'→K (.slice a' (n+m) cap') w'):
  Bk P (Builtin.append_ ⟨[t,t]⟩ ty ⟨[.slice a n cap,.slice b m c]⟩) w K:=by
 obtain⟨a',cap',L',w',h2,h3,h4⟩:=St.appCore (ty:=ty) hT hi hk hie hz hS hv hm (x:= .slice b m c) (u:=t) ⟨_,(show P.underlying t=some (.slice e) by have:=CZ hT hi;rw[hk]at this;exact this.1),λk h=>by cases h⟩ (λ_=>rfl) (λw' hw=>ha.firstCells hm hw) h1 hlen hlen';exact⟨⟨_,_,h2,h _ _ _ _ h3 h4⟩⟩
def Eg(c:UInt8):Value:= .int .u8 c.toNat
theorem St.appStr(hT:BX P T0){t u e ty:TypeId}{i iu ie:TI}(hi:tf T0 t=some i)(hk:i.k= .slice e 1)(hiu:tf T0 u=some iu)(hku:iu.k= .str)(hie:tf T0 e=some ie)
  (hz:ie.zero.cells.size=1){w0 w:World}{T:List Nat}{H L:AH}{F:AH→AH}(hS:St w0 T H w){a:Option Addr}{n cap:Nat}{xs:List Value}(hv:AT e 1 a n cap xs L) [hc:Chunk H L F]
  {s:List UInt8}(hlen:(n+s.length)*ie.bytes≤140737488355328)(hlen':n+s.length≤9223372036854775807){K:Value→World→Prop}
  (h: ∀a' cap' L' w',AT e 1 a' (n+s.length) cap' (xs++s.map Eg) L'→St w0 T (F L') w'→K (.slice a' (n+s.length) cap') w'):
  Bk P (Builtin.append_ ⟨[t,u]⟩ ty ⟨[.slice a n cap,AG s]⟩) w K:=by
 have hu:=CZ hT hiu;rw[hku]at hu;obtain⟨a',cap',L',w',h2,h3,h4⟩:=St.appCore (ty:=ty) hT hi hk hie hz hS hv (news:=s.map Eg) (m:=s.length) AB (x:=AG s) (u:=u) ⟨.string,hu,λk h=>by cases h⟩ (λ_=>rfl)
  (λw' _=>by
   show Result.ok _ _=_
   congr 1
   apply Array.ext';simp[ByteArray.data_extract];intro a _;rfl) (by simp[Eg,Value.oneCell']) hlen hlen'
 exact⟨⟨_,_,h2,h _ _ _ _ h3 h4⟩⟩
end
end Go.Eng
