/- Texts of this claim, one behind the other. -/
import Derived.Test.YtkgibdhpijdbfaaGreatDoorZ7
import Derived.Test.YtkgibdhpijdbfaaGreatDoorZ3
import Derived.Test.YtkgibdhpijdbfaaGreatDoorZ2
import Derived.Test.YtkgibdhpijdbfaaGreatDoorZ11
import Derived.Test.YtkgibdhpijdbfaaGreatDoorZ6
import Derived.Test.YtkgibdhpijdbfaaGreatDoorZ8
set_option linter.unusedVariables false
set_option linter.unusedSimpArgs false
set_option maxHeartbeats 16000000
namespace Go.Proofs.YtkgibdhpijdbfaaGreatDoor
open Go Go.Eng Go.Proofs
theorem Eo:Tryz.prog.underlying BP=some (.int .i64):=CZ AK (t:=BP) rfl
theorem K3{C:World→Prop}{m:Nat}{n:Int}{kvs:List (Int×Int)}(hm: ∀w,C w→ ∃es clock,w.heap[m]?=some (.map es clock)∧Ff AY AY es kvs){K:Value→Prop}(hK:K (.int .i64 ((Al n kvs).getD 0))):
  Fz Tryz.prog (Instr.lookup Nk (.map (some m)) (.int .i64 n) false) C K:=by
 refine IT AK Bq.i64 rfl rfl Eo rfl (kvs:=kvs) hm ?_;have:((Al n kvs).map AY).getD (.int .i64 0)= .int .i64 ((Al n kvs).getD 0):=by
  cases Al n kvs<;>rfl
 rw[←this]at hK;exact hK
end Go.Proofs.YtkgibdhpijdbfaaGreatDoor
namespace Go.Eng
open Go
theorem Cp{w0 w:World}{T:List Nat}{b:Nat}{o:Obj}{H L:AH}{F:AH→AH}(hS:St w0 T ((b,o)::H) w) [hc:Chunk H L F]:b∉keys L:=by
 obtain⟨A,B,h1, -⟩:=hc.at_;have:=hS.nd;rw[h1]at this;simp only[keys,A4,A7,Ew]at this;intro h;exact this.1 (FC _ (EO _ h))
end Go.Eng
namespace Go.Proofs.YtkgibdhpijdbfaaGreatDoor
open Go Go.Eng Go.Proofs
abbrev Ac:=AE×Bool×AE
def DM(r:AO):Ac:=(r.1,false,r.2)
def A8(o:Ac):List Value:=[AG o.1,.bool o.2.1,AG o.2.2]
theorem HU(l:List Ac):(l.flatMap A8).length=3*l.length:=by
 induction l with
 |nil=>rfl
 |cons p ps ih=>rw[FA,AP,ih,Ai];show 3+_=_;omega
theorem I3(l:List Ac)(k:Nat)(hk:k<l.length):((l.flatMap A8).drop (k*3)).take 3=A8 l[k]:=by
 induction l generalizing k with
 |nil=>simp at hk
 |cons p ps ih=>
  cases k with
  |zero=>simp only[Nat.zero_mul,List.drop_zero,FA,JU];exact Gl rfl
  |succ k=>
   rw[FA,show(k+1)*3=(A8 p).length+k*3 by show _=3+_;omega,List.drop_length_add_append];exact ih k (by simpa using hk)
theorem LR(l:List AO):(l.map DM).flatMap A8=l.flatMap BN:=by
 induction l with
 |nil=>rfl
 |cons p ps ih=>rw[A4,FA,FA,ih];rfl
theorem lR(r q:Ac):Fx 3 Tryz.prog Bn (.agg ⟨A8 r⟩) (.agg ⟨A8 q⟩) (decide (r=q)):=by
 have h:Fx 3 Tryz.prog Bn (.agg ⟨A8 r⟩) (.agg ⟨A8 q⟩) (decide (r.1=q.1)&&(decide (r.2.1=q.2.1)&&(decide (r.2.2=q.2.2)&&true))):=by
  refine Fx.struct (d:=[(C3,0),(Jo,1),(C3,2)]) AD AD AD ?_;refine Hz.cons (HC.one AK rfl rfl rfl) (HC.one AK rfl rfl rfl) (Fx.str AK rfl rfl _ _) ?_;refine Hz.cons (HC.one AK rfl rfl rfl) (HC.one AK rfl rfl rfl) (Fx.bool AK rfl rfl _ _) ?_;exact Hz.cons (HC.one AK rfl rfl rfl) (HC.one AK rfl rfl rfl) (Fx.str AK rfl rfl _ _) Hz.nil
 have e:decide (r=q)=(decide (r.1=q.1)&&(decide (r.2.1=q.2.1)&&(decide (r.2.2=q.2.2)&&true))):=by
  rw[Bool.eq_iff_iff];simp[Prod.ext_iff]
 rw[e];exact h
theorem lS{α:Type}{l m:List α}(hn:l.length=m.length)(h: ∀i(h1:i<l.length)(h2:i<m.length),l[i]=m[i]):l=m:=List.ext_getElem hn h
end Go.Proofs.YtkgibdhpijdbfaaGreatDoor
namespace Go.Eng
open Go
section
variable {P : Program} {T0 : BO}
end
end Go.Eng
namespace Go.Proofs.YtkgibdhpijdbfaaGreatDoor
open Go Go.Eng Go.Proofs
end Go.Proofs.YtkgibdhpijdbfaaGreatDoor
