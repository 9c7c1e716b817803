/- A state of the engine, as plain data: its parts in memory, its records. -/
import Derived.Test.YtlghahalejgkfaaDoorKeyL
import Derived.Test.YtlghahalejgkfaaDoorPackL
import Derived.Test.YtlghahalejgkfaaDoorLabelL
import Derived.Test.YtlghahalejgkfaaDoorOpen
namespace Go.Proofs.YtlghahalejgkfaaDoor
open Go Go.Eng Go.Proofs

structure RowM where
  num : Int
  cab : Int
  zone : Int
  exit : Bool
  seats : Bytes
structure EquipM where
  id : Int
  rows : List RowM
structure FlightM where
  id : Int
  equip : Int
  phase : Int
  seq : Int
  l0 : Int
  l1 : Int
  l2 : Int
  l3 : Int
structure PaxM where
  id : Int
  flight : Int
  cab : Int
  fit : Bool
  infant : Bool
  vol : Bool
  stb : Bool
  cls : Int
  status : Int
  tick : Int
  pass : Int
  num : Int
  c : Nat
structure StateM where
  eqs : List EquipM
  fls : List FlightM
  pxs : List PaxM
theorem Opens.map {P : Program} {t : TypeId} {β γ : Type} {R : CellR β} {S : CellR γ} {bk : β → Nat} {bk' : γ → Nat} (h : Opens P t R bk) (f : β → γ) (hf : ∀ W cs x, R W cs x → S W cs (f x)) (hb : ∀ x, bk' (f x) ≤ bk x) : Opens P t S bk' := by
  refine ⟨fun {H enc W fuel cs x} hx => ?_⟩
  obtain ⟨b, h1, h2⟩ := h.out hx
  exact ⟨f b, hf _ _ _ h1, Nat.le_trans (hb b) h2⟩
def i64b (n : Int) : Prop := -9223372036854775808 ≤ n ∧ n ≤ 9223372036854775807
theorem wf_i64b {n : Int} (h : (Lit.int .i64 n).wf = true) : i64b n := by
  unfold i64b; simpa [Lit.wf, IntKind.min, IntKind.max, IntKind.signed, IntKind.bits] using h
theorem wf_u8b {n : Int} (h : (Lit.int .u8 n).wf = true) : 0 ≤ n ∧ n ≤ 255 := by
  simpa [Lit.wf, IntKind.min, IntKind.max, IntKind.signed, IntKind.bits] using h
/-- The first cell, and the rest. -/
theorem take1' {cs : List Value} {x : Value} (h : cs.take 1 = [x]) : cs = x :: cs.drop 1 := by
  conv => lhs; rw [← List.take_append_drop 1 cs, h]
  rfl
/-- A list of cells read one by one. -/
theorem pair_one {α β : Type} {R : CellR α} {S : CellR β} {W : World} {cs : List Value} {x : α × β} {v : Value} (h : RPair 1 R S W cs x) (hv : ∀ cs', R W cs' x.1 → cs' = [v]) : cs = v :: cs.drop 1 ∧ S W (cs.drop 1) x.2 :=
  ⟨take1' (hv _ h.1), h.2⟩
def rowC (r : RowM) : List Value := [.int .i64 r.num, .int .i64 r.cab, .int .i64 r.zone, .bool r.exit, Str r.seats]
structure RowM.ok (r : RowM) : Prop where
  num : i64b r.num
  cab : i64b r.cab
  zone : i64b r.zone
def RRow : CellR RowM := fun _ cs r => cs = rowC r ∧ r.ok
def flC (f : FlightM) : List Value := [.int .i64 f.id, .int .i64 f.equip, .int .i64 f.phase, .int .i64 f.seq, .int .i64 f.l0, .int .i64 f.l1, .int .i64 f.l2, .int .i64 f.l3]
structure FlightM.ok (f : FlightM) : Prop where
  id : i64b f.id
  equip : i64b f.equip
  phase : i64b f.phase
  seq : i64b f.seq
  l0 : i64b f.l0
  l1 : i64b f.l1
  l2 : i64b f.l2
  l3 : i64b f.l3
def RFlight : CellR FlightM := fun _ cs f => cs = flC f ∧ f.ok
def paxC (p : PaxM) : List Value := [.int .i64 p.id, .int .i64 p.flight, .int .i64 p.cab, .bool p.fit, .bool p.infant, .bool p.vol, .bool p.stb, .int .i64 p.cls, .int .i64 p.status, .int .i64 p.tick, .int .i64 p.pass, .int .i64 p.num, .int .u8 p.c]
structure PaxM.ok (p : PaxM) : Prop where
  id : i64b p.id
  flight : i64b p.flight
  cab : i64b p.cab
  cls : i64b p.cls
  status : i64b p.status
  tick : i64b p.tick
  pass : i64b p.pass
  num : i64b p.num
  c : p.c < 256
def RPax : CellR PaxM := fun _ cs p => cs = paxC p ∧ p.ok
def REquip : CellR EquipM := fun W cs e => ∃ v, cs = [.int .i64 e.id, v] ∧ i64b e.id ∧ RSl 5 RRow W [v] e.rows
def RState : CellR StateM := fun W cs s => ∃ u v x, cs = [u, v, x] ∧ RSl 2 REquip W [u] s.eqs ∧ RSl 8 RFlight W [v] s.fls ∧ RSl 13 RPax W [x] s.pxs
end Go.Proofs.YtlghahalejgkfaaDoor
