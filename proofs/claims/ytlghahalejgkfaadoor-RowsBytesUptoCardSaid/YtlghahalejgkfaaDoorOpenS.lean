/- A state handed in, opened. -/
import Derived.Test.YtlghahalejgkfaaDoorStateL
namespace Go.Proofs.YtlghahalejgkfaaDoor
open Go Go.Eng Go.Proofs
open Go.ChangeShapes Go.WideShapes Go.ChangeAt Go.RowKit

theorem pair_int {k : IntKind} {β : Type} {S : CellR β} {W : World} {cs : List Value} {x : Int × β} (h : RPair 1 (RInt k) S W cs x) : cs = .int k x.1 :: cs.drop 1 ∧ (Lit.int k x.1).wf = true ∧ S W (cs.drop 1) x.2 :=
  ⟨take1' h.1.1, h.1.2, h.2⟩
theorem pair_bool {β : Type} {S : CellR β} {W : World} {cs : List Value} {x : Bool × β} (h : RPair 1 RBool S W cs x) : cs = .bool x.1 :: cs.drop 1 ∧ S W (cs.drop 1) x.2 :=
  ⟨take1' h.1, h.2⟩
theorem pair_str {β : Type} {S : CellR β} {W : World} {cs : List Value} {x : Bytes × β} (h : RPair 1 RStr S W cs x) : cs = Str x.1 :: cs.drop 1 ∧ S W (cs.drop 1) x.2 :=
  ⟨take1' h.1.1, h.2⟩
theorem pair_sl {α β : Type} {sz : Nat} {R : CellR α} {S : CellR β} {W : World} {cs : List Value} {x : List α × β} (h : RPair 1 (RSl sz R) S W cs x) : ∃ v, cs = v :: cs.drop 1 ∧ RSl sz R W [v] x.1 ∧ S W (cs.drop 1) x.2 := by
  obtain ⟨a, cap, h1, -⟩ := h.1.ex
  refine ⟨_, take1' h1, ?_, h.2⟩
  rw [← h1]; exact h.1
theorem opens_row : Opens Tryd.prog T_api_Row RRow (fun r => r.seats.length + 6) := by
  refine Opens.map (Opens.struct (sz := 5) Tryd.underlying85 (by kernel_rfl) (OpensFs.cons (s := 1) rfl (by kernel_rfl) (Opens.int Tryd.underlying3) (OpensFs.cons (s := 1) rfl (by kernel_rfl) (Opens.int Tryd.underlying3) (OpensFs.cons (s := 1) rfl (by kernel_rfl) (Opens.int Tryd.underlying3)
    (OpensFs.cons (s := 1) rfl (by kernel_rfl) (Opens.bool Tryd.underlying4) (OpensFs.cons (s := 1) rfl (by kernel_rfl) (Opens.str Tryd.underlying9) OpensFs.nil)))))) (fun x => ⟨x.1, x.2.1, x.2.2.1, x.2.2.2.1, x.2.2.2.2.1⟩) ?_ (fun x => by (try simp only); omega)
  intro W cs x h
  obtain ⟨e1, w1, h⟩ := pair_int h
  obtain ⟨e2, w2, h⟩ := pair_int h
  obtain ⟨e3, w3, h⟩ := pair_int h
  obtain ⟨e4, h⟩ := pair_bool h
  obtain ⟨e5, h⟩ := pair_str h
  have h : (((((cs.drop 1).drop 1).drop 1).drop 1).drop 1) = [] := h
  rw [h] at e5; rw [e5] at e4; rw [e4] at e3; rw [e3] at e2; rw [e2] at e1
  exact ⟨e1, wf_i64b w1, wf_i64b w2, wf_i64b w3⟩
theorem len4 {α : Type} {cs : List α} (h : cs.length = 4) : ∃ a b c d, cs = [a, b, c, d] := by
  match cs, h with
  | [a, b, c, d], _ => exact ⟨a, b, c, d, rfl⟩
def RInts4 : CellR (Int × Int × Int × Int) := fun _ cs x => cs = [.int .i64 x.1, .int .i64 x.2.1, .int .i64 x.2.2.1, .int .i64 x.2.2.2] ∧ i64b x.1 ∧ i64b x.2.1 ∧ i64b x.2.2.1 ∧ i64b x.2.2.2
theorem Opens.ints4 {P : Program} {t e : TypeId} (ht : P.underlying t = some (.array 4 e)) (he : P.underlying e = some (.int .i64)) (hce : P.cellsOf e = 1) (hct : P.cellsOf t = 4) : Opens P t RInts4 (fun _ => 4) := by
  refine ⟨fun {H enc W fuel cs x} h => ?_⟩
  obtain ⟨xs, n, -, rfl, hl, hxl, hx⟩ := DataW.trod_array ht h
  rw [hct] at hl
  rw [hce] at hx
  obtain ⟨a, b, c, d, rfl⟩ := len4 hl
  have g : ∀ i v, i < 4 → ([a, b, c, d] : List Value)[i]? = some v → ∃ z, v = .int .i64 z ∧ i64b z ∧ (xs[i]?).map (fun y => Rows.uptoBulk y.1) = some 1 := by
    intro i v hi hv
    have h1 := hx i hi
    have h2 : ((([a, b, c, d] : List Value).drop (i * 1)).take 1) = [v] := by
      rw [Nat.mul_one]
      match i, hi with
      | 0, _ => simpa using hv
      | 1, _ => simpa using hv
      | 2, _ => simpa using hv
      | 3, _ => simpa using hv
    rw [h2] at h1
    rw [List.getElem?_eq_getElem (show i < xs.length by omega)] at h1
    obtain ⟨z, h3, h4, h5⟩ := DataW.trod_int he h1
    refine ⟨z, by simpa using h3, wf_i64b h5, ?_⟩
    rw [List.getElem?_eq_getElem (show i < xs.length by omega), h4]; rfl
  obtain ⟨z0, rfl, w0, b0⟩ := g 0 a (by omega) rfl
  obtain ⟨z1, rfl, w1, b1⟩ := g 1 b (by omega) rfl
  obtain ⟨z2, rfl, w2, b2⟩ := g 2 c (by omega) rfl
  obtain ⟨z3, rfl, w3, b3⟩ := g 3 d (by omega) rfl
  refine ⟨(z0, z1, z2, z3), ⟨rfl, w0, w1, w2, w3⟩, ?_⟩
  obtain ⟨x0, x1, x2, x3, rfl⟩ := len4 hxl
  simp only [List.getElem?_cons_zero, List.getElem?_cons_succ, Option.map_some, Option.some.injEq] at b0 b1 b2 b3
  simp only [List.map_cons, List.map_nil, Rows.uptoBulk, Rows.uptoBulkAll]
  omega
theorem pair_ints4 {β : Type} {S : CellR β} {W : World} {cs : List Value} {x : (Int × Int × Int × Int) × β} (h : RPair 4 RInts4 S W cs x) : cs = .int .i64 x.1.1 :: .int .i64 x.1.2.1 :: .int .i64 x.1.2.2.1 :: .int .i64 x.1.2.2.2 :: cs.drop 4 ∧ (i64b x.1.1 ∧ i64b x.1.2.1 ∧ i64b x.1.2.2.1 ∧ i64b x.1.2.2.2) ∧ S W (cs.drop 4) x.2 := by
  refine ⟨?_, h.1.2, h.2⟩
  conv => lhs; rw [← List.take_append_drop 4 cs, h.1.1]
  rfl
theorem opens_flight : Opens Tryd.prog T_api_Flight RFlight (fun _ => 9) := by
  refine Opens.map (Opens.struct (sz := 8) Tryd.underlying45 (by kernel_rfl) (OpensFs.cons (s := 1) rfl (by kernel_rfl) (Opens.int Tryd.underlying3) (OpensFs.cons (s := 1) rfl (by kernel_rfl) (Opens.int Tryd.underlying3) (OpensFs.cons (s := 1) rfl (by kernel_rfl) (Opens.int Tryd.underlying3)
    (OpensFs.cons (s := 1) rfl (by kernel_rfl) (Opens.int Tryd.underlying3) (OpensFs.cons (s := 4) rfl (by kernel_rfl) (Opens.ints4 Tryd.underlying43 Tryd.underlying3 (by kernel_rfl) (by kernel_rfl)) OpensFs.nil)))))) (fun x => ⟨x.1, x.2.1, x.2.2.1, x.2.2.2.1, x.2.2.2.2.1.1, x.2.2.2.2.1.2.1, x.2.2.2.2.1.2.2.1, x.2.2.2.2.1.2.2.2⟩) ?_ (fun x => by (try simp only); omega)
  intro W cs x h
  obtain ⟨e1, w1, h⟩ := pair_int h
  obtain ⟨e2, w2, h⟩ := pair_int h
  obtain ⟨e3, w3, h⟩ := pair_int h
  obtain ⟨e4, w4, h⟩ := pair_int h
  obtain ⟨e5, ⟨w5, w6, w7, w8⟩, h⟩ := pair_ints4 h
  have h : (((((cs.drop 1).drop 1).drop 1).drop 1).drop 4) = [] := h
  rw [h] at e5; rw [e5] at e4; rw [e4] at e3; rw [e3] at e2; rw [e2] at e1
  exact ⟨e1, wf_i64b w1, wf_i64b w2, wf_i64b w3, wf_i64b w4, w5, w6, w7, w8⟩
theorem takeN {n : Nat} {cs l : List Value} (h : cs.take n = l) : cs = l ++ cs.drop n := by rw [← h, List.take_append_drop]
def RWho : CellR (Int × Bool × Bool) := fun _ cs x => cs = [.int .i64 x.1, .bool x.2.1, .bool x.2.2] ∧ i64b x.1
theorem opens_who : Opens Tryd.prog T_api_Who RWho (fun _ => 4) := by
  refine Opens.map (Opens.struct (sz := 3) Tryd.underlying53 (by kernel_rfl) (OpensFs.cons (s := 1) rfl (by kernel_rfl) (Opens.int Tryd.underlying3) (OpensFs.cons (s := 1) rfl (by kernel_rfl) (Opens.bool Tryd.underlying4) (OpensFs.cons (s := 1) rfl (by kernel_rfl) (Opens.bool Tryd.underlying4) OpensFs.nil)))) (fun x => (x.1, x.2.1, x.2.2.1)) ?_ (fun x => by (try simp only); omega)
  intro W cs x h
  obtain ⟨e1, w1, h⟩ := pair_int h
  obtain ⟨e2, h⟩ := pair_bool h
  obtain ⟨e3, h⟩ := pair_bool h
  have h : (((cs.drop 1).drop 1).drop 1) = [] := h
  rw [h] at e3; rw [e3] at e2; rw [e2] at e1
  exact ⟨e1, wf_i64b w1⟩
def RSeatC : CellR (Int × Nat) := fun _ cs x => cs = [.int .i64 x.1, .int .u8 x.2] ∧ i64b x.1 ∧ x.2 < 256
theorem opens_seatC : Opens Tryd.prog T_api_Seat RSeatC (fun _ => 3) := by
  refine Opens.map (Opens.struct (sz := 2) Tryd.underlying55 (by kernel_rfl) (OpensFs.cons (s := 1) rfl (by kernel_rfl) (Opens.int Tryd.underlying3) (OpensFs.cons (s := 1) rfl (by kernel_rfl) (Opens.int Tryd.underlying5) OpensFs.nil))) (fun x => (x.1, x.2.1.toNat)) ?_ (fun x => by (try simp only); omega)
  intro W cs x h
  obtain ⟨e1, w1, h⟩ := pair_int h
  obtain ⟨e2, w2, h⟩ := pair_int h
  have h : ((cs.drop 1).drop 1) = [] := h
  rw [h] at e2; rw [e2] at e1
  have hw := wf_u8b w2
  refine ⟨?_, wf_i64b w1, by simp only; omega⟩
  simp only
  rw [show ((x.2.1.toNat : Nat) : Int) = x.2.1 by omega]; exact e1
theorem opens_pax : Opens Tryd.prog T_api_Pax RPax (fun _ => 14) := by
  refine Opens.map (Opens.struct (sz := 13) Tryd.underlying57 (by kernel_rfl) (OpensFs.cons (s := 1) rfl (by kernel_rfl) (Opens.int Tryd.underlying3) (OpensFs.cons (s := 1) rfl (by kernel_rfl) (Opens.int Tryd.underlying3) (OpensFs.cons (s := 3) rfl (by kernel_rfl) opens_who
    (OpensFs.cons (s := 1) rfl (by kernel_rfl) (Opens.bool Tryd.underlying4) (OpensFs.cons (s := 1) rfl (by kernel_rfl) (Opens.bool Tryd.underlying4) (OpensFs.cons (s := 1) rfl (by kernel_rfl) (Opens.int Tryd.underlying3) (OpensFs.cons (s := 1) rfl (by kernel_rfl) (Opens.int Tryd.underlying3)
    (OpensFs.cons (s := 1) rfl (by kernel_rfl) (Opens.int Tryd.underlying3) (OpensFs.cons (s := 1) rfl (by kernel_rfl) (Opens.int Tryd.underlying3) (OpensFs.cons (s := 2) rfl (by kernel_rfl) opens_seatC OpensFs.nil)))))))))))
    (fun x => ⟨x.1, x.2.1, x.2.2.1.1, x.2.2.1.2.1, x.2.2.1.2.2, x.2.2.2.1, x.2.2.2.2.1, x.2.2.2.2.2.1, x.2.2.2.2.2.2.1, x.2.2.2.2.2.2.2.1, x.2.2.2.2.2.2.2.2.1, x.2.2.2.2.2.2.2.2.2.1.1, x.2.2.2.2.2.2.2.2.2.1.2⟩) ?_ (fun x => by (try simp only); omega)
  intro W cs x h
  obtain ⟨e1, w1, h⟩ := pair_int h
  obtain ⟨e2, w2, h⟩ := pair_int h
  obtain ⟨⟨e3, w3⟩, h⟩ := h
  have e3 := takeN e3
  obtain ⟨e4, h⟩ := pair_bool h
  obtain ⟨e5, h⟩ := pair_bool h
  obtain ⟨e6, w6, h⟩ := pair_int h
  obtain ⟨e7, w7, h⟩ := pair_int h
  obtain ⟨e8, w8, h⟩ := pair_int h
  obtain ⟨e9, w9, h⟩ := pair_int h
  obtain ⟨⟨e10, w10, w11⟩, h⟩ := h
  have e10 := takeN e10
  have h : (((((((((((cs.drop 1).drop 1).drop 3).drop 1).drop 1).drop 1).drop 1).drop 1).drop 1).drop 2)) = [] := h
  rw [h] at e10; rw [e10] at e9; rw [e9] at e8; rw [e8] at e7; rw [e7] at e6; rw [e6] at e5; rw [e5] at e4; rw [e4] at e3; rw [e3] at e2; rw [e2] at e1
  exact ⟨e1, wf_i64b w1, wf_i64b w2, w3, wf_i64b w6, wf_i64b w7, wf_i64b w8, wf_i64b w9, w10, w11⟩
theorem opens_equip : Opens Tryd.prog T_api_Equip REquip (fun e => (e.rows.map fun r => r.seats.length + 6).sum + 3) := by
  refine Opens.map (Opens.struct (sz := 2) Tryd.underlying49 (by kernel_rfl) (OpensFs.cons (s := 1) rfl (by kernel_rfl) (Opens.int Tryd.underlying3) (OpensFs.cons (s := 1) rfl (by kernel_rfl) (Opens.slice Tryd.underlying47 (show Tryd.prog.cellsOf T_api_Row = 5 by kernel_rfl) (by decide) opens_row) OpensFs.nil)))
    (fun x => ⟨x.1, x.2.1⟩) ?_ (fun x => by (try simp only); omega)
  intro W cs x h
  obtain ⟨e1, w1, h⟩ := pair_int h
  obtain ⟨v, e2, h2, h⟩ := pair_sl h
  have h : ((cs.drop 1).drop 1) = [] := h
  rw [h] at e2; rw [e2] at e1
  exact ⟨v, e1, wf_i64b w1, h2⟩
theorem opens_state : Opens Tryd.prog T_api_State RState (fun s => (s.eqs.map fun e => (e.rows.map fun r => r.seats.length + 6).sum + 3).sum + 9 * s.fls.length + 14 * s.pxs.length + 4) := by
  have hc : ∀ (l : List FlightM), (l.map fun _ => 9).sum = 9 * l.length := fun l => by
    induction l with
    | nil => rfl
    | cons a l ih => simp only [List.map_cons, List.sum_cons, List.length_cons, ih]; omega
  have hd : ∀ (l : List PaxM), (l.map fun _ => 14).sum = 14 * l.length := fun l => by
    induction l with
    | nil => rfl
    | cons a l ih => simp only [List.map_cons, List.sum_cons, List.length_cons, ih]; omega
  refine Opens.map (Opens.struct (sz := 3) Tryd.underlying26 (by kernel_rfl) (OpensFs.cons (s := 1) rfl (by kernel_rfl) (Opens.slice Tryd.underlying22 (show Tryd.prog.cellsOf T_api_Equip = 2 by kernel_rfl) (by decide) opens_equip)
    (OpensFs.cons (s := 1) rfl (by kernel_rfl) (Opens.slice Tryd.underlying23 (show Tryd.prog.cellsOf T_api_Flight = 8 by kernel_rfl) (by decide) opens_flight)
    (OpensFs.cons (s := 1) rfl (by kernel_rfl) (Opens.slice Tryd.underlying24 (show Tryd.prog.cellsOf T_api_Pax = 13 by kernel_rfl) (by decide) opens_pax) OpensFs.nil))))
    (fun x => ⟨x.1, x.2.1, x.2.2.1⟩) ?_ (fun x => by simp only [hc, hd]; omega)
  intro W cs x h
  obtain ⟨u, e1, h1, h⟩ := pair_sl h
  obtain ⟨v, e2, h2, h⟩ := pair_sl h
  obtain ⟨z, e3, h3, h⟩ := pair_sl h
  have h : (((cs.drop 1).drop 1).drop 1) = [] := h
  rw [h] at e3; rw [e3] at e2; rw [e2] at e1
  exact ⟨u, v, z, e1, h1, h2, h3⟩
/-- The j-th struct of a slice that was handed in. -/
theorem RSl.at {β : Type} {sz : Nat} {R : CellR β} {W : World} {a : Option Addr} {n cap : Nat} {xs : List β} (h : RSl sz R W [.slice a n cap] xs) {j : Nat} (hj : j < xs.length) :
    ∃ b off cs, a = some ⟨b, off, none⟩ ∧ cs.length = sz ∧ (∀ i v, cs[i]? = some v → W.cell? ⟨b, off + (j * sz + i), none⟩ = some v) ∧ R W cs xs[j] := by
  obtain ⟨a', cap', h1, -, -, h4⟩ := h.ex
  have : a = a' := by simpa using (List.cons.inj h1).1 |> fun h => (Value.slice.inj h).1
  subst this
  exact h4 j hj
theorem open_state {H : Type} {enc : TypeId × Value → H} {W : World} {v : Value} {d : DataW H} {p : List MemPlace} (hd : DataW.Trod enc Tryd.prog W 0 (fun _ => true) true T_api_State v d p) :
    ∃ (s : StateM) (a b c : Option Addr) (ca cb cc : Nat), v = .agg ⟨[.slice a s.eqs.length ca, .slice b s.fls.length cb, .slice c s.pxs.length cc]⟩ ∧ RSl 2 REquip W [.slice a s.eqs.length ca] s.eqs ∧ RSl 8 RFlight W [.slice b s.fls.length cb] s.fls ∧ RSl 13 RPax W [.slice c s.pxs.length cc] s.pxs ∧
      (s.eqs.map fun e => (e.rows.map fun r => r.seats.length + 6).sum + 3).sum + 9 * s.fls.length + 14 * s.pxs.length + 4 ≤ Rows.uptoBulk d := by
  obtain ⟨s, ⟨u, v', x, hcs, h1, h2, h3⟩, hb⟩ := Trod.out hd opens_state
  obtain ⟨a, ca, rfl, -, -, h1⟩ := h1.inv
  obtain ⟨b, cb, rfl, -, -, h2⟩ := h2.inv
  obtain ⟨c, cc, rfl, -, -, h3⟩ := h3.inv
  refine ⟨s, a, b, c, ca, cb, cc, ?_, h1, h2, h3, hb⟩
  cases v with
  | agg cs => cases cs; simp only [Value.cells] at hcs; rw [hcs]
  | _ => simp [Value.cells] at hcs
end Go.Proofs.YtlghahalejgkfaaDoor
