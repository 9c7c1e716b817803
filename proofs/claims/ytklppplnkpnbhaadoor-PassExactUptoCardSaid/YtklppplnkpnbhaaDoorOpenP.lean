/- An argument of type api.Pass, opened. -/
import Derived.Test.YtklppplnkpnbhaaDoorOpen
import Derived.Test.YtklppplnkpnbhaaDoorPass
namespace Go.Proofs.YtklppplnkpnbhaaDoor
open Go Go.Eng Go.Proofs
open Go.ChangeShapes Go.WideShapes Go.ChangeAt Go.RowKit

theorem take1 {cs : List Value} {x : Value} (h : cs.take 1 = [x]) : cs = x :: cs.drop 1 := by
  conv => lhs; rw [← List.take_append_drop 1 cs, h]
  rfl
theorem take2 {cs : List Value} {x y : Value} (h : cs.take 2 = [x, y]) : cs = x :: y :: cs.drop 2 := by
  conv => lhs; rw [← List.take_append_drop 2 cs, h]
  rfl
/-- A value of more cells than one is a struct. -/
theorem agg_of_cells {v : Value} {a b : Value} {r : List Value} (h : v.cells.toList = a :: b :: r) : v = .agg ⟨a :: b :: r⟩ := by
  cases v with
  | agg cs => rw [← h]; rfl
  | _ => simp [Value.cells] at h
theorem opens_seat : ∃ bk, Opens Tryd.prog T_api_Seat (RPair 1 (RInt .i64) (RPair 1 (RInt .u8) RNil)) bk :=
  ⟨_, Opens.struct (sz := 2) Tryd.underlying23 (by kernel_rfl) (OpensFs.cons rfl (by kernel_rfl) (Opens.int Tryd.underlying3) (OpensFs.cons rfl (by kernel_rfl) (Opens.int Tryd.underlying5) OpensFs.nil))⟩
theorem opens_pass : ∃ bk, Opens Tryd.prog T_api_Pass (RPair 1 (RInt .i64) (RPair 1 (RInt .i64) (RPair 1 (RInt .i64) (RPair 2 (RPair 1 (RInt .i64) (RPair 1 (RInt .u8) RNil)) RNil)))) bk := by
  obtain ⟨bk, hb⟩ := opens_seat
  exact ⟨_, Opens.struct (sz := 5) Tryd.underlying25 (by kernel_rfl) (OpensFs.cons rfl (by kernel_rfl) (Opens.int Tryd.underlying3) (OpensFs.cons rfl (by kernel_rfl) (Opens.int Tryd.underlying3) (OpensFs.cons rfl (by kernel_rfl) (Opens.int Tryd.underlying3) (OpensFs.cons rfl (by kernel_rfl) hb OpensFs.nil))))⟩
theorem wf_i64 {n : Int} (h : (Lit.int .i64 n).wf = true) : i64ok n := by
  unfold i64ok; simpa [Lit.wf, IntKind.min, IntKind.max, IntKind.signed, IntKind.bits] using h
theorem wf_u8 {n : Int} (h : (Lit.int .u8 n).wf = true) : 0 ≤ n ∧ n ≤ 255 := by
  simpa [Lit.wf, IntKind.min, IntKind.max, IntKind.signed, IntKind.bits] using h
theorem open_pass {H : Type} {enc : TypeId × Value → H} {W : World} {v : Value} {d : DataW H} {p : List MemPlace} (hd : DataW.Trod enc Tryd.prog W 0 (fun _ => true) true T_api_Pass v d p) : ∃ p : PassM, v = passV p ∧ p.ok := by
  obtain ⟨bk, hbk⟩ := opens_pass
  obtain ⟨⟨a, b, c, ⟨n, l, u⟩, u'⟩, hR, -⟩ := Trod.out hd hbk
  obtain ⟨⟨h1, k1⟩, ⟨h2, k2⟩, ⟨h3, k3⟩, ⟨⟨h4, k4⟩, ⟨h5, k5⟩, h6⟩, h7⟩ := hR
  simp only at h1 h2 h3 h4 h5 h6 h7
  generalize hcs : v.cells.toList = cs at h1 h2 h3 h4 h5 h6 h7
  have e1 := take1 h1
  have e2 := take1 h2
  have e3 := take1 h3
  have e4 : (((cs.drop 1).drop 1).drop 1).take 2 = [.int .i64 n, .int .u8 l] := by
    rw [take1 h4, take1 h5, h6]
  have e5 := take2 e4
  rw [h7] at e5
  rw [e5] at e3
  rw [e3] at e2
  rw [e2] at e1
  rw [e1] at hcs
  have hl : 0 ≤ l ∧ l ≤ 255 := wf_u8 k5
  refine ⟨⟨a, b, c, n, l.toNat⟩, ?_, ⟨wf_i64 k1, wf_i64 k2, wf_i64 k3, by show l.toNat < 256; omega⟩⟩
  have e6 := agg_of_cells hcs
  rw [e6]
  have e7 : ((l.toNat : Nat) : Int) = l := by omega
  show _ = Value.agg ⟨[.int .i64 a, .int .i64 b, .int .i64 c, .int .i64 n, .int .u8 ((l.toNat : Nat) : Int)]⟩
  rw [e7]
end Go.Proofs.YtklppplnkpnbhaaDoor
