/- tarmaclaw22.lives. -/
import Derived.Test.YtlghahalejgkfaaDoorAll
namespace Go.Proofs.YtlghahalejgkfaaDoor
open Go Go.Eng Go.Proofs
theorem RSl.no {β : Type} (sz : Nat) (R : CellR β) (w : World) : RSl sz R w [.slice none 0 0] ([] : List β) := ⟨⟨none, 0, rfl, Nat.le_refl _, by decide, fun j h => by cases h⟩⟩
theorem eqOp (r q : RecM) : EqV 3 Tryd.prog T_api_Op (.agg ⟨opC r⟩) (.agg ⟨opC q⟩) (decide (r = q)) := by
  have h : EqV 3 Tryd.prog T_api_Op (.agg ⟨opC r⟩) (.agg ⟨opC q⟩) (decide (r.1 = q.1) && (decide (false = false) && (decide (r.2 = q.2) && true))) := by
    refine EqV.struct (d := [(T_string, 0), (T_bool, 1), (T_string, 2)]) (by kernel_rfl) (by kernel_rfl) (by kernel_rfl) ?_
    refine EqFs.cons (PartIs.one tblOk rfl rfl rfl) (PartIs.one tblOk rfl rfl rfl) (EqV.str tblOk rfl rfl _ _) ?_
    refine EqFs.cons (PartIs.one tblOk rfl rfl rfl) (PartIs.one tblOk rfl rfl rfl) (EqV.bool tblOk rfl rfl _ _) ?_
    exact EqFs.cons (PartIs.one tblOk rfl rfl rfl) (PartIs.one tblOk rfl rfl rfl) (EqV.str tblOk rfl rfl _ _) EqFs.nil
  have e : decide (r = q) = (decide (r.1 = q.1) && (decide (false = false) && (decide (r.2 = q.2) && true))) := by
    rw [Bool.eq_iff_iff]; simp [Prod.ext_iff]
  rw [e]; exact h
def f0 : FlightM := ⟨7, 1, 0, 0, 1, 2, 3, 4⟩
def s0 : StateM := ⟨[], [f0], []⟩
theorem f0_ok : f0.ok := by constructor <;> (unfold i64b f0; simp)
theorem s0_form : InForm s0 := ⟨(by intro p h; cases h), (by intro i h; simp [s0] at h), (by intro i h; simp [s0] at h), (by intro i h; simp [s0] at h)⟩
theorem rec0 : recs s0 = [([2, 102, 0, 0, 1, 128, 0, 0, 0, 0, 0, 0, 7], [2, 0, 0, 2, 4, 6, 8])] := by
  have e1 : keyB 102 7 = [2, 102, 0, 0, 1, 128, 0, 0, 0, 0, 0, 0, 7] := by decide
  have e2 : flightB f0 = [2, 0, 0, 2, 4, 6, 8] := by
    simp [flightB, f0, intsB, intB, zig, numB_lt]
  simp only [recs, s0, List.map_nil, List.map_cons, List.nil_append, List.append_nil, flRec, e2, List.cons.injEq, Prod.mk.injEq, and_true]
  exact e1
set_option maxHeartbeats 4000000 in
set_option maxRecDepth 8000 in
theorem rlives_spec {w : World} : Cl Tryd.prog f_tarmaclaw22_lives [] w fun v w' => v = .bool true ∧ St w [] [] w' := by
  have hS := St.start w
  refine en_tarmaclaw22_lives rfl ?_
  repeat (first | refine SemW.run tblOk ?_ | refine IntG.nw (by omega) ?_ | refine IntG.nu8 (by omega) ?_ | refine IntG.nu32 (by omega) ?_ | refine IntG.nu64 (by omega) ?_ | refine IntG.wr' rfl ?_ | refine Chk.mk (by omega) ?_ | (refine BrG.id ?_; first | with_reducible refine BrG.t ?_ | with_reducible refine BrG.f ?_ | with_reducible refine BrG.notG ?_ | with_reducible refine BrG.nn ?_ | with_reducible refine BrG.ns ?_ | refine BrG.pos (by omega) ?_ | refine BrG.neg (by omega) ?_ | with_reducible refine BrG.pos rfl ?_ | refine BrG.pos (by assumption) ?_ | refine BrG.neg (by assumption) ?_ | refine BrG.pos (by decide) ?_ | refine BrG.neg (by decide) ?_) | refine Chk.mk (ptr_ok tblOk rfl rfl) ?_ | refine Chk.mk (by decide) ?_)
  refine hS.al ?_
  intro r w1 _ hS
  repeat (first | refine SemW.run tblOk ?_ | refine IntG.nw (by omega) ?_ | refine IntG.nu8 (by omega) ?_ | refine IntG.nu32 (by omega) ?_ | refine IntG.nu64 (by omega) ?_ | refine IntG.wr' rfl ?_ | refine Chk.mk (by omega) ?_ | (refine BrG.id ?_; first | with_reducible refine BrG.t ?_ | with_reducible refine BrG.f ?_ | with_reducible refine BrG.notG ?_ | with_reducible refine BrG.nn ?_ | with_reducible refine BrG.ns ?_ | refine BrG.pos (by omega) ?_ | refine BrG.neg (by omega) ?_ | with_reducible refine BrG.pos rfl ?_ | refine BrG.pos (by assumption) ?_ | refine BrG.neg (by assumption) ?_ | refine BrG.pos (by decide) ?_ | refine BrG.neg (by decide) ?_) | refine Chk.mk (ptr_ok tblOk rfl rfl) ?_ | refine Chk.mk (by decide) ?_ | refine hS.ld rfl ?_ | refine hS.ldn rfl ?_ | (refine hS.st rfl rfl ?_; intro _ hS))
  refine hS.al ?_
  intro b1 w2 _ hS
  repeat (first | refine SemW.run tblOk ?_ | refine IntG.nw (by omega) ?_ | refine IntG.nu8 (by omega) ?_ | refine IntG.nu32 (by omega) ?_ | refine IntG.nu64 (by omega) ?_ | refine IntG.wr' rfl ?_ | refine Chk.mk (by omega) ?_ | (refine BrG.id ?_; first | with_reducible refine BrG.t ?_ | with_reducible refine BrG.f ?_ | with_reducible refine BrG.notG ?_ | with_reducible refine BrG.nn ?_ | with_reducible refine BrG.ns ?_ | refine BrG.pos (by omega) ?_ | refine BrG.neg (by omega) ?_ | with_reducible refine BrG.pos rfl ?_ | refine BrG.pos (by assumption) ?_ | refine BrG.neg (by assumption) ?_ | refine BrG.pos (by decide) ?_ | refine BrG.neg (by decide) ?_) | refine Chk.mk (ptr_ok tblOk rfl rfl) ?_ | refine Chk.mk (by decide) ?_ | refine hS.ld rfl ?_ | refine hS.ldn rfl ?_ | (refine hS.st rfl rfl ?_; intro _ hS))
  rename_i w3
  have hs : StateAt w3 s0 none (some ⟨r, 0, none⟩) none 0 1 0 := by
    refine ⟨RSl.no _ _ _, ⟨⟨some ⟨r, 0, none⟩, 1, rfl, Nat.le_refl _, by decide, fun j hj => ?_⟩⟩, RSl.no _ _ _, by decide⟩
    have hj0 : j = 0 := by simp [s0] at hj; exact hj
    subst hj0
    refine ⟨r, 0, flC f0, rfl, rfl, fun i v hv => ?_, rfl, f0_ok⟩
    have := hS.cell (b := r) (off := i) hv
    simpa using this
  have hl : (recs s0).length = 1 := by rw [rec0]; rfl
  have hA := All_spec hs
  have e0 : stV s0 none (some ⟨r, 0, none⟩) none 0 1 0 = [.slice none 0 0, .slice (some ⟨r, 0, none⟩) 1 1, .slice none 0 0] := rfl
  rw [e0] at hA
  refine Cl.mono hA ?_
  rintro _ w4 (⟨hno, -⟩ | ⟨-, a', c', L, rfl, hv, hS'⟩)
  · exact absurd s0_form hno
  have hS := hS.callNew hS'
  rw [hl] at hv
  rw [rec0] at hv
  rw [hl]
  have ha := hv.arr hS (T' := []) (by simp)
  obtain ⟨g, off, rfl, -, -⟩ := ha.get (j := 0) (by simp [opC])
  repeat (first | refine SemW.run tblOk ?_ | refine IntG.nw (by omega) ?_ | refine IntG.nu8 (by omega) ?_ | refine IntG.nu32 (by omega) ?_ | refine IntG.nu64 (by omega) ?_ | refine IntG.wr' rfl ?_ | refine Chk.mk (by omega) ?_ | (refine BrG.id ?_; first | with_reducible refine BrG.t ?_ | with_reducible refine BrG.f ?_ | with_reducible refine BrG.notG ?_ | with_reducible refine BrG.nn ?_ | with_reducible refine BrG.ns ?_ | refine BrG.pos (by omega) ?_ | refine BrG.neg (by omega) ?_ | with_reducible refine BrG.pos rfl ?_ | refine BrG.pos (by assumption) ?_ | refine BrG.neg (by assumption) ?_ | refine BrG.pos (by decide) ?_ | refine BrG.neg (by decide) ?_) | refine Chk.mk (ptr_ok tblOk rfl rfl) ?_ | refine Chk.mk (by decide) ?_ | refine hS.ld rfl ?_ | refine hS.ldn rfl ?_ | (refine hS.st rfl rfl ?_; intro _ hS))
  refine Arr.ldn (St.start w4) ha rfl (k := 0) (l' := opC ([2, 102, 0, 0, 1, 128, 0, 0, 0, 0, 0, 0, 7], [2, 0, 0, 2, 4, 6, 8])) rfl rfl ?_
  unfold opC
  repeat (first | refine SemW.run tblOk ?_ | refine IntG.nw (by omega) ?_ | refine IntG.nu8 (by omega) ?_ | refine IntG.nu32 (by omega) ?_ | refine IntG.nu64 (by omega) ?_ | refine IntG.wr' rfl ?_ | refine Chk.mk (by omega) ?_ | (refine BrG.id ?_; first | with_reducible refine BrG.t ?_ | with_reducible refine BrG.f ?_ | with_reducible refine BrG.notG ?_ | with_reducible refine BrG.nn ?_ | with_reducible refine BrG.ns ?_ | refine BrG.pos (by omega) ?_ | refine BrG.neg (by omega) ?_ | with_reducible refine BrG.pos rfl ?_ | refine BrG.pos (by assumption) ?_ | refine BrG.neg (by assumption) ?_ | refine BrG.pos (by decide) ?_ | refine BrG.neg (by decide) ?_) | refine Chk.mk (ptr_ok tblOk rfl rfl) ?_ | refine Chk.mk (by decide) ?_ | refine hS.ld rfl ?_ | refine hS.ldn rfl ?_ | (refine hS.st rfl rfl ?_; intro _ hS))
  refine eqlAgg (n := 3) (by omega) (by kernel_rfl) (eqOp ([2, 102, 0, 0, 1, 128, 0, 0, 0, 0, 0, 0, 7], [2, 0, 0, 2, 4, 6, 8]) ([2, 102, 0, 0, 1, 128, 0, 0, 0, 0, 0, 0, 7], [2, 0, 0, 2, 4, 6, 8])) ?_
  rw [decide_eq_true rfl]
  repeat (first | refine SemW.run tblOk ?_ | refine IntG.nw (by omega) ?_ | refine IntG.nu8 (by omega) ?_ | refine IntG.nu32 (by omega) ?_ | refine IntG.nu64 (by omega) ?_ | refine IntG.wr' rfl ?_ | refine Chk.mk (by omega) ?_ | (refine BrG.id ?_; first | with_reducible refine BrG.t ?_ | with_reducible refine BrG.f ?_ | with_reducible refine BrG.notG ?_ | with_reducible refine BrG.nn ?_ | with_reducible refine BrG.ns ?_ | refine BrG.pos (by omega) ?_ | refine BrG.neg (by omega) ?_ | with_reducible refine BrG.pos rfl ?_ | refine BrG.pos (by assumption) ?_ | refine BrG.neg (by assumption) ?_ | refine BrG.pos (by decide) ?_ | refine BrG.neg (by decide) ?_) | refine Chk.mk (ptr_ok tblOk rfl rfl) ?_ | refine Chk.mk (by decide) ?_ | refine hS.ld rfl ?_ | refine hS.ldn rfl ?_ | (refine hS.st rfl rfl ?_; intro _ hS))
  exact ⟨rfl, hS.nil⟩
end Go.Proofs.YtlghahalejgkfaaDoor
