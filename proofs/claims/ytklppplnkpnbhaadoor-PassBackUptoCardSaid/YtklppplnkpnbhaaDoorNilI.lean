/- Comparing an error with nil. -/
import Derived.Test.YtklppplnkpnbhaaDoorBase
import Derived.WideLaws
namespace Go.Eng
open Go
theorem neqHeld {P : Program} {T0 : Tbl} (hT : TOk P T0) {t : TypeId} {i : TI} (hi : tf T0 t = some i) (hk : i.k = .iface) {x y : Operand} {u : TypeId} {v : Value} {K : Value → Prop} (hK : K (.bool true)) :
    PureRun P (do eqGuard .neq t x y (.iface u v) .nilIface; binOp .neq t (.iface u v) .nilIface) K := by
  have h := und_of hT hi; rw [hk] at h
  obtain ⟨ms, h⟩ := h
  have h2 : P.underlying t = some (.interface (P.methodsAt t)) := by simp [Program.methodsAt, h]
  refine ⟨_, fun w => ?_, hK⟩
  rw [Sem.run_bind, run_eqGuard_of P .neq t x y _ _ w (by intro c h; cases h) (by intro h; cases h)]
  exact run_neq_held_nil w t u v h2
theorem neqNilNil {P : Program} {T0 : Tbl} (hT : TOk P T0) {t : TypeId} {i : TI} (hi : tf T0 t = some i) (hk : i.k = .iface) {x : Operand} {c : Value} {K : Value → Prop} (hK : K (.bool false)) :
    PureRun P (do eqGuard .neq t x (.const c) .nilIface .nilIface; binOp .neq t .nilIface .nilIface) K := by
  have h := und_of hT hi; rw [hk] at h
  obtain ⟨ms, h⟩ := h
  have h2 : P.underlying t = some (.interface (P.methodsAt t)) := by simp [Program.methodsAt, h]
  refine ⟨_, fun w => ?_, hK⟩
  have h3 : (eqGuard .neq t x (.const c) .nilIface .nilIface).run P w = .ok () w := by simp [eqGuard]
  rw [Sem.run_bind, h3]
  exact run_neq_nil_nil w t h2
end Go.Eng
