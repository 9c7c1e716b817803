/- == and != on structs of numbers, bools, texts and such structs. -/
import Derived.Test.YtkncpdehgcldbaaDoorBase
import Derived.Laws.StructEq
namespace Go.Eng
open Go

section
variable {P : Program} {T0 : Tbl}
def PartIs (P : Program) (t : TypeId) (xs : List Value) (off : Nat) (v : Value) : Prop := ∀ w, (part t ⟨xs⟩ off).run P w = .ok v w
theorem PartIs.one (hT : TOk P T0) {t : TypeId} {i : TI} (hi : tf T0 t = some i) (ha : i.agg = false) {xs : List Value} {off : Nat} {v : Value} (hx : xs[off]? = some v) : PartIs P t xs off v := by
  intro w
  have h1 := load_one hT hi ha w
  simp [part, h1]
  rw [hx]; rfl
theorem PartIs.agg (hT : TOk P T0) {t : TypeId} {i : TI} (hi : tf T0 t = some i) (ha : i.agg = true) {xs vs : List Value} {off : Nat} (hx : (xs.drop off).take i.size = vs) : PartIs P t xs off (.agg ⟨vs⟩) := by
  intro w
  have h1 := load_agg hT hi ha w
  have h2 := size_of hT hi w
  simp [part, h1, h2]
  exact hx
/-- Two values of a type are compared, however deep n parts below may lie. -/
def EqV (n : Nat) (P : Program) (t : TypeId) (a b : Value) (r : Bool) : Prop := ∀ k w, (Op.equalIn (k + n) t a b).run P w = .ok r w
def fieldRows (fs : List Field) : List (Bool × TypeId × Nat) := fs.map fun f => (decide (f.name ≠ "_"), f.type, f.offset)
def EqFs (n : Nat) (P : Program) (xs ys : List Value) (d : List (TypeId × Nat)) (r : Bool) : Prop :=
  ∀ (fs : List Field), fieldRows fs = d.map (fun x => (true, x.1, x.2)) → ∀ k w, (Op.eqFields (k + n) ⟨xs⟩ ⟨ys⟩ fs).run P w = .ok r w
theorem EqV.int {n : Nat} (hT : TOk P T0) {t : TypeId} {i : TI} (hi : tf T0 t = some i) {kk k : IntKind} (hk : i.k = .int kk) (a b : Int) : EqV (n + 1) P t (.int k a) (.int k b) (decide (a = b)) := by
  intro d w
  have h := und_of hT hi; rw [hk] at h
  rw [show decide (a = b) = (a == b) by rw [Bool.eq_iff_iff]; simp]
  exact run_equalIn_int w (d + n) t k kk a b h
theorem EqV.bool {n : Nat} (hT : TOk P T0) {t : TypeId} {i : TI} (hi : tf T0 t = some i) (hk : i.k = .bool) (a b : Bool) : EqV (n + 1) P t (.bool a) (.bool b) (decide (a = b)) := by
  intro d w
  have h := und_of hT hi; rw [hk] at h
  rw [show decide (a = b) = (a == b) by rw [Bool.eq_iff_iff]; simp]
  exact run_equalIn_bool' w (d + n) t a b h
theorem EqV.str {n : Nat} (hT : TOk P T0) {t : TypeId} {i : TI} (hi : tf T0 t = some i) (hk : i.k = .str) (a b : List UInt8) : EqV (n + 1) P t (Str a) (Str b) (decide (a = b)) := by
  intro d w
  have h := und_of hT hi; rw [hk] at h
  rw [show decide (a = b) = ((⟨⟨a⟩⟩ : ByteArray).toList == (⟨⟨b⟩⟩ : ByteArray).toList) by rw [bytes_toList, bytes_toList, Bool.eq_iff_iff]; simp]
  exact run_equalIn_string w (d + n) t _ _ h
theorem EqFs.nil {n : Nat} {xs ys : List Value} : EqFs n P xs ys [] true := by
  intro fs h k w
  cases fs with
  | nil => simp [Op.eqFields]
  | cons f fs => simp [fieldRows] at h
theorem EqFs.cons {n : Nat} {xs ys : List Value} {t : TypeId} {off : Nat} {d : List (TypeId × Nat)} {a b : Value} {r1 r2 : Bool} (h1 : PartIs P t xs off a) (h2 : PartIs P t ys off b) (h3 : EqV n P t a b r1) (h4 : EqFs n P xs ys d r2) :
    EqFs n P xs ys ((t, off) :: d) (r1 && r2) := by
  intro fs h k w
  cases fs with
  | nil => simp [fieldRows] at h
  | cons f fs =>
    simp only [fieldRows, List.map_cons, List.cons.injEq, Prod.mk.injEq, decide_eq_true_eq] at h
    obtain ⟨⟨hn, rfl, rfl⟩, h⟩ := h
    have e := h4 fs h k w
    simp only [Op.eqFields, if_pos hn, Sem.run_bind, h1 w, h2 w, h3 k w, Result.andThen_ok, Sem.run_ite]
    cases r1 with
    | false => simp
    | true => simp [e]
theorem EqV.struct {n : Nat} {t : TypeId} {d : List (TypeId × Nat)} (ht : P.underlying t = some (.struct (P.fieldsOf t))) (hp : P.stoodInHeld t = false) (hd : fieldRows (P.fieldsOf t).toList = d.map (fun x => (true, x.1, x.2))) {xs ys : List Value} {r : Bool} (h : EqFs n P xs ys d r) :
    EqV (n + 1) P t (.agg ⟨xs⟩) (.agg ⟨ys⟩) r := by
  intro k w
  rw [show k + (n + 1) = (k + n) + 1 by omega, run_equalIn_struct w (k + n) t _ _ ht hp]
  exact h _ hd k w
theorem eqlAgg {n : Nat} {t : TypeId} {x y : Operand} {xs ys : List Value} {r : Bool} (hn : n ≤ 10000) (hm : P.eqGuardType P.depth t = false) (h : EqV n P t (.agg ⟨xs⟩) (.agg ⟨ys⟩) r) {K : Value → Prop} (hK : K (.bool r)) :
    PureRun P (do eqGuard .eql t x y (.agg ⟨xs⟩) (.agg ⟨ys⟩); binOp .eql t (.agg ⟨xs⟩) (.agg ⟨ys⟩)) K := by
  refine ⟨_, fun w => ?_, hK⟩
  have h1 := run_eqGuard_agg (P := P) w .eql t x y ⟨xs⟩ ⟨ys⟩ hm
  have h2 := h (10000 - n) w
  rw [show 10000 - n + n = 10000 by omega] at h2
  simp only [Sem.run_bind, h1, Result.andThen_ok, run_eql_struct, h2]
theorem neqAgg {n : Nat} {t : TypeId} {x y : Operand} {xs ys : List Value} {r : Bool} (hn : n ≤ 10000) (hm : P.eqGuardType P.depth t = false) (h : EqV n P t (.agg ⟨xs⟩) (.agg ⟨ys⟩) r) {K : Value → Prop} (hK : K (.bool (!r))) :
    PureRun P (do eqGuard .neq t x y (.agg ⟨xs⟩) (.agg ⟨ys⟩); binOp .neq t (.agg ⟨xs⟩) (.agg ⟨ys⟩)) K := by
  refine ⟨_, fun w => ?_, hK⟩
  have h1 := run_eqGuard_agg (P := P) w .neq t x y ⟨xs⟩ ⟨ys⟩ hm
  have h2 := h (10000 - n) w
  rw [show 10000 - n + n = 10000 by omega] at h2
  simp only [Sem.run_bind, h1, Result.andThen_ok, run_neq_struct, h2]
end
end Go.Eng
