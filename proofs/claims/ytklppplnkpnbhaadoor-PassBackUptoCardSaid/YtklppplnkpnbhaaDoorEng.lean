import Derived.WalkKit
import Derived.WalkSpells
import Derived.WalkLawsBesides
import Derived.OrdersHeld
import Derived.KernelRfl
namespace Go.Eng
open Go

/-! ## Environment -/
abbrev Env := List (Nat × Value)
def lkv : Env → Nat → Option Value
  | [], _ => none
  | (k, v) :: t, n => match Nat.beq k n with | true => some v | false => lkv t n
def lk : Env → Nat → (Value → Prop) → Prop
  | [], _, _ => False
  | (k, v) :: t, n, K => match Nat.beq k n with | true => K v | false => lk t n K
theorem lk_iff (e : Env) (n : Nat) (K : Value → Prop) : lk e n K ↔ ∃ v, lkv e n = some v ∧ K v := by
  induction e with
  | nil => simp [lk, lkv]
  | cons p t ih =>
    obtain ⟨k, v⟩ := p
    simp only [lk, lkv]
    cases Nat.beq k n <;> simp [ih]

structure Rel (N : Nat) (e : Env) (a : Act) : Prop where
  size : a.tmps.size = N
  dz : a.defers = []
  get : ∀ n v, lkv e n = some v → a.tmps[n]? = some v

theorem lkv_cons (k : Nat) (v : Value) (t : Env) (n : Nat) : lkv ((k, v) :: t) n = if k = n then some v else lkv t n := by
  simp only [lkv]
  by_cases h : k = n
  · subst h; simp
  · have : Nat.beq k n = false := by rw [← Bool.not_eq_true]; intro hb; exact h (Nat.eq_of_beq_eq_true hb)
    simp [this, h]

theorem Rel.put {N : Nat} {e : Env} {a : Act} (h : Rel N e a) {d : Nat} (hd : d < N) (v : Value) : Rel N ((d, v) :: e) (a.put (some d) v) := by
  refine ⟨by simp [Act.put, h.size], h.dz, fun n u hu => ?_⟩
  rw [lkv_cons] at hu
  simp only [Act.put, Array.getElem?_setIfInBounds]
  by_cases hdn : d = n
  · subst hdn; simp at hu; subst hu; simp [h.size, hd]
  · rw [if_neg hdn] at hu; rw [if_neg hdn]; exact h.get n u hu

/-- The operand's value handed to K. -/
def evK (e : Env) : Operand → (Value → Prop) → Prop
  | .tmp n, K => lk e n K
  | .const v, K => K v
  | .global g, K => K (.pointer (some ⟨g, 0, none⟩))
  | .func f, K => K (.func (.func f) #[] #[])
theorem evK_iff {N : Nat} {e : Env} {a : Act} (h : Rel N e a) {x : Operand} {K : Value → Prop} (hk : evK e x K) : K (a.eval x) := by
  cases x with
  | tmp n =>
    obtain ⟨v, hv, hK⟩ := (lk_iff _ _ _).1 hk
    have := h.get n v hv
    simp only [Act.eval, Array.getD_eq_getD_getElem?, this, Option.getD_some]; exact hK
  | _ => exact hk
def evsK (e : Env) : List Operand → (List Value → Prop) → Prop
  | [], K => K []
  | x :: xs, K => evK e x fun v => evsK e xs fun vs => K (v :: vs)
theorem evsK_iff {N : Nat} {e : Env} {a : Act} (h : Rel N e a) : ∀ {xs : List Operand} {K : List Value → Prop}, evsK e xs K → K (xs.map a.eval)
  | [], _, hk => hk
  | x :: xs, K, hk => by
    have h1 := evK_iff h hk
    exact evsK_iff (xs := xs) (K := fun vs => K (a.eval x :: vs)) h h1

/-! ## Goals that the prover closes -/
structure BrG (b : Bool) (X Y : Prop) : Prop where
  t' : b = true → X
  f' : b = false → Y
theorem BrG.t {X Y : Prop} (h : X) : BrG true X Y := ⟨fun _ => h, nofun⟩
theorem BrG.f {X Y : Prop} (h : Y) : BrG false X Y := ⟨nofun, fun _ => h⟩
theorem BrG.dec {p X Y : Prop} [Decidable p] (h1 : p → X) (h2 : ¬p → Y) : BrG (decide p) X Y := ⟨fun h => h1 (of_decide_eq_true h), fun h => h2 (of_decide_eq_false h)⟩
theorem BrG.pos {p X Y : Prop} [Decidable p] (h : p) (h1 : X) : BrG (decide p) X Y := .dec (fun _ => h1) (fun h' => absurd h h')
theorem BrG.neg {p X Y : Prop} [Decidable p] (h : ¬p) (h1 : Y) : BrG (decide p) X Y := .dec (fun h' => absurd h' h) (fun _ => h1)
theorem BrG.notG {b : Bool} {X Y : Prop} (h : BrG b Y X) : BrG (!b) X Y := ⟨fun e => h.f' (by simpa using e), fun e => h.t' (by simpa using e)⟩
theorem BrG.bool {b : Bool} {X Y : Prop} (h1 : b = true → X) (h2 : b = false → Y) : BrG b X Y := ⟨h1, h2⟩
theorem BrG.eqt {b : Bool} {X Y : Prop} (hb : b = true) (h1 : X) : BrG b X Y := ⟨fun _ => h1, fun h => (by rw [hb] at h; cases h)⟩
theorem BrG.eqf {b : Bool} {X Y : Prop} (hb : b = false) (h1 : Y) : BrG b X Y := ⟨fun h => (by rw [hb] at h; cases h), fun _ => h1⟩

/-- A check that the prover pays, and what follows. -/
structure Chk (p q : Prop) : Prop where
  p : p
  q : q

structure IntG (k : IntKind) (z : Int) (K : Value → Prop) : Prop where
  out : K (.int k (k.wrap z))
theorem IntG.wr {k : IntKind} {z : Int} {K : Value → Prop} (h : K (.int k (k.wrap z))) : IntG k z K := ⟨h⟩
theorem IntG.nw {z : Int} {K : Value → Prop} (h : -9223372036854775808 ≤ z ∧ z ≤ 9223372036854775807) (hk : K (.int .i64 z)) : IntG .i64 z K := by
  exact ⟨by rw [IntWalk.i64_in _ (by omega)]; exact hk⟩

structure RunG {α : Type} (P : Program) (s : Sem α) (w : World) (K : α → World → Prop) : Prop where
  out : ∃ v w', s.run P w = .ok v w' ∧ K v w'
theorem RunG.of {α : Type} {P : Program} {s : Sem α} {w : World} {K : α → World → Prop} {v : α} {w' : World} (h : s.run P w = .ok v w') (hk : K v w') : RunG P s w K := ⟨⟨v, w', h, hk⟩⟩

/-- The contract form: the call returns, its value and the world it leaves satisfy R. -/
def Cl (P : Program) (f : FuncId) (args : List Value) (w : World) (R : Value → World → Prop) : Prop :=
  ((callFunc f ⟨args⟩).run P w = .ok (.enter f ⟨args⟩) w ∧ Calls P f ⟨args⟩ w fun e w' => ∃ v, e = .returned v ∧ R v w') ∨
  (∃ v w', (callFunc f ⟨args⟩).run P w = .ok (.value v) w' ∧ R v w')
theorem Cl.mono {P : Program} {f : FuncId} {args : List Value} {w : World} {R R' : Value → World → Prop} (h : Cl P f args w R) (hr : ∀ v w', R v w' → R' v w') : Cl P f args w R' := by
  rcases h with ⟨h1, h2⟩ | ⟨v, w', h1, h2⟩
  · exact .inl ⟨h1, Calls.mono h2 fun _ _ ⟨v, he, hR⟩ => ⟨v, he, hr _ _ hR⟩⟩
  · exact .inr ⟨v, w', h1, hr _ _ h2⟩

theorem BrG.id {b : Bool} {X Y : Prop} (h : BrG b X Y) : BrG b X Y := h
theorem BrG.nn {α : Type} {X Y : Prop} (h : X) : BrG (Option.isNone (none : Option α)) X Y := ⟨fun _ => h, nofun⟩
theorem BrG.ns {α : Type} {a : α} {X Y : Prop} (h : Y) : BrG (Option.isNone (some a)) X Y := ⟨nofun, fun _ => h⟩
theorem BrG.not_t {X Y : Prop} (h : Y) : BrG (!true) X Y := ⟨nofun, fun _ => h⟩
def isI64 : IntKind → Bool | .i64 => true | _ => false
theorem IntG.wr' {k : IntKind} {z : Int} {K : Value → Prop} (_hk : isI64 k = false) (h : K (.int k (k.wrap z))) : IntG k z K := ⟨h⟩
theorem wrap_of (k : IntKind) (z : Int) (hs : k.signed = false) (h0 : 0 ≤ z) (h1 : z < 2 ^ k.bits) : k.wrap z = z := by
  unfold IntKind.wrap; simp only [hs]; simp [Int.emod_eq_of_lt h0 h1]
theorem IntG.nu8 {z : Int} {K : Value → Prop} (h : 0 ≤ z ∧ z ≤ 255) (hk : K (.int .u8 z)) : IntG .u8 z K :=
  ⟨by rw [wrap_of .u8 z rfl h.1 (by show z < 2 ^ 8; omega)]; exact hk⟩
theorem IntG.nu32 {z : Int} {K : Value → Prop} (h : 0 ≤ z ∧ z ≤ 4294967295) (hk : K (.int .u32 z)) : IntG .u32 z K :=
  ⟨by rw [wrap_of .u32 z rfl h.1 (by show z < 2 ^ 32; omega)]; exact hk⟩
theorem IntG.nu64 {z : Int} {K : Value → Prop} (h : 0 ≤ z ∧ z ≤ 18446744073709551615) (hk : K (.int .u64 z)) : IntG .u64 z K :=
  ⟨by rw [wrap_of .u64 z rfl h.1 (by show z < 2 ^ 64; omega)]; exact hk⟩

/-! ## Types -/
inductive TK where
  | int (k : IntKind) | bool | str | ptr (e : TypeId) | slice (e esz : Nat) | struct (fs : List (Nat × Nat)) | map (k e : TypeId) | arr (n e esz : Nat) | iface | fn
  deriving DecidableEq
structure TI where
  k : TK
  size : Nat
  bytes : Nat
  zero : Value
abbrev Tbl := List (Nat × TI)
def TI.agg (t : TI) : Bool := match t.k with | .struct _ => true | .arr .. => true | _ => false
def TK.ok (P : Program) (t : TypeId) : TK → Prop
  | .int k => P.underlying t = some (.int k)
  | .bool => P.underlying t = some .bool
  | .str => P.underlying t = some .string
  | .ptr e => P.underlying t = some (.pointer e)
  | .slice e esz => P.underlying t = some (.slice e) ∧ (P.info? e).map (·.size) = some esz
  | .struct fs => ∃ d, P.underlying t = some (.struct d) ∧ d.toList.map (fun f => (f.offset, (P.info? f.type).map (·.size))) = fs.map (fun x => (x.1, some x.2))
  | .map k e => P.underlying t = some (.map k e)
  | .arr n e esz => P.underlying t = some (.array n e) ∧ (P.info? e).map (·.size) = some esz
  | .iface => ∃ ms, P.underlying t = some (.interface ms)
  | .fn => ∃ ps rs v, P.underlying t = some (.func ps rs v)
def TI.ok (P : Program) (t : TypeId) (i : TI) : Prop :=
  (P.info? t).map (fun i => (i.zero, i.size, i.bytes)) = some (some i.zero, i.size, i.bytes) ∧ i.k.ok P t
theorem TI.ok.some {P : Program} {t : TypeId} {i : TI} (h : i.ok P t) : ∃ d, P.underlying t = some d := by
  obtain ⟨_, h⟩ := h
  cases hk : i.k <;> simp only [hk, TK.ok] at h
  all_goals first | exact ⟨_, h⟩ | exact ⟨_, h.1⟩ | (obtain ⟨d, h⟩ := h; first | exact ⟨_, h⟩ | exact ⟨_, h.1⟩ | (obtain ⟨d, e, h⟩ := h; exact ⟨_, h⟩))
def tf : Tbl → Nat → Option TI
  | [], _ => none
  | (k, v) :: t, n => match Nat.beq k n with | true => some v | false => tf t n
def tK : Tbl → Nat → (TI → Prop) → Prop
  | [], _, _ => False
  | (k, v) :: t, n, K => match Nat.beq k n with | true => K v | false => tK t n K
theorem tK_iff (e : Tbl) (n : Nat) (K : TI → Prop) : tK e n K ↔ ∃ v, tf e n = some v ∧ K v := by
  induction e with
  | nil => simp [tK, tf]
  | cons p t ih =>
    obtain ⟨k, v⟩ := p
    simp only [tK, tf]
    cases Nat.beq k n <;> simp [ih]
/-- Every row of the table is true of the program. -/
def TOk (P : Program) (T : Tbl) : Prop := ∀ t i, tf T t = some i → i.ok P t
theorem TOk.nil {P : Program} : TOk P [] := fun _ _ h => by simp [tf] at h
theorem TOk.cons {P : Program} {t : Nat} {i : TI} {T : Tbl} (h : i.ok P t) (hT : TOk P T) : TOk P ((t, i) :: T) := by
  intro u j hj
  simp only [tf] at hj
  cases hb : Nat.beq t u with
  | true => rw [hb] at hj; simp at hj; subst hj; have := Nat.eq_of_beq_eq_true hb; subst this; exact h
  | false => rw [hb] at hj; exact hT u j hj

/-! ## Pure operations -/
def IntKind.same : IntKind → IntKind → Bool
  | .i8, .i8 | .i16, .i16 | .i32, .i32 | .i64, .i64 | .u8, .u8 | .u16, .u16 | .u32, .u32 | .u64, .u64 => true
  | _, _ => false
theorem IntKind.same_eq {a b : IntKind} (h : IntKind.same a b = true) : a = b := by cases a <;> cases b <;> first | rfl | simp [IntKind.same] at h

def andI (k : IntKind) (x y : Int) : Int := k.wrap ((BitVec.ofInt k.bits x &&& BitVec.ofInt k.bits y).toNat)
def orI (k : IntKind) (x y : Int) : Int := k.wrap ((BitVec.ofInt k.bits x ||| BitVec.ofInt k.bits y).toNat)
def xorI (k : IntKind) (x y : Int) : Int := k.wrap ((BitVec.ofInt k.bits x ^^^ BitVec.ofInt k.bits y).toNat)
def andNotI (k : IntKind) (x y : Int) : Int := k.wrap ((BitVec.ofInt k.bits x &&& ~~~(BitVec.ofInt k.bits y)).toNat)

abbrev Str (l : List UInt8) : Value := .string ⟨⟨l⟩⟩

/-- What is asked for by an operation on two integers. -/
def binInt (op : BinOp) (k : IntKind) (x y : Int) (K : Value → Prop) : Prop :=
  match op with
  | .add => IntG k (x + y) K
  | .sub => IntG k (x - y) K
  | .mul => IntG k (x * y) K
  | .quo => Chk (y ≠ 0) (IntG k (x.tdiv y) K)
  | .rem => Chk (y ≠ 0) (K (.int k (x.tmod y)))
  | .and => K (.int k (andI k x y))
  | .or => K (.int k (orI k x y))
  | .xor => K (.int k (xorI k x y))
  | .andNot => K (.int k (andNotI k x y))
  | .eql => K (.bool (decide (x = y)))
  | .neq => K (.bool (!decide (x = y)))
  | .lss => K (.bool (decide (x < y)))
  | .leq => K (.bool (decide (x ≤ y)))
  | .gtr => K (.bool (decide (y < x)))
  | .geq => K (.bool (decide (y ≤ x)))
  | _ => False
def binStr (op : BinOp) (x y : List UInt8) (K : Value → Prop) : Prop :=
  match op with
  | .add => Chk (x.length + y.length ≤ 9223372036854775807) (K (Str (x ++ y)))
  | .eql => K (.bool (decide (x = y)))
  | .neq => K (.bool (!decide (x = y)))
  | .lss => K (.bool (Op.bytesLess x y))
  | .leq => K (.bool (Op.bytesLess x y || decide (x = y)))
  | .gtr => K (.bool (!(Op.bytesLess x y || decide (x = y))))
  | .geq => K (.bool (!Op.bytesLess x y))
  | _ => False
/-- An operation whose run the prover tells by itself. -/
structure PureRun (P : Program) (s : Sem Value) (K : Value → Prop) : Prop where
  out : ∃ v, (∀ w, s.run P w = .ok v w) ∧ K v

def binG (P : Program) (op : BinOp) (t : TypeId) (a b : Value) (K : Value → Prop) (Fb : Prop) : Prop :=
  match a, b with
  | .int k x, .int k' y =>
    match op with
    | .shl => Chk (0 ≤ y) (K (.int k (k.wrap (x * 2 ^ (min y.toNat k.bits)))))
    | .shr => Chk (0 ≤ y) (K (.int k (x.fdiv (2 ^ (min y.toNat k.bits)))))
    | op => match IntKind.same k k' with | true => binInt op k x y K | false => False
  | .string ⟨⟨x⟩⟩, .string ⟨⟨y⟩⟩ => binStr op x y K
  | .bool x, .bool y => match op with
    | .eql => Chk (P.underlying t = some .bool) (K (.bool (x == y)))
    | .neq => Chk (P.underlying t = some .bool) (K (.bool (!(x == y))))
    | _ => False
  | .pointer p, .pointer none => match op with
    | .eql => Chk (P.underlying t = some (.pointer (P.pointee t))) (K (.bool p.isNone))
    | .neq => Chk (P.underlying t = some (.pointer (P.pointee t))) (K (.bool (!p.isNone)))
    | _ => False
  | _, _ => Fb

theorem bytes_toList (x : List UInt8) : (ByteArray.mk ⟨x⟩).toList = x := ByteArray.toList_eq _
theorem bytes_append (x y : List UInt8) : (ByteArray.mk ⟨x⟩) ++ (ByteArray.mk ⟨y⟩) = ⟨⟨x ++ y⟩⟩ := by
  apply ByteArray.ext; rw [ByteArray.data_append]; simp
theorem bytes_extract (x : List UInt8) (i j : Nat) : (ByteArray.mk ⟨x⟩).extract i j = ⟨⟨(x.take j).drop i⟩⟩ := by
  apply ByteArray.ext
  rw [ByteArray.data_extract]
  apply Array.ext'
  simp [List.extract_eq_take_drop, List.drop_take]

theorem run_eqGuard_of (P : Program) (op : BinOp) (t : TypeId) (x y : Operand) (a b : Value) (w : World)
    (h1 : ∀ c, a ≠ .agg c) (h2 : a ≠ .nilIface) : (eqGuard op t x y a b).run P w = .ok () w := by
  unfold eqGuard
  cases op <;> cases a <;> simp_all

theorem binG_sound {P : Program} {op : BinOp} {t : TypeId} {a b : Value} {K : Value → Prop} {Fb : Prop} (h : binG P op t a b K Fb) :
    (∃ v, K v ∧ (∀ w, (binOp op t a b).run P w = .ok v w) ∧ (∀ c, a ≠ .agg c) ∧ a ≠ .nilIface) ∨ Fb := by
  cases a <;> cases b <;> simp only [binG] at h
  case int.int k x k' y =>
    left
    have key : (match IntKind.same k k' with | true => binInt op k x y K | false => False) → op ≠ .shl → op ≠ .shr → ∃ v, K v ∧ (∀ w, (binOp op t (.int k x) (.int k' y)).run P w = .ok v w) := by
      intro h h1 h2
      cases hk : IntKind.same k k' with
      | false => simp [hk] at h
      | true =>
        have := IntKind.same_eq hk
        subst this
        simp only [hk] at h
        cases op <;> simp only [binInt] at h
        all_goals (try replace h := IntG.out h)
        all_goals (try (obtain ⟨hy, h⟩ := h; (try replace h := IntG.out h)))
        all_goals first
          | exact absurd rfl h1
          | exact absurd rfl h2
          | exact h.elim
          | (refine ⟨_, h, fun w => ?_⟩; simp [binOp, Op.intDiv, hy]; done)
          | (refine ⟨_, h, fun w => ?_⟩; first | (simp [binOp, Op.intArith]; done) | (simp only [binOp]; simp [Op.intBits, andI, orI, xorI, andNotI]; done) | (simp only [binOp]; simp [Op.intCmp]; done) | (simp only [binOp]; simp [Op.intCmp]; rfl))
    suffices hf : ∃ v, K v ∧ (∀ w, (binOp op t (.int k x) (.int k' y)).run P w = .ok v w) from (by obtain ⟨v, h1, h2⟩ := hf; exact ⟨v, h1, h2, nofun, nofun⟩)
    cases op
    case shl => obtain ⟨h0, h⟩ := h; exact ⟨_, h, fun w => by simp [binOp, Op.shift, show ¬ y < 0 by omega]⟩
    case shr => obtain ⟨h0, h⟩ := h; exact ⟨_, h, fun w => by simp [binOp, Op.shift, show ¬ y < 0 by omega]⟩
    all_goals exact key h nofun nofun
  case string.string x y =>
    left
    obtain ⟨⟨x⟩⟩ := x
    obtain ⟨⟨y⟩⟩ := y
    cases op <;> simp only [binStr] at h
    case add =>
      obtain ⟨h0, h⟩ := h
      refine ⟨_, h, fun w => ?_, nofun, nofun⟩
      simp only [binOp]
      rw [run_string_add_sum w _ _ (by simpa [ByteArray.size] using h0), bytes_append]
    all_goals first
      | exact h.elim
      | exact ⟨_, h, fun w => by simp [binOp, Op.stringOp, show (x == y) = decide (x = y) from by rw [Bool.eq_iff_iff]; simp], nofun, nofun⟩
  case bool.bool x y =>
    left
    cases op <;> simp only at h
    case eql => obtain ⟨h0, h⟩ := h; exact ⟨_, h, fun w => run_eql_bool w _ _ _ h0, nofun, nofun⟩
    case neq => obtain ⟨h0, h⟩ := h; exact ⟨_, h, fun w => run_neq_bool w _ _ _ h0, nofun, nofun⟩
  case pointer.pointer p q =>
    cases q with
    | some q => exact Or.inr h
    | none =>
      left
      cases op <;> simp only at h
      case eql => obtain ⟨h0, h⟩ := h; exact ⟨_, h, fun w => run_eql_pointer_nil w _ _ h0, nofun, nofun⟩
      case neq => obtain ⟨h0, h⟩ := h; exact ⟨_, h, fun w => run_neq_pointer_nil w _ _ h0, nofun, nofun⟩
  all_goals exact Or.inr h

def unG (op : UnOp) (a : Value) (K : Value → Prop) : Prop :=
  match op, a with
  | .not, .bool b => K (.bool (!b))
  | .neg, .int k n => IntG k (0 - n) K
  | .xor, .int k n => K (.int k (xorI k (if k.signed then -1 else k.max) n))
  | _, _ => False
theorem unG_sound {P : Program} {op : UnOp} {a : Value} {K : Value → Prop} (h : unG op a K) : ∃ v, K v ∧ ∀ w, (Op.unary op a).run P w = .ok v w := by
  cases op <;> cases a <;> simp only [unG] at h <;> (try replace h := IntG.out h) <;> first
    | exact h.elim
    | (refine ⟨_, h, fun w => ?_⟩; first | (simp [Op.unary, Op.intArith]; done) | (simp only [Op.unary]; simp [Op.intBits, xorI]; done))

/-- Conversions between integers; everything else: the run itself. -/
def convK (T : Tbl) (d : TypeId) (a : Value) (K : Value → Prop) : Prop :=
  match a with
  | .int _ n => tK T d fun i => match i.k with | .int k => IntG k n K | _ => False
  | .string s => tK T d fun i => match i.k with | .str => K (.string s) | _ => False
  | _ => False

def offK : List (Nat × Nat) → Nat → (Nat → Nat → Prop) → Prop
  | [], _, _ => False
  | (o, s) :: _, 0, K => K o s
  | _ :: t, n + 1, K => offK t n K
theorem offK_iff : ∀ (fs : List (Nat × Nat)) (n : Nat) (K : Nat → Nat → Prop), offK fs n K ↔ ∃ o s, fs[n]? = some (o, s) ∧ K o s
  | [], n, K => by simp [offK]
  | (o, s) :: t, 0, K => by
    simp only [offK, List.getElem?_cons_zero, Option.some.injEq, Prod.mk.injEq]
    exact ⟨fun h => ⟨o, s, ⟨rfl, rfl⟩, h⟩, fun ⟨_, _, ⟨h1, h2⟩, h⟩ => h1 ▸ h2 ▸ h⟩
  | _ :: t, n + 1, K => by simp only [offK, List.getElem?_cons_succ]; exact offK_iff t n K

/-- Operations that look at no memory: the value handed to K. -/
def pureG (P : Program) (T : Tbl) (e : Env) (op : Op) (K : Value → Prop) : Prop :=
  match op with
  | .move x => evK e x K
  | .assign x => evK e x K
  | .pick c x y => evK e c fun vc => match vc with | .bool b => BrG b (evK e x K) (evK e y K) | _ => False
  | .binOp op t x y _ => evK e x fun a => evK e y fun b => binG P op t a b K (PureRun P (do eqGuard op t x y a b; binOp op t a b) K)
  | .unOp op _ x => evK e x fun a => unG op a K
  | .convert s d x => tK T s fun _ => evK e x fun a => convK T d a K
  | .nilCheck x => evK e x fun a => match a with | .pointer (some p) => K (.pointer (some p)) | _ => False
  | .extract x n => evK e x fun a => match a with | .tuple ⟨vs⟩ => (match vs[n]? with | some v => K v | none => False) | _ => False
  | .fieldAddr s x f => tK T s fun i => match i.k with
    | .struct fs => offK fs f fun o sz => match sz with
      | 0 => False
      | _ + 1 => evK e x fun a => match a with | .pointer (some ⟨b, off, none⟩) => K (.pointer (some ⟨b, off + o, none⟩)) | _ => False
    | _ => False
  | .indexAddr t x ix => tK T t fun i => match i.k with
    | .slice _ sz => evK e x fun a => evK e ix fun j => match a, j with
      | .slice (some ⟨b, off, none⟩) len _, .int _ j => Chk (0 ≤ j ∧ j < len) (K (.pointer (some ⟨b, off + j.toNat * sz, none⟩)))
      | _, _ => False
    | .arr n _ sz => evK e x fun a => evK e ix fun j => match a, j with
      | .pointer (some ⟨b, off, none⟩), .int _ j => Chk (0 ≤ j ∧ j < n) (K (.pointer (some ⟨b, off + j.toNat * sz, none⟩)))
      | _, _ => False
    | _ => False
  | .index t x ix => tK T t fun i => match i.k with
    | .str => evK e x fun a => evK e ix fun j => match a, j with
      | .string ⟨⟨l⟩⟩, .int _ j => Chk (0 ≤ j ∧ j < l.length) (K (.int .u8 (l.getD j.toNat 0).toNat))
      | _, _ => False
    | .arr _ _ _ => evK e x fun a => evK e ix fun j => PureRun P (Instr.index t a j) K
    | _ => False
  | .makeInterface t x => Chk (P.concrete t = true) (evK e x fun a => K (.iface t a))
  | _ => False

theorem Addr.add_eq (b o n : Nat) : (⟨b, o, none⟩ : Addr).add n = ⟨b, o + n, none⟩ := by unfold Addr.add; split <;> simp_all

theorem pureG_sound {P : Program} {T : Tbl} (hT : TOk P T) {N : Nat} {e : Env} {a : Act} (hr : Rel N e a) {o : Oper} {K : Value → Prop} (h : pureG P T e o.op K) :
    ∃ v, K v ∧ ∀ w, (execOp a.eval o).run P w = .ok (.value v) w := by
  obtain ⟨dst, op, ty, pos, after, guard⟩ := o
  simp only at h
  cases op <;> simp only [pureG] at h
  case move x => exact ⟨_, evK_iff hr h, fun w => rfl⟩
  case assign x => exact ⟨_, evK_iff hr h, fun w => rfl⟩
  case pick c x y =>
    have := evK_iff hr h
    cases hc : a.eval c <;> simp only [hc] at this
    case bool b =>
      cases b with
      | true => exact ⟨_, evK_iff hr (this.t' rfl), fun w => by simp [execOp, hc, asBool]⟩
      | false => exact ⟨_, evK_iff hr (this.f' rfl), fun w => by simp [execOp, hc, asBool]⟩
  case binOp op t x y yt =>
    have h1 := evK_iff hr (evK_iff hr h)
    rcases binG_sound h1 with ⟨v, hv, hrun, h2, h3⟩ | h1
    · exact ⟨v, hv, fun w => by simp [execOp, run_eqGuard_of P op t x y _ _ w h2 h3, hrun]⟩
    · obtain ⟨v, hrun, hv⟩ := h1.out
      refine ⟨v, hv, fun w => ?_⟩
      have := hrun w
      simp only [execOp, Sem.run_bind] at this ⊢
      simp only [this, Result.andThen_ok, Sem.run_pure]
  case unOp op t x =>
    obtain ⟨v, hv, hrun⟩ := unG_sound (P := P) (evK_iff hr h)
    exact ⟨v, hv, fun w => by simp [execOp, hrun]⟩
  case nilCheck x =>
    have := evK_iff hr h
    cases hc : a.eval x <;> simp only [hc] at this
    case pointer p =>
      cases p with
      | none => exact this.elim
      | some p => exact ⟨_, this, fun w => by simp [execOp, hc]⟩
  case extract x n =>
    have := evK_iff hr h
    cases hc : a.eval x <;> simp only [hc] at this
    case tuple vs =>
      obtain ⟨vs⟩ := vs
      simp only at this
      cases hv : vs[n]? <;> simp only [hv] at this
      case some v => exact ⟨v, this, fun w => by simp [execOp, hc, Instr.extract, hv]⟩
  case makeInterface t x =>
    exact ⟨_, evK_iff (K := fun a => K (.iface t a)) hr h.2, fun w => by simp [execOp, run_makeInterface _ _ _ h.1]⟩
  case convert s d x =>
    obtain ⟨i0, hi0, h⟩ := (tK_iff _ _ _).1 h
    have := evK_iff hr h
    obtain ⟨ds, hds⟩ := (hT _ _ hi0).some
    cases hc : a.eval x <;> simp only [hc, convK] at this
    case int k n =>
      obtain ⟨i, hi, h2⟩ := (tK_iff _ _ _).1 this
      cases hk : i.k <;> simp only [hk] at h2
      case int k' =>
        have hok := (hT _ _ hi).2
        rw [hk] at hok
        exact ⟨_, h2.out, fun w => by simp [execOp, hc, convert, run_underlying hds, run_underlying (show P.underlying d = some (.int k') from hok), Conv.intToInt]⟩
    case string b =>
      obtain ⟨i, hi, h2⟩ := (tK_iff _ _ _).1 this
      cases hk : i.k <;> simp only [hk] at h2
      case str =>
        have hok := (hT _ _ hi).2
        rw [hk] at hok
        exact ⟨_, h2, fun w => by simp [execOp, hc, convert, run_underlying hds, run_underlying (show P.underlying d = some .string from hok)]⟩
  case fieldAddr s x f =>
    obtain ⟨i, hi, h2⟩ := (tK_iff _ _ _).1 h
    cases hk : i.k <;> simp only [hk] at h2
    case struct fs =>
      obtain ⟨o, sz, hf, h3⟩ := (offK_iff _ _ _).1 h2
      cases sz with
      | zero => exact h3.elim
      | succ sz =>
        simp only at h3
        have h4 := evK_iff hr h3
        have hok := (hT _ _ hi).2
        rw [hk] at hok
        obtain ⟨d, hd, hm⟩ := hok
        have hlen : d.size = fs.length := by have := congrArg List.length hm; simpa using this
        have hfl : f < fs.length := (List.getElem?_eq_some_iff.1 hf).1
        have hdf : f < d.size := by omega
        have hm2 : (d[f].offset, (P.info? d[f].type).map (·.size)) = (o, some (sz + 1)) := by
          have h5 := congrArg (fun l => l[f]?) hm
          simpa [hf, hdf] using h5
        simp only [Prod.mk.injEq] at hm2
        obtain ⟨ho, hsz⟩ := hm2
        cases hc : a.eval x <;> simp only [hc] at h4
        case pointer p =>
          rcases p with _ | ⟨b, off, _ | sp⟩
          · exact h4.elim
          rotate_left
          · exact h4.elim
          refine ⟨_, h4, fun w => ?_⟩
          cases hinf : P.info? d[f].type with
          | none => rw [hinf] at hsz; simp at hsz
          | some inf =>
            rw [hinf] at hsz
            have hs1 : inf.size = sz + 1 := by simpa using hsz
            simp [execOp, hc, Instr.fieldAt, run_underlying hd, hdf, Instr.sureAddr, fieldPlace, sizeOf, typeInfo, hinf, hs1, ho, Addr.add_eq]
  case indexAddr t x ix =>
    obtain ⟨i, hi, h2⟩ := (tK_iff _ _ _).1 h
    have hok := (hT _ _ hi).2
    cases hk : i.k <;> simp only [hk] at h2 hok
    case slice el sz =>
      have h4 := evK_iff hr (evK_iff hr h2)
      obtain ⟨hu, hs⟩ := hok
      cases hinf : P.info? el with
      | none => rw [hinf] at hs; simp at hs
      | some inf =>
        rw [hinf] at hs
        have hs1 : inf.size = sz := by simpa using hs
        cases hc : a.eval x <;> simp only [hc] at h4
        case slice p len cap =>
          rcases p with _ | ⟨b, off, _ | sp⟩
          · exact h4.elim
          rotate_left
          · exact h4.elim
          cases hj : a.eval ix <;> simp only [hj] at h4
          case int k j =>
            exact ⟨_, h4.2, fun w => by simp [execOp, hc, hj, Instr.indexAt, run_underlying hu, asIntOf, h4.1, sizeOf, typeInfo, hinf, hs1, Addr.add_eq]⟩
    case arr n el sz =>
      have h4 := evK_iff hr (evK_iff hr h2)
      obtain ⟨hu, hs⟩ := hok
      cases hinf : P.info? el with
      | none => rw [hinf] at hs; simp at hs
      | some inf =>
        rw [hinf] at hs
        have hs1 : inf.size = sz := by simpa using hs
        cases hc : a.eval x <;> simp only [hc] at h4
        case pointer p =>
          rcases p with _ | ⟨b, off, _ | sp⟩
          · exact h4.elim
          rotate_left
          · exact h4.elim
          cases hj : a.eval ix <;> simp only [hj] at h4
          case int k j =>
            exact ⟨_, h4.2, fun w => by simp [execOp, hc, hj, Instr.indexAt, run_underlying hu, Instr.sureAddr, asIntOf, h4.1, sizeOf, typeInfo, hinf, hs1, Addr.add_eq]⟩
  case index t x ix =>
    obtain ⟨i, hi, h2⟩ := (tK_iff _ _ _).1 h
    have hok := (hT _ _ hi).2
    cases hk : i.k <;> simp only [hk] at h2 hok
    case str =>
      have h4 := evK_iff hr (evK_iff hr h2)
      cases hc : a.eval x <;> simp only [hc] at h4
      case string s =>
        obtain ⟨⟨l⟩⟩ := s
        cases hj : a.eval ix <;> simp only [hj] at h4
        case int k j =>
          obtain ⟨h41, h42⟩ := h4
          have hb : j.toNat < l.length := by omega
          refine ⟨_, h42, fun w => ?_⟩
          have hg : (ByteArray.mk ⟨l⟩)[j.toNat]? = some (l.getD j.toNat 0) := by
            rw [getElem?_pos _ _ (by simpa [ByteArray.size] using hb)]; simp [hb]; rfl
          simp [execOp, hc, hj, Instr.index, run_underlying hok, asIntOf, h41.1, hg]
    case arr n el sz =>
      obtain ⟨v, hrun, hv⟩ := (evK_iff hr (evK_iff hr h2)).out
      exact ⟨v, hv, fun w => by simp [execOp, hrun w]⟩

/-! ## Reading operations: the world stays, the value is one in every world of a class C -/
structure LdC (C : World → Prop) (a : Addr) (K : Value → Prop) : Prop where
  out : ∃ v, (∀ w, C w → w.cell? a = some v) ∧ K v
structure LdN (C : World → Prop) (n b off : Nat) (K : List Value → Prop) : Prop where
  out : ∃ cs : List Value, cs.length = n ∧ (∀ w, C w → ∀ j v, cs[j]? = some v → w.cell? ⟨b, off + j, none⟩ = some v) ∧ K cs
structure RdG (P : Program) (s : Sem Value) (C : World → Prop) (K : Value → Prop) : Prop where
  out : ∃ v, (∀ w, C w → s.run P w = .ok v w) ∧ K v

/-- 's[lo:hi]' of a slice: the address of what is left. -/
def subA (b off lo cap esz : Nat) : Option Addr := some (if cap = lo then ⟨b, off, none⟩ else ⟨b, off + lo * esz, none⟩)

theorem subA_zero (b off cap esz : Nat) : subA b off 0 cap esz = some ⟨b, off, none⟩ := by unfold subA; split <;> simp
def opK (e : Env) : Option Operand → (Option Value → Prop) → Prop
  | none, K => K none
  | some x, K => evK e x fun v => K (some v)
theorem opK_iff {N : Nat} {e : Env} {a : Act} (h : Rel N e a) {x : Option Operand} {K : Option Value → Prop} (hk : opK e x K) : K (x.map a.eval) := by
  cases x with
  | none => exact hk
  | some x => exact evK_iff (K := fun v => K (some v)) h hk

def sliceStr (l : List UInt8) (lo hi : Option Value) (K : Value → Prop) : Prop :=
  match lo, hi with
  | none, none => K (Str l)
  | some (.int _ i), none => Chk (0 ≤ i ∧ i ≤ l.length) (K (Str (l.drop i.toNat)))
  | none, some (.int _ j) => Chk (0 ≤ j ∧ j ≤ l.length) (K (Str (l.take j.toNat)))
  | some (.int _ i), some (.int _ j) => Chk (0 ≤ i ∧ i ≤ j ∧ j ≤ l.length) (K (Str ((l.take j.toNat).drop i.toNat)))
  | _, _ => False
def sliceSl (b off len cap esz : Nat) (lo hi : Option Value) (K : Value → Prop) : Prop :=
  match lo, hi with
  | none, none => K (.slice (some ⟨b, off, none⟩) len cap)
  | some (.int _ i), none => Chk (0 ≤ i ∧ i ≤ len) (K (.slice (subA b off i.toNat cap esz) (len - i.toNat) (cap - i.toNat)))
  | none, some (.int _ j) => Chk (0 ≤ j ∧ j ≤ cap) (K (.slice (some ⟨b, off, none⟩) j.toNat cap))
  | some (.int _ i), some (.int _ j) => Chk (0 ≤ i ∧ i ≤ j ∧ j ≤ cap) (K (.slice (subA b off i.toNat cap esz) (j.toNat - i.toNat) (cap - i.toNat)))
  | _, _ => False

/-- A slice of the nil slice. -/
def sliceNl (len cap : Nat) (lo hi : Option Value) (K : Value → Prop) : Prop :=
  match lo, hi with
  | none, none => K (.slice none len cap)
  | some (.int _ i), none => Chk (0 ≤ i ∧ i ≤ len) (K (.slice none (len - i.toNat) (cap - i.toNat)))
  | none, some (.int _ j) => Chk (0 ≤ j ∧ j ≤ cap) (K (.slice none j.toNat cap))
  | some (.int _ i), some (.int _ j) => Chk (0 ≤ i ∧ i ≤ j ∧ j ≤ cap) (K (.slice none (j.toNat - i.toNat) (cap - i.toNat)))
  | _, _ => False

def mnI (x y : Int) : Int := if y < x then y else x
def mxI (x y : Int) : Int := if x < y then y else x
/-- Builtins that only read. -/
def bltG (P : Program) (T : Tbl) (C : World → Prop) (b : Builtin) (ts : List TypeId) (ty : TypeId) (vs : List Value) (K : Value → Prop) : Prop :=
  match b, ts, vs with
  | .len, t :: _, [.string ⟨⟨l⟩⟩] => tK T t fun i => match i.k with | .str => K (.int .i64 l.length) | _ => False
  | .len, t :: _, [.slice _ n _] => tK T t fun i => match i.k with | .slice _ _ => K (.int .i64 n) | _ => False
  | .cap, t :: _, [.slice _ _ n] => tK T t fun i => match i.k with | .slice _ _ => K (.int .i64 n) | _ => False
  | .min, _, [.int k x, .int _ y] => K (.int k (if y < x then y else x))
  | .max, _, [.int k x, .int _ y] => K (.int k (if x < y then y else x))
  | .min, _, [.int k x, .int _ y, .int _ z] => K (.int k (mnI (mnI x y) z))
  | .max, _, [.int k x, .int _ y, .int _ z] => K (.int k (mxI (mxI x y) z))
  | .max, _, [.int k x, .int _ y, .int _ z, .int _ u] => K (.int k (mxI (mxI (mxI x y) z) u))
  | .max, _, [.int k x, .int _ y, .int _ z, .int _ u, .int _ v] => K (.int k (mxI (mxI (mxI (mxI x y) z) u) v))
  | .max, _, [.int k x, .int _ y, .int _ z, .int _ u, .int _ v, .int _ w] => K (.int k (mxI (mxI (mxI (mxI (mxI x y) z) u) v) w))
  | .len, ts, [.map m] => RdG P (Builtin.len_ ⟨ts⟩ ty #[.map m]) C K
  | _, _, _ => False

inductive OpKind where
  | pure | read | eff
  deriving DecidableEq
def kind (T : Tbl) : Op → OpKind
  | .convert s d _ => match tf T d, tf T s with | some { k := .int _, .. }, _ => .pure | some { k := .str, .. }, some { k := .str, .. } => .pure | some { k := .str, .. }, some { k := .slice .., .. } => .read | some { k := .str, .. }, some { k := .int _, .. } => .read | _, _ => .eff
  | .move _ | .assign _ | .pick .. | .binOp .. | .unOp .. | .nilCheck _ | .extract .. | .fieldAddr .. | .indexAddr .. | .index .. | .makeInterface .. => .pure
  | .load .. | .slice .. | .lookup .. | .build .. | .field .. => .read
  | .call { callee := .builtin b, .. } => match b with | .len | .cap | .min | .max => .read | _ => .eff
  | _ => .eff

/-! ### Struct values -/
def partsK (e : Env) : List (Nat × Operand) → (List (Nat × Value) → Prop) → Prop
  | [], K => K []
  | (i, x) :: r, K => evK e x fun v => partsK e r fun vs => K ((i, v) :: vs)
theorem partsK_iff {N : Nat} {e : Env} {a : Act} (h : Rel N e a) : ∀ {xs : List (Nat × Operand)} {K : List (Nat × Value) → Prop}, partsK e xs K → K (xs.map fun (i, x) => (i, a.eval x))
  | [], _, hk => hk
  | (i, x) :: xs, K, hk => by
    have h1 := evK_iff h hk
    exact partsK_iff (xs := xs) (K := fun vs => K ((i, a.eval x) :: vs)) h h1

/-- cells off, off+1, .. become vs -/
def putK : List Value → Nat → List Value → (List Value → Prop) → Prop
  | l, _, [], K => K l
  | [], _, _ :: _, _ => False
  | _ :: t, 0, v :: vs, K => putK t 0 vs fun r => K (v :: r)
  | x :: t, n + 1, v :: vs, K => putK t n (v :: vs) fun r => K (x :: r)
def splice (l : List Value) (off : Nat) (vs : List Value) : List Value := l.take off ++ vs ++ l.drop (off + vs.length)
theorem putK_iff : ∀ (l : List Value) (off : Nat) (vs : List Value) (K : List Value → Prop), putK l off vs K → (off + vs.length ≤ l.length ∨ vs = []) ∧ K (splice l off vs)
  | l, off, [], K, h => by
    refine ⟨.inr rfl, ?_⟩
    have : putK l off [] K = K l := by cases l <;> rfl
    rw [this] at h
    simpa [splice] using h
  | [], _, _ :: _, K, h => h.elim
  | x :: t, 0, v :: vs, K, h => by
    obtain ⟨h1, h2⟩ := putK_iff t 0 vs _ h
    refine ⟨.inl ?_, ?_⟩
    · rcases h1 with h1 | rfl <;> simp at * <;> omega
    · simpa [splice, Nat.add_comm] using h2
  | x :: t, n + 1, v :: vs, K, h => by
    obtain ⟨h1, h2⟩ := putK_iff t n (v :: vs) _ h
    refine ⟨.inl ?_, ?_⟩
    · rcases h1 with h1 | h1 <;> simp at * <;> omega
    · have e : splice (x :: t) (n + 1) (v :: vs) = x :: splice t n (v :: vs) := by
        unfold splice
        rw [show n + 1 + (v :: vs).length = (n + (v :: vs).length) + 1 by omega]
        rfl
      rw [e]; exact h2

def cellsK (v : Value) (K : List Value → Prop) : Prop := match v with | .agg ⟨l⟩ => K l | v => K [v]
theorem cellsK_iff {v : Value} {K : List Value → Prop} (h : cellsK v K) : K v.cells.toList := by
  cases v <;> exact h

def fillK (place : Nat → Option (Nat × Nat)) : List Value → List (Nat × Value) → (List Value → Prop) → Prop
  | cs, [], K => K cs
  | cs, (i, v) :: r, K => match place i with
    | some (off, size) => cellsK v fun l => match Nat.beq l.length size, l with
      | true, _ :: _ => putK cs off l fun cs' => fillK place cs' r K
      | _, _ => False
    | none => False
theorem foldl_setIf (l : List Value) : ∀ (cs : List Value) (off : Nat), off + l.length ≤ cs.length →
    ((l.zipIdx).foldl (fun (cs : Array Value) (x : Value × Nat) => cs.setIfInBounds (off + x.2) x.1) ⟨cs⟩) = ⟨splice cs off l⟩ := by
  suffices H : ∀ (l : List Value) (k : Nat) (cs : List Value) (off : Nat), off + k + l.length ≤ cs.length →
      ((l.zipIdx k).foldl (fun (cs : Array Value) (x : Value × Nat) => cs.setIfInBounds (off + x.2) x.1) ⟨cs⟩) = ⟨splice cs (off + k) l⟩ from fun cs off h => by simpa using H l 0 cs off (by simpa using h)
  intro l
  induction l with
  | nil => intro k cs off h; simp [splice]
  | cons v l ih =>
    intro k cs off h
    simp only [List.zipIdx_cons, List.foldl_cons, List.length_cons] at h ⊢
    have : (Array.mk cs).setIfInBounds (off + k) v = ⟨cs.set (off + k) v⟩ := by simp
    rw [this, ih (k + 1) _ off (by simp; omega)]
    congr 1
    unfold splice
    have e1 : off + (k + 1) = (off + k) + 1 := by omega
    rw [e1, List.take_set, List.drop_set]
    rw [if_pos (by omega)]
    rw [List.take_succ_eq_append_getElem (by omega)]
    rw [List.set_append_right _ _ (by simp; omega)]
    simp only [List.length_take, List.length_cons]
    rw [show off + k - min (off + k) cs.length = 0 by omega]
    simp [Nat.add_assoc, Nat.add_comm, Nat.add_left_comm]
theorem fillK_iff (place : Nat → Option (Nat × Nat)) : ∀ (ps : List (Nat × Value)) (cs : List Value) (K : List Value → Prop), fillK place cs ps K →
    ∃ cs', Instr.fill place ⟨cs⟩ ps = some ⟨cs'⟩ ∧ K cs'
  | [], cs, K, h => ⟨cs, rfl, h⟩
  | (i, v) :: r, cs, K, h => by
    simp only [fillK] at h
    cases hp : place i with
    | none => simp [hp] at h
    | some x =>
      obtain ⟨off, size⟩ := x
      simp only [hp] at h
      have h1 := cellsK_iff h
      cases hb : Nat.beq v.cells.toList.length size with
      | false => simp only [hb] at h1
      | true =>
        have hsz := Nat.eq_of_beq_eq_true hb
        rw [hb] at h1
        cases hl : v.cells.toList with
        | nil => simp only [hl] at h1
        | cons x xs =>
          simp only [hl] at h1
          rw [← hl] at h1
          obtain ⟨h2, h3⟩ := putK_iff _ _ _ _ h1
          have h4 : off + v.cells.toList.length ≤ cs.length := by
            rcases h2 with h2 | h2
            · exact h2
            · rw [hl] at h2; cases h2
          obtain ⟨cs', h5, h6⟩ := fillK_iff place r _ K h3
          refine ⟨cs', ?_, h6⟩
          have hs2 : v.cells.size = size := by simpa using hsz
          have hf := foldl_setIf v.cells.toList cs off h4
          have hz : v.cells.zipIdx.foldl (fun (cs : Array Value) (x : Value × Nat) => cs.setIfInBounds (off + x.2) x.1) ⟨cs⟩ = ⟨splice cs off v.cells.toList⟩ := by
            rw [← hf, ← Array.foldl_toList]; simp
          simp only [Instr.fill, hp]
          rw [if_neg (by simp only [hs2, List.size_toArray, ne_eq, not_true_eq_false]; simp at h4; simp; omega)]
          refine Eq.trans (congrArg (fun z => Instr.fill place z r) ?_) h5
          exact hz

theorem places_of (P : Program) : ∀ (d : List Field) (fs : List (Nat × Nat)), d.map (fun f => (f.offset, (P.info? f.type).map (·.size))) = fs.map (fun x => (x.1, some x.2)) →
    d.mapM (fun f => (P.info? f.type).map fun i => (f.offset, i.size)) = some fs
  | [], [], _ => rfl
  | [], _ :: _, h => by simp at h
  | _ :: _, [], h => by simp at h
  | f :: d, (o, sz) :: fs, h => by
    simp only [List.map_cons, List.cons.injEq, Prod.mk.injEq] at h
    obtain ⟨⟨h1, h2⟩, h3⟩ := h
    have ih := places_of P d fs h3
    simp only [List.mapM_cons, ih]
    cases hi : P.info? f.type with
    | none => rw [hi] at h2; simp at h2
    | some i => rw [hi] at h2; simp at h2; simp [h1, h2]

/-- An operation that only reads: one value in every world of C. -/
def readG (P : Program) (T : Tbl) (e : Env) (C : World → Prop) (o : Oper) (K : Value → Prop) : Prop :=
  match o.op with
  | .load t x => tK T t fun i => evK e x fun a => match a with
    | .pointer (some ⟨b, off, none⟩) => (match i.agg with | false => LdC C ⟨b, off, none⟩ K | true => LdN C i.size b off fun cs => K (.agg ⟨cs⟩))
    | _ => False
  | .slice t x lo hi none => tK T t fun i => evK e x fun a => opK e lo fun lo => opK e hi fun hi => match i.k, a with
    | .str, .string ⟨⟨l⟩⟩ => sliceStr l lo hi K
    | .slice _ esz, .slice (some ⟨b, off, none⟩) len cap => sliceSl b off len cap esz lo hi K
    | .slice _ _, .slice none len cap => sliceNl len cap lo hi K
    | .arr _ _ _, a => RdG P (Instr.sliceAt t a lo hi none) C K
    | _, _ => False
  | .lookup t m k ok => evK e m fun m => evK e k fun k => RdG P (Instr.lookup t m k ok) C K
  | .field t x f => evK e x fun v => RdG P (Instr.field t v f) C K
  | .convert s d x => evK e x fun v => RdG P (convert s d v) C K
  | .build t parts => tK T t fun i => cellsK i.zero fun z => partsK e parts.toList fun ps => match i.k with
    | .struct fs => fillK (fun n => fs[n]?) z ps fun cs => K (.agg ⟨cs⟩)
    | .arr _ _ esz => fillK (fun n => some (n * esz, esz)) z ps fun cs => K (.agg ⟨cs⟩)
    | _ => False
  | .call { callee := .builtin b, args, argTypes } => evsK e args.toList fun vs => bltG P T C b argTypes.toList o.type vs K
  | _ => False

theorem load_one {P : Program} {T : Tbl} (hT : TOk P T) {t : TypeId} {i : TI} (hi : tf T t = some i) (ha : i.agg = false) (w : World) : (isAgg t).run P w = .ok false w := by
  have hok := (hT _ _ hi).2
  unfold TI.agg at ha
  unfold isAgg
  cases hk : i.k <;> simp only [hk, TK.ok] at hok ha
  case int => simp [run_underlying hok]
  case bool => simp [run_underlying hok]
  case str => simp [run_underlying hok]
  case ptr => simp [run_underlying hok]
  case slice => simp [run_underlying hok.1]
  case map => simp [run_underlying hok]
  case iface => obtain ⟨_, hok⟩ := hok; simp [run_underlying hok]
  case fn => obtain ⟨_, _, _, hok⟩ := hok; simp [run_underlying hok]
  all_goals simp at ha
theorem load_agg {P : Program} {T : Tbl} (hT : TOk P T) {t : TypeId} {i : TI} (hi : tf T t = some i) (ha : i.agg = true) (w : World) : (isAgg t).run P w = .ok true w := by
  have hok := (hT _ _ hi).2
  unfold TI.agg at ha
  unfold isAgg
  cases hk : i.k <;> simp only [hk, TK.ok] at hok ha
  case struct => obtain ⟨_, hok, _⟩ := hok; simp [run_underlying hok]
  case arr => simp [run_underlying hok.1]
  all_goals simp at ha
theorem size_of {P : Program} {T : Tbl} (hT : TOk P T) {t : TypeId} {i : TI} (hi : tf T t = some i) (w : World) : (sizeOf t).run P w = .ok i.size w := by
  have hok := (hT _ _ hi).1
  cases hinf : P.info? t with
  | none => rw [hinf] at hok; simp at hok
  | some inf => rw [hinf] at hok; simp at hok; simp [sizeOf, typeInfo, hinf, hok]
theorem zero_of {P : Program} {T : Tbl} (hT : TOk P T) {t : TypeId} {i : TI} (hi : tf T t = some i) (w : World) : (zeroValue t).run P w = .ok i.zero w := by
  have hok := (hT _ _ hi).1
  cases hinf : P.info? t with
  | none => rw [hinf] at hok; simp at hok
  | some inf => rw [hinf] at hok; simp at hok; simp [zeroValue, typeInfo, hinf, hok]

theorem loadCells_of (P : Program) (w : World) (b off : Nat) (cs : List Value) (h : ∀ j v, cs[j]? = some v → w.cell? ⟨b, off + j, none⟩ = some v) :
    (loadCells ⟨b, off, none⟩ cs.length).run P w = .ok ⟨cs⟩ w := by
  have := run_loadCells_list (P := P) (w := w) ⟨b, off, none⟩ cs (fun j v hv => by rw [Addr.add_eq]; exact h j v hv)
  simpa using this

theorem bltG_sound {P : Program} {T : Tbl} (hT : TOk P T) {C : World → Prop} {b : Builtin} {ts : List TypeId} {ty : TypeId} {vs : List Value} {cs : Array Bool} {K : Value → Prop}
    (h : bltG P T C b ts ty vs K) : ∃ v, K v ∧ ∀ w, C w → (builtin b ⟨ts⟩ ty cs ⟨vs⟩).run P w = .ok (.value v) w := by
  unfold bltG at h
  split at h
  · rename_i t _ l
    obtain ⟨i, hi, h⟩ := (tK_iff _ _ _).1 h
    have hok := (hT _ _ hi).2
    cases hk : i.k <;> simp only [hk] at h hok
    case str => exact ⟨_, h, fun w _ => by simp [builtin, Builtin.len_, run_underlying (show P.underlying t = some .string from hok)]; rfl⟩
  · rename_i t _ a n c
    obtain ⟨i, hi, h⟩ := (tK_iff _ _ _).1 h
    have hok := (hT _ _ hi).2
    cases hk : i.k <;> simp only [hk] at h hok
    case slice e esz => exact ⟨_, h, fun w _ => by simp [builtin, Builtin.len_, run_underlying hok.1, goInt]⟩
  · rename_i t _ a c n
    obtain ⟨i, hi, h⟩ := (tK_iff _ _ _).1 h
    have hok := (hT _ _ hi).2
    cases hk : i.k <;> simp only [hk] at h hok
    case slice e esz => exact ⟨_, h, fun w _ => by simp [builtin, Builtin.cap_, run_underlying hok.1, goInt]⟩
  · exact ⟨_, h, fun w _ => by simp [builtin, Builtin.min_, Builtin.min2]⟩
  · exact ⟨_, h, fun w _ => by simp [builtin, Builtin.max_, Builtin.max2]⟩
  · exact ⟨_, h, fun w _ => by simp [builtin, Builtin.min_, Builtin.min2]; rfl⟩
  · exact ⟨_, h, fun w _ => by simp [builtin, Builtin.max_, Builtin.max2]; rfl⟩
  · exact ⟨_, h, fun w _ => by simp [builtin, Builtin.max_, Builtin.max2]; rfl⟩
  · exact ⟨_, h, fun w _ => by simp [builtin, Builtin.max_, Builtin.max2]; rfl⟩
  · exact ⟨_, h, fun w _ => by simp [builtin, Builtin.max_, Builtin.max2]; rfl⟩
  · obtain ⟨v, h1, h2⟩ := h.out
    exact ⟨v, h2, fun w hw => by simp [builtin, h1 w hw]⟩
  · exact h.elim

theorem readG_sound {P : Program} {T : Tbl} (hT : TOk P T) {N : Nat} {e : Env} {a : Act} (hr : Rel N e a) {o : Oper} {C : World → Prop} {K : Value → Prop} (h : readG P T e C o K) :
    ∃ v, K v ∧ ∀ w, C w → (execOp a.eval o).run P w = .ok (.value v) w := by
  obtain ⟨dst, op, ty, pos, after, guard⟩ := o
  cases op <;> simp only [readG] at h
  case load t x =>
    obtain ⟨i, hi, h⟩ := (tK_iff _ _ _).1 h
    have h := evK_iff hr h
    cases hc : a.eval x <;> simp only [hc] at h
    case pointer p =>
      rcases p with _ | ⟨b, off, _ | sp⟩
      · exact h.elim
      rotate_left
      · exact h.elim
      simp only at h
      cases hagg : i.agg <;> simp only [hagg] at h
      case false =>
        obtain ⟨v, h1, h2⟩ := h.out
        exact ⟨v, h2, fun w hw => by simp [execOp, hc, Instr.loadAt, Instr.sureAddr, loadVar, load_one hT hi hagg, run_load, h1 w hw]⟩
      case true =>
        obtain ⟨cs, h1, h2, h3⟩ := h.out
        refine ⟨_, h3, fun w hw => ?_⟩
        have := loadCells_of P w b off cs (h2 w hw)
        rw [h1] at this
        simp [execOp, hc, Instr.loadAt, Instr.sureAddr, loadVar, load_agg hT hi hagg, size_of hT hi, this]
  case slice t x lo hi mx =>
    cases mx with
    | some mx => exact h.elim
    | none =>
      simp only at h
      obtain ⟨i, hi', h⟩ := (tK_iff _ _ _).1 h
      have hok := (hT _ _ hi').2
      have h := opK_iff hr (opK_iff hr (evK_iff hr h))
      cases hk : i.k <;> simp only [hk] at h hok
      case arr n el esz =>
        obtain ⟨v, h1, h2⟩ := RdG.out h
        exact ⟨v, h2, fun w hw => by simp [execOp, h1 w hw]⟩
      case str =>
        cases hc : a.eval x <;> simp only [hc] at h
        case string s =>
          obtain ⟨⟨l⟩⟩ := s
          simp only at h
          have hu : P.underlying t = some .string := hok
          have hsz : (ByteArray.mk ⟨l⟩).size = l.length := rfl
          suffices hs : ∃ v, K v ∧ ∀ w, (Instr.slice t (.string ⟨⟨l⟩⟩) (lo.map a.eval) (hi.map a.eval) none).run P w = .ok v w from (by
            obtain ⟨v, h1, h2⟩ := hs
            exact ⟨v, h1, fun w _ => by simp [execOp, hc, run_sliceAt_string w t _ _ _ _ hu, h2]⟩)
          generalize lo.map a.eval = lo at h ⊢
          generalize hi.map a.eval = hi at h ⊢
          rcases lo with _ | lo <;> rcases hi with _ | hi
          · simp only [sliceStr] at h
            refine ⟨_, h, fun w => ?_⟩
            rw [run_slice_string_all w t _ hu, bytes_extract, hsz]; simp
          · cases hi <;> simp only [sliceStr] at h
            case none.some.int k j =>
              obtain ⟨h0, h⟩ := h
              refine ⟨_, h, fun w => ?_⟩
              rw [run_slice_string_h w t _ hu k j (by omega) (by rw [hsz]; omega), bytes_extract]; simp
          · cases lo <;> simp only [sliceStr] at h
            case some.none.int k i =>
              obtain ⟨h0, h⟩ := h
              refine ⟨_, h, fun w => ?_⟩
              rw [run_slice_string_l w t _ hu k i (by omega) (by rw [hsz]; omega), bytes_extract, hsz]; simp
          · cases lo <;> cases hi <;> simp only [sliceStr] at h
            case some.some.int.int k i k' j =>
              obtain ⟨h0, h⟩ := h
              refine ⟨_, h, fun w => ?_⟩
              rw [run_slice_string w t _ k k' i j hu (by omega) (by omega) (by rw [hsz]; omega), bytes_extract]
      case slice el esz =>
        cases hc : a.eval x <;> simp only [hc] at h
        case slice p len cap =>
          rcases p with _ | ⟨b, off, _ | sp⟩
          · simp only at h
            have hu0 : P.underlying t = some (.slice el) := hok.1
            have hel : P.elem t = el := by simp [Program.elem, hu0]
            have hu : P.underlying t = some (.slice (P.elem t)) := by rw [hel]; exact hu0
            have hsz : ∀ w, (sizeOf (P.elem t)).run P w = .ok esz w := fun w => by
              rw [hel]
              have := hok.2
              cases hinf : P.info? el with
              | none => rw [hinf] at this; simp at this
              | some inf => rw [hinf] at this; simp at this; simp [sizeOf, typeInfo, hinf, this]
            suffices hs : ∃ v, K v ∧ ∀ w, (Instr.slice t (.slice none len cap) (lo.map a.eval) (hi.map a.eval) none).run P w = .ok v w from (by
              obtain ⟨v, h1, h2⟩ := hs
              exact ⟨v, h1, fun w _ => by simp [execOp, hc, run_sliceAt_slice w t _ _ _ _ hu, h2]⟩)
            have hA : ∀ l : Nat, (if cap = l then (none : Option Addr) else (none : Option Addr).map (·.add (l * esz))) = none := fun l => by split <;> rfl
            generalize lo.map a.eval = lo at h ⊢
            generalize hi.map a.eval = hi at h ⊢
            rcases lo with _ | lo <;> rcases hi with _ | hi
            · simp only [sliceNl] at h
              refine ⟨_, h, fun w => ?_⟩
              rw [run_slice_all w t _ len cap hu]; simp only [hsz, Result.andThen_ok, sliced, hA, Nat.sub_zero]
            · cases hi <;> simp only [sliceNl] at h
              case none.some.int k j =>
                obtain ⟨h0, h⟩ := h
                refine ⟨_, h, fun w => ?_⟩
                rw [run_slice_h w t _ len cap hu k j (by omega) (by omega)]; simp only [hsz, Result.andThen_ok, sliced, hA, Nat.sub_zero]
            · cases lo <;> simp only [sliceNl] at h
              case some.none.int k i =>
                obtain ⟨h0, h⟩ := h
                refine ⟨_, h, fun w => ?_⟩
                rw [run_slice_l w t _ len cap hu k i (by omega) (by omega)]; simp only [hsz, Result.andThen_ok, sliced, hA]
            · cases lo <;> cases hi <;> simp only [sliceNl] at h
              case some.some.int.int k i k' j =>
                obtain ⟨h0, h⟩ := h
                refine ⟨_, h, fun w => ?_⟩
                rw [run_slice_lh w t _ len cap hu k k' i j (by omega) (by omega) (by omega)]; simp only [hsz, Result.andThen_ok, sliced, hA]
          rotate_left
          · exact h.elim
          simp only at h
          have hu0 : P.underlying t = some (.slice el) := hok.1
          have hel : P.elem t = el := by simp [Program.elem, hu0]
          have hu : P.underlying t = some (.slice (P.elem t)) := by rw [hel]; exact hu0
          have hsz : ∀ w, (sizeOf (P.elem t)).run P w = .ok esz w := fun w => by
            rw [hel]
            have := hok.2
            cases hinf : P.info? el with
            | none => rw [hinf] at this; simp at this
            | some inf => rw [hinf] at this; simp at this; simp [sizeOf, typeInfo, hinf, this]
          suffices hs : ∃ v, K v ∧ ∀ w, (Instr.slice t (.slice (some ⟨b, off, none⟩) len cap) (lo.map a.eval) (hi.map a.eval) none).run P w = .ok v w from (by
            obtain ⟨v, h1, h2⟩ := hs
            exact ⟨v, h1, fun w _ => by simp [execOp, hc, run_sliceAt_slice w t _ _ _ _ hu, h2]⟩)
          have hA : ∀ l : Nat, (if cap = l then some (⟨b, off, none⟩ : Addr) else (some (⟨b, off, none⟩ : Addr)).map (·.add (l * esz))) = subA b off l cap esz := fun l => by
            unfold subA; simp only [Option.map_some, Addr.add_eq]; split <;> rfl
          generalize lo.map a.eval = lo at h ⊢
          generalize hi.map a.eval = hi at h ⊢
          rcases lo with _ | lo <;> rcases hi with _ | hi
          · simp only [sliceSl] at h
            refine ⟨_, h, fun w => ?_⟩
            rw [run_slice_all w t _ len cap hu]; simp only [hsz, Result.andThen_ok, sliced, hA, Nat.sub_zero, subA_zero]
          · cases hi <;> simp only [sliceSl] at h
            case none.some.int k j =>
              obtain ⟨h0, h⟩ := h
              refine ⟨_, h, fun w => ?_⟩
              rw [run_slice_h w t _ len cap hu k j (by omega) (by omega)]; simp only [hsz, Result.andThen_ok, sliced, hA, Nat.sub_zero, subA_zero]
          · cases lo <;> simp only [sliceSl] at h
            case some.none.int k i =>
              obtain ⟨h0, h⟩ := h
              refine ⟨_, h, fun w => ?_⟩
              rw [run_slice_l w t _ len cap hu k i (by omega) (by omega)]; simp only [hsz, Result.andThen_ok, sliced, hA]
          · cases lo <;> cases hi <;> simp only [sliceSl] at h
            case some.some.int.int k i k' j =>
              obtain ⟨h0, h⟩ := h
              refine ⟨_, h, fun w => ?_⟩
              rw [run_slice_lh w t _ len cap hu k k' i j (by omega) (by omega) (by omega)]; simp only [hsz, Result.andThen_ok, sliced, hA]
  case lookup t m k ok =>
    obtain ⟨v, h1, h2⟩ := (evK_iff hr (evK_iff hr h)).out
    exact ⟨v, h2, fun w hw => by simp [execOp, h1 w hw]⟩
  case field t x f =>
    obtain ⟨v, h1, h2⟩ := (evK_iff hr h).out
    exact ⟨v, h2, fun w hw => by simp [execOp, h1 w hw]⟩
  case convert sT dT x =>
    obtain ⟨v, h1, h2⟩ := (evK_iff hr h).out
    exact ⟨v, h2, fun w hw => by simp [execOp, h1 w hw]⟩
  case build t parts =>
    obtain ⟨i, hi, h⟩ := (tK_iff _ _ _).1 h
    have h := partsK_iff hr (cellsK_iff h)
    have hok := (hT _ _ hi)
    have hp : (parts.map fun (i, x) => (i, a.eval x)).toList = parts.toList.map fun (i, x) => (i, a.eval x) := by simp
    cases hinf : P.info? t with
    | none => have := hok.1; rw [hinf] at this; simp at this
    | some inf =>
      have hz : inf.zero = some i.zero := by have := hok.1; rw [hinf] at this; simp at this; exact this.1
      have hok2 := hok.2
      cases hk : i.k <;> simp only [hk] at h hok2
      case struct fs =>
        obtain ⟨cs, h1, h2⟩ := fillK_iff _ _ _ _ h
        obtain ⟨d, hd, hm⟩ := hok2
        refine ⟨_, h2, fun w _ => ?_⟩
        have hb : P.built t (parts.map fun (i, x) => (i, a.eval x)).toList = some ⟨cs⟩ := by
          rw [hp]; unfold Program.built
          simp only [hinf, hd, hz, places_of P d.toList fs hm]
          simpa using h1
        simp [execOp, run_build w t _ _ hb]
      case arr n e esz =>
        obtain ⟨cs, h1, h2⟩ := fillK_iff _ _ _ _ h
        refine ⟨_, h2, fun w _ => ?_⟩
        have hie := hok2.2
        cases hinf2 : P.info? e with
        | none => rw [hinf2] at hie; simp at hie
        | some ie =>
          have hs : ie.size = esz := by rw [hinf2] at hie; simpa using hie
          have hb : P.built t (parts.map fun (i, x) => (i, a.eval x)).toList = some ⟨cs⟩ := by
            rw [hp]; unfold Program.built
            simp only [hinf, hok2.1, hz, hinf2, hs]
            simpa using h1
          simp [execOp, run_build w t _ _ hb]
  case call c =>
    obtain ⟨callee, args, argTypes⟩ := c
    cases callee with
    | value => exact h.elim
    | invoke => exact h.elim
    | builtin b =>
      obtain ⟨v, h1, h2⟩ := bltG_sound (cs := args.map fun | .const _ => true | _ => false) hT (evsK_iff hr h)
      refine ⟨v, h1, fun w hw => ?_⟩
      have := h2 w hw
      have e2 : (⟨List.map a.eval args.toList⟩ : Array Value) = args.map a.eval := by rw [← Array.toList_map]
      rw [e2] at this
      simp only [execOp, resolve, invoke, Sem.run_bind, Sem.run_pure, Result.andThen_ok]
      exact this

/-! ## Operations that change memory, and calls -/
structure AllG (w : World) (o : Obj) (K : Nat → World → Prop) : Prop where
  out : K w.heap.size (w.alloc o)
structure StG (w : World) (b off : Nat) (vs : List Value) (K : World → Prop) : Prop where
  out : ∃ l t fz, w.heap[b]? = some (.cells ⟨l⟩ t fz) ∧ (fz.2 ≤ off ∨ off + vs.length ≤ fz.1) ∧ off + vs.length ≤ l.length ∧ (∀ v ∈ vs, v.oneCell' = true) ∧ K (w.setRow b ⟨splice l off vs⟩)
/-- Cells are stored where none is frozen. -/
theorem run_storeCells_fz (P : Program) (g o : Nat) (t : TypeId) (fz : Nat × Nat) : ∀ (vs : List Value) (i : Nat) (cur : Array Value) (w : World), w.heap[g]? = some (.cells cur t fz) → (fz.2 ≤ o + i ∨ o + i + vs.length ≤ fz.1) → o + i + vs.length ≤ cur.size → (∀ v ∈ vs, v.oneCell' = true) →
    (storeCells ⟨g, o, none⟩ vs i).run P w = .ok () (w.setRow g (cur.toList.take (o + i) ++ vs ++ cur.toList.drop (o + i + vs.length)).toArray)
  | [], i, cur, w, hg, _, _, _ => by
    simp only [storeCells, List.append_nil, List.length_nil, Nat.add_zero, List.take_append_drop, Array.toArray_toList]
    rw [setRow_self w g cur t fz hg]
    rfl
  | v :: rest, i, cur, w, hg, hfz, hl, h1 => by
    have hi : o + i < cur.size := by simp at hl; omega
    have hadd : (⟨g, o, none⟩ : Addr).add i = ⟨g, o + i, none⟩ := by unfold Addr.add; split <;> simp_all
    have hcell : w.cell? ⟨g, o + i, none⟩ = some cur[o + i] := by simp [World.cell?, hg, hi]
    simp only [List.length_cons] at hfz hl
    have hfro : w.frozen? ⟨g, o + i, none⟩ = false := by
      obtain ⟨lo, hi'⟩ := fz
      simp only [World.frozen?, hg, Bool.and_eq_false_iff, decide_eq_false_iff_not]
      simp only at hfz
      omega
    have hst : (store ((⟨g, o, none⟩ : Addr).add i) v).run P w = .ok () (w.setRow g (cur.setIfInBounds (o + i) v)) := by
      rw [hadd, run_store P w _ v _ (h1 v (by simp)), hcell]
      simp [hfro, setCell_eq_setRow w g (o + i) cur t fz v hg]
    have ih := run_storeCells_fz P g o t fz rest (i + 1) (cur.setIfInBounds (o + i) v) (w.setRow g (cur.setIfInBounds (o + i) v)) (setRow_heap w g cur _ t _ hg) (by omega) (by simp at hl ⊢; omega) (fun x hx => h1 x (by simp [hx]))
    simp only [storeCells, Sem.run_bind, hst, Result.andThen_ok, ih, setRow_setRow]
    congr 3
    have e := list_seg_step cur.toList (o + i) v rest (by simp at hl ⊢; omega)
    simpa [Array.toList_setIfInBounds, Nat.add_assoc] using e
def replZ : Nat → List Value → List Value
  | 0, _ => []
  | n + 1, z => z ++ replZ n z
def forceL : List Value → (List Value → Prop) → Prop
  | [], K => K []
  | x :: t, K => forceL t fun r => K (x :: r)
theorem forceL_iff : ∀ (l : List Value) (K : List Value → Prop), forceL l K ↔ K l
  | [], _ => Iff.rfl
  | _ :: t, _ => forceL_iff t _

/-- A call of a function value. -/
def CallV (P : Program) (vf : Value) (vs : List Value) (w : World) (K : Value → World → Prop) : Prop :=
  match vf with
  | .func (.func f) ⟨[]⟩ ⟨[]⟩ => Cl P f vs w K
  | .func (.func f) ⟨first⟩ ⟨cap⟩ => Cl P f (first ++ vs ++ cap) w K
  | _ => False

/-- A call of a method through an interface value: the method found, and its contract. -/
structure InvG (P : Program) (t : TypeId) (x : Value) (name : String) (vs : List Value) (w : World) (K : Value → World → Prop) : Prop where
  out : ∃ f r, (method (P.types.size + Made.depth) t x name).run P w = .ok (f, r) w ∧ Cl P f (r :: vs) w K

def effBlt (P : Program) (b : Builtin) (ts : List TypeId) (ty : TypeId) (vs : List Value) (w : World) (K : Value → World → Prop) : Prop :=
  match b with
  | .append => RunG P (Builtin.append_ ⟨ts⟩ ty ⟨vs⟩) w K
  | .copy => RunG P (Builtin.copy_ ⟨ts⟩ ty ⟨vs⟩) w K
  | .delete => RunG P (Builtin.delete_ ⟨ts⟩ ty ⟨vs⟩) w K
  | .clear => RunG P (Builtin.clear_ ⟨ts⟩ ty ⟨vs⟩) w K
  | .unsafeSliceData => RunG P (Builtin.unsafeSliceData_ ⟨ts⟩ ty ⟨vs⟩) w K
  | .unsafeString => RunG P (Builtin.unsafeString_ ⟨ts⟩ ty ⟨vs⟩) w K
  | _ => False

def effG (P : Program) (T : Tbl) (e : Env) (o : Oper) (w : World) (K : Value → World → Prop) : Prop :=
  match o.op with
  | .alloc t => tK T t fun i => cellsK i.zero fun l => AllG w (.cells ⟨l⟩ t) fun b w' => K (.pointer (some ⟨b, 0, none⟩)) w'
  | .box t x => evK e x fun v => cellsK v fun l => AllG w (.cells ⟨l⟩ t) fun b w' => K (.pointer (some ⟨b, 0, none⟩)) w'
  | .buildSlice t len parts => tK T t fun i => match i.k with
    | .slice el esz => tK T el fun ie => cellsK ie.zero fun z => partsK e parts.toList fun ps => match Nat.beq z.length esz, Nat.ble (len * esz) 16777216 with
      | true, true => fillK (fun n => some (n * esz, esz)) (replZ len z) ps fun cs => forceL cs fun cs => AllG w (.cells ⟨cs⟩ el) fun b w' => K (.slice (some ⟨b, 0, none⟩) len len) w'
      | _, _ => False
    | _ => False
  | .store t x y => tK T t fun i => evK e x fun a => evK e y fun v => match a with
    | .pointer (some ⟨b, off, none⟩) => cellsK v fun vs => (match Nat.beq vs.length i.size with | true => StG w b off vs fun w' => K undef w' | false => False)
    | _ => False
  | .makeMap _ none => AllG w (.map #[] 0) fun b w' => K (.map (some b)) w'
  | .makeMap t (some r) => tK T t fun i => match i.k with
    | .map _ _ => evK e r fun v => (match v with | .int _ _ => AllG w (.map #[] 0) fun b w' => K (.map (some b)) w' | _ => False)
    | _ => False
  | .makeSlice t l c => evK e l fun l => evK e c fun c => RunG P (Instr.makeSlice t l c) w K
  | .mapUpdate t m k x => evK e m fun m => evK e k fun k => evK e x fun x => RunG P (Instr.mapUpdate t m k x) w fun _ w' => K undef w'
  | .insert t m k x => evK e m fun m => evK e k fun k => evK e x fun x => RunG P (Instr.mapUpdate t m k x) w fun _ w' => K undef w'
  | .convert s d x => evK e x fun x => RunG P (convert s d x) w K
  | .range t x => evK e x fun x => RunG P (Instr.range t x) w K
  | .next it s => evK e it fun it => RunG P (Instr.next it s o.type) w K
  | .entry it => evK e it fun it => RunG P (Instr.entry it) w K
  | .makeFunc fn first captured => evsK e first.toList fun f1 => evsK e captured.toList fun c1 => RunG P (Instr.makeFunc fn ⟨f1⟩ ⟨c1⟩) w K
  | .typeAssert x s d ok => evK e x fun x => RunG P (Instr.typeAssert x s d ok) w K
  | .call { callee := .invoke x name, args, .. } => evK e x fun v => evsK e args.toList fun vs => match v with | .iface t u => InvG P t u name vs w K | _ => False
  | .call { callee := .value f, args, .. } => evK e f fun vf => evsK e args.toList fun vs => CallV P vf vs w K
  | .call { callee := .builtin b, args, argTypes } => evsK e args.toList fun vs => effBlt P b argTypes.toList o.type vs w K
  | _ => False

theorem replZ_eq (z : List Value) : ∀ n, n * z.length = 0 ∨ (Array.range (n * z.length)).map (fun i => (⟨z⟩ : Array Value)[i % z.length]!) = ⟨replZ n z⟩ := by
  intro n
  by_cases hz : n * z.length = 0
  · exact .inl hz
  refine .inr ?_
  have hpos : 0 < z.length := by
    rcases Nat.eq_zero_or_pos z.length with h | h
    · rw [h] at hz; simp at hz
    · exact h
  apply Array.ext'
  simp only [Array.toList_map, Array.toList_range]
  clear hz
  induction n with
  | zero => simp [replZ]
  | succ n ih =>
    rw [show (n + 1) * z.length = z.length + n * z.length by rw [Nat.add_mul]; omega]
    rw [List.range_add, List.map_append, List.map_map]
    show _ = z ++ replZ n z
    congr 1
    · apply List.ext_getElem (by simp)
      intro i h1 h2
      simp at h1 h2
      simp [Nat.mod_eq_of_lt h1, h1]
    · rw [← ih]
      apply List.map_congr_left
      intro i _
      simp [Function.comp]

theorem Oper.wp_value {P : Program} {o : Oper} {a : Act} {w w' : World} {next : Act → World → Prop} {Q : Exit → Act → World → Prop} {v : Value}
    (h : (execOp a.eval o).run P w = .ok (.value v) w') (hn : next (a.put o.dst v) w') : o.wp P a w next Q := by
  unfold Oper.wp; rw [h]; exact hn
theorem Oper.wp_skip {P : Program} {o : Oper} {a : Act} {w w' : World} {next : Act → World → Prop} {Q : Exit → Act → World → Prop}
    (h : (execOp a.eval o).run P w = .ok .skip w') (hn : next (a.put o.dst undef) w') : o.wp P a w next Q := by
  unfold Oper.wp; rw [h]; exact hn

theorem effG_sound {P : Program} {T : Tbl} (hT : TOk P T) {N : Nat} {e : Env} {a : Act} (hr : Rel N e a) {o : Oper} {w : World} {K : Value → World → Prop} (h : effG P T e o w K)
    {next : Act → World → Prop} {Q : Exit → Act → World → Prop} (hn : ∀ v w', K v w' → next (a.put o.dst v) w') : o.wp P a w next Q := by
  obtain ⟨dst, op, ty, pos, after, guard⟩ := o
  cases op <;> simp only [effG] at h
  case alloc t =>
    obtain ⟨i, hi, h⟩ := (tK_iff _ _ _).1 h
    have h := cellsK_iff h
    exact Oper.wp_value (by simp [execOp, Instr.alloc, zero_of hT hi, newVar, newRow]) (hn _ _ h.out)
  case box t x =>
    have h := cellsK_iff (evK_iff hr h)
    exact Oper.wp_value (by simp [execOp, Instr.box, newVar, newRow]) (hn _ _ h.out)
  case buildSlice t len parts =>
    obtain ⟨i, hi, h⟩ := (tK_iff _ _ _).1 h
    have hok := (hT _ _ hi).2
    cases hk : i.k <;> simp only [hk] at h hok
    case slice el esz =>
      obtain ⟨ie, hie, h⟩ := (tK_iff _ _ _).1 h
      have h := partsK_iff hr (cellsK_iff h)
      cases h1 : Nat.beq ie.zero.cells.toList.length esz <;> cases h2 : Nat.ble (len * esz) 16777216 <;> simp only [h1, h2] at h
      obtain ⟨cs, h3, h4⟩ := fillK_iff _ _ _ _ h
      have h4 := (forceL_iff _ _).1 h4
      have hz := Nat.eq_of_beq_eq_true h1
      have hb := Nat.le_of_ble_eq_true h2
      have hsz : ∀ w, (sizeOf el).run P w = .ok esz w := fun w => by
        have := hok.2
        cases hinf : P.info? el with
        | none => rw [hinf] at this; simp at this
        | some inf => rw [hinf] at this; simp at this; simp [sizeOf, typeInfo, hinf, this]
      refine Oper.wp_value ?_ (hn _ _ h4.out)
      have hp : (parts.map fun (i, x) => (i, a.eval x)).toList = parts.toList.map fun (i, x) => (i, a.eval x) := by simp
      have hfill : Instr.fill (fun n => some (n * esz, esz)) ((Array.range (len * esz)).map (fun i => (if len * esz = 0 then (#[] : Array Value) else ie.zero.cells)[i % (if len * esz = 0 then (#[] : Array Value) else ie.zero.cells).size]!)) ((parts.map fun (i, x) => (i, a.eval x)).toList) = some ⟨cs⟩ := by
        rw [hp, ← h3]
        congr 1
        by_cases h0 : len * esz = 0
        · simp only [h0, if_true]
          rcases Nat.mul_eq_zero.1 h0 with h | h
          · subst h; simp [replZ]
          · have hl : ie.zero.cells.toList = [] := by rw [← List.length_eq_zero_iff]; omega
            have : ∀ n, replZ n ie.zero.cells.toList = [] := fun n => by rw [hl]; induction n with | zero => rfl | succ n ih => simpa [replZ] using ih
            simp [this]
        · simp only [h0, if_false]
          rcases replZ_eq ie.zero.cells.toList len with h | h
          · rw [hz] at h; exact absurd h h0
          · rw [hz] at h
            rw [← h]
            have hs2 : ie.zero.cells.size = esz := by simpa using hz
            simp [hs2]
      simp only [execOp, Instr.buildSlice, Sem.run_bind, run_underlying hok.1, Result.andThen_ok, hsz]
      rw [if_neg (by omega)]
      by_cases h0 : len * esz = 0
      · simp only [h0, if_true] at hfill
        simp only [h0, if_true, Sem.run_bind, Sem.run_pure, Result.andThen_ok, hfill, newRow, run_newObj_alloc]
      · simp only [h0, if_false] at hfill
        simp only [h0, if_false, Sem.run_bind, Sem.run_pure, Result.andThen_ok, zero_of hT hie, hfill, newRow, run_newObj_alloc]
  case store t x y =>
    obtain ⟨i, hi, h⟩ := (tK_iff _ _ _).1 h
    have h := evK_iff hr (evK_iff hr h)
    cases hc : a.eval x <;> simp only [hc] at h
    case pointer p =>
      rcases p with _ | ⟨b, off, _ | sp⟩
      · exact h.elim
      rotate_left
      · exact h.elim
      simp only at h
      have h := cellsK_iff h
      cases h1 : Nat.beq (a.eval y).cells.toList.length i.size <;> simp only [h1] at h
      obtain ⟨l, t', fz, h2, hfz, h3, h4, h5⟩ := h.out
      have hz := Nat.eq_of_beq_eq_true h1
      have := run_storeCells_fz P b off t' fz (a.eval y).cells.toList 0 ⟨l⟩ w h2 (by simpa using hfz) (by simpa using h3) h4
      refine Oper.wp_skip ?_ (hn _ _ h5)
      have hz2 : (a.eval y).cells.size = i.size := by simpa using hz
      simp only [execOp, hc, Instr.storeAt, Instr.sureAddr, storeVar, Sem.run_bind, Sem.run_pure, Result.andThen_ok, size_of hT hi, hz2]
      simp only [ne_eq, not_true_eq_false, if_false]
      rw [this]
      simp only [Result.andThen_ok, splice, Nat.add_zero]
  case makeMap t r =>
    cases r with
    | none => exact Oper.wp_value (by simp [execOp, Instr.makeMap]) (hn _ _ (AllG.out h))
    | some r =>
      obtain ⟨i, hi, h⟩ := (tK_iff _ _ _).1 h
      have hok := (hT _ _ hi).2
      cases hk : i.k <;> simp only [hk] at h hok
      case map k e' =>
        have h := evK_iff hr h
        cases hc : a.eval r <;> simp only [hc] at h
        exact Oper.wp_value (by simp [execOp, Instr.makeMap, hc, run_underlying (show P.underlying t = some (.map k e') from hok), asInt, asIntOf]) (hn _ _ (AllG.out h))
  case makeSlice t l c =>
    obtain ⟨v, w', h1, h2⟩ := (evK_iff hr (evK_iff hr h)).out
    exact Oper.wp_value (by simp [execOp, h1]) (hn _ _ h2)
  case mapUpdate t m k x =>
    obtain ⟨v, w', h1, h2⟩ := (evK_iff hr (evK_iff hr (evK_iff hr h))).out
    exact Oper.wp_skip (by simp [execOp, h1]) (hn _ _ h2)
  case insert t m k x =>
    obtain ⟨v, w', h1, h2⟩ := (evK_iff hr (evK_iff hr (evK_iff hr h))).out
    exact Oper.wp_skip (by simp [execOp, h1]) (hn _ _ h2)
  case convert s d x =>
    obtain ⟨v, w', h1, h2⟩ := (evK_iff hr h).out
    exact Oper.wp_value (by simp [execOp, h1]) (hn _ _ h2)
  case range t x =>
    obtain ⟨v, w', h1, h2⟩ := (evK_iff hr h).out
    exact Oper.wp_value (by simp [execOp, h1]) (hn _ _ h2)
  case next it s =>
    obtain ⟨v, w', h1, h2⟩ := (evK_iff hr h).out
    exact Oper.wp_value (by simp [execOp, h1]) (hn _ _ h2)
  case entry it =>
    obtain ⟨v, w', h1, h2⟩ := (evK_iff hr h).out
    exact Oper.wp_value (by simp [execOp, h1]) (hn _ _ h2)
  case typeAssert x s d ok =>
    obtain ⟨v, w', h1, h2⟩ := (evK_iff hr h).out
    exact Oper.wp_value (by simp [execOp, h1]) (hn _ _ h2)
  case makeFunc fn first captured =>
    obtain ⟨v, w', h1, h2⟩ := (evsK_iff hr (evsK_iff hr h)).out
    have e1 : (⟨List.map a.eval first.toList⟩ : Array Value) = first.map a.eval := by rw [← Array.toList_map]
    have e2 : (⟨List.map a.eval captured.toList⟩ : Array Value) = captured.map a.eval := by rw [← Array.toList_map]
    rw [e1, e2] at h1
    exact Oper.wp_value (by simp [execOp, h1]) (hn _ _ h2)
  case call c =>
    obtain ⟨callee, args, argTypes⟩ := c
    have e2 : (⟨List.map a.eval args.toList⟩ : Array Value) = args.map a.eval := by rw [← Array.toList_map]
    cases callee with
    | invoke x name =>
      have h := evsK_iff hr (evK_iff hr h)
      cases hx : a.eval x <;> simp only [hx] at h
      case iface t u =>
        obtain ⟨f, r, h1, h⟩ := h.out
        have harr : (#[r] : Array Value) ++ (#[Value.iface t u] ++ args.map a.eval).extract 1 (#[Value.iface t u] ++ args.map a.eval).size = ⟨r :: List.map a.eval args.toList⟩ := by
          have ext1 : ∀ {α : Type} (v : α) (A : Array α), (#[v] ++ A).extract 1 (#[v] ++ A).size = A := fun v A => by
            obtain ⟨l⟩ := A
            simp [List.extract_toArray, List.extract]
          rw [ext1]
          apply Array.ext'; simp
        have h0 : (#[Value.iface t u] ++ args.map a.eval)[0]? = some (Value.iface t u) := by rw [Array.getElem?_append_left (by simp)]; rfl
        unfold Oper.wp
        simp only [execOp, resolve, hx, Sem.run_bind, Sem.run_pure, Result.andThen_ok, invoke, h0, callMethod]
        have hp : (Go.program).run P w = .ok P w := rfl
        simp only [hp, Result.andThen_ok, h1, harr]
        rcases h with ⟨h1, h2⟩ | ⟨v, w', h1, h2⟩
        · rw [h1]
          refine Calls.mono h2 fun e' w'' ⟨v, he, hK⟩ => ?_
          subst he
          exact hn _ _ hK
        · rw [h1]
          exact hn _ _ h2
    | builtin b =>
      have h := evsK_iff hr h
      have key : ∀ s : Sem Value, (∀ cs, builtin b argTypes ty cs (args.map a.eval) = (do pure (.value (← s)))) → RunG P s w K → Oper.wp P ⟨dst, .call ⟨.builtin b, args, argTypes⟩, ty, pos, after, guard⟩ a w next Q := by
        intro s hs ⟨v, w', h1, h2⟩
        refine Oper.wp_value ?_ (hn _ _ h2)
        simp only [execOp, resolve, invoke, Sem.run_bind, Sem.run_pure, Result.andThen_ok]
        rw [hs]
        simp [h1]
      cases b <;> simp only [effBlt] at h
      all_goals first | exact h.elim | (rw [e2] at h; exact key _ (fun _ => rfl) h)
    | value f =>
      have h := evsK_iff hr (evK_iff hr h)
      cases hf : a.eval f <;> simp only [hf, CallV] at h
      case func fn first cap =>
        obtain ⟨first⟩ := first
        obtain ⟨cap⟩ := cap
        cases fn with
        | func g =>
          have h : Cl P g (first ++ List.map a.eval args.toList ++ cap) w K := by
            cases first <;> cases cap <;> simpa using h
          have harr : (⟨first⟩ : Array Value) ++ args.map a.eval ++ ⟨cap⟩ = ⟨first ++ List.map a.eval args.toList ++ cap⟩ := by
            apply Array.ext'; simp
          unfold Oper.wp
          simp only [execOp, resolve, hf, Deferred.ofValue, Sem.run_bind, Sem.run_pure, Result.andThen_ok, invoke]
          rcases h with ⟨h1, h2⟩ | ⟨v, w', h1, h2⟩
          · rw [harr, h1]
            refine Calls.mono h2 fun e' w'' ⟨v, he, hK⟩ => ?_
            subst he
            exact hn _ _ hK
          · rw [harr, h1]
            exact hn _ _ h2
        | _ => exact h.elim

/-! ## Statements -/
def putE (N : Nat) (dst : Option Tmp) (v : Value) (e : Env) (K : Env → Prop) : Prop :=
  match dst with
  | none => K e
  | some d => match Nat.ble (d + 1) N with | true => K ((d, v) :: e) | false => False
theorem putE_iff {N : Nat} {dst : Option Tmp} {v : Value} {e : Env} {K : Env → Prop} (h : putE N dst v e K) {a : Act} (hr : Rel N e a) : ∃ e', Rel N e' (a.put dst v) ∧ K e' := by
  cases dst with
  | none => exact ⟨e, hr, h⟩
  | some d =>
    simp only [putE] at h
    cases hb : Nat.ble (d + 1) N <;> simp only [hb] at h
    exact ⟨_, hr.put (Nat.le_of_ble_eq_true hb) v, h⟩

def stepG (P : Program) (T : Tbl) (N : Nat) (e : Env) (o : Oper) (w : World) (K : Env → World → Prop) : Prop :=
  match kind T o.op with
  | .pure => pureG P T e o.op fun v => putE N o.dst v e fun e' => K e' w
  | .read => readG P T e (fun w' => w = w') o fun v => putE N o.dst v e fun e' => K e' w
  | .eff => effG P T e o w fun v w' => putE N o.dst v e fun e' => K e' w'
theorem stepG_sound {P : Program} {T : Tbl} (hT : TOk P T) {N : Nat} {e : Env} {a : Act} (hr : Rel N e a) {o : Oper} {w : World} {K : Env → World → Prop} (h : stepG P T N e o w K)
    {next : Act → World → Prop} {Q : Exit → Act → World → Prop} (hn : ∀ e' a' w', K e' w' → Rel N e' a' → next a' w') : o.wp P a w next Q := by
  unfold stepG at h
  cases hk : kind T o.op <;> simp only [hk] at h
  case pure =>
    obtain ⟨v, h1, h2⟩ := pureG_sound hT hr h
    obtain ⟨e', h3, h4⟩ := putE_iff h1 hr
    exact Oper.wp_value (h2 w) (hn _ _ _ h4 h3)
  case read =>
    obtain ⟨v, h1, h2⟩ := readG_sound hT hr h
    obtain ⟨e', h3, h4⟩ := putE_iff h1 hr
    exact Oper.wp_value (h2 w rfl) (hn _ _ _ h4 h3)
  case eff =>
    refine effG_sound hT hr h fun v w' hk => ?_
    obtain ⟨e', h3, h4⟩ := putE_iff hk hr
    exact hn _ _ _ h4 h3

/-- The temporary of operation number j. -/
def gdK : List Oper → Nat → (Tmp → Prop) → Prop
  | [], _, _ => False
  | o :: _, 0, K => match o.dst with | some d => K d | none => False
  | _ :: t, n + 1, K => gdK t n K
theorem gdK_iff : ∀ {all : List Oper} {j : Nat} {K : Tmp → Prop}, gdK all j K → ∃ o d, all[j]? = some o ∧ o.dst = some d ∧ K d
  | [], _, _, h => h.elim
  | o :: t, 0, K, h => by
    simp only [gdK] at h
    cases hd : o.dst with
    | none => rw [hd] at h; exact h.elim
    | some d => rw [hd] at h; exact ⟨o, d, rfl, hd, h⟩
  | _ :: t, n + 1, K, h => by
    obtain ⟨o, d, h1, h2, h3⟩ := gdK_iff (all := t) (j := n) h
    exact ⟨o, d, by simpa using h1, h2, h3⟩

/-- An operation with its guard: 'yes' if it is wanted, 'no' if it is passed over; the guard's slot becomes the literal. -/
def grdG (all : List Oper) (g : Option (Nat × Bool)) (e : Env) (yes no : Env → Prop) : Prop :=
  match g with
  | none => yes e
  | some (j, want) => gdK all j fun d => lk e d fun v => match v with
    | .bool b => (match want with
      | true => BrG b (yes ((d, .bool true) :: e)) (no ((d, .bool false) :: e))
      | false => BrG b (no ((d, .bool true) :: e)) (yes ((d, .bool false) :: e)))
    | .tuple _ => no e
    | _ => False
theorem Rel.again {N : Nat} {e : Env} {a : Act} (h : Rel N e a) {d : Nat} {v : Value} (hd : lkv e d = some v) : Rel N ((d, v) :: e) a :=
  ⟨h.size, h.dz, fun n u hu => by
    rw [lkv_cons] at hu
    by_cases hdn : d = n
    · subst hdn; simp at hu; subst hu; exact h.get _ _ hd
    · rw [if_neg hdn] at hu; exact h.get n u hu⟩
theorem grdG_iff {all : List Oper} {o : Oper} {e : Env} {yes no : Env → Prop} {N : Nat} {a : Act} (hr : Rel N e a) (h : grdG all o.guard e yes no) :
    (∃ e', Rel N e' a ∧ Region.wanted o (yielded all.toArray a.tmps) = true ∧ yes e') ∨ (∃ e', Rel N e' a ∧ Region.wanted o (yielded all.toArray a.tmps) = false ∧ no e') := by
  unfold grdG at h
  cases hg : o.guard with
  | none => rw [hg] at h; exact .inl ⟨e, hr, by simp [Region.wanted, hg], h⟩
  | some p =>
    obtain ⟨j, want⟩ := p
    rw [hg] at h
    obtain ⟨oj, d, h1, h2, h3⟩ := gdK_iff h
    obtain ⟨v, h4, h5⟩ := (lk_iff _ _ _).1 h3
    have hget := hr.get d v h4
    have hy : yielded all.toArray a.tmps j = match v with | .bool b => some b | _ => none := by
      unfold yielded
      simp only [List.getElem?_toArray, h1, Option.bind_some, h2, hget]
      cases v <;> rfl
    cases v <;> simp only at h5
    case bool b =>
      cases want <;> cases b <;> simp only at h5
      · exact .inl ⟨_, hr.again h4, by simp [Region.wanted, hg, hy], h5.f' rfl⟩
      · exact .inr ⟨_, hr.again h4, by simp [Region.wanted, hg, hy], h5.t' rfl⟩
      · exact .inr ⟨_, hr.again h4, by simp [Region.wanted, hg, hy], h5.f' rfl⟩
      · exact .inl ⟨_, hr.again h4, by simp [Region.wanted, hg, hy], h5.t' rfl⟩
    case tuple vs => exact .inr ⟨e, hr, by simp [Region.wanted, hg, hy], h5⟩

def vcOps (P : Program) (T : Tbl) (N : Nat) (all : List Oper) : List Oper → Env → World → (Env → World → Prop) → Prop
  | [], e, w, K => K e w
  | o :: r, e, w, K => grdG all o.guard e (fun e => stepG P T N e o w fun e' w' => vcOps P T N all r e' w' K) (fun e => putE N o.dst undef e fun e' => vcOps P T N all r e' w K)
theorem vcOps_sound {P : Program} {T : Tbl} (hT : TOk P T) {N : Nat} {all : List Oper} {Q : Exit → Act → World → Prop} {K : Env → World → Prop}
    (hK : ∀ e' a' w', K e' w' → Rel N e' a' → Q .normal a' w') : ∀ (r : List Oper) (e : Env) (a : Act) (w : World), Rel N e a → vcOps P T N all r e w K → wpList P all.toArray Q r a w
  | [], e, a, w, hr, h => hK _ _ _ h hr
  | o :: r, e, a, w, hr, h => by
    simp only [vcOps] at h
    unfold wpList
    rcases grdG_iff hr h with ⟨e', h1, h2, h3⟩ | ⟨e', h1, h2, h3⟩
    · rw [if_pos h2]
      exact .inl (stepG_sound hT h1 h3 fun e' a' w' hv hr' => vcOps_sound hT hK r _ _ _ hr' hv)
    · rw [if_neg (by rw [h2]; simp)]
      obtain ⟨e'', h4, h5⟩ := putE_iff h3 h1
      exact vcOps_sound hT hK r _ _ _ h4 h5

/-- What is asked of an end, lifted to frames; no panic. -/
def lift (N : Nat) (Q : Exit → Env → World → Prop) : Exit → Act → World → Prop
  | .panic _, _, _ => False
  | .outgrown, _, _ => False
  | x, a, w => ∃ e, Rel N e a ∧ Q x e w
/-- The code, run from any frame that the environment describes, ends as Q says. -/
def SemW (P : Program) (N : Nat) (c : Code) (Q : Exit → Env → World → Prop) (e : Env) (w : World) : Prop := ∀ a, Rel N e a → c.wp P (lift N Q) a w

theorem SemW.mono {P : Program} {N : Nat} {c : Code} {Q Q' : Exit → Env → World → Prop} {e : Env} {w : World} (h : SemW P N c Q e w) (hq : ∀ x e w, Q x e w → Q' x e w) : SemW P N c Q' e w :=
  fun a hr => Code.wp_mono (fun x a w hl => by
    cases x <;> first | exact hl | (obtain ⟨e, h1, h2⟩ := hl; exact ⟨e, h1, hq _ _ _ h2⟩)) (h a hr)

def thenQ (K : Env → World → Prop) (Q : Exit → Env → World → Prop) : Exit → Env → World → Prop
  | .normal, e, w => K e w
  | x, e, w => Q x e w
def blkQ (id : Nat) (Q : Exit → Env → World → Prop) : Exit → Env → World → Prop
  | .exit id', e, w => (match Nat.beq id' id with | true => Q .normal e w | false => Q (.exit id') e w)
  | x, e, w => Q x e w

theorem SemW.seq {P : Program} {N : Nat} {x y : Code} {Q : Exit → Env → World → Prop} {e : Env} {w : World} (h : SemW P N x (thenQ (SemW P N y Q) Q) e w) : SemW P N (.seq x y) Q e w := by
  intro a hr
  refine wp_seq (Code.wp_mono (fun x a w hl => ?_) (h a hr))
  cases x
  case normal => obtain ⟨e, h1, h2⟩ := hl; exact h2 a h1
  all_goals exact hl
theorem SemW.block {P : Program} {N : Nat} {id : Nat} {c : Code} {Q : Exit → Env → World → Prop} {e : Env} {w : World} (h : SemW P N c (blkQ id Q) e w) : SemW P N (.block id c) Q e w := by
  intro a hr
  refine wp_block (Code.wp_mono (fun x a w hl => ?_) (h a hr))
  cases x
  case exit id' =>
    obtain ⟨e, h1, h2⟩ := hl
    simp only [blkQ] at h2
    simp only [Exit.inBlock]
    cases hb : Nat.beq id' id with
    | true => rw [hb] at h2; rw [if_pos (Nat.eq_of_beq_eq_true hb)]; exact ⟨e, h1, h2⟩
    | false =>
      rw [hb] at h2
      rw [if_neg (by intro he; subst he; simp at hb)]
      exact ⟨e, h1, h2⟩
  all_goals exact hl
theorem SemW.cond {P : Program} {N : Nat} {c : Operand} {x y : Code} {Q : Exit → Env → World → Prop} {e : Env} {w : World}
    (h : evK e c fun v => match v with | .bool t => BrG t (SemW P N x Q e w) (SemW P N y Q e w) | _ => False) : SemW P N (.cond c x y) Q e w := by
  intro a hr
  have h := evK_iff hr h
  cases hc : a.eval c <;> simp only [hc] at h
  case bool t => exact wp_cond_split hc (fun ht => h.t' ht a hr) (fun hf => h.f' hf a hr)

/-- Where the automatic step stands still: a loop, a region that draws its order. -/
structure StopW (P : Program) (N : Nat) (c : Code) (Q : Exit → Env → World → Prop) (e : Env) (w : World) : Prop where
  out : SemW P N c Q e w

def vc (P : Program) (T : Tbl) (N : Nat) : Code → (Exit → Env → World → Prop) → Env → World → Prop
  | .skip, Q, e, w => Q .normal e w
  | .ret, Q, e, w => Q .ret e w
  | .exit id, Q, e, w => Q (.exit id) e w
  | .region _ ops false, Q, e, w => vcOps P T N ops.toList ops.toList e w fun e' w' => Q .normal e' w'
  | .seq a b, Q, e, w => vc P T N a (thenQ (SemW P N b Q) Q) e w
  | .cond c a b, Q, e, w => evK e c fun v => match v with | .bool t => BrG t (vc P T N a Q e w) (vc P T N b Q e w) | _ => False
  | .block id c, Q, e, w => vc P T N c (blkQ id Q) e w
  | c, Q, e, w => StopW P N c Q e w
theorem vc_sound {P : Program} {T : Tbl} (hT : TOk P T) {N : Nat} : ∀ (c : Code) (Q : Exit → Env → World → Prop) (e : Env) (w : World), vc P T N c Q e w → SemW P N c Q e w
  | .skip, Q, e, w, h => fun a hr => wp_skip ⟨e, hr, h⟩
  | .ret, Q, e, w, h => fun a hr => wp_ret ⟨e, hr, h⟩
  | .exit id, Q, e, w, h => fun a hr => wp_exit ⟨e, hr, h⟩
  | .region id ops false, Q, e, w, h => fun a hr => by
    obtain ⟨ops⟩ := ops
    exact wp_region_lit (vcOps_sound hT (fun e' a' w' hk hr' => ⟨e', hr', hk⟩) _ _ _ _ hr h)
  | .seq a b, Q, e, w, h => SemW.seq (vc_sound hT a _ e w h)
  | .cond c a b, Q, e, w, h => SemW.cond (by
      simp only [vc] at h
      cases c with
      | tmp n =>
        obtain ⟨v, h1, h2⟩ := (lk_iff _ _ _).1 h
        refine (lk_iff _ _ _).2 ⟨v, h1, ?_⟩
        cases v <;> first | exact h2 | exact ⟨fun ht => vc_sound hT a _ e w (h2.t' ht), fun hf => vc_sound hT b _ e w (h2.f' hf)⟩
      | const v => cases v <;> first | exact h | exact ⟨fun ht => vc_sound hT a _ e w (h.t' ht), fun hf => vc_sound hT b _ e w (h.f' hf)⟩
      | global g => exact h
      | func f => exact h)
  | .block id c, Q, e, w, h => SemW.block (vc_sound hT c _ e w h)
  | .region id ops true, Q, e, w, h => h.out
  | .loop c, Q, e, w, h => h.out
  | .rangeFunc .., Q, e, w, h => h.out
  | .scope c, Q, e, w, h => h.out
  | .label l, Q, e, w, h => h.out
  | .goto l, Q, e, w, h => h.out
  | .refuse s, Q, e, w, h => h.out

/-- THE STEP: the goal becomes what is asked of the code up to the next statement. -/
theorem SemW.run {P : Program} {T : Tbl} (hT : TOk P T) {N : Nat} {c : Code} {Q : Exit → Env → World → Prop} {e : Env} {w : World} (h : vc P T N c Q e w) : SemW P N c Q e w := vc_sound hT c Q e w h

def selK : Env → List Nat → (Env → Prop) → Prop
  | _, [], K => K []
  | e, n :: ns, K => lk e n fun v => selK e ns fun r => K ((n, v) :: r)
theorem selK_iff : ∀ {ns : List Nat} {e : Env} {K : Env → Prop}, selK e ns K → ∃ e', (∀ n v, lkv e' n = some v → lkv e n = some v) ∧ K e'
  | [], e, K, h => ⟨[], fun n v hv => by simp [lkv] at hv, h⟩
  | n :: ns, e, K, h => by
    obtain ⟨v, h1, h2⟩ := (lk_iff _ _ _).1 h
    obtain ⟨e', h3, h4⟩ := selK_iff h2
    refine ⟨(n, v) :: e', fun m u hu => ?_, h4⟩
    rw [lkv_cons] at hu
    by_cases hnm : n = m
    · subst hnm; simp at hu; subst hu; exact h1
    · rw [if_neg hnm] at hu; exact h3 m u hu
theorem Rel.sub {N : Nat} {e e' : Env} {a : Act} (h : Rel N e a) (hs : ∀ n v, lkv e' n = some v → lkv e n = some v) : Rel N e' a := ⟨h.size, h.dz, fun n v hv => h.get n v (hs n v hv)⟩
/-- Only the slots named are kept. -/
theorem SemW.keep {P : Program} {N : Nat} {c : Code} {Q : Exit → Env → World → Prop} {e : Env} {w : World} (ns : List Nat) (h : selK e ns fun e' => SemW P N c Q e' w) : SemW P N c Q e w := by
  obtain ⟨e', h1, h2⟩ := selK_iff h
  exact fun a hr => h2 a (hr.sub h1)
/-- e' is part of e. -/
def subG : Env → Env → Prop
  | [], _ => True
  | (n, v) :: t, e => lk e n (fun u => u = v) ∧ subG t e
theorem subG_iff : ∀ {e' e : Env}, subG e' e → ∀ n v, lkv e' n = some v → lkv e n = some v
  | [], e, _, n, v, hv => by simp [lkv] at hv
  | (k, u) :: t, e, h, n, v, hv => by
    obtain ⟨h1, h2⟩ := h
    obtain ⟨x, h3, h4⟩ := (lk_iff _ _ _).1 h1
    rw [lkv_cons] at hv
    by_cases hkn : k = n
    · subst hkn; simp at hv; subst hv; subst h4; exact h3
    · rw [if_neg hkn] at hv; exact subG_iff h2 n v hv
theorem SemW.weaken {P : Program} {N : Nat} {c : Code} {Q : Exit → Env → World → Prop} {e e' : Env} {w : World} (hs : subG e' e) (h : SemW P N c Q e' w) : SemW P N c Q e w :=
  fun a hr => h a (hr.sub (subG_iff hs))

/-- A LOOP: at each round's head the environment is I i and the world meets J i, for some i; each round lowers μ. -/
theorem SemW.loop {P : Program} {N : Nat} {c : Code} {Q : Exit → Env → World → Prop} {e : Env} {w : World} {ι : Type} (I : ι → Env) (J : ι → World → Prop) (μ : ι → Nat) (i0 : ι)
    (hs : subG (I i0) e) (hJ : J i0 w)
    (round : ∀ i w, J i w → SemW P N c (thenQ (fun e' w' => ∃ i', subG (I i') e' ∧ J i' w' ∧ μ i' < μ i) Q) (I i) w) : StopW P N (.loop c) Q e w := by
  refine ⟨?_⟩
  intro a hr b k cs
  have key : ∀ n i a w, μ i = n → Rel N (I i) a → J i w →
      ∃ x a' w', lift N Q x a' w' ∧ Arrives P (lone (b.at a (.code c :: .inLoop c :: k)) cs w) b k cs x a' w' := by
    intro n
    induction n using Nat.strongRecOn with
    | _ n ih =>
      intro i a w hn hr hJ
      obtain ⟨x, a₁, w₁, hq, harr⟩ := round i w hJ a hr b (.inLoop c :: k) cs
      cases x with
      | normal =>
        obtain ⟨e', hr', i', hs', hJ', hlt⟩ := hq
        obtain ⟨e₂, a₂, w₂, hq₂, harr₂⟩ := ih (μ i') (hn ▸ hlt) i' a₁ w₁ rfl (hr'.sub (subG_iff hs')) hJ'
        exact ⟨e₂, a₂, w₂, hq₂, .of_steps (Steps.trans harr (.one step_inLoop)) harr₂⟩
      | exit id => exact ⟨.exit id, a₁, w₁, hq, .pass (x := .inLoop c) rfl (fun _ _ => .inl (by simp)) harr⟩
      | goto l => exact ⟨.goto l, a₁, w₁, hq, .pass (x := .inLoop c) rfl (fun _ _ => .inl (by simp)) harr⟩
      | ret => exact ⟨.ret, a₁, w₁, hq, .pass (x := .inLoop c) rfl (fun _ _ => .inl (by simp)) harr⟩
      | panic ch => exact hq.elim
      | outgrown => exact hq.elim
  obtain ⟨x, a', w', hq, harr⟩ := key _ i0 a w rfl (hr.sub (subG_iff hs)) hJ
  exact ⟨x, a', w', hq, .of_steps (.one step_loop) harr⟩

/-- A JOIN: the ways through x meet again in 'for some i: environment I i, world J i'. -/
theorem SemW.join {P : Program} {N : Nat} {x y : Code} {Q : Exit → Env → World → Prop} {e : Env} {w : World} {ι : Type} (I : ι → Env) (J : ι → World → Prop)
    (hx : SemW P N x (thenQ (fun e' w' => ∃ i, subG (I i) e' ∧ J i w') Q) e w) (hy : ∀ i w', J i w' → SemW P N y Q (I i) w') : SemW P N (.seq x y) Q e w :=
  SemW.seq (hx.mono fun ex e w h => by
    cases ex
    case normal => obtain ⟨i, h1, h2⟩ := h; exact SemW.weaken h1 (hy i w h2)
    all_goals exact h)

/-! ## A function -/
def argEnv : Nat → List Value → Env
  | _, [] => []
  | n, v :: vs => (n, v) :: argEnv (n + 1) vs
theorem argEnv_get : ∀ (args : List Value) (k n : Nat) (v : Value), lkv (argEnv k args) n = some v → k ≤ n ∧ args[n - k]? = some v
  | [], k, n, v, h => by simp [argEnv, lkv] at h
  | x :: xs, k, n, v, h => by
    simp only [argEnv] at h
    rw [lkv_cons] at h
    by_cases hk : k = n
    · subst hk; simp at h; subst h; simp
    · rw [if_neg hk] at h
      obtain ⟨h1, h2⟩ := argEnv_get xs (k + 1) n v h
      exact ⟨by omega, by rw [show n - k = (n - (k + 1)) + 1 by omega]; simpa using h2⟩

/-- What the results' slots hold (a result that lies in memory is read). -/
def resK (T : Tbl) (e : Env) (w : World) : List ResultVar → (List Value → Prop) → Prop
  | [], K => K []
  | .tmp t :: rs, K => lk e t fun v => resK T e w rs fun vs => K (v :: vs)
  | .cell a t :: rs, K => tK T t fun i => lk e a fun v => match v with
    | .pointer (some ⟨b, off, none⟩) => (match i.agg with
      | false => LdC (fun w' => w = w') ⟨b, off, none⟩ fun v => resK T e w rs fun vs => K (v :: vs)
      | true => LdN (fun w' => w = w') i.size b off fun cs => resK T e w rs fun vs => K (.agg ⟨cs⟩ :: vs))
    | _ => False
def retG (vs : List Value) (R : Value → Prop) : Prop := match vs with | [v] => R v | vs => R (.tuple ⟨vs⟩)
def retQ (T : Tbl) (rs : List ResultVar) (R : Value → World → Prop) : Exit → Env → World → Prop
  | .normal, e, w => resK T e w rs fun vs => retG vs fun v => R v w
  | .ret, e, w => resK T e w rs fun vs => retG vs fun v => R v w
  | _, _, _ => False
theorem resK_iff {P : Program} {T : Tbl} (hT : TOk P T) {N : Nat} {e : Env} {a : Act} (hr : Rel N e a) {w : World} : ∀ {rs : List ResultVar} {K : List Value → Prop}, resK T e w rs K →
    ∃ vs, (rs.mapM fun (r : ResultVar) => (match r with
      | .tmp t => (pure (a.tmps.getD t undef) : Sem Value)
      | .cell x t => do loadVar t (← asAddr (a.tmps.getD x undef)))).run P w = .ok vs w ∧ K vs
  | [], K, h => ⟨[], by simp, h⟩
  | .tmp t :: rs, K, h => by
    obtain ⟨v, h1, h2⟩ := (lk_iff _ _ _).1 h
    obtain ⟨vs, h3, h4⟩ := resK_iff hT hr h2
    have hv : a.tmps.getD t undef = v := by rw [Array.getD_eq_getD_getElem?, hr.get t v h1]; rfl
    exact ⟨v :: vs, by simp only [List.mapM_cons, Sem.run_bind, Sem.run_pure, Result.andThen_ok, hv, h3], h4⟩
  | .cell x t :: rs, K, h => by
    obtain ⟨i, hi, h⟩ := (tK_iff _ _ _).1 h
    obtain ⟨v, h1, h2⟩ := (lk_iff _ _ _).1 h
    have hv : a.tmps.getD x undef = v := by rw [Array.getD_eq_getD_getElem?, hr.get x v h1]; rfl
    cases v
    case pointer p =>
      rcases p with _ | ⟨b, off, _ | sp⟩
      · exact h2.elim
      rotate_left
      · exact h2.elim
      simp only at h2
      cases hagg : i.agg <;> simp only [hagg] at h2
      case false =>
        obtain ⟨v, h3, h4⟩ := h2.out
        obtain ⟨vs, h5, h6⟩ := resK_iff hT hr h4
        refine ⟨v :: vs, ?_, h6⟩
        rw [List.mapM_cons]
        generalize (List.mapM _ rs : Sem (List Value)) = m at h5 ⊢
        simp only [Sem.run_bind, hv, asAddr, Sem.run_pure, Result.andThen_ok, loadVar, load_one hT hi hagg, Bool.false_eq_true, if_false, run_load, h3 w rfl, h5]
      case true =>
        obtain ⟨cs, h3, h4, h5⟩ := h2.out
        obtain ⟨vs, h6, h7⟩ := resK_iff hT hr h5
        refine ⟨_, ?_, h7⟩
        have := loadCells_of P w b off cs (h4 w rfl)
        rw [h3] at this
        rw [List.mapM_cons]
        generalize (List.mapM _ rs : Sem (List Value)) = m at h6 ⊢
        simp only [Sem.run_bind, hv, asAddr, Sem.run_pure, Result.andThen_ok, loadVar, load_agg hT hi hagg, if_true, size_of hT hi, this, h6]
    all_goals exact h2.elim

theorem Cl.enter {P : Program} {T : Tbl} (hT : TOk P T) {f : FuncId} {fn : Func} {c : Code} {N : Nat} {args : List Value} {w : World} {R : Value → World → Prop}
    (hcall : ∀ (args : Array Value) (w : World), (callFunc f args).run P w = .ok (.enter f args) w) (hf : P.funcs[f]? = some fn) (hN : fn.ntmps = N) (hb : fn.body = some c) {rs : List ResultVar} (hrs : fn.results = ⟨rs⟩)
    (hlen : Nat.ble args.length N = true) (h : SemW P N c (retQ T rs R) (argEnv 0 args) w) : Cl P f args w R := by
  refine .inl ⟨hcall _ _, ?_⟩
  refine calls_of_wp hf hb ?_
  have hle := Nat.le_of_ble_eq_true hlen
  have hr : Rel N (argEnv 0 args) ⟨⟨args⟩ ++ Array.replicate (fn.ntmps - (Array.mk args).size) undef, []⟩ := by
    refine ⟨by simp [hN]; omega, rfl, fun n v hv => ?_⟩
    obtain ⟨_, h2⟩ := argEnv_get args 0 n v hv
    simp only [Nat.sub_zero] at h2
    have hlt : n < args.length := (List.getElem?_eq_some_iff.1 h2).1
    rw [Array.getElem?_append_left (by simpa using hlt)]
    simpa using h2
  refine Code.wp_mono (fun x a w hl => ?_) (h _ hr)
  have fin : ∀ e, Rel N e a → (resK T e w rs fun vs => retG vs fun v => R v w) → a.defers = [] ∧ ∃ v, (results fn a.tmps).run P w = .ok v w ∧ ∃ v', Ending.returned v = .returned v' ∧ R v' w := by
    intro e hr h
    obtain ⟨vs, h1, h2⟩ := resK_iff hT hr h
    refine ⟨hr.dz, ?_⟩
    have hm : (results fn a.tmps).run P w = .ok (if h : vs.length = 1 then vs[0] else .tuple ⟨vs⟩) w := by
      unfold results
      rw [hrs]
      simp only [Sem.run_bind]
      rw [Array.mapM_eq_mapM_toList]
      simp only [Sem.run_map]
      generalize hM : Sem.run P (List.mapM _ rs) w = r
      have h1' : r = .ok vs w := hM.symm.trans h1
      subst h1'
      simp
    refine ⟨_, hm, _, rfl, ?_⟩
    unfold retG at h2
    split at h2
    · simpa using h2
    · rename_i hne
      rw [dif_neg (by intro hl; obtain ⟨v, rfl⟩ := List.length_eq_one_iff.1 hl; exact hne v rfl)]
      exact h2
  cases x with
  | normal => obtain ⟨e, h1, h2⟩ := hl; exact fin e h1 h2
  | ret => obtain ⟨e, h1, h2⟩ := hl; exact fin e h1 h2
  | exit id => obtain ⟨e, h1, h2⟩ := hl; exact h2.elim
  | goto l => obtain ⟨e, h1, h2⟩ := hl; exact h2.elim
  | panic c => exact hl.elim
  | outgrown => exact hl.elim
end Go.Eng
