/- Texts of this claim, one behind the other. -/
import Derived.WalkKit
import Derived.WalkSpells
import Derived.WalkLawsBesides
import Derived.OrdersHeld
import Derived.KernelRfl
import Derived.Test.YtkgibdhpijdbfaaGreatDoorProg
set_option linter.unusedVariables false
set_option linter.unusedSimpArgs false
namespace Go.Eng
open Go
/-! ## Environment -/
abbrev Env := List (Nat × Value)
def lkv : Env → Nat → Option Value
 |[], _ => none
 |(k, v) :: t, n => match Nat.beq k n with | true => some v | false => lkv t n
def lk : Env → Nat → (Value → Prop) → Prop
 |[], _, _ => False
 |(k, v) :: t, n, K => match Nat.beq k n with | true => K v | false => lk t n K
theorem lk_iff (e : Env) (n : Nat) (K : Value → Prop) : lk e n K ↔ ∃ v, lkv e n = some v ∧ K v := by
 induction e with
 |nil => simp [lk, lkv]
 |cons p t ih =>
  obtain ⟨k, v⟩ := p
  simp only [lk, lkv]
  cases Nat.beq k n <;> simp [ih]
structure Rel (ds : List Deferred) (N : Nat) (e : Env) (a : Act) : Prop where
 size : a.tmps.size = N
 dz : a.defers = ds
 get : ∀ n v, lkv e n = some v → a.tmps[n]? = some v
theorem lkv_cons (k : Nat) (v : Value) (t : Env) (n : Nat) : lkv ((k, v) :: t) n = if k = n then some v else lkv t n := by
 simp only [lkv]
 by_cases h : k = n
 ·subst h; simp
 ·have : Nat.beq k n = false := by rw [← Bool.not_eq_true]; intro hb; exact h (Nat.eq_of_beq_eq_true hb)
  simp [this, h]
variable {ds : List Deferred}
theorem Rel.put {N : Nat} {e : Env} {a : Act} (h : Rel ds N e a) {d : Nat} (hd : d < N) (v : Value) : Rel ds N ((d, v) :: e) (a.put (some d) v) := by
 refine ⟨by simp [Act.put, h.size], h.dz, fun n u hu => ?_⟩
 rw [lkv_cons] at hu
 simp only [Act.put, Array.getElem?_setIfInBounds]
 by_cases hdn : d = n
 ·subst hdn; simp at hu; subst hu; simp [h.size, hd]
 ·rw [if_neg hdn] at hu; rw [if_neg hdn]; exact h.get n u hu
def evK (e : Env) : Operand → (Value → Prop) → Prop
 |.tmp n, K => lk e n K
 |.const v, K => K v
 |.global g, K => K (.pointer (some ⟨g, 0, none⟩))
 |.func f, K => K (.func (.func f) #[] #[])
theorem evK_iff {N : Nat} {e : Env} {a : Act} (h : Rel ds N e a) {x : Operand} {K : Value → Prop} (hk : evK e x K) : K (a.eval x) := by
 cases x with
 |tmp n =>
  obtain ⟨v, hv, hK⟩ := (lk_iff _ _ _).1 hk
  have := h.get n v hv
  simp only [Act.eval, Array.getD_eq_getD_getElem?, this, Option.getD_some]; exact hK
 |_ => exact hk
def evsK (e : Env) : List Operand → (List Value → Prop) → Prop
 |[], K => K []
 |x :: xs, K => evK e x fun v => evsK e xs fun vs => K (v :: vs)
theorem evsK_iff {N : Nat} {e : Env} {a : Act} (h : Rel ds N e a) : ∀ {xs : List Operand} {K : List Value → Prop}, evsK e xs K → K (xs.map a.eval)
 |[], _, hk => hk
 |x :: xs, K, hk => by
  have h1 := evK_iff h hk
  exact evsK_iff (xs := xs) (K := fun vs => K (a.eval x :: vs)) h h1
/-! ## Goals that the prover closes -/
structure BrG (b : Bool) (X Y : Prop) : Prop where
 t' : b = true → X
 f' : b = false → Y
theorem BrG.t {X Y : Prop} (h : X) : BrG true X Y := ⟨fun _ => h, nofun⟩
theorem BrG.f {X Y : Prop} (h : Y) : BrG false X Y := ⟨nofun, fun _ => h⟩
theorem BrG.dec {p X Y : Prop} [Decidable p] (h1 : p → X) (h2 : ¬p → Y) : BrG (decide p) X Y := ⟨fun h => h1 (of_decide_eq_true h), fun h => h2 (of_decide_eq_false h)⟩
theorem BrG.pos {p X Y : Prop} [Decidable p] (h : p) (h1 : X) : BrG (decide p) X Y := .dec (fun _ => h1) (fun h' => absurd h h')
theorem BrG.neg {p X Y : Prop} [Decidable p] (h : ¬p) (h1 : Y) : BrG (decide p) X Y := .dec (fun h' => absurd h' h) (fun _ => h1)
theorem BrG.notG {b : Bool} {X Y : Prop} (h : BrG b Y X) : BrG (!b) X Y := ⟨fun e => h.f' (by simpa using e), fun e => h.t' (by simpa using e)⟩
theorem BrG.bool {b : Bool} {X Y : Prop} (h1 : b = true → X) (h2 : b = false → Y) : BrG b X Y := ⟨h1, h2⟩
theorem BrG.eqt {b : Bool} {X Y : Prop} (hb : b = true) (h1 : X) : BrG b X Y := ⟨fun _ => h1, fun h => (by rw [hb] at h; cases h)⟩
theorem BrG.eqf {b : Bool} {X Y : Prop} (hb : b = false) (h1 : Y) : BrG b X Y := ⟨fun h => (by rw [hb] at h; cases h), fun _ => h1⟩
structure Chk (p q : Prop) : Prop where
 p : p
 q : q
structure IntG (k : IntKind) (z : Int) (K : Value → Prop) : Prop where
 out : K (.int k (k.wrap z))
theorem IntG.wr {k : IntKind} {z : Int} {K : Value → Prop} (h : K (.int k (k.wrap z))) : IntG k z K := ⟨h⟩
theorem IntG.nw {z : Int} {K : Value → Prop} (h : -9223372036854775808 ≤ z ∧ z ≤ 9223372036854775807) (hk : K (.int .i64 z)) : IntG .i64 z K := by
 exact ⟨by rw [IntWalk.i64_in _ (by omega)]; exact hk⟩
structure RunG {α : Type} (P : Program) (s : Sem α) (w : World) (K : α → World → Prop) : Prop where
 out : ∃ v w', s.run P w = .ok v w' ∧ K v w'
theorem RunG.of {α : Type} {P : Program} {s : Sem α} {w : World} {K : α → World → Prop} {v : α} {w' : World} (h : s.run P w = .ok v w') (hk : K v w') : RunG P s w K := ⟨⟨v, w', h, hk⟩⟩
def Cl (P : Program) (f : FuncId) (args : List Value) (w : World) (R : Value → World → Prop) : Prop :=
 ((callFunc f ⟨args⟩).run P w = .ok (.enter f ⟨args⟩) w ∧ Calls P f ⟨args⟩ w fun e w' => ∃ v, e = .returned v ∧ R v w') ∨
 (∃ v w', (callFunc f ⟨args⟩).run P w = .ok (.value v) w' ∧ R v w')
theorem Cl.mono {P : Program} {f : FuncId} {args : List Value} {w : World} {R R' : Value → World → Prop} (h : Cl P f args w R) (hr : ∀ v w', R v w' → R' v w') : Cl P f args w R' := by
 rcases h with ⟨h1, h2⟩ | ⟨v, w', h1, h2⟩
 ·exact .inl ⟨h1, Calls.mono h2 fun _ _ ⟨v, he, hR⟩ => ⟨v, he, hr _ _ hR⟩⟩
 ·exact .inr ⟨v, w', h1, hr _ _ h2⟩
theorem Cl.val {P : Program} {f : FuncId} {args : List Value} {w w' : World} {v : Value} {R : Value → World → Prop} (h : (callFunc f ⟨args⟩).run P w = .ok (.value v) w') (hr : R v w') : Cl P f args w R := .inr ⟨v, w', h, hr⟩
theorem BrG.id {b : Bool} {X Y : Prop} (h : BrG b X Y) : BrG b X Y := h
theorem BrG.nn {α : Type} {X Y : Prop} (h : X) : BrG (Option.isNone (none : Option α)) X Y := ⟨fun _ => h, nofun⟩
theorem BrG.ns {α : Type} {a : α} {X Y : Prop} (h : Y) : BrG (Option.isNone (some a)) X Y := ⟨nofun, fun _ => h⟩
def isI64 : IntKind → Bool | .i64 => true | _ => false
theorem IntG.wr' {k : IntKind} {z : Int} {K : Value → Prop} (_hk : isI64 k = false) (h : K (.int k (k.wrap z))) : IntG k z K := ⟨h⟩
theorem wrap_of (k : IntKind) (z : Int) (hs : k.signed = false) (h0 : 0 ≤ z) (h1 : z < 2 ^ k.bits) : k.wrap z = z := by
 unfold IntKind.wrap; simp only [hs]; simp [Int.emod_eq_of_lt h0 h1]
theorem IntG.nu8 {z : Int} {K : Value → Prop} (h : 0 ≤ z ∧ z ≤ 255) (hk : K (.int .u8 z)) : IntG .u8 z K :=
 ⟨by rw [wrap_of .u8 z rfl h.1 (by show z < 2 ^ 8; omega)]; exact hk⟩
theorem IntG.nu32 {z : Int} {K : Value → Prop} (h : 0 ≤ z ∧ z ≤ 4294967295) (hk : K (.int .u32 z)) : IntG .u32 z K :=
 ⟨by rw [wrap_of .u32 z rfl h.1 (by show z < 2 ^ 32; omega)]; exact hk⟩
theorem IntG.nu64 {z : Int} {K : Value → Prop} (h : 0 ≤ z ∧ z ≤ 18446744073709551615) (hk : K (.int .u64 z)) : IntG .u64 z K :=
 ⟨by rw [wrap_of .u64 z rfl h.1 (by show z < 2 ^ 64; omega)]; exact hk⟩
/-! ## Types -/
inductive TK where
 |int (k : IntKind) | bool | str | ptr (e : TypeId) | slice (e esz : Nat) | struct (fs : List (Nat × Nat)) | map (k e : TypeId) | arr (n e esz : Nat) | iface | fn
 deriving DecidableEq
structure TI where
 k : TK
 size : Nat
 bytes : Nat
 zero : Value
abbrev Tbl := List (Nat × TI)
def TI.agg (t : TI) : Bool := match t.k with | .struct _ => true | .arr .. => true | _ => false
def TK.ok (P : Program) (t : TypeId) : TK → Prop
 |.int k => P.underlying t = some (.int k)
 |.bool => P.underlying t = some .bool
 |.str => P.underlying t = some .string
 |.ptr e => P.underlying t = some (.pointer e)
 |.slice e esz => P.underlying t = some (.slice e) ∧ (P.info? e).map (·.size) = some esz
 |.struct fs => ∃ d, P.underlying t = some (.struct d) ∧ d.toList.map (fun f => (f.offset, (P.info? f.type).map (·.size))) = fs.map (fun x => (x.1, some x.2))
 |.map k e => P.underlying t = some (.map k e)
 |.arr n e esz => P.underlying t = some (.array n e) ∧ (P.info? e).map (·.size) = some esz
 |.iface => ∃ ms, P.underlying t = some (.interface ms)
 |.fn => ∃ ps rs v, P.underlying t = some (.func ps rs v)
def TI.ok (P : Program) (t : TypeId) (i : TI) : Prop :=
 (P.info? t).map (fun i => (i.zero, i.size, i.bytes)) = some (some i.zero, i.size, i.bytes) ∧ i.k.ok P t
theorem TI.ok.some {P : Program} {t : TypeId} {i : TI} (h : i.ok P t) : ∃ d, P.underlying t = some d := by
 obtain ⟨_, h⟩ := h
 cases hk : i.k <;> simp only [hk, TK.ok] at h
 all_goals first | exact ⟨_, h⟩ | exact ⟨_, h.1⟩ | (obtain ⟨d, h⟩ := h; first | exact ⟨_, h⟩ | exact ⟨_, h.1⟩ | (obtain ⟨d, e, h⟩ := h; exact ⟨_, h⟩))
def tf : Tbl → Nat → Option TI
 |[], _ => none
 |(k, v) :: t, n => match Nat.beq k n with | true => some v | false => tf t n
def tK : Tbl → Nat → (TI → Prop) → Prop
 |[], _, _ => False
 |(k, v) :: t, n, K => match Nat.beq k n with | true => K v | false => tK t n K
theorem tK_iff (e : Tbl) (n : Nat) (K : TI → Prop) : tK e n K ↔ ∃ v, tf e n = some v ∧ K v := by
 induction e with
 |nil => simp [tK, tf]
 |cons p t ih =>
  obtain ⟨k, v⟩ := p
  simp only [tK, tf]
  cases Nat.beq k n <;> simp [ih]
def TOk (P : Program) (T : Tbl) : Prop := ∀ t i, tf T t = some i → i.ok P t
theorem TOk.nil {P : Program} : TOk P [] := fun _ _ h => by simp [tf] at h
theorem TOk.cons {P : Program} {t : Nat} {i : TI} {T : Tbl} (h : i.ok P t) (hT : TOk P T) : TOk P ((t, i) :: T) := by
 intro u j hj
 simp only [tf] at hj
 cases hb : Nat.beq t u with
 |true => rw [hb] at hj; simp at hj; subst hj; have := Nat.eq_of_beq_eq_true hb; subst this; exact h
 |false => rw [hb] at hj; exact hT u j hj
/-! ## Pure operations -/
def IntKind.same : IntKind → IntKind → Bool
 |.i8, .i8 | .i16, .i16 | .i32, .i32 | .i64, .i64 | .u8, .u8 | .u16, .u16 | .u32, .u32 | .u64, .u64 => true
 |_, _ => false
theorem IntKind.same_eq {a b : IntKind} (h : IntKind.same a b = true) : a = b := by cases a <;> cases b <;> first | rfl | simp [IntKind.same] at h
def andI (k : IntKind) (x y : Int) : Int := k.wrap ((BitVec.ofInt k.bits x &&& BitVec.ofInt k.bits y).toNat)
def orI (k : IntKind) (x y : Int) : Int := k.wrap ((BitVec.ofInt k.bits x ||| BitVec.ofInt k.bits y).toNat)
def xorI (k : IntKind) (x y : Int) : Int := k.wrap ((BitVec.ofInt k.bits x ^^^ BitVec.ofInt k.bits y).toNat)
def andNotI (k : IntKind) (x y : Int) : Int := k.wrap ((BitVec.ofInt k.bits x &&& ~~~(BitVec.ofInt k.bits y)).toNat)
abbrev Str (l : List UInt8) : Value := .string ⟨⟨l⟩⟩
def binInt (op : BinOp) (k : IntKind) (x y : Int) (K : Value → Prop) : Prop :=
 match op with
 |.add => IntG k (x + y) K
 |.sub => IntG k (x - y) K
 |.mul => IntG k (x * y) K
 |.quo => Chk (y ≠ 0) (IntG k (x.tdiv y) K)
 |.rem => Chk (y ≠ 0) (K (.int k (x.tmod y)))
 |.and => K (.int k (andI k x y))
 |.or => K (.int k (orI k x y))
 |.xor => K (.int k (xorI k x y))
 |.andNot => K (.int k (andNotI k x y))
 |.eql => K (.bool (decide (x = y)))
 |.neq => K (.bool (!decide (x = y)))
 |.lss => K (.bool (decide (x < y)))
 |.leq => K (.bool (decide (x ≤ y)))
 |.gtr => K (.bool (decide (y < x)))
 |.geq => K (.bool (decide (y ≤ x)))
 |_ => False
def binStr (op : BinOp) (x y : List UInt8) (K : Value → Prop) : Prop :=
 match op with
 |.add => Chk (x.length + y.length ≤ 9223372036854775807) (K (Str (x ++ y)))
 |.eql => K (.bool (decide (x = y)))
 |.neq => K (.bool (!decide (x = y)))
 |.lss => K (.bool (Op.bytesLess x y))
 |.leq => K (.bool (Op.bytesLess x y || decide (x = y)))
 |.gtr => K (.bool (!(Op.bytesLess x y || decide (x = y))))
 |.geq => K (.bool (!Op.bytesLess x y))
 |_ => False
structure PureRun (P : Program) (s : Sem Value) (K : Value → Prop) : Prop where
 out : ∃ v, (∀ w, s.run P w = .ok v w) ∧ K v
def binG (P : Program) (op : BinOp) (t : TypeId) (a b : Value) (K : Value → Prop) (Fb : Prop) : Prop :=
 match a, b with
 |.int k x, .int k' y =>
  match op with
  |.shl => Chk (0 ≤ y) (K (.int k (k.wrap (x * 2 ^ (min y.toNat k.bits)))))
  |.shr => Chk (0 ≤ y) (K (.int k (x.fdiv (2 ^ (min y.toNat k.bits)))))
  |op => match IntKind.same k k' with | true => binInt op k x y K | false => False
 |.string ⟨⟨x⟩⟩, .string ⟨⟨y⟩⟩ => binStr op x y K
 |.bool x, .bool y => match op with
  |.eql => Chk (P.underlying t = some .bool) (K (.bool (x == y)))
  |.neq => Chk (P.underlying t = some .bool) (K (.bool (!(x == y))))
  |_ => False
 |.pointer p, .pointer none => match op with
  |.eql => Chk (P.underlying t = some (.pointer (P.pointee t))) (K (.bool p.isNone))
  |.neq => Chk (P.underlying t = some (.pointer (P.pointee t))) (K (.bool (!p.isNone)))
  |_ => False
 |_, _ => Fb
theorem bytes_toList (x : List UInt8) : (ByteArray.mk ⟨x⟩).toList = x := ByteArray.toList_eq _
theorem bytes_append (x y : List UInt8) : (ByteArray.mk ⟨x⟩) ++ (ByteArray.mk ⟨y⟩) = ⟨⟨x ++ y⟩⟩ := by
 apply ByteArray.ext; rw [ByteArray.data_append]; simp
theorem bytes_extract (x : List UInt8) (i j : Nat) : (ByteArray.mk ⟨x⟩).extract i j = ⟨⟨(x.take j).drop i⟩⟩ := by
 apply ByteArray.ext
 rw [ByteArray.data_extract]
 apply Array.ext'
 simp [List.extract_eq_take_drop, List.drop_take]
theorem run_eqGuard_of (P : Program) (op : BinOp) (t : TypeId) (x y : Operand) (a b : Value) (w : World)
  (h1 : ∀ c, a ≠ .agg c) (h2 : a ≠ .nilIface) : (eqGuard op t x y a b).run P w = .ok () w := by
 unfold eqGuard
 cases op <;> cases a <;> simp_all
theorem binG_sound {P : Program} {op : BinOp} {t : TypeId} {a b : Value} {K : Value → Prop} {Fb : Prop} (h : binG P op t a b K Fb) :
  (∃ v, K v ∧ (∀ w, (binOp op t a b).run P w = .ok v w) ∧ (∀ c, a ≠ .agg c) ∧ a ≠ .nilIface) ∨ Fb := by
 cases a <;> cases b <;> simp only [binG] at h
 case int.int k x k' y =>
  left
  have key : (match IntKind.same k k' with | true => binInt op k x y K | false => False) → op ≠ .shl → op ≠ .shr → ∃ v, K v ∧ (∀ w, (binOp op t (.int k x) (.int k' y)).run P w = .ok v w) := by
   intro h h1 h2
   cases hk : IntKind.same k k' with
   |false => simp [hk] at h
   |true =>
    have := IntKind.same_eq hk
    subst this
    simp only [hk] at h
    cases op <;> simp only [binInt] at h
    all_goals (try replace h := IntG.out h)
    all_goals (try (obtain ⟨hy, h⟩ := h; (try replace h := IntG.out h)))
    all_goals first
     |exact absurd rfl h1
     |exact absurd rfl h2
     |exact h.elim
     |(refine ⟨_, h, fun w => ?_⟩; simp [binOp, Op.intDiv, hy]; done)
     |(refine ⟨_, h, fun w => ?_⟩; first | (simp [binOp, Op.intArith]; done) | (simp only [binOp]; simp [Op.intBits, andI, orI, xorI, andNotI]; done) | (simp only [binOp]; simp [Op.intCmp]; done) | (simp only [binOp]; simp [Op.intCmp]; rfl))
  suffices hf : ∃ v, K v ∧ (∀ w, (binOp op t (.int k x) (.int k' y)).run P w = .ok v w) from (by obtain ⟨v, h1, h2⟩ := hf; exact ⟨v, h1, h2, nofun, nofun⟩)
  cases op
  case shl => obtain ⟨h0, h⟩ := h; exact ⟨_, h, fun w => by simp [binOp, Op.shift, show ¬ y < 0 by omega]⟩
  case shr => obtain ⟨h0, h⟩ := h; exact ⟨_, h, fun w => by simp [binOp, Op.shift, show ¬ y < 0 by omega]⟩
  all_goals exact key h nofun nofun
 case string.string x y =>
  left
  obtain ⟨⟨x⟩⟩ := x
  obtain ⟨⟨y⟩⟩ := y
  cases op <;> simp only [binStr] at h
  case add =>
   obtain ⟨h0, h⟩ := h
   refine ⟨_, h, fun w => ?_, nofun, nofun⟩
   simp only [binOp]
   rw [run_string_add_sum w _ _ (by simpa [ByteArray.size] using h0), bytes_append]
  all_goals first
   |exact h.elim
   |exact ⟨_, h, fun w => by simp [binOp, Op.stringOp, show (x == y) = decide (x = y) from by rw [Bool.eq_iff_iff]; simp], nofun, nofun⟩
 case bool.bool x y =>
  left
  cases op <;> simp only at h
  case eql => obtain ⟨h0, h⟩ := h; exact ⟨_, h, fun w => run_eql_bool w _ _ _ h0, nofun, nofun⟩
  case neq => obtain ⟨h0, h⟩ := h; exact ⟨_, h, fun w => run_neq_bool w _ _ _ h0, nofun, nofun⟩
 case pointer.pointer p q =>
  cases q with
  |some q => exact Or.inr h
  |none =>
   left
   cases op <;> simp only at h
   case eql => obtain ⟨h0, h⟩ := h; exact ⟨_, h, fun w => run_eql_pointer_nil w _ _ h0, nofun, nofun⟩
   case neq => obtain ⟨h0, h⟩ := h; exact ⟨_, h, fun w => run_neq_pointer_nil w _ _ h0, nofun, nofun⟩
 all_goals exact Or.inr h
def unG (op : UnOp) (a : Value) (K : Value → Prop) : Prop :=
 match op, a with
 |.not, .bool b => K (.bool (!b))
 |.neg, .int k n => IntG k (0 - n) K
 |.xor, .int k n => K (.int k (xorI k (if k.signed then -1 else k.max) n))
 |_, _ => False
theorem unG_sound {P : Program} {op : UnOp} {a : Value} {K : Value → Prop} (h : unG op a K) : ∃ v, K v ∧ ∀ w, (Op.unary op a).run P w = .ok v w := by
 cases op <;> cases a <;> simp only [unG] at h <;> (try replace h := IntG.out h) <;> first
  |exact h.elim
  |(refine ⟨_, h, fun w => ?_⟩; first | (simp [Op.unary, Op.intArith]; done) | (simp only [Op.unary]; simp [Op.intBits, xorI]; done))
def convK (T : Tbl) (d : TypeId) (a : Value) (K : Value → Prop) : Prop :=
 match a with
 |.int _ n => tK T d fun i => match i.k with | .int k => IntG k n K | _ => False
 |.string s => tK T d fun i => match i.k with | .str => K (.string s) | _ => False
 |_ => False
def offK : List (Nat × Nat) → Nat → (Nat → Nat → Prop) → Prop
 |[], _, _ => False
 |(o, s) :: _, 0, K => K o s
 |_ :: t, n + 1, K => offK t n K
theorem offK_iff : ∀ (fs : List (Nat × Nat)) (n : Nat) (K : Nat → Nat → Prop), offK fs n K ↔ ∃ o s, fs[n]? = some (o, s) ∧ K o s
 |[], n, K => by simp [offK]
 |(o, s) :: t, 0, K => by
  simp only [offK, List.getElem?_cons_zero, Option.some.injEq, Prod.mk.injEq]
  exact ⟨fun h => ⟨o, s, ⟨rfl, rfl⟩, h⟩, fun ⟨_, _, ⟨h1, h2⟩, h⟩ => h1 ▸ h2 ▸ h⟩
 |_ :: t, n + 1, K => by simp only [offK, List.getElem?_cons_succ]; exact offK_iff t n K
structure NilG (P : Program) (t : TypeId) (u : Value) (name : String) (K : Prop) : Prop where
 run : ∀ w, (nilAhead (P.types.size + Made.depth) t u name).run P w = .ok (some false) w
 k : K
def nilFuncK (P : Program) (fn : Fn) (first : List Value) (c : Array Value) (K : Value → Prop) : Prop := match fn, first with
 |.method name, .iface t u :: fs => NilG P t u name (K (.func (.method name) ⟨.iface t u :: fs⟩ c))
 |_, _ => False
def methK (fn : Fn) (K : Prop) : Prop := match fn with
 |.method _ => K
 |_ => False
def pureG (P : Program) (T : Tbl) (e : Env) (op : Op) (K : Value → Prop) : Prop :=
 match op with
 |.move x => evK e x K
 |.assign x => evK e x K
 |.pick c x y => evK e c fun vc => match vc with | .bool b => BrG b (evK e x K) (evK e y K) | _ => False
 |.binOp op t x y _ => evK e x fun a => evK e y fun b => binG P op t a b K (PureRun P (do eqGuard op t x y a b; binOp op t a b) K)
 |.unOp op _ x => evK e x fun a => unG op a K
 |.convert s d x => tK T s fun _ => evK e x fun a => convK T d a K
 |.nilCheck x => evK e x fun a => match a with
  |.pointer (some p) => K (.pointer (some p))
  |.func fn ⟨first⟩ c => nilFuncK P fn first c K
  |_ => False
 |.makeFunc fn first captured => evsK e first.toList fun f1 => evsK e captured.toList fun c1 => methK fn (K (.func fn ⟨f1⟩ ⟨c1⟩))
 |.extract x n => evK e x fun a => match a with | .tuple ⟨vs⟩ => (match vs[n]? with | some v => K v | none => False) | _ => False
 |.fieldAddr s x f => tK T s fun i => match i.k with
  |.struct fs => offK fs f fun o sz => match sz with
   |0 => False
   |_ + 1 => evK e x fun a => match a with | .pointer (some ⟨b, off, none⟩) => K (.pointer (some ⟨b, off + o, none⟩)) | _ => False
  |_ => False
 |.indexAddr t x ix => tK T t fun i => match i.k with
  |.slice _ sz => evK e x fun a => evK e ix fun j => match a, j with
   |.slice (some ⟨b, off, none⟩) len _, .int _ j => Chk (0 ≤ j ∧ j < len) (K (.pointer (some ⟨b, off + j.toNat * sz, none⟩)))
   |_, _ => False
  |.arr n _ sz => evK e x fun a => evK e ix fun j => match a, j with
   |.pointer (some ⟨b, off, none⟩), .int _ j => Chk (0 ≤ j ∧ j < n) (K (.pointer (some ⟨b, off + j.toNat * sz, none⟩)))
   |_, _ => False
  |_ => False
 |.index t x ix => tK T t fun i => match i.k with
  |.str => evK e x fun a => evK e ix fun j => match a, j with
   |.string ⟨⟨l⟩⟩, .int _ j => Chk (0 ≤ j ∧ j < l.length) (K (.int .u8 (l.getD j.toNat 0).toNat))
   |_, _ => False
  |.arr _ _ _ => evK e x fun a => evK e ix fun j => PureRun P (Instr.index t a j) K
  |_ => False
 |.makeInterface t x => Chk (P.concrete t = true) (evK e x fun a => K (.iface t a))
 |_ => False
theorem Addr.add_eq (b o n : Nat) : (⟨b, o, none⟩ : Addr).add n = ⟨b, o + n, none⟩ := by unfold Addr.add; split <;> simp_all
theorem pureG_sound {P : Program} {T : Tbl} (hT : TOk P T) {N : Nat} {e : Env} {a : Act} (hr : Rel ds N e a) {o : Oper} {K : Value → Prop} (h : pureG P T e o.op K) :
  ∃ v, K v ∧ ∀ w, (execOp a.eval o).run P w = .ok (.value v) w := by
 obtain ⟨dst, op, ty, pos, after, guard⟩ := o
 simp only at h
 cases op <;> simp only [pureG] at h
 case move x => exact ⟨_, evK_iff hr h, fun w => rfl⟩
 case assign x => exact ⟨_, evK_iff hr h, fun w => rfl⟩
 case pick c x y =>
  have := evK_iff hr h
  cases hc : a.eval c <;> simp only [hc] at this
  case bool b =>
   cases b with
   |true => exact ⟨_, evK_iff hr (this.t' rfl), fun w => by simp [execOp, hc, asBool]⟩
   |false => exact ⟨_, evK_iff hr (this.f' rfl), fun w => by simp [execOp, hc, asBool]⟩
 case binOp op t x y yt =>
  have h1 := evK_iff hr (evK_iff hr h)
  rcases binG_sound h1 with ⟨v, hv, hrun, h2, h3⟩ | h1
  ·exact ⟨v, hv, fun w => by simp [execOp, run_eqGuard_of P op t x y _ _ w h2 h3, hrun]⟩
  ·obtain ⟨v, hrun, hv⟩ := h1.out
   refine ⟨v, hv, fun w => ?_⟩
   have := hrun w
   simp only [execOp, Sem.run_bind] at this ⊢
   simp only [this, Result.andThen_ok, Sem.run_pure]
 case unOp op t x =>
  obtain ⟨v, hv, hrun⟩ := unG_sound (P := P) (evK_iff hr h)
  exact ⟨v, hv, fun w => by simp [execOp, hrun]⟩
 case nilCheck x =>
  have := evK_iff hr h
  cases hc : a.eval x <;> simp only [hc] at this
  case pointer p =>
   cases p with
   |none => exact this.elim
   |some p => exact ⟨_, this, fun w => by simp [execOp, hc]⟩
  case func fn first captured =>
   obtain ⟨l⟩ := first
   unfold nilFuncK at this
   split at this
   ·next he =>
    have he : l = _ := he
    subst he
    refine ⟨_, this.k, fun w => ?_⟩
    have hrun := this.run w
    simp [execOp, hc, hrun]
   ·exact this.elim
 case extract x n =>
  have := evK_iff hr h
  cases hc : a.eval x <;> simp only [hc] at this
  case tuple vs =>
   obtain ⟨vs⟩ := vs
   simp only at this
   cases hv : vs[n]? <;> simp only [hv] at this
   case some v => exact ⟨v, this, fun w => by simp [execOp, hc, Instr.extract, hv]⟩
 case makeFunc fn first captured =>
  have := evsK_iff hr (evsK_iff hr h)
  have e1 : (⟨List.map a.eval first.toList⟩ : Array Value) = first.map a.eval := by rw [← Array.toList_map]
  have e2 : (⟨List.map a.eval captured.toList⟩ : Array Value) = captured.map a.eval := by rw [← Array.toList_map]
  rw [e1, e2] at this
  unfold methK at this
  split at this
  ·exact ⟨_, this, fun w => by simp [execOp, Instr.makeFunc]⟩
  ·exact this.elim
 case makeInterface t x =>
  exact ⟨_, evK_iff (K := fun a => K (.iface t a)) hr h.2, fun w => by simp [execOp, run_makeInterface _ _ _ h.1]⟩
 case convert s d x =>
  obtain ⟨i0, hi0, h⟩ := (tK_iff _ _ _).1 h
  have := evK_iff hr h
  obtain ⟨ds, hds⟩ := (hT _ _ hi0).some
  cases hc : a.eval x <;> simp only [hc, convK] at this
  case int k n =>
   obtain ⟨i, hi, h2⟩ := (tK_iff _ _ _).1 this
   cases hk : i.k <;> simp only [hk] at h2
   case int k' =>
    have hok := (hT _ _ hi).2
    rw [hk] at hok
    exact ⟨_, h2.out, fun w => by simp [execOp, hc, convert, run_underlying hds, run_underlying (show P.underlying d = some (.int k') from hok), Conv.intToInt]⟩
  case string b =>
   obtain ⟨i, hi, h2⟩ := (tK_iff _ _ _).1 this
   cases hk : i.k <;> simp only [hk] at h2
   case str =>
    have hok := (hT _ _ hi).2
    rw [hk] at hok
    exact ⟨_, h2, fun w => by simp [execOp, hc, convert, run_underlying hds, run_underlying (show P.underlying d = some .string from hok)]⟩
 case fieldAddr s x f =>
  obtain ⟨i, hi, h2⟩ := (tK_iff _ _ _).1 h
  cases hk : i.k <;> simp only [hk] at h2
  case struct fs =>
   obtain ⟨o, sz, hf, h3⟩ := (offK_iff _ _ _).1 h2
   cases sz with
   |zero => exact h3.elim
   |succ sz =>
    simp only at h3
    have h4 := evK_iff hr h3
    have hok := (hT _ _ hi).2
    rw [hk] at hok
    obtain ⟨d, hd, hm⟩ := hok
    have hlen : d.size = fs.length := by have := congrArg List.length hm; simpa using this
    have hfl : f < fs.length := (List.getElem?_eq_some_iff.1 hf).1
    have hdf : f < d.size := by omega
    have hm2 : (d[f].offset, (P.info? d[f].type).map (·.size)) = (o, some (sz + 1)) := by
     have h5 := congrArg (fun l => l[f]?) hm
     simpa [hf, hdf] using h5
    simp only [Prod.mk.injEq] at hm2
    obtain ⟨ho, hsz⟩ := hm2
    cases hc : a.eval x <;> simp only [hc] at h4
    case pointer p =>
     rcases p with _ | ⟨b, off, _ | sp⟩
     ·exact h4.elim
     rotate_left
     ·exact h4.elim
     refine ⟨_, h4, fun w => ?_⟩
     cases hinf : P.info? d[f].type with
     |none => rw [hinf] at hsz; simp at hsz
     |some inf =>
      rw [hinf] at hsz
      have hs1 : inf.size = sz + 1 := by simpa using hsz
      simp [execOp, hc, Instr.fieldAt, run_underlying hd, hdf, Instr.sureAddr, fieldPlace, sizeOf, typeInfo, hinf, hs1, ho, Addr.add_eq]
 case indexAddr t x ix =>
  obtain ⟨i, hi, h2⟩ := (tK_iff _ _ _).1 h
  have hok := (hT _ _ hi).2
  cases hk : i.k <;> simp only [hk] at h2 hok
  case slice el sz =>
   have h4 := evK_iff hr (evK_iff hr h2)
   obtain ⟨hu, hs⟩ := hok
   cases hinf : P.info? el with
   |none => rw [hinf] at hs; simp at hs
   |some inf =>
    rw [hinf] at hs
    have hs1 : inf.size = sz := by simpa using hs
    cases hc : a.eval x <;> simp only [hc] at h4
    case slice p len cap =>
     rcases p with _ | ⟨b, off, _ | sp⟩
     ·exact h4.elim
     rotate_left
     ·exact h4.elim
     cases hj : a.eval ix <;> simp only [hj] at h4
     case int k j =>
      exact ⟨_, h4.2, fun w => by simp [execOp, hc, hj, Instr.indexAt, run_underlying hu, asIntOf, h4.1, sizeOf, typeInfo, hinf, hs1, Addr.add_eq]⟩
  case arr n el sz =>
   have h4 := evK_iff hr (evK_iff hr h2)
   obtain ⟨hu, hs⟩ := hok
   cases hinf : P.info? el with
   |none => rw [hinf] at hs; simp at hs
   |some inf =>
    rw [hinf] at hs
    have hs1 : inf.size = sz := by simpa using hs
    cases hc : a.eval x <;> simp only [hc] at h4
    case pointer p =>
     rcases p with _ | ⟨b, off, _ | sp⟩
     ·exact h4.elim
     rotate_left
     ·exact h4.elim
     cases hj : a.eval ix <;> simp only [hj] at h4
     case int k j =>
      exact ⟨_, h4.2, fun w => by simp [execOp, hc, hj, Instr.indexAt, run_underlying hu, Instr.sureAddr, asIntOf, h4.1, sizeOf, typeInfo, hinf, hs1, Addr.add_eq]⟩
 case index t x ix =>
  obtain ⟨i, hi, h2⟩ := (tK_iff _ _ _).1 h
  have hok := (hT _ _ hi).2
  cases hk : i.k <;> simp only [hk] at h2 hok
  case str =>
   have h4 := evK_iff hr (evK_iff hr h2)
   cases hc : a.eval x <;> simp only [hc] at h4
   case string s =>
    obtain ⟨⟨l⟩⟩ := s
    cases hj : a.eval ix <;> simp only [hj] at h4
    case int k j =>
     obtain ⟨h41, h42⟩ := h4
     have hb : j.toNat < l.length := by omega
     refine ⟨_, h42, fun w => ?_⟩
     have hg : (ByteArray.mk ⟨l⟩)[j.toNat]? = some (l.getD j.toNat 0) := by
      rw [getElem?_pos _ _ (by simpa [ByteArray.size] using hb)]; simp [hb]; rfl
     simp [execOp, hc, hj, Instr.index, run_underlying hok, asIntOf, h41.1, hg]
  case arr n el sz =>
   obtain ⟨v, hrun, hv⟩ := (evK_iff hr (evK_iff hr h2)).out
   exact ⟨v, hv, fun w => by simp [execOp, hrun w]⟩
/-! ## Reading operations: the world stays, the value is one in every world of a class C -/
structure LdC (C : World → Prop) (a : Addr) (K : Value → Prop) : Prop where
 out : ∃ v, (∀ w, C w → w.cell? a = some v) ∧ K v
structure LdN (C : World → Prop) (n b off : Nat) (K : List Value → Prop) : Prop where
 out : ∃ cs : List Value, cs.length = n ∧ (∀ w, C w → ∀ j v, cs[j]? = some v → w.cell? ⟨b, off + j, none⟩ = some v) ∧ K cs
structure RdG (P : Program) (s : Sem Value) (C : World → Prop) (K : Value → Prop) : Prop where
 out : ∃ v, (∀ w, C w → s.run P w = .ok v w) ∧ K v
def subA (b off lo cap esz : Nat) : Option Addr := some (if cap = lo then ⟨b, off, none⟩ else ⟨b, off + lo * esz, none⟩)
theorem subA_zero (b off cap esz : Nat) : subA b off 0 cap esz = some ⟨b, off, none⟩ := by unfold subA; split <;> simp
def opK (e : Env) : Option Operand → (Option Value → Prop) → Prop
 |none, K => K none
 |some x, K => evK e x fun v => K (some v)
theorem opK_iff {N : Nat} {e : Env} {a : Act} (h : Rel ds N e a) {x : Option Operand} {K : Option Value → Prop} (hk : opK e x K) : K (x.map a.eval) := by
 cases x with
 |none => exact hk
 |some x => exact evK_iff (K := fun v => K (some v)) h hk
def sliceStr (l : List UInt8) (lo hi : Option Value) (K : Value → Prop) : Prop :=
 match lo, hi with
 |none, none => K (Str l)
 |some (.int _ i), none => Chk (0 ≤ i ∧ i ≤ l.length) (K (Str (l.drop i.toNat)))
 |none, some (.int _ j) => Chk (0 ≤ j ∧ j ≤ l.length) (K (Str (l.take j.toNat)))
 |some (.int _ i), some (.int _ j) => Chk (0 ≤ i ∧ i ≤ j ∧ j ≤ l.length) (K (Str ((l.take j.toNat).drop i.toNat)))
 |_, _ => False
def sliceSl (b off len cap esz : Nat) (lo hi : Option Value) (K : Value → Prop) : Prop :=
 match lo, hi with
 |none, none => K (.slice (some ⟨b, off, none⟩) len cap)
 |some (.int _ i), none => Chk (0 ≤ i ∧ i ≤ len) (K (.slice (subA b off i.toNat cap esz) (len - i.toNat) (cap - i.toNat)))
 |none, some (.int _ j) => Chk (0 ≤ j ∧ j ≤ cap) (K (.slice (some ⟨b, off, none⟩) j.toNat cap))
 |some (.int _ i), some (.int _ j) => Chk (0 ≤ i ∧ i ≤ j ∧ j ≤ cap) (K (.slice (subA b off i.toNat cap esz) (j.toNat - i.toNat) (cap - i.toNat)))
 |_, _ => False
def sliceNl (len cap : Nat) (lo hi : Option Value) (K : Value → Prop) : Prop :=
 match lo, hi with
 |none, none => K (.slice none len cap)
 |some (.int _ i), none => Chk (0 ≤ i ∧ i ≤ len) (K (.slice none (len - i.toNat) (cap - i.toNat)))
 |none, some (.int _ j) => Chk (0 ≤ j ∧ j ≤ cap) (K (.slice none j.toNat cap))
 |some (.int _ i), some (.int _ j) => Chk (0 ≤ i ∧ i ≤ j ∧ j ≤ cap) (K (.slice none (j.toNat - i.toNat) (cap - i.toNat)))
 |_, _ => False
def mnI (x y : Int) : Int := if y < x then y else x
def mxI (x y : Int) : Int := if x < y then y else x
def bltG (P : Program) (T : Tbl) (C : World → Prop) (b : Builtin) (ts : List TypeId) (ty : TypeId) (vs : List Value) (K : Value → Prop) : Prop :=
 match b, ts, vs with
 |.len, t :: _, [.string ⟨⟨l⟩⟩] => tK T t fun i => match i.k with | .str => K (.int .i64 l.length) | _ => False
 |.len, t :: _, [.slice _ n _] => tK T t fun i => match i.k with | .slice _ _ => K (.int .i64 n) | _ => False
 |.cap, t :: _, [.slice _ _ n] => tK T t fun i => match i.k with | .slice _ _ => K (.int .i64 n) | _ => False
 |.min, _, [.int k x, .int _ y] => K (.int k (if y < x then y else x))
 |.max, _, [.int k x, .int _ y] => K (.int k (if x < y then y else x))
 |.min, _, [.int k x, .int _ y, .int _ z] => K (.int k (mnI (mnI x y) z))
 |.max, _, [.int k x, .int _ y, .int _ z] => K (.int k (mxI (mxI x y) z))
 |.max, _, [.int k x, .int _ y, .int _ z, .int _ u] => K (.int k (mxI (mxI (mxI x y) z) u))
 |.max, _, [.int k x, .int _ y, .int _ z, .int _ u, .int _ v] => K (.int k (mxI (mxI (mxI (mxI x y) z) u) v))
 |.max, _, [.int k x, .int _ y, .int _ z, .int _ u, .int _ v, .int _ w] => K (.int k (mxI (mxI (mxI (mxI (mxI x y) z) u) v) w))
 |.len, ts, [.map m] => RdG P (Builtin.len_ ⟨ts⟩ ty #[.map m]) C K
 |_, _, _ => False
inductive OpKind where
 |pure | read | eff
 deriving DecidableEq
def kind (T : Tbl) : Op → OpKind
 |.convert s d _ => match tf T d, tf T s with | some { k := .int _, .. }, _ => .pure | some { k := .str, .. }, some { k := .str, .. } => .pure | some { k := .str, .. }, some { k := .slice .., .. } => .read | some { k := .str, .. }, some { k := .int _, .. } => .read | _, _ => .eff
 |.move _ | .assign _ | .pick .. | .binOp .. | .unOp .. | .nilCheck _ | .extract .. | .fieldAddr .. | .indexAddr .. | .index .. | .makeInterface .. => .pure
 |.makeFunc (.method _) .. => .pure
 |.load .. | .slice .. | .lookup .. | .build .. | .field .. => .read
 |.call { callee := .builtin b, .. } => match b with | .len | .cap | .min | .max => .read | _ => .eff
 |_ => .eff
/-! ### Struct values -/
def partsK (e : Env) : List (Nat × Operand) → (List (Nat × Value) → Prop) → Prop
 |[], K => K []
 |(i, x) :: r, K => evK e x fun v => partsK e r fun vs => K ((i, v) :: vs)
theorem partsK_iff {N : Nat} {e : Env} {a : Act} (h : Rel ds N e a) : ∀ {xs : List (Nat × Operand)} {K : List (Nat × Value) → Prop}, partsK e xs K → K (xs.map fun (i, x) => (i, a.eval x))
 |[], _, hk => hk
 |(i, x) :: xs, K, hk => by
  have h1 := evK_iff h hk
  exact partsK_iff (xs := xs) (K := fun vs => K ((i, a.eval x) :: vs)) h h1
def putK : List Value → Nat → List Value → (List Value → Prop) → Prop
 |l, _, [], K => K l
 |[], _, _ :: _, _ => False
 |_ :: t, 0, v :: vs, K => putK t 0 vs fun r => K (v :: r)
 |x :: t, n + 1, v :: vs, K => putK t n (v :: vs) fun r => K (x :: r)
def splice (l : List Value) (off : Nat) (vs : List Value) : List Value := l.take off ++ vs ++ l.drop (off + vs.length)
theorem putK_iff : ∀ (l : List Value) (off : Nat) (vs : List Value) (K : List Value → Prop), putK l off vs K → (off + vs.length ≤ l.length ∨ vs = []) ∧ K (splice l off vs)
 |l, off, [], K, h => by
  refine ⟨.inr rfl, ?_⟩
  have : putK l off [] K = K l := by cases l <;> rfl
  rw [this] at h
  simpa [splice] using h
 |[], _, _ :: _, K, h => h.elim
 |x :: t, 0, v :: vs, K, h => by
  obtain ⟨h1, h2⟩ := putK_iff t 0 vs _ h
  refine ⟨.inl ?_, ?_⟩
  ·rcases h1 with h1 | rfl <;> simp at * <;> omega
  ·simpa [splice, Nat.add_comm] using h2
 |x :: t, n + 1, v :: vs, K, h => by
  obtain ⟨h1, h2⟩ := putK_iff t n (v :: vs) _ h
  refine ⟨.inl ?_, ?_⟩
  ·rcases h1 with h1 | h1 <;> simp at * <;> omega
  ·have e : splice (x :: t) (n + 1) (v :: vs) = x :: splice t n (v :: vs) := by
    unfold splice
    rw [show n + 1 + (v :: vs).length = (n + (v :: vs).length) + 1 by omega]
    rfl
   rw [e]; exact h2
def cellsK (v : Value) (K : List Value → Prop) : Prop := match v with | .agg ⟨l⟩ => K l | v => K [v]
theorem cellsK_iff {v : Value} {K : List Value → Prop} (h : cellsK v K) : K v.cells.toList := by
 cases v <;> exact h
def fillK (place : Nat → Option (Nat × Nat)) : List Value → List (Nat × Value) → (List Value → Prop) → Prop
 |cs, [], K => K cs
 |cs, (i, v) :: r, K => match place i with
  |some (off, size) => cellsK v fun l => match Nat.beq l.length size, l with
   |true, _ :: _ => putK cs off l fun cs' => fillK place cs' r K
   |_, _ => False
  |none => False
theorem foldl_setIf (l : List Value) : ∀ (cs : List Value) (off : Nat), off + l.length ≤ cs.length →
  ((l.zipIdx).foldl (fun (cs : Array Value) (x : Value × Nat) => cs.setIfInBounds (off + x.2) x.1) ⟨cs⟩) = ⟨splice cs off l⟩ := by
 suffices H : ∀ (l : List Value) (k : Nat) (cs : List Value) (off : Nat), off + k + l.length ≤ cs.length →
   ((l.zipIdx k).foldl (fun (cs : Array Value) (x : Value × Nat) => cs.setIfInBounds (off + x.2) x.1) ⟨cs⟩) = ⟨splice cs (off + k) l⟩ from fun cs off h => by simpa using H l 0 cs off (by simpa using h)
 intro l
 induction l with
 |nil => intro k cs off h; simp [splice]
 |cons v l ih =>
  intro k cs off h
  simp only [List.zipIdx_cons, List.foldl_cons, List.length_cons] at h ⊢
  have : (Array.mk cs).setIfInBounds (off + k) v = ⟨cs.set (off + k) v⟩ := by simp
  rw [this, ih (k + 1) _ off (by simp; omega)]
  congr 1
  unfold splice
  have e1 : off + (k + 1) = (off + k) + 1 := by omega
  rw [e1, List.take_set, List.drop_set]
  rw [if_pos (by omega)]
  rw [List.take_succ_eq_append_getElem (by omega)]
  rw [List.set_append_right _ _ (by simp; omega)]
  simp only [List.length_take, List.length_cons]
  rw [show off + k - min (off + k) cs.length = 0 by omega]
  simp [Nat.add_assoc, Nat.add_comm, Nat.add_left_comm]
theorem fillK_iff (place : Nat → Option (Nat × Nat)) : ∀ (ps : List (Nat × Value)) (cs : List Value) (K : List Value → Prop), fillK place cs ps K →
  ∃ cs', Instr.fill place ⟨cs⟩ ps = some ⟨cs'⟩ ∧ K cs'
 |[], cs, K, h => ⟨cs, rfl, h⟩
 |(i, v) :: r, cs, K, h => by
  simp only [fillK] at h
  cases hp : place i with
  |none => simp [hp] at h
  |some x =>
   obtain ⟨off, size⟩ := x
   simp only [hp] at h
   have h1 := cellsK_iff h
   cases hb : Nat.beq v.cells.toList.length size with
   |false => simp only [hb] at h1
   |true =>
    have hsz := Nat.eq_of_beq_eq_true hb
    rw [hb] at h1
    cases hl : v.cells.toList with
    |nil => simp only [hl] at h1
    |cons x xs =>
     simp only [hl] at h1
     rw [← hl] at h1
     obtain ⟨h2, h3⟩ := putK_iff _ _ _ _ h1
     have h4 : off + v.cells.toList.length ≤ cs.length := by
      rcases h2 with h2 | h2
      ·exact h2
      ·rw [hl] at h2; cases h2
     obtain ⟨cs', h5, h6⟩ := fillK_iff place r _ K h3
     refine ⟨cs', ?_, h6⟩
     have hs2 : v.cells.size = size := by simpa using hsz
     have hf := foldl_setIf v.cells.toList cs off h4
     have hz : v.cells.zipIdx.foldl (fun (cs : Array Value) (x : Value × Nat) => cs.setIfInBounds (off + x.2) x.1) ⟨cs⟩ = ⟨splice cs off v.cells.toList⟩ := by
      rw [← hf, ← Array.foldl_toList]; simp
     simp only [Instr.fill, hp]
     rw [if_neg (by simp only [hs2, List.size_toArray, ne_eq, not_true_eq_false]; simp at h4; simp; omega)]
     refine Eq.trans (congrArg (fun z => Instr.fill place z r) ?_) h5
     exact hz
theorem places_of (P : Program) : ∀ (d : List Field) (fs : List (Nat × Nat)), d.map (fun f => (f.offset, (P.info? f.type).map (·.size))) = fs.map (fun x => (x.1, some x.2)) →
  d.mapM (fun f => (P.info? f.type).map fun i => (f.offset, i.size)) = some fs
 |[], [], _ => rfl
 |[], _ :: _, h => by simp at h
 |_ :: _, [], h => by simp at h
 |f :: d, (o, sz) :: fs, h => by
  simp only [List.map_cons, List.cons.injEq, Prod.mk.injEq] at h
  obtain ⟨⟨h1, h2⟩, h3⟩ := h
  have ih := places_of P d fs h3
  simp only [List.mapM_cons, ih]
  cases hi : P.info? f.type with
  |none => rw [hi] at h2; simp at h2
  |some i => rw [hi] at h2; simp at h2; simp [h1, h2]
def readG (P : Program) (T : Tbl) (e : Env) (C : World → Prop) (o : Oper) (K : Value → Prop) : Prop :=
 match o.op with
 |.load t x => tK T t fun i => evK e x fun a => match a with
  |.pointer (some ⟨b, off, none⟩) => (match i.agg with | false => LdC C ⟨b, off, none⟩ K | true => LdN C i.size b off fun cs => K (.agg ⟨cs⟩))
  |_ => False
 |.slice t x lo hi none => tK T t fun i => evK e x fun a => opK e lo fun lo => opK e hi fun hi => match i.k, a with
  |.str, .string ⟨⟨l⟩⟩ => sliceStr l lo hi K
  |.slice _ esz, .slice (some ⟨b, off, none⟩) len cap => sliceSl b off len cap esz lo hi K
  |.slice _ _, .slice none len cap => sliceNl len cap lo hi K
  |.arr _ _ _, a => RdG P (Instr.sliceAt t a lo hi none) C K
  |_, _ => False
 |.slice t x lo hi (some mx) => evK e x fun a => opK e lo fun lo => opK e hi fun hi => evK e mx fun mx => RdG P (Instr.sliceAt t a lo hi (some mx)) C K
 |.lookup t m k ok => evK e m fun m => evK e k fun k => RdG P (Instr.lookup t m k ok) C K
 |.field t x f => evK e x fun v => RdG P (Instr.field t v f) C K
 |.convert s d x => evK e x fun v => RdG P (convert s d v) C K
 |.build t parts => tK T t fun i => cellsK i.zero fun z => partsK e parts.toList fun ps => match i.k with
  |.struct fs => fillK (fun n => fs[n]?) z ps fun cs => K (.agg ⟨cs⟩)
  |.arr _ _ esz => fillK (fun n => some (n * esz, esz)) z ps fun cs => K (.agg ⟨cs⟩)
  |_ => False
 |.call { callee := .builtin b, args, argTypes } => evsK e args.toList fun vs => bltG P T C b argTypes.toList o.type vs K
 |_ => False
theorem load_one {P : Program} {T : Tbl} (hT : TOk P T) {t : TypeId} {i : TI} (hi : tf T t = some i) (ha : i.agg = false) (w : World) : (isAgg t).run P w = .ok false w := by
 have hok := (hT _ _ hi).2
 unfold TI.agg at ha
 unfold isAgg
 cases hk : i.k <;> simp only [hk, TK.ok] at hok ha
 case int => simp [run_underlying hok]
 case bool => simp [run_underlying hok]
 case str => simp [run_underlying hok]
 case ptr => simp [run_underlying hok]
 case slice => simp [run_underlying hok.1]
 case map => simp [run_underlying hok]
 case iface => obtain ⟨_, hok⟩ := hok; simp [run_underlying hok]
 case fn => obtain ⟨_, _, _, hok⟩ := hok; simp [run_underlying hok]
 all_goals simp at ha
theorem load_agg {P : Program} {T : Tbl} (hT : TOk P T) {t : TypeId} {i : TI} (hi : tf T t = some i) (ha : i.agg = true) (w : World) : (isAgg t).run P w = .ok true w := by
 have hok := (hT _ _ hi).2
 unfold TI.agg at ha
 unfold isAgg
 cases hk : i.k <;> simp only [hk, TK.ok] at hok ha
 case struct => obtain ⟨_, hok, _⟩ := hok; simp [run_underlying hok]
 case arr => simp [run_underlying hok.1]
 all_goals simp at ha
theorem size_of {P : Program} {T : Tbl} (hT : TOk P T) {t : TypeId} {i : TI} (hi : tf T t = some i) (w : World) : (sizeOf t).run P w = .ok i.size w := by
 have hok := (hT _ _ hi).1
 cases hinf : P.info? t with
 |none => rw [hinf] at hok; simp at hok
 |some inf => rw [hinf] at hok; simp at hok; simp [sizeOf, typeInfo, hinf, hok]
theorem zero_of {P : Program} {T : Tbl} (hT : TOk P T) {t : TypeId} {i : TI} (hi : tf T t = some i) (w : World) : (zeroValue t).run P w = .ok i.zero w := by
 have hok := (hT _ _ hi).1
 cases hinf : P.info? t with
 |none => rw [hinf] at hok; simp at hok
 |some inf => rw [hinf] at hok; simp at hok; simp [zeroValue, typeInfo, hinf, hok]
theorem loadCells_of (P : Program) (w : World) (b off : Nat) (cs : List Value) (h : ∀ j v, cs[j]? = some v → w.cell? ⟨b, off + j, none⟩ = some v) :
  (loadCells ⟨b, off, none⟩ cs.length).run P w = .ok ⟨cs⟩ w := by
 have := run_loadCells_list (P := P) (w := w) ⟨b, off, none⟩ cs (fun j v hv => by rw [Addr.add_eq]; exact h j v hv)
 simpa using this
theorem bltG_sound {P : Program} {T : Tbl} (hT : TOk P T) {C : World → Prop} {b : Builtin} {ts : List TypeId} {ty : TypeId} {vs : List Value} {cs : Array Bool} {K : Value → Prop}
  (h : bltG P T C b ts ty vs K) : ∃ v, K v ∧ ∀ w, C w → (builtin b ⟨ts⟩ ty cs ⟨vs⟩).run P w = .ok (.value v) w := by
 unfold bltG at h
 split at h
 ·rename_i t _ l
  obtain ⟨i, hi, h⟩ := (tK_iff _ _ _).1 h
  have hok := (hT _ _ hi).2
  cases hk : i.k <;> simp only [hk] at h hok
  case str => exact ⟨_, h, fun w _ => by simp [builtin, Builtin.len_, run_underlying (show P.underlying t = some .string from hok)]; rfl⟩
 ·rename_i t _ a n c
  obtain ⟨i, hi, h⟩ := (tK_iff _ _ _).1 h
  have hok := (hT _ _ hi).2
  cases hk : i.k <;> simp only [hk] at h hok
  case slice e esz => exact ⟨_, h, fun w _ => by simp [builtin, Builtin.len_, run_underlying hok.1, goInt]⟩
 ·rename_i t _ a c n
  obtain ⟨i, hi, h⟩ := (tK_iff _ _ _).1 h
  have hok := (hT _ _ hi).2
  cases hk : i.k <;> simp only [hk] at h hok
  case slice e esz => exact ⟨_, h, fun w _ => by simp [builtin, Builtin.cap_, run_underlying hok.1, goInt]⟩
 ·exact ⟨_, h, fun w _ => by simp [builtin, Builtin.min_, Builtin.min2]⟩
 ·exact ⟨_, h, fun w _ => by simp [builtin, Builtin.max_, Builtin.max2]⟩
 ·exact ⟨_, h, fun w _ => by simp [builtin, Builtin.min_, Builtin.min2]; rfl⟩
 ·exact ⟨_, h, fun w _ => by simp [builtin, Builtin.max_, Builtin.max2]; rfl⟩
 ·exact ⟨_, h, fun w _ => by simp [builtin, Builtin.max_, Builtin.max2]; rfl⟩
 ·exact ⟨_, h, fun w _ => by simp [builtin, Builtin.max_, Builtin.max2]; rfl⟩
 ·exact ⟨_, h, fun w _ => by simp [builtin, Builtin.max_, Builtin.max2]; rfl⟩
 ·obtain ⟨v, h1, h2⟩ := h.out
  exact ⟨v, h2, fun w hw => by simp [builtin, h1 w hw]⟩
 ·exact h.elim
theorem readG_sound {P : Program} {T : Tbl} (hT : TOk P T) {N : Nat} {e : Env} {a : Act} (hr : Rel ds N e a) {o : Oper} {C : World → Prop} {K : Value → Prop} (h : readG P T e C o K) :
  ∃ v, K v ∧ ∀ w, C w → (execOp a.eval o).run P w = .ok (.value v) w := by
 obtain ⟨dst, op, ty, pos, after, guard⟩ := o
 cases op <;> simp only [readG] at h
 case load t x =>
  obtain ⟨i, hi, h⟩ := (tK_iff _ _ _).1 h
  have h := evK_iff hr h
  cases hc : a.eval x <;> simp only [hc] at h
  case pointer p =>
   rcases p with _ | ⟨b, off, _ | sp⟩
   ·exact h.elim
   rotate_left
   ·exact h.elim
   simp only at h
   cases hagg : i.agg <;> simp only [hagg] at h
   case false =>
    obtain ⟨v, h1, h2⟩ := h.out
    exact ⟨v, h2, fun w hw => by simp [execOp, hc, Instr.loadAt, Instr.sureAddr, loadVar, load_one hT hi hagg, run_load, h1 w hw]⟩
   case true =>
    obtain ⟨cs, h1, h2, h3⟩ := h.out
    refine ⟨_, h3, fun w hw => ?_⟩
    have := loadCells_of P w b off cs (h2 w hw)
    rw [h1] at this
    simp [execOp, hc, Instr.loadAt, Instr.sureAddr, loadVar, load_agg hT hi hagg, size_of hT hi, this]
 case slice t x lo hi mx =>
  cases mx with
  |some mx =>
   simp only at h
   obtain ⟨v, h1, h2⟩ := RdG.out (evK_iff hr (opK_iff hr (opK_iff hr (evK_iff hr h))))
   exact ⟨v, h2, fun w hw => by simp [execOp, h1 w hw]⟩
  |none =>
   simp only at h
   obtain ⟨i, hi', h⟩ := (tK_iff _ _ _).1 h
   have hok := (hT _ _ hi').2
   have h := opK_iff hr (opK_iff hr (evK_iff hr h))
   cases hk : i.k <;> simp only [hk] at h hok
   case arr n el esz =>
    obtain ⟨v, h1, h2⟩ := RdG.out h
    exact ⟨v, h2, fun w hw => by simp [execOp, h1 w hw]⟩
   case str =>
    cases hc : a.eval x <;> simp only [hc] at h
    case string s =>
     obtain ⟨⟨l⟩⟩ := s
     simp only at h
     have hu : P.underlying t = some .string := hok
     have hsz : (ByteArray.mk ⟨l⟩).size = l.length := rfl
     suffices hs : ∃ v, K v ∧ ∀ w, (Instr.slice t (.string ⟨⟨l⟩⟩) (lo.map a.eval) (hi.map a.eval) none).run P w = .ok v w from (by
      obtain ⟨v, h1, h2⟩ := hs
      exact ⟨v, h1, fun w _ => by simp [execOp, hc, run_sliceAt_string w t _ _ _ _ hu, h2]⟩)
     generalize lo.map a.eval = lo at h ⊢
     generalize hi.map a.eval = hi at h ⊢
     rcases lo with _ | lo <;> rcases hi with _ | hi
     ·simp only [sliceStr] at h
      refine ⟨_, h, fun w => ?_⟩
      rw [run_slice_string_all w t _ hu, bytes_extract, hsz]; simp
     ·cases hi <;> simp only [sliceStr] at h
      case none.some.int k j =>
       obtain ⟨h0, h⟩ := h
       refine ⟨_, h, fun w => ?_⟩
       rw [run_slice_string_h w t _ hu k j (by omega) (by rw [hsz]; omega), bytes_extract]; simp
     ·cases lo <;> simp only [sliceStr] at h
      case some.none.int k i =>
       obtain ⟨h0, h⟩ := h
       refine ⟨_, h, fun w => ?_⟩
       rw [run_slice_string_l w t _ hu k i (by omega) (by rw [hsz]; omega), bytes_extract, hsz]; simp
     ·cases lo <;> cases hi <;> simp only [sliceStr] at h
      case some.some.int.int k i k' j =>
       obtain ⟨h0, h⟩ := h
       refine ⟨_, h, fun w => ?_⟩
       rw [run_slice_string w t _ k k' i j hu (by omega) (by omega) (by rw [hsz]; omega), bytes_extract]
   case slice el esz =>
    cases hc : a.eval x <;> simp only [hc] at h
    case slice p len cap =>
     rcases p with _ | ⟨b, off, _ | sp⟩
     ·simp only at h
      have hu0 : P.underlying t = some (.slice el) := hok.1
      have hel : P.elem t = el := by simp [Program.elem, hu0]
      have hu : P.underlying t = some (.slice (P.elem t)) := by rw [hel]; exact hu0
      have hsz : ∀ w, (sizeOf (P.elem t)).run P w = .ok esz w := fun w => by
       rw [hel]
       have := hok.2
       cases hinf : P.info? el with
       |none => rw [hinf] at this; simp at this
       |some inf => rw [hinf] at this; simp at this; simp [sizeOf, typeInfo, hinf, this]
      suffices hs : ∃ v, K v ∧ ∀ w, (Instr.slice t (.slice none len cap) (lo.map a.eval) (hi.map a.eval) none).run P w = .ok v w from (by
       obtain ⟨v, h1, h2⟩ := hs
       exact ⟨v, h1, fun w _ => by simp [execOp, hc, run_sliceAt_slice w t _ _ _ _ hu, h2]⟩)
      have hA : ∀ l : Nat, (if cap = l then (none : Option Addr) else (none : Option Addr).map (·.add (l * esz))) = none := fun l => by split <;> rfl
      generalize lo.map a.eval = lo at h ⊢
      generalize hi.map a.eval = hi at h ⊢
      rcases lo with _ | lo <;> rcases hi with _ | hi
      ·simp only [sliceNl] at h
       refine ⟨_, h, fun w => ?_⟩
       rw [run_slice_all w t _ len cap hu]; simp only [hsz, Result.andThen_ok, sliced, hA, Nat.sub_zero]
      ·cases hi <;> simp only [sliceNl] at h
       case none.some.int k j =>
        obtain ⟨h0, h⟩ := h
        refine ⟨_, h, fun w => ?_⟩
        rw [run_slice_h w t _ len cap hu k j (by omega) (by omega)]; simp only [hsz, Result.andThen_ok, sliced, hA, Nat.sub_zero]
      ·cases lo <;> simp only [sliceNl] at h
       case some.none.int k i =>
        obtain ⟨h0, h⟩ := h
        refine ⟨_, h, fun w => ?_⟩
        rw [run_slice_l w t _ len cap hu k i (by omega) (by omega)]; simp only [hsz, Result.andThen_ok, sliced, hA]
      ·cases lo <;> cases hi <;> simp only [sliceNl] at h
       case some.some.int.int k i k' j =>
        obtain ⟨h0, h⟩ := h
        refine ⟨_, h, fun w => ?_⟩
        rw [run_slice_lh w t _ len cap hu k k' i j (by omega) (by omega) (by omega)]; simp only [hsz, Result.andThen_ok, sliced, hA]
     rotate_left
     ·exact h.elim
     simp only at h
     have hu0 : P.underlying t = some (.slice el) := hok.1
     have hel : P.elem t = el := by simp [Program.elem, hu0]
     have hu : P.underlying t = some (.slice (P.elem t)) := by rw [hel]; exact hu0
     have hsz : ∀ w, (sizeOf (P.elem t)).run P w = .ok esz w := fun w => by
      rw [hel]
      have := hok.2
      cases hinf : P.info? el with
      |none => rw [hinf] at this; simp at this
      |some inf => rw [hinf] at this; simp at this; simp [sizeOf, typeInfo, hinf, this]
     suffices hs : ∃ v, K v ∧ ∀ w, (Instr.slice t (.slice (some ⟨b, off, none⟩) len cap) (lo.map a.eval) (hi.map a.eval) none).run P w = .ok v w from (by
      obtain ⟨v, h1, h2⟩ := hs
      exact ⟨v, h1, fun w _ => by simp [execOp, hc, run_sliceAt_slice w t _ _ _ _ hu, h2]⟩)
     have hA : ∀ l : Nat, (if cap = l then some (⟨b, off, none⟩ : Addr) else (some (⟨b, off, none⟩ : Addr)).map (·.add (l * esz))) = subA b off l cap esz := fun l => by
      unfold subA; simp only [Option.map_some, Addr.add_eq]; split <;> rfl
     generalize lo.map a.eval = lo at h ⊢
     generalize hi.map a.eval = hi at h ⊢
     rcases lo with _ | lo <;> rcases hi with _ | hi
     ·simp only [sliceSl] at h
      refine ⟨_, h, fun w => ?_⟩
      rw [run_slice_all w t _ len cap hu]; simp only [hsz, Result.andThen_ok, sliced, hA, Nat.sub_zero, subA_zero]
     ·cases hi <;> simp only [sliceSl] at h
      case none.some.int k j =>
       obtain ⟨h0, h⟩ := h
       refine ⟨_, h, fun w => ?_⟩
       rw [run_slice_h w t _ len cap hu k j (by omega) (by omega)]; simp only [hsz, Result.andThen_ok, sliced, hA, Nat.sub_zero, subA_zero]
     ·cases lo <;> simp only [sliceSl] at h
      case some.none.int k i =>
       obtain ⟨h0, h⟩ := h
       refine ⟨_, h, fun w => ?_⟩
       rw [run_slice_l w t _ len cap hu k i (by omega) (by omega)]; simp only [hsz, Result.andThen_ok, sliced, hA]
     ·cases lo <;> cases hi <;> simp only [sliceSl] at h
      case some.some.int.int k i k' j =>
       obtain ⟨h0, h⟩ := h
       refine ⟨_, h, fun w => ?_⟩
       rw [run_slice_lh w t _ len cap hu k k' i j (by omega) (by omega) (by omega)]; simp only [hsz, Result.andThen_ok, sliced, hA]
 case lookup t m k ok =>
  obtain ⟨v, h1, h2⟩ := (evK_iff hr (evK_iff hr h)).out
  exact ⟨v, h2, fun w hw => by simp [execOp, h1 w hw]⟩
 case field t x f =>
  obtain ⟨v, h1, h2⟩ := (evK_iff hr h).out
  exact ⟨v, h2, fun w hw => by simp [execOp, h1 w hw]⟩
 case convert sT dT x =>
  obtain ⟨v, h1, h2⟩ := (evK_iff hr h).out
  exact ⟨v, h2, fun w hw => by simp [execOp, h1 w hw]⟩
 case build t parts =>
  obtain ⟨i, hi, h⟩ := (tK_iff _ _ _).1 h
  have h := partsK_iff hr (cellsK_iff h)
  have hok := (hT _ _ hi)
  have hp : (parts.map fun (i, x) => (i, a.eval x)).toList = parts.toList.map fun (i, x) => (i, a.eval x) := by simp
  cases hinf : P.info? t with
  |none => have := hok.1; rw [hinf] at this; simp at this
  |some inf =>
   have hz : inf.zero = some i.zero := by have := hok.1; rw [hinf] at this; simp at this; exact this.1
   have hok2 := hok.2
   cases hk : i.k <;> simp only [hk] at h hok2
   case struct fs =>
    obtain ⟨cs, h1, h2⟩ := fillK_iff _ _ _ _ h
    obtain ⟨d, hd, hm⟩ := hok2
    refine ⟨_, h2, fun w _ => ?_⟩
    have hb : P.built t (parts.map fun (i, x) => (i, a.eval x)).toList = some ⟨cs⟩ := by
     rw [hp]; unfold Program.built
     simp only [hinf, hd, hz, places_of P d.toList fs hm]
     simpa using h1
    simp [execOp, run_build w t _ _ hb]
   case arr n e esz =>
    obtain ⟨cs, h1, h2⟩ := fillK_iff _ _ _ _ h
    refine ⟨_, h2, fun w _ => ?_⟩
    have hie := hok2.2
    cases hinf2 : P.info? e with
    |none => rw [hinf2] at hie; simp at hie
    |some ie =>
     have hs : ie.size = esz := by rw [hinf2] at hie; simpa using hie
     have hb : P.built t (parts.map fun (i, x) => (i, a.eval x)).toList = some ⟨cs⟩ := by
      rw [hp]; unfold Program.built
      simp only [hinf, hok2.1, hz, hinf2, hs]
      simpa using h1
     simp [execOp, run_build w t _ _ hb]
 case call c =>
  obtain ⟨callee, args, argTypes⟩ := c
  cases callee with
  |value => exact h.elim
  |invoke => exact h.elim
  |builtin b =>
   obtain ⟨v, h1, h2⟩ := bltG_sound (cs := args.map fun | .const _ => true | _ => false) hT (evsK_iff hr h)
   refine ⟨v, h1, fun w hw => ?_⟩
   have := h2 w hw
   have e2 : (⟨List.map a.eval args.toList⟩ : Array Value) = args.map a.eval := by rw [← Array.toList_map]
   rw [e2] at this
   simp only [execOp, resolve, invoke, Sem.run_bind, Sem.run_pure, Result.andThen_ok]
   exact this
/-! ## Operations that change memory, and calls -/
structure AllG (w : World) (o : Obj) (K : Nat → World → Prop) : Prop where
 out : K w.heap.size (w.alloc o)
structure StG (w : World) (b off : Nat) (vs : List Value) (K : World → Prop) : Prop where
 out : ∃ l t fz, w.heap[b]? = some (.cells ⟨l⟩ t fz) ∧ (fz.2 ≤ off ∨ off + vs.length ≤ fz.1) ∧ off + vs.length ≤ l.length ∧ (∀ v ∈ vs, v.oneCell' = true) ∧ K (w.setRow b ⟨splice l off vs⟩)
theorem run_storeCells_fz (P : Program) (g o : Nat) (t : TypeId) (fz : Nat × Nat) : ∀ (vs : List Value) (i : Nat) (cur : Array Value) (w : World), w.heap[g]? = some (.cells cur t fz) → (fz.2 ≤ o + i ∨ o + i + vs.length ≤ fz.1) → o + i + vs.length ≤ cur.size → (∀ v ∈ vs, v.oneCell' = true) →
  (storeCells ⟨g, o, none⟩ vs i).run P w = .ok () (w.setRow g (cur.toList.take (o + i) ++ vs ++ cur.toList.drop (o + i + vs.length)).toArray)
 |[], i, cur, w, hg, _, _, _ => by
  simp only [storeCells, List.append_nil, List.length_nil, Nat.add_zero, List.take_append_drop, Array.toArray_toList]
  rw [setRow_self w g cur t fz hg]
  rfl
 |v :: rest, i, cur, w, hg, hfz, hl, h1 => by
  have hi : o + i < cur.size := by simp at hl; omega
  have hadd : (⟨g, o, none⟩ : Addr).add i = ⟨g, o + i, none⟩ := by unfold Addr.add; split <;> simp_all
  have hcell : w.cell? ⟨g, o + i, none⟩ = some cur[o + i] := by simp [World.cell?, hg, hi]
  simp only [List.length_cons] at hfz hl
  have hfro : w.frozen? ⟨g, o + i, none⟩ = false := by
   obtain ⟨lo, hi'⟩ := fz
   simp only [World.frozen?, hg, Bool.and_eq_false_iff, decide_eq_false_iff_not]
   simp only at hfz
   omega
  have hst : (store ((⟨g, o, none⟩ : Addr).add i) v).run P w = .ok () (w.setRow g (cur.setIfInBounds (o + i) v)) := by
   rw [hadd, run_store P w _ v _ (h1 v (by simp)), hcell]
   simp [hfro, setCell_eq_setRow w g (o + i) cur t fz v hg]
  have ih := run_storeCells_fz P g o t fz rest (i + 1) (cur.setIfInBounds (o + i) v) (w.setRow g (cur.setIfInBounds (o + i) v)) (setRow_heap w g cur _ t _ hg) (by omega) (by simp at hl ⊢; omega) (fun x hx => h1 x (by simp [hx]))
  simp only [storeCells, Sem.run_bind, hst, Result.andThen_ok, ih, setRow_setRow]
  congr 3
  have e := list_seg_step cur.toList (o + i) v rest (by simp at hl ⊢; omega)
  simpa [Array.toList_setIfInBounds, Nat.add_assoc] using e
def replZ : Nat → List Value → List Value
 |0, _ => []
 |n + 1, z => z ++ replZ n z
def forceL : List Value → (List Value → Prop) → Prop
 |[], K => K []
 |x :: t, K => forceL t fun r => K (x :: r)
theorem forceL_iff : ∀ (l : List Value) (K : List Value → Prop), forceL l K ↔ K l
 |[], _ => Iff.rfl
 |_ :: t, _ => forceL_iff t _
def CallV (P : Program) (vf : Value) (vs : List Value) (w : World) (K : Value → World → Prop) : Prop :=
 match vf with
 |.func (.func f) ⟨[]⟩ ⟨[]⟩ => Cl P f vs w K
 |.func (.func f) ⟨first⟩ ⟨cap⟩ => Cl P f (first ++ vs ++ cap) w K
 |_ => False
structure InvG (P : Program) (t : TypeId) (x : Value) (name : String) (vs : List Value) (w : World) (K : Value → World → Prop) : Prop where
 out : ∃ f r, (method (P.types.size + Made.depth) t x name).run P w = .ok (f, r) w ∧ Cl P f (r :: vs) w K
def effBlt (P : Program) (b : Builtin) (ts : List TypeId) (ty : TypeId) (vs : List Value) (w : World) (K : Value → World → Prop) : Prop :=
 match b with
 |.append => RunG P (Builtin.append_ ⟨ts⟩ ty ⟨vs⟩) w K
 |.copy => RunG P (Builtin.copy_ ⟨ts⟩ ty ⟨vs⟩) w K
 |.delete => RunG P (Builtin.delete_ ⟨ts⟩ ty ⟨vs⟩) w K
 |.clear => RunG P (Builtin.clear_ ⟨ts⟩ ty ⟨vs⟩) w K
 |.unsafeSliceData => RunG P (Builtin.unsafeSliceData_ ⟨ts⟩ ty ⟨vs⟩) w K
 |.unsafeString => RunG P (Builtin.unsafeString_ ⟨ts⟩ ty ⟨vs⟩) w K
 |_ => False
def effG (P : Program) (T : Tbl) (e : Env) (o : Oper) (w : World) (K : Value → World → Prop) : Prop :=
 match o.op with
 |.alloc t => tK T t fun i => cellsK i.zero fun l => AllG w (.cells ⟨l⟩ t) fun b w' => K (.pointer (some ⟨b, 0, none⟩)) w'
 |.box t x => evK e x fun v => cellsK v fun l => AllG w (.cells ⟨l⟩ t) fun b w' => K (.pointer (some ⟨b, 0, none⟩)) w'
 |.buildSlice t len parts => tK T t fun i => match i.k with
  |.slice el esz => tK T el fun ie => cellsK ie.zero fun z => partsK e parts.toList fun ps => match Nat.beq z.length esz, Nat.ble (len * esz) 16777216 with
   |true, true => fillK (fun n => some (n * esz, esz)) (replZ len z) ps fun cs => forceL cs fun cs => AllG w (.cells ⟨cs⟩ el) fun b w' => K (.slice (some ⟨b, 0, none⟩) len len) w'
   |_, _ => False
  |_ => False
 |.store t x y => tK T t fun i => evK e x fun a => evK e y fun v => match a with
  |.pointer (some ⟨b, off, none⟩) => cellsK v fun vs => (match Nat.beq vs.length i.size with | true => StG w b off vs fun w' => K undef w' | false => False)
  |_ => False
 |.makeMap _ none => AllG w (.map #[] 0) fun b w' => K (.map (some b)) w'
 |.makeMap t (some r) => tK T t fun i => match i.k with
  |.map _ _ => evK e r fun v => (match v with | .int _ _ => AllG w (.map #[] 0) fun b w' => K (.map (some b)) w' | _ => False)
  |_ => False
 |.makeSlice t l c => evK e l fun l => evK e c fun c => RunG P (Instr.makeSlice t l c) w K
 |.mapUpdate t m k x => evK e m fun m => evK e k fun k => evK e x fun x => RunG P (Instr.mapUpdate t m k x) w fun _ w' => K undef w'
 |.insert t m k x => evK e m fun m => evK e k fun k => evK e x fun x => RunG P (Instr.mapUpdate t m k x) w fun _ w' => K undef w'
 |.convert s d x => evK e x fun x => RunG P (convert s d x) w K
 |.range t x => evK e x fun x => RunG P (Instr.range t x) w K
 |.next it s => evK e it fun it => RunG P (Instr.next it s o.type) w K
 |.entry it => evK e it fun it => RunG P (Instr.entry it) w K
 |.makeFunc fn first captured => evsK e first.toList fun f1 => evsK e captured.toList fun c1 => RunG P (Instr.makeFunc fn ⟨f1⟩ ⟨c1⟩) w K
 |.typeAssert x s d ok => evK e x fun x => RunG P (Instr.typeAssert x s d ok) w K
 |.call { callee := .invoke x name, args, .. } => evK e x fun v => evsK e args.toList fun vs => match v with | .iface t u => InvG P t u name vs w K | _ => False
 |.call { callee := .value f, args, .. } => evK e f fun vf => evsK e args.toList fun vs => CallV P vf vs w K
 |.call { callee := .builtin b, args, argTypes } => evsK e args.toList fun vs => effBlt P b argTypes.toList o.type vs w K
 |_ => False
theorem replZ_eq (z : List Value) : ∀ n, n * z.length = 0 ∨ (Array.range (n * z.length)).map (fun i => (⟨z⟩ : Array Value)[i % z.length]!) = ⟨replZ n z⟩ := by
 intro n
 by_cases hz : n * z.length = 0
 ·exact .inl hz
 refine .inr ?_
 have hpos : 0 < z.length := by
  rcases Nat.eq_zero_or_pos z.length with h | h
  ·rw [h] at hz; simp at hz
  ·exact h
 apply Array.ext'
 simp only [Array.toList_map, Array.toList_range]
 clear hz
 induction n with
 |zero => simp [replZ]
 |succ n ih =>
  rw [show (n + 1) * z.length = z.length + n * z.length by rw [Nat.add_mul]; omega]
  rw [List.range_add, List.map_append, List.map_map]
  show _ = z ++ replZ n z
  congr 1
  ·apply List.ext_getElem (by simp)
   intro i h1 h2
   simp at h1 h2
   simp [Nat.mod_eq_of_lt h1, h1]
  ·rw [← ih]
   apply List.map_congr_left
   intro i _
   simp [Function.comp]
theorem Oper.wp_value {P : Program} {o : Oper} {a : Act} {w w' : World} {next : Act → World → Prop} {Q : Exit → Act → World → Prop} {v : Value}
  (h : (execOp a.eval o).run P w = .ok (.value v) w') (hn : next (a.put o.dst v) w') : o.wp P a w next Q := by
 unfold Oper.wp; rw [h]; exact hn
theorem Oper.wp_skip {P : Program} {o : Oper} {a : Act} {w w' : World} {next : Act → World → Prop} {Q : Exit → Act → World → Prop}
  (h : (execOp a.eval o).run P w = .ok .skip w') (hn : next (a.put o.dst undef) w') : o.wp P a w next Q := by
 unfold Oper.wp; rw [h]; exact hn
theorem effG_sound {P : Program} {T : Tbl} (hT : TOk P T) {N : Nat} {e : Env} {a : Act} (hr : Rel ds N e a) {o : Oper} {w : World} {K : Value → World → Prop} (h : effG P T e o w K)
  {next : Act → World → Prop} {Q : Exit → Act → World → Prop} (hn : ∀ v w', K v w' → next (a.put o.dst v) w') : o.wp P a w next Q := by
 obtain ⟨dst, op, ty, pos, after, guard⟩ := o
 cases op <;> simp only [effG] at h
 case alloc t =>
  obtain ⟨i, hi, h⟩ := (tK_iff _ _ _).1 h
  have h := cellsK_iff h
  exact Oper.wp_value (by simp [execOp, Instr.alloc, zero_of hT hi, newVar, newRow]) (hn _ _ h.out)
 case box t x =>
  have h := cellsK_iff (evK_iff hr h)
  exact Oper.wp_value (by simp [execOp, Instr.box, newVar, newRow]) (hn _ _ h.out)
 case buildSlice t len parts =>
  obtain ⟨i, hi, h⟩ := (tK_iff _ _ _).1 h
  have hok := (hT _ _ hi).2
  cases hk : i.k <;> simp only [hk] at h hok
  case slice el esz =>
   obtain ⟨ie, hie, h⟩ := (tK_iff _ _ _).1 h
   have h := partsK_iff hr (cellsK_iff h)
   cases h1 : Nat.beq ie.zero.cells.toList.length esz <;> cases h2 : Nat.ble (len * esz) 16777216 <;> simp only [h1, h2] at h
   obtain ⟨cs, h3, h4⟩ := fillK_iff _ _ _ _ h
   have h4 := (forceL_iff _ _).1 h4
   have hz := Nat.eq_of_beq_eq_true h1
   have hb := Nat.le_of_ble_eq_true h2
   have hsz : ∀ w, (sizeOf el).run P w = .ok esz w := fun w => by
    have := hok.2
    cases hinf : P.info? el with
    |none => rw [hinf] at this; simp at this
    |some inf => rw [hinf] at this; simp at this; simp [sizeOf, typeInfo, hinf, this]
   refine Oper.wp_value ?_ (hn _ _ h4.out)
   have hp : (parts.map fun (i, x) => (i, a.eval x)).toList = parts.toList.map fun (i, x) => (i, a.eval x) := by simp
   have hfill : Instr.fill (fun n => some (n * esz, esz)) ((Array.range (len * esz)).map (fun i => (if len * esz = 0 then (#[] : Array Value) else ie.zero.cells)[i % (if len * esz = 0 then (#[] : Array Value) else ie.zero.cells).size]!)) ((parts.map fun (i, x) => (i, a.eval x)).toList) = some ⟨cs⟩ := by
    rw [hp, ← h3]
    congr 1
    by_cases h0 : len * esz = 0
    ·simp only [h0, if_true]
     rcases Nat.mul_eq_zero.1 h0 with h | h
     ·subst h; simp [replZ]
     ·have hl : ie.zero.cells.toList = [] := by rw [← List.length_eq_zero_iff]; omega
      have : ∀ n, replZ n ie.zero.cells.toList = [] := fun n => by rw [hl]; induction n with | zero => rfl | succ n ih => simpa [replZ] using ih
      simp [this]
    ·simp only [h0, if_false]
     rcases replZ_eq ie.zero.cells.toList len with h | h
     ·rw [hz] at h; exact absurd h h0
     ·rw [hz] at h
      rw [← h]
      have hs2 : ie.zero.cells.size = esz := by simpa using hz
      simp [hs2]
   simp only [execOp, Instr.buildSlice, Sem.run_bind, run_underlying hok.1, Result.andThen_ok, hsz]
   rw [if_neg (by omega)]
   by_cases h0 : len * esz = 0
   ·simp only [h0, if_true] at hfill
    simp only [h0, if_true, Sem.run_bind, Sem.run_pure, Result.andThen_ok, hfill, newRow, run_newObj_alloc]
   ·simp only [h0, if_false] at hfill
    simp only [h0, if_false, Sem.run_bind, Sem.run_pure, Result.andThen_ok, zero_of hT hie, hfill, newRow, run_newObj_alloc]
 case store t x y =>
  obtain ⟨i, hi, h⟩ := (tK_iff _ _ _).1 h
  have h := evK_iff hr (evK_iff hr h)
  cases hc : a.eval x <;> simp only [hc] at h
  case pointer p =>
   rcases p with _ | ⟨b, off, _ | sp⟩
   ·exact h.elim
   rotate_left
   ·exact h.elim
   simp only at h
   have h := cellsK_iff h
   cases h1 : Nat.beq (a.eval y).cells.toList.length i.size <;> simp only [h1] at h
   obtain ⟨l, t', fz, h2, hfz, h3, h4, h5⟩ := h.out
   have hz := Nat.eq_of_beq_eq_true h1
   have := run_storeCells_fz P b off t' fz (a.eval y).cells.toList 0 ⟨l⟩ w h2 (by simpa using hfz) (by simpa using h3) h4
   refine Oper.wp_skip ?_ (hn _ _ h5)
   have hz2 : (a.eval y).cells.size = i.size := by simpa using hz
   simp only [execOp, hc, Instr.storeAt, Instr.sureAddr, storeVar, Sem.run_bind, Sem.run_pure, Result.andThen_ok, size_of hT hi, hz2]
   simp only [ne_eq, not_true_eq_false, if_false]
   rw [this]
   simp only [Result.andThen_ok, splice, Nat.add_zero]
 case makeMap t r =>
  cases r with
  |none => exact Oper.wp_value (by simp [execOp, Instr.makeMap]) (hn _ _ (AllG.out h))
  |some r =>
   obtain ⟨i, hi, h⟩ := (tK_iff _ _ _).1 h
   have hok := (hT _ _ hi).2
   cases hk : i.k <;> simp only [hk] at h hok
   case map k e' =>
    have h := evK_iff hr h
    cases hc : a.eval r <;> simp only [hc] at h
    exact Oper.wp_value (by simp [execOp, Instr.makeMap, hc, run_underlying (show P.underlying t = some (.map k e') from hok), asInt, asIntOf]) (hn _ _ (AllG.out h))
 case makeSlice t l c =>
  obtain ⟨v, w', h1, h2⟩ := (evK_iff hr (evK_iff hr h)).out
  exact Oper.wp_value (by simp [execOp, h1]) (hn _ _ h2)
 case mapUpdate t m k x =>
  obtain ⟨v, w', h1, h2⟩ := (evK_iff hr (evK_iff hr (evK_iff hr h))).out
  exact Oper.wp_skip (by simp [execOp, h1]) (hn _ _ h2)
 case insert t m k x =>
  obtain ⟨v, w', h1, h2⟩ := (evK_iff hr (evK_iff hr (evK_iff hr h))).out
  exact Oper.wp_skip (by simp [execOp, h1]) (hn _ _ h2)
 case convert s d x =>
  obtain ⟨v, w', h1, h2⟩ := (evK_iff hr h).out
  exact Oper.wp_value (by simp [execOp, h1]) (hn _ _ h2)
 case range t x =>
  obtain ⟨v, w', h1, h2⟩ := (evK_iff hr h).out
  exact Oper.wp_value (by simp [execOp, h1]) (hn _ _ h2)
 case next it s =>
  obtain ⟨v, w', h1, h2⟩ := (evK_iff hr h).out
  exact Oper.wp_value (by simp [execOp, h1]) (hn _ _ h2)
 case entry it =>
  obtain ⟨v, w', h1, h2⟩ := (evK_iff hr h).out
  exact Oper.wp_value (by simp [execOp, h1]) (hn _ _ h2)
 case typeAssert x s d ok =>
  obtain ⟨v, w', h1, h2⟩ := (evK_iff hr h).out
  exact Oper.wp_value (by simp [execOp, h1]) (hn _ _ h2)
 case makeFunc fn first captured =>
  obtain ⟨v, w', h1, h2⟩ := (evsK_iff hr (evsK_iff hr h)).out
  have e1 : (⟨List.map a.eval first.toList⟩ : Array Value) = first.map a.eval := by rw [← Array.toList_map]
  have e2 : (⟨List.map a.eval captured.toList⟩ : Array Value) = captured.map a.eval := by rw [← Array.toList_map]
  rw [e1, e2] at h1
  exact Oper.wp_value (by simp [execOp, h1]) (hn _ _ h2)
 case call c =>
  obtain ⟨callee, args, argTypes⟩ := c
  have e2 : (⟨List.map a.eval args.toList⟩ : Array Value) = args.map a.eval := by rw [← Array.toList_map]
  cases callee with
  |invoke x name =>
   have h := evsK_iff hr (evK_iff hr h)
   cases hx : a.eval x <;> simp only [hx] at h
   case iface t u =>
    obtain ⟨f, r, h1, h⟩ := h.out
    have harr : (#[r] : Array Value) ++ (#[Value.iface t u] ++ args.map a.eval).extract 1 (#[Value.iface t u] ++ args.map a.eval).size = ⟨r :: List.map a.eval args.toList⟩ := by
     have ext1 : ∀ {α : Type} (v : α) (A : Array α), (#[v] ++ A).extract 1 (#[v] ++ A).size = A := fun v A => by
      obtain ⟨l⟩ := A
      simp [List.extract_toArray, List.extract]
     rw [ext1]
     apply Array.ext'; simp
    have h0 : (#[Value.iface t u] ++ args.map a.eval)[0]? = some (Value.iface t u) := by rw [Array.getElem?_append_left (by simp)]; rfl
    unfold Oper.wp
    simp only [execOp, resolve, hx, Sem.run_bind, Sem.run_pure, Result.andThen_ok, invoke, h0, callMethod]
    have hp : (Go.program).run P w = .ok P w := rfl
    simp only [hp, Result.andThen_ok, h1, harr]
    rcases h with ⟨h1, h2⟩ | ⟨v, w', h1, h2⟩
    ·rw [h1]
     refine Calls.mono h2 fun e' w'' ⟨v, he, hK⟩ => ?_
     subst he
     exact hn _ _ hK
    ·rw [h1]
     exact hn _ _ h2
  |builtin b =>
   have h := evsK_iff hr h
   have key : ∀ s : Sem Value, (∀ cs, builtin b argTypes ty cs (args.map a.eval) = (do pure (.value (← s)))) → RunG P s w K → Oper.wp P ⟨dst, .call ⟨.builtin b, args, argTypes⟩, ty, pos, after, guard⟩ a w next Q := by
    intro s hs ⟨v, w', h1, h2⟩
    refine Oper.wp_value ?_ (hn _ _ h2)
    simp only [execOp, resolve, invoke, Sem.run_bind, Sem.run_pure, Result.andThen_ok]
    rw [hs]
    simp [h1]
   cases b <;> simp only [effBlt] at h
   all_goals first | exact h.elim | (rw [e2] at h; exact key _ (fun _ => rfl) h)
  |value f =>
   have h := evsK_iff hr (evK_iff hr h)
   cases hf : a.eval f <;> simp only [hf, CallV] at h
   case func fn first cap =>
    obtain ⟨first⟩ := first
    obtain ⟨cap⟩ := cap
    cases fn with
    |func g =>
     have h : Cl P g (first ++ List.map a.eval args.toList ++ cap) w K := by
      cases first <;> cases cap <;> simpa using h
     have harr : (⟨first⟩ : Array Value) ++ args.map a.eval ++ ⟨cap⟩ = ⟨first ++ List.map a.eval args.toList ++ cap⟩ := by
      apply Array.ext'; simp
     unfold Oper.wp
     simp only [execOp, resolve, hf, Deferred.ofValue, Sem.run_bind, Sem.run_pure, Result.andThen_ok, invoke]
     rcases h with ⟨h1, h2⟩ | ⟨v, w', h1, h2⟩
     ·rw [harr, h1]
      refine Calls.mono h2 fun e' w'' ⟨v, he, hK⟩ => ?_
      subst he
      exact hn _ _ hK
     ·rw [harr, h1]
      exact hn _ _ h2
    |_ => exact h.elim
/-! ## Statements -/
def putE (N : Nat) (dst : Option Tmp) (v : Value) (e : Env) (K : Env → Prop) : Prop :=
 match dst with
 |none => K e
 |some d => match Nat.ble (d + 1) N with | true => K ((d, v) :: e) | false => False
theorem putE_iff {N : Nat} {dst : Option Tmp} {v : Value} {e : Env} {K : Env → Prop} (h : putE N dst v e K) {a : Act} (hr : Rel ds N e a) : ∃ e', Rel ds N e' (a.put dst v) ∧ K e' := by
 cases dst with
 |none => exact ⟨e, hr, h⟩
 |some d =>
  simp only [putE] at h
  cases hb : Nat.ble (d + 1) N <;> simp only [hb] at h
  exact ⟨_, hr.put (Nat.le_of_ble_eq_true hb) v, h⟩
def stepG (P : Program) (T : Tbl) (N : Nat) (e : Env) (o : Oper) (w : World) (K : Env → World → Prop) : Prop :=
 match kind T o.op with
 |.pure => pureG P T e o.op fun v => putE N o.dst v e fun e' => K e' w
 |.read => readG P T e (fun w' => w = w') o fun v => putE N o.dst v e fun e' => K e' w
 |.eff => effG P T e o w fun v w' => putE N o.dst v e fun e' => K e' w'
theorem stepG_sound {P : Program} {T : Tbl} (hT : TOk P T) {N : Nat} {e : Env} {a : Act} (hr : Rel ds N e a) {o : Oper} {w : World} {K : Env → World → Prop} (h : stepG P T N e o w K)
  {next : Act → World → Prop} {Q : Exit → Act → World → Prop} (hn : ∀ e' a' w', K e' w' → Rel ds N e' a' → next a' w') : o.wp P a w next Q := by
 unfold stepG at h
 cases hk : kind T o.op <;> simp only [hk] at h
 case pure =>
  obtain ⟨v, h1, h2⟩ := pureG_sound hT hr h
  obtain ⟨e', h3, h4⟩ := putE_iff h1 hr
  exact Oper.wp_value (h2 w) (hn _ _ _ h4 h3)
 case read =>
  obtain ⟨v, h1, h2⟩ := readG_sound hT hr h
  obtain ⟨e', h3, h4⟩ := putE_iff h1 hr
  exact Oper.wp_value (h2 w rfl) (hn _ _ _ h4 h3)
 case eff =>
  refine effG_sound hT hr h fun v w' hk => ?_
  obtain ⟨e', h3, h4⟩ := putE_iff hk hr
  exact hn _ _ _ h4 h3
def gdK : List Oper → Nat → (Tmp → Prop) → Prop
 |[], _, _ => False
 |o :: _, 0, K => match o.dst with | some d => K d | none => False
 |_ :: t, n + 1, K => gdK t n K
theorem gdK_iff : ∀ {all : List Oper} {j : Nat} {K : Tmp → Prop}, gdK all j K → ∃ o d, all[j]? = some o ∧ o.dst = some d ∧ K d
 |[], _, _, h => h.elim
 |o :: t, 0, K, h => by
  simp only [gdK] at h
  cases hd : o.dst with
  |none => rw [hd] at h; exact h.elim
  |some d => rw [hd] at h; exact ⟨o, d, rfl, hd, h⟩
 |_ :: t, n + 1, K, h => by
  obtain ⟨o, d, h1, h2, h3⟩ := gdK_iff (all := t) (j := n) h
  exact ⟨o, d, by simpa using h1, h2, h3⟩
def grdG (all : List Oper) (g : Option (Nat × Bool)) (e : Env) (yes no : Env → Prop) : Prop :=
 match g with
 |none => yes e
 |some (j, want) => gdK all j fun d => lk e d fun v => match v with
  |.bool b => (match want with
   |true => BrG b (yes ((d, .bool true) :: e)) (no ((d, .bool false) :: e))
   |false => BrG b (no ((d, .bool true) :: e)) (yes ((d, .bool false) :: e)))
  |.tuple _ => no e
  |_ => False
theorem Rel.again {N : Nat} {e : Env} {a : Act} (h : Rel ds N e a) {d : Nat} {v : Value} (hd : lkv e d = some v) : Rel ds N ((d, v) :: e) a :=
 ⟨h.size, h.dz, fun n u hu => by
  rw [lkv_cons] at hu
  by_cases hdn : d = n
  ·subst hdn; simp at hu; subst hu; exact h.get _ _ hd
  ·rw [if_neg hdn] at hu; exact h.get n u hu⟩
theorem grdG_iff {all : List Oper} {o : Oper} {e : Env} {yes no : Env → Prop} {N : Nat} {a : Act} (hr : Rel ds N e a) (h : grdG all o.guard e yes no) :
  (∃ e', Rel ds N e' a ∧ Region.wanted o (yielded all.toArray a.tmps) = true ∧ yes e') ∨ (∃ e', Rel ds N e' a ∧ Region.wanted o (yielded all.toArray a.tmps) = false ∧ no e') := by
 unfold grdG at h
 cases hg : o.guard with
 |none => rw [hg] at h; exact .inl ⟨e, hr, by simp [Region.wanted, hg], h⟩
 |some p =>
  obtain ⟨j, want⟩ := p
  rw [hg] at h
  obtain ⟨oj, d, h1, h2, h3⟩ := gdK_iff h
  obtain ⟨v, h4, h5⟩ := (lk_iff _ _ _).1 h3
  have hget := hr.get d v h4
  have hy : yielded all.toArray a.tmps j = match v with | .bool b => some b | _ => none := by
   unfold yielded
   simp only [List.getElem?_toArray, h1, Option.bind_some, h2, hget]
   cases v <;> rfl
  cases v <;> simp only at h5
  case bool b =>
   cases want <;> cases b <;> simp only at h5
   ·exact .inl ⟨_, hr.again h4, by simp [Region.wanted, hg, hy], h5.f' rfl⟩
   ·exact .inr ⟨_, hr.again h4, by simp [Region.wanted, hg, hy], h5.t' rfl⟩
   ·exact .inr ⟨_, hr.again h4, by simp [Region.wanted, hg, hy], h5.f' rfl⟩
   ·exact .inl ⟨_, hr.again h4, by simp [Region.wanted, hg, hy], h5.t' rfl⟩
  case tuple vs => exact .inr ⟨e, hr, by simp [Region.wanted, hg, hy], h5⟩
def vcOps (P : Program) (T : Tbl) (N : Nat) (all : List Oper) : List Oper → Env → World → (Env → World → Prop) → Prop
 |[], e, w, K => K e w
 |o :: r, e, w, K => grdG all o.guard e (fun e => stepG P T N e o w fun e' w' => vcOps P T N all r e' w' K) (fun e => putE N o.dst undef e fun e' => vcOps P T N all r e' w K)
theorem vcOps_sound {P : Program} {T : Tbl} (hT : TOk P T) {N : Nat} {all : List Oper} {Q : Exit → Act → World → Prop} {K : Env → World → Prop}
  (hK : ∀ e' a' w', K e' w' → Rel ds N e' a' → Q .normal a' w') : ∀ (r : List Oper) (e : Env) (a : Act) (w : World), Rel ds N e a → vcOps P T N all r e w K → wpList P all.toArray Q r a w
 |[], e, a, w, hr, h => hK _ _ _ h hr
 |o :: r, e, a, w, hr, h => by
  simp only [vcOps] at h
  unfold wpList
  rcases grdG_iff hr h with ⟨e', h1, h2, h3⟩ | ⟨e', h1, h2, h3⟩
  ·rw [if_pos h2]
   exact .inl (stepG_sound hT h1 h3 fun e' a' w' hv hr' => vcOps_sound hT hK r _ _ _ hr' hv)
  ·rw [if_neg (by rw [h2]; simp)]
   obtain ⟨e'', h4, h5⟩ := putE_iff h3 h1
   exact vcOps_sound hT hK r _ _ _ h4 h5
def lift (N : Nat) (Q : Exit → Env → World → Prop) : Exit → Act → World → Prop
 |.panic _, _, _ => False
 |.outgrown, _, _ => False
 |x, a, w => ∃ e, Rel [] N e a ∧ Q x e w
def SemW (P : Program) (N : Nat) (c : Code) (Q : Exit → Env → World → Prop) (e : Env) (w : World) : Prop := ∀ a, Rel [] N e a → c.wp P (lift N Q) a w
theorem SemW.mono {P : Program} {N : Nat} {c : Code} {Q Q' : Exit → Env → World → Prop} {e : Env} {w : World} (h : SemW P N c Q e w) (hq : ∀ x e w, Q x e w → Q' x e w) : SemW P N c Q' e w :=
 fun a hr => Code.wp_mono (fun x a w hl => by
  cases x <;> first | exact hl | (obtain ⟨e, h1, h2⟩ := hl; exact ⟨e, h1, hq _ _ _ h2⟩)) (h a hr)
def thenQ (K : Env → World → Prop) (Q : Exit → Env → World → Prop) : Exit → Env → World → Prop
 |.normal, e, w => K e w
 |x, e, w => Q x e w
def blkQ (id : Nat) (Q : Exit → Env → World → Prop) : Exit → Env → World → Prop
 |.exit id', e, w => (match Nat.beq id' id with | true => Q .normal e w | false => Q (.exit id') e w)
 |x, e, w => Q x e w
theorem SemW.seq {P : Program} {N : Nat} {x y : Code} {Q : Exit → Env → World → Prop} {e : Env} {w : World} (h : SemW P N x (thenQ (SemW P N y Q) Q) e w) : SemW P N (.seq x y) Q e w := by
 intro a hr
 refine wp_seq (Code.wp_mono (fun x a w hl => ?_) (h a hr))
 cases x
 case normal => obtain ⟨e, h1, h2⟩ := hl; exact h2 a h1
 all_goals exact hl
theorem SemW.block {P : Program} {N : Nat} {id : Nat} {c : Code} {Q : Exit → Env → World → Prop} {e : Env} {w : World} (h : SemW P N c (blkQ id Q) e w) : SemW P N (.block id c) Q e w := by
 intro a hr
 refine wp_block (Code.wp_mono (fun x a w hl => ?_) (h a hr))
 cases x
 case exit id' =>
  obtain ⟨e, h1, h2⟩ := hl
  simp only [blkQ] at h2
  simp only [Exit.inBlock]
  cases hb : Nat.beq id' id with
  |true => rw [hb] at h2; rw [if_pos (Nat.eq_of_beq_eq_true hb)]; exact ⟨e, h1, h2⟩
  |false =>
   rw [hb] at h2
   rw [if_neg (by intro he; subst he; simp at hb)]
   exact ⟨e, h1, h2⟩
 all_goals exact hl
theorem SemW.cond {P : Program} {N : Nat} {c : Operand} {x y : Code} {Q : Exit → Env → World → Prop} {e : Env} {w : World}
  (h : evK e c fun v => match v with | .bool t => BrG t (SemW P N x Q e w) (SemW P N y Q e w) | _ => False) : SemW P N (.cond c x y) Q e w := by
 intro a hr
 have h := evK_iff hr h
 cases hc : a.eval c <;> simp only [hc] at h
 case bool t => exact wp_cond_split hc (fun ht => h.t' ht a hr) (fun hf => h.f' hf a hr)
structure StopW (P : Program) (N : Nat) (c : Code) (Q : Exit → Env → World → Prop) (e : Env) (w : World) : Prop where
 out : SemW P N c Q e w
def vc (P : Program) (T : Tbl) (N : Nat) : Code → (Exit → Env → World → Prop) → Env → World → Prop
 |.skip, Q, e, w => Q .normal e w
 |.ret, Q, e, w => Q .ret e w
 |.exit id, Q, e, w => Q (.exit id) e w
 |.region _ ops false, Q, e, w => vcOps P T N ops.toList ops.toList e w fun e' w' => Q .normal e' w'
 |.seq a b, Q, e, w => vc P T N a (thenQ (SemW P N b Q) Q) e w
 |.cond c a b, Q, e, w => evK e c fun v => match v with | .bool t => BrG t (vc P T N a Q e w) (vc P T N b Q e w) | _ => False
 |.block id c, Q, e, w => vc P T N c (blkQ id Q) e w
 |c, Q, e, w => StopW P N c Q e w
theorem vc_sound {P : Program} {T : Tbl} (hT : TOk P T) {N : Nat} : ∀ (c : Code) (Q : Exit → Env → World → Prop) (e : Env) (w : World), vc P T N c Q e w → SemW P N c Q e w
 |.skip, Q, e, w, h => fun a hr => wp_skip ⟨e, hr, h⟩
 |.ret, Q, e, w, h => fun a hr => wp_ret ⟨e, hr, h⟩
 |.exit id, Q, e, w, h => fun a hr => wp_exit ⟨e, hr, h⟩
 |.region id ops false, Q, e, w, h => fun a hr => by
  obtain ⟨ops⟩ := ops
  exact wp_region_lit (vcOps_sound hT (fun e' a' w' hk hr' => ⟨e', hr', hk⟩) _ _ _ _ hr h)
 |.seq a b, Q, e, w, h => SemW.seq (vc_sound hT a _ e w h)
 |.cond c a b, Q, e, w, h => SemW.cond (by
   simp only [vc] at h
   cases c with
   |tmp n =>
    obtain ⟨v, h1, h2⟩ := (lk_iff _ _ _).1 h
    refine (lk_iff _ _ _).2 ⟨v, h1, ?_⟩
    cases v <;> first | exact h2 | exact ⟨fun ht => vc_sound hT a _ e w (h2.t' ht), fun hf => vc_sound hT b _ e w (h2.f' hf)⟩
   |const v => cases v <;> first | exact h | exact ⟨fun ht => vc_sound hT a _ e w (h.t' ht), fun hf => vc_sound hT b _ e w (h.f' hf)⟩
   |global g => exact h
   |func f => exact h)
 |.block id c, Q, e, w, h => SemW.block (vc_sound hT c _ e w h)
 |.region id ops true, Q, e, w, h => h.out
 |.loop c, Q, e, w, h => h.out
 |.rangeFunc .., Q, e, w, h => h.out
 |.scope c, Q, e, w, h => h.out
 |.label l, Q, e, w, h => h.out
 |.goto l, Q, e, w, h => h.out
 |.refuse s, Q, e, w, h => h.out
theorem SemW.run {P : Program} {T : Tbl} (hT : TOk P T) {N : Nat} {c : Code} {Q : Exit → Env → World → Prop} {e : Env} {w : World} (h : vc P T N c Q e w) : SemW P N c Q e w := vc_sound hT c Q e w h
def selK : Env → List Nat → (Env → Prop) → Prop
 |_, [], K => K []
 |e, n :: ns, K => lk e n fun v => selK e ns fun r => K ((n, v) :: r)
theorem selK_iff : ∀ {ns : List Nat} {e : Env} {K : Env → Prop}, selK e ns K → ∃ e', (∀ n v, lkv e' n = some v → lkv e n = some v) ∧ K e'
 |[], e, K, h => ⟨[], fun n v hv => by simp [lkv] at hv, h⟩
 |n :: ns, e, K, h => by
  obtain ⟨v, h1, h2⟩ := (lk_iff _ _ _).1 h
  obtain ⟨e', h3, h4⟩ := selK_iff h2
  refine ⟨(n, v) :: e', fun m u hu => ?_, h4⟩
  rw [lkv_cons] at hu
  by_cases hnm : n = m
  ·subst hnm; simp at hu; subst hu; exact h1
  ·rw [if_neg hnm] at hu; exact h3 m u hu
theorem Rel.sub {N : Nat} {e e' : Env} {a : Act} (h : Rel ds N e a) (hs : ∀ n v, lkv e' n = some v → lkv e n = some v) : Rel ds N e' a := ⟨h.size, h.dz, fun n v hv => h.get n v (hs n v hv)⟩
theorem SemW.keep {P : Program} {N : Nat} {c : Code} {Q : Exit → Env → World → Prop} {e : Env} {w : World} (ns : List Nat) (h : selK e ns fun e' => SemW P N c Q e' w) : SemW P N c Q e w := by
 obtain ⟨e', h1, h2⟩ := selK_iff h
 exact fun a hr => h2 a (hr.sub h1)
def subG : Env → Env → Prop
 |[], _ => True
 |(n, v) :: t, e => lk e n (fun u => u = v) ∧ subG t e
theorem subG_iff : ∀ {e' e : Env}, subG e' e → ∀ n v, lkv e' n = some v → lkv e n = some v
 |[], e, _, n, v, hv => by simp [lkv] at hv
 |(k, u) :: t, e, h, n, v, hv => by
  obtain ⟨h1, h2⟩ := h
  obtain ⟨x, h3, h4⟩ := (lk_iff _ _ _).1 h1
  rw [lkv_cons] at hv
  by_cases hkn : k = n
  ·subst hkn; simp at hv; subst hv; subst h4; exact h3
  ·rw [if_neg hkn] at hv; exact subG_iff h2 n v hv
theorem SemW.weaken {P : Program} {N : Nat} {c : Code} {Q : Exit → Env → World → Prop} {e e' : Env} {w : World} (hs : subG e' e) (h : SemW P N c Q e' w) : SemW P N c Q e w :=
 fun a hr => h a (hr.sub (subG_iff hs))
theorem SemW.loop {P : Program} {N : Nat} {c : Code} {Q : Exit → Env → World → Prop} {e : Env} {w : World} {ι : Type} (I : ι → Env) (J : ι → World → Prop) (μ : ι → Nat) (i0 : ι)
  (hs : subG (I i0) e) (hJ : J i0 w)
  (round : ∀ i w, J i w → SemW P N c (thenQ (fun e' w' => ∃ i', subG (I i') e' ∧ J i' w' ∧ μ i' < μ i) Q) (I i) w) : StopW P N (.loop c) Q e w := by
 refine ⟨?_⟩
 intro a hr b k cs
 have key : ∀ n i a w, μ i = n → Rel [] N (I i) a → J i w →
   ∃ x a' w', lift N Q x a' w' ∧ Arrives P (lone (b.at a (.code c :: .inLoop c :: k)) cs w) b k cs x a' w' := by
  intro n
  induction n using Nat.strongRecOn with
  |_ n ih =>
   intro i a w hn hr hJ
   obtain ⟨x, a₁, w₁, hq, harr⟩ := round i w hJ a hr b (.inLoop c :: k) cs
   cases x with
   |normal =>
    obtain ⟨e', hr', i', hs', hJ', hlt⟩ := hq
    obtain ⟨e₂, a₂, w₂, hq₂, harr₂⟩ := ih (μ i') (hn ▸ hlt) i' a₁ w₁ rfl (hr'.sub (subG_iff hs')) hJ'
    exact ⟨e₂, a₂, w₂, hq₂, .of_steps (Steps.trans harr (.one step_inLoop)) harr₂⟩
   |exit id => exact ⟨.exit id, a₁, w₁, hq, .pass (x := .inLoop c) rfl (fun _ _ => .inl (by simp)) harr⟩
   |goto l => exact ⟨.goto l, a₁, w₁, hq, .pass (x := .inLoop c) rfl (fun _ _ => .inl (by simp)) harr⟩
   |ret => exact ⟨.ret, a₁, w₁, hq, .pass (x := .inLoop c) rfl (fun _ _ => .inl (by simp)) harr⟩
   |panic ch => exact hq.elim
   |outgrown => exact hq.elim
 obtain ⟨x, a', w', hq, harr⟩ := key _ i0 a w rfl (hr.sub (subG_iff hs)) hJ
 exact ⟨x, a', w', hq, .of_steps (.one step_loop) harr⟩
theorem SemW.join {P : Program} {N : Nat} {x y : Code} {Q : Exit → Env → World → Prop} {e : Env} {w : World} {ι : Type} (I : ι → Env) (J : ι → World → Prop)
  (hx : SemW P N x (thenQ (fun e' w' => ∃ i, subG (I i) e' ∧ J i w') Q) e w) (hy : ∀ i w', J i w' → SemW P N y Q (I i) w') : SemW P N (.seq x y) Q e w :=
 SemW.seq (hx.mono fun ex e w h => by
  cases ex
  case normal => obtain ⟨i, h1, h2⟩ := h; exact SemW.weaken h1 (hy i w h2)
  all_goals exact h)
/-! ## A function -/
def argEnv : Nat → List Value → Env
 |_, [] => []
 |n, v :: vs => (n, v) :: argEnv (n + 1) vs
theorem argEnv_get : ∀ (args : List Value) (k n : Nat) (v : Value), lkv (argEnv k args) n = some v → k ≤ n ∧ args[n - k]? = some v
 |[], k, n, v, h => by simp [argEnv, lkv] at h
 |x :: xs, k, n, v, h => by
  simp only [argEnv] at h
  rw [lkv_cons] at h
  by_cases hk : k = n
  ·subst hk; simp at h; subst h; simp
  ·rw [if_neg hk] at h
   obtain ⟨h1, h2⟩ := argEnv_get xs (k + 1) n v h
   exact ⟨by omega, by rw [show n - k = (n - (k + 1)) + 1 by omega]; simpa using h2⟩
def resK (T : Tbl) (e : Env) (w : World) : List ResultVar → (List Value → Prop) → Prop
 |[], K => K []
 |.tmp t :: rs, K => lk e t fun v => resK T e w rs fun vs => K (v :: vs)
 |.cell a t :: rs, K => tK T t fun i => lk e a fun v => match v with
  |.pointer (some ⟨b, off, none⟩) => (match i.agg with
   |false => LdC (fun w' => w = w') ⟨b, off, none⟩ fun v => resK T e w rs fun vs => K (v :: vs)
   |true => LdN (fun w' => w = w') i.size b off fun cs => resK T e w rs fun vs => K (.agg ⟨cs⟩ :: vs))
  |_ => False
def retG (vs : List Value) (R : Value → Prop) : Prop := match vs with | [v] => R v | vs => R (.tuple ⟨vs⟩)
def retQ (T : Tbl) (rs : List ResultVar) (R : Value → World → Prop) : Exit → Env → World → Prop
 |.normal, e, w => resK T e w rs fun vs => retG vs fun v => R v w
 |.ret, e, w => resK T e w rs fun vs => retG vs fun v => R v w
 |_, _, _ => False
theorem resK_iff {P : Program} {T : Tbl} (hT : TOk P T) {N : Nat} {e : Env} {a : Act} (hr : Rel ds N e a) {w : World} : ∀ {rs : List ResultVar} {K : List Value → Prop}, resK T e w rs K →
  ∃ vs, (rs.mapM fun (r : ResultVar) => (match r with
   |.tmp t => (pure (a.tmps.getD t undef) : Sem Value)
   |.cell x t => do loadVar t (← asAddr (a.tmps.getD x undef)))).run P w = .ok vs w ∧ K vs
 |[], K, h => ⟨[], by simp, h⟩
 |.tmp t :: rs, K, h => by
  obtain ⟨v, h1, h2⟩ := (lk_iff _ _ _).1 h
  obtain ⟨vs, h3, h4⟩ := resK_iff hT hr h2
  have hv : a.tmps.getD t undef = v := by rw [Array.getD_eq_getD_getElem?, hr.get t v h1]; rfl
  exact ⟨v :: vs, by simp only [List.mapM_cons, Sem.run_bind, Sem.run_pure, Result.andThen_ok, hv, h3], h4⟩
 |.cell x t :: rs, K, h => by
  obtain ⟨i, hi, h⟩ := (tK_iff _ _ _).1 h
  obtain ⟨v, h1, h2⟩ := (lk_iff _ _ _).1 h
  have hv : a.tmps.getD x undef = v := by rw [Array.getD_eq_getD_getElem?, hr.get x v h1]; rfl
  cases v
  case pointer p =>
   rcases p with _ | ⟨b, off, _ | sp⟩
   ·exact h2.elim
   rotate_left
   ·exact h2.elim
   simp only at h2
   cases hagg : i.agg <;> simp only [hagg] at h2
   case false =>
    obtain ⟨v, h3, h4⟩ := h2.out
    obtain ⟨vs, h5, h6⟩ := resK_iff hT hr h4
    refine ⟨v :: vs, ?_, h6⟩
    rw [List.mapM_cons]
    generalize (List.mapM _ rs : Sem (List Value)) = m at h5 ⊢
    simp only [Sem.run_bind, hv, asAddr, Sem.run_pure, Result.andThen_ok, loadVar, load_one hT hi hagg, Bool.false_eq_true, if_false, run_load, h3 w rfl, h5]
   case true =>
    obtain ⟨cs, h3, h4, h5⟩ := h2.out
    obtain ⟨vs, h6, h7⟩ := resK_iff hT hr h5
    refine ⟨_, ?_, h7⟩
    have := loadCells_of P w b off cs (h4 w rfl)
    rw [h3] at this
    rw [List.mapM_cons]
    generalize (List.mapM _ rs : Sem (List Value)) = m at h6 ⊢
    simp only [Sem.run_bind, hv, asAddr, Sem.run_pure, Result.andThen_ok, loadVar, load_agg hT hi hagg, if_true, size_of hT hi, this, h6]
  all_goals exact h2.elim
theorem Cl.enter {P : Program} {T : Tbl} (hT : TOk P T) {f : FuncId} {fn : Func} {c : Code} {N : Nat} {args : List Value} {w : World} {R : Value → World → Prop}
  (hcall : ∀ (args : Array Value) (w : World), (callFunc f args).run P w = .ok (.enter f args) w) (hf : P.funcs[f]? = some fn) (hN : fn.ntmps = N) (hb : fn.body = some c) {rs : List ResultVar} (hrs : fn.results = ⟨rs⟩)
  (hlen : Nat.ble args.length N = true) (h : SemW P N c (retQ T rs R) (argEnv 0 args) w) : Cl P f args w R := by
 refine .inl ⟨hcall _ _, ?_⟩
 refine calls_of_wp hf hb ?_
 have hle := Nat.le_of_ble_eq_true hlen
 have hr : Rel [] N (argEnv 0 args) ⟨⟨args⟩ ++ Array.replicate (fn.ntmps - (Array.mk args).size) undef, []⟩ := by
  refine ⟨by simp [hN]; omega, rfl, fun n v hv => ?_⟩
  obtain ⟨_, h2⟩ := argEnv_get args 0 n v hv
  simp only [Nat.sub_zero] at h2
  have hlt : n < args.length := (List.getElem?_eq_some_iff.1 h2).1
  rw [Array.getElem?_append_left (by simpa using hlt)]
  simpa using h2
 refine Code.wp_mono (fun x a w hl => ?_) (h _ hr)
 have fin : ∀ e, Rel [] N e a → (resK T e w rs fun vs => retG vs fun v => R v w) → a.defers = [] ∧ ∃ v, (results fn a.tmps).run P w = .ok v w ∧ ∃ v', Ending.returned v = .returned v' ∧ R v' w := by
  intro e hr h
  obtain ⟨vs, h1, h2⟩ := resK_iff hT hr h
  refine ⟨hr.dz, ?_⟩
  have hm : (results fn a.tmps).run P w = .ok (if h : vs.length = 1 then vs[0] else .tuple ⟨vs⟩) w := by
   unfold results
   rw [hrs]
   simp only [Sem.run_bind]
   rw [Array.mapM_eq_mapM_toList]
   simp only [Sem.run_map]
   generalize hM : Sem.run P (List.mapM _ rs) w = r
   have h1' : r = .ok vs w := hM.symm.trans h1
   subst h1'
   simp
  refine ⟨_, hm, _, rfl, ?_⟩
  unfold retG at h2
  split at h2
  ·simpa using h2
  ·rename_i hne
   rw [dif_neg (by intro hl; obtain ⟨v, rfl⟩ := List.length_eq_one_iff.1 hl; exact hne v rfl)]
   exact h2
 cases x with
 |normal => obtain ⟨e, h1, h2⟩ := hl; exact fin e h1 h2
 |ret => obtain ⟨e, h1, h2⟩ := hl; exact fin e h1 h2
 |exit id => obtain ⟨e, h1, h2⟩ := hl; exact h2.elim
 |goto l => obtain ⟨e, h1, h2⟩ := hl; exact h2.elim
 |panic c => exact hl.elim
 |outgrown => exact hl.elim
end Go.Eng
namespace Go.Eng
theorem jA : type_of% @IntG.nw := @IntG.nw
theorem jB : type_of% @IntG.nu8 := @IntG.nu8
theorem jC : type_of% @IntG.nu32 := @IntG.nu32
theorem jD : type_of% @IntG.nu64 := @IntG.nu64
theorem jE : type_of% @IntG.wr' := @IntG.wr'
theorem jF : type_of% @Chk.mk := @Chk.mk
theorem jG : type_of% @BrG.id := @BrG.id
theorem jH : type_of% @BrG.t := @BrG.t
theorem jI : type_of% @BrG.f := @BrG.f
theorem jJ : type_of% @BrG.notG := @BrG.notG
theorem jK : type_of% @BrG.nn := @BrG.nn
theorem jL : type_of% @BrG.ns := @BrG.ns
theorem jM : type_of% @BrG.pos := @BrG.pos
theorem jN : type_of% @BrG.neg := @BrG.neg
theorem jO : type_of% @NilG.mk := @NilG.mk
theorem jP : type_of% @SemW.run := @SemW.run
structure Wr (H : Prop) : Prop where
 o : H
theorem jq {G H : Prop} (k : Wr H) (f : Wr H → G := by intro h; (repeat (first | refine jP tblOk ?_ | ((first | refine jA ?_ ?_ | refine jB ?_ ?_ | refine jC ?_ ?_ | refine jD ?_ ?_); omega) | refine jE rfl ?_ | refine jF (by first | omega | exact ptr_ok tblOk rfl rfl | decide) ?_ | (refine jG ?_; first | with_reducible (first | apply jH | apply jI | apply jJ | apply jK | apply jL) | refine jM (by omega) ?_ | refine jN (by omega) ?_ | with_reducible refine jM rfl ?_ | refine jM (by first | assumption | decide) ?_ | refine jN (by first | assumption | decide) ?_) | refine jO (fun _ => by kernel_rfl) ?_)); exact h.1) : G := f k
theorem jr {G H : Prop} (k : Wr H) (f : Wr H → G := by intro h; (repeat (first | refine jP tblOk ?_ | ((first | refine jA ?_ ?_ | refine jB ?_ ?_ | refine jC ?_ ?_ | refine jD ?_ ?_); omega) | refine jE rfl ?_ | refine jF (by first | omega | exact ptr_ok tblOk rfl rfl | decide) ?_ | (refine jG ?_; first | with_reducible (first | apply jH | apply jI | apply jJ | apply jK | apply jL) | refine jM (by omega) ?_ | refine jN (by omega) ?_ | with_reducible refine jM rfl ?_ | refine jM (by first | assumption | decide) ?_ | refine jN (by first | assumption | decide) ?_) | refine jO (fun _ => by kernel_rfl) ?_ | refine hS.ldC rfl ?_ | refine hS.ldnC rfl ?_)); exact h.1) : G := f k
theorem js {G H : Prop} (k : Wr H) (f : Wr H → G := by intro h; (repeat (first | refine jP tblOk ?_ | ((first | refine jA ?_ ?_ | refine jB ?_ ?_ | refine jC ?_ ?_ | refine jD ?_ ?_); omega) | refine jE rfl ?_ | refine jF (by first | omega | exact ptr_ok tblOk rfl rfl | decide) ?_ | (refine jG ?_; first | with_reducible (first | apply jH | apply jI | apply jJ | apply jK | apply jL) | refine jM (by omega) ?_ | refine jN (by omega) ?_ | with_reducible refine jM rfl ?_ | refine jM (by first | assumption | decide) ?_ | refine jN (by first | assumption | decide) ?_) | refine jO (fun _ => by kernel_rfl) ?_ | refine hS.ldG rfl ?_ | refine hS.ldnG rfl ?_)); exact h.1) : G := f k
theorem jt {G H : Prop} (k : Wr H) (f : Wr H → G := by intro h; (repeat (first | refine jP tblOk ?_ | ((first | refine jA ?_ ?_ | refine jB ?_ ?_ | refine jC ?_ ?_ | refine jD ?_ ?_); omega) | refine jE rfl ?_ | refine jF (by first | omega | exact ptr_ok tblOk rfl rfl | decide) ?_ | (refine jG ?_; first | with_reducible (first | apply jH | apply jI | apply jJ | apply jK | apply jL) | refine jM (by omega) ?_ | refine jN (by omega) ?_ | with_reducible refine jM rfl ?_ | refine jM (by first | assumption | decide) ?_ | refine jN (by first | assumption | decide) ?_) | refine jO (fun _ => by kernel_rfl) ?_ | refine hS.ld rfl ?_ | refine hS.ldn rfl ?_)); exact h.1) : G := f k
theorem ju {G H : Prop} (k : Wr H) (f : Wr H → G := by intro h; (repeat (first | ((first | refine jA ?_ ?_ | refine jB ?_ ?_ | refine jC ?_ ?_ | refine jD ?_ ?_); omega) | refine jE rfl ?_ | refine jF (by first | omega | exact ptr_ok tblOk rfl rfl | decide) ?_ | (refine jG ?_; first | with_reducible (first | apply jH | apply jI | apply jJ | apply jK | apply jL) | refine jM (by omega) ?_ | refine jN (by omega) ?_ | with_reducible refine jM rfl ?_ | refine jM (by first | assumption | decide) ?_ | refine jN (by first | assumption | decide) ?_) | refine jO (fun _ => by kernel_rfl) ?_ | refine hS.ld rfl ?_ | refine hS.ldn rfl ?_)); exact h.1) : G := f k
end Go.Eng
namespace Go
theorem kAa : type_of% @List.length_append := @List.length_append
theorem kAb : type_of% @List.sublist_cons_self := @List.sublist_cons_self
theorem kAc : type_of% @List.append_assoc := @List.append_assoc
theorem kAd : type_of% @Nat.le_refl := @Nat.le_refl
theorem kAe : type_of% @List.length_cons := @List.length_cons
theorem kAf : type_of% @List.mem_cons := @List.mem_cons
theorem kAg : type_of% @Nat.zero_le := @Nat.zero_le
theorem kAh : type_of% @List.map_cons := @List.map_cons
theorem kAi : type_of% @List.map_append := @List.map_append
theorem kAj : type_of% @List.sublist_append_right := @List.sublist_append_right
theorem kAk : type_of% @List.append_nil := @List.append_nil
theorem kAl : type_of% @List.mem_append := @List.mem_append
theorem kAm : type_of% @List.mem_map := @List.mem_map
theorem kAn : type_of% @List.take_succ_eq_append_getElem := @List.take_succ_eq_append_getElem
theorem kAo : type_of% @List.length_take := @List.length_take
theorem kAp : type_of% @List.getElem?_eq_getElem := @List.getElem?_eq_getElem
theorem kAq : type_of% @List.length_nil := @List.length_nil
theorem kAr : type_of% @List.take_length := @List.take_length
theorem kAs : type_of% @List.mem_cons_of_mem := @List.mem_cons_of_mem
theorem kAt : type_of% @List.mem_cons_self := @List.mem_cons_self
theorem kAu : type_of% @List.take_append_drop := @List.take_append_drop
theorem kAv : type_of% @List.length_map := @List.length_map
theorem kAw : type_of% @List.mem_map_of_mem := @List.mem_map_of_mem
theorem kAx : type_of% @List.getElem_mem := @List.getElem_mem
theorem kAy : type_of% @List.mem_singleton := @List.mem_singleton
theorem kAz : type_of% @List.getElem?_append_left := @List.getElem?_append_left
theorem kBa : type_of% @List.pairwise_cons := @List.pairwise_cons
theorem kBb : type_of% @Nat.le_trans := @Nat.le_trans
theorem kBc : type_of% @Nat.mod_eq_of_lt := @Nat.mod_eq_of_lt
theorem kBd : type_of% @List.all_eq_true := @List.all_eq_true
theorem kBe : type_of% @List.cons_append := @List.cons_append
theorem kBf : type_of% @List.length_drop := @List.length_drop
theorem kBg : type_of% @List.perm_middle := @List.perm_middle
theorem kBh : type_of% @List.getElem?_append_right := @List.getElem?_append_right
theorem kBi : type_of% @List.flatten_cons := @List.flatten_cons
theorem kBj : type_of% @List.nil_append := @List.nil_append
theorem kBk : type_of% @List.sublist_append_left := @List.sublist_append_left
theorem kBl : type_of% @Nat.zero_add := @Nat.zero_add
theorem kBm : type_of% @List.mem_append_left := @List.mem_append_left
theorem kBn : type_of% @Nat.mod_lt := @Nat.mod_lt
theorem kBo : type_of% @List.flatMap_cons := @List.flatMap_cons
theorem kBp : type_of% @List.mem_append_right := @List.mem_append_right
theorem kBq : type_of% @List.nodup_cons := @List.nodup_cons
theorem kBr : type_of% @Nat.le_succ := @Nat.le_succ
theorem kBs : type_of% @List.drop_eq_getElem_cons := @List.drop_eq_getElem_cons
theorem kBt : type_of% @List.getElem?_eq_some_iff := @List.getElem?_eq_some_iff
theorem kBu : type_of% @Option.getD_some := @Option.getD_some
theorem kBv : type_of% @List.length_singleton := @List.length_singleton
theorem kBw : type_of% @List.nodup_append := @List.nodup_append
theorem kBx : type_of% @List.pairwise_append := @List.pairwise_append
theorem kBy : type_of% @List.flatten_append := @List.flatten_append
theorem kBz : type_of% @List.map_map := @List.map_map
theorem kC : type_of% @List.map_nil := @List.map_nil
theorem kCa : type_of% @List.take_left' := @List.take_left'
theorem kCb : type_of% @Int.le_refl := @Int.le_refl
theorem kCc : type_of% @List.flatten_nil := @List.flatten_nil
theorem kCd : type_of% @List.foldl_cons := @List.foldl_cons
theorem kCe : type_of% @List.getD_eq_getElem?_getD := @List.getD_eq_getElem?_getD
theorem kCf : type_of% @List.sum_append := @List.sum_append
theorem kCg : type_of% @Nat.add_mul := @Nat.add_mul
theorem kCh : type_of% @List.length_eq_zero_iff := @List.length_eq_zero_iff
theorem kCi : type_of% @List.perm_append_comm := @List.perm_append_comm
theorem kCj : type_of% @List.sum_cons := @List.sum_cons
theorem kCk : type_of% @Nat.mul_comm := @Nat.mul_comm
theorem kCl : type_of% @List.count_append := @List.count_append
theorem kCm : type_of% @List.flatMap_append := @List.flatMap_append
theorem kCn : type_of% @List.foldl_append := @List.foldl_append
theorem kCo : type_of% @List.getElem?_map := @List.getElem?_map
theorem kCp : type_of% @List.getElem_map := @List.getElem_map
theorem kCq : type_of% @List.perm_append_comm_assoc := @List.perm_append_comm_assoc
theorem kCr : type_of% @List.set_append_right := @List.set_append_right
theorem kCs : type_of% @Nat.add_assoc := @Nat.add_assoc
theorem kCt : type_of% @List.drop_length := @List.drop_length
theorem kCu : type_of% @List.eq_nil_of_length_eq_zero := @List.eq_nil_of_length_eq_zero
theorem kCv : type_of% @List.getElem?_drop := @List.getElem?_drop
theorem kCw : type_of% @List.getElem?_take := @List.getElem?_take
theorem kCx : type_of% @List.mem_flatten := @List.mem_flatten
theorem kCy : type_of% @List.mem_iff_getElem := @List.mem_iff_getElem
theorem kCz : type_of% @Nat.eq_zero_or_pos := @Nat.eq_zero_or_pos
theorem kD : type_of% @Option.map_some := @Option.map_some
theorem kDa : type_of% @List.count_cons := @List.count_cons
theorem kDb : type_of% @List.getElem_cons_zero := @List.getElem_cons_zero
theorem kDc : type_of% @List.length_set := @List.length_set
theorem kDd : type_of% @List.mem_of_mem_take := @List.mem_of_mem_take
theorem kDe : type_of% @List.pairwise_iff_getElem := @List.pairwise_iff_getElem
theorem kDf : type_of% @List.perm_iff_count := @List.perm_iff_count
theorem kDg : type_of% @List.eq_nil_or_concat := @List.eq_nil_or_concat
theorem kDh : type_of% @List.filter_append := @List.filter_append
theorem kDi : type_of% @List.take_of_length_le := @List.take_of_length_le
theorem kDj : type_of% @Option.isSome_none := @Option.isSome_none
theorem kDk : type_of% @List.length_eq_one_iff := @List.length_eq_one_iff
theorem kDl : type_of% @List.mem_of_getLast? := @List.mem_of_getLast?
theorem kDm : type_of% @Nat.le_of_ble_eq_true := @Nat.le_of_ble_eq_true
theorem kDn : type_of% @Nat.mul_le_mul_right := @Nat.mul_le_mul_right
theorem kDo : type_of% @List.findIdx?_eq_some_iff_getElem := @List.findIdx?_eq_some_iff_getElem
theorem kDp : type_of% @Nat.and_two_pow_sub_one_eq_mod := @Nat.and_two_pow_sub_one_eq_mod
end Go
namespace Go.Eng
open Go
abbrev Heap := List (Nat × Obj)
def keys (H : Heap) : List Nat := H.map (·.1)
structure St (w0 : World) (T : List Nat) (H : Heap) (w : World) : Prop where
 os : w.os = w0.os
 tape : w.tape = w0.tape
 output : w.output = w0.output
 size : w0.heap.size ≤ w.heap.size
 old : ∀ b, b < w0.heap.size → b ∉ T → w.heap[b]? = w0.heap[b]?
 own : ∀ p ∈ H, w.heap[p.1]? = some p.2
 nd : (keys H).Nodup
 fresh : ∀ p ∈ H, p.1 < w0.heap.size → p.1 ∈ T
structure Holds (L : Heap) (w : World) : Prop where
 own : ∀ p ∈ L, w.heap[p.1]? = some p.2
 nd : (keys L).Nodup
theorem Holds.nil (w : World) : Holds [] w := ⟨by simp, by simp [keys]⟩
theorem St.enter {L : Heap} {w : World} (h : Holds L w) : St w (keys L) L w :=
 ⟨rfl, rfl, rfl, kAd _, fun _ _ _ => rfl, h.own, h.nd, fun p hp _ => by simp only [keys]; exact kAw hp⟩
theorem St.start (w : World) : St w [] [] w := St.enter (Holds.nil w)
theorem St.holds {w0 : World} {T : List Nat} {H : Heap} {w : World} (h : St w0 T H w) : Holds H w := ⟨h.own, h.nd⟩
theorem St.lt {w0 : World} {T : List Nat} {H : Heap} {w : World} (h : St w0 T H w) {p : Nat × Obj} (hp : p ∈ H) : p.1 < w.heap.size :=
 (Array.getElem?_eq_some_iff.1 (h.own p hp)).1
/-! ### Places in a heap -/
class Slot (H : Heap) (b : Nat) (o : outParam Obj) (F : outParam (Obj → Heap)) : Prop where
 at_ : ∃ A B, H = A ++ (b, o) :: B ∧ ∀ o', F o' = A ++ (b, o') :: B
instance Slot.head {b : Nat} {o : Obj} {H : Heap} : Slot ((b, o) :: H) b o (fun o' => (b, o') :: H) := ⟨[], H, rfl, fun _ => rfl⟩
instance (priority := low) Slot.tail {b : Nat} {o : Obj} {H : Heap} {F : Obj → Heap} {x : Nat × Obj} [h : Slot H b o F] : Slot (x :: H) b o (fun o' => x :: F o') := by
 obtain ⟨A, B, h1, h2⟩ := h.at_
 exact ⟨x :: A, B, by rw [h1]; rfl, fun o' => by rw [h2]; rfl⟩
instance Slot.left {b : Nat} {o : Obj} {H G : Heap} {F : Obj → Heap} [h : Slot H b o F] : Slot (H ++ G) b o (fun o' => F o' ++ G) := by
 obtain ⟨A, B, h1, h2⟩ := h.at_
 exact ⟨A, B ++ G, by rw [h1]; simp, fun o' => by rw [h2]; simp⟩
instance (priority := low) Slot.right {b : Nat} {o : Obj} {H G : Heap} {F : Obj → Heap} [h : Slot G b o F] : Slot (H ++ G) b o (fun o' => H ++ F o') := by
 obtain ⟨A, B, h1, h2⟩ := h.at_
 exact ⟨H ++ A, B, by rw [h1]; simp, fun o' => by rw [h2]; simp⟩
class Chunk (H : Heap) (L : Heap) (F : outParam (Heap → Heap)) : Prop where
 at_ : ∃ A B, H = A ++ (L ++ B) ∧ ∀ L', F L' = A ++ (L' ++ B)
instance (priority := 3000) Chunk.self {L : Heap} : Chunk L L (fun L' => L') := ⟨[], [], by simp, by simp⟩
instance (priority := 2000) Chunk.front {L B : Heap} : Chunk (L ++ B) L (fun L' => L' ++ B) := ⟨[], B, rfl, fun _ => rfl⟩
instance (priority := 1500) Chunk.one {x : Nat × Obj} {B : Heap} : Chunk (x :: B) [x] (fun L' => L' ++ B) := ⟨[], B, rfl, fun _ => rfl⟩
instance Chunk.two {x y : Nat × Obj} {B : Heap} : Chunk (x :: y :: B) [x, y] (fun L' => L' ++ B) := ⟨[], B, rfl, fun _ => rfl⟩
instance Chunk.three {x y z : Nat × Obj} {B : Heap} : Chunk (x :: y :: z :: B) [x, y, z] (fun L' => L' ++ B) := ⟨[], B, rfl, fun _ => rfl⟩
instance (priority := low) Chunk.tail {x : Nat × Obj} {H L : Heap} {F : Heap → Heap} [h : Chunk H L F] : Chunk (x :: H) L (fun L' => x :: F L') := by
 obtain ⟨A, B, h1, h2⟩ := h.at_
 exact ⟨x :: A, B, by rw [h1]; rfl, fun o' => by rw [h2]; rfl⟩
instance Chunk.left {H G L : Heap} {F : Heap → Heap} [h : Chunk H L F] : Chunk (H ++ G) L (fun L' => F L' ++ G) := by
 obtain ⟨A, B, h1, h2⟩ := h.at_
 exact ⟨A, B ++ G, by rw [h1]; simp, fun o' => by rw [h2]; simp⟩
instance (priority := low) Chunk.right {H G L : Heap} {F : Heap → Heap} [h : Chunk G L F] : Chunk (H ++ G) L (fun L' => H ++ F L') := by
 obtain ⟨A, B, h1, h2⟩ := h.at_
 exact ⟨H ++ A, B, by rw [h1]; simp, fun o' => by rw [h2]; simp⟩
section
variable {w0 : World} {T : List Nat} {H : Heap} {w : World}
theorem St.mem {b : Nat} {o : Obj} {F : Obj → Heap} (hS : St w0 T H w) [hs : Slot H b o F] : w.heap[b]? = some o := by
 obtain ⟨A, B, h1, _⟩ := hs.at_
 exact hS.own (b, o) (by rw [h1]; simp)
theorem St.cell {b off : Nat} {l : List Value} {t : TypeId} {fz : Nat × Nat} {F : Obj → Heap} (hS : St w0 T H w) [Slot H b (.cells ⟨l⟩ t fz) F] {v : Value} (hv : l[off]? = some v) :
  w.cell? ⟨b, off, none⟩ = some v := by
 have := hS.mem (b := b) (o := .cells ⟨l⟩ t fz)
 simp only [World.cell?, this]
 simpa using hv
theorem St.ld {b off : Nat} {l : List Value} {t : TypeId} {fz : Nat × Nat} {F : Obj → Heap} (hS : St w0 T H w) [Slot H b (.cells ⟨l⟩ t fz) F] {v : Value} (hv : l[off]? = some v)
  {K : Value → Prop} (hk : K v) : LdC (fun w' => w = w') ⟨b, off, none⟩ K :=
 ⟨⟨v, fun _ e => by subst e; exact hS.cell hv, hk⟩⟩
theorem St.ldn {n b off : Nat} {l : List Value} {t : TypeId} {fz : Nat × Nat} {F : Obj → Heap} (hS : St w0 T H w) [Slot H b (.cells ⟨l⟩ t fz) F] (hn : Nat.ble (off + n) l.length = true)
  {K : List Value → Prop} (hk : forceL ((l.drop off).take n) K) : LdN (fun w' => w = w') n b off K := by
 have hle := kDm hn
 refine ⟨⟨_, by simp; omega, fun _ e j v hv => ?_, (forceL_iff _ _).1 hk⟩⟩
 subst e
 refine hS.cell ?_
 rw [kCw] at hv
 split at hv
 ·rw [kCv] at hv; exact hv
 ·cases hv
theorem St.oldBlock (hS : St w0 T H w) {b : Nat} (hb : b ∉ T) {o : Obj} (h : w0.heap[b]? = some o) : w.heap[b]? = some o := by
 rw [hS.old b (Array.getElem?_eq_some_iff.1 h).1 hb]; exact h
theorem St.oldCell (hS : St w0 T H w) {a : Addr} (hb : a.block ∉ T) {v : Value} (h : w0.cell? a = some v) : w.cell? a = some v := by
 rw [World.cell?_of_block (hS.old a.block (World.block_lt_of_cell? w0 a h) hb)]; exact h
theorem St.ldOld (hS : St w0 T H w) {a : Addr} (hb : a.block ∉ T) {v : Value} (h : w0.cell? a = some v) {K : Value → Prop} (hk : K v) : LdC (fun w' => w = w') a K :=
 ⟨⟨v, fun _ e => by subst e; exact hS.oldCell hb h, hk⟩⟩
theorem St.ldC {b off : Nat} {l : List Value} {t : TypeId} {fz : Nat × Nat} {F : Obj → Heap} (_hS : St w0 T H w) [Slot H b (.cells ⟨l⟩ t fz) F] {v : Value} (hv : l[off]? = some v)
  {K : Value → Prop} (hk : K v) : LdC (fun w' => St w0 T H w') ⟨b, off, none⟩ K :=
 ⟨⟨v, fun _ h => h.cell hv, hk⟩⟩
theorem St.ldnC {n b off : Nat} {l : List Value} {t : TypeId} {fz : Nat × Nat} {F : Obj → Heap} (_hS : St w0 T H w) [Slot H b (.cells ⟨l⟩ t fz) F] (hn : Nat.ble (off + n) l.length = true)
  {K : List Value → Prop} (hk : forceL ((l.drop off).take n) K) : LdN (fun w' => St w0 T H w') n b off K := by
 have hle := kDm hn
 refine ⟨⟨_, by simp; omega, fun _ h j v hv => ?_, (forceL_iff _ _).1 hk⟩⟩
 refine h.cell ?_
 rw [kCw] at hv
 split at hv
 ·rw [kCv] at hv; exact hv
 ·cases hv
theorem St.ldOldC (_hS : St w0 T H w) {a : Addr} (hb : a.block ∉ T) {v : Value} (h : w0.cell? a = some v) {K : Value → Prop} (hk : K v) : LdC (fun w' => St w0 T H w') a K :=
 ⟨⟨v, fun _ h' => h'.oldCell hb h, hk⟩⟩
theorem St.alloc (hS : St w0 T H w) (o : Obj) : St w0 T ((w.heap.size, o) :: H) (w.alloc o) := by
 refine ⟨hS.os, hS.tape, hS.output, by simp; exact Nat.le_succ_of_le hS.size, fun b hb hT => ?_, fun p hp => ?_, ?_, fun p hp hlt => ?_⟩
 ·rw [RowKit.Below.heap_alloc _ _ _ (Nat.lt_of_lt_of_le hb hS.size)]; exact hS.old b hb hT
 ·rcases kAf.1 hp with rfl | hp
  ·exact heap_alloc_new w o
  ·rw [RowKit.Below.heap_alloc _ _ _ (hS.lt hp)]; exact hS.own p hp
 ·simp only [keys, kAh, kBq]
  refine ⟨fun hm => ?_, hS.nd⟩
  obtain ⟨p, hp, he⟩ := kAm.1 hm
  have := hS.lt hp
  omega
 ·rcases kAf.1 hp with rfl | hp
  ·have := hS.size; simp at hlt; omega
  ·exact hS.fresh p hp hlt
theorem St.al (hS : St w0 T H w) {o : Obj} {K : Nat → World → Prop} (h : ∀ b w', w0.heap.size ≤ b → St w0 T ((b, o) :: H) w' → K b w') : AllG w o K :=
 ⟨h _ _ hS.size (hS.alloc o)⟩
theorem keys_mid (A B : Heap) (b : Nat) (o : Obj) : keys (A ++ (b, o) :: B) = keys A ++ b :: keys B := by simp [keys]
theorem St.setBlock {b : Nat} {o o' : Obj} {F : Obj → Heap} (hS : St w0 T H w) [hs : Slot H b o F] {w' : World} (h1 : w'.os = w.os) (h2 : w'.tape = w.tape) (h3 : w'.output = w.output)
  (h4 : w'.heap.size = w.heap.size) (h5 : ∀ k, k ≠ b → w'.heap[k]? = w.heap[k]?) (h6 : w'.heap[b]? = some o') : St w0 T (F o') w' := by
 obtain ⟨A, B, e1, e2⟩ := hs.at_
 have hmem : (b, o) ∈ H := by rw [e1]; simp
 have hkeys : keys (F o') = keys H := by rw [e2, e1, keys_mid, keys_mid]
 refine ⟨h1.trans hS.os, h2.trans hS.tape, h3.trans hS.output, by rw [h4]; exact hS.size, fun k hk hT => ?_, fun p hp => ?_, by rw [hkeys]; exact hS.nd, fun p hp hlt => ?_⟩
 ·have hkb : k ≠ b := fun e => by subst e; exact hT (hS.fresh _ hmem hk)
  rw [h5 k hkb]; exact hS.old k hk hT
 ·rw [e2] at hp
  have hnd := hS.nd
  rw [e1, keys_mid] at hnd
  rcases kAl.1 hp with hp | hp
  ·have hne : p.1 ≠ b := fun e => by
    have := (kBw.1 hnd).2.2 p.1 (by simp only [keys]; exact kAw hp) b (by simp)
    exact this e
   rw [h5 _ hne]; exact hS.own p (by rw [e1]; simp [hp])
  ·rcases kAf.1 hp with rfl | hp
   ·exact h6
   ·have hne : p.1 ≠ b := fun e => by
     have := (kBq.1 (kBw.1 hnd).2.1).1
     exact this (by rw [← e]; simp only [keys]; exact kAw hp)
    rw [h5 _ hne]; exact hS.own p (by rw [e1]; simp [hp])
 ·have hk : p.1 ∈ keys H := by rw [← hkeys]; simp only [keys]; exact kAw hp
  obtain ⟨q, hq, he⟩ := kAm.1 hk
  rw [← he]; exact hS.fresh q hq (by rw [he]; exact hlt)
theorem St.setRow {b : Nat} {l l' : List Value} {t : TypeId} {fz : Nat × Nat} {F : Obj → Heap} (hS : St w0 T H w) [hs : Slot H b (.cells ⟨l⟩ t fz) F] : St w0 T (F (.cells ⟨l'⟩ t fz)) (w.setRow b ⟨l'⟩) := by
 have hm := hS.mem (b := b) (o := .cells ⟨l⟩ t fz)
 refine hS.setBlock (b := b) (o := .cells ⟨l⟩ t fz) rfl rfl rfl (by simp [World.setRow]) (fun k hk => ?_) (setRow_heap w b _ _ _ _ hm)
 simp only [World.setRow, Array.getElem?_modify]
 rw [if_neg (Ne.symm hk)]
theorem St.st {b off : Nat} {vs l : List Value} {t : TypeId} {F : Obj → Heap} (hS : St w0 T H w) [Slot H b (.cells ⟨l⟩ t (0, 0)) F] (hv : vs.all Value.oneCell' = true) (hn : Nat.ble (off + vs.length) l.length = true)
  {K : World → Prop} (hk : putK l off vs fun l' => ∀ w', St w0 T (F (.cells ⟨l'⟩ t (0, 0))) w' → K w') : StG w b off vs K := by
 refine ⟨⟨l, t, (0, 0), hS.mem, .inl (kAg _), kDm hn, fun v h => kBd.1 hv v h, ?_⟩⟩
 exact (putK_iff _ _ _ _ hk).2 _ (hS.setRow (l := l))
theorem St.stI {b off : Nat} {v : Value} {l : List Value} {t : TypeId} {F : Obj → Heap} (hS : St w0 T H w) [Slot H b (.cells ⟨l⟩ t (0, 0)) F] (hv : v.oneCell' = true) (hn : off < l.length)
  {K : World → Prop} (hk : ∀ w', St w0 T (F (.cells ⟨l.set off v⟩ t (0, 0))) w' → K w') : StG w b off [v] K := by
 refine ⟨⟨l, t, (0, 0), hS.mem, .inl (kAg _), by simp; omega, fun x h => by simp at h; subst h; exact hv, ?_⟩⟩
 have e : splice l off [v] = l.set off v := by
  unfold splice
  rw [List.set_eq_take_append_cons_drop, if_pos hn]
  simp
 rw [e]
 exact hk _ (hS.setRow (l := l))
theorem St.sub {H' : Heap} (hS : St w0 T H w) (h : H'.Sublist H) : St w0 T H' w :=
 ⟨hS.os, hS.tape, hS.output, hS.size, hS.old, fun p hp => hS.own p (h.subset hp), hS.nd.sublist (h.map _), fun p hp => hS.fresh p (h.subset hp)⟩
theorem St.nil (hS : St w0 T H w) : St w0 T [] w := hS.sub (List.nil_sublist _)
theorem St.perm {H' : Heap} (hS : St w0 T H w) (h : H.Perm H') : St w0 T H' w :=
 ⟨hS.os, hS.tape, hS.output, hS.size, hS.old, fun p hp => hS.own p (h.mem_iff.2 hp), (h.map _).nodup_iff.1 hS.nd, fun p hp => hS.fresh p (h.mem_iff.2 hp)⟩
theorem St.part {L : Heap} {F : Heap → Heap} (hS : St w0 T H w) [hc : Chunk H L F] : Holds L w := by
 obtain ⟨A, B, h1, _⟩ := hc.at_
 have hsub : L.Sublist H := by rw [h1]; exact (kBk L B).trans (kAj A _)
 exact ⟨fun p hp => hS.own p (hsub.subset hp), hS.nd.sublist (hsub.map _)⟩
theorem St.call {L L' : Heap} {F : Heap → Heap} (hS : St w0 T H w) [hc : Chunk H L F] {w' : World} (h : St w (keys L) L' w') : St w0 T (F L') w' := by
 obtain ⟨A, B, h1, h2⟩ := hc.at_
 have hnd := hS.nd
 have hk : keys H = keys A ++ (keys L ++ keys B) := by rw [h1]; simp [keys]
 rw [hk] at hnd
 obtain ⟨ndA, ndLB, hdis⟩ := kBw.1 hnd
 obtain ⟨ndL, ndB, hdis2⟩ := kBw.1 ndLB
 have inA : ∀ p ∈ A, p ∈ H := fun p hp => by rw [h1]; simp [hp]
 have inB : ∀ p ∈ B, p ∈ H := fun p hp => by rw [h1]; simp [hp]
 have inL : ∀ p ∈ L, p ∈ H := fun p hp => by rw [h1]; simp [hp]
 have kA : ∀ p ∈ A, p.1 ∈ keys A := fun p hp => by simp only [keys]; exact kAw hp
 have kB : ∀ p ∈ B, p.1 ∈ keys B := fun p hp => by simp only [keys]; exact kAw hp
 have nAL : ∀ p ∈ A, p.1 ∉ keys L := fun p hp hm => hdis _ (kA p hp) _ (kBm _ hm) rfl
 have nBL : ∀ p ∈ B, p.1 ∉ keys L := fun p hp hm => hdis2 _ hm _ (kB p hp) rfl
 -- where the keys of L' lie
 have kL' : ∀ p ∈ L', p.1 ∈ keys L ∨ w.heap.size ≤ p.1 := fun p hp => by
  rcases Nat.lt_or_ge p.1 w.heap.size with hlt | hge
  ·exact .inl (h.fresh p hp hlt)
  ·exact .inr hge
 rw [h2]
 refine ⟨h.os.trans hS.os, h.tape.trans hS.tape, h.output.trans hS.output, kBb hS.size h.size, fun b hb hT => ?_, fun p hp => ?_, ?_, fun p hp hlt => ?_⟩
 ·have hb' : b < w.heap.size := Nat.lt_of_lt_of_le hb hS.size
  have hbL : b ∉ keys L := fun hm => by
   obtain ⟨q, hq, he⟩ := kAm.1 hm
   exact hT (he ▸ hS.fresh q (inL q hq) (by rw [he]; exact hb))
  rw [h.old b hb' hbL]; exact hS.old b hb hT
 ·rcases kAl.1 hp with hp | hp
  ·rw [h.old _ (hS.lt (inA p hp)) (nAL p hp)]; exact hS.own p (inA p hp)
  ·rcases kAl.1 hp with hp | hp
   ·exact h.own p hp
   ·rw [h.old _ (hS.lt (inB p hp)) (nBL p hp)]; exact hS.own p (inB p hp)
 ·have : keys (A ++ (L' ++ B)) = keys A ++ (keys L' ++ keys B) := by simp [keys]
  rw [this]
  refine kBw.2 ⟨ndA, kBw.2 ⟨h.nd, ndB, fun x hx y hy e => ?_⟩, fun x hx y hy e => ?_⟩
  ·subst e
   obtain ⟨q, hq, rfl⟩ := kAm.1 hx
   obtain ⟨r, hr, hre⟩ := kAm.1 hy
   rcases kL' q hq with hL | hge
   ·exact hdis2 _ hL _ hy rfl
   ·have := hS.lt (inB r hr); omega
  ·subst e
   obtain ⟨r, hr, rfl⟩ := kAm.1 hx
   rcases kAl.1 hy with hy | hy
   ·obtain ⟨q, hq, hqe⟩ := kAm.1 hy
    rcases kL' q hq with hL | hge
    ·exact nAL r hr (by rw [← hqe]; exact hL)
    ·have := hS.lt (inA r hr); omega
   ·exact hdis _ (kA r hr) _ (kBp _ hy) rfl
 ·rcases kAl.1 hp with hp | hp
  ·exact hS.fresh p (inA p hp) hlt
  ·rcases kAl.1 hp with hp | hp
   ·rcases kL' p hp with hL | hge
    ·obtain ⟨q, hq, he⟩ := kAm.1 hL
     rw [← he]; exact hS.fresh q (inL q hq) (by rw [he]; exact hlt)
    ·have := hS.size; omega
   ·exact hS.fresh p (inB p hp) hlt
theorem St.callNew (hS : St w0 T H w) {L' : Heap} {w' : World} (h : St w [] L' w') : St w0 T (L' ++ H) w' :=
 St.call (L := []) (F := fun L' => L' ++ H) (hc := ⟨[], H, by simp, fun _ => by simp⟩) hS h
theorem St.call0 (hS : St w0 T H w) {w' : World} (h : St w [] [] w') : St w0 T H w' := by
 have hc : Chunk H [] (fun L' => L' ++ H) := ⟨[], H, rfl, fun _ => rfl⟩
 exact @St.call w0 T H w [] [] _ hS hc w' h
theorem St.of_alike (hS : St w0 T H w) {w' : World} (h1 : w'.os = w.os) (h2 : w'.tape = w.tape) (h3 : w'.output = w.output) (h4 : w'.heap = w.heap) : St w0 T H w' :=
 ⟨h1.trans hS.os, h2.trans hS.tape, h3.trans hS.output, by rw [h4]; exact hS.size, fun b hb hT => by rw [h4]; exact hS.old b hb hT, fun p hp => by rw [h4]; exact hS.own p hp, hS.nd, hS.fresh⟩
theorem St.drew (hS : St w0 T H w) : St w0 T H w.drew := hS.of_alike rfl rfl rfl rfl
end
/-! ### A slice that is read -/
def Arr (w : World) (T : List Nat) (a : Option Addr) (xs : List Value) : Prop :=
 ∀ j x, xs[j]? = some x → ∃ b off, a = some ⟨b, off, none⟩ ∧ b ∉ T ∧ w.cell? ⟨b, off + j, none⟩ = some x
theorem Arr.get {w : World} {T : List Nat} {a : Option Addr} {xs : List Value} (h : Arr w T a xs) {j : Nat} (hj : j < xs.length) : ∃ b off, a = some ⟨b, off, none⟩ ∧ b ∉ T ∧ w.cell? ⟨b, off + j, none⟩ = some xs[j] :=
 h j xs[j] (kAp hj)
theorem Arr.nil (w : World) (T : List Nat) (a : Option Addr) : Arr w T a [] := fun j x h => by simp at h
theorem St.arrOld {w0 : World} {T : List Nat} {H : Heap} {w : World} (hS : St w0 T H w) {a : Option Addr} {xs : List Value} (h : Arr w0 T a xs) : Arr w T a xs := fun j x hx => by
 obtain ⟨b, off, h1, h2, h3⟩ := h j x hx
 exact ⟨b, off, h1, h2, hS.oldCell (a := ⟨b, off + j, none⟩) h2 h3⟩
theorem St.arr {w0 : World} {T : List Nat} {H : Heap} {w : World} {b : Nat} {l : List Value} {t : TypeId} {fz : Nat × Nat} {F : Obj → Heap} (hS : St w0 T H w) [Slot H b (.cells ⟨l⟩ t fz) F]
  {T' : List Nat} (hb : b ∉ T') : Arr w T' (some ⟨b, 0, none⟩) l := fun j x hx => ⟨b, 0, rfl, hb, by rw [kBl]; exact hS.cell hx⟩
theorem Arr.sub {w : World} {T T' : List Nat} {a : Option Addr} {xs : List Value} (h : Arr w T a xs) (hT : ∀ b, b ∈ T' → b ∈ T) : Arr w T' a xs := fun j x hx => by
 obtain ⟨b, off, h1, h2, h3⟩ := h j x hx
 exact ⟨b, off, h1, fun hm => h2 (hT b hm), h3⟩
end Go.Eng
namespace Go.Eng
open Go
section
variable {P : Program} {ops : Array Oper} {Q : Exit → Act → World → Prop} {md : Region.Mode} {S : Nat → World → Prop}
def wpAnyI (P : Program) (md : Region.Mode) (ops : Array Oper) (Q : Exit → Act → World → Prop) (S : Nat → World → Prop) : Nat → Array Bool → Act → World → Prop
 |0, listed, a, w => Region.ready md ops listed = [] ∧ Q .normal a w
 |fuel + 1, listed, a, w =>
  (Region.ready md ops listed = [] → Q .normal a w) ∧
  ∀ i ∈ Region.ready md ops listed, wpOp P ops Q i (fun a' w' => S i w' ∧ wpAnyI P md ops Q S fuel (listed.setIfInBounds i true) a' w') a w
theorem wpAny_of_I : ∀ (fuel : Nat) (listed : Array Bool) (a : Act) (w : World), wpAnyI P md ops Q S fuel listed a w → wpAny P md ops Q fuel listed a w
 |0, _, _, _, h => h
 |fuel + 1, _, _, _, h => ⟨h.1, fun i hi => wpOp_mono (fun a' w' h' => wpAny_of_I fuel _ a' w' h'.2) (h.2 i hi)⟩
def dep (ops : Array Oper) : Nat → Nat → Nat → Bool
 |0, _, _ => false
 |n + 1, j, i => match ops[j]? with
  |some oj => oj.after.any fun e => Region.binds .any e && (e.on == i || dep ops n e.on i)
  |none => false
def Closed (ops : Array Oper) (listed : Array Bool) : Prop :=
 ∀ j oj, ops[j]? = some oj → listed.getD j false = true → ∀ e ∈ oj.after, Region.binds .any e = true → listed.getD e.on false = true
theorem dep_listed {listed : Array Bool} (hc : Closed ops listed) {i : Nat} : ∀ (n j : Nat), dep ops n j i = true → (∀ oj, ops[j]? = some oj → ∀ e ∈ oj.after, Region.binds .any e = true → listed.getD e.on false = true) → listed.getD i false = true
 |0, _, h, _ => by simp [dep] at h
 |n + 1, j, h, hj => by
  simp only [dep] at h
  cases hoj : ops[j]? with
  |none => simp [hoj] at h
  |some oj =>
   rw [hoj] at h
   obtain ⟨e, he, hb⟩ := Array.any_eq_true'.1 h
   simp only [Bool.and_eq_true, Bool.or_eq_true, beq_iff_eq] at hb
   have hl := hj oj hoj e he hb.1
   rcases hb.2 with h1 | h1
   ·rw [← h1]; exact hl
   ·exact dep_listed hc n e.on h1 fun o ho e' he' hb' => hc _ _ ho hl e' he' hb'
theorem getD_both' {listed : Array Bool} {i : Nat} (h : listed.getD i true = false) : listed.getD i false = false := by
 rcases Nat.lt_or_ge i listed.size with h' | h'
 ·simp [h'] at h ⊢; exact h
 ·simp [Array.getElem?_eq_none h'] at h
theorem ready_not_dep {listed : Array Bool} (hc : Closed ops listed) {i j n : Nat} (hi : listed.getD i true = false) (hj : j ∈ Region.ready .any ops listed) : dep ops n j i = false := by
 cases hd : dep ops n j i with
 |false => rfl
 |true =>
  obtain ⟨_, oj, hoj, hall⟩ := mem_ready.1 hj
  have := dep_listed hc n j hd fun o ho e he hb => by rw [hoj] at ho; cases ho; exact hall e he hb
  rw [getD_both' hi] at this; cases this
theorem Closed.set {listed : Array Bool} (hc : Closed ops listed) {j : Nat} (hj : j ∈ Region.ready .any ops listed) : Closed ops (listed.setIfInBounds j true) := by
 obtain ⟨_, oj, hoj, hall⟩ := mem_ready.1 hj
 intro k ok hk hl e he hb
 have h1 : listed.getD e.on false = true := by
  by_cases hjk : j = k
  ·subst hjk; rw [hoj] at hk; cases hk; exact hall e he hb
  ·rw [getD_set_ne false hjk] at hl; exact hc k ok hk hl e he hb
 exact getD_set_true h1
theorem wpAnyI_first {C : World → Prop} {n i : Nat} {oi : Oper} {v : Value} (hi : ops[i]? = some oi) (hsel : ∀ (j : Nat) (o : Oper) cs b, ops[j]? = some o → o.op ≠ .select cs b)
  (hQ : ∀ c a w, Q (.panic c) (a.put oi.dst v) w → Q (.panic c) a w) (hSi : ∀ w, C w → S i w) :
  ∀ (fuel : Nat) (listed : Array Bool) (a : Act) (w : World), Closed ops listed →
   (∀ j oj, ops[j]? = some oj → j ≠ i → listed.getD j true = false → dep ops n j i = false → oi.apart ops oj = true ∧ ∀ w', S j w' → C w') →
   i ∈ Region.ready .any ops listed → YieldsIf P ops C oi v a → C w →
   wpAnyI P .any ops Q S fuel (listed.setIfInBounds i true) (a.put oi.dst v) w → wpAnyI P .any ops Q S (fuel + 1) listed a w := by
 intro fuel
 induction fuel with
 |zero =>
  intro listed a w _ _ hr hy hS H
  refine ⟨fun h => (by rw [h] at hr; cases hr), fun j hj => ?_⟩
  by_cases hji : j = i
  ·subst hji; exact hy.wpOp hi hS ⟨hSi _ hS, H⟩
  ·have := ready_mono hj hji
   rw [H.1] at this
   cases this
 |succ fuel ih =>
  intro listed a w hcl hfree hr hy hS H
  refine ⟨fun h => (by rw [h] at hr; cases hr), fun j hj => ?_⟩
  by_cases hji : j = i
  ·subst hji; exact hy.wpOp hi hS ⟨hSi _ hS, H⟩
  ·have h1 := H.2 j (ready_mono hj hji)
   obtain ⟨hjun, oj, hoj, hall⟩ := mem_ready.1 hj
   have hnot := ready_not_dep (n := n) hcl (mem_ready.1 hr).1 hj
   obtain ⟨hap, hkeep⟩ := hfree j oj hoj hji hjun hnot
   have h2 := wpOp_putIf hoj hap (fun cs b => hsel i oi cs b hi) (fun cs b => hsel j oj cs b hoj) hQ hy h1
   have hfree' : ∀ k ok, ops[k]? = some ok → k ≠ i → (listed.setIfInBounds j true).getD k true = false →
     dep ops n k i = false → oi.apart ops ok = true ∧ ∀ w', S k w' → C w' := fun k ok hk hki hun hno => by
    refine hfree k ok hk hki ?_ hno
    by_cases hjk : j = k
    ·subst hjk; exact hjun
    ·rw [getD_set_ne true hjk] at hun; exact hun
   refine wpOp_mono (fun a' w' h3 => ⟨h3.2.1, ih (listed.setIfInBounds j true) a' w' (hcl.set hj) hfree' (ready_mono hr (Ne.symm hji)) h3.1 (hkeep _ h3.2.1) ?_⟩) h2
   rw [Array.setIfInBounds_comm _ _ hji]
   exact h3.2.2
end
def free' (ops : Array Oper) (listed : Array Bool) (i : Nat) : Bool :=
 match ops[i]? with
 |none => false
 |some oi => (List.range ops.size).all fun j => j == i || listed.getD j true || dep ops ops.size j i || (match ops[j]? with | some oj => oi.apart ops oj | none => true)
def finWait (ops : Array Oper) (listed : Array Bool) (fin : List Nat) (i : Nat) : Bool := fin.all fun j => j == i || listed.getD j true || dep ops ops.size j i
def planOK (ops : Array Oper) (kd : Op → OpKind) (fin : List Nat) : List Nat → Bool → Array Bool → Bool
 |[], _, listed => (Region.ready .any ops listed).isEmpty
 |i :: r, c, listed => match ops[i]? with
  |none => false
  |some o => (c || fin.elem i) && (match kd o.op with
   |.pure => (Region.ready .any ops listed).contains i && free' ops listed i && (fin.elem i || finWait ops listed fin i)
   |.read => (Region.ready .any ops listed).contains i && free' ops listed i && !fin.elem i && finWait ops listed fin i
   |.eff => (Region.ready .any ops listed) == [i]) &&
   planOK ops kd fin r (match kd o.op with | .eff => c && !fin.elem i | _ => c) (listed.setIfInBounds i true)
def atK : List Oper → Nat → (Oper → Prop) → Prop
 |[], _, _ => False
 |o :: _, 0, K => K o
 |_ :: t, n + 1, K => atK t n K
theorem atK_iff : ∀ {l : List Oper} {n : Nat} {K : Oper → Prop}, atK l n K → ∃ o, l[n]? = some o ∧ K o
 |[], _, _, h => h.elim
 |o :: _, 0, _, h => ⟨o, rfl, h⟩
 |_ :: t, n + 1, _, h => by simpa using atK_iff (l := t) h
def vcD (P : Program) (T : Tbl) (N : Nat) (all : List Oper) (C : World → Prop) (fin : List Nat) : List Nat → Env → World → (Env → World → Prop) → Prop
 |[], e, w, K => K e w
 |i :: r, e, w, K => atK all i fun o => grdG all o.guard e
  (fun e => match kind T o.op with
   |.pure => pureG P T e o.op fun v => putE N o.dst v e fun e' => vcD P T N all C fin r e' w K
   |.read => readG P T e C o fun v => putE N o.dst v e fun e' => vcD P T N all C fin r e' w K
   |.eff => effG P T e o w fun v w' => (match fin.elem i with
    |true => putE N o.dst v e fun e' => vcD P T N all C fin r e' w' K
    |false => Chk (C w') (putE N o.dst v e fun e' => vcD P T N all C fin r e' w' K)))
  (fun e => putE N o.dst undef e fun e' => vcD P T N all C fin r e' w K)
variable {ds : List Deferred}
theorem vcD_sound {P : Program} {T : Tbl} (hT : TOk P T) {N : Nat} {all : List Oper} {C : World → Prop} {fin : List Nat} {Q : Exit → Act → World → Prop} {K : Env → World → Prop}
  (hsel : Region.noSelect ⟨all⟩ = true) (hQp : ∀ c a w, ¬ Q (.panic c) a w)
  (hK : ∀ e' a' w', K e' w' → Rel ds N e' a' → Q .normal a' w') :
  ∀ (r : List Nat) (c : Bool) (listed : Array Bool) (e : Env) (a : Act) (w : World), Closed ⟨all⟩ listed → (c = true → C w) → Rel ds N e a → planOK ⟨all⟩ (kind T) fin r c listed = true → vcD P T N all C fin r e w K →
   wpAnyI P .any ⟨all⟩ Q (fun j w' => j ∈ fin ∨ C w') r.length listed a w
 |[], c, listed, e, a, w, _, _, hr, hp, h => ⟨by simpa [planOK] using hp, hK _ _ _ h hr⟩
 |i :: r, c, listed, e, a, w, hcl, hC, hr, hp, h => by
  obtain ⟨o, ho, h⟩ := atK_iff h
  have ho' : (Array.mk all)[i]? = some o := by simpa using ho
  simp only [planOK, ho', Bool.and_eq_true] at hp
  obtain ⟨⟨hcf, hkind⟩, hrest⟩ := hp
  have hcf' : C w ∨ i ∈ fin := by
   rcases Bool.or_eq_true _ _ ▸ hcf with h | h
   ·exact .inl (hC h)
   ·exact .inr (by simpa using h)
  -- taken first
  have take : ∀ (v : Value) (e' : Env), kind T o.op ≠ .eff → YieldsIf P ⟨all⟩ (fun w => i ∈ fin ∨ C w) o v a → Rel ds N e' (a.put o.dst v) → vcD P T N all C fin r e' w K →
    wpAnyI P .any ⟨all⟩ Q (fun j w' => j ∈ fin ∨ C w') (r.length + 1) listed a w := by
   intro v e' hne hy hr' hv
   have hfw : (Region.ready .any ⟨all⟩ listed).contains i = true ∧ free' ⟨all⟩ listed i = true ∧ (i ∈ fin ∨ finWait ⟨all⟩ listed fin i = true) := by
    cases hk : kind T o.op <;> simp only [hk] at hkind hne
    case pure =>
     simp only [Bool.and_eq_true, Bool.or_eq_true] at hkind
     refine ⟨hkind.1.1, hkind.1.2, ?_⟩
     rcases hkind.2 with h | h
     ·exact .inl (by simpa using h)
     ·exact .inr h
    case read =>
     simp only [Bool.and_eq_true] at hkind
     exact ⟨hkind.1.1.1, hkind.1.1.2, .inr hkind.2⟩
    case eff => exact absurd rfl hne
   have hready : i ∈ Region.ready .any ⟨all⟩ listed := by simpa using hfw.1
   refine wpAnyI_first (C := fun w => i ∈ fin ∨ C w) (n := all.length) ho' (Region.noSelect_spec hsel) (fun c a w h => absurd h (hQp _ _ _)) (fun _ h => h) r.length listed a w hcl ?_ hready hy (Or.symm hcf') ?_
   ·intro j oj hj hne hun hd
    have hjlt : j < all.length := by have := (Array.getElem?_eq_some_iff.1 hj).1; simpa using this
    have hf := hfw.2.1
    simp only [free', ho', kBd, List.mem_range] at hf
    have h1 := hf j (by simpa using hjlt)
    have hd' : dep ⟨all⟩ (Array.mk all).size j i = false := hd
    simp only [hj, Bool.or_eq_true, beq_iff_eq, hne, false_or, hun, hd', Bool.false_eq_true] at h1
    refine ⟨h1, fun w' hw' => ?_⟩
    rcases hfw.2.2 with h2 | h2
    ·exact .inl h2
    ·rcases hw' with hw' | hw'
     ·simp only [finWait, kBd] at h2
      have h3 := h2 j hw'
      simp only [Bool.or_eq_true, beq_iff_eq, hne, false_or, hun, hd', Bool.false_eq_true] at h3
     ·exact .inr hw'
   ·refine vcD_sound hT hsel hQp hK r _ _ e' _ w (hcl.set hready) ?_ hr' hrest hv
    intro hc
    cases hk : kind T o.op <;> rw [hk] at hc
    ·exact hC hc
    ·exact hC hc
    ·exact absurd hk hne
  -- it comes up alone
  have alone : kind T o.op = .eff → ∀ (Kn : Act → World → Prop), (∀ a' w', Kn a' w' → ∃ e', Rel ds N e' a' ∧ (i ∈ fin ∨ C w') ∧ vcD P T N all C fin r e' w' K) → wpOp P ⟨all⟩ Q i Kn a w →
    wpAnyI P .any ⟨all⟩ Q (fun j w' => j ∈ fin ∨ C w') (r.length + 1) listed a w := by
   intro hk Kn hKn hw
   rw [hk] at hkind hrest
   have hready : Region.ready .any ⟨all⟩ listed = [i] := by simpa using hkind
   have hmem : i ∈ Region.ready .any ⟨all⟩ listed := by rw [hready]; simp
   refine ⟨fun h0 => (by rw [h0] at hmem; cases hmem), fun j hj => ?_⟩
   rw [hready] at hj
   simp only [kAy] at hj
   subst hj
   refine wpOp_mono (fun a' w' hk' => ?_) hw
   obtain ⟨e', h1, h2, h3⟩ := hKn a' w' hk'
   refine ⟨h2, vcD_sound hT hsel hQp hK r _ _ e' _ w' (hcl.set hmem) (fun hc => ?_) h1 hrest h3⟩
   rcases h2 with h2 | h2
   ·simp only [Bool.and_eq_true, Bool.not_eq_true'] at hc
    have : fin.elem j = true := by simpa using h2
    rw [this] at hc; exact absurd hc.2 (by simp)
   ·exact h2
  rcases grdG_iff hr h with ⟨e1, h1, h2, h3⟩ | ⟨e1, h1, h2, h3⟩
  ·cases hk : kind T o.op <;> simp only [hk] at h3
   case pure =>
    obtain ⟨v, h4, h5⟩ := pureG_sound hT h1 h3
    obtain ⟨e', h6, h7⟩ := putE_iff h4 h1
    exact take v e' (by rw [hk]; nofun) (.inl ⟨h2, fun w _ => h5 w⟩) h6 h7
   case read =>
    obtain ⟨v, h4, h5⟩ := readG_sound hT h1 h3
    obtain ⟨e', h6, h7⟩ := putE_iff h4 h1
    have hnf : ¬ i ∈ fin := by
     rw [hk] at hkind
     simp only [Bool.and_eq_true, Bool.not_eq_true'] at hkind
     intro hm
     have : fin.elem i = true := by simpa using hm
     rw [this] at hkind; exact absurd hkind.1.2 (by simp)
    exact take v e' (by rw [hk]; nofun) (.inl ⟨h2, fun w hw => h5 w (hw.resolve_left hnf)⟩) h6 h7
   case eff =>
    refine alone hk (fun a' w' => ∃ e', Rel ds N e' a' ∧ (i ∈ fin ∨ C w') ∧ vcD P T N all C fin r e' w' K) (fun _ _ h => h) ?_
    unfold wpOp
    simp only [ho', h2, if_true]
    refine .inl (effG_sound hT h1 h3 fun v w' hk' => ?_)
    cases hf : fin.elem i <;> rw [hf] at hk'
    ·obtain ⟨e', h6, h7⟩ := putE_iff hk'.q h1
     exact ⟨e', h6, .inr hk'.p, h7⟩
    ·obtain ⟨e', h6, h7⟩ := putE_iff hk' h1
     exact ⟨e', h6, .inl (by simpa using hf), h7⟩
  ·obtain ⟨e', h6, h7⟩ := putE_iff h3 h1
   by_cases hk : kind T o.op = .eff
   ·refine alone hk (fun a' w' => ∃ e', Rel ds N e' a' ∧ (i ∈ fin ∨ C w') ∧ vcD P T N all C fin r e' w' K) (fun _ _ h => h) ?_
    unfold wpOp
    simp only [ho', h2, Bool.false_eq_true, if_false]
    exact ⟨e', h6, Or.symm hcf', h7⟩
   ·exact take undef e' hk (.inr ⟨h2, rfl⟩) h6 h7
theorem SemW.draw {P : Program} {T : Tbl} (hT : TOk P T) {N : Nat} {id : Nat} {all : List Oper} {Q : Exit → Env → World → Prop} {e : Env} {w : World} (hm : P.follows .mixedOrders = true)
  (C : World → Prop) (fin ord : List Nat) (hok : (Region.noSelect ⟨all⟩ && Nat.beq ord.length all.length && planOK ⟨all⟩ (kind T) fin ord true (Array.replicate (Array.mk all).size false)) = true)
  (hC : C w.drew) (h : vcD P T N all C fin ord e w.drew fun e' w' => Q .normal e' w') : StopW P N (.region id ⟨all⟩ true) Q e w := by
 simp only [Bool.and_eq_true] at hok
 obtain ⟨⟨h1, h2⟩, h3⟩ := hok
 refine ⟨fun a hr => wp_region_any hm ?_⟩
 have hl := Nat.eq_of_beq_eq_true h2
 have hcl : Closed ⟨all⟩ (Array.replicate (Array.mk all).size false) := by
  intro j oj _ hl
  simp only [Array.getD_eq_getD_getElem?, Array.getElem?_replicate] at hl
  split at hl <;> simp at hl
 have := vcD_sound (Q := lift N Q) hT h1 (fun _ _ _ h => h) (fun e' a' w' hk hr' => ⟨e', hr', hk⟩) ord true _ e a w.drew hcl (fun _ => hC) hr h3 h
 rw [hl] at this
 exact wpAny_of_I _ _ _ _ this
def allP : List Nat → (Nat → Prop) → Prop
 |[], _ => True
 |i :: r, F => F i ∧ allP r F
theorem allP_mem : ∀ {is : List Nat} {F : Nat → Prop}, allP is F → ∀ i ∈ is, F i
 |j :: r, F, h, i, hi => by
  rcases kAf.1 hi with rfl | hi
  ·exact h.1
  ·exact allP_mem h.2 i hi
end Go.Eng
namespace Go.Eng
open Go
inductive Vec (e : TypeId) (sz : Nat) : Option Addr → Nat → Nat → List Value → Heap → Prop where
 |nil : Vec e sz none 0 0 [] []
 |row (g n cap : Nat) (xs l : List Value) (hx : xs.length = n * sz) (hl : xs.length + l.length = cap * sz) (hn : n ≤ cap) : Vec e sz (some ⟨g, 0, none⟩) n cap xs [(g, .cells ⟨xs ++ l⟩ e (0, 0))]
theorem Vec.inv {e : TypeId} {sz : Nat} {a : Option Addr} {n cap : Nat} {xs : List Value} {L : Heap} (h : Vec e sz a n cap xs L) :
  (a = none ∧ n = 0 ∧ cap = 0 ∧ xs = [] ∧ L = []) ∨ ∃ g l, a = some ⟨g, 0, none⟩ ∧ xs.length = n * sz ∧ xs.length + l.length = cap * sz ∧ n ≤ cap ∧ L = [(g, .cells ⟨xs ++ l⟩ e (0, 0))] := by
 cases h with
 |nil => exact .inl ⟨rfl, rfl, rfl, rfl, rfl⟩
 |row g n cap xs l hx hl hn => exact .inr ⟨g, l, rfl, hx, hl, hn, rfl⟩
theorem Vec.made (e : TypeId) (g : Nat) (xs : List Value) : Vec e 1 (some ⟨g, 0, none⟩) xs.length xs.length xs [(g, .cells ⟨xs⟩ e (0, 0))] := by
 have := Vec.row (e := e) (sz := 1) g xs.length xs.length xs [] (by simp) (by simp) (kAd _)
 simpa using this
theorem Vec.len {e : TypeId} {sz : Nat} {a : Option Addr} {n cap : Nat} {xs : List Value} {L : Heap} (h : Vec e sz a n cap xs L) : xs.length = n * sz := by
 cases h with
 |nil => simp
 |row => assumption
theorem Vec.cap {e : TypeId} {sz : Nat} {a : Option Addr} {n cap : Nat} {xs : List Value} {L : Heap} (h : Vec e sz a n cap xs L) : n ≤ cap := by
 cases h with
 |nil => exact kAd _
 |row g n cap xs l hx hl hn => exact hn
theorem Vec.arr {e : TypeId} {sz : Nat} {a : Option Addr} {n cap : Nat} {xs : List Value} {L : Heap} (h : Vec e sz a n cap xs L) {w0 w : World} {T T' : List Nat} {H : Heap} {F : Heap → Heap} (hS : St w0 T H w) [hc : Chunk H L F]
  (hT : ∀ b ∈ keys L, b ∉ T') : Arr w T' a xs := by
 cases h with
 |nil => exact Arr.nil _ _ _
 |row g n cap xs l hx hl hn =>
  intro j x hj
  have hm := hS.part (L := [(g, Obj.cells ⟨xs ++ l⟩ e (0, 0))]).own _ (kAy.2 rfl)
  refine ⟨g, 0, rfl, hT g (by simp [keys]), ?_⟩
  have hlt : j < xs.length := (kBt.1 hj).1
  simp only [World.cell?, hm, kBl]
  simp only [kDj, Bool.false_eq_true, if_false]
  rw [show (Array.mk (xs ++ l))[j]? = (xs ++ l)[j]? by simp, kAz hlt]; exact hj
section
variable {P : Program} {T0 : Tbl}
theorem info_of (hT : TOk P T0) {t : TypeId} {i : TI} (hi : tf T0 t = some i) : ∃ inf, P.info? t = some inf ∧ inf.zero = some i.zero ∧ inf.size = i.size ∧ inf.bytes = i.bytes := by
 have := (hT _ _ hi).1
 cases hinf : P.info? t with
 |none => rw [hinf] at this; simp at this
 |some inf => rw [hinf] at this; simp at this; exact ⟨inf, rfl, this.1, this.2.1, this.2.2⟩
theorem und_of (hT : TOk P T0) {t : TypeId} {i : TI} (hi : tf T0 t = some i) : i.k.ok P t := (hT _ _ hi).2
theorem zeroCells_len (z : Array Value) (n : Nat) : (Builtin.zeroCells z n).toList.length = n * z.size := by simp [Builtin.zeroCells]
theorem St.appCore (hT : TOk P T0) {t u e ty : TypeId} {sz : Nat} {i ie : TI} (hi : tf T0 t = some i) (hk : i.k = .slice e sz) (hie : tf T0 e = some ie)
  (hz : ie.zero.cells.size = sz) {w0 w : World} {T : List Nat} {H L : Heap} {F : Heap → Heap} (hS : St w0 T H w) {a : Option Addr} {n cap : Nat} {xs : List Value} (hv : Vec e sz a n cap xs L) [hc : Chunk H L F]
  {x : Value} {m : Nat} {news : List Value} (hm : news.length = m * sz) (hu : ∃ d, P.underlying u = some d ∧ ∀ k, d ≠ .int k) (hl : ∀ w, (Builtin.lenOf x).run P w = .ok m w)
  (hsrc : ∀ w', w'.heap = w.heap → (Builtin.firstCells sz m x).run P w' = .ok ⟨news⟩ w') (h1 : news.all Value.oneCell' = true)
  (hlen : (n + m) * ie.bytes ≤ 140737488355328) (hlen' : n + m ≤ 9223372036854775807) :
  ∃ a' cap' L' w', (Builtin.append_ ⟨[t, u]⟩ ty ⟨[.slice a n cap, x]⟩).run P w = .ok (.slice a' (n + m) cap') w' ∧ Vec e sz a' (n + m) cap' (xs ++ news) L' ∧ St w0 T (F L') w' := by
 have ht := und_of hT hi
 rw [hk] at ht
 obtain ⟨ht, hes⟩ := ht
 obtain ⟨inf, hinf, hzz, hs1, hby⟩ := info_of hT hie
 have hsz : inf.size = sz := by rw [hinf] at hes; simpa using hes
 obtain ⟨d, hd, hdi⟩ := hu
 have hpart : Holds L w := hS.part (L := L)
 have hin := St.enter hpart
 -- a new array
 have grown : ∀ old, old < n + m → ∃ cap', (Vec e sz (some ⟨w.heap.size, 0, none⟩) (n + m) cap' (xs ++ news) [(w.heap.size, .cells ⟨(xs ++ news) ++ (Builtin.zeroCells ie.zero.cells (cap' - (n + m))).toList⟩ e (0, 0))]) ∧
   cap' = grownCap w (n + m) old e := by
  intro old ho
  refine ⟨grownCap w (n + m) old e, ?_, rfl⟩
  have hge := grownCap_ge w (n + m) old e
  refine Vec.row _ _ _ _ _ (by rw [kAa, hv.len, hm, kCg]) ?_ hge
  rw [kAa, hv.len, hm, zeroCells_len, hz, ← kCg, ← kCg]; congr 1; omega
 have step : ∀ o, St w0 T (F [(w.heap.size, o)]) (w.drew.alloc o) := fun o =>
  hS.call (L := L) (((hin.drew).alloc o).sub (List.Sublist.cons_cons _ (List.nil_sublist _)))
 have hsl : ∀ w', (Builtin.lenOf x).run P w' = .ok m w' := hl
 cases hv with
 |nil =>
  by_cases h0 : m = 0
  ·subst h0
   have hn0 : news = [] := kCu (by simpa using hm)
   subst hn0
   refine ⟨none, 0, [], w, ?_, Vec.nil, hS.call (L := []) hin⟩
   simp [Builtin.append_, run_underlying ht, run_underlying hd, sizeOf, typeInfo, hinf, hsz, hsl, hsrc w rfl]
  ·obtain ⟨cap', hV, hcap⟩ := grown 0 (by omega)
   refine ⟨_, cap', _, _, ?_, hV, step _⟩
   have h3 : ¬ (9223372036854775807 < (m : Int)) := by omega
   have h4 : ¬ (281474976710656 < Builtin.nextslicecap m 0 * inf.bytes) := by rw [nextslicecap_zero (by omega), hby]; simp at hlen; omega
   have h5 := hsrc w.drew rfl
   simp only [kBl] at hcap
   simp [Builtin.append_, run_underlying ht, run_underlying hd, sizeOf, typeInfo, zeroValue, hinf, hzz, hsz, hsl, h0, h3, h4, Question.forced, run_firstCells_none, h5, newRow, grownCap, hcap]
   congr 2
   apply Array.ext'
   simp
 |row g n cap xs l hx hl2 hn =>
  have hg : w.heap[g]? = some (.cells ⟨xs ++ l⟩ e (0, 0)) := hpart.own _ (kAy.2 rfl)
  by_cases hroom : n + m ≤ cap
  ·have hfit : (n + m) * sz ≤ cap * sz := kDn _ hroom
   rw [kCg] at hfit
   have hst := run_storeCells_at P g (n * sz) e news 0 ⟨xs ++ l⟩ w hg (by simp; omega) (fun v hv => kBd.1 h1 v hv)
   simp only [Nat.add_zero] at hst
   have e1 : (xs ++ l).take (n * sz) = xs := by rw [← hx]; exact List.take_left
   have e2 : (xs ++ l).drop (n * sz + news.length) = l.drop news.length := by rw [← hx, List.drop_append]; simp
   refine ⟨some ⟨g, 0, none⟩, cap, [(g, .cells ⟨(xs ++ news) ++ l.drop news.length⟩ e (0, 0))], w.setRow g ⟨(xs ++ news) ++ l.drop news.length⟩, ?_, Vec.row _ _ _ _ _ (by rw [kAa, hx, hm, kCg]) (by simp; omega) hroom, ?_⟩
   ·simp only [e1, e2] at hst
    simp [Builtin.append_, run_underlying ht, run_underlying hd, sizeOf, typeInfo, hinf, hsz, hsl, hroom, hsrc w rfl, Addr.add_lit, hst]
   ·exact hS.call (L := [(g, .cells ⟨xs ++ l⟩ e (0, 0))]) (hin.setRow (b := g) (l := xs ++ l) (l' := (xs ++ news) ++ l.drop news.length))
  ·obtain ⟨cap', hV, hcap⟩ := grown cap (by omega)
   refine ⟨_, cap', _, _, ?_, hV, step _⟩
   have h3 : ¬ (9223372036854775807 < ((n : Int) + (m : Int))) := by omega
   have h4 : ¬ (281474976710656 < Builtin.nextslicecap (n + m) cap * inf.bytes) := by
    have := growslice_fits (need := n + m) (old := cap) (bytes := inf.bytes) (by omega) (by rw [hby]; exact hlen)
    omega
   have h5 := hsrc w.drew rfl
   have hfo := run_firstCells_some (P := P) w.drew sz n ⟨g, 0, none⟩ n cap xs hx (fun j v hj => by
    rw [Addr.add_eq, kBl]
    have hlt : j < xs.length := (kBt.1 hj).1
    have hg' : w.drew.heap[g]? = some (.cells ⟨xs ++ l⟩ e (0, 0)) := hg
    simp only [World.cell?, hg', kDj, Bool.false_eq_true, if_false]
    rw [show (Array.mk (xs ++ l))[j]? = (xs ++ l)[j]? by simp, kAz hlt]; exact hj)
   simp [Builtin.append_, run_underlying ht, run_underlying hd, sizeOf, typeInfo, zeroValue, hinf, hzz, hsz, hsl, hroom, h3, h4, Question.forced, hfo, h5, newRow, grownCap, hcap]
   congr 2
   apply Array.ext'
   simp
theorem Arr.firstCells {w : World} {T : List Nat} {b : Option Addr} {news : List Value} (ha : Arr w T b news) {sz m c : Nat} (hm : news.length = m * sz) {w' : World} (hw : w'.heap = w.heap) :
  (Builtin.firstCells sz m (.slice b m c)).run P w' = .ok ⟨news⟩ w' := by
 cases b with
 |none =>
  cases news with
  |nil => exact run_firstCells_none (P := P) w' sz m m c
  |cons x xs => obtain ⟨_, _, h, _⟩ := ha 0 x rfl; cases h
 |some b =>
  refine run_firstCells_some (P := P) w' sz m b m c news hm fun j v hj => ?_
  obtain ⟨bk, off, h1, _, h3⟩ := ha j v hj
  cases h1
  rw [Addr.add_eq]
  simpa [World.cell?, hw] using h3
theorem St.app (hT : TOk P T0) {t e ty : TypeId} {sz : Nat} {i ie : TI} (hi : tf T0 t = some i) (hk : i.k = .slice e sz) (hie : tf T0 e = some ie)
  (hz : ie.zero.cells.size = sz) {w0 w : World} {T : List Nat} {H L : Heap} {F : Heap → Heap} (hS : St w0 T H w) {a : Option Addr} {n cap : Nat} {xs : List Value} (hv : Vec e sz a n cap xs L) [hc : Chunk H L F]
  {b : Option Addr} {m c : Nat} {news : List Value} (hm : news.length = m * sz) (ha : Arr w [] b news) (h1 : news.all Value.oneCell' = true)
  (hlen : (n + m) * ie.bytes ≤ 140737488355328) (hlen' : n + m ≤ 9223372036854775807) {K : Value → World → Prop}
  (h : ∀ a' cap' L' w', Vec e sz a' (n + m) cap' (xs ++ news) L' → St w0 T (F L') w' → K (.slice a' (n + m) cap') w') :
  RunG P (Builtin.append_ ⟨[t, t]⟩ ty ⟨[.slice a n cap, .slice b m c]⟩) w K := by
 obtain ⟨a', cap', L', w', h2, h3, h4⟩ := St.appCore (ty := ty) hT hi hk hie hz hS hv hm (x := .slice b m c) (u := t) ⟨_, (show P.underlying t = some (.slice e) by have := und_of hT hi; rw [hk] at this; exact this.1), fun k h => by cases h⟩ (fun _ => rfl) (fun w' hw => ha.firstCells hm hw) h1 hlen hlen'
 exact ⟨⟨_, _, h2, h _ _ _ _ h3 h4⟩⟩
def byteV (c : UInt8) : Value := .int .u8 c.toNat
theorem St.appStr (hT : TOk P T0) {t u e ty : TypeId} {i iu ie : TI} (hi : tf T0 t = some i) (hk : i.k = .slice e 1) (hiu : tf T0 u = some iu) (hku : iu.k = .str) (hie : tf T0 e = some ie)
  (hz : ie.zero.cells.size = 1) {w0 w : World} {T : List Nat} {H L : Heap} {F : Heap → Heap} (hS : St w0 T H w) {a : Option Addr} {n cap : Nat} {xs : List Value} (hv : Vec e 1 a n cap xs L) [hc : Chunk H L F]
  {s : List UInt8} (hlen : (n + s.length) * ie.bytes ≤ 140737488355328) (hlen' : n + s.length ≤ 9223372036854775807) {K : Value → World → Prop}
  (h : ∀ a' cap' L' w', Vec e 1 a' (n + s.length) cap' (xs ++ s.map byteV) L' → St w0 T (F L') w' → K (.slice a' (n + s.length) cap') w') :
  RunG P (Builtin.append_ ⟨[t, u]⟩ ty ⟨[.slice a n cap, Str s]⟩) w K := by
 have hu := und_of hT hiu
 rw [hku] at hu
 obtain ⟨a', cap', L', w', h2, h3, h4⟩ := St.appCore (ty := ty) hT hi hk hie hz hS hv (news := s.map byteV) (m := s.length) (by simp) (x := Str s) (u := u) ⟨.string, hu, fun k h => by cases h⟩ (fun _ => rfl)
  (fun w' _ => by
   show Result.ok _ _ = _
   congr 1
   apply Array.ext'
   simp [ByteArray.data_extract]
   intro a _; rfl) (by simp [byteV, Value.oneCell']) hlen hlen'
 exact ⟨⟨_, _, h2, h _ _ _ _ h3 h4⟩⟩
end
end Go.Eng
namespace Go.Proofs.YtkgibdhpijdbfaaGreatDoor
open Go Go.Eng Go.Proofs
def tbl : Tbl := [
 (1, ⟨.fn, 1, 8, .nilFunc⟩),
 (2, ⟨.int .i64, 1, 8, .int .i64 0⟩),
 (3, ⟨.int .i64, 1, 8, .int .i64 0⟩),
 (4, ⟨.bool, 1, 1, .bool false⟩),
 (5, ⟨.int .u8, 1, 1, .int .u8 0⟩),
 (9, ⟨.str, 1, 16, .string ⟨⟨[]⟩⟩⟩),
 (21, ⟨.int .i32, 1, 4, .int .i32 0⟩),
 (22, ⟨.slice 3 1, 1, 24, .slice none 0 0⟩),
 (24, ⟨.struct [(0, 1), (1, 1), (2, 1)], 3, 40, .agg ⟨[.int .i64 0, .int .i64 0, .slice none 0 0]⟩⟩),
 (25, ⟨.slice 27 1, 1, 24, .slice none 0 0⟩),
 (27, ⟨.slice 30 3, 1, 24, .slice none 0 0⟩),
 (30, ⟨.struct [(0, 1), (1, 1), (2, 1)], 3, 40, .agg ⟨[.string ⟨⟨[]⟩⟩, .bool false, .string ⟨⟨[]⟩⟩]⟩⟩),
 (31, ⟨.ptr 63, 1, 8, .pointer none⟩),
 (33, ⟨.int .i64, 1, 8, .int .i64 0⟩),
 (42, ⟨.slice 49 7, 1, 24, .slice none 0 0⟩),
 (45, ⟨.ptr 73, 1, 8, .pointer none⟩),
 (47, ⟨.slice 75 2, 1, 24, .slice none 0 0⟩),
 (49, ⟨.struct [(0, 1), (1, 1), (2, 1), (3, 1), (4, 1), (5, 1), (6, 1)], 7, 120, .agg ⟨[.int .i64 0, .int .i64 0, .string ⟨⟨[]⟩⟩, .string ⟨⟨[]⟩⟩, .slice none 0 0, .slice none 0 0, .slice none 0 0]⟩⟩),
 (53, ⟨.map 3 3, 1, 8, .map none⟩),
 (55, ⟨.struct [(0, 1), (1, 1)], 2, 16, .agg ⟨[.int .i64 0, .map none]⟩⟩),
 (56, ⟨.slice 149 2, 1, 24, .slice none 0 0⟩),
 (58, ⟨.struct [(0, 1), (1, 1), (2, 1), (3, 1)], 4, 48, .agg ⟨[.slice none 0 0, .int .i64 0, .int .i64 0, .int .i64 0]⟩⟩),
 (59, ⟨.ptr 170, 1, 8, .pointer none⟩),
 (60, ⟨.ptr 115, 1, 8, .pointer none⟩),
 (61, ⟨.map 3 137, 1, 8, .map none⟩),
 (63, ⟨.struct [(0, 2), (2, 1), (3, 3), (6, 4), (10, 1), (11, 1), (12, 1), (13, 1), (14, 1), (15, 1)], 16, 160, .agg ⟨[.int .i64 0, .map none, .pointer none, .int .i64 0, .int .i64 0, .slice none 0 0, .slice none 0 0, .int .i64 0, .int .i64 0, .int .i64 0, .pointer none, .pointer none, .pointer none, .map none, .int .i64 0, .bool false]⟩⟩),
 (70, ⟨.struct [(0, 1), (1, 1), (2, 1), (3, 1)], 4, 32, .agg ⟨[.map none, .int .i64 0, .int .i64 0, .bool false]⟩⟩),
 (71, ⟨.map 9 124, 1, 8, .map none⟩),
 (73, ⟨.struct [(0, 4), (4, 1)], 5, 40, .agg ⟨[.map none, .int .i64 0, .int .i64 0, .bool false, .map none]⟩⟩),
 (75, ⟨.struct [(0, 1), (1, 1)], 2, 16, .agg ⟨[.int .i64 0, .int .i64 0]⟩⟩),
 (78, ⟨.ptr 84, 1, 8, .pointer none⟩),
 (82, ⟨.slice 4 1, 1, 24, .slice none 0 0⟩),
 (84, ⟨.struct [(0, 1), (1, 1), (2, 3), (5, 1), (6, 1), (7, 1)], 8, 128, .agg ⟨[.pointer none, .pointer none, .int .i64 0, .int .i64 0, .slice none 0 0, .slice none 0 0, .slice none 0 0, .slice none 0 0]⟩⟩),
 (93, ⟨.slice 9 1, 1, 24, .slice none 0 0⟩),
 (95, ⟨.struct [(0, 4), (4, 1), (5, 1)], 6, 80, .agg ⟨[.slice none 0 0, .int .i64 0, .int .i64 0, .int .i64 0, .map none, .slice none 0 0]⟩⟩),
 (107, ⟨.struct [(0, 1), (1, 1)], 2, 16, .agg ⟨[.int .i64 0, .int .i64 0]⟩⟩),
 (109, ⟨.struct [(0, 1), (1, 1), (2, 1), (3, 1)], 4, 48, .agg ⟨[.string ⟨⟨[]⟩⟩, .int .i64 0, .bool false, .string ⟨⟨[]⟩⟩]⟩⟩),
 (110, ⟨.ptr 113, 1, 8, .pointer none⟩),
 (111, ⟨.arr 8 110 1, 8, 64, .agg ⟨[.pointer none, .pointer none, .pointer none, .pointer none, .pointer none, .pointer none, .pointer none, .pointer none]⟩⟩),
 (113, ⟨.struct [(0, 4), (4, 8)], 12, 112, .agg ⟨[.string ⟨⟨[]⟩⟩, .int .i64 0, .bool false, .string ⟨⟨[]⟩⟩, .pointer none, .pointer none, .pointer none, .pointer none, .pointer none, .pointer none, .pointer none, .pointer none]⟩⟩),
 (115, ⟨.struct [(0, 2), (2, 12), (14, 1), (15, 1)], 16, 160, .agg ⟨[.int .i64 0, .int .i64 0, .string ⟨⟨[]⟩⟩, .int .i64 0, .bool false, .string ⟨⟨[]⟩⟩, .pointer none, .pointer none, .pointer none, .pointer none, .pointer none, .pointer none, .pointer none, .pointer none, .slice none 0 0, .int .i64 0]⟩⟩),
 (124, ⟨.struct [(0, 1), (1, 1)], 2, 24, .agg ⟨[.string ⟨⟨[]⟩⟩, .int .i64 0]⟩⟩),
 (130, ⟨.slice 109 4, 1, 24, .slice none 0 0⟩),
 (132, ⟨.slice 130 1, 1, 24, .slice none 0 0⟩),
 (135, ⟨.fn, 1, 8, .nilFunc⟩),
 (137, ⟨.ptr 206, 1, 8, .pointer none⟩),
 (149, ⟨.struct [(0, 1), (1, 1)], 2, 16, .agg ⟨[.int .i64 0, .int .i64 0]⟩⟩),
 (155, ⟨.int .u64, 1, 8, .int .u64 0⟩),
 (156, ⟨.ptr 228, 1, 8, .pointer none⟩),
 (159, ⟨.int .u64, 1, 8, .int .u64 0⟩),
 (168, ⟨.struct [(0, 1)], 1, 8, .agg ⟨[.int .i64 0]⟩⟩),
 (170, ⟨.struct [(0, 1), (1, 1), (2, 1), (3, 1), (4, 1)], 5, 40, .agg ⟨[.int .i64 0, .pointer none, .string ⟨⟨[]⟩⟩, .bool false, .bool false]⟩⟩),
 (173, ⟨.ptr 240, 1, 8, .pointer none⟩),
 (185, ⟨.struct [(0, 1), (1, 1), (2, 1), (3, 1), (4, 1)], 5, 72, .agg ⟨[.slice none 0 0, .slice none 0 0, .int .i64 0, .int .i64 0, .int .i64 0]⟩⟩),
 (188, ⟨.ptr 191, 1, 8, .pointer none⟩),
 (189, ⟨.slice 5 1, 1, 24, .slice none 0 0⟩),
 (191, ⟨.struct [(0, 1), (1, 1)], 2, 32, .agg ⟨[.pointer none, .slice none 0 0]⟩⟩),
 (194, ⟨.iface, 1, 16, .nilIface⟩),
 (201, ⟨.fn, 1, 8, .nilFunc⟩),
 (204, ⟨.struct [(0, 1), (1, 1)], 2, 16, .agg ⟨[.int .i64 0, .int .i64 0]⟩⟩),
 (206, ⟨.struct [(0, 2), (2, 1), (3, 1)], 4, 56, .agg ⟨[.int .i64 0, .int .i64 0, .slice none 0 0, .string ⟨⟨[]⟩⟩]⟩⟩),
 (211, ⟨.fn, 1, 8, .nilFunc⟩),
 (213, ⟨.fn, 1, 8, .nilFunc⟩),
 (228, ⟨.struct [(0, 1)], 1, 16, .agg ⟨[.string ⟨⟨[]⟩⟩]⟩⟩),
 (235, ⟨.int .u32, 1, 4, .int .u32 0⟩),
 (238, ⟨.struct [(0, 1)], 1, 8, .agg ⟨[.int .i64 0]⟩⟩),
 (240, ⟨.struct [(0, 1), (1, 1)], 2, 32, .agg ⟨[.int .i64 0, .slice none 0 0]⟩⟩),
 (241, ⟨.slice 159 1, 1, 24, .slice none 0 0⟩),
 (252, ⟨.ptr 5, 1, 8, .pointer none⟩),
 (255, ⟨.fn, 1, 8, .nilFunc⟩),
 (261, ⟨.fn, 1, 8, .nilFunc⟩),
 (270, ⟨.ptr 272, 1, 8, .pointer none⟩),
 (272, ⟨.struct [(0, 1), (1, 1)], 2, 16, .agg ⟨[.pointer none, .bool false]⟩⟩),
 (276, ⟨.fn, 1, 8, .nilFunc⟩),
 (278, ⟨.ptr 280, 1, 8, .pointer none⟩),
 (280, ⟨.struct [(0, 1), (1, 1), (2, 1)], 3, 32, .agg ⟨[.pointer none, .string ⟨⟨[]⟩⟩, .bool false]⟩⟩),
 (286, ⟨.slice 185 5, 1, 24, .slice none 0 0⟩),
 (292, ⟨.int .i64, 1, 8, .int .i64 0⟩),
 (303, ⟨.arr 4 3 1, 4, 32, .agg ⟨[.int .i64 0, .int .i64 0, .int .i64 0, .int .i64 0]⟩⟩),
 (305, ⟨.int .i64, 1, 8, .int .i64 0⟩),
 (308, ⟨.ptr 331, 1, 8, .pointer none⟩),
 (314, ⟨.fn, 1, 8, .nilFunc⟩),
 (315, ⟨.ptr 317, 1, 8, .pointer none⟩),
 (317, ⟨.struct [(0, 1), (1, 1)], 2, 24, .agg ⟨[.pointer none, .string ⟨⟨[]⟩⟩]⟩⟩),
 (321, ⟨.int .u64, 1, 8, .int .u64 0⟩),
 (324, ⟨.ptr 3, 1, 8, .pointer none⟩),
 (331, ⟨.struct [(0, 1), (1, 1), (2, 1)], 3, 48, .agg ⟨[.string ⟨⟨[]⟩⟩, .string ⟨⟨[]⟩⟩, .nilIface]⟩⟩),
 (333, ⟨.arr 24 5 1, 24, 24, .agg ⟨[.int .u8 0, .int .u8 0, .int .u8 0, .int .u8 0, .int .u8 0, .int .u8 0, .int .u8 0, .int .u8 0, .int .u8 0, .int .u8 0, .int .u8 0, .int .u8 0, .int .u8 0, .int .u8 0, .int .u8 0, .int .u8 0, .int .u8 0, .int .u8 0, .int .u8 0, .int .u8 0, .int .u8 0, .int .u8 0, .int .u8 0, .int .u8 0]⟩⟩),
 (347, ⟨.ptr 349, 1, 8, .pointer none⟩),
 (349, ⟨.struct [(0, 1)], 1, 16, .agg ⟨[.string ⟨⟨[]⟩⟩]⟩⟩),
 (352, ⟨.arr 20 159 1, 20, 160, .agg ⟨[.int .u64 0, .int .u64 0, .int .u64 0, .int .u64 0, .int .u64 0, .int .u64 0, .int .u64 0, .int .u64 0, .int .u64 0, .int .u64 0, .int .u64 0, .int .u64 0, .int .u64 0, .int .u64 0, .int .u64 0, .int .u64 0, .int .u64 0, .int .u64 0, .int .u64 0, .int .u64 0]⟩⟩),
 (353, ⟨.arr 65 5 1, 65, 65, .agg ⟨[.int .u8 0, .int .u8 0, .int .u8 0, .int .u8 0, .int .u8 0, .int .u8 0, .int .u8 0, .int .u8 0, .int .u8 0, .int .u8 0, .int .u8 0, .int .u8 0, .int .u8 0, .int .u8 0, .int .u8 0, .int .u8 0, .int .u8 0, .int .u8 0, .int .u8 0, .int .u8 0, .int .u8 0, .int .u8 0, .int .u8 0, .int .u8 0, .int .u8 0, .int .u8 0, .int .u8 0, .int .u8 0, .int .u8 0, .int .u8 0, .int .u8 0, .int .u8 0, .int .u8 0, .int .u8 0, .int .u8 0, .int .u8 0, .int .u8 0, .int .u8 0, .int .u8 0, .int .u8 0, .int .u8 0, .int .u8 0, .int .u8 0, .int .u8 0, .int .u8 0, .int .u8 0, .int .u8 0, .int .u8 0, .int .u8 0, .int .u8 0, .int .u8 0, .int .u8 0, .int .u8 0, .int .u8 0, .int .u8 0, .int .u8 0, .int .u8 0, .int .u8 0, .int .u8 0, .int .u8 0, .int .u8 0, .int .u8 0, .int .u8 0, .int .u8 0, .int .u8 0]⟩⟩),
 (359, ⟨.arr 32 5 1, 32, 32, .agg ⟨[.int .u8 0, .int .u8 0, .int .u8 0, .int .u8 0, .int .u8 0, .int .u8 0, .int .u8 0, .int .u8 0, .int .u8 0, .int .u8 0, .int .u8 0, .int .u8 0, .int .u8 0, .int .u8 0, .int .u8 0, .int .u8 0, .int .u8 0, .int .u8 0, .int .u8 0, .int .u8 0, .int .u8 0, .int .u8 0, .int .u8 0, .int .u8 0, .int .u8 0, .int .u8 0, .int .u8 0, .int .u8 0, .int .u8 0, .int .u8 0, .int .u8 0, .int .u8 0]⟩⟩),
 (360, ⟨.arr 64 5 1, 64, 64, .agg ⟨[.int .u8 0, .int .u8 0, .int .u8 0, .int .u8 0, .int .u8 0, .int .u8 0, .int .u8 0, .int .u8 0, .int .u8 0, .int .u8 0, .int .u8 0, .int .u8 0, .int .u8 0, .int .u8 0, .int .u8 0, .int .u8 0, .int .u8 0, .int .u8 0, .int .u8 0, .int .u8 0, .int .u8 0, .int .u8 0, .int .u8 0, .int .u8 0, .int .u8 0, .int .u8 0, .int .u8 0, .int .u8 0, .int .u8 0, .int .u8 0, .int .u8 0, .int .u8 0, .int .u8 0, .int .u8 0, .int .u8 0, .int .u8 0, .int .u8 0, .int .u8 0, .int .u8 0, .int .u8 0, .int .u8 0, .int .u8 0, .int .u8 0, .int .u8 0, .int .u8 0, .int .u8 0, .int .u8 0, .int .u8 0, .int .u8 0, .int .u8 0, .int .u8 0, .int .u8 0, .int .u8 0, .int .u8 0, .int .u8 0, .int .u8 0, .int .u8 0, .int .u8 0, .int .u8 0, .int .u8 0, .int .u8 0, .int .u8 0, .int .u8 0, .int .u8 0]⟩⟩)]
theorem tblOk : TOk Tryz.prog tbl :=
 .cons ⟨by kernel_rfl, ⟨_, _, _, Tryz.underlying1⟩⟩ (
 .cons ⟨by kernel_rfl, Tryz.underlying2⟩ (
 .cons ⟨by kernel_rfl, Tryz.underlying3⟩ (
 .cons ⟨by kernel_rfl, Tryz.underlying4⟩ (
 .cons ⟨by kernel_rfl, Tryz.underlying5⟩ (
 .cons ⟨by kernel_rfl, Tryz.underlying9⟩ (
 .cons ⟨by kernel_rfl, Tryz.underlying21⟩ (
 .cons ⟨by kernel_rfl, ⟨Tryz.underlying22, by kernel_rfl⟩⟩ (
 .cons ⟨by kernel_rfl, ⟨_, Tryz.underlying24, by kernel_rfl⟩⟩ (
 .cons ⟨by kernel_rfl, ⟨Tryz.underlying25, by kernel_rfl⟩⟩ (
 .cons ⟨by kernel_rfl, ⟨Tryz.underlying27, by kernel_rfl⟩⟩ (
 .cons ⟨by kernel_rfl, ⟨_, Tryz.underlying30, by kernel_rfl⟩⟩ (
 .cons ⟨by kernel_rfl, Tryz.underlying31⟩ (
 .cons ⟨by kernel_rfl, Tryz.underlying33⟩ (
 .cons ⟨by kernel_rfl, ⟨Tryz.underlying42, by kernel_rfl⟩⟩ (
 .cons ⟨by kernel_rfl, Tryz.underlying45⟩ (
 .cons ⟨by kernel_rfl, ⟨Tryz.underlying47, by kernel_rfl⟩⟩ (
 .cons ⟨by kernel_rfl, ⟨_, Tryz.underlying49, by kernel_rfl⟩⟩ (
 .cons ⟨by kernel_rfl, Tryz.underlying53⟩ (
 .cons ⟨by kernel_rfl, ⟨_, Tryz.underlying55, by kernel_rfl⟩⟩ (
 .cons ⟨by kernel_rfl, ⟨Tryz.underlying56, by kernel_rfl⟩⟩ (
 .cons ⟨by kernel_rfl, ⟨_, Tryz.underlying58, by kernel_rfl⟩⟩ (
 .cons ⟨by kernel_rfl, Tryz.underlying59⟩ (
 .cons ⟨by kernel_rfl, Tryz.underlying60⟩ (
 .cons ⟨by kernel_rfl, Tryz.underlying61⟩ (
 .cons ⟨by kernel_rfl, ⟨_, Tryz.underlying63, by kernel_rfl⟩⟩ (
 .cons ⟨by kernel_rfl, ⟨_, Tryz.underlying70, by kernel_rfl⟩⟩ (
 .cons ⟨by kernel_rfl, Tryz.underlying71⟩ (
 .cons ⟨by kernel_rfl, ⟨_, Tryz.underlying73, by kernel_rfl⟩⟩ (
 .cons ⟨by kernel_rfl, ⟨_, Tryz.underlying75, by kernel_rfl⟩⟩ (
 .cons ⟨by kernel_rfl, Tryz.underlying78⟩ (
 .cons ⟨by kernel_rfl, ⟨Tryz.underlying82, by kernel_rfl⟩⟩ (
 .cons ⟨by kernel_rfl, ⟨_, Tryz.underlying84, by kernel_rfl⟩⟩ (
 .cons ⟨by kernel_rfl, ⟨Tryz.underlying93, by kernel_rfl⟩⟩ (
 .cons ⟨by kernel_rfl, ⟨_, Tryz.underlying95, by kernel_rfl⟩⟩ (
 .cons ⟨by kernel_rfl, ⟨_, Tryz.underlying107, by kernel_rfl⟩⟩ (
 .cons ⟨by kernel_rfl, ⟨_, Tryz.underlying109, by kernel_rfl⟩⟩ (
 .cons ⟨by kernel_rfl, Tryz.underlying110⟩ (
 .cons ⟨by kernel_rfl, ⟨Tryz.underlying111, by kernel_rfl⟩⟩ (
 .cons ⟨by kernel_rfl, ⟨_, Tryz.underlying113, by kernel_rfl⟩⟩ (
 .cons ⟨by kernel_rfl, ⟨_, Tryz.underlying115, by kernel_rfl⟩⟩ (
 .cons ⟨by kernel_rfl, ⟨_, Tryz.underlying124, by kernel_rfl⟩⟩ (
 .cons ⟨by kernel_rfl, ⟨Tryz.underlying130, by kernel_rfl⟩⟩ (
 .cons ⟨by kernel_rfl, ⟨Tryz.underlying132, by kernel_rfl⟩⟩ (
 .cons ⟨by kernel_rfl, ⟨_, _, _, Tryz.underlying135⟩⟩ (
 .cons ⟨by kernel_rfl, Tryz.underlying137⟩ (
 .cons ⟨by kernel_rfl, ⟨_, Tryz.underlying149, by kernel_rfl⟩⟩ (
 .cons ⟨by kernel_rfl, Tryz.underlying155⟩ (
 .cons ⟨by kernel_rfl, Tryz.underlying156⟩ (
 .cons ⟨by kernel_rfl, Tryz.underlying159⟩ (
 .cons ⟨by kernel_rfl, ⟨_, Tryz.underlying168, by kernel_rfl⟩⟩ (
 .cons ⟨by kernel_rfl, ⟨_, Tryz.underlying170, by kernel_rfl⟩⟩ (
 .cons ⟨by kernel_rfl, Tryz.underlying173⟩ (
 .cons ⟨by kernel_rfl, ⟨_, Tryz.underlying185, by kernel_rfl⟩⟩ (
 .cons ⟨by kernel_rfl, Tryz.underlying188⟩ (
 .cons ⟨by kernel_rfl, ⟨Tryz.underlying189, by kernel_rfl⟩⟩ (
 .cons ⟨by kernel_rfl, ⟨_, Tryz.underlying191, by kernel_rfl⟩⟩ (
 .cons ⟨by kernel_rfl, ⟨_, Tryz.underlying194⟩⟩ (
 .cons ⟨by kernel_rfl, ⟨_, _, _, Tryz.underlying201⟩⟩ (
 .cons ⟨by kernel_rfl, ⟨_, Tryz.underlying204, by kernel_rfl⟩⟩ (
 .cons ⟨by kernel_rfl, ⟨_, Tryz.underlying206, by kernel_rfl⟩⟩ (
 .cons ⟨by kernel_rfl, ⟨_, _, _, Tryz.underlying211⟩⟩ (
 .cons ⟨by kernel_rfl, ⟨_, _, _, Tryz.underlying213⟩⟩ (
 .cons ⟨by kernel_rfl, ⟨_, Tryz.underlying228, by kernel_rfl⟩⟩ (
 .cons ⟨by kernel_rfl, Tryz.underlying235⟩ (
 .cons ⟨by kernel_rfl, ⟨_, Tryz.underlying238, by kernel_rfl⟩⟩ (
 .cons ⟨by kernel_rfl, ⟨_, Tryz.underlying240, by kernel_rfl⟩⟩ (
 .cons ⟨by kernel_rfl, ⟨Tryz.underlying241, by kernel_rfl⟩⟩ (
 .cons ⟨by kernel_rfl, Tryz.underlying252⟩ (
 .cons ⟨by kernel_rfl, ⟨_, _, _, Tryz.underlying255⟩⟩ (
 .cons ⟨by kernel_rfl, ⟨_, _, _, Tryz.underlying261⟩⟩ (
 .cons ⟨by kernel_rfl, Tryz.underlying270⟩ (
 .cons ⟨by kernel_rfl, ⟨_, Tryz.underlying272, by kernel_rfl⟩⟩ (
 .cons ⟨by kernel_rfl, ⟨_, _, _, Tryz.underlying276⟩⟩ (
 .cons ⟨by kernel_rfl, Tryz.underlying278⟩ (
 .cons ⟨by kernel_rfl, ⟨_, Tryz.underlying280, by kernel_rfl⟩⟩ (
 .cons ⟨by kernel_rfl, ⟨Tryz.underlying286, by kernel_rfl⟩⟩ (
 .cons ⟨by kernel_rfl, Tryz.underlying292⟩ (
 .cons ⟨by kernel_rfl, ⟨Tryz.underlying303, by kernel_rfl⟩⟩ (
 .cons ⟨by kernel_rfl, Tryz.underlying305⟩ (
 .cons ⟨by kernel_rfl, Tryz.underlying308⟩ (
 .cons ⟨by kernel_rfl, ⟨_, _, _, Tryz.underlying314⟩⟩ (
 .cons ⟨by kernel_rfl, Tryz.underlying315⟩ (
 .cons ⟨by kernel_rfl, ⟨_, Tryz.underlying317, by kernel_rfl⟩⟩ (
 .cons ⟨by kernel_rfl, Tryz.underlying321⟩ (
 .cons ⟨by kernel_rfl, Tryz.underlying324⟩ (
 .cons ⟨by kernel_rfl, ⟨_, Tryz.underlying331, by kernel_rfl⟩⟩ (
 .cons ⟨by kernel_rfl, ⟨Tryz.underlying333, by kernel_rfl⟩⟩ (
 .cons ⟨by kernel_rfl, Tryz.underlying347⟩ (
 .cons ⟨by kernel_rfl, ⟨_, Tryz.underlying349, by kernel_rfl⟩⟩ (
 .cons ⟨by kernel_rfl, ⟨Tryz.underlying352, by kernel_rfl⟩⟩ (
 .cons ⟨by kernel_rfl, ⟨Tryz.underlying353, by kernel_rfl⟩⟩ (
 .cons ⟨by kernel_rfl, ⟨Tryz.underlying359, by kernel_rfl⟩⟩ (
 .cons ⟨by kernel_rfl, ⟨Tryz.underlying360, by kernel_rfl⟩⟩ (
 .nil))))))))))))))))))))))))))))))))))))))))))))))))))))))))))))))))))))))))))))))))))))))))))))))
theorem mixed : Tryz.prog.follows .mixedOrders = true := by kernel_rfl
abbrev T_int : Nat := 3
abbrev T_bool : Nat := 4
abbrev T_uint8 : Nat := 5
abbrev T_string : Nat := 9
abbrev T_Sl_int : Nat := 22
abbrev T_api_Setting : Nat := 24
abbrev T_Sl_Sl_api_Op : Nat := 25
abbrev T_Sl_api_Op : Nat := 27
abbrev T_api_Op : Nat := 30
abbrev T_Ptr_store_Store : Nat := 31
abbrev T_api_Errno : Nat := 33
abbrev T_Sl_tarmaclaw12_Op : Nat := 42
abbrev T_Sl_api_Fate : Nat := 47
abbrev T_tarmaclaw12_Op : Nat := 49
abbrev T_map_int_int : Nat := 53
abbrev T_Sl_api_File : Nat := 56
abbrev T_api_Version : Nat := 58
abbrev T_map_int_Ptr_table_Table : Nat := 61
abbrev T_store_Store : Nat := 63
abbrev T_map_string_vfs_file : Nat := 71
abbrev T_vfs_FS : Nat := 73
abbrev T_api_Fate : Nat := 75
abbrev T_Sl_string : Nat := 93
abbrev T_store_found : Nat := 95
abbrev T_api_Entry : Nat := 109
abbrev T_8_Ptr_mem_node : Nat := 111
abbrev T_mem_node : Nat := 113
abbrev T_mem_Table : Nat := 115
abbrev T_vfs_file : Nat := 124
abbrev T_Sl_api_Entry : Nat := 130
abbrev T_api_File : Nat := 149
abbrev T_wal_Log : Nat := 170
abbrev T_Ptr_pack_Writer : Nat := 173
abbrev T_api_Edit : Nat := 185
abbrev T_Ptr_strings_Builder : Nat := 188
abbrev T_Sl_uint8 : Nat := 189
abbrev T_strings_Builder : Nat := 191
abbrev T_table_Table : Nat := 206
abbrev T_pack_Reader : Nat := 228
abbrev T_pack_Writer : Nat := 240
abbrev T_Ptr_uint8 : Nat := 252
abbrev T_block_reader : Nat := 280
abbrev T_unsafe_Pointer : Nat := 287
abbrev T_4_int : Nat := 303
abbrev T_block_writer : Nat := 317
abbrev f_tarmaclaw12_StoreEach : Nat := 3
theorem ei {a : List Value} {w : World} {R : Value → World → Prop} {f : FuncId} {fn : Func} {N : Nat} {rs : List ResultVar} (hc : ∀ (a : Array Value) (w : World), (callFunc f a).run Tryz.prog w = .ok (.enter f a) w) (hf : Tryz.prog.funcs[f]? = some fn) (hN : fn.ntmps = N) (hr : fn.results = ⟨rs⟩) (hb : fn.body.isSome = true) (hl : Nat.ble a.length N = true) (h : SemW Tryz.prog N (fn.body.getD .skip) (retQ tbl rs R) (argEnv 0 a) w) : Cl Tryz.prog f a w R := by
 cases hq : fn.body with
 |none => rw [hq] at hb; cases hb
 |some c => rw [hq] at h; exact Cl.enter tblOk hc hf hN hq hr hl h
abbrev en_tarmaclaw12_StoreEach {a w R} := @ei a w R _ _ _ _ Tryz.call3 Tryz.func3 Tryz.ntmps3 Tryz.results3 rfl
abbrev f_tarmaclaw12_StoreRanges : Nat := 4
abbrev en_tarmaclaw12_StoreRanges {a w R} := @ei a w R _ _ _ _ Tryz.call4 Tryz.func4 Tryz.ntmps4 Tryz.results4 rfl
abbrev f_tarmaclaw12_StoreSettings : Nat := 5
abbrev en_tarmaclaw12_StoreSettings {a w R} := @ei a w R _ _ _ _ Tryz.call5 Tryz.func5 Tryz.ntmps5 Tryz.results5 rfl
abbrev f_tarmaclaw12_lives : Nat := 9
abbrev en_tarmaclaw12_lives {a w R} := @ei a w R _ _ _ _ Tryz.call9 Tryz.func9 Tryz.ntmps9 Tryz.results9 rfl
abbrev f_tarmacref12_Long : Nat := 10
abbrev en_tarmacref12_Long {a w R} := @ei a w R _ _ _ _ Tryz.call10 Tryz.func10 Tryz.ntmps10 Tryz.results10 rfl
abbrev f_tarmaclaw12_filled : Nat := 11
abbrev en_tarmaclaw12_filled {a w R} := @ei a w R _ _ _ _ Tryz.call11 Tryz.func11 Tryz.ntmps11 Tryz.results11 rfl
abbrev f_store_Store_Scan : Nat := 12
abbrev en_store_Store_Scan {a w R} := @ei a w R _ _ _ _ Tryz.call12 Tryz.func12 Tryz.ntmps12 Tryz.results12 rfl
abbrev f_tarmacref12_Same : Nat := 13
abbrev en_tarmacref12_Same {a w R} := @ei a w R _ _ _ _ Tryz.call13 Tryz.func13 Tryz.ntmps13 Tryz.results13 rfl
abbrev f_tarmacref12_Scan : Nat := 14
abbrev en_tarmacref12_Scan {a w R} := @ei a w R _ _ _ _ Tryz.call14 Tryz.func14 Tryz.ntmps14 Tryz.results14 rfl
abbrev f_store_Store_Get : Nat := 15
abbrev en_store_Store_Get {a w R} := @ei a w R _ _ _ _ Tryz.call15 Tryz.func15 Tryz.ntmps15 Tryz.results15 rfl
abbrev f_store_Open : Nat := 16
abbrev en_store_Open {a w R} := @ei a w R _ _ _ _ Tryz.call16 Tryz.func16 Tryz.ntmps16 Tryz.results16 rfl
abbrev f_vfs_New : Nat := 17
abbrev en_vfs_New {a w R} := @ei a w R _ _ _ _ Tryz.call17 Tryz.func17 Tryz.ntmps17 Tryz.results17 rfl
abbrev f_store_Store_Write : Nat := 18
abbrev en_store_Store_Write {a w R} := @ei a w R _ _ _ _ Tryz.call18 Tryz.func18 Tryz.ntmps18 Tryz.results18 rfl
abbrev f_store_Store_Snap : Nat := 19
abbrev en_store_Store_Snap {a w R} := @ei a w R _ _ _ _ Tryz.call19 Tryz.func19 Tryz.ntmps19 Tryz.results19 rfl
abbrev f_store_looks_Free : Nat := 20
abbrev en_store_looks_Free {a w R} := @ei a w R _ _ _ _ Tryz.call20 Tryz.func20 Tryz.ntmps20 Tryz.results20 rfl
abbrev f_store_Store_Flush : Nat := 21
abbrev en_store_Store_Flush {a w R} := @ei a w R _ _ _ _ Tryz.call21 Tryz.func21 Tryz.ntmps21 Tryz.results21 rfl
abbrev f_store_Store_Compact : Nat := 22
abbrev en_store_Store_Compact {a w R} := @ei a w R _ _ _ _ Tryz.call22 Tryz.func22 Tryz.ntmps22 Tryz.results22 rfl
abbrev f_store_Store_ScanAt : Nat := 23
abbrev en_store_Store_ScanAt {a w R} := @ei a w R _ _ _ _ Tryz.call23 Tryz.func23 Tryz.ntmps23 Tryz.results23 rfl
abbrev f_store_Store_Down : Nat := 25
abbrev en_store_Store_Down {a w R} := @ei a w R _ _ _ _ Tryz.call25 Tryz.func25 Tryz.ntmps25 Tryz.results25 rfl
abbrev f_vfs_FS_Append : Nat := 27
abbrev en_vfs_FS_Append {a w R} := @ei a w R _ _ _ _ Tryz.call27 Tryz.func27 Tryz.ntmps27 Tryz.results27 rfl
abbrev f_vfs_power_Down : Nat := 31
abbrev en_vfs_power_Down {a w R} := @ei a w R _ _ _ _ Tryz.call31 Tryz.func31 Tryz.ntmps31 Tryz.results31 rfl
abbrev f_store_Store_GetAt : Nat := 33
abbrev en_store_Store_GetAt {a w R} := @ei a w R _ _ _ _ Tryz.call33 Tryz.func33 Tryz.ntmps33 Tryz.results33 rfl
abbrev f_store_Store_done : Nat := 34
abbrev en_store_Store_done {a w R} := @ei a w R _ _ _ _ Tryz.call34 Tryz.func34 Tryz.ntmps34 Tryz.results34 rfl
abbrev f_store_Store_scan : Nat := 35
abbrev en_store_Store_scan {a w R} := @ei a w R _ _ _ _ Tryz.call35 Tryz.func35 Tryz.ntmps35 Tryz.results35 rfl
abbrev f_store_Store_get : Nat := 36
abbrev en_store_Store_get {a w R} := @ei a w R _ _ _ _ Tryz.call36 Tryz.func36 Tryz.ntmps36 Tryz.results36 rfl
abbrev f_slices_Clone_int_int : Nat := 37
abbrev en_slices_Clone_int_int {a w R} := @ei a w R _ _ _ _ Tryz.call37 Tryz.func37 Tryz.ntmps37 Tryz.results37 rfl
abbrev f_store_find : Nat := 38
abbrev en_store_find {a w R} := @ei a w R _ _ _ _ Tryz.call38 Tryz.func38 Tryz.ntmps38 Tryz.results38 rfl
abbrev f_mem_New : Nat := 39
abbrev en_mem_New {a w R} := @ei a w R _ _ _ _ Tryz.call39 Tryz.func39 Tryz.ntmps39 Tryz.results39 rfl
abbrev f_store_batch : Nat := 40
abbrev en_store_batch {a w R} := @ei a w R _ _ _ _ Tryz.call40 Tryz.func40 Tryz.ntmps40 Tryz.results40 rfl
abbrev f_store_Store_take : Nat := 41
abbrev en_store_Store_take {a w R} := @ei a w R _ _ _ _ Tryz.call41 Tryz.func41 Tryz.ntmps41 Tryz.results41 rfl
abbrev f_store_Store_renew : Nat := 42
abbrev en_store_Store_renew {a w R} := @ei a w R _ _ _ _ Tryz.call42 Tryz.func42 Tryz.ntmps42 Tryz.results42 rfl
abbrev f_store_size : Nat := 43
abbrev en_store_size {a w R} := @ei a w R _ _ _ _ Tryz.call43 Tryz.func43 Tryz.ntmps43 Tryz.results43 rfl
abbrev f_wal_Log_Append : Nat := 44
abbrev en_wal_Log_Append {a w R} := @ei a w R _ _ _ _ Tryz.call44 Tryz.func44 Tryz.ntmps44 Tryz.results44 rfl
abbrev f_store_payload : Nat := 45
abbrev en_store_payload {a w R} := @ei a w R _ _ _ _ Tryz.call45 Tryz.func45 Tryz.ntmps45 Tryz.results45 rfl
abbrev f_mem_counts_Len : Nat := 46
abbrev en_mem_counts_Len {a w R} := @ei a w R _ _ _ _ Tryz.call46 Tryz.func46 Tryz.ntmps46 Tryz.results46 rfl
abbrev f_store_Store_flush : Nat := 47
abbrev en_store_Store_flush {a w R} := @ei a w R _ _ _ _ Tryz.call47 Tryz.func47 Tryz.ntmps47 Tryz.results47 rfl
abbrev f_store_Store_upper : Nat := 48
abbrev en_store_Store_upper {a w R} := @ei a w R _ _ _ _ Tryz.call48 Tryz.func48 Tryz.ntmps48 Tryz.results48 rfl
abbrev f_store_Store_compact : Nat := 49
abbrev en_store_Store_compact {a w R} := @ei a w R _ _ _ _ Tryz.call49 Tryz.func49 Tryz.ntmps49 Tryz.results49 rfl
abbrev f_store_Store_at : Nat := 50
abbrev en_store_Store_at {a w R} := @ei a w R _ _ _ _ Tryz.call50 Tryz.func50 Tryz.ntmps50 Tryz.results50 rfl
abbrev f_vfs_named : Nat := 52
abbrev en_vfs_named {a w R} := @ei a w R _ _ _ _ Tryz.call52 Tryz.func52 Tryz.ntmps52 Tryz.results52 rfl
abbrev f_vfs_power_act : Nat := 53
abbrev en_vfs_power_act {a w R} := @ei a w R _ _ _ _ Tryz.call53 Tryz.func53 Tryz.ntmps53 Tryz.results53 rfl
abbrev f_strings_Join : Nat := 54
abbrev en_strings_Join {a w R} := @ei a w R _ _ _ _ Tryz.call54 Tryz.func54 Tryz.ntmps54 Tryz.results54 rfl
abbrev f_vfs_power_done : Nat := 55
abbrev en_vfs_power_done {a w R} := @ei a w R _ _ _ _ Tryz.call55 Tryz.func55 Tryz.ntmps55 Tryz.results55 rfl
abbrev f_mem_Table_From : Nat := 62
abbrev en_mem_Table_From {a w R} := @ei a w R _ _ _ _ Tryz.call62 Tryz.func62 Tryz.ntmps62 Tryz.results62 rfl
abbrev f_slices_Sorted_int : Nat := 63
abbrev f_maps_Keys_map_int_table_Table_int_table_Table : Nat := 64
abbrev f_table_Table_From : Nat := 65
abbrev en_table_Table_From {a w R} := @ei a w R _ _ _ _ Tryz.call65 Tryz.func65 Tryz.ntmps65 Tryz.results65 rfl
abbrev f_merge_View : Nat := 66
abbrev en_merge_View {a w R} := @ei a w R _ _ _ _ Tryz.call66 Tryz.func66 Tryz.ntmps66 Tryz.results66 rfl
abbrev f_merge_Merge : Nat := 67
abbrev en_merge_Merge {a w R} := @ei a w R _ _ _ _ Tryz.call67 Tryz.func67 Tryz.ntmps67 Tryz.results67 rfl
abbrev f_mem_Table_Get : Nat := 68
abbrev en_mem_Table_Get {a w R} := @ei a w R _ _ _ _ Tryz.call68 Tryz.func68 Tryz.ntmps68 Tryz.results68 rfl
abbrev f_table_Table_Get : Nat := 69
abbrev en_table_Table_Get {a w R} := @ei a w R _ _ _ _ Tryz.call69 Tryz.func69 Tryz.ntmps69 Tryz.results69 rfl
abbrev f_vfs_FS_Read : Nat := 70
abbrev en_vfs_FS_Read {a w R} := @ei a w R _ _ _ _ Tryz.call70 Tryz.func70 Tryz.ntmps70 Tryz.results70 rfl
abbrev f_manifest_Parse : Nat := 71
abbrev en_manifest_Parse {a w R} := @ei a w R _ _ _ _ Tryz.call71 Tryz.func71 Tryz.ntmps71 Tryz.results71 rfl
abbrev f_manifest_Table : Nat := 73
abbrev en_manifest_Table {a w R} := @ei a w R _ _ _ _ Tryz.call73 Tryz.func73 Tryz.ntmps73 Tryz.results73 rfl
abbrev f_table_Open : Nat := 74
abbrev en_table_Open {a w R} := @ei a w R _ _ _ _ Tryz.call74 Tryz.func74 Tryz.ntmps74 Tryz.results74 rfl
abbrev f_wal_Open : Nat := 75
abbrev en_wal_Open {a w R} := @ei a w R _ _ _ _ Tryz.call75 Tryz.func75 Tryz.ntmps75 Tryz.results75 rfl
abbrev f_manifest_Log : Nat := 76
abbrev en_manifest_Log {a w R} := @ei a w R _ _ _ _ Tryz.call76 Tryz.func76 Tryz.ntmps76 Tryz.results76 rfl
abbrev f_pack_Read : Nat := 77
abbrev en_pack_Read {a w R} := @ei a w R _ _ _ _ Tryz.call77 Tryz.func77 Tryz.ntmps77 Tryz.results77 rfl
abbrev f_pack_Reader_Int : Nat := 78
abbrev en_pack_Reader_Int {a w R} := @ei a w R _ _ _ _ Tryz.call78 Tryz.func78 Tryz.ntmps78 Tryz.results78 rfl
abbrev f_pack_Reader_Num : Nat := 79
abbrev en_pack_Reader_Num {a w R} := @ei a w R _ _ _ _ Tryz.call79 Tryz.func79 Tryz.ntmps79 Tryz.results79 rfl
abbrev f_pack_Reader_Text : Nat := 80
abbrev en_pack_Reader_Text {a w R} := @ei a w R _ _ _ _ Tryz.call80 Tryz.func80 Tryz.ntmps80 Tryz.results80 rfl
abbrev f_pack_Reader_Done : Nat := 81
abbrev en_pack_Reader_Done {a w R} := @ei a w R _ _ _ _ Tryz.call81 Tryz.func81 Tryz.ntmps81 Tryz.results81 rfl
abbrev f_mem_Table_Add : Nat := 82
abbrev en_mem_Table_Add {a w R} := @ei a w R _ _ _ _ Tryz.call82 Tryz.func82 Tryz.ntmps82 Tryz.results82 rfl
abbrev f_wal_Rewrite : Nat := 83
abbrev en_wal_Rewrite {a w R} := @ei a w R _ _ _ _ Tryz.call83 Tryz.func83 Tryz.ntmps83 Tryz.results83 rfl
abbrev f_manifest_List : Nat := 84
abbrev en_manifest_List {a w R} := @ei a w R _ _ _ _ Tryz.call84 Tryz.func84 Tryz.ntmps84 Tryz.results84 rfl
abbrev f_store_edits : Nat := 85
abbrev en_store_edits {a w R} := @ei a w R _ _ _ _ Tryz.call85 Tryz.func85 Tryz.ntmps85 Tryz.results85 rfl
abbrev f_store_Store_file : Nat := 86
abbrev en_store_Store_file {a w R} := @ei a w R _ _ _ _ Tryz.call86 Tryz.func86 Tryz.ntmps86 Tryz.results86 rfl
abbrev f_vfs_FS_Rename : Nat := 87
abbrev en_vfs_FS_Rename {a w R} := @ei a w R _ _ _ _ Tryz.call87 Tryz.func87 Tryz.ntmps87 Tryz.results87 rfl
abbrev f_store_Store_clear : Nat := 88
abbrev en_store_Store_clear {a w R} := @ei a w R _ _ _ _ Tryz.call88 Tryz.func88 Tryz.ntmps88 Tryz.results88 rfl
abbrev f_frame_Seal : Nat := 89
abbrev en_frame_Seal {a w R} := @ei a w R _ _ _ _ Tryz.call89 Tryz.func89 Tryz.ntmps89 Tryz.results89 rfl
abbrev f_vfs_FS_Sync : Nat := 90
abbrev en_vfs_FS_Sync {a w R} := @ei a w R _ _ _ _ Tryz.call90 Tryz.func90 Tryz.ntmps90 Tryz.results90 rfl
abbrev f_pack_New : Nat := 91
abbrev en_pack_New {a w R} := @ei a w R _ _ _ _ Tryz.call91 Tryz.func91 Tryz.ntmps91 Tryz.results91 rfl
abbrev f_pack_Writer_Int : Nat := 92
abbrev en_pack_Writer_Int {a w R} := @ei a w R _ _ _ _ Tryz.call92 Tryz.func92 Tryz.ntmps92 Tryz.results92 rfl
abbrev f_pack_Writer_Num : Nat := 93
abbrev en_pack_Writer_Num {a w R} := @ei a w R _ _ _ _ Tryz.call93 Tryz.func93 Tryz.ntmps93 Tryz.results93 rfl
abbrev f_pack_Writer_Text : Nat := 94
abbrev en_pack_Writer_Text {a w R} := @ei a w R _ _ _ _ Tryz.call94 Tryz.func94 Tryz.ntmps94 Tryz.results94 rfl
abbrev f_pack_Writer_Bytes : Nat := 95
abbrev en_pack_Writer_Bytes {a w R} := @ei a w R _ _ _ _ Tryz.call95 Tryz.func95 Tryz.ntmps95 Tryz.results95 rfl
abbrev f_store_Store_lay : Nat := 96
abbrev f_mem_Table_All : Nat := 97
abbrev en_mem_Table_All {a w R} := @ei a w R _ _ _ _ Tryz.call97 Tryz.func97 Tryz.ntmps97 Tryz.results97 rfl
abbrev f_store_Store_edit : Nat := 98
abbrev en_store_Store_edit {a w R} := @ei a w R _ _ _ _ Tryz.call98 Tryz.func98 Tryz.ntmps98 Tryz.results98 rfl
abbrev f_vfs_FS_Delete : Nat := 99
abbrev en_vfs_FS_Delete {a w R} := @ei a w R _ _ _ _ Tryz.call99 Tryz.func99 Tryz.ntmps99 Tryz.results99 rfl
abbrev f_table_Table_All : Nat := 100
abbrev en_table_Table_All {a w R} := @ei a w R _ _ _ _ Tryz.call100 Tryz.func100 Tryz.ntmps100 Tryz.results100 rfl
abbrev f_slices_Collect_int : Nat := 101
abbrev en_slices_Collect_int {a w R} := @ei a w R _ _ _ _ Tryz.call101 Tryz.func101 Tryz.ntmps101 Tryz.results101 rfl
abbrev f_maps_Values_map_int_int_int_int : Nat := 102
abbrev en_maps_Values_map_int_int_int_int {a w R} := @ei a w R _ _ _ _ Tryz.call102 Tryz.func102 Tryz.ntmps102 Tryz.results102 rfl
abbrev f_merge_Trim : Nat := 103
abbrev en_merge_Trim {a w R} := @ei a w R _ _ _ _ Tryz.call103 Tryz.func103 Tryz.ntmps103 Tryz.results103 rfl
abbrev f_strings_Builder_Grow : Nat := 104
abbrev en_strings_Builder_Grow {a w R} := @ei a w R _ _ _ _ Tryz.call104 Tryz.func104 Tryz.ntmps104 Tryz.results104 rfl
abbrev f_strings_Builder_WriteString : Nat := 105
abbrev en_strings_Builder_WriteString {a w R} := @ei a w R _ _ _ _ Tryz.call105 Tryz.func105 Tryz.ntmps105 Tryz.results105 rfl
abbrev f_strings_Builder_String : Nat := 106
abbrev en_strings_Builder_String {a w R} := @ei a w R _ _ _ _ Tryz.call106 Tryz.func106 Tryz.ntmps106 Tryz.results106 rfl
abbrev f_vfs_FS_names : Nat := 107
abbrev en_vfs_FS_names {a w R} := @ei a w R _ _ _ _ Tryz.call107 Tryz.func107 Tryz.ntmps107 Tryz.results107 rfl
abbrev f_mem_list : Nat := 108
abbrev en_mem_list {a w R} := @ei a w R _ _ _ _ Tryz.call108 Tryz.func108 Tryz.ntmps108 Tryz.results108 rfl
abbrev f_mem_Table_from : Nat := 109
abbrev en_mem_Table_from {a w R} := @ei a w R _ _ _ _ Tryz.call109 Tryz.func109 Tryz.ntmps109 Tryz.results109 rfl
abbrev f_maps_Keys_map_int_table_Table_int_table_Table_1 : Nat := 111
abbrev f_slices_Clone_api_Entry_api_Entry : Nat := 112
abbrev en_slices_Clone_api_Entry_api_Entry {a w R} := @ei a w R _ _ _ _ Tryz.call112 Tryz.func112 Tryz.ntmps112 Tryz.results112 rfl
abbrev f_table_Table_place : Nat := 113
abbrev en_table_Table_place {a w R} := @ei a w R _ _ _ _ Tryz.call113 Tryz.func113 Tryz.ntmps113 Tryz.results113 rfl
abbrev f_merge_groups : Nat := 114
abbrev en_merge_groups {a w R} := @ei a w R _ _ _ _ Tryz.call114 Tryz.func114 Tryz.ntmps114 Tryz.results114 rfl
abbrev f_merge_newest : Nat := 115
abbrev en_merge_newest {a w R} := @ei a w R _ _ _ _ Tryz.call115 Tryz.func115 Tryz.ntmps115 Tryz.results115 rfl
abbrev f_slices_Concat_api_Entry_api_Entry : Nat := 116
abbrev en_slices_Concat_api_Entry_api_Entry {a w R} := @ei a w R _ _ _ _ Tryz.call116 Tryz.func116 Tryz.ntmps116 Tryz.results116 rfl
abbrev f_slices_SortStableFunc_api_Entry_api_Entry : Nat := 117
abbrev en_slices_SortStableFunc_api_Entry_api_Entry {a w R} := @ei a w R _ _ _ _ Tryz.call117 Tryz.func117 Tryz.ntmps117 Tryz.results117 rfl
abbrev f_merge_compare : Nat := 118
abbrev en_merge_compare {a w R} := @ei a w R _ _ _ _ Tryz.call118 Tryz.func118 Tryz.ntmps118 Tryz.results118 rfl
abbrev f_slices_CompactFunc_api_Entry_api_Entry : Nat := 119
abbrev en_slices_CompactFunc_api_Entry_api_Entry {a w R} := @ei a w R _ _ _ _ Tryz.call119 Tryz.func119 Tryz.ntmps119 Tryz.results119 rfl
abbrev f_merge_Merge_1 : Nat := 120
abbrev en_merge_Merge_1 {a w R} := @ei a w R _ _ _ _ Tryz.call120 Tryz.func120 Tryz.ntmps120 Tryz.results120 rfl
abbrev f_table_Table_May : Nat := 121
abbrev en_table_Table_May {a w R} := @ei a w R _ _ _ _ Tryz.call121 Tryz.func121 Tryz.ntmps121 Tryz.results121 rfl
abbrev f_vfs_FS_find : Nat := 122
abbrev en_vfs_FS_find {a w R} := @ei a w R _ _ _ _ Tryz.call122 Tryz.func122 Tryz.ntmps122 Tryz.results122 rfl
abbrev f_strconv_Atoi : Nat := 123
abbrev f_strconv_Itoa : Nat := 124
abbrev f_frame_First : Nat := 125
abbrev en_frame_First {a w R} := @ei a w R _ _ _ _ Tryz.call125 Tryz.func125 Tryz.ntmps125 Tryz.results125 rfl
abbrev f_manifest_apply : Nat := 127
abbrev en_manifest_apply {a w R} := @ei a w R _ _ _ _ Tryz.call127 Tryz.func127 Tryz.ntmps127 Tryz.results127 rfl
abbrev f_frame_Scan : Nat := 128
abbrev en_frame_Scan {a w R} := @ei a w R _ _ _ _ Tryz.call128 Tryz.func128 Tryz.ntmps128 Tryz.results128 rfl
abbrev f_block_Decode : Nat := 129
abbrev en_block_Decode {a w R} := @ei a w R _ _ _ _ Tryz.call129 Tryz.func129 Tryz.ntmps129 Tryz.results129 rfl
abbrev f_table_Build : Nat := 130
abbrev f_mem_Table_ahead : Nat := 131
abbrev en_mem_Table_ahead {a w R} := @ei a w R _ _ _ _ Tryz.call131 Tryz.func131 Tryz.ntmps131 Tryz.results131 rfl
abbrev f_mem_compare : Nat := 132
abbrev en_mem_compare {a w R} := @ei a w R _ _ _ _ Tryz.call132 Tryz.func132 Tryz.ntmps132 Tryz.results132 rfl
abbrev f_mem_Table_height : Nat := 133
abbrev en_mem_Table_height {a w R} := @ei a w R _ _ _ _ Tryz.call133 Tryz.func133 Tryz.ntmps133 Tryz.results133 rfl
abbrev f_manifest_Whole : Nat := 134
abbrev en_manifest_Whole {a w R} := @ei a w R _ _ _ _ Tryz.call134 Tryz.func134 Tryz.ntmps134 Tryz.results134 rfl
abbrev f_manifest_Encode : Nat := 135
abbrev en_manifest_Encode {a w R} := @ei a w R _ _ _ _ Tryz.call135 Tryz.func135 Tryz.ntmps135 Tryz.results135 rfl
abbrev f_vfs_FS_List : Nat := 136
abbrev en_vfs_FS_List {a w R} := @ei a w R _ _ _ _ Tryz.call136 Tryz.func136 Tryz.ntmps136 Tryz.results136 rfl
abbrev f_frame_four : Nat := 137
abbrev en_frame_four {a w R} := @ei a w R _ _ _ _ Tryz.call137 Tryz.func137 Tryz.ntmps137 Tryz.results137 rfl
abbrev f_frame_Sum : Nat := 138
abbrev en_frame_Sum {a w R} := @ei a w R _ _ _ _ Tryz.call138 Tryz.func138 Tryz.ntmps138 Tryz.results138 rfl
abbrev f_pack_Writer_add : Nat := 139
abbrev en_pack_Writer_add {a w R} := @ei a w R _ _ _ _ Tryz.call139 Tryz.func139 Tryz.ntmps139 Tryz.results139 rfl
abbrev f_slices_Chunk_api_Entry_api_Entry : Nat := 140
abbrev en_slices_Chunk_api_Entry_api_Entry {a w R} := @ei a w R _ _ _ _ Tryz.call140 Tryz.func140 Tryz.ntmps140 Tryz.results140 rfl
abbrev f_manifest_Apply : Nat := 141
abbrev en_manifest_Apply {a w R} := @ei a w R _ _ _ _ Tryz.call141 Tryz.func141 Tryz.ntmps141 Tryz.results141 rfl
abbrev f_store_Store_relist : Nat := 142
abbrev en_store_Store_relist {a w R} := @ei a w R _ _ _ _ Tryz.call142 Tryz.func142 Tryz.ntmps142 Tryz.results142 rfl
abbrev f_maps_Copy_map_int_table_Table_map_int_table_Table_int_table_Table : Nat := 143
abbrev en_maps_Copy_map_int_table_Table_map_int_table_Table_int_table_Table {a w R} := @ei a w R _ _ _ _ Tryz.call143 Tryz.func143 Tryz.ntmps143 Tryz.results143 rfl
abbrev f_slices_AppendSeq_int_int : Nat := 144
abbrev f_maps_Values_map_int_int_int_int_1 : Nat := 145
abbrev en_maps_Values_map_int_int_int_int_1 {a w R} := @ei a w R _ _ _ _ Tryz.call145 Tryz.func145 Tryz.ntmps145 Tryz.results145 rfl
abbrev f_merge_trim : Nat := 146
abbrev en_merge_trim {a w R} := @ei a w R _ _ _ _ Tryz.call146 Tryz.func146 Tryz.ntmps146 Tryz.results146 rfl
abbrev f_strings_Builder_copyCheck : Nat := 147
abbrev en_strings_Builder_copyCheck {a w R} := @ei a w R _ _ _ _ Tryz.call147 Tryz.func147 Tryz.ntmps147 Tryz.results147 rfl
abbrev f_strings_Builder_grow : Nat := 148
abbrev en_strings_Builder_grow {a w R} := @ei a w R _ _ _ _ Tryz.call148 Tryz.func148 Tryz.ntmps148 Tryz.results148 rfl
abbrev f_slices_Sorted_string : Nat := 149
abbrev f_maps_Keys_map_string_vfs_file_string_vfs_file : Nat := 150
abbrev f_sort_Search : Nat := 153
abbrev en_sort_Search {a w R} := @ei a w R _ _ _ _ Tryz.call153 Tryz.func153 Tryz.ntmps153 Tryz.results153 rfl
abbrev f_table_Table_place_1 : Nat := 154
abbrev en_table_Table_place_1 {a w R} := @ei a w R _ _ _ _ Tryz.call154 Tryz.func154 Tryz.ntmps154 Tryz.results154 rfl
abbrev f_slices_IndexFunc_api_Entry_api_Entry : Nat := 155
abbrev en_slices_IndexFunc_api_Entry_api_Entry {a w R} := @ei a w R _ _ _ _ Tryz.call155 Tryz.func155 Tryz.ntmps155 Tryz.results155 rfl
abbrev f_merge_newest_1 : Nat := 156
abbrev en_merge_newest_1 {a w R} := @ei a w R _ _ _ _ Tryz.call156 Tryz.func156 Tryz.ntmps156 Tryz.results156 rfl
abbrev f_slices_Grow_api_Entry_api_Entry : Nat := 157
abbrev en_slices_Grow_api_Entry_api_Entry {a w R} := @ei a w R _ _ _ _ Tryz.call157 Tryz.func157 Tryz.ntmps157 Tryz.results157 rfl
abbrev f_slices_stableCmpFunc_api_Entry : Nat := 158
abbrev en_slices_stableCmpFunc_api_Entry {a w R} := @ei a w R _ _ _ _ Tryz.call158 Tryz.func158 Tryz.ntmps158 Tryz.results158 rfl
abbrev f_cmp_Or_int : Nat := 159
abbrev en_cmp_Or_int {a w R} := @ei a w R _ _ _ _ Tryz.call159 Tryz.func159 Tryz.ntmps159 Tryz.results159 rfl
abbrev f_strings_Compare : Nat := 160
abbrev en_strings_Compare {a w R} := @ei a w R _ _ _ _ Tryz.call160 Tryz.func160 Tryz.ntmps160 Tryz.results160 rfl
abbrev f_cmp_Compare_int : Nat := 161
abbrev en_cmp_Compare_int {a w R} := @ei a w R _ _ _ _ Tryz.call161 Tryz.func161 Tryz.ntmps161 Tryz.results161 rfl
abbrev f_bloom_May : Nat := 162
abbrev en_bloom_May {a w R} := @ei a w R _ _ _ _ Tryz.call162 Tryz.func162 Tryz.ntmps162 Tryz.results162 rfl
abbrev f_frame_number : Nat := 166
abbrev en_frame_number {a w R} := @ei a w R _ _ _ _ Tryz.call166 Tryz.func166 Tryz.ntmps166 Tryz.results166 rfl
abbrev f_manifest_right : Nat := 171
abbrev en_manifest_right {a w R} := @ei a w R _ _ _ _ Tryz.call171 Tryz.func171 Tryz.ntmps171 Tryz.results171 rfl
abbrev f_slices_ContainsFunc_api_File_api_File : Nat := 172
abbrev en_slices_ContainsFunc_api_File_api_File {a w R} := @ei a w R _ _ _ _ Tryz.call172 Tryz.func172 Tryz.ntmps172 Tryz.results172 rfl
abbrev f_manifest_apply_1 : Nat := 173
abbrev en_manifest_apply_1 {a w R} := @ei a w R _ _ _ _ Tryz.call173 Tryz.func173 Tryz.ntmps173 Tryz.results173 rfl
abbrev f_manifest_sorted : Nat := 174
abbrev en_manifest_sorted {a w R} := @ei a w R _ _ _ _ Tryz.call174 Tryz.func174 Tryz.ntmps174 Tryz.results174 rfl
abbrev f_block_reader_num : Nat := 175
abbrev en_block_reader_num {a w R} := @ei a w R _ _ _ _ Tryz.call175 Tryz.func175 Tryz.ntmps175 Tryz.results175 rfl
abbrev f_block_reader_entry : Nat := 176
abbrev en_block_reader_entry {a w R} := @ei a w R _ _ _ _ Tryz.call176 Tryz.func176 Tryz.ntmps176 Tryz.results176 rfl
abbrev f_block_rises : Nat := 177
abbrev en_block_rises {a w R} := @ei a w R _ _ _ _ Tryz.call177 Tryz.func177 Tryz.ntmps177 Tryz.results177 rfl
abbrev f_block_Encode : Nat := 178
abbrev en_block_Encode {a w R} := @ei a w R _ _ _ _ Tryz.call178 Tryz.func178 Tryz.ntmps178 Tryz.results178 rfl
abbrev f_bloom_Build : Nat := 179
abbrev en_bloom_Build {a w R} := @ei a w R _ _ _ _ Tryz.call179 Tryz.func179 Tryz.ntmps179 Tryz.results179 rfl
abbrev f_table_names : Nat := 180
abbrev en_table_names {a w R} := @ei a w R _ _ _ _ Tryz.call180 Tryz.func180 Tryz.ntmps180 Tryz.results180 rfl
abbrev f_slices_Clone_api_File_api_File : Nat := 181
abbrev en_slices_Clone_api_File_api_File {a w R} := @ei a w R _ _ _ _ Tryz.call181 Tryz.func181 Tryz.ntmps181 Tryz.results181 rfl
abbrev f_slices_Chunk_api_Entry_api_Entry_1 : Nat := 182
abbrev en_slices_Chunk_api_Entry_api_Entry_1 {a w R} := @ei a w R _ _ _ _ Tryz.call182 Tryz.func182 Tryz.ntmps182 Tryz.results182 rfl
abbrev f_internal_abi_NoEscape : Nat := 183
theorem func_internal_abi_NoEscape : Tryz.prog.funcs[183]? = some Tryz.f183 := Tryz.func183
abbrev f_internal_bytealg_MakeNoZero : Nat := 184
theorem func_internal_bytealg_MakeNoZero : Tryz.prog.funcs[184]? = some Tryz.f184 := Tryz.func184
abbrev f_maps_Keys_map_string_vfs_file_string_vfs_file_1 : Nat := 187
abbrev f_slices_insertionSortCmpFunc_api_Entry : Nat := 199
abbrev en_slices_insertionSortCmpFunc_api_Entry {a w R} := @ei a w R _ _ _ _ Tryz.call199 Tryz.func199 Tryz.ntmps199 Tryz.results199 rfl
abbrev f_slices_symMergeCmpFunc_api_Entry : Nat := 200
abbrev en_slices_symMergeCmpFunc_api_Entry {a w R} := @ei a w R _ _ _ _ Tryz.call200 Tryz.func200 Tryz.ntmps200 Tryz.results200 rfl
abbrev en_internal_bytealg_CompareString {a w R} := @ei a w R _ _ _ _ Tryz.call201 Tryz.func201 Tryz.ntmps201 Tryz.results201 rfl
abbrev f_cmp_isNaN_int : Nat := 202
abbrev en_cmp_isNaN_int {a w R} := @ei a w R _ _ _ _ Tryz.call202 Tryz.func202 Tryz.ntmps202 Tryz.results202 rfl
abbrev f_bloom_probes : Nat := 203
abbrev en_bloom_probes {a w R} := @ei a w R _ _ _ _ Tryz.call203 Tryz.func203 Tryz.ntmps203 Tryz.results203 rfl
abbrev f_slices_IndexFunc_api_File_api_File : Nat := 210
abbrev en_slices_IndexFunc_api_File_api_File {a w R} := @ei a w R _ _ _ _ Tryz.call210 Tryz.func210 Tryz.ntmps210 Tryz.results210 rfl
abbrev f_slices_SortStableFunc_api_File_api_File : Nat := 211
abbrev en_slices_SortStableFunc_api_File_api_File {a w R} := @ei a w R _ _ _ _ Tryz.call211 Tryz.func211 Tryz.ntmps211 Tryz.results211 rfl
abbrev f_manifest_sorted_1 : Nat := 212
abbrev en_manifest_sorted_1 {a w R} := @ei a w R _ _ _ _ Tryz.call212 Tryz.func212 Tryz.ntmps212 Tryz.results212 rfl
abbrev f_block_reader_text : Nat := 213
abbrev en_block_reader_text {a w R} := @ei a w R _ _ _ _ Tryz.call213 Tryz.func213 Tryz.ntmps213 Tryz.results213 rfl
abbrev f_block_Shared : Nat := 214
abbrev en_block_Shared {a w R} := @ei a w R _ _ _ _ Tryz.call214 Tryz.func214 Tryz.ntmps214 Tryz.results214 rfl
abbrev f_block_writer_entry : Nat := 215
abbrev en_block_writer_entry {a w R} := @ei a w R _ _ _ _ Tryz.call215 Tryz.func215 Tryz.ntmps215 Tryz.results215 rfl
abbrev f_slices_rotateCmpFunc_api_Entry : Nat := 223
abbrev en_slices_rotateCmpFunc_api_Entry {a w R} := @ei a w R _ _ _ _ Tryz.call223 Tryz.func223 Tryz.ntmps223 Tryz.results223 rfl
abbrev f_internal_bytealg_abigen_runtime_cmpstring : Nat := 224
theorem func_internal_bytealg_abigen_runtime_cmpstring : Tryz.prog.funcs[224]? = some Tryz.f224 := Tryz.func224
abbrev f_bloom_Hash : Nat := 225
abbrev en_bloom_Hash {a w R} := @ei a w R _ _ _ _ Tryz.call225 Tryz.func225 Tryz.ntmps225 Tryz.results225 rfl
abbrev f_slices_stableCmpFunc_api_File : Nat := 233
abbrev en_slices_stableCmpFunc_api_File {a w R} := @ei a w R _ _ _ _ Tryz.call233 Tryz.func233 Tryz.ntmps233 Tryz.results233 rfl
abbrev f_slices_swapRangeCmpFunc_api_Entry : Nat := 244
abbrev en_slices_swapRangeCmpFunc_api_Entry {a w R} := @ei a w R _ _ _ _ Tryz.call244 Tryz.func244 Tryz.ntmps244 Tryz.results244 rfl
abbrev f_slices_insertionSortCmpFunc_api_File : Nat := 251
abbrev en_slices_insertionSortCmpFunc_api_File {a w R} := @ei a w R _ _ _ _ Tryz.call251 Tryz.func251 Tryz.ntmps251 Tryz.results251 rfl
abbrev f_slices_symMergeCmpFunc_api_File : Nat := 252
abbrev en_slices_symMergeCmpFunc_api_File {a w R} := @ei a w R _ _ _ _ Tryz.call252 Tryz.func252 Tryz.ntmps252 Tryz.results252 rfl
abbrev f_slices_rotateCmpFunc_api_File : Nat := 259
abbrev en_slices_rotateCmpFunc_api_File {a w R} := @ei a w R _ _ _ _ Tryz.call259 Tryz.func259 Tryz.ntmps259 Tryz.results259 rfl
abbrev f_slices_swapRangeCmpFunc_api_File : Nat := 261
abbrev en_slices_swapRangeCmpFunc_api_File {a w R} := @ei a w R _ _ _ _ Tryz.call261 Tryz.func261 Tryz.ntmps261 Tryz.results261 rfl
end Go.Proofs.YtkgibdhpijdbfaaGreatDoor
