/- Plain laws of keys: letters and numbers, in order. -/
import Derived.Test.YtlghahalejgkfaaDoorShaL
namespace Go.Proofs.YtlghahalejgkfaaDoor
open Go Go.Eng

/-- k bytes of a number, the greatest first. -/
def beN : Nat → Nat → Bytes
  | 0, _ => []
  | k + 1, n => UInt8.ofNat (n / 256 ^ k) :: beN k n
theorem be8_eq (n : Nat) : be8 n = beN 8 n := by simp [be8, beN]
theorem beN_len : ∀ k n, (beN k n).length = k
  | 0, _ => rfl
  | k + 1, n => by simp [beN, beN_len k n]
theorem less_cons (x y : UInt8) (xs ys : Bytes) : Op.bytesLess (x :: xs) (y :: ys) = (decide (x.toNat < y.toNat) || (decide (x.toNat = y.toNat) && Op.bytesLess xs ys)) := by
  show (decide (x < y) || (x == y && Op.bytesLess xs ys)) = _
  have e1 : decide (x < y) = decide (x.toNat < y.toNat) := by
    rw [decide_eq_decide]; exact UInt8.lt_iff_toNat_lt
  have e2 : (x == y) = decide (x.toNat = y.toNat) := by
    rw [Bool.eq_iff_iff, beq_iff_eq, decide_eq_true_eq]
    exact ⟨fun h => by rw [h], fun h => UInt8.toNat_inj.1 h⟩
  rw [e1, e2]
theorem beN_less : ∀ k a b, Op.bytesLess (beN k a) (beN k b) = decide (a % 256 ^ k < b % 256 ^ k)
  | 0, a, b => by simp [beN, Op.bytesLess, Nat.mod_one]
  | k + 1, a, b => by
    have hP : 0 < 256 ^ k := Nat.pow_pos (by omega)
    rw [beN, beN, less_cons, beN_less k a b]
    have e1 : ∀ n, (UInt8.ofNat (n / 256 ^ k)).toNat = n / 256 ^ k % 256 := fun n => by simp
    have e2 : ∀ n, n % 256 ^ (k + 1) = n % 256 ^ k + 256 ^ k * (n / 256 ^ k % 256) := fun n => by rw [Nat.pow_succ, Nat.mod_mul]
    rw [e1, e1, e2, e2]
    have ha : a % 256 ^ k < 256 ^ k := Nat.mod_lt _ hP
    have hb : b % 256 ^ k < 256 ^ k := Nat.mod_lt _ hP
    generalize 256 ^ k = P at *
    generalize a / P % 256 = x
    generalize b / P % 256 = y
    generalize a % P = r at *
    generalize b % P = s at *
    rw [Bool.eq_iff_iff]
    simp only [Bool.or_eq_true, Bool.and_eq_true, decide_eq_true_eq]
    rcases Nat.lt_trichotomy x y with h | h | h
    · have : P * x + P ≤ P * y := by rw [← Nat.mul_succ]; exact Nat.mul_le_mul_left P h
      constructor
      · intro _; omega
      · intro _; exact .inl h
    · subst h
      constructor
      · rintro (h | ⟨-, h⟩)
        · omega
        · omega
      · intro h; exact .inr ⟨rfl, by omega⟩
    · have : P * y + P ≤ P * x := by rw [← Nat.mul_succ]; exact Nat.mul_le_mul_left P h
      constructor
      · rintro (h' | ⟨h', -⟩) <;> omega
      · intro _; omega
theorem less_pre : ∀ (p x y : Bytes), Op.bytesLess (p ++ x) (p ++ y) = Op.bytesLess x y
  | [], _, _ => rfl
  | c :: p, x, y => by
    rw [List.cons_append, List.cons_append, less_cons, less_pre p x y]; simp
def unum (n : Int) : Nat := (n + 9223372036854775808).toNat
/-- The key of a letter and a number; where the states' records end. -/
def keyB (c : UInt8) (n : Int) : Bytes := [2, c, 0, 0, 1] ++ be8 (unum n)
def endB : Bytes := [2, 114, 0, 0]
theorem keyB_len (c : UInt8) (n : Int) : (keyB c n).length = 13 := by simp [keyB, be8]
theorem key_less (c : UInt8) {n m : Int} (hn : -9223372036854775808 ≤ n ∧ n ≤ 9223372036854775807) (hm : -9223372036854775808 ≤ m ∧ m ≤ 9223372036854775807) : Op.bytesLess (keyB c n) (keyB c m) = decide (n < m) := by
  unfold keyB
  rw [less_pre, be8_eq, be8_eq, beN_less, decide_eq_decide]
  have h1 : unum n < 256 ^ 8 := by show unum n < 18446744073709551616; unfold unum; omega
  have h2 : unum m < 256 ^ 8 := by show unum m < 18446744073709551616; unfold unum; omega
  rw [Nat.mod_eq_of_lt h1, Nat.mod_eq_of_lt h2]
  unfold unum; omega
theorem key_letters {c d : UInt8} (h : c.toNat < d.toNat) (n m : Int) : Op.bytesLess (keyB c n) (keyB d m) = true := by
  unfold keyB
  show Op.bytesLess (2 :: c :: ([0, 0, 1] ++ be8 (unum n))) (2 :: d :: ([0, 0, 1] ++ be8 (unum m))) = true
  rw [less_cons, less_cons]
  simp [h]
theorem key_end {c : UInt8} (h : c.toNat < 114) (n : Int) : Op.bytesLess (keyB c n) endB = true := by
  unfold keyB endB
  show Op.bytesLess (2 :: c :: ([0, 0, 1] ++ be8 (unum n))) (2 :: 114 :: [0, 0]) = true
  rw [less_cons, less_cons]
  have : (114 : UInt8).toNat = 114 := rfl
  simp [this, h]
theorem reply_end (n : Int) : Op.bytesLess (keyB 114 n) endB = false := by
  unfold keyB endB
  show Op.bytesLess (2 :: 114 :: 0 :: 0 :: 1 :: be8 (unum n)) (2 :: 114 :: 0 :: 0 :: []) = false
  rw [less_cons, less_cons, less_cons, less_cons]
  rfl
theorem beN_inj : ∀ (k a b : Nat), a < 256 ^ k → b < 256 ^ k → beN k a = beN k b → a = b := by
  intro k a b ha hb h
  have h1 := beN_less k a b
  have h2 := beN_less k b a
  rw [h] at h1
  rw [h, ← h] at h2
  rw [Nat.mod_eq_of_lt ha, Nat.mod_eq_of_lt hb] at h1 h2
  have h3 : Op.bytesLess (beN k b) (beN k b) = false := by rw [beN_less]; simp
  rw [h3] at h1
  rw [h, h3] at h2
  have := of_decide_eq_false h1.symm
  have := of_decide_eq_false h2.symm
  omega
theorem keyB_inj {c : UInt8} {n m : Int} (hn : -9223372036854775808 ≤ n ∧ n ≤ 9223372036854775807) (hm : -9223372036854775808 ≤ m ∧ m ≤ 9223372036854775807) (h : keyB c n = keyB c m) : n = m := by
  have h1 := List.append_cancel_left h
  rw [be8_eq, be8_eq] at h1
  have := beN_inj 8 (unum n) (unum m) (by show unum n < 18446744073709551616; unfold unum; omega) (by show unum m < 18446744073709551616; unfold unum; omega) h1
  unfold unum at this; omega
end Go.Proofs.YtlghahalejgkfaaDoor
