/- Plain laws of reading: numbers, texts. -/
import Derived.Test.YtkncpdehgcldbaaDoorPackL
namespace Go.Proofs.YtkncpdehgcldbaaDoor
open Go Go.Eng

/-- The number that begins a text's rest behind k bytes of it; what stands behind the number. -/
def numS : Nat → Bytes → Option (Nat × Bytes)
  | _, [] => none
  | k, c :: u => if 9 < k ∨ (k = 9 ∧ 1 < c.toNat) ∨ (0 < k ∧ c.toNat = 0) then none
    else if c.toNat < 128 then some (c.toNat, u)
    else match numS (k + 1) u with
      | some (m, r) => some (c.toNat % 128 + 128 * m, r)
      | none => none
theorem u8_ofNat (c : UInt8) : UInt8.ofNat c.toNat = c := by simp
theorem numS_some : ∀ (u : Bytes) (k m : Nat) (r : Bytes), numS k u = some (m, r) → u = numB m ++ r ∧ (0 < k → 0 < m) ∧ k ≤ 9 ∧ m < 2 ^ (64 - 7 * k)
  | [], k, m, r, h => by simp [numS] at h
  | c :: u, k, m, r, h => by
    have hc := c.toNat_lt
    rw [numS] at h
    split at h
    · cases h
    · rename_i h1
      split at h
      · rename_i h2
        simp only [Option.some.injEq, Prod.mk.injEq] at h
        obtain ⟨rfl, rfl⟩ := h
        refine ⟨by rw [numB_lt h2, u8_ofNat]; rfl, by omega, by omega, ?_⟩
        by_cases hk : k = 9
        · subst hk; show _ < 2; omega
        · exact Nat.lt_of_lt_of_le h2 (Nat.pow_le_pow_right (n := 2) (i := 7) (by omega) (by omega))
      · rename_i h2
        split at h
        · rename_i m' r' h3
          simp only [Option.some.injEq, Prod.mk.injEq] at h
          obtain ⟨rfl, rfl⟩ := h
          obtain ⟨h4, h5, h6, h7⟩ := numS_some u (k + 1) m' r' h3
          have h8 := h5 (by omega)
          refine ⟨?_, by omega, by omega, ?_⟩
          · rw [numB_ge (by omega), h4, show (c.toNat % 128 + 128 * m') % 128 + 128 = c.toNat by omega, show (c.toNat % 128 + 128 * m') / 128 = m' by omega, u8_ofNat]
            rfl
          · rw [show 64 - 7 * k = (64 - 7 * (k + 1)) + 7 by omega, Nat.pow_add]
            generalize 2 ^ (64 - 7 * (k + 1)) = P at *
            omega
        · cases h
theorem numS_app : ∀ (j m k : Nat) (r : Bytes), m < 2 ^ (64 - 7 * k) → k + j = 9 → (0 < k → 0 < m) → numS k (numB m ++ r) = some (m, r) := by
  intro j
  induction j with
  | zero =>
    intro m k r hm hk h0
    obtain rfl : k = 9 := by omega
    have hm : m < 2 := hm
    rw [numB_lt (by omega)]
    simp only [List.cons_append, List.nil_append, numS]
    have e : (UInt8.ofNat m).toNat = m := by simp; omega
    rw [e, if_neg (by omega), if_pos (by omega)]
  | succ j ih =>
    intro m k r hm hk h0
    by_cases h : m < 128
    · rw [numB_lt h]
      simp only [List.cons_append, List.nil_append, numS]
      have e : (UInt8.ofNat m).toNat = m := by simp; omega
      rw [e, if_neg (by omega), if_pos (by omega)]
    · rw [numB_ge h]
      simp only [List.cons_append, numS]
      have e : (UInt8.ofNat (m % 128 + 128)).toNat = m % 128 + 128 := by simp; omega
      rw [e, if_neg (by omega), if_neg (by omega), ih (m / 128) (k + 1) r ?_ (by omega) (by omega)]
      · simp only [Option.some.injEq, Prod.mk.injEq, and_true]; omega
      · rw [show 64 - 7 * k = (64 - 7 * (k + 1)) + 7 by omega, Nat.pow_add] at hm
        generalize 2 ^ (64 - 7 * (k + 1)) = P at *
        omega
/-- The number at the text's beginning. -/
def numR (t : Bytes) : Option (Nat × Bytes) := numS 0 t
theorem numR_iff (t : Bytes) (m : Nat) (r : Bytes) : numR t = some (m, r) ↔ t = numB m ++ r ∧ m < 18446744073709551616 := by
  constructor
  · intro h
    obtain ⟨h1, -, -, h2⟩ := numS_some t 0 m r h
    exact ⟨h1, h2⟩
  · rintro ⟨rfl, h⟩
    exact numS_app 9 m 0 r h rfl (by omega)
def unzig (u : Nat) : Int := if u % 2 = 0 then (u / 2 : Nat) else -((u / 2 : Nat) : Int) - 1
theorem unzig_zig (z : Int) : unzig (zig z) = z := by
  unfold unzig zig; split <;> split <;> omega
theorem zig_unzig (u : Nat) : zig (unzig u) = u := by
  unfold unzig zig; split <;> split <;> omega
/-- A whole number at the text's beginning. -/
def intR (t : Bytes) : Option (Int × Bytes) := match numR t with
  | some (m, r) => some (unzig m, r)
  | none => none
theorem intR_iff (t : Bytes) (z : Int) (r : Bytes) : intR t = some (z, r) ↔ t = intB z ++ r ∧ zig z < 18446744073709551616 := by
  unfold intR intB
  cases h : numR t with
  | none =>
    simp only [false_iff, reduceCtorEq]
    intro hh
    rw [(numR_iff t (zig z) r).2 hh] at h; cases h
  | some x =>
    obtain ⟨m, r'⟩ := x
    obtain ⟨h1, h2⟩ := (numR_iff t m r').1 h
    simp only [Option.some.injEq, Prod.mk.injEq]
    constructor
    · rintro ⟨rfl, rfl⟩
      rw [zig_unzig]; exact ⟨h1, h2⟩
    · rintro ⟨h3, h4⟩
      rw [(numR_iff t (zig z) r).2 ⟨h3, h4⟩] at h
      simp only [Option.some.injEq, Prod.mk.injEq] at h
      obtain ⟨rfl, rfl⟩ := h
      exact ⟨unzig_zig z, rfl⟩
/-- A text at the text's beginning. -/
def textR (t : Bytes) : Option (Bytes × Bytes) := match numR t with
  | some (m, r) => if r.length < m then none else some (r.take m, r.drop m)
  | none => none
theorem textR_iff (t s r : Bytes) : textR t = some (s, r) ↔ t = textB s ++ r ∧ s.length < 18446744073709551616 := by
  unfold textR textB
  cases h : numR t with
  | none =>
    simp only [false_iff, reduceCtorEq]
    intro hh
    rw [(numR_iff t s.length (s ++ r)).2 ⟨by rw [hh.1, List.append_assoc], hh.2⟩] at h; cases h
  | some x =>
    obtain ⟨m, r'⟩ := x
    obtain ⟨h1, h2⟩ := (numR_iff t m r').1 h
    simp only
    constructor
    · intro hh
      split at hh
      · cases hh
      · simp only [Option.some.injEq, Prod.mk.injEq] at hh
        obtain ⟨rfl, rfl⟩ := hh
        have e : (r'.take m).length = m := by simp; omega
        rw [e, List.append_assoc, List.take_append_drop]
        exact ⟨h1, h2⟩
    · rintro ⟨h3, h4⟩
      rw [(numR_iff t s.length (s ++ r)).2 ⟨by rw [h3, List.append_assoc], h4⟩] at h
      simp only [Option.some.injEq, Prod.mk.injEq] at h
      obtain ⟨rfl, rfl⟩ := h
      rw [if_neg (by simp), List.take_left, List.drop_left]
end Go.Proofs.YtkncpdehgcldbaaDoor
