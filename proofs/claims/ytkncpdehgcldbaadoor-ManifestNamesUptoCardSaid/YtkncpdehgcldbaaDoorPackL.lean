/- Plain laws of packed numbers and texts. -/
import Derived.Test.YtkncpdehgcldbaaDoorBase
namespace Go.Proofs.YtkncpdehgcldbaaDoor
open Go Go.Eng

/-- A number's bytes, seven bits each. -/
def numB (n : Nat) : Bytes := if n < 128 then [UInt8.ofNat n] else UInt8.ofNat (n % 128 + 128) :: numB (n / 128)
termination_by n
decreasing_by omega
theorem numB_lt {n : Nat} (h : n < 128) : numB n = [UInt8.ofNat n] := by rw [numB, if_pos h]
theorem numB_ge {n : Nat} (h : ¬ n < 128) : numB n = UInt8.ofNat (n % 128 + 128) :: numB (n / 128) := by rw [numB, if_neg h]
theorem u8_inj {a b : Nat} (ha : a < 256) (hb : b < 256) (h : UInt8.ofNat a = UInt8.ofNat b) : a = b := by
  have := congrArg UInt8.toNat h
  simp only [UInt8.toNat_ofNat'] at this
  omega
theorem numB_pos (n : Nat) : 1 ≤ (numB n).length := by
  by_cases h : n < 128
  · rw [numB_lt h]; simp
  · rw [numB_ge h]; simp
theorem numB_len : ∀ (k n : Nat), n < 128 ^ (k + 1) → (numB n).length ≤ k + 1
  | 0, n, h => by rw [numB_lt (by simpa using h)]; simp
  | k + 1, n, h => by
    by_cases h2 : n < 128
    · rw [numB_lt h2]; simp
    · rw [numB_ge h2]
      have h3 : 128 ^ (k + 1 + 1) = 128 ^ (k + 1) * 128 := Nat.pow_succ ..
      have := numB_len k (n / 128) (by omega)
      simp only [List.length_cons]; omega
theorem numB_inj : ∀ (a b : Nat) (s t : Bytes), numB a ++ s = numB b ++ t → a = b ∧ s = t := by
  intro a
  induction a using Nat.strongRecOn with
  | _ a ih =>
    intro b s t h
    by_cases ha : a < 128 <;> by_cases hb : b < 128
    · rw [numB_lt ha, numB_lt hb] at h
      simp only [List.cons_append, List.nil_append, List.cons.injEq] at h
      exact ⟨u8_inj (by omega) (by omega) h.1, h.2⟩
    · rw [numB_lt ha, numB_ge hb] at h
      simp only [List.cons_append, List.nil_append, List.cons.injEq] at h
      have := u8_inj (by omega) (by omega) h.1
      omega
    · rw [numB_ge ha, numB_lt hb] at h
      simp only [List.cons_append, List.nil_append, List.cons.injEq] at h
      have := u8_inj (by omega) (by omega) h.1
      omega
    · rw [numB_ge ha, numB_ge hb] at h
      simp only [List.cons_append, List.cons.injEq] at h
      have h1 := u8_inj (by omega) (by omega) h.1
      obtain ⟨h2, h3⟩ := ih (a / 128) (by omega) _ _ _ h.2
      exact ⟨by omega, h3⟩
/-- A whole number as a number. -/
def zig (z : Int) : Nat := if 0 ≤ z then 2 * z.toNat else 2 * (-(z + 1)).toNat + 1
theorem zig_inj {a b : Int} (h : zig a = zig b) : a = b := by
  unfold zig at h
  split at h <;> split at h <;> omega
def intB (z : Int) : Bytes := numB (zig z)
def intsB (zs : List Int) : Bytes := (zs.map intB).flatten
def textB (s : Bytes) : Bytes := numB s.length ++ s
theorem intB_inj {a b : Int} {s t : Bytes} (h : intB a ++ s = intB b ++ t) : a = b ∧ s = t := by
  obtain ⟨h1, h2⟩ := numB_inj _ _ _ _ h
  exact ⟨zig_inj h1, h2⟩
theorem textB_inj {a b s t : Bytes} (h : textB a ++ s = textB b ++ t) : a = b ∧ s = t := by
  unfold textB at h
  rw [List.append_assoc, List.append_assoc] at h
  obtain ⟨h1, h2⟩ := numB_inj _ _ _ _ h
  exact List.append_inj h2 h1
end Go.Proofs.YtkncpdehgcldbaaDoor
