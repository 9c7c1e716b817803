/- Plain laws of seats' texts. -/
import Derived.Test.YtkncpdehgcldbaaDoorPackL
namespace Go.Proofs.YtkncpdehgcldbaaDoor
open Go Go.Eng

/-- The digits of a number below 100. -/
def digB (n : Nat) : Bytes := if n < 10 then [UInt8.ofNat (48 + n)] else [UInt8.ofNat (48 + n / 10), UInt8.ofNat (48 + n % 10)]
def seatOk (num : Int) (c : Nat) : Bool := decide (1 ≤ num) && decide (num ≤ 99) && decide (65 ≤ c) && decide (c ≤ 90)
def labelB (num : Int) (c : Nat) : Bytes := if seatOk num c then digB num.toNat ++ [UInt8.ofNat c] else [45]
theorem seatOk_iff {num : Int} {c : Nat} : seatOk num c = true ↔ 1 ≤ num ∧ num ≤ 99 ∧ 65 ≤ c ∧ c ≤ 90 := by
  simp [seatOk, and_assoc]
theorem labelB_len (num : Int) (c : Nat) : 1 ≤ (labelB num c).length ∧ (labelB num c).length ≤ 3 := by
  unfold labelB digB; split
  · split <;> simp
  · simp
theorem labelB_dash (num : Int) (c : Nat) : labelB num c = [45] ↔ seatOk num c = false := by
  unfold labelB
  cases h : seatOk num c with
  | false => simp
  | true =>
    simp only [if_true]
    unfold digB; split <;> simp
theorem digB_inj {a b : Nat} (ha : a < 100) (hb : b < 100) (h : digB a = digB b) : a = b := by
  unfold digB at h
  split at h <;> split at h
  · have := u8_inj (by omega) (by omega) (List.cons.inj h).1; omega
  · simp at h
  · simp at h
  · have h1 := u8_inj (by omega) (by omega) (List.cons.inj h).1
    have h2 := u8_inj (by omega) (by omega) (List.cons.inj (List.cons.inj h).2).1
    omega
theorem labelB_inj {a b : Int} {c d : Nat} (h1 : seatOk a c = true) (h2 : seatOk b d = true) (h : labelB a c = labelB b d) : a = b ∧ c = d := by
  unfold labelB at h
  rw [if_pos h1, if_pos h2] at h
  obtain ⟨a1, a2, a3, a4⟩ := seatOk_iff.1 h1
  obtain ⟨b1, b2, b3, b4⟩ := seatOk_iff.1 h2
  obtain ⟨e1, e2⟩ := List.append_inj' h rfl
  have e3 := u8_inj (by omega) (by omega) (List.cons.inj e2).1
  have e4 := digB_inj (by omega) (by omega) e1
  exact ⟨by omega, e3⟩
end Go.Proofs.YtkncpdehgcldbaaDoor
