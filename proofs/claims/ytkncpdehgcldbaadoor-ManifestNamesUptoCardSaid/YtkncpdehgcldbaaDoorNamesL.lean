/- Plain: names of a manifest's files. -/
import Derived.Test.YtkncpdehgcldbaaDoorAtoi
import Derived.Test.YtkncpdehgcldbaaDoorItoaC
namespace Go.Proofs.YtkncpdehgcldbaaDoor
open Go Go.Eng Go.Proofs
theorem pu_app (c : UInt8) : ∀ (l : Bytes) (acc : Nat), Lib.parseUint10 acc (l ++ [c]) = match Lib.parseUint10 acc l with
    | .ok a => Lib.parseUint10 a [c]
    | e => e
  | [], acc => by rw [List.nil_append]; rfl
  | x :: l, acc => by
    rw [List.cons_append]
    unfold Lib.parseUint10
    split
    · split
      · rfl
      · split
        · rfl
        · exact pu_app c l _
    · rfl
theorem digC (n : Nat) (h : n < 10) : (UInt8.ofNat (48 + n)).toNat = 48 + n := by
  rw [UInt8.toNat_ofNat']; omega
theorem pu_dec (u : Nat) (h : u < 18446744073709551616) : Lib.parseUint10 0 (Lib.decDigits u) = .ok u := by
  induction u using Nat.strongRecOn with
  | _ u ih =>
    rw [Lib.decDigits]
    split
    · next h1 =>
      have := digC u h1
      unfold Lib.parseUint10
      rw [this, if_pos (by omega), if_neg (by omega), if_neg (by omega)]
      unfold Lib.parseUint10
      congr 1; omega
    · next h1 =>
      have := digC (u % 10) (by omega)
      rw [pu_app, ih (u / 10) (by omega) (by omega)]
      show Lib.parseUint10 (u / 10) [UInt8.ofNat (48 + u % 10)] = _
      unfold Lib.parseUint10
      rw [this, if_pos (by omega), if_neg (by omega), if_neg (by omega)]
      unfold Lib.parseUint10
      congr 1; omega
theorem dec_head (u : Nat) : ∃ c r, Lib.decDigits u = c :: r ∧ 48 ≤ c.toNat ∧ c.toNat ≤ 57 := by
  induction u using Nat.strongRecOn with
  | _ u ih =>
    rw [Lib.decDigits]
    split
    · next h1 =>
      have := digC u h1
      exact ⟨_, [], rfl, by omega, by omega⟩
    · next h1 =>
      obtain ⟨c, r, h2, h3, h4⟩ := ih (u / 10) (by omega)
      rw [h2]
      exact ⟨c, _, rfl, h3, h4⟩
theorem atoi_itoa {n : Int} (h0 : -9223372036854775808 ≤ n) (h1 : n ≤ 9223372036854775807) : Lib.atoiAll (Lib.itoa n) = .ok n := by
  unfold Lib.itoa
  split
  · next h =>
    obtain ⟨c, r, h2, -, -⟩ := dec_head n.natAbs
    have hp : Lib.parseMag (Lib.decDigits n.natAbs) = .ok n.natAbs := by
      unfold Lib.parseMag
      rw [if_neg (by rw [h2]; simp), pu_dec _ (by omega)]
    unfold Lib.atoiAll
    have e : (45 : UInt8).toNat = 45 := rfl
    simp only [e, or_true, if_true, hp]
    rw [if_neg (by simp), if_neg (by omega)]
    congr 1; omega
  · next h =>
    obtain ⟨c, r, h2, h3, h4⟩ := dec_head n.toNat
    have hp : Lib.parseMag (c :: r) = .ok n.toNat := by
      rw [← h2]
      unfold Lib.parseMag
      rw [if_neg (by rw [h2]; simp), pu_dec _ (by omega)]
    rw [h2]
    unfold Lib.atoiAll
    simp only
    rw [if_neg (by omega), hp]
    simp only
    rw [if_neg (by omega), if_neg (by omega), if_neg (by omega)]
    congr 1; omega
theorem itoa_inj {n m : Int} (h0 : -9223372036854775808 ≤ n ∧ n ≤ 9223372036854775807) (h1 : -9223372036854775808 ≤ m ∧ m ≤ 9223372036854775807) (h : Lib.itoa n = Lib.itoa m) : n = m := by
  have e1 := atoi_itoa h0.1 h0.2
  rw [h, atoi_itoa h1.1 h1.2] at e1
  exact (Lib.NumEnd.ok.inj e1).symm
/-- A name's letter and number. -/
def isL (c : UInt8) : Bool := c == 116 || c == 119 || c == 109
def nameN (c : UInt8) (r : Bytes) (n : Int) : Bool := decide (1 ≤ n) && decide (Lib.itoa n = r) && isL c
def parseN : Bytes → UInt8 × Int × Bool
  | [] => (0, 0, false)
  | c :: r => match Lib.atoiAll r with
    | .ok n => if nameN c r n then (c, n, true) else (0, 0, false)
    | _ => (0, 0, false)
def parseV (t : Bytes) : Value := .tuple ⟨[.int .u8 (parseN t).1.toNat, .int .i64 (parseN t).2.1, .bool (parseN t).2.2]⟩
/-- What an answer of Atoi that is right or wrong leads to. -/
theorem parseN_cons (c : UInt8) (r : Bytes) : parseN (c :: r) = match Lib.atoiAll r with
    | .ok n => if nameN c r n then (c, n, true) else (0, 0, false)
    | _ => (0, 0, false) := rfl
theorem parseN_of {c : UInt8} {r : Bytes} {n : Int} (hn : -9223372036854775808 ≤ n ∧ n ≤ 9223372036854775807) (h : Lib.atoiAll r = .ok n ∨ ∀ m, Lib.atoiAll r ≠ .ok m) : parseN (c :: r) = if nameN c r n then (c, n, true) else (0, 0, false) := by
  rw [parseN_cons]
  rcases h with h | h
  · rw [h]
  · have hne : Lib.itoa n ≠ r := fun e => h n (by rw [← e]; exact atoi_itoa hn.1 hn.2)
    have hf : nameN c r n = false := by unfold nameN; rw [decide_eq_false hne]; simp
    rw [hf]
    cases h2 : Lib.atoiAll r
    · exact absurd h2 (h _)
    · rfl
    · rfl
theorem parseN_name {c : UInt8} {n : Int} (hc : isL c = true) (hn : -9223372036854775808 ≤ n ∧ n ≤ 9223372036854775807) : parseN (c :: Lib.itoa n) = if 1 ≤ n then (c, n, true) else (0, 0, false) := by
  rw [parseN_of hn (.inl (atoi_itoa hn.1 hn.2))]
  unfold nameN
  rw [hc]
  by_cases h : 1 ≤ n <;> simp [h]
end Go.Proofs.YtkncpdehgcldbaaDoor
