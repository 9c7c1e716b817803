/- A list of fates as an argument. -/
import Derived.Test.YtnmmiiffeenjbaaOpen
import Derived.Test.YtnmmiiffeenjbaaArm
namespace Go.Proofs.Ytnmmiiffeenjbaa
open Go Go.Eng Go.Proofs

theorem RSl.fates {W : World} {a : Option Addr} {n cap : Nat} {fs : List (Int × Int)} (h : RSl 2 (RPair 1 (RInt .i64) (RInt .i64)) W [.slice a n cap] fs) : Arr W [] a (fateC fs) := by
  intro j x hj
  obtain ⟨a', cap', h1, -, -, h4⟩ := h.ex
  have : a = a' := by simpa using (List.cons.inj h1).1 |> fun h => (Value.slice.inj h).1
  subst this
  have key : ∀ (l : List (Int × Int)) (j : Nat) (x : Value), (fateC l)[j]? = some x → ∃ (i : Nat) (hi : i < l.length), (j = i * 2 ∧ x = intV l[i].1) ∨ (j = i * 2 + 1 ∧ x = intV l[i].2) := by
    intro l
    induction l with
    | nil => intro j x h; simp [fateC] at h
    | cons y r ih =>
      intro j x h
      have e : fateC (y :: r) = intV y.1 :: intV y.2 :: fateC r := by simp [fateC]
      rw [e] at h
      match j with
      | 0 => exact ⟨0, by simp, .inl ⟨rfl, by simpa using h.symm⟩⟩
      | 1 => exact ⟨0, by simp, .inr ⟨rfl, by simpa using h.symm⟩⟩
      | j + 2 =>
        obtain ⟨i, hi, h2⟩ := ih j x (by simpa using h)
        refine ⟨i + 1, by simpa using hi, ?_⟩
        rcases h2 with ⟨rfl, h2⟩ | ⟨rfl, h2⟩
        · exact .inl ⟨by omega, by simpa using h2⟩
        · exact .inr ⟨by omega, by simpa using h2⟩
  obtain ⟨i, hi, hx⟩ := key fs j x hj
  obtain ⟨b, off, cs, h5, h6, h7, h8, h9⟩ := h4 i hi
  refine ⟨b, off, h5, by simp, ?_⟩
  match cs, h6 with
  | [u, v], _ =>
    have e0 : u = intV fs[i].1 := (List.cons.inj h8.1).1
    have e1 : v = intV fs[i].2 := (List.cons.inj h9.1).1
    rcases hx with ⟨rfl, rfl⟩ | ⟨rfl, rfl⟩
    · simpa [e0] using h7 0 u rfl
    · simpa [e1] using h7 1 v rfl

theorem bulk_F (fs : List (Int × Int)) : ((fs.map fun _ => 1 + 1 + 1).sum + 1) = 3 * fs.length + 1 := by
  induction fs with
  | nil => rfl
  | cons x r ih => simp only [List.map_cons, List.sum_cons, List.length_cons] at ih ⊢; omega
end Go.Proofs.Ytnmmiiffeenjbaa
