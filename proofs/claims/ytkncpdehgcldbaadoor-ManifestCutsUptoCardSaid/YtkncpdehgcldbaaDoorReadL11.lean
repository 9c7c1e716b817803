/- Plain: what the frames of a manifest's text come to. -/
import Derived.Test.YtkncpdehgcldbaaDoorDecode11
import Derived.Test.YtkncpdehgcldbaaDoorScanN
namespace Go.Proofs.YtkncpdehgcldbaaDoor
open Go Go.Eng Go.Proofs Go.Srt
/-- The version and the place behind the next edit, if there is one and it is right. -/
def next (t : Bytes) (v : VM) (k : Nat) : Option (VM × Nat) :=
  if (firstM t k).2.2 = 0 then match decodeM (firstM t k).1 with
    | none => none
    | some e => match applyM v e with
      | none => none
      | some v' => some (v', (firstM t k).2.1)
  else none
inductive Rd (t : Bytes) : VM → Nat → VM × Nat → Prop where
  | stop {v : VM} {k : Nat} (h : next t v k = none) : Rd t v k (v, k)
  | step {v v' : VM} {k k' : Nat} {X : VM × Nat} (h : next t v k = some (v', k')) (r : Rd t v' k' X) : Rd t v k X
theorem Rd.unique {t : Bytes} {v : VM} {k : Nat} {X Y : VM × Nat} (h : Rd t v k X) : Rd t v k Y → X = Y := by
  induction h with
  | stop h =>
    intro h2
    cases h2 with
    | stop _ => rfl
    | step h' _ => rw [h] at h'; cases h'
  | step h r ih =>
    intro h2
    cases h2 with
    | stop h' => rw [h] at h'; cases h'
    | step h' r' => rw [h] at h'; cases h'; exact ih r'
theorem next_end {t : Bytes} {v v' : VM} {k k' : Nat} (h : next t v k = some (v', k')) : k + 8 ≤ k' ∧ k' ≤ t.length := by
  unfold next at h
  split at h
  · next h0 =>
    have := firstM_next t k h0
    split at h
    · cases h
    · split at h
      · cases h
      · simp only [Option.some.injEq, Prod.mk.injEq] at h
        omega
  · cases h
theorem Rd.le {t : Bytes} {v : VM} {k : Nat} {X : VM × Nat} (h : Rd t v k X) : k ≤ X.2 := by
  induction h with
  | stop h => exact Nat.le_refl _
  | step h r ih => have := next_end h; omega
theorem num4_take (l : Bytes) (n : Nat) (h : 4 ≤ n) : num4 (l.take n) = num4 l := by
  unfold num4
  have e : ∀ i, i < 4 → (l.take n).getD i 0 = l.getD i 0 := by
    intro i hi
    simp only [List.getD_eq_getElem?_getD, List.getElem?_take, if_pos (show i < n by omega)]
  rw [e 0 (by omega), e 1 (by omega), e 2 (by omega), e 3 (by omega)]
theorem firstM_good {t : Bytes} {k : Nat} (h : (firstM t k).2.2 = 0) : ¬ t.length < k + 8 ∧ ¬(65536 < num4 (t.drop k) ∨ (t.drop k).length < num4 (t.drop k) + 8) ∧ crcN [(t.drop k).take 4, ((t.drop k).take (8 + num4 (t.drop k))).drop 8] = num4 ((t.drop k).drop 4) ∧
    firstM t k = (((t.drop k).take (8 + num4 (t.drop k))).drop 8, k + 8 + num4 (t.drop k), 0) := by
  unfold firstM at h ⊢
  split at h
  · cases h
  · next h1 =>
    split at h
    · cases h
    · next h2 =>
      split at h
      · next h3 => exact ⟨h1, h2, h3, by rw [if_neg h1, if_neg h2, if_pos h3]⟩
      · cases h
/-- A frame that ends ahead of the cut is found there too. -/
theorem firstM_take {t : Bytes} {k n : Nat} (h : (firstM t k).2.2 = 0) (hn : (firstM t k).2.1 ≤ n) : firstM (t.take n) k = firstM t k := by
  obtain ⟨h1, h2, h3, h4⟩ := firstM_good h
  rw [h4] at hn ⊢
  simp only at hn
  have hl : (t.take n).length = min n t.length := List.length_take
  have hdl : (t.drop k).length = t.length - k := List.length_drop
  have hd : (t.take n).drop k = (t.drop k).take (n - k) := List.drop_take
  have e1 : num4 ((t.take n).drop k) = num4 (t.drop k) := by rw [hd, num4_take _ _ (by omega)]
  have e2 : ((t.take n).drop k).take 4 = (t.drop k).take 4 := by rw [hd, List.take_take, Nat.min_eq_left (by omega)]
  have e3 : ((t.take n).drop k).take (8 + num4 (t.drop k)) = (t.drop k).take (8 + num4 (t.drop k)) := by rw [hd, List.take_take, Nat.min_eq_left (by omega)]
  have e4 : num4 (((t.take n).drop k).drop 4) = num4 ((t.drop k).drop 4) := by
    rw [hd, List.drop_take, num4_take _ _ (by omega)]
  have e5 : ((t.take n).drop k).length = min (n - k) (t.drop k).length := by rw [hd, List.length_take]
  unfold firstM
  rw [if_neg (by omega), e1, e2, e3, e4, if_neg (by rw [e5]; omega), if_pos h3]
theorem firstM_short {t : Bytes} {k : Nat} (h : t.length < k + 8) : (firstM t k).2.2 ≠ 0 := by
  unfold firstM
  rw [if_pos h]; decide
theorem Rd.take {t : Bytes} {v : VM} {k : Nat} {X : VM × Nat} (h : Rd t v k X) : Rd (t.take X.2) v k X := by
  induction h with
  | @stop v k h =>
    refine .stop ?_
    unfold next
    rw [if_neg (firstM_short (by rw [List.length_take]; show min k _ < _; omega))]
  | @step v v' k k' X h r ih =>
    refine .step (v' := v') (k' := k') ?_ ih
    have hle := r.le
    have hk := next_end h
    unfold next at h ⊢
    split at h
    · next h0 =>
      have hend : (firstM t k).2.1 = k' := by
        split at h
        · cases h
        · split at h
          · cases h
          · simp only [Option.some.injEq, Prod.mk.injEq] at h; exact h.2
      have e := firstM_take h0 (n := X.2) (by omega)
      rw [e, if_pos h0]; exact h
    · cases h
theorem add_le_text {t : Bytes} {e : EM} (h : decodeM t = some e) (ht : t.length < 18446744073709551616) : e.add.length ≤ t.length := by
  obtain ⟨rfl, -, -⟩ := (decodeM_iff ht).1 h
  have hfl : ∀ l : List FileM, l.length ≤ (filesB l).length := by
    intro l
    induction l with
    | nil => exact Nat.zero_le _
    | cons f l ih =>
      have := numB_pos (zig f.1)
      simp only [filesB, fileB, List.map_cons, List.flatten_cons, List.length_append, List.length_cons, intB] at ih ⊢
      omega
  have := hfl e.add
  unfold editB
  simp only [List.length_append]; omega
def errE (o : Option EM) : Int := match o with
  | none => 11
  | some _ => 0
theorem EditV.zero : EditV none none 0 0 zeroE [] [] := ⟨Vec.nil, Vec.nil, by decide, by decide⟩
theorem DecPost.out {o : Option EM} {r : Value} {w w' : World} (h : DecPost o r w w') : ∃ a b ca cb La Lb, r = .tuple ⟨[.agg ⟨editC a b ca cb (o.getD zeroE)⟩, .int .i64 (errE o)]⟩ ∧ EditV a b ca cb (o.getD zeroE) La Lb ∧ St w [] (La ++ Lb) w' := by
  cases o with
  | none => obtain ⟨h1, h2⟩ := h; exact ⟨_, _, _, _, [], [], h1, EditV.zero, h2⟩
  | some v => exact h
theorem ApplyPost.out {o : Option VM} {r : Value} {w w' : World} (h : ApplyPost o r w w') : ∃ a c L, r = .tuple ⟨[.agg ⟨versC a c (o.getD zeroV)⟩, .bool o.isSome]⟩ ∧ VersV a c (o.getD zeroV) L ∧ St w [] L w' := by
  cases o with
  | none => obtain ⟨h1, h2⟩ := h; exact ⟨none, 0, [], h1, VersV.zero, h2⟩
  | some v => exact h
end Go.Proofs.YtkncpdehgcldbaaDoor
