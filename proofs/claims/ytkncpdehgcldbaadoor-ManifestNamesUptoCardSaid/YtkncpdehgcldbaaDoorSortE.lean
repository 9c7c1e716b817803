/- A block of elements of several cells each: loads and stores by their number. -/
import Derived.Test.YtkncpdehgcldbaaDoorSortL
import Derived.Test.YtkncpdehgcldbaaDoorArrS
namespace Go.Eng
open Go
section
variable {β : Type} {sz : Nat} {cv : β → List Value}
theorem flat_lenE (hc : ∀ x, (cv x).length = sz) (l : List β) : (l.flatMap cv).length = l.length * sz := by
  induction l with
  | nil => simp
  | cons p ps ih => rw [List.flatMap_cons, List.length_append, ih, hc, List.length_cons, Nat.add_mul, Nat.one_mul]; omega
theorem flat_splitE (P S : List β) (x : β) : (P ++ x :: S).flatMap cv = P.flatMap cv ++ (cv x ++ S.flatMap cv) := by simp
theorem flat_atE (hc : ∀ x, (cv x).length = sz) (l : List β) (tail : List Value) (k : Nat) (hk : k < l.length) : ((l.flatMap cv ++ tail).drop (k * sz)).take sz = cv l[k] := by
  obtain ⟨P, x, S, e1, e2, e3⟩ := Srt.cut_at hk
  rw [e3]
  rw [e1, flat_splitE, List.append_assoc]
  have hp : k * sz = (P.flatMap cv).length := by rw [flat_lenE hc, e2]
  rw [hp, List.drop_left, List.append_assoc]
  exact List.take_left' (hc x)
theorem flat_setE (hc : ∀ x, (cv x).length = sz) (l : List β) (tail : List Value) (k : Nat) (hk : k < l.length) (y : β) : splice (l.flatMap cv ++ tail) (k * sz) (cv y) = (l.set k y).flatMap cv ++ tail := by
  obtain ⟨P, x, S, e1, e2, e3⟩ := Srt.cut_at hk
  have hp : k * sz = (P.flatMap cv).length := by rw [flat_lenE hc, e2]
  have e4 : l.set k y = P ++ y :: S := by
    rw [e1, ← e2, List.set_append_right _ _ (Nat.le_refl _), Nat.sub_self]; rfl
  rw [e4, e1, flat_splitE, flat_splitE]
  unfold splice
  rw [hp]
  have e5 : (P.flatMap cv).length + (cv y).length = (P.flatMap cv ++ cv x).length := by rw [List.length_append, hc, hc]
  rw [e5]
  have e6 : P.flatMap cv ++ (cv x ++ S.flatMap cv) ++ tail = (P.flatMap cv ++ cv x) ++ (S.flatMap cv ++ tail) := by simp
  rw [show List.take (P.flatMap cv).length (P.flatMap cv ++ (cv x ++ S.flatMap cv) ++ tail) = P.flatMap cv by rw [List.append_assoc, List.take_left]]
  rw [e6, List.drop_left]
  simp
variable {w0 w : World} {T : List Nat} {H : Heap} {g : Nat} {l : List β} {tail : List Value} {t : TypeId} {F : Obj → Heap}
theorem St.ldE (hc : ∀ x, (cv x).length = sz) (hS : St w0 T H w) [Slot H g (.cells ⟨l.flatMap cv ++ tail⟩ t (0, 0)) F] {k q : Nat} (hk : k < l.length) (hq : q = k * sz) {K : List Value → Prop} (hK : K (cv l[k])) : LdN (fun w' => w = w') sz g q K := by
  refine ⟨⟨_, hc _, fun _ e j v hv => ?_, hK⟩⟩
  subst e
  have hat := flat_atE hc l tail k hk
  refine hS.cell ?_
  rw [← hat, List.getElem?_take] at hv
  split at hv
  · rw [List.getElem?_drop] at hv; rw [hq]; exact hv
  · cases hv
/-- The same in every world that meets St. -/
theorem St.ldEC (hc : ∀ x, (cv x).length = sz) (_hS : St w0 T H w) [Slot H g (.cells ⟨l.flatMap cv ++ tail⟩ t (0, 0)) F] {k q : Nat} (hk : k < l.length) (hq : q = k * sz) {K : List Value → Prop} (hK : K (cv l[k])) : LdN (fun w' => St w0 T H w') sz g q K := by
  refine ⟨⟨_, hc _, fun _ h j v hv => ?_, hK⟩⟩
  have hat := flat_atE hc l tail k hk
  refine h.cell ?_
  rw [← hat, List.getElem?_take] at hv
  split at hv
  · rw [List.getElem?_drop] at hv; rw [hq]; exact hv
  · cases hv
theorem St.stE (hc : ∀ x, (cv x).length = sz) (h1 : ∀ x, (cv x).all Value.oneCell' = true) (hS : St w0 T H w) [Slot H g (.cells ⟨l.flatMap cv ++ tail⟩ t (0, 0)) F] {k q : Nat} (hk : k < l.length) (hq : q = k * sz) {y : β}
    {K : World → Prop} (hK : ∀ w', St w0 T (F (.cells ⟨(l.set k y).flatMap cv ++ tail⟩ t (0, 0))) w' → K w') : StG w g q (cv y) K := by
  have hle : (k + 1) * sz ≤ l.length * sz := Nat.mul_le_mul_right _ hk
  have hfit : k * sz + (cv y).length ≤ (l.flatMap cv ++ tail).length := by
    rw [List.length_append, flat_lenE hc, hc]
    rw [Nat.add_mul, Nat.one_mul] at hle; omega
  subst hq
  refine ⟨⟨_, t, (0, 0), hS.mem, .inl (Nat.zero_le _), hfit, fun v h => List.all_eq_true.1 (h1 y) v h, ?_⟩⟩
  rw [flat_setE hc l tail k hk y]
  exact hK _ (hS.setRow (l := l.flatMap cv ++ tail))
theorem St.call1 {w' : World} {o : Obj} {L' : Heap} (hS : St w0 T [(g, o)] w) (h : St w [g] L' w') : St w0 T L' w' := hS.call (L := [(g, o)]) h
end
theorem IntG.half {z r : Int} {K : Value → Prop} (h0 : 0 ≤ z ∧ z ≤ 9223372036854775807) (hr : z / 2 = r) (hk : K (.int .i64 r)) : IntG .i64 (z.fdiv (2 ^ (min (Int.toNat 1) (IntKind.bits .u64)))) K := by
  have e : (2 : Int) ^ (min (Int.toNat 1) (IntKind.bits .u64)) = 2 := by decide
  rw [e, Int.fdiv_eq_ediv_of_nonneg _ (by decide), hr]
  exact IntG.nw (by omega) hk
end Go.Eng
