/- Plain laws of sorting in place: rows of elements, swaps, splits. -/
import Derived.Test.YtkncpdehgcldbaaDoorBase
namespace Go.Srt
variable {α : Type} (lt : α → α → Bool)
/-- In order: none is less than one ahead of it. -/
def Srt (l : List α) : Prop := l.Pairwise fun x y => lt y x = false
structure Ord : Prop where
  asym : ∀ x y, lt x y = true → lt y x = false
  trans : ∀ x y z, lt y x = false → lt z y = false → lt z x = false
variable {lt}
theorem Srt.app {a b : List α} (ha : Srt lt a) (hb : Srt lt b) (h : ∀ x ∈ a, ∀ y ∈ b, lt y x = false) : Srt lt (a ++ b) := List.pairwise_append.2 ⟨ha, hb, h⟩
theorem Srt.left {a b : List α} (h : Srt lt (a ++ b)) : Srt lt a := (List.pairwise_append.1 h).1
theorem Srt.right {a b : List α} (h : Srt lt (a ++ b)) : Srt lt b := (List.pairwise_append.1 h).2.1
theorem Srt.cross {a b : List α} (h : Srt lt (a ++ b)) : ∀ x ∈ a, ∀ y ∈ b, lt y x = false := (List.pairwise_append.1 h).2.2
theorem Ord.irrefl (h : Ord lt) (x : α) : lt x x = false := by
  cases e : lt x x with
  | false => rfl
  | true => have := h.asym x x e; rw [e] at this; exact this
theorem Srt.at {l : List α} (h : Srt lt l) {i j : Nat} (hi : i < l.length) (hj : j < l.length) (hij : i < j) : lt l[j] l[i] = false := (List.pairwise_iff_getElem.1 h) i j hi hj hij
/-- Two elements change places. -/
def swp (l : List α) (i j : Nat) (hi : i < l.length) (hj : j < l.length) : List α := (l.set i l[j]).set j l[i]
theorem swp_len (l : List α) (i j : Nat) (hi : i < l.length) (hj : j < l.length) : (swp l i j hi hj).length = l.length := by simp [swp]
theorem swp_mid (P Q S : List α) (x y : α) (i j : Nat) (hi : i < (P ++ x :: Q ++ y :: S).length) (hj : j < (P ++ x :: Q ++ y :: S).length) (e1 : i = P.length) (e2 : j = P.length + 1 + Q.length) :
    swp (P ++ x :: Q ++ y :: S) i j hi hj = P ++ y :: Q ++ x :: S := by
  subst e1 e2
  have h1 : (P ++ x :: Q ++ y :: S)[P.length]? = some x := by simp
  have h2 : (P ++ x :: Q ++ y :: S)[P.length + 1 + Q.length]? = some y := by
    rw [List.getElem?_append_right (by simp; omega)]
    have : P.length + 1 + Q.length - (P ++ x :: Q).length = 0 := by simp; omega
    rw [this]; rfl
  rw [List.getElem?_eq_getElem hi, Option.some.injEq] at h1
  rw [List.getElem?_eq_getElem hj, Option.some.injEq] at h2
  unfold swp
  rw [h1, h2]
  have e3 : (P ++ x :: Q ++ y :: S).set P.length y = P ++ y :: Q ++ y :: S := by
    rw [List.append_assoc, List.set_append_right _ _ (Nat.le_refl _), Nat.sub_self]; simp
  rw [e3]
  have e4 : P.length + 1 + Q.length = (P ++ y :: Q).length := by simp; omega
  rw [e4, List.set_append_right _ _ (Nat.le_refl _), Nat.sub_self]; rfl
theorem swp_mid' (P Q S : List α) (x y : α) (i j : Nat) (hi : i < (P ++ x :: Q ++ y :: S).length) (hj : j < (P ++ x :: Q ++ y :: S).length) (e1 : j = P.length) (e2 : i = P.length + 1 + Q.length) :
    swp (P ++ x :: Q ++ y :: S) i j hi hj = P ++ y :: Q ++ x :: S := by
  rw [← swp_mid P Q S x y j i hj hi e1 e2]
  unfold swp
  by_cases h : i = j
  · subst h; rfl
  · rw [List.set_comm _ _ (h)]
/-- Two stretches that are changing places, k elements of each so far. -/
def rg (P A Q B S : List α) (k : Nat) : List α := P ++ (B.take k ++ A.drop k) ++ Q ++ (A.take k ++ B.drop k) ++ S
section
variable {P A Q B S : List α} {k a b : Nat}
theorem rg_zero : rg P A Q B S 0 = P ++ A ++ Q ++ B ++ S := by simp [rg]
theorem rg_full (hAB : A.length = B.length) (hk : k = A.length) : rg P A Q B S k = P ++ B ++ Q ++ A ++ S := by
  subst hk
  have h : B.take A.length = B := by rw [hAB]; exact List.take_length
  have h2 : B.drop A.length = [] := by rw [hAB]; exact List.drop_length
  unfold rg
  rw [h, h2]; simp
theorem rg_len (hAB : A.length = B.length) : (rg P A Q B S k).length = P.length + A.length + Q.length + B.length + S.length := by
  simp only [rg, List.length_append, List.length_take, List.length_drop]; omega
theorem rg_form (hAB : A.length = B.length) (hk : k < A.length) : ∃ P' Q' S' x y, rg P A Q B S k = P' ++ x :: Q' ++ y :: S' ∧ rg P A Q B S (k + 1) = P' ++ y :: Q' ++ x :: S' ∧ P'.length = P.length + k ∧ P'.length + 1 + Q'.length = P.length + A.length + Q.length + k := by
  refine ⟨P ++ B.take k, A.drop (k + 1) ++ Q ++ A.take k, B.drop (k + 1) ++ S, A[k], B[k]'(by omega), ?_, ?_, ?_, ?_⟩
  · have h1 := List.drop_eq_getElem_cons hk
    have h2 := List.drop_eq_getElem_cons (l := B) (i := k) (by omega)
    unfold rg
    rw [h1, h2]
    simp only [List.append_assoc, List.cons_append]
  · have h1 := List.take_succ_eq_append_getElem hk
    have h2 := List.take_succ_eq_append_getElem (l := B) (i := k) (by omega)
    unfold rg
    rw [h1, h2]
    simp only [List.append_assoc, List.cons_append, List.nil_append]
  · simp only [List.length_append, List.length_take]; omega
  · simp only [List.length_append, List.length_take, List.length_drop]; omega
theorem rg_swp (hAB : A.length = B.length) (hk : k < A.length) (hi : a < (rg P A Q B S k).length) (hj : b < (rg P A Q B S k).length) (e1 : a = P.length + k) (e2 : b = P.length + A.length + Q.length + k) : ((rg P A Q B S k).set a (rg P A Q B S k)[b]).set b (rg P A Q B S k)[a] = rg P A Q B S (k + 1) := by
  obtain ⟨P', Q', S', x, y, h1, h2, h3, h4⟩ := rg_form (P := P) (Q := Q) (S := S) hAB hk
  rw [h2]
  simp only [h1] at hi hj ⊢
  exact swp_mid P' Q' S' x y a b hi hj (by omega) (by omega)
end
theorem swp_adj (P T : List α) (u x : α) (n : Nat) (h : n = P.length) : ((P ++ u :: x :: T).set (n + 1) u).set n x = P ++ x :: u :: T := by
  subst h
  rw [List.set_append_right _ _ (by omega), List.set_append_right _ _ (by omega)]
  have e : P.length + 1 - P.length = 1 := by omega
  rw [e, Nat.sub_self]; rfl
theorem swp_adj' (P T : List α) (u x : α) (n : Nat) (h : n = P.length) : ((P ++ u :: x :: T).set n x).set (n + 1) u = P ++ x :: u :: T := by
  subst h
  rw [List.set_append_right _ _ (by omega), List.set_append_right _ _ (by omega)]
  have e : P.length + 1 - P.length = 1 := by omega
  rw [e, Nat.sub_self]; rfl
theorem get_adj (P T : List α) (u x : α) (n : Nat) (h : n < (P ++ u :: x :: T).length) (e : n = P.length + 1) : (P ++ u :: x :: T)[n] = x := by
  subst e; simp
/-- The list's middle. -/
theorem cut (l : List α) (a b : Nat) (hab : a ≤ b) (hb : b ≤ l.length) : ∃ P M S, l = P ++ M ++ S ∧ P.length = a ∧ M.length = b - a := by
  refine ⟨l.take a, (l.drop a).take (b - a), l.drop b, ?_, by simp; omega, by simp; omega⟩
  have h1 := List.take_append_drop a l
  have h2 := List.take_append_drop (b - a) (l.drop a)
  rw [List.drop_drop, show a + (b - a) = b by omega] at h2
  rw [List.append_assoc, h2, h1]
theorem cut_at {l : List α} {k : Nat} (h : k < l.length) : ∃ P x S, l = P ++ x :: S ∧ P.length = k ∧ l[k] = x := ⟨l.take k, l[k], l.drop (k + 1), by rw [← List.drop_eq_getElem_cons h, List.take_append_drop], by simp; omega, rfl⟩
theorem get_mid (P S : List α) (x : α) (k : Nat) (h : k < (P ++ x :: S).length) (e : k = P.length) : (P ++ x :: S)[k] = x := by
  subst e; simp
/-- One more taken into the ordered part: x, that stands behind U and ahead of V. -/
theorem insert_sorted (hO : Ord lt) {U V : List α} {x : α} (h : Srt lt (U ++ V)) (hV : ∀ v ∈ V, lt x v = true) (hU : ∀ u, U.getLast? = some u → lt x u = false) : Srt lt (U ++ x :: V) := by
  have hU' : ∀ u ∈ U, lt x u = false := by
    intro u hu
    cases hl : U.getLast? with
    | none => rw [List.getLast?_eq_none_iff] at hl; subst hl; cases hu
    | some z =>
      have hz := hU z hl
      obtain ⟨W, rfl⟩ : ∃ W, U = W ++ [z] := List.getLast?_eq_some_iff.1 hl
      rcases List.mem_append.1 hu with hu | hu
      · have := h.left.cross u hu z (by simp)
        exact hO.trans u z x this hz
      · rw [List.mem_singleton] at hu; subst hu; exact hz
  refine Srt.app h.left (List.pairwise_cons.2 ⟨fun v hv => hO.asym x v (hV v hv), h.right⟩) fun u hu y hy => ?_
  rcases List.mem_cons.1 hy with rfl | hy
  · exact hU' u hu
  · exact h.cross u hu y hy
/-- The same when what stands ahead is less, and what stands behind is no less. -/
theorem insert_sorted' (hO : Ord lt) {U V : List α} {x : α} (h : Srt lt (U ++ V)) (hU : ∀ u, U.getLast? = some u → lt u x = true) (hV : ∀ v, V.head? = some v → lt v x = false) : Srt lt (U ++ x :: V) := by
  have hU' : ∀ u ∈ U, lt x u = false := by
    intro u hu
    cases hl : U.getLast? with
    | none => rw [List.getLast?_eq_none_iff] at hl; subst hl; cases hu
    | some z =>
      have hz := hO.asym _ _ (hU z hl)
      obtain ⟨W, rfl⟩ : ∃ W, U = W ++ [z] := List.getLast?_eq_some_iff.1 hl
      rcases List.mem_append.1 hu with hu | hu
      · have := h.left.cross u hu z (by simp)
        exact hO.trans u z x this hz
      · rw [List.mem_singleton] at hu; subst hu; exact hz
  have hV' : ∀ v ∈ V, lt v x = false := by
    intro v hv
    cases V with
    | nil => cases hv
    | cons z V =>
      have hz := hV z rfl
      rcases List.mem_cons.1 hv with rfl | hv
      · exact hz
      · exact hO.trans x z v hz ((List.pairwise_cons.1 h.right).1 v hv)
  refine Srt.app h.left (List.pairwise_cons.2 ⟨hV', h.right⟩) fun u hu y hy => ?_
  rcases List.mem_cons.1 hy with rfl | hy
  · exact hU' u hu
  · exact h.cross u hu y hy
/-- Behind what is no greater, ahead of what is greater. -/
theorem insert_sortedR (hO : Ord lt) {U V : List α} {x : α} (h : Srt lt (U ++ V)) (hU : ∀ u, U.getLast? = some u → lt x u = false) (hV : ∀ v, V.head? = some v → lt x v = true) : Srt lt (U ++ x :: V) := by
  refine insert_sorted hO h (fun v hv => ?_) hU
  cases V with
  | nil => cases hv
  | cons z V =>
    have hz := hV z rfl
    rcases List.mem_cons.1 hv with rfl | hv
    · exact hz
    · have h1 := (List.pairwise_cons.1 h.right).1 v hv
      cases hxv : lt x v with
      | true => rfl
      | false =>
        have := hO.trans z v x h1 hxv
        rw [hz] at this; cases this
theorem take_last {l : List α} {k : Nat} (h : k < l.length) : (l.take (k + 1)).getLast? = some l[k] := by
  rw [List.take_succ_eq_append_getElem h, List.getLast?_concat]
theorem drop_head {l : List α} {k : Nat} (h : k < l.length) : (l.drop k).head? = some l[k] := by
  rw [List.drop_eq_getElem_cons h]; rfl
/-- Merging's halves are in order. -/
theorem split_ok (hO : Ord lt) {A1 A2 B1 B2 : List α} (hA : Srt lt (A1 ++ A2)) (hB : Srt lt (B1 ++ B2)) (h1 : ∀ x y, A1.getLast? = some x → B2.head? = some y → lt y x = false) (h2 : ∀ x y, B1.getLast? = some x → A2.head? = some y → lt x y = true) :
    ∀ x ∈ A1 ++ B1, ∀ y ∈ A2 ++ B2, lt y x = false := by
  have last : ∀ {U : List α} {x : α}, Srt lt U → x ∈ U → ∃ z, U.getLast? = some z ∧ lt z x = false := by
    intro U x hU hx
    cases hl : U.getLast? with
    | none => rw [List.getLast?_eq_none_iff] at hl; subst hl; cases hx
    | some z =>
      refine ⟨z, rfl, ?_⟩
      obtain ⟨W, rfl⟩ : ∃ W, U = W ++ [z] := List.getLast?_eq_some_iff.1 hl
      rcases List.mem_append.1 hx with hx | hx
      · exact hU.cross x hx z (by simp)
      · rw [List.mem_singleton] at hx; subst hx; exact hO.irrefl _
  have head : ∀ {U : List α} {y : α}, Srt lt U → y ∈ U → ∃ z, U.head? = some z ∧ lt y z = false := by
    intro U y hU hy
    cases U with
    | nil => cases hy
    | cons z U =>
      refine ⟨z, rfl, ?_⟩
      rcases List.mem_cons.1 hy with rfl | hy
      · exact hO.irrefl _
      · exact (List.pairwise_cons.1 hU).1 y hy
  intro x hx y hy
  rcases List.mem_append.1 hx with hx | hx <;> rcases List.mem_append.1 hy with hy | hy
  · exact hA.cross x hx y hy
  · obtain ⟨z, e1, l1⟩ := last hA.left hx
    obtain ⟨u, e2, l2⟩ := head hB.right hy
    exact hO.trans x u y (hO.trans x z u l1 (h1 z u e1 e2)) l2
  · obtain ⟨z, e1, l1⟩ := last hB.left hx
    obtain ⟨u, e2, l2⟩ := head hA.right hy
    exact hO.trans x u y (hO.trans x z u l1 (hO.asym z u (h2 z u e1 e2))) l2
  · exact hB.cross x hx y hy
theorem noRot {P A1 A2 B1 B2 S : List α} (h : A2.length = 0 ∨ B1.length = 0) : P ++ (A1 ++ A2) ++ (B1 ++ B2) ++ S = P ++ (A1 ++ B1) ++ (A2 ++ B2) ++ S := by
  rcases h with h | h <;> rw [List.length_eq_zero_iff.1 h] <;> simp
theorem oneSrt {A1 A2 B1 B2 : List α} (h : A1.length = 0 ∨ B1.length = 0) (hA : Srt lt (A1 ++ A2)) (hB : Srt lt (B1 ++ B2)) : Srt lt (A1 ++ B1) := by
  rcases h with h | h <;> rw [List.length_eq_zero_iff.1 h]
  · exact hB.left
  · rw [List.append_nil]; exact hA.left
theorem oneSrt' {A1 A2 B1 B2 : List α} (h : A2.length = 0 ∨ B2.length = 0) (hA : Srt lt (A1 ++ A2)) (hB : Srt lt (B1 ++ B2)) : Srt lt (A2 ++ B2) := by
  rcases h with h | h <;> rw [List.length_eq_zero_iff.1 h]
  · exact hB.right
  · rw [List.append_nil]; exact hA.right
theorem halves_perm {A1 A2 B1 B2 L R : List α} (h1 : L.Perm (A1 ++ B1)) (h2 : R.Perm (A2 ++ B2)) : (L ++ R).Perm ((A1 ++ A2) ++ (B1 ++ B2)) := by
  refine (h1.append h2).trans ?_
  rw [List.append_assoc, List.append_assoc]
  refine List.Perm.append_left A1 ?_
  rw [← List.append_assoc, ← List.append_assoc]
  exact List.Perm.append_right B2 List.perm_append_comm
/-- What a merge's search knows of its two ends. -/
def EdgeL (lt : α → α → Bool) (A B : List α) (d s s0 : Nat) : Prop := s = s0 ∨ ∃ x y, A[s - 1]? = some x ∧ B[d - s]? = some y ∧ lt y x = false
def EdgeR (lt : α → α → Bool) (A B : List α) (d r r0 : Nat) : Prop := r = r0 ∨ ∃ x y, A[r]? = some x ∧ B[d - r - 1]? = some y ∧ lt y x = true
/-- Blocks of n elements, each in order. -/
def Full (lt : α → α → Bool) (n : Nat) (bs : List (List α)) : Prop := ∀ x ∈ bs, x.length = n ∧ Srt lt x
theorem Full.snoc {n : Nat} {bs : List (List α)} {x : List α} (h : Full lt n bs) (h1 : x.length = n) (h2 : Srt lt x) : Full lt n (bs ++ [x]) := by
  intro y hy
  rcases List.mem_append.1 hy with hy | hy
  · exact h y hy
  · rw [List.mem_singleton] at hy; subst hy; exact ⟨h1, h2⟩
theorem Full.hd {n : Nat} {x : List α} {bs : List (List α)} (h : Full lt n (x :: bs)) : x.length = n ∧ Srt lt x := h x (by simp)
theorem Full.tl {n : Nat} {x : List α} {bs : List (List α)} (h : Full lt n (x :: bs)) : Full lt n bs := fun y hy => h y (by simp [hy])
/-- Blocks of n, and a rest that is less than one. -/
def Cks (lt : α → α → Bool) (n : Nat) (l : List α) : Prop := ∃ bs r, l = bs.flatten ++ r ∧ Full lt n bs ∧ r.length < n ∧ Srt lt r
theorem Cks.all {n : Nat} {l : List α} (h : Cks lt n l) (hn : l.length ≤ n) : Srt lt l := by
  obtain ⟨bs, r, rfl, hf, hr, hs⟩ := h
  cases bs with
  | nil => exact hs
  | cons x bs =>
    have h1 := hf.hd
    rw [List.flatten_cons, List.length_append, List.length_append] at hn
    have e1 : bs.flatten = [] := List.length_eq_zero_iff.1 (by omega)
    have e2 : r = [] := List.length_eq_zero_iff.1 (by omega)
    rw [List.flatten_cons, e1, e2, List.append_nil, List.append_nil]
    exact h1.2
theorem Srt.nil : Srt lt ([] : List α) := List.Pairwise.nil
theorem srt_unique (hA : ∀ x y, lt x y = false → lt y x = false → x = y) : ∀ {l m : List α}, Srt lt l → Srt lt m → l.Perm m → l = m
  | [], m, _, _, hp => (List.nil_perm.1 hp).symm
  | x :: l, [], _, _, hp => by have := List.perm_nil.1 hp; cases this
  | x :: l, y :: m, hl, hm, hp => by
    have hl' := List.pairwise_cons.1 hl
    have hm' := List.pairwise_cons.1 hm
    have hxy : x = y := by
      rcases List.mem_cons.1 (hp.mem_iff.1 (List.mem_cons_self (a := x) (l := l))) with e | e
      · exact e
      · rcases List.mem_cons.1 (hp.mem_iff.2 (List.mem_cons_self (a := y) (l := m))) with e' | e'
        · exact e'.symm
        · exact hA x y (hm'.1 x e) (hl'.1 y e')
    subst hxy
    rw [srt_unique hA hl'.2 hm'.2 hp.cons_inv]
/-- An element put into its place, from behind: ahead of all that are greater. -/
def ins (lt : α → α → Bool) (l : List α) (x : α) : List α := (l.takeWhile fun y => !lt x y) ++ x :: (l.dropWhile fun y => !lt x y)
theorem ins_perm (l : List α) (x : α) : (ins lt l x).Perm (x :: l) := by
  unfold ins
  refine List.perm_middle.trans (List.Perm.cons _ ?_)
  rw [List.takeWhile_append_dropWhile]
theorem ins_srt (hO : Ord lt) {l : List α} (hl : Srt lt l) (x : α) : Srt lt (ins lt l x) := by
  unfold ins
  have h := List.takeWhile_append_dropWhile (p := fun y => !lt x y) (l := l)
  refine insert_sorted hO (by rw [h]; exact hl) ?_ ?_
  · intro v hv
    have hd : Srt lt (l.dropWhile fun y => !lt x y) := by rw [← h] at hl; exact hl.right
    cases hdw : (l.dropWhile fun y => !lt x y) with
    | nil => rw [hdw] at hv; cases hv
    | cons z s =>
      have hz : lt x z = true := by
        have := List.head_dropWhile_not (p := fun y => !lt x y) (l := l) (by rw [hdw]; simp)
        simp only [hdw, List.head_cons] at this
        simpa using this
      rw [hdw] at hv hd
      rcases List.mem_cons.1 hv with rfl | hv
      · exact hz
      · have h1 := (List.pairwise_cons.1 hd).1 v hv
        cases hxv : lt x v with
        | true => rfl
        | false =>
          have := hO.trans z v x h1 hxv
          rw [hz] at this; cases this
  · intro u hu
    have := List.mem_of_getLast? hu
    have h2 := List.all_eq_true.1 (List.all_takeWhile (p := fun y => !lt x y) (l := l)) u this
    simpa using h2
end Go.Srt
