/- What all texts of proofs lean on: pointers, slices of parts, blocks apart, loops whose ways out meet. -/
import Derived.Test.YtkncpdehgcldbaaDoorMap
namespace Go.Proofs.YtkncpdehgcldbaaDoor
open Go Go.Eng Go.Proofs

abbrev Bytes := List UInt8
def intV (n : Int) : Value := .int .i64 n
theorem ptr_ok {P : Program} {T : Tbl} (hT : TOk P T) {t : TypeId} {i : TI} {e : TypeId} (hi : tf T t = some i) (hk : i.k = .ptr e) : P.underlying t = some (.pointer (P.pointee t)) := by
  have := und_of hT hi
  rw [hk] at this
  have h : P.underlying t = some (.pointer e) := this
  simp [Program.pointee, h]

abbrev ptr (b : Nat) : Value := .pointer (some ⟨b, 0, none⟩)

def sumLen (ps : List (List UInt8)) : Nat := (ps.map List.length).sum
theorem sumLen_take (ps : List (List UInt8)) (k : Nat) (hk : k < ps.length) : sumLen (ps.take (k + 1)) = sumLen (ps.take k) + ps[k].length := by
  unfold sumLen; rw [List.take_succ_eq_append_getElem hk, List.map_append, List.sum_append]; simp
theorem sumLen_take_le (ps : List (List UInt8)) (k : Nat) : sumLen (ps.take k) ≤ sumLen ps := by
  have h := congrArg (fun l => (l.map List.length).sum) (List.take_append_drop k ps)
  simp only [List.map_append, List.sum_append] at h
  unfold sumLen; omega
theorem len_le_sumLen (ps : List (List UInt8)) (k : Nat) (hk : k < ps.length) : ps[k].length ≤ sumLen ps := by
  have h1 := sumLen_take ps k hk
  have h2 := sumLen_take_le ps (k + 1)
  omega
theorem keys_right {b : Nat} {X Y : Heap} (h : b ∈ keys X) : b ∈ keys (Y ++ X) := by
  simp only [keys, List.map_append]; exact List.mem_append_right _ h
theorem nodup_new {b : Nat} {o : Obj} {H : Heap} {w0 w : World} {T : List Nat} (hS : St w0 T ((b, o) :: H) w) : b ∉ keys H := by
  have := hS.nd; simp only [keys, List.map_cons, List.nodup_cons] at this; exact this.1

/-- What was readable before lies in no block made since. -/
theorem St.arrNew {w0 w : World} {T : List Nat} {H L : Heap} {F : Heap → Heap} (hS : St w0 T H w) [hc : Chunk H L F] {a : Option Addr} {xs : List Value} (h : Arr w0 T a xs) : Arr w (keys L) a xs := fun j x hx => by
  obtain ⟨b, off, h1, h2, h3⟩ := h j x hx
  refine ⟨b, off, h1, fun hm => ?_, hS.oldCell (a := ⟨b, off + j, none⟩) h2 h3⟩
  obtain ⟨A, B, hH, _⟩ := hc.at_
  obtain ⟨p, hp, rfl⟩ := List.mem_map.1 hm
  refine h2 (hS.fresh p (by rw [hH]; simp [hp]) ?_)
  cases hb : w0.heap[p.1]? with
  | none => simp [World.cell?, hb] at h3
  | some o => exact (Array.getElem?_eq_some_iff.1 hb).1
theorem nodup_far {w0 w : World} {T : List Nat} {Lv L : Heap} {x : Nat × Obj} (hS : St w0 T (Lv ++ x :: L) w) : ∀ b ∈ keys Lv, b ∉ keys L := by
  have := hS.nd
  rw [show keys (Lv ++ x :: L) = keys Lv ++ x.1 :: keys L by simp [keys]] at this
  intro b hb hL
  exact (List.nodup_append.1 this).2.2 b hb b (List.mem_cons_of_mem _ hL) rfl
theorem nodup_two {w0 w : World} {T : List Nat} {L : Heap} {b : Nat} {o : Obj} {x : Nat × Obj} (hS : St w0 T ((b, o) :: x :: L) w) : b ∉ keys L := by
  have := hS.nd
  rw [show keys ((b, o) :: x :: L) = b :: x.1 :: keys L by simp [keys]] at this
  intro hL
  exact (List.nodup_cons.1 this).1 (List.mem_cons_of_mem _ hL)

/-- Ends by one exit alone. -/
def exQ (id : Nat) (K : Env → World → Prop) : Exit → Env → World → Prop
  | .exit k, e, w => k = id ∧ K e w
  | _, _, _ => False
/-- The ways out of a loop meet again. -/
theorem StopW.join {P : Program} {N : Nat} {c y : Code} {id : Nat} {Q1 Q2 : Exit → Env → World → Prop} {e : Env} {w : World} {ι : Type} (I : ι → Env) (J : ι → World → Prop)
    (h : StopW P N c (exQ id fun e' w' => ∃ i, subG (I i) e' ∧ J i w') e w) (hy : ∀ i w', J i w' → SemW P N y Q1 (I i) w') : StopW P N c (blkQ id (thenQ (SemW P N y Q1) Q2)) e w := by
  refine ⟨h.out.mono fun ex e' w' hq => ?_⟩
  cases ex with
  | exit k =>
    obtain ⟨rfl, i, h1, h2⟩ := hq
    simp only [blkQ, thenQ, Nat.beq_refl]
    exact SemW.weaken h1 (hy i w' h2)
  | _ => exact hq.elim
theorem sumLen_app (a b : List Bytes) : sumLen (a ++ b) = sumLen a + sumLen b := by simp [sumLen]
theorem Arr.dropA {w : World} {T : List Nat} {g off cap : Nat} {xs ys : List Value} (h : Arr w T (some ⟨g, off, none⟩) (xs ++ ys)) (hc : xs.length + ys.length ≤ cap) : Arr w T (subA g off xs.length cap 1) ys := by
  unfold subA
  split
  · have : ys = [] := List.eq_nil_of_length_eq_zero (by omega)
    subst this; exact Arr.nil _ _ _
  · intro j x hj
    obtain ⟨b, o, h1, h2, h3⟩ := h (xs.length + j) x (by rw [List.getElem?_append_right (by omega), show xs.length + j - xs.length = j by omega]; exact hj)
    simp at h1
    obtain ⟨rfl, rfl⟩ := h1
    exact ⟨g, off + xs.length * 1, rfl, h2, by rw [show off + xs.length * 1 + j = off + (xs.length + j) by omega]; exact h3⟩
theorem Arr.left {w : World} {T : List Nat} {a : Option Addr} {ps qs : List Bytes} (h : Arr w T a ((ps ++ qs).map Str)) : Arr w T a (ps.map Str) := by
  rw [List.map_append] at h; exact fun j x hx => h j x (by rw [List.getElem?_append_left ((List.getElem?_eq_some_iff.1 hx).1)]; exact hx)
theorem Arr.right {w : World} {T : List Nat} {g off cap n : Nat} {ps qs : List Bytes} (h : Arr w T (some ⟨g, off, none⟩) ((ps ++ qs).map Str)) (hn : n = ps.length) (hc : ps.length + qs.length ≤ cap) : Arr w T (subA g off n cap 1) (qs.map Str) := by
  rw [List.map_append] at h
  have := Arr.dropA (cap := cap) h (by simpa using hc)
  rwa [List.length_map, ← hn] at this
theorem Arr.takeL {w : World} {T : List Nat} {a : Option Addr} {xs : List Bytes} {x : Bytes} (h : Arr w T a ((xs ++ [x]).map Str)) : Arr w T a (xs.map Str) := by
  exact Arr.left h
theorem not_in {w0 w : World} {T : List Nat} {A B C : Heap} (hS : St w0 T (A ++ (B ++ C)) w) : ∀ b ∈ keys A, b ∉ keys B := by
  have := hS.nd
  rw [show keys (A ++ (B ++ C)) = keys A ++ (keys B ++ keys C) by simp [keys]] at this
  intro b hb hB
  exact (List.nodup_append.1 this).2.2 b hb b (List.mem_append_left _ hB) rfl

theorem Arr.take {w : World} {T : List Nat} {a : Option Addr} {xs ys : List Value} (h : Arr w T a (xs ++ ys)) : Arr w T a xs := fun j x hx => h j x (by
  rw [List.getElem?_append_left ((List.getElem?_eq_some_iff.1 hx).1)]; exact hx)
end Go.Proofs.YtkncpdehgcldbaaDoor
