/- Own slices that begin anywhere in their block. -/
import Derived.Test.YtkncpdehgcldbaaDoorBase
namespace Go.Eng
open Go

inductive VecO (e : TypeId) : Option Addr → Nat → Nat → List Value → Heap → Prop where
  | nil : VecO e none 0 0 [] []
  | row (g : Nat) (pre xs l post : List Value) (n cap : Nat) (fz : Nat × Nat) (hf : fz.2 ≤ pre.length ∨ (pre ++ (xs ++ (l ++ post))).length ≤ fz.1) (hx : xs.length = n) (hl : xs.length + l.length = cap) : VecO e (some ⟨g, pre.length, none⟩) n cap xs [(g, .cells ⟨pre ++ (xs ++ (l ++ post))⟩ e fz)]
theorem VecO.of {e : TypeId} {a : Option Addr} {n cap : Nat} {xs : List Value} {L : Heap} (h : Vec e 1 a n cap xs L) : VecO e a n cap xs L := by
  cases h with
  | nil => exact .nil
  | row g n cap xs l hx hl hn =>
    have := VecO.row (e := e) g [] xs l [] n cap (0, 0) (.inl (Nat.zero_le _)) (by omega) (by omega)
    simpa using this
theorem VecO.len {e : TypeId} {a : Option Addr} {n cap : Nat} {xs : List Value} {L : Heap} (h : VecO e a n cap xs L) : xs.length = n ∧ n ≤ cap := by
  cases h with
  | nil => exact ⟨rfl, Nat.le_refl _⟩
  | row g pre xs l post n cap fz hf hx hl => exact ⟨hx, by omega⟩
theorem VecO.pos {e : TypeId} {a : Option Addr} {n cap : Nat} {xs : List Value} {L : Heap} (h : VecO e a n cap xs L) (hn : 0 < n) : ∃ b off, a = some ⟨b, off, none⟩ := by
  cases h with
  | nil => omega
  | row g pre xs l post n cap fz hf hx hl => exact ⟨g, _, rfl⟩
theorem VecO.arr {e : TypeId} {a : Option Addr} {n cap : Nat} {xs : List Value} {L : Heap} (h : VecO e a n cap xs L) {w0 w : World} {T T' : List Nat} {H : Heap} {F : Heap → Heap} (hS : St w0 T H w) [hc : Chunk H L F]
    (hT : ∀ b ∈ keys L, b ∉ T') : Arr w T' a xs := by
  cases h with
  | nil => exact Arr.nil _ _ _
  | row g pre xs l post n cap fz hf hx hl =>
    intro j x hj
    have hm := hS.part (L := [(g, Obj.cells ⟨pre ++ (xs ++ (l ++ post))⟩ e fz)]).own _ (List.mem_singleton.2 rfl)
    refine ⟨g, pre.length, rfl, hT g (by simp [keys]), ?_⟩
    have hlt : j < xs.length := (List.getElem?_eq_some_iff.1 hj).1
    simp only [World.cell?, hm]
    simp only [Option.isSome_none, Bool.false_eq_true, if_false]
    rw [show (Array.mk (pre ++ (xs ++ (l ++ post))))[pre.length + j]? = (pre ++ (xs ++ (l ++ post)))[pre.length + j]? by simp, List.getElem?_append_right (by omega), show pre.length + j - pre.length = j by omega, List.getElem?_append_left hlt]
    exact hj
/-- The rest behind k elements. -/
theorem VecO.drop {e : TypeId} {b off n cap k : Nat} {xs : List Value} {L : Heap} (h : VecO e (some ⟨b, off, none⟩) n cap xs L) (hk : k ≤ n) : VecO e (subA b off k cap 1) (n - k) (cap - k) (xs.drop k) L := by
  cases h with
  | row g pre xs l post n cap fz hf hx hl =>
    unfold subA
    split
    · rename_i hc
      have h1 : l = [] := List.eq_nil_of_length_eq_zero (by omega)
      have h2 : xs.drop k = [] := List.drop_eq_nil_iff.2 (by omega)
      have := VecO.row (e := e) b pre [] [] (xs ++ (l ++ post)) 0 0 fz hf rfl rfl
      rw [h2, show n - k = 0 by omega, show cap - k = 0 by omega]
      simpa using this
    · have e2 : pre ++ xs.take k ++ (xs.drop k ++ (l ++ post)) = pre ++ (xs ++ (l ++ post)) := by
        rw [List.append_assoc, ← List.append_assoc (xs.take k), List.take_append_drop]
      have := VecO.row (e := e) b (pre ++ xs.take k) (xs.drop k) l post (n - k) (cap - k) fz (by
        rw [e2]; rcases hf with hf | hf
        · exact .inl (by rw [List.length_append]; omega)
        · exact .inr hf) (by simp; omega) (by simp; omega)
      have e1 : (pre ++ xs.take k).length = pre.length + k * 1 := by simp; omega
      rw [e1, e2] at this
      exact this

section
variable {P : Program} {T0 : Tbl}
theorem St.appO (hT : TOk P T0) {t e ty : TypeId} {i ie : TI} (hi : tf T0 t = some i) (hk : i.k = .slice e 1) (hie : tf T0 e = some ie)
    (hz : ie.zero.cells.size = 1) {w0 w : World} {T : List Nat} {H L : Heap} {F : Heap → Heap} (hS : St w0 T H w) {a : Option Addr} {n cap : Nat} {xs : List Value} (hv : VecO e a n cap xs L) [hc : Chunk H L F]
    {b : Option Addr} {m c : Nat} {news : List Value} (hm : news.length = m) (ha : Arr w [] b news) (h1 : news.all Value.oneCell' = true)
    (hlen : (n + m) * ie.bytes ≤ 140737488355328) (hlen' : n + m ≤ 9223372036854775807) {K : Value → World → Prop}
    (h : ∀ a' cap' L' w', VecO e a' (n + m) cap' (xs ++ news) L' → St w0 T (F L') w' → K (.slice a' (n + m) cap') w') :
    RunG P (Builtin.append_ ⟨[t, t]⟩ ty ⟨[.slice a n cap, .slice b m c]⟩) w K := by
  have ht := und_of hT hi
  rw [hk] at ht
  obtain ⟨ht, hes⟩ := ht
  obtain ⟨inf, hinf, hzz, hs1, hby⟩ := info_of hT hie
  have hsz : inf.size = 1 := by rw [hinf] at hes; simpa using hes
  have hpart : Holds L w := hS.part (L := L)
  have hin := St.enter hpart
  have hsrc : ∀ w', w'.heap = w.heap → (Builtin.firstCells 1 m (.slice b m c)).run P w' = .ok ⟨news⟩ w' := fun w' hw => ha.firstCells (sz := 1) (by omega) hw
  have step : ∀ o, St w0 T (F [(w.heap.size, o)]) (w.drew.alloc o) := fun o =>
    hS.call (L := L) (((hin.drew).alloc o).sub (List.Sublist.cons_cons _ (List.nil_sublist _)))
  cases hv with
  | nil => exact St.app (sz := 1) hT hi hk hie hz hS Vec.nil (by omega) ha h1 hlen hlen' fun a' cap' L' w' h2 h3 => h a' cap' L' w' (VecO.of h2) h3
  | row g pre xs l post n cap fz hf hx hl =>
    have hg : w.heap[g]? = some (.cells ⟨pre ++ (xs ++ (l ++ post))⟩ e fz) := hpart.own _ (List.mem_singleton.2 rfl)
    by_cases hroom : n + m ≤ cap
    · have hst := run_storeCells_fz P g (pre.length + n * 1) e fz news 0 ⟨pre ++ (xs ++ (l ++ post))⟩ w hg (by simp only [List.length_append] at hf; omega) (by simp; omega) (fun v hv => List.all_eq_true.1 h1 v hv)
      simp only [Nat.add_zero] at hst
      have e1 : (pre ++ (xs ++ (l ++ post))).take (pre.length + n * 1) = pre ++ xs := by
        rw [← List.append_assoc, show pre.length + n * 1 = (pre ++ xs).length by simp; omega, List.take_left]
      have e2 : (pre ++ (xs ++ (l ++ post))).drop (pre.length + n * 1 + news.length) = l.drop m ++ post := by
        rw [← List.append_assoc, show pre.length + n * 1 + news.length = (pre ++ xs).length + m by simp; omega, List.drop_append, List.drop_eq_nil_of_le (by omega), List.nil_append,
          show (pre ++ xs).length + m - (pre ++ xs).length = m by omega, List.drop_append_of_le_length (by omega)]
      have e3 : pre ++ xs ++ news ++ (l.drop m ++ post) = pre ++ ((xs ++ news) ++ (l.drop m ++ post)) := by simp
      have hv2 := VecO.row (e := e) g pre (xs ++ news) (l.drop m) post (n + m) cap fz (by simp only [List.length_append, List.length_drop] at hf ⊢; omega) (by simp; omega) (by simp; omega)
      refine RunG.of ?_ (h (some ⟨g, pre.length, none⟩) cap _ (w.setRow g ⟨pre ++ ((xs ++ news) ++ (l.drop m ++ post))⟩) hv2 ?_)
      · simp only [e1, e2] at hst
        rw [← e3]
        simp [Builtin.append_, run_underlying ht, sizeOf, typeInfo, hinf, hsz, Builtin.lenOf, hroom, hsrc w rfl, Addr.add_eq]
        rw [show pre.length + n = pre.length + n * 1 by omega, hst]
        simp
      · exact hS.call (L := [(g, .cells ⟨pre ++ (xs ++ (l ++ post))⟩ e fz)]) (hin.setRow (b := g) (l := pre ++ (xs ++ (l ++ post))) (l' := pre ++ ((xs ++ news) ++ (l.drop m ++ post))))
    · have hge := grownCap_ge w (n + m) cap e
      have h3 : ¬ (9223372036854775807 < ((n : Int) + (m : Int))) := by omega
      have h4 : ¬ (281474976710656 < Builtin.nextslicecap (n + m) cap * inf.bytes) := by
        have := growslice_fits (need := n + m) (old := cap) (bytes := inf.bytes) (by omega) (by rw [hby]; exact hlen)
        omega
      have h5 := hsrc w.drew rfl
      have hfo := run_firstCells_some (P := P) w.drew 1 n ⟨g, pre.length, none⟩ n cap xs (by omega) (fun j v hj => by
        rw [Addr.add_eq]
        have hlt : j < xs.length := (List.getElem?_eq_some_iff.1 hj).1
        have hg' : w.drew.heap[g]? = some (.cells ⟨pre ++ (xs ++ (l ++ post))⟩ e fz) := hg
        simp only [World.cell?, hg', Option.isSome_none, Bool.false_eq_true, if_false]
        rw [show (Array.mk (pre ++ (xs ++ (l ++ post))))[pre.length + j]? = (pre ++ (xs ++ (l ++ post)))[pre.length + j]? by simp, List.getElem?_append_right (by omega), show pre.length + j - pre.length = j by omega, List.getElem?_append_left hlt]
        exact hj)
      have hV := VecO.row (e := e) w.heap.size [] (xs ++ news) (Builtin.zeroCells ie.zero.cells (grownCap w (n + m) cap e - (n + m))).toList [] (n + m) (grownCap w (n + m) cap e) (0, 0) (.inl (Nat.zero_le _)) (by simp; omega) (by rw [zeroCells_len, hz]; simp; omega)
      refine RunG.of ?_ (h _ _ _ _ hV (step _))
      simp [Builtin.append_, run_underlying ht, sizeOf, typeInfo, zeroValue, hinf, hzz, hsz, Builtin.lenOf, hroom, h3, h4, Question.forced, hfo, h5, newRow, grownCap]
      congr 2
      apply Array.ext'
      simp
end
end Go.Eng
