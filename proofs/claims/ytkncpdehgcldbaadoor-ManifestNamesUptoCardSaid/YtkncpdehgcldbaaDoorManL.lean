/- Manifests, plainly: files in order, edits, versions. -/
import Derived.Test.YtkncpdehgcldbaaDoorSortT
namespace Go.Proofs.YtkncpdehgcldbaaDoor
open Go Go.Eng Go.Proofs Go.Srt
def cmpI (x y : Int) : Int := if x < y then -1 else if y < x then 1 else 0
def cmF (a b : FileM) : Int := if cmpI a.1 b.1 = 0 then cmpI a.2 b.2 else cmpI a.1 b.1
def ltF (a b : FileM) : Bool := decide (cmF a b < 0)
theorem ltF_iff (a b : FileM) : ltF a b = true ↔ a.1 < b.1 ∨ (a.1 = b.1 ∧ a.2 < b.2) := by
  unfold ltF cmF cmpI
  rw [decide_eq_true_iff]
  repeat' split
  all_goals omega
theorem ltF_false (a b : FileM) : ltF a b = false ↔ b.1 < a.1 ∨ (a.1 = b.1 ∧ b.2 ≤ a.2) := by
  have := ltF_iff a b
  cases h : ltF a b with
  | true => rw [h] at this; have := this.1 rfl; simp; omega
  | false => rw [h] at this; simp at this ⊢; omega
theorem ordF : Ord ltF := by
  constructor
  · intro x y h; rw [ltF_iff] at h; rw [ltF_false]; omega
  · intro x y z h1 h2; rw [ltF_false] at *; omega
theorem antiF (x y : FileM) (h1 : ltF x y = false) (h2 : ltF y x = false) : x = y := by
  rw [ltF_false] at h1 h2
  exact Prod.ext (by omega) (by omega)
/-- Files in order. -/
def sortF (l : List FileM) : List FileM := l.foldl (ins ltF) []
theorem sortF_go (l acc : List FileM) (h : Srt ltF acc) : Srt ltF (l.foldl (ins ltF) acc) ∧ (l.foldl (ins ltF) acc).Perm (acc ++ l) := by
  induction l generalizing acc with
  | nil => exact ⟨h, by simp⟩
  | cons x l ih =>
    obtain ⟨h1, h2⟩ := ih (ins ltF acc x) (ins_srt ordF h x)
    refine ⟨h1, h2.trans ?_⟩
    refine ((ins_perm (lt := ltF) acc x).append_right l).trans ?_
    rw [List.cons_append]
    exact List.perm_middle.symm
theorem sortF_srt (l : List FileM) : Srt ltF (sortF l) := (sortF_go l [] Srt.nil).1
theorem sortF_perm (l : List FileM) : (sortF l).Perm l := by have := (sortF_go l [] Srt.nil).2; rwa [List.nil_append] at this
theorem sortF_len (l : List FileM) : (sortF l).length = l.length := (sortF_perm l).length_eq
theorem sortF_eq {l m : List FileM} (h1 : m.Perm l) (h2 : Srt ltF m) : m = sortF l := srt_unique antiF h2 (sortF_srt l) (h1.trans (sortF_perm l).symm)
theorem sortF_congr {l m : List FileM} (h : m.Perm l) : sortF m = sortF l := sortF_eq ((sortF_perm m).trans h) (sortF_srt m)
theorem sortF_sortF (l : List FileM) : sortF (sortF l) = sortF l := sortF_congr (sortF_perm l)
theorem sortF_snoc (l : List FileM) (x : FileM) : sortF (l ++ [x]) = ins ltF (sortF l) x := by unfold sortF; rw [List.foldl_append]; rfl
def hasF (l : List FileM) (n : Int) : Bool := l.any fun f => f.2 == n
theorem hasF_perm {l m : List FileM} (h : l.Perm m) (n : Int) : hasF l n = hasF m n := by
  unfold hasF
  rw [Bool.eq_iff_iff, List.any_eq_true, List.any_eq_true]
  exact ⟨fun ⟨x, h1, h2⟩ => ⟨x, h.mem_iff.1 h1, h2⟩, fun ⟨x, h1, h2⟩ => ⟨x, h.mem_iff.2 h1, h2⟩⟩
structure VM where
  files : List FileM
  wal : Int
  next : Int
  seq : Int
structure EM where
  add : List FileM
  del : List Int
  wal : Int
  next : Int
  seq : Int
def okAdd (f : FileM) : Bool := !(decide (f.2 < 1) || decide (f.1 < 0) || decide (1 < f.1))
def okDel (n : Int) : Bool := !decide (n < 1)
def rightE (e : EM) : Bool := e.add.all okAdd && e.del.all okDel && decide (0 ≤ e.wal ∧ 0 ≤ e.next ∧ 0 ≤ e.seq)
def delOK (e : EM) (fs : List FileM) : Bool := e.del.all fun n => decide (e.del.count n = 1) && hasF fs n
def addAll (next : Int) : List FileM → List FileM → Option (List FileM)
  | fs, [] => some fs
  | fs, f :: r => if next ≤ f.2 ∨ hasF fs f.2 = true then none else addAll next (fs ++ [f]) r
def keepF (e : EM) (fs : List FileM) : List FileM := fs.filter fun f => !e.del.contains f.2
def startOK (v : VM) (e : EM) : Bool := rightE e && decide (v.next ≤ e.next) && decide (v.seq ≤ e.seq)
def applyM (v : VM) (e : EM) : Option VM :=
  if startOK v e && delOK e v.files then (addAll e.next (keepF e v.files) e.add).map fun fs => ⟨sortF fs, e.wal, e.next, e.seq⟩ else none
def applyAll : VM → List EM → Option VM
  | v, [] => some v
  | v, e :: r => match applyM v e with
    | none => none
    | some v' => applyAll v' r
def sortV (v : VM) : VM := { v with files := sortF v.files }
theorem addAll_perm (next : Int) : ∀ (r fs gs : List FileM), fs.Perm gs → (addAll next fs r = none ∧ addAll next gs r = none) ∨ ∃ a b, addAll next fs r = some a ∧ addAll next gs r = some b ∧ a.Perm b
  | [], fs, gs, h => .inr ⟨fs, gs, rfl, rfl, h⟩
  | f :: r, fs, gs, h => by
    unfold addAll
    rw [hasF_perm h]
    by_cases hc : next ≤ f.2 ∨ hasF gs f.2 = true
    · rw [if_pos hc, if_pos hc]; exact .inl ⟨rfl, rfl⟩
    · rw [if_neg hc, if_neg hc]
      exact addAll_perm next r _ _ (h.append_right [f])
theorem applyM_sort (v : VM) (e : EM) : applyM (sortV v) e = applyM v e := by
  unfold applyM
  have h1 : delOK e (sortV v).files = delOK e v.files := by
    unfold delOK
    simp only [sortV, hasF_perm (sortF_perm v.files)]
  have h2 : startOK (sortV v) e = startOK v e := rfl
  rw [h1, h2]
  split
  · have h3 : (keepF e (sortV v).files).Perm (keepF e v.files) := (sortF_perm v.files).filter _
    rcases addAll_perm e.next e.add _ _ h3 with ⟨e1, e2⟩ | ⟨a, b, e1, e2, hp⟩
    · rw [e1, e2]
    · rw [e1, e2]; simp only [Option.map_some]; rw [sortF_congr hp]
  · rfl
theorem addAll_len (next : Int) : ∀ (r fs a : List FileM), addAll next fs r = some a → a.length = fs.length + r.length
  | [], fs, a, h => by cases h; rfl
  | f :: r, fs, a, h => by
    unfold addAll at h
    split at h
    · cases h
    · have := addAll_len next r _ _ h
      rw [List.length_append, List.length_singleton] at this
      rw [List.length_cons]; omega
theorem applyM_len {v v' : VM} {e : EM} (h : applyM v e = some v') : v'.files.length ≤ v.files.length + e.add.length := by
  unfold applyM at h
  split at h
  · cases ha : addAll e.next (keepF e v.files) e.add with
    | none => rw [ha] at h; cases h
    | some a =>
      rw [ha] at h
      simp only [Option.map_some, Option.some.injEq] at h
      subst h
      have := addAll_len _ _ _ _ ha
      have h2 : (keepF e v.files).length ≤ v.files.length := List.length_filter_le _ _
      simp only [sortF_len]; omega
  · cases h
theorem applyM_sorted {v v' : VM} {e : EM} (h : applyM v e = some v') : sortV v' = v' := by
  unfold applyM at h
  split at h
  · cases ha : addAll e.next (keepF e v.files) e.add with
    | none => rw [ha] at h; cases h
    | some a =>
      rw [ha] at h
      simp only [Option.map_some, Option.some.injEq] at h
      subst h
      simp only [sortV, sortF_sortF]
  · cases h
/-- What a map of counts holds. -/
def Cnt (kvs : List (Int × Int)) (l : List Int) : Prop := ∀ n, (kget n kvs).getD 0 = (l.count n : Int)
theorem Cnt.nil : Cnt [] [] := fun _ => rfl
theorem Cnt.step {kvs : List (Int × Int)} {l : List Int} (h : Cnt kvs l) (n : Int) : Cnt (kput n ((kget n kvs).getD 0 + 1) kvs) (l ++ [n]) := by
  intro m
  rw [kget_kput, List.count_append]
  by_cases hm : n = m
  · subst hm
    rw [if_pos rfl, Option.getD_some, h n]
    simp
  · rw [if_neg (Ne.symm hm), h m, List.count_singleton]
    simp [hm]
theorem hasF_count (fs : List FileM) (n : Int) : ((fs.map (·.2)).count n = 0) ↔ hasF fs n = false := by
  rw [List.count_eq_zero]
  unfold hasF
  rw [List.any_eq_false]
  simp only [List.mem_map, not_exists, not_and, beq_iff_eq]
theorem delOK_of {e : EM} {fs : List FileM} (h1 : e.del.Nodup) (h2 : ∀ n ∈ e.del, hasF fs n = true) : delOK e fs = true := by
  unfold delOK
  rw [List.all_eq_true]
  intro n hn
  rw [Bool.and_eq_true, decide_eq_true_iff]
  exact ⟨by rw [h1.count, if_pos hn], h2 n hn⟩
theorem delOK_count {e : EM} {fs : List FileM} {n : Int} (hn : n ∈ e.del) (hc : 1 < e.del.count n) : delOK e fs = false := by
  unfold delOK
  rw [List.all_eq_false]
  exact ⟨n, hn, by simp; omega⟩
theorem delOK_has {e : EM} {fs : List FileM} {n : Int} (hn : n ∈ e.del) (hc : hasF fs n = false) : delOK e fs = false := by
  unfold delOK
  rw [List.all_eq_false]
  exact ⟨n, hn, by simp [hc]⟩
theorem count_take_le (l : List Int) (k : Nat) (n : Int) : (l.take k).count n ≤ l.count n := (List.take_sublist k l).count_le n
theorem nodup_snoc {l : List Int} {n : Int} (h : l.Nodup) (hc : (l ++ [n]).count n ≤ 1) : (l ++ [n]).Nodup := by
  rw [List.count_append, List.count_singleton] at hc
  simp only [beq_self_eq_true, if_true] at hc
  rw [List.nodup_append]
  refine ⟨h, by simp, fun a ha b hb => ?_⟩
  rw [List.mem_singleton] at hb
  subst hb
  intro hab
  subst hab
  have := List.count_pos_iff.2 ha
  omega
theorem keepF_snoc (e : EM) (l : List FileM) (f : FileM) : keepF e (l ++ [f]) = if e.del.count f.2 = 0 then keepF e l ++ [f] else keepF e l := by
  unfold keepF
  rw [List.filter_append]
  by_cases h : f.2 ∈ e.del
  · have : e.del.count f.2 ≠ 0 := by have := List.count_pos_iff.2 h; omega
    rw [if_neg this]; simp [h]
  · rw [if_pos (List.count_eq_zero.2 h)]; simp [h]
/-- Sums of what edits add. -/
def addLen (es : List EM) : Nat := (es.map fun e => e.add.length).sum
end Go.Proofs.YtkncpdehgcldbaaDoor
