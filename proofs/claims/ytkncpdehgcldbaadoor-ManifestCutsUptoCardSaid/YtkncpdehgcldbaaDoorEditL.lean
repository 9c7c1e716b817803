/- Plain: edits and their bytes. -/
import Derived.Test.YtkncpdehgcldbaaDoorWholeL
import Derived.Test.YtkncpdehgcldbaaDoorReadN
namespace Go.Proofs.YtkncpdehgcldbaaDoor
open Go Go.Eng Go.Proofs Go.Srt
def fileB (f : FileM) : Bytes := intB f.1 ++ intB f.2
def filesB (l : List FileM) : Bytes := (l.map fileB).flatten
def editB (e : EM) : Bytes := numB e.add.length ++ filesB e.add ++ numB e.del.length ++ intsB e.del ++ intB e.wal ++ intB e.next ++ intB e.seq
/-- Each number of the edit is an int. -/
structure OkE (e : EM) : Prop where
  add : ∀ f ∈ e.add, i64ok f.1 ∧ i64ok f.2
  del : ∀ n ∈ e.del, i64ok n
  wal : i64ok e.wal
  next : i64ok e.next
  seq : i64ok e.seq
theorem zig_ok {z : Int} (h : i64ok z) : zig z < 18446744073709551616 := by
  unfold i64ok at h; unfold zig; split <;> omega
theorem ok_zig {z : Int} (h : zig z < 18446744073709551616) : i64ok z := by
  unfold zig at h; unfold i64ok; split at h <;> omega
theorem numO_app (m : Nat) (r : Bytes) (h : m < 18446744073709551616) : numO (numB m ++ r) = (m, 0, r) := by
  unfold numO; rw [(numR_iff _ m r).2 ⟨rfl, h⟩]
theorem intO_app (z : Int) (r : Bytes) (h : i64ok z) : intO (intB z ++ r) = (z, 0, r) := by
  unfold intO intB
  rw [numO_app _ _ (zig_ok h), unzig_zig]
theorem numO_ok {t : Bytes} (h : (numO t).2.1 = 0) : t = numB (numO t).1 ++ (numO t).2.2 := by
  unfold numO at h ⊢
  cases e : numR t with
  | none => rw [e] at h; cases h
  | some x => obtain ⟨m, r⟩ := x; exact ((numR_iff t m r).1 e).1
theorem numO_err (t : Bytes) : (numO t).2.1 = 0 ∨ (numO t).2.1 = 1 := by
  unfold numO
  cases numR t with
  | none => exact .inr rfl
  | some x => exact .inl rfl
theorem intO_ok {t : Bytes} (h : (intO t).2.1 = 0) : t = intB (intO t).1 ++ (intO t).2.2 ∧ i64ok (intO t).1 := by
  have h1 := numO_ok h
  have h2 := numO_lt t
  unfold intO intB
  simp only
  rw [zig_unzig]
  exact ⟨h1, ok_zig (by rw [zig_unzig]; exact h2)⟩
theorem intO_err (t : Bytes) : (intO t).2.1 = 0 ∨ (intO t).2.1 = 1 := numO_err t
theorem intO_len (t : Bytes) : (intO t).2.2.length ≤ t.length := numO_len t
theorem intO_len' {t : Bytes} (h : (intO t).2.1 = 0) : (intO t).2.2.length + 1 ≤ t.length := by
  have h1 := congrArg List.length (intO_ok h).1
  have h2 := numB_pos (zig (intO t).1)
  rw [List.length_append] at h1
  unfold intB at h1; omega
/-- What a reader of edits knows: what is left, whether it failed. -/
structure RB where
  t : Bytes
  bad : Bool
def rbInt (s : RB) : Int × RB := ((intO s.t).1, ⟨(intO s.t).2.2, s.bad || decide ((intO s.t).2.1 ≠ 0)⟩)
def rbNum (s : RB) : Nat × RB := ((numO s.t).1, ⟨(numO s.t).2.2, s.bad || decide ((numO s.t).2.1 ≠ 0)⟩)
def rdF : Nat → RB × List FileM → RB × List FileM
  | 0, x => x
  | n + 1, (s, l) => if s.bad = true then (s, l) else rdF n ((rbInt (rbInt s).2).2, l ++ [((rbInt s).1, (rbInt (rbInt s).2).1)])
def rdI : Nat → RB × List Int → RB × List Int
  | 0, x => x
  | n + 1, (s, l) => if s.bad = true then (s, l) else rdI n ((rbInt s).2, l ++ [(rbInt s).1])
theorem rbInt_good {s : RB} (h : (rbInt s).2.bad = false) : s.bad = false ∧ s.t = intB (rbInt s).1 ++ (rbInt s).2.t ∧ i64ok (rbInt s).1 := by
  unfold rbInt at h ⊢
  simp only [Bool.or_eq_false_iff, decide_eq_false_iff_not, Decidable.not_not] at h
  exact ⟨h.1, (intO_ok h.2).1, (intO_ok h.2).2⟩
theorem rbNum_good {s : RB} (h : (rbNum s).2.bad = false) : s.bad = false ∧ s.t = numB (rbNum s).1 ++ (rbNum s).2.t := by
  unfold rbNum at h ⊢
  simp only [Bool.or_eq_false_iff, decide_eq_false_iff_not, Decidable.not_not] at h
  exact ⟨h.1, numO_ok h.2⟩
theorem rbInt_app (z : Int) (r : Bytes) (h : i64ok z) : rbInt ⟨intB z ++ r, false⟩ = (z, ⟨r, false⟩) := by
  unfold rbInt; simp only [intO_app z r h]; rfl
theorem rbNum_app (m : Nat) (r : Bytes) (h : m < 18446744073709551616) : rbNum ⟨numB m ++ r, false⟩ = (m, ⟨r, false⟩) := by
  unfold rbNum; simp only [numO_app m r h]; rfl
theorem rdF_bad : ∀ (n : Nat) (s : RB) (l : List FileM), (rdF n (s, l)).1.bad = false → s.bad = false
  | 0, s, l, h => h
  | n + 1, s, l, h => by
    cases hb : s.bad with
    | false => rfl
    | true => unfold rdF at h; rw [if_pos hb] at h; rw [hb] at h; exact h
theorem rdF_good : ∀ (n : Nat) (s : RB) (l : List FileM), (rdF n (s, l)).1.bad = false → ∃ m, m.length = n ∧ (rdF n (s, l)).2 = l ++ m ∧ s.t = filesB m ++ (rdF n (s, l)).1.t ∧ ∀ f ∈ m, i64ok f.1 ∧ i64ok f.2
  | 0, s, l, h => ⟨[], rfl, (List.append_nil l).symm, rfl, by simp⟩
  | n + 1, s, l, h => by
    have hb := rdF_bad (n + 1) s l h
    unfold rdF at h ⊢
    rw [if_neg (by rw [hb]; nofun)] at h ⊢
    obtain ⟨m, h1, h2, h3, h4⟩ := rdF_good n _ _ h
    have hb2 := rdF_bad n _ _ h
    obtain ⟨hb3, e2, r2⟩ := rbInt_good hb2
    obtain ⟨-, e1, r1⟩ := rbInt_good hb3
    refine ⟨((rbInt s).1, (rbInt (rbInt s).2).1) :: m, by simp [h1], by rw [h2]; simp, ?_, ?_⟩
    · rw [e1]
      conv => lhs; rw [e2]
      rw [h3]
      simp only [filesB, fileB, List.map_cons, List.flatten_cons, List.append_assoc]
    · intro f hf
      rcases List.mem_cons.1 hf with rfl | hf
      · exact ⟨r1, r2⟩
      · exact h4 f hf
theorem rdF_app : ∀ (m : List FileM) (r : Bytes) (l : List FileM), (∀ f ∈ m, i64ok f.1 ∧ i64ok f.2) → rdF m.length (⟨filesB m ++ r, false⟩, l) = (⟨r, false⟩, l ++ m)
  | [], r, l, _ => by simp [rdF, filesB]
  | f :: m, r, l, h => by
    have hf := h f (by simp)
    rw [List.length_cons]
    unfold rdF
    rw [if_neg nofun]
    have e : filesB (f :: m) ++ r = intB f.1 ++ (intB f.2 ++ (filesB m ++ r)) := by simp [filesB, fileB]
    rw [e]
    simp only [rbInt_app _ _ hf.1, rbInt_app _ _ hf.2]
    rw [rdF_app m r _ fun g hg => h g (by simp [hg])]
    simp
theorem rdI_bad : ∀ (n : Nat) (s : RB) (l : List Int), (rdI n (s, l)).1.bad = false → s.bad = false
  | 0, s, l, h => h
  | n + 1, s, l, h => by
    cases hb : s.bad with
    | false => rfl
    | true => unfold rdI at h; rw [if_pos hb] at h; rw [hb] at h; exact h
theorem rdI_good : ∀ (n : Nat) (s : RB) (l : List Int), (rdI n (s, l)).1.bad = false → ∃ m, m.length = n ∧ (rdI n (s, l)).2 = l ++ m ∧ s.t = intsB m ++ (rdI n (s, l)).1.t ∧ ∀ z ∈ m, i64ok z
  | 0, s, l, h => ⟨[], rfl, (List.append_nil l).symm, rfl, by simp⟩
  | n + 1, s, l, h => by
    have hb := rdI_bad (n + 1) s l h
    unfold rdI at h ⊢
    rw [if_neg (by rw [hb]; nofun)] at h ⊢
    obtain ⟨m, h1, h2, h3, h4⟩ := rdI_good n _ _ h
    have hb2 := rdI_bad n _ _ h
    obtain ⟨-, e1, r1⟩ := rbInt_good hb2
    refine ⟨(rbInt s).1 :: m, by simp [h1], by rw [h2]; simp, ?_, ?_⟩
    · conv => lhs; rw [e1]
      rw [h3]
      simp only [intsB, List.map_cons, List.flatten_cons, List.append_assoc]
    · intro f hf
      rcases List.mem_cons.1 hf with rfl | hf
      · exact r1
      · exact h4 f hf
theorem rdI_app : ∀ (m : List Int) (r : Bytes) (l : List Int), (∀ z ∈ m, i64ok z) → rdI m.length (⟨intsB m ++ r, false⟩, l) = (⟨r, false⟩, l ++ m)
  | [], r, l, _ => by simp [rdI, intsB]
  | f :: m, r, l, h => by
    have hf := h f (by simp)
    rw [List.length_cons]
    unfold rdI
    rw [if_neg nofun]
    have e : intsB (f :: m) ++ r = intB f ++ (intsB m ++ r) := by simp [intsB]
    rw [e]
    simp only [rbInt_app _ _ hf]
    rw [rdI_app m r _ fun g hg => h g (by simp [hg])]
    simp
/-- What is read of a text, whether it is right or not. -/
def readE (t : Bytes) : RB × EM :=
  match rbNum ⟨t, false⟩ with
  | (n, s1) => match rdF n (s1, []) with
    | (s2, add) => match rbNum s2 with
      | (k, s3) => match rdI k (s3, []) with
        | (s4, del) => ((rbInt (rbInt (rbInt s4).2).2).2, ⟨add, del, (rbInt s4).1, (rbInt (rbInt s4).2).1, (rbInt (rbInt (rbInt s4).2).2).1⟩)
def decodeM (t : Bytes) : Option EM := if (readE t).1.bad = false ∧ (readE t).1.t = [] ∧ rightE (readE t).2 = true then some (readE t).2 else none
theorem readE_good {t : Bytes} (h : (readE t).1.bad = false) : OkE (readE t).2 ∧ t = editB (readE t).2 ++ (readE t).1.t := by
  unfold readE at h ⊢
  simp only at h ⊢
  obtain ⟨h1, e1, r1⟩ := rbInt_good h
  obtain ⟨h2, e2, r2⟩ := rbInt_good h1
  obtain ⟨h3, e3, r3⟩ := rbInt_good h2
  obtain ⟨ds, l4, q4, e4, r4⟩ := rdI_good _ _ _ h3
  have h5 := rdI_bad _ _ _ h3
  obtain ⟨h6, e5⟩ := rbNum_good h5
  obtain ⟨fs7, l7, q7, e7, r7⟩ := rdF_good _ _ _ h6
  have h8 := rdF_bad _ _ _ h6
  obtain ⟨-, e9⟩ := rbNum_good h8
  rw [List.nil_append] at q4 q7
  refine ⟨⟨by rw [q7]; exact r7, by rw [q4]; exact r4, r3, r2, r1⟩, ?_⟩
  unfold editB
  simp only
  rw [q4, q7, l4, l7]
  have e9' : t = _ := e9
  conv => lhs; rw [e9']
  simp only [List.append_assoc]
  congr 1
  rw [e7]
  congr 1
  rw [e5]
  congr 1
  rw [e4]
  congr 1
  rw [e3]
  congr 1
  rw [e2]
  congr 1
theorem readE_app {e : EM} (h : OkE e) (hl : e.add.length < 18446744073709551616) (hk : e.del.length < 18446744073709551616) : readE (editB e) = (⟨[], false⟩, e) := by
  unfold readE editB
  have s1 : numB e.add.length ++ filesB e.add ++ numB e.del.length ++ intsB e.del ++ intB e.wal ++ intB e.next ++ intB e.seq = numB e.add.length ++ (filesB e.add ++ (numB e.del.length ++ (intsB e.del ++ (intB e.wal ++ (intB e.next ++ (intB e.seq ++ [])))))) := by simp
  rw [s1]
  simp only [rbNum_app _ _ hl, rdF_app _ _ _ h.add, rbNum_app _ _ hk, rdI_app _ _ _ h.del, rbInt_app _ _ h.wal, rbInt_app _ _ h.next, rbInt_app _ _ h.seq, List.nil_append]
theorem decodeM_iff {t : Bytes} {e : EM} (ht : t.length < 18446744073709551616) : decodeM t = some e ↔ t = editB e ∧ OkE e ∧ rightE e = true := by
  constructor
  · intro h
    unfold decodeM at h
    split at h
    · next hc =>
      obtain ⟨h1, h2, h3⟩ := hc
      obtain ⟨h4, h5⟩ := readE_good h1
      rw [h2, List.append_nil] at h5
      simp only [Option.some.injEq] at h
      rw [h] at h3 h4 h5
      exact ⟨h5, h4, h3⟩
    · cases h
  · rintro ⟨rfl, h1, h2⟩
    have hfl : ∀ l : List FileM, l.length ≤ (filesB l).length := by
      intro l
      induction l with
      | nil => exact Nat.zero_le _
      | cons f l ih =>
        have := numB_pos (zig f.1)
        simp only [filesB, fileB, List.map_cons, List.flatten_cons, List.length_append, List.length_cons, intB] at ih ⊢
        omega
    have hil : ∀ l : List Int, l.length ≤ (intsB l).length := by
      intro l
      induction l with
      | nil => exact Nat.zero_le _
      | cons f l ih =>
        have := numB_pos (zig f)
        simp only [intsB, List.map_cons, List.flatten_cons, List.length_append, List.length_cons, intB] at ih ⊢
        omega
    have a1 := hfl e.add
    have a2 := hil e.del
    have hel : (editB e).length = (numB e.add.length).length + (filesB e.add).length + (numB e.del.length).length + (intsB e.del).length + (intB e.wal).length + (intB e.next).length + (intB e.seq).length := by
      unfold editB; simp only [List.length_append]
    have := readE_app h1 (by omega) (by omega)
    unfold decodeM
    rw [this]
    simp [h2]
end Go.Proofs.YtkncpdehgcldbaaDoor
