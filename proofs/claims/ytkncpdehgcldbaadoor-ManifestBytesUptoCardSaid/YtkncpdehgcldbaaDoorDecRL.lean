/- Plain: reading an edit as the document does. -/
import Derived.Test.YtkncpdehgcldbaaDoorDecM11
namespace Go.Proofs.YtkncpdehgcldbaaDoor
open Go Go.Eng Go.Proofs Go.Srt
def iv (t : Bytes) : Int := (intO t).1
def ie (t : Bytes) : Bool := decide ((intO t).2.1 ≠ 0)
def ir (t : Bytes) : Bytes := (intO t).2.2
def nv (t : Bytes) : Nat := (numO t).1
def ne11 (t : Bytes) : Bool := decide ((numO t).2.1 ≠ 0)
def nr (t : Bytes) : Bytes := (numO t).2.2
def errN (b : Bool) : Int := if b = true then 1 else 0
theorem errN_int (t : Bytes) : (intO t).2.1 = errN (ie t) := by
  unfold ie errN
  rcases intO_err t with h | h <;> rw [h] <;> simp
theorem errN_num (t : Bytes) : (numO t).2.1 = errN (ne11 t) := by
  unfold ne11 errN
  rcases numO_err t with h | h <;> rw [h] <;> simp
theorem errN_or (a b : Bool) : mxI (errN a) (errN b) = errN (a || b) := by cases a <;> cases b <;> rfl
theorem iv_ok (t : Bytes) : i64ok (iv t) := rbInt_ok ⟨t, false⟩
theorem rbInt_raw (t : Bytes) (b : Bool) : rbInt ⟨t, b⟩ = (iv t, ⟨ir t, b || ie t⟩) := rfl
theorem rbNum_raw (t : Bytes) (b : Bool) : rbNum ⟨t, b⟩ = (nv t, ⟨nr t, b || ne11 t⟩) := rfl
theorem secF_raw (t : Bytes) : secF ⟨t, false⟩ = ((iv t, iv (ir t)), ⟨ir (ir t), ie t || ie (ir t)⟩) := by
  unfold secF; simp only [rbInt_raw, Bool.false_or]
theorem rdF_okall : ∀ (n : Nat) (s : RB) (l : List FileM), (∀ f ∈ l, i64ok f.1 ∧ i64ok f.2) → ∀ f ∈ (rdF n (s, l)).2, i64ok f.1 ∧ i64ok f.2
  | 0, s, l, h => h
  | n + 1, s, l, h => by
    cases hb : s.bad with
    | true => rw [rdF_stop _ _ _ hb]; exact h
    | false =>
      rw [rdF_step _ _ _ hb]
      refine rdF_okall n _ _ fun f hf => ?_
      rcases List.mem_append.1 hf with hf | hf
      · exact h f hf
      · rw [List.mem_singleton] at hf; subst hf; exact ⟨rbInt_ok _, rbInt_ok _⟩
theorem rdI_okall : ∀ (n : Nat) (s : RB) (l : List Int), (∀ z ∈ l, i64ok z) → ∀ z ∈ (rdI n (s, l)).2, i64ok z
  | 0, s, l, h => h
  | n + 1, s, l, h => by
    cases hb : s.bad with
    | true => rw [rdI_stop _ _ _ hb]; exact h
    | false =>
      rw [rdI_step _ _ _ hb]
      refine rdI_okall n _ _ fun f hf => ?_
      rcases List.mem_append.1 hf with hf | hf
      · exact h f hf
      · rw [List.mem_singleton] at hf; subst hf; exact rbInt_ok _
/-- The document's reading, its errors apart. -/
structure RefRead (t : Bytes) (s1 s2 : RB) (l1 : List FileM) (l2 : List Int) : Prop where
  h1 : rdF (nv t) (⟨nr t, ne11 t⟩, []) = (s1, l1)
  h2 : rdI (nv s1.t) (⟨nr s1.t, ne11 s1.t⟩, []) = (s2, l2)
def refE (s2 : RB) (l1 : List FileM) (l2 : List Int) : EM := ⟨l1, l2, iv s2.t, iv (ir s2.t), iv (ir (ir s2.t))⟩
def refBad (s1 s2 : RB) : Bool := s1.bad || s2.bad || ie s2.t || ie (ir s2.t) || ie (ir (ir s2.t))
theorem RefRead.good {t : Bytes} {s1 s2 : RB} {l1 : List FileM} {l2 : List Int} (h : RefRead t s1 s2 l1 l2) (hb : refBad s1 s2 = false) : readE t = (⟨ir (ir (ir s2.t)), false⟩, refE s2 l1 l2) := by
  unfold refBad at hb
  simp only [Bool.or_eq_false_iff] at hb
  obtain ⟨⟨⟨⟨e1, e2⟩, e3⟩, e4⟩, e5⟩ := hb
  obtain ⟨t1, b1⟩ := s1
  obtain ⟨t2, b2⟩ := s2
  simp only at e1 e2 e3 e4 e5
  subst e1 e2
  unfold readE
  simp only [rbNum_raw, Bool.false_or, h.h1]
  have h2 := h.h2
  simp only at h2
  simp only [h2, rbInt_raw, Bool.false_or, e3, e4, e5]
  rfl
theorem RefRead.back {t : Bytes} {s1 s2 : RB} {l1 : List FileM} {l2 : List Int} (h : RefRead t s1 s2 l1 l2) (hb : (readE t).1.bad = false) : refBad s1 s2 = false := by
  unfold readE at hb
  simp only [rbNum_raw, Bool.false_or, h.h1] at hb
  obtain ⟨g1, -, -⟩ := rbInt_good hb
  obtain ⟨g2, -, -⟩ := rbInt_good g1
  obtain ⟨g3, -, -⟩ := rbInt_good g2
  have g4 := rdI_bad _ _ _ g3
  have g5 := (rbNum_good (s := s1) g4).1
  obtain ⟨t1, b1⟩ := s1
  simp only at g5
  subst g5
  have h2 := h.h2
  simp only at h2
  simp only [rbNum_raw, Bool.false_or, h2] at hb g1 g2 g3
  obtain ⟨t2, b2⟩ := s2
  simp only at g3
  subst g3
  simp only [rbInt_raw, Bool.false_or, Bool.or_eq_false_iff] at hb g1 g2
  unfold refBad
  simp only [Bool.or_eq_false_iff]
  exact ⟨⟨⟨⟨trivial, trivial⟩, hb.1.1⟩, hb.1.2⟩, hb.2⟩
theorem RefRead.ok {t : Bytes} {s1 s2 : RB} {l1 : List FileM} {l2 : List Int} (h : RefRead t s1 s2 l1 l2) : OkE (refE s2 l1 l2) := by
  refine ⟨?_, ?_, iv_ok _, iv_ok _, iv_ok _⟩
  · have := rdF_okall (nv t) ⟨nr t, ne11 t⟩ [] (by simp)
    rw [h.h1] at this; exact this
  · have := rdI_okall (nv s1.t) ⟨nr s1.t, ne11 s1.t⟩ [] (by simp)
    rw [h.h2] at this; exact this
theorem RefRead.law {t : Bytes} {s1 s2 : RB} {l1 : List FileM} {l2 : List Int} (h : RefRead t s1 s2 l1 l2) (ht : t.length < 18446744073709551616) :
    decodeM t = if refBad s1 s2 = false ∧ rightE (refE s2 l1 l2) = true ∧ editB (refE s2 l1 l2) = t then some (refE s2 l1 l2) else none := by
  split
  · next hc => exact (decodeM_iff ht).2 ⟨hc.2.2.symm, h.ok, hc.2.1⟩
  · next hc =>
    cases hd : decodeM t with
    | none => rfl
    | some e =>
      exfalso
      apply hc
      have hd' := hd
      unfold decodeM at hd'
      split at hd'
      · next hg =>
        have hb := h.back hg.1
        have hr := h.good hb
        rw [hr] at hd'
        simp only [Option.some.injEq] at hd'
        obtain ⟨a1, a2, a3⟩ := (decodeM_iff ht).1 hd
        rw [hd']
        exact ⟨hb, a3, a1.symm⟩
      · cases hd'
end Go.Proofs.YtkncpdehgcldbaaDoor
