/- Plain laws: what turns one list of records into another, by its members. -/
import Derived.Test.YtlghahalejgkfaaDoorDiffL
namespace Go.Proofs.YtlghahalejgkfaaDoor
open Go Go.Eng Go.Proofs
def LessO (o p : OpM) : Prop := Op.bytesLess o.1 p.1 = true
theorem LessO.irrefl (o : OpM) : ¬ LessO o o := fun h => by unfold LessO at h; rw [bless_irrefl] at h; cases h
theorem sorted_ext : ∀ {l m : List OpM}, l.Pairwise LessO → m.Pairwise LessO → (∀ o, o ∈ l ↔ o ∈ m) → l = m
  | [], [], _, _, _ => rfl
  | [], x :: m, _, _, h => by have := (h x).2 List.mem_cons_self; cases this
  | x :: l, [], _, _, h => by have := (h x).1 List.mem_cons_self; cases this
  | x :: l, y :: m, hl, hm, h => by
    rw [List.pairwise_cons] at hl hm
    have hxy : x = y := by
      rcases List.mem_cons.1 ((h x).1 List.mem_cons_self) with e | e
      · exact e
      · rcases List.mem_cons.1 ((h y).2 List.mem_cons_self) with e' | e'
        · exact e'.symm
        · exact absurd (bless_trans _ _ _ (hl.1 y e') (hm.1 x e)) (LessO.irrefl x)
    subst hxy
    congr 1
    refine sorted_ext hl.2 hm.2 fun o => ⟨fun ho => ?_, fun ho => ?_⟩
    · rcases List.mem_cons.1 ((h o).1 (List.mem_cons_of_mem _ ho)) with e | e
      · subst e; exact absurd (hl.1 o ho) (LessO.irrefl o)
      · exact e
    · rcases List.mem_cons.1 ((h o).2 (List.mem_cons_of_mem _ ho)) with e | e
      · subst e; exact absurd (hm.1 o ho) (LessO.irrefl o)
      · exact e
/-- What stands in the difference. -/
def InDiff (a b : List RecM) (o : OpM) : Prop := (∃ y ∈ b, y ∉ a ∧ o = rop y) ∨ (∃ x ∈ a, (∀ y ∈ b, ¬ y.1 = x.1) ∧ o = (x.1, true, []))
theorem less_ne {x y : RecM} (h : Op.bytesLess x.1 y.1 = true) : ¬ x.1 = y.1 := fun e => by rw [e, bless_irrefl] at h; cases h
theorem diffL_mem : ∀ {a b : List RecM}, a.Pairwise LessR → b.Pairwise LessR → ∀ o, o ∈ diffL a b ↔ InDiff a b o
  | [], [], _, _, o => by simp [diffL, InDiff]
  | x :: xs, [], ha, hb, o => by
    rw [List.pairwise_cons] at ha
    have ih := diffL_mem ha.2 hb o
    rw [diffL, List.mem_cons, ih]
    unfold InDiff
    simp
  | [], y :: ys, ha, hb, o => by
    rw [List.pairwise_cons] at hb
    have ih := diffL_mem ha hb.2 o
    rw [diffL, List.mem_cons, ih]
    unfold InDiff
    simp
  | x :: xs, y :: ys, ha, hb, o => by
    have ha' := List.pairwise_cons.1 ha
    have hb' := List.pairwise_cons.1 hb
    rw [diffL]
    split
    · next hlt =>
      -- x is taken out
      have ih := diffL_mem ha'.2 hb o
      rw [List.mem_cons, ih]
      have hxb : ∀ z ∈ y :: ys, ¬ z.1 = x.1 := by
        intro z hz e
        rcases List.mem_cons.1 hz with rfl | hz
        · rw [e, bless_irrefl] at hlt; cases hlt
        · have := bless_trans _ _ _ hlt (hb'.1 z hz)
          rw [e, bless_irrefl] at this; cases this
      unfold InDiff
      constructor
      · rintro (rfl | ⟨z, hz, hn, rfl⟩ | ⟨z, hz, hn, rfl⟩)
        · exact .inr ⟨x, List.mem_cons_self, hxb, rfl⟩
        · refine .inl ⟨z, hz, fun h => ?_, rfl⟩
          rcases List.mem_cons.1 h with rfl | h
          · exact hxb z hz rfl
          · exact hn h
        · exact .inr ⟨z, List.mem_cons_of_mem _ hz, hn, rfl⟩
      · rintro (⟨z, hz, hn, rfl⟩ | ⟨z, hz, hn, rfl⟩)
        · exact .inr (.inl ⟨z, hz, fun h => hn (List.mem_cons_of_mem _ h), rfl⟩)
        · rcases List.mem_cons.1 hz with rfl | hz
          · exact .inl rfl
          · exact .inr (.inr ⟨z, hz, hn, rfl⟩)
    · next hnlt =>
      split
      · next hgt =>
        have ih := diffL_mem ha hb'.2 o
        rw [List.mem_cons, ih]
        have hya : ∀ z ∈ x :: xs, ¬ y.1 = z.1 := by
          intro z hz e
          rcases List.mem_cons.1 hz with rfl | hz
          · rw [e, bless_irrefl] at hgt; cases hgt
          · have := bless_trans _ _ _ hgt (ha'.1 z hz)
            rw [e, bless_irrefl] at this; cases this
        unfold InDiff
        constructor
        · rintro (rfl | ⟨z, hz, hn, rfl⟩ | ⟨z, hz, hn, rfl⟩)
          · exact .inl ⟨y, List.mem_cons_self, fun h => hya y h rfl, rfl⟩
          · exact .inl ⟨z, List.mem_cons_of_mem _ hz, hn, rfl⟩
          · refine .inr ⟨z, hz, fun u hu => ?_, rfl⟩
            rcases List.mem_cons.1 hu with rfl | hu
            · exact hya z hz
            · exact hn u hu
        · rintro (⟨z, hz, hn, rfl⟩ | ⟨z, hz, hn, rfl⟩)
          · rcases List.mem_cons.1 hz with rfl | hz
            · exact .inl rfl
            · exact .inr (.inl ⟨z, hz, hn, rfl⟩)
          · exact .inr (.inr ⟨z, hz, fun u hu => hn u (List.mem_cons_of_mem _ hu), rfl⟩)
      · next hngt =>
        have hk : x.1 = y.1 := by
          rcases bless_tri x.1 y.1 with h | h | h
          · exact absurd h hnlt
          · exact h
          · exact absurd h hngt
        have ih := diffL_mem ha'.2 hb'.2 o
        have hxs : ∀ z ∈ xs, ¬ z.1 = y.1 := fun z hz e => by have := ha'.1 z hz; unfold LessR at this; rw [e, hk, bless_irrefl] at this; cases this
        have hys : ∀ z ∈ ys, ¬ z.1 = y.1 := fun z hz e => by have := hb'.1 z hz; unfold LessR at this; rw [e, bless_irrefl] at this; cases this
        have base : InDiff xs ys o ↔ ((∃ z ∈ ys, z ∉ x :: xs ∧ o = rop z) ∨ (∃ z ∈ x :: xs, (∀ u ∈ y :: ys, ¬ u.1 = z.1) ∧ o = (z.1, true, []))) := by
          unfold InDiff
          constructor
          · rintro (⟨z, hz, hn, rfl⟩ | ⟨z, hz, hn, rfl⟩)
            · refine .inl ⟨z, hz, fun h => ?_, rfl⟩
              rcases List.mem_cons.1 h with e | h
              · exact hys z hz (by rw [e]; exact hk)
              · exact hn h
            · refine .inr ⟨z, List.mem_cons_of_mem _ hz, fun u hu => ?_, rfl⟩
              rcases List.mem_cons.1 hu with rfl | hu
              · exact fun e => hxs z hz e.symm
              · exact hn u hu
          · rintro (⟨z, hz, hn, rfl⟩ | ⟨z, hz, hn, rfl⟩)
            · exact .inl ⟨z, hz, fun h => hn (List.mem_cons_of_mem _ h), rfl⟩
            · rcases List.mem_cons.1 hz with rfl | hz
              · exact absurd hk.symm (hn y List.mem_cons_self)
              · exact .inr ⟨z, hz, fun u hu => hn u (List.mem_cons_of_mem _ hu), rfl⟩
        split
        · next he =>
          subst he
          rw [ih, base]
          unfold InDiff
          constructor
          · rintro (⟨z, hz, hn, rfl⟩ | h)
            · exact .inl ⟨z, List.mem_cons_of_mem _ hz, hn, rfl⟩
            · exact .inr h
          · rintro (⟨z, hz, hn, rfl⟩ | h)
            · rcases List.mem_cons.1 hz with rfl | hz
              · exact absurd List.mem_cons_self hn
              · exact .inl ⟨z, hz, hn, rfl⟩
            · exact .inr h
        · next hne =>
          rw [List.mem_cons, ih, base]
          have hya : y ∉ x :: xs := fun h => by
            rcases List.mem_cons.1 h with e | h
            · exact hne e.symm
            · exact hxs y h rfl
          unfold InDiff
          constructor
          · rintro (rfl | ⟨z, hz, hn, rfl⟩ | h)
            · exact .inl ⟨y, List.mem_cons_self, hya, rfl⟩
            · exact .inl ⟨z, List.mem_cons_of_mem _ hz, hn, rfl⟩
            · exact .inr h
          · rintro (⟨z, hz, hn, rfl⟩ | h)
            · rcases List.mem_cons.1 hz with rfl | hz
              · exact .inl rfl
              · exact .inr (.inl ⟨z, hz, hn, rfl⟩)
            · exact .inr (.inr h)
termination_by a b => a.length + b.length
theorem diff_key {a b : List RecM} {o : OpM} (h : InDiff a b o) : (∃ x ∈ a, o.1 = x.1) ∨ ∃ y ∈ b, o.1 = y.1 := by
  rcases h with ⟨y, hy, -, rfl⟩ | ⟨x, hx, -, rfl⟩
  · exact .inr ⟨y, hy, rfl⟩
  · exact .inl ⟨x, hx, rfl⟩
theorem diffL_sorted : ∀ {a b : List RecM}, a.Pairwise LessR → b.Pairwise LessR → (diffL a b).Pairwise LessO
  | [], [], _, _ => by simp [diffL]
  | x :: xs, [], ha, hb => by
    have ha' := List.pairwise_cons.1 ha
    rw [diffL, List.pairwise_cons]
    refine ⟨fun o ho => ?_, diffL_sorted ha'.2 hb⟩
    rcases diff_key ((diffL_mem ha'.2 hb o).1 ho) with ⟨z, hz, e⟩ | ⟨z, hz, e⟩
    · show Op.bytesLess x.1 o.1 = true; rw [e]; exact ha'.1 z hz
    · cases hz
  | [], y :: ys, ha, hb => by
    have hb' := List.pairwise_cons.1 hb
    rw [diffL, List.pairwise_cons]
    refine ⟨fun o ho => ?_, diffL_sorted ha hb'.2⟩
    rcases diff_key ((diffL_mem ha hb'.2 o).1 ho) with ⟨z, hz, e⟩ | ⟨z, hz, e⟩
    · cases hz
    · show Op.bytesLess y.1 o.1 = true; rw [e]; exact hb'.1 z hz
  | x :: xs, y :: ys, ha, hb => by
    have ha' := List.pairwise_cons.1 ha
    have hb' := List.pairwise_cons.1 hb
    rw [diffL]
    split
    · next hlt =>
      rw [List.pairwise_cons]
      refine ⟨fun o ho => ?_, diffL_sorted ha'.2 hb⟩
      show Op.bytesLess x.1 o.1 = true
      rcases diff_key ((diffL_mem ha'.2 hb o).1 ho) with ⟨z, hz, e⟩ | ⟨z, hz, e⟩
      · rw [e]; exact ha'.1 z hz
      · rw [e]
        rcases List.mem_cons.1 hz with rfl | hz
        · exact hlt
        · exact bless_trans _ _ _ hlt (hb'.1 z hz)
    · next hnlt =>
      split
      · next hgt =>
        rw [List.pairwise_cons]
        refine ⟨fun o ho => ?_, diffL_sorted ha hb'.2⟩
        show Op.bytesLess y.1 o.1 = true
        rcases diff_key ((diffL_mem ha hb'.2 o).1 ho) with ⟨z, hz, e⟩ | ⟨z, hz, e⟩
        · rw [e]
          rcases List.mem_cons.1 hz with rfl | hz
          · exact hgt
          · exact bless_trans _ _ _ hgt (ha'.1 z hz)
        · rw [e]; exact hb'.1 z hz
      · next hngt =>
        have hk : x.1 = y.1 := by
          rcases bless_tri x.1 y.1 with h | h | h
          · exact absurd h hnlt
          · exact h
          · exact absurd h hngt
        split
        · exact diffL_sorted ha'.2 hb'.2
        · rw [List.pairwise_cons]
          refine ⟨fun o ho => ?_, diffL_sorted ha'.2 hb'.2⟩
          show Op.bytesLess y.1 o.1 = true
          rcases diff_key ((diffL_mem ha'.2 hb'.2 o).1 ho) with ⟨z, hz, e⟩ | ⟨z, hz, e⟩
          · rw [e, ← hk]; exact ha'.1 z hz
          · rw [e]; exact hb'.1 z hz
termination_by a b => a.length + b.length
/-- An operation put into its place. -/
def lowO (l : List OpM) (k : Bytes) : List OpM := l.takeWhile fun r => !Op.bytesLess k r.1
def highO (l : List OpM) (k : Bytes) : List OpM := l.dropWhile fun r => !Op.bytesLess k r.1
def insO (l : List OpM) (o : OpM) : List OpM := lowO l o.1 ++ [o] ++ highO l o.1
theorem low_high (l : List OpM) (k : Bytes) : lowO l k ++ highO l k = l := List.takeWhile_append_dropWhile
theorem low_le (l : List OpM) (k : Bytes) : ∀ r ∈ lowO l k, Op.bytesLess k r.1 = false := fun r hr => by
  have := List.all_eq_true.1 (List.all_takeWhile (p := fun r : OpM => !Op.bytesLess k r.1) (l := l)) r hr
  simpa using this
theorem high_gt {l : List OpM} (hl : l.Pairwise LessO) (k : Bytes) : ∀ r ∈ highO l k, Op.bytesLess k r.1 = true := by
  induction l with
  | nil => intro r h; cases h
  | cons x l ih =>
    rw [List.pairwise_cons] at hl
    unfold highO at ih ⊢
    rw [List.dropWhile_cons]
    cases hx : Op.bytesLess k x.1 with
    | false => simpa using ih hl.2
    | true =>
      simp only [Bool.not_true, Bool.false_eq_true, if_false]
      intro r hr
      rcases List.mem_cons.1 hr with rfl | hr
      · exact hx
      · exact bless_trans _ _ _ hx (hl.1 r hr)
theorem ins_mem (l : List OpM) (o p : OpM) : p ∈ insO l o ↔ p = o ∨ p ∈ l := by
  have h : p ∈ l ↔ p ∈ lowO l o.1 ∨ p ∈ highO l o.1 := by rw [← List.mem_append, low_high]
  unfold insO
  rw [List.mem_append, List.mem_append, List.mem_singleton, h]
  constructor
  · rintro ((h | h) | h)
    · exact .inr (.inl h)
    · exact .inl h
    · exact .inr (.inr h)
  · rintro (h | h | h)
    · exact .inl (.inr h)
    · exact .inl (.inl h)
    · exact .inr h
theorem ins_len (l : List OpM) (o : OpM) : (insO l o).length = l.length + 1 := by
  have h1 := congrArg List.length (low_high l o.1)
  unfold insO
  simp only [List.length_append, List.length_singleton] at h1 ⊢; omega
theorem ins_sorted {l : List OpM} (hl : l.Pairwise LessO) (o : OpM) (hk : ∀ p ∈ l, ¬ p.1 = o.1) : (insO l o).Pairwise LessO := by
  have hb := low_high l o.1
  have hlt := low_le l o.1
  have hge := high_gt hl o.1
  rw [← hb] at hl hk
  unfold insO
  generalize lowO l o.1 = p at *
  generalize highO l o.1 = q at *
  rw [List.pairwise_append] at hl
  obtain ⟨hp, hq, hpq⟩ := hl
  have hpo : ∀ r ∈ p, LessO r o := fun r hr => by
    rcases bless_tri r.1 o.1 with h | h | h
    · exact h
    · exact absurd h (hk r (List.mem_append_left _ hr))
    · rw [hlt r hr] at h; cases h
  rw [List.pairwise_append, List.pairwise_append]
  refine ⟨⟨hp, List.pairwise_singleton _ _, fun r hr s hs => by rw [List.mem_singleton] at hs; subst hs; exact hpo r hr⟩, hq, fun r hr s hs => ?_⟩
  rcases List.mem_append.1 hr with hr | hr
  · exact hpq r hr s hs
  · rw [List.mem_singleton] at hr; subst hr; exact hge s hs
end Go.Proofs.YtlghahalejgkfaaDoor
