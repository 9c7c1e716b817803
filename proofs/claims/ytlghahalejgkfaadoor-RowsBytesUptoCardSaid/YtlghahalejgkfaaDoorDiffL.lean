/- Plain laws: keys in order, what turns one list of records into another, and doing it. -/
import Derived.Test.YtlghahalejgkfaaDoorApart
namespace Go.Proofs.YtlghahalejgkfaaDoor
open Go Go.Eng Go.Proofs
theorem bless_cons (x y : UInt8) (xs ys : Bytes) : Op.bytesLess (x :: xs) (y :: ys) = (decide (x.toNat < y.toNat) || (decide (x.toNat = y.toNat) && Op.bytesLess xs ys)) := less_cons x y xs ys
theorem bless_irrefl : ∀ x : Bytes, Op.bytesLess x x = false
  | [] => rfl
  | c :: x => by rw [bless_cons, bless_irrefl x]; simp
theorem bless_nil (x : Bytes) : Op.bytesLess x [] = false := by cases x <;> rfl
theorem bless_trans : ∀ x y z : Bytes, Op.bytesLess x y = true → Op.bytesLess y z = true → Op.bytesLess x z = true
  | _, [], _, h, _ => by rw [bless_nil] at h; cases h
  | _, _ :: _, [], _, h => by rw [bless_nil] at h; cases h
  | [], _ :: _, _ :: _, _, _ => rfl
  | a :: x, b :: y, c :: z, h1, h2 => by
    rw [bless_cons] at h1 h2 ⊢
    simp only [Bool.or_eq_true, Bool.and_eq_true, decide_eq_true_eq] at h1 h2 ⊢
    rcases h1 with h1 | ⟨h1, h1'⟩
    · rcases h2 with h2 | ⟨h2, -⟩
      · exact .inl (Nat.lt_trans h1 h2)
      · exact .inl (h2 ▸ h1)
    · rcases h2 with h2 | ⟨h2, h2'⟩
      · exact .inl (h1 ▸ h2)
      · exact .inr ⟨h1.trans h2, bless_trans x y z h1' h2'⟩
theorem bless_tri : ∀ x y : Bytes, Op.bytesLess x y = true ∨ x = y ∨ Op.bytesLess y x = true
  | [], [] => .inr (.inl rfl)
  | [], _ :: _ => .inl rfl
  | _ :: _, [] => .inr (.inr rfl)
  | a :: x, b :: y => by
    rw [bless_cons, bless_cons]
    simp only [Bool.or_eq_true, Bool.and_eq_true, decide_eq_true_eq]
    rcases Nat.lt_trichotomy a.toNat b.toNat with h | h | h
    · exact .inl (.inl h)
    · rcases bless_tri x y with h2 | h2 | h2
      · exact .inl (.inr ⟨h, h2⟩)
      · exact .inr (.inl (by rw [UInt8.toNat_inj.1 h, h2]))
      · exact .inr (.inr (.inr ⟨h.symm, h2⟩))
    · exact .inr (.inr (.inl h))
theorem bless_asym {x y : Bytes} (h : Op.bytesLess x y = true) : Op.bytesLess y x = false := by
  cases h2 : Op.bytesLess y x with
  | false => rfl
  | true => have := bless_trans x y x h h2; rw [bless_irrefl] at this; cases this
/-- One operation: key, whether it is taken out, value. -/
abbrev OpM := Bytes × Bool × Bytes
def rop (r : RecM) : OpM := (r.1, false, r.2)
def diffL : List RecM → List RecM → List OpM
  | [], [] => []
  | a :: ra, [] => (a.1, true, []) :: diffL ra []
  | [], b :: bs => rop b :: diffL [] bs
  | a :: ra, b :: bs =>
    if Op.bytesLess a.1 b.1 = true then (a.1, true, []) :: diffL ra (b :: bs)
    else if Op.bytesLess b.1 a.1 = true then rop b :: diffL (a :: ra) bs
    else if a = b then diffL ra bs else rop b :: diffL ra bs
termination_by a b => a.length + b.length
theorem diffL_len : ∀ a b : List RecM, (diffL a b).length ≤ a.length + b.length
  | [], [] => by simp [diffL]
  | a :: ra, [] => by have := diffL_len ra []; rw [diffL]; simp at this ⊢; omega
  | [], b :: bs => by have := diffL_len [] bs; rw [diffL]; simp at this ⊢; omega
  | a :: ra, b :: bs => by
    rw [diffL]
    split
    · have := diffL_len ra (b :: bs); simp only [List.length_cons] at this ⊢; omega
    · split
      · have := diffL_len (a :: ra) bs; simp only [List.length_cons] at this ⊢; omega
      · split
        · have := diffL_len ra bs; simp only [List.length_cons] at this ⊢; omega
        · have := diffL_len ra bs; simp only [List.length_cons] at this ⊢; omega
termination_by a b => a.length + b.length
theorem diffL_self : ∀ a : List RecM, diffL a a = []
  | [] => by simp [diffL]
  | a :: ra => by rw [diffL]; simp [bless_irrefl, diffL_self ra]
/-- The list with one operation done. -/
def putTail (k : Bytes) : List RecM → List RecM
  | [] => []
  | x :: q => if x.1 = k then q else x :: q
theorem putTail_cons (k : Bytes) (x : RecM) (q : List RecM) : putTail k (x :: q) = if x.1 = k then q else x :: q := rfl
def before (l : List RecM) (k : Bytes) : List RecM := l.takeWhile fun r => Op.bytesLess r.1 k
def behind (l : List RecM) (k : Bytes) : List RecM := l.dropWhile fun r => Op.bytesLess r.1 k
def putOne (o : OpM) : List RecM := if o.2.1 then [] else [(o.1, o.2.2)]
def putL (l : List RecM) (o : OpM) : List RecM := before l o.1 ++ putOne o ++ putTail o.1 (behind l o.1)
theorem before_lt (l : List RecM) (k : Bytes) : ∀ r ∈ before l k, Op.bytesLess r.1 k = true := fun r hr => by
  have := List.all_takeWhile (p := fun r : RecM => Op.bytesLess r.1 k) (l := l)
  exact List.all_eq_true.1 this r hr
theorem before_behind (l : List RecM) (k : Bytes) : before l k ++ behind l k = l := List.takeWhile_append_dropWhile
theorem behind_ge {l : List RecM} (hl : l.Pairwise LessR) (k : Bytes) : ∀ r ∈ behind l k, Op.bytesLess r.1 k = false := by
  induction l with
  | nil => intro r h; cases h
  | cons x l ih =>
    rw [List.pairwise_cons] at hl
    unfold behind at ih ⊢
    rw [List.dropWhile_cons]
    cases hx : Op.bytesLess x.1 k with
    | true => simpa using ih hl.2
    | false =>
      simp only [Bool.false_eq_true, if_false]
      intro r hr
      rcases List.mem_cons.1 hr with rfl | hr
      · exact hx
      · cases h : Op.bytesLess r.1 k with
        | false => rfl
        | true => rw [bless_trans _ _ _ (hl.1 r hr) h] at hx; cases hx
/-- The two sides, when they are known. -/
theorem putL_split {p q : List RecM} {o : OpM} (hp : ∀ r ∈ p, Op.bytesLess r.1 o.1 = true) (hq : ∀ r, q.head? = some r → Op.bytesLess r.1 o.1 = false) : putL (p ++ q) o = p ++ putOne o ++ putTail o.1 q := by
  have h1 : before (p ++ q) o.1 = p := by
    unfold before
    rw [List.takeWhile_append_of_pos hp]
    cases q with
    | nil => simp
    | cons x q => rw [List.takeWhile_cons, hq x rfl]; simp
  have h2 : behind (p ++ q) o.1 = q := by
    unfold behind
    rw [List.dropWhile_append_of_pos hp]
    cases q with
    | nil => rfl
    | cons x q => rw [List.dropWhile_cons, hq x rfl]; simp
  unfold putL
  rw [h1, h2]
theorem putTail_mem {k : Bytes} {q : List RecM} {r : RecM} (h : r ∈ putTail k q) : r ∈ q := by
  cases q with
  | nil => cases h
  | cons x q => rw [putTail_cons] at h; split at h
                · exact List.mem_cons_of_mem _ h
                · exact h
theorem putL_sorted {l : List RecM} (hl : l.Pairwise LessR) (o : OpM) : (putL l o).Pairwise LessR := by
  have hb := before_behind l o.1
  have hlt := before_lt l o.1
  have hge := behind_ge hl o.1
  rw [← hb] at hl
  unfold putL
  generalize before l o.1 = p at *
  generalize behind l o.1 = q at *
  rw [List.pairwise_append] at hl
  obtain ⟨hp, hq, hpq⟩ := hl
  have htail : (putTail o.1 q).Pairwise LessR ∧ ∀ r ∈ putTail o.1 q, Op.bytesLess o.1 r.1 = true := by
    cases q with
    | nil => exact ⟨List.Pairwise.nil, fun r h => by cases h⟩
    | cons x q =>
      rw [List.pairwise_cons] at hq
      rw [putTail_cons]
      split
      · next hx => exact ⟨hq.2, fun r hr => by rw [← hx]; exact hq.1 r hr⟩
      · next hx =>
        have hx2 : Op.bytesLess o.1 x.1 = true := by
          rcases bless_tri x.1 o.1 with h | h | h
          · rw [hge x List.mem_cons_self] at h; cases h
          · exact absurd h hx
          · exact h
        refine ⟨List.pairwise_cons.2 hq, fun r hr => ?_⟩
        rcases List.mem_cons.1 hr with rfl | hr
        · exact hx2
        · exact bless_trans _ _ _ hx2 (hq.1 r hr)
  rw [List.pairwise_append, List.pairwise_append]
  refine ⟨⟨hp, ?_, ?_⟩, htail.1, ?_⟩
  · unfold putOne; split
    · exact List.Pairwise.nil
    · exact List.pairwise_singleton _ _
  · intro r hr s hs
    unfold putOne at hs; split at hs
    · cases hs
    · rw [List.mem_singleton] at hs; subst hs; exact hlt r hr
  · intro r hr s hs
    rcases List.mem_append.1 hr with hr | hr
    · exact hpq r hr s (putTail_mem hs)
    · unfold putOne at hr; split at hr
      · cases hr
      · rw [List.mem_singleton] at hr; subst hr; exact htail.2 s hs
theorem putL_len (l : List RecM) (o : OpM) : (putL l o).length ≤ l.length + 1 := by
  have h1 := congrArg List.length (before_behind l o.1)
  have h2 : (putTail o.1 (behind l o.1)).length ≤ (behind l o.1).length := by
    cases behind l o.1 with
    | nil => simp [putTail]
    | cons x q => rw [putTail_cons]; split <;> simp
  have h3 : (putOne o).length ≤ 1 := by unfold putOne; split <;> simp
  unfold putL
  simp only [List.length_append] at h1 ⊢; omega
def writeL (l : List RecM) (os : List OpM) : List RecM := os.foldl putL l
theorem write_diff : ∀ (d a b : List RecM), (d ++ a).Pairwise LessR → (d ++ b).Pairwise LessR → writeL (d ++ a) (diffL a b) = d ++ b
  | d, [], [], _, _ => by simp [diffL, writeL]
  | d, x :: ra, [], ha, hb => by
    rw [diffL]
    have h := List.pairwise_append.1 ha
    have e : putL (d ++ x :: ra) (x.1, true, []) = d ++ ra := by
      rw [putL_split (o := (x.1, true, [])) (fun r hr => h.2.2 r hr x List.mem_cons_self) (fun r hr => by simp at hr; rw [← hr]; exact bless_irrefl _)]
      simp [putOne, putTail]
    have ha' : (d ++ ra).Pairwise LessR := ha.sublist (List.Sublist.append (List.Sublist.refl _) (List.sublist_cons_self _ _))
    have := write_diff d ra [] ha' hb
    unfold writeL at this ⊢
    rw [List.foldl_cons, e, this]
  | d, [], y :: bs, ha, hb => by
    rw [diffL]
    have h := List.pairwise_append.1 hb
    have e : putL (d ++ []) (rop y) = (d ++ [y]) ++ [] := by
      rw [putL_split (o := rop y) (fun r hr => h.2.2 r hr y List.mem_cons_self) (fun r hr => by simp at hr)]
      simp [putOne, putTail, rop]
    have hb' : ((d ++ [y]) ++ bs).Pairwise LessR := by simpa using hb
    have ha' : ((d ++ [y]) ++ []).Pairwise LessR := hb'.sublist (List.Sublist.append (List.Sublist.refl _) (List.nil_sublist _))
    have := write_diff (d ++ [y]) [] bs ha' hb'
    unfold writeL at this ⊢
    rw [List.foldl_cons, e, this]; simp
  | d, x :: ra, y :: bs, ha, hb => by
    rw [diffL]
    have h := List.pairwise_append.1 ha
    have h' := List.pairwise_append.1 hb
    have hx := (List.pairwise_cons.1 h.2.1)
    have hy := (List.pairwise_cons.1 h'.2.1)
    have ha' : (d ++ ra).Pairwise LessR := ha.sublist (List.Sublist.append (List.Sublist.refl _) (List.sublist_cons_self _ _))
    have hb' : ((d ++ [y]) ++ bs).Pairwise LessR := by simpa using hb
    have hby := List.pairwise_append.1 hb'
    split
    · next hlt =>
      have e : putL (d ++ x :: ra) (x.1, true, []) = d ++ ra := by
        rw [putL_split (o := (x.1, true, [])) (fun r hr => h.2.2 r hr x List.mem_cons_self) (fun r hr => by simp at hr; rw [← hr]; exact bless_irrefl _)]
        simp [putOne, putTail]
      have := write_diff d ra (y :: bs) ha' hb
      unfold writeL at this ⊢
      rw [List.foldl_cons, e, this]
    · next hnlt =>
      split
      · next hgt =>
        have hne : ¬ x.1 = y.1 := fun e => by rw [e, bless_irrefl] at hgt; cases hgt
        have e : putL (d ++ x :: ra) (rop y) = (d ++ [y]) ++ (x :: ra) := by
          rw [putL_split (o := rop y) (fun r hr => h'.2.2 r hr y List.mem_cons_self) (fun r hr => by simp at hr; rw [← hr]; exact bless_asym hgt)]
          simp [putOne, putTail, rop, hne]
        have ha2 : ((d ++ [y]) ++ (x :: ra)).Pairwise LessR := by
          rw [List.pairwise_append]
          refine ⟨hby.1, h.2.1, fun r hr s hs => ?_⟩
          rcases List.mem_append.1 hr with hr | hr
          · exact h.2.2 r hr s hs
          · rw [List.mem_singleton] at hr; subst hr
            rcases List.mem_cons.1 hs with rfl | hs
            · exact hgt
            · exact bless_trans _ _ _ hgt (hx.1 s hs)
        have := write_diff (d ++ [y]) (x :: ra) bs ha2 hb'
        unfold writeL at this ⊢
        rw [List.foldl_cons, e, this]; simp
      · next hngt =>
        have hk : x.1 = y.1 := by
          rcases bless_tri x.1 y.1 with h | h | h
          · exact absurd h hnlt
          · exact h
          · exact absurd h hngt
        have ha2 : ((d ++ [y]) ++ ra).Pairwise LessR := by
          rw [List.pairwise_append]
          refine ⟨hby.1, hx.2, fun r hr s hs => ?_⟩
          rcases List.mem_append.1 hr with hr | hr
          · exact h.2.2 r hr s (List.mem_cons_of_mem _ hs)
          · rw [List.mem_singleton] at hr; subst hr
            have := hx.1 s hs
            unfold LessR at this ⊢
            rwa [hk] at this
        have ih := write_diff (d ++ [y]) ra bs ha2 hb'
        split
        · next he =>
          subst he
          rw [show d ++ x :: ra = (d ++ [x]) ++ ra by simp, ih]; simp
        · have e : putL (d ++ x :: ra) (rop y) = (d ++ [y]) ++ ra := by
            rw [putL_split (o := rop y) (fun r hr => h'.2.2 r hr y List.mem_cons_self) (fun r hr => by simp at hr; rw [← hr]; show Op.bytesLess x.1 y.1 = false; rw [hk]; exact bless_irrefl _)]
            simp [putOne, putTail, rop, hk]
          unfold writeL at ih ⊢
          rw [List.foldl_cons, e, ih]; simp
termination_by _ a b => a.length + b.length
end Go.Proofs.YtlghahalejgkfaaDoor
