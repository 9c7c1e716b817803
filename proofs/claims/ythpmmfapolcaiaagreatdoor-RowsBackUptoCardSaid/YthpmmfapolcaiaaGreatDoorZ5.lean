/- Texts of this claim, one behind the other. -/
import Derived.Test.YthpmmfapolcaiaaGreatDoorZ4
import Derived.Lib.Bytealg
import Derived.Test.YthpmmfapolcaiaaGreatDoorZ2
import Derived.Test.YthpmmfapolcaiaaGreatDoorZ1
import Derived.Test.YthpmmfapolcaiaaGreatDoorZ0
import Derived.Lib.SliceRun
/- Plain: the state of records. -/
namespace Go.Proofs.YthpmmfapolcaiaaGreatDoor
open Go Go.Eng Go.Proofs Go.Srt
def zSt : StateM := ⟨[], [], []⟩
structure OkS (s : StateM) : Prop where
  eqs : ∀ e ∈ s.eqs, recOk (.eq e)
  fls : ∀ f ∈ s.fls, recOk (.fl f)
  pxs : ∀ p ∈ s.pxs, recOk (.px p)
def recsOf (s : StateM) : List RecV := s.eqs.map .eq ++ s.fls.map .fl ++ s.pxs.map .px
def opsOf (s : StateM) : List OpM := (recs s).map rop
def addAll (s : StateM) (l : List RecV) : StateM := l.foldl addR s
theorem recs_of (s : StateM) : recs s = (recsOf s).map recR := by
  unfold recs recsOf
  simp [recR, Function.comp_def]
theorem opsOf_eq (s : StateM) : opsOf s = (recsOf s).map fun R => rop (recR R) := by
  unfold opsOf; rw [recs_of]; simp [Function.comp_def]
theorem OkS.mem {s : StateM} (h : OkS s) : ∀ R ∈ recsOf s, recOk R := by
  intro R hR
  unfold recsOf at hR
  rcases List.mem_append.1 hR with hR | hR
  · rcases List.mem_append.1 hR with hR | hR
    · obtain ⟨x, hx, rfl⟩ := List.mem_map.1 hR; exact h.eqs x hx
    · obtain ⟨x, hx, rfl⟩ := List.mem_map.1 hR; exact h.fls x hx
  · obtain ⟨x, hx, rfl⟩ := List.mem_map.1 hR; exact h.pxs x hx
theorem OkS.ids {s : StateM} (h : OkS s) : IdsOk s := ⟨fun x hx => (h.eqs x hx).1, fun x hx => FlightM.ok.id (h.fls x hx), fun x hx => (h.pxs x hx).1.id⟩
theorem addAll_perm : ∀ (l : List RecV) (s : StateM), (recsOf (addAll s l)).Perm (recsOf s ++ l)
  | [], s => by rw [List.append_nil]; exact List.Perm.refl _
  | R :: l, s => by
    refine (addAll_perm l (addR s R)).trans ?_
    have h : (recsOf (addR s R)).Perm (recsOf s ++ [R]) := by
      cases R with
      | eq e =>
        unfold recsOf addR
        simp only [List.map_append, List.map_cons, List.map_nil]
        rw [List.append_assoc, List.append_assoc, List.append_assoc, List.append_assoc]
        refine List.Perm.append_left _ ?_
        rw [← List.append_assoc (s.fls.map RecV.fl)]
        exact List.perm_append_comm
      | fl f =>
        unfold recsOf addR
        simp only [List.map_append, List.map_cons, List.map_nil]
        rw [List.append_assoc, List.append_assoc, List.append_assoc, List.append_assoc]
        refine List.Perm.append_left _ (List.Perm.append_left _ ?_)
        exact List.perm_append_comm
      | px p =>
        unfold recsOf addR
        simp only [List.map_append, List.map_cons, List.map_nil]
        rw [← List.append_assoc]
    refine (List.Perm.append_right l h).trans ?_
    rw [List.append_assoc]
    exact List.Perm.refl _
theorem addAll_eqs : ∀ (l : List EquipM) (s : StateM), addAll s (l.map .eq) = ⟨s.eqs ++ l, s.fls, s.pxs⟩
  | [], s => by simp [addAll]
  | e :: l, s => by
    have := addAll_eqs l (addR s (.eq e))
    simp only [List.map_cons, addAll, List.foldl_cons] at this ⊢
    rw [this]; simp [addR]
theorem addAll_fls : ∀ (l : List FlightM) (s : StateM), addAll s (l.map .fl) = ⟨s.eqs, s.fls ++ l, s.pxs⟩
  | [], s => by simp [addAll]
  | e :: l, s => by
    have := addAll_fls l (addR s (.fl e))
    simp only [List.map_cons, addAll, List.foldl_cons] at this ⊢
    rw [this]; simp [addR]
theorem addAll_pxs : ∀ (l : List PaxM) (s : StateM), addAll s (l.map .px) = ⟨s.eqs, s.fls, s.pxs ++ l⟩
  | [], s => by simp [addAll]
  | e :: l, s => by
    have := addAll_pxs l (addR s (.px e))
    simp only [List.map_cons, addAll, List.foldl_cons] at this ⊢
    rw [this]; simp [addR]
theorem addAll_of (s : StateM) : addAll zSt (recsOf s) = s := by
  unfold recsOf
  have e : ∀ (a b : List RecV) (s : StateM), addAll s (a ++ b) = addAll (addAll s a) b := fun a b s => by unfold addAll; rw [List.foldl_append]
  rw [e, e, addAll_eqs, addAll_fls, addAll_pxs]
  simp [zSt]
theorem okS_all {l : List RecV} (h : ∀ R ∈ l, recOk R) : OkS (addAll zSt l) := by
  have hp := addAll_perm l zSt
  have hm : ∀ R ∈ recsOf (addAll zSt l), recOk R := fun R hR => by
    have := hp.mem_iff.1 hR
    rcases List.mem_append.1 this with h1 | h1
    · cases h1
    · exact h R h1
  refine ⟨fun e he => hm _ ?_, fun e he => hm _ ?_, fun e he => hm _ ?_⟩
  · unfold recsOf; simp [he]
  · unfold recsOf; simp [he]
  · unfold recsOf; simp [he]
/-- A record says what it is of. -/
theorem rec_inj {R Q : RecV} (hR : recOk R) (hQ : recOk Q) (h : rop (recR R) = rop (recR Q)) : R = Q := by
  unfold rop at h
  simp only [Prod.mk.injEq, true_and] at h
  obtain ⟨h1, h2⟩ := h
  have hc : recC R = recC Q := by rw [recR_key, recR_key] at h1; exact keyB_letter h1
  cases R with
  | eq e =>
    cases Q with
    | eq f =>
      have hid : e.id = f.id := keyB_inj (c := 101) hR.1 hQ.1 h1
      have a1 := rRowsT_codec.app e.rows [] hR.2
      have a2 := rRowsT_codec.app f.rows [] hQ.2
      have h2 : numB e.rows.length ++ rowsBt e.rows = numB f.rows.length ++ rowsBt f.rows := h2
      rw [h2, a2] at a1
      cases e; cases f
      simp only [Prod.mk.injEq] at a1 hid
      rw [hid, a1.1]
    | fl f => cases hc
    | px p => cases hc
  | fl e =>
    cases Q with
    | fl f =>
      have hid : e.id = f.id := keyB_inj (c := 102) hR.id hQ.id h1
      have a1 := (rFl_codec e.id hR.id).app e [] ⟨hR, rfl⟩
      have a2 := (rFl_codec e.id hR.id).app f [] ⟨hQ, hid.symm⟩
      have h2 : flightB e = flightB f := h2
      rw [h2, a2] at a1
      simp only [Prod.mk.injEq] at a1
      rw [a1.1]
    | eq f => cases hc
    | px p => cases hc
  | px e =>
    cases Q with
    | px f =>
      have hid : e.id = f.id := keyB_inj (c := 112) hR.1.id hQ.1.id h1
      have a1 := (rPax_codec e.id hR.1.id).app e [] ⟨hR, rfl⟩
      have a2 := (rPax_codec e.id hR.1.id).app f [] ⟨hQ, hid.symm⟩
      have h2 : paxB e = paxB f := h2
      rw [h2, a2] at a1
      simp only [Prod.mk.injEq] at a1
      rw [a1.1]
    | eq f => cases hc
    | fl p => cases hc
theorem recs_inj : ∀ {l m : List RecV}, (∀ R ∈ l, recOk R) → (∀ R ∈ m, recOk R) → (l.map fun R => rop (recR R)) = (m.map fun R => rop (recR R)) → l = m
  | [], [], _, _, _ => rfl
  | [], _ :: _, _, _, h => by cases h
  | _ :: _, [], _, _, h => by cases h
  | x :: l, y :: m, hl, hm, h => by
    simp only [List.map_cons, List.cons.injEq] at h
    rw [rec_inj (hl x List.mem_cons_self) (hm y List.mem_cons_self) h.1, recs_inj (fun R hR => hl R (List.mem_cons_of_mem _ hR)) (fun R hR => hm R (List.mem_cons_of_mem _ hR)) h.2]
/-- Operations in the order of their keys. -/
def opLt (x y : OpM) : Bool := Op.bytesLess x.1 y.1
theorem sorted_same : ∀ {l m : List OpM}, l.Pairwise (fun x y => opLt x y = true) → m.Pairwise (fun x y => opLt y x = false) → l.Perm m → l = m
  | [], m, _, _, hp => (List.nil_perm.1 hp).symm
  | x :: l, [], _, _, hp => by have := List.perm_nil.1 hp; cases this
  | x :: l, y :: m, hl, hm, hp => by
    have hl' := List.pairwise_cons.1 hl
    have hm' := List.pairwise_cons.1 hm
    have hx : x = y := by
      have h1 : x ∈ y :: m := hp.mem_iff.1 List.mem_cons_self
      have h2 : y ∈ x :: l := hp.mem_iff.2 List.mem_cons_self
      rcases List.mem_cons.1 h1 with h1 | h1
      · exact h1
      · rcases List.mem_cons.1 h2 with h2 | h2
        · exact h2.symm
        · have a1 := hl'.1 y h2
          have a2 := hm'.1 x h1
          rw [a1] at a2; cases a2
    subst hx
    rw [sorted_same hl'.2 hm'.2 (List.Perm.cons_inv hp)]
theorem opsOf_sorted {s : StateM} (h : InForm s) (hi : IdsOk s) : (opsOf s).Pairwise (fun x y => opLt x y = true) := by
  unfold opsOf
  rw [List.pairwise_map]
  exact recs_sorted h hi
/-- The state of a list of records: the law. -/
def Loads (rs : List OpM) (s : StateM) : Prop := OkS s ∧ InForm s ∧ (opsOf s).Perm rs
theorem loads_one {rs : List OpM} {s t : StateM} (hs : Loads rs s) (ht : Loads rs t) : s = t := by
  have h1 := opsOf_sorted hs.2.1 hs.1.ids
  have h2 := opsOf_sorted ht.2.1 ht.1.ids
  have h3 : opsOf s = opsOf t := sorted_same h1 (h2.imp fun {x y} h => bless_asym h) (hs.2.2.trans ht.2.2.symm)
  rw [opsOf_eq, opsOf_eq] at h3
  have := recs_inj hs.1.mem ht.1.mem h3
  rw [← addAll_of s, ← addAll_of t, this]
/-- One that is no record: nothing is loaded. -/
theorem loads_no {rs : List OpM} {o : OpM} (ho : o ∈ rs) (h : ∀ R, recOk R → rop (recR R) ≠ o) (s : StateM) : ¬ Loads rs s := by
  rintro ⟨h1, -, h3⟩
  have := h3.mem_iff.2 ho
  rw [opsOf_eq] at this
  obtain ⟨R, hR, he⟩ := List.mem_map.1 this
  exact h R (h1.mem R hR) he
theorem perm_map_all {l : List RecV} : (opsOf (addAll zSt l)).Perm (l.map fun R => rop (recR R)) := by
  rw [opsOf_eq]
  exact (addAll_perm l zSt).map _
theorem loads_yes {rs m : List OpM} {l : List RecV} (hp : m.Perm rs) (hl : ∀ R ∈ l, recOk R) (he : (l.map fun R => rop (recR R)) = m) (hf : InForm (addAll zSt l)) : Loads rs (addAll zSt l) :=
  ⟨okS_all hl, hf, perm_map_all.trans (by rw [he]; exact hp)⟩
theorem loads_form {rs m : List OpM} {l : List RecV} (hs : m.Pairwise (fun x y => opLt y x = false)) (hp : m.Perm rs) (hl : ∀ R ∈ l, recOk R) (he : (l.map fun R => rop (recR R)) = m) (hf : ¬ InForm (addAll zSt l)) (s : StateM) : ¬ Loads rs s := by
  rintro ⟨h1, h2, h3⟩
  refine hf ?_
  have h4 : opsOf s = m := sorted_same (opsOf_sorted h2 h1.ids) hs (h3.trans hp.symm)
  rw [opsOf_eq, ← he] at h4
  rw [← recs_inj h1.mem hl h4, addAll_of]
  exact h2
theorem cmp_less : ∀ (a b : Bytes), decide (Lib.compareBytes a b < 0) = Op.bytesLess a b
  | [], [] => rfl
  | [], _ :: _ => rfl
  | _ :: _, [] => rfl
  | a :: la, b :: lb => by
    rw [bless_cons]
    unfold Lib.compareBytes
    have e : ∀ x y : UInt8, x < y ↔ x.toNat < y.toNat := fun x y => UInt8.lt_iff_toNat_lt
    by_cases h : a.toNat < b.toNat
    · rw [if_pos ((e a b).2 h), decide_eq_true h]; rfl
    · rw [if_neg (fun h2 => h ((e a b).1 h2)), decide_eq_false h, Bool.false_or]
      by_cases h2 : b.toNat < a.toNat
      · rw [if_pos ((e b a).2 h2), decide_eq_false (by omega : ¬ a.toNat = b.toNat)]; rfl
      · rw [if_neg (fun h3 => h2 ((e b a).1 h3)), decide_eq_true (by omega : a.toNat = b.toNat), Bool.true_and]
        exact cmp_less la lb
def opCmp (x y : OpM) : Int := Lib.compareBytes x.1 y.1
theorem opOrd : Ord fun x y : OpM => decide (opCmp x y < 0) where
  asym x y h := by
    unfold opCmp at h ⊢
    rw [cmp_less] at h ⊢
    exact bless_asym h
  trans x y z h1 h2 := by
    unfold opCmp at h1 h2 ⊢
    rw [cmp_less] at h1 h2 ⊢
    cases h3 : Op.bytesLess z.1 x.1 with
    | false => rfl
    | true =>
      rcases bless_tri y.1 z.1 with h | h | h
      · have := bless_trans _ _ _ h h3; rw [h1] at this; cases this
      · rw [h] at h1; rw [h1] at h3; cases h3
      · rw [h2] at h; cases h
end Go.Proofs.YthpmmfapolcaiaaGreatDoor

/- A state of one's own, as one that is handed in. -/
namespace Go.Proofs.YthpmmfapolcaiaaGreatDoor
open Go Go.Eng Go.Proofs Go.Srt
theorem flatMap_at {β : Type} {cv : β → List Value} {sz : Nat} (hc : ∀ x, (cv x).length = sz) : ∀ (xs : List β) (j : Nat) (hj : j < xs.length) (i : Nat), i < sz → (xs.flatMap cv)[j * sz + i]? = (cv xs[j])[i]?
  | [], j, hj, _, _ => by simp at hj
  | x :: xs, 0, _, i, hi => by rw [List.flatMap_cons, Nat.zero_mul, Nat.zero_add, List.getElem?_append_left (by rw [hc]; exact hi)]; rfl
  | x :: xs, j + 1, hj, i, hi => by
    rw [List.flatMap_cons, List.getElem?_append_right (by rw [hc, Nat.succ_mul]; omega), hc, show (j + 1) * sz + i - sz = j * sz + i by rw [Nat.succ_mul]; omega]
    exact flatMap_at hc xs j (by simpa using hj) i hi
theorem arr_rsl {β : Type} {sz : Nat} (hsz : 0 < sz) {R : CellR β} {w : World} {a : Option Addr} {cap : Nat} {xs : List β} {cells : List Value} (ha : Arr w [] a cells) (hn : xs.length ≤ cap)
    (h : ∀ j (hj : j < xs.length), ∃ c, c.length = sz ∧ (∀ i, i < sz → cells[j * sz + i]? = c[i]?) ∧ R w c xs[j]) : RSl sz R w [.slice a xs.length cap] xs := by
  refine ⟨a, cap, rfl, hn, trivial, fun j hj => ?_⟩
  obtain ⟨c, h1, h2, h3⟩ := h j hj
  have h0 : cells[j * sz + 0]? = some c[0] := by rw [h2 0 hsz, List.getElem?_eq_getElem (by omega)]
  obtain ⟨b, off, hab, -, -⟩ := ha _ _ h0
  refine ⟨b, off, c, hab, h1, fun i v hv => ?_, h3⟩
  have hi : i < sz := by have := (List.getElem?_eq_some_iff.1 hv).1; omega
  obtain ⟨b', off', hab', -, hc'⟩ := ha _ _ ((h2 i hi).trans hv)
  rw [hab] at hab'
  simp only [Option.some.injEq, Addr.mk.injEq, and_true] at hab'
  obtain ⟨rfl, rfl⟩ := hab'
  exact hc'
theorem EqsIn.out {L : Heap} {es : List EquipM} {xs : List Value} (h : EqsIn L es xs) : xs.length = es.length * 2 ∧ ∀ j (hj : j < es.length), ∃ a cap Le, Vec T_api_Row 5 a es[j].rows.length cap (es[j].rows.flatMap rowC) Le ∧ Le.Sublist L ∧ xs[j * 2]? = some (.int .i64 es[j].id) ∧ xs[j * 2 + 1]? = some (.slice a es[j].rows.length cap) := by
  induction h with
  | nil => exact ⟨rfl, fun j hj => by simp at hj⟩
  | @snoc L Le es xs e a cap h hv ih =>
    obtain ⟨hl, ih⟩ := ih
    refine ⟨by simp [hl]; omega, fun j hj => ?_⟩
    by_cases hje : j < es.length
    · obtain ⟨a', cap', Lj, h1, h2, h3, h4⟩ := ih j hje
      have e1 : (es ++ [e])[j] = es[j] := List.getElem_append_left hje
      rw [e1]
      exact ⟨a', cap', Lj, h1, h2.trans (List.sublist_append_right _ _), by rw [List.getElem?_append_left (by omega)]; exact h3, by rw [List.getElem?_append_left (by omega)]; exact h4⟩
    · have hje : j = es.length := by rw [List.length_append, List.length_singleton] at hj; omega
      have e1 : (es ++ [e])[j] = e := by subst hje; simp
      rw [e1]
      exact ⟨a, cap, Le, hv, List.sublist_append_left _ _, by rw [List.getElem?_append_right (by omega), show j * 2 - xs.length = 0 by omega]; rfl, by rw [List.getElem?_append_right (by omega), show j * 2 + 1 - xs.length = 1 by omega]; rfl⟩
/-- Bytes of a list of operations. -/
def opW (o : OpM) : Nat := o.1.length + o.2.2.length + 3
def opsW (l : List OpM) : Nat := (l.map opW).sum
def bulkS (s : StateM) : Nat := (s.eqs.map fun e => rowsW e.rows + 3).sum + 9 * s.fls.length + 14 * s.pxs.length
theorem rowB_ge (r : RowM) : r.seats.length + 5 ≤ (rowB r).length := by
  have h1 := numB_pos (marksN [r.exit])
  have h2 := numB_pos r.seats.length
  have h3 := numB_pos (zig r.num)
  have h4 := numB_pos (zig r.cab)
  have h5 := numB_pos (zig r.zone)
  unfold rowB textsB textB intsB intB
  simp only [List.map_cons, List.map_nil, List.flatten_cons, List.flatten_nil, List.length_append, List.length_nil]
  omega
theorem rowsW_ge (l : List RowM) : rowsW l ≤ 7 * (rowsBt l).length := by
  induction l with
  | nil => simp [rowsW]
  | cons r l ih =>
    have h := rowB_ge r
    unfold rowsW rowsBt at *
    rw [List.map_cons, List.sum_cons, List.map_cons, List.flatten_cons, List.length_append]
    omega
theorem sumCons (f : OpM → Nat) (l m : List OpM) : ((l ++ m).map f).sum = (l.map f).sum + (m.map f).sum := by rw [List.map_append, List.sum_append]
theorem bulk_ops (s : StateM) : bulkS s ≤ 7 * opsW (opsOf s) := by
  have h1 : (s.eqs.map fun e => rowsW e.rows + 3).sum ≤ 7 * opsW ((s.eqs.map eqRec).map rop) := by
    generalize s.eqs = l
    unfold opsW
    induction l with
    | nil => simp
    | cons e l ih =>
      simp only [List.map_cons, List.sum_cons]
      have h := rowsW_ge e.rows
      have h2 : opW (rop (eqRec e)) = 13 + (numB e.rows.length ++ rowsBt e.rows).length + 3 := by unfold opW rop eqRec equipB; rw [keyB_len]
      rw [h2, List.length_append]
      omega
  have h2 : 9 * s.fls.length ≤ 7 * opsW ((s.fls.map flRec).map rop) := by
    generalize s.fls = l
    unfold opsW
    induction l with
    | nil => simp
    | cons e l ih =>
      simp only [List.map_cons, List.sum_cons, List.length_cons]
      have h2 : opW (rop (flRec e)) = 13 + (flightB e).length + 3 := by unfold opW rop flRec; rw [keyB_len]
      rw [h2]; omega
  have h3 : 14 * s.pxs.length ≤ 7 * opsW ((s.pxs.map pxRec).map rop) := by
    generalize s.pxs = l
    unfold opsW
    induction l with
    | nil => simp
    | cons e l ih =>
      simp only [List.map_cons, List.sum_cons, List.length_cons]
      have h2 : opW (rop (pxRec e)) = 13 + (paxB e).length + 3 := by unfold opW rop pxRec; rw [keyB_len]
      rw [h2]; omega
  unfold opsOf recs bulkS
  rw [List.map_append, List.map_append]
  unfold opsW at *
  rw [sumCons, sumCons]
  omega
theorem opsW_perm {l m : List OpM} (h : l.Perm m) : opsW l = opsW m := by
  unfold opsW
  induction h with
  | nil => rfl
  | cons x h ih => simp only [List.map_cons, List.sum_cons, ih]
  | swap x y l => simp only [List.map_cons, List.sum_cons]; omega
  | trans h1 h2 ih1 ih2 => rw [ih1, ih2]
/-- A state of one's own can be handed in. -/
theorem StOwn.at {w0 w : World} {T : List Nat} {s : StateM} {a b c : Option Addr} {ca cb cc : Nat} {La Lr Lb Lc : Heap} (hO : StOwn s a b c ca cb cc La Lr Lb Lc) (hS : St w0 T (La ++ (Lr ++ (Lb ++ Lc))) w) (hok : OkS s) (hb : bulkS s + 4 ≤ 8388608) : StateAt w s a b c ca cb cc := by
  obtain ⟨xs, hva, hin⟩ := hO.eqs
  obtain ⟨hxl, hrow⟩ := hin.out
  have hcap : ∀ {e : TypeId} {sz : Nat} {a : Option Addr} {n cap : Nat} {xs : List Value} {L : Heap}, Vec e sz a n cap xs L → n ≤ cap := fun h => by
    rcases h.inv with ⟨-, h1, h2, -⟩ | ⟨_, _, _, _, _, h1, _⟩
    · omega
    · exact h1
  refine ⟨?_, ?_, ?_, by unfold bulkS at hb; exact hb⟩
  · refine arr_rsl (by omega) (hva.arr hS (by simp)) (hcap hva) fun j hj => ?_
    obtain ⟨ar, cr, Le, h1, h2, h3, h4⟩ := hrow j hj
    refine ⟨[.int .i64 s.eqs[j].id, .slice ar s.eqs[j].rows.length cr], rfl, fun i hi => ?_, _, rfl, (hok.eqs _ (List.getElem_mem hj)).1, ?_⟩
    · match i, hi with
      | 0, _ => exact h3
      | 1, _ => exact h4
    · have hS2 : St w0 T Le w := hS.sub ((h2.trans (List.sublist_append_left Lr (Lb ++ Lc))).trans (List.sublist_append_right _ _))
      have hS3 : St w0 T (Le ++ []) w := by rw [List.append_nil]; exact hS2
      refine arr_rsl (by omega) (h1.arr (L := Le) hS3 (by simp)) (hcap h1) fun i hi => ⟨rowC s.eqs[j].rows[i], rfl, fun q hq => flatRow_at _ _ hi _ hq, rfl, ?_⟩
      exact ((hok.eqs _ (List.getElem_mem hj)).2.rows _ (List.getElem_mem hi)).1
  · refine arr_rsl (by omega) (hO.fls.arr hS (by simp)) (hcap hO.fls) fun j hj => ⟨flC s.fls[j], rfl, fun q hq => flatMap_at (cv := flC) (sz := 8) (fun _ => rfl) _ _ hj _ hq, rfl, hok.fls _ (List.getElem_mem hj)⟩
  · refine arr_rsl (by omega) (hO.pxs.arr hS (by simp)) (hcap hO.pxs) fun j hj => ⟨paxC s.pxs[j], rfl, fun q hq => flatMap_at (cv := paxC) (sz := 13) (fun _ => rfl) _ _ hj _ hq, rfl, (hok.pxs _ (List.getElem_mem hj)).1⟩
end Go.Proofs.YthpmmfapolcaiaaGreatDoor

/- Plain: a state's operations, in any order, or one twice. -/
namespace Go.Proofs.YthpmmfapolcaiaaGreatDoor
open Go Go.Eng Go.Proofs Go.Srt
theorem seatGood_of {n : Int} {c : Nat} (h : (n = 0 ∧ c = 0) ∨ seatOk n c = true) : seatGood n c = true := by
  unfold seatGood
  refine decide_eq_true fun he => ?_
  unfold seatB at he
  split at he
  · cases he
  · next hz =>
    rcases h with h | h
    · exact hz h
    · rw [labelB_dash, h] at he; cases he
theorem sum_mem {l : List RowM} {r : RowM} (h : r ∈ l) : r.seats.length + 6 ≤ rowsW l := by
  obtain ⟨i, hi, rfl⟩ := List.mem_iff_getElem.1 h
  exact rowsW_at l i hi
theorem okS_of {w : World} {s : StateM} {a b c : Option Addr} {ca cb cc : Nat} (hs : StateAt w s a b c ca cb cc) (hf : InForm s) : OkS s := by
  have hb := hs.bulk
  refine ⟨fun e he => ?_, fun f hf => ?_, fun p hp => ?_⟩
  · obtain ⟨i, hi, rfl⟩ := List.mem_iff_getElem.1 he
    have hsum := sum_at s.eqs i hi
    obtain ⟨cs, v, -, hid, hr⟩ := hs.eqs.mem he
    refine ⟨hid, fun r hr' => ?_, ?_⟩
    · obtain ⟨cs', -, hok⟩ := hr.mem hr'
      have := sum_mem hr'
      exact ⟨hok, by omega⟩
    · have := rowsW_len s.eqs[i].rows
      omega
  · obtain ⟨cs, -, hok⟩ := hs.fls.mem hf
    exact hok
  · obtain ⟨cs, -, hok⟩ := hs.pxs.mem hp
    exact ⟨hok, seatGood_of (hf.seats p hp)⟩
theorem ops_sizes {w : World} {s : StateM} {a b c : Option Addr} {ca cb cc : Nat} (hs : StateAt w s a b c ca cb cc) (hb : bulkS s + 4 ≤ 1048576) : ∀ o ∈ opsOf s, o.1.length ≤ 1048576 ∧ o.2.2.length ≤ 100000000 := by
  unfold bulkS at hb
  intro o ho
  unfold opsOf recs at ho
  obtain ⟨r, hr, rfl⟩ := List.mem_map.1 ho
  rcases List.mem_append.1 hr with hr | hr
  · rcases List.mem_append.1 hr with hr | hr
    · obtain ⟨e, he, rfl⟩ := List.mem_map.1 hr
      obtain ⟨i, hi, rfl⟩ := List.mem_iff_getElem.1 he
      have hsum := sum_at s.eqs i hi
      obtain ⟨cs, v, -, hid, hr⟩ := hs.eqs.mem he
      have hrl := rowsW_len s.eqs[i].rows
      have h1 := rowsBt_len s.eqs[i].rows (fun r hr' => by obtain ⟨_, -, hok⟩ := hr.mem hr'; exact hok) (by omega)
      have h2 := numB_len10 s.eqs[i].rows.length (by omega)
      refine ⟨?_, ?_⟩
      · show (keyB _ _).length ≤ _; rw [keyB_len]; omega
      · show (equipB _).length ≤ _; unfold equipB; rw [List.length_append]; omega
    · obtain ⟨e, he, rfl⟩ := List.mem_map.1 hr
      obtain ⟨cs, -, hok⟩ := hs.fls.mem he
      have h1 := ints_len [e.equip, e.phase, e.seq] (all3 hok.equip hok.phase hok.seq).2
      have h2 := ints_len [e.l0, e.l1, e.l2, e.l3] (all4 hok.l0 hok.l1 hok.l2 hok.l3).2
      simp only [List.length_cons, List.length_nil] at h1 h2
      refine ⟨?_, ?_⟩
      · show (keyB _ _).length ≤ _; rw [keyB_len]; omega
      · show (flightB _).length ≤ _; unfold flightB; rw [List.length_append]; omega
  · obtain ⟨e, he, rfl⟩ := List.mem_map.1 hr
    obtain ⟨cs, -, hok⟩ := hs.pxs.mem he
    have h1 := ints_len [e.flight, e.cab, e.cls, e.status, e.tick, e.pass] (all6 hok.flight hok.cab hok.cls hok.status hok.tick hok.pass).2
    have hm := marksN_lt [e.fit, e.infant, e.vol, e.stb]
    simp only [List.length_cons, List.length_nil] at h1 hm
    have h2 := numB_len10 (marksN [e.fit, e.infant, e.vol, e.stb]) (by omega)
    have h3 := seatB_len e.num e.c
    have h4 := numB_len10 (seatB e.num e.c).length (by omega)
    refine ⟨?_, ?_⟩
    · show (keyB _ _).length ≤ _; rw [keyB_len]; omega
    · show (paxB _).length ≤ _; unfold paxB textB; simp only [List.length_append]; omega
def bulkO (o : OpM) : Nat := if o.1.getD 1 0 = 101 then rowsW (rRowsT ⟨o.2.2, false⟩).2 + 3 else if o.1.getD 1 0 = 102 then 9 else 14
def bulkOs (l : List OpM) : Nat := (l.map bulkO).sum
theorem bulkOs_perm {l m : List OpM} (h : l.Perm m) : bulkOs l = bulkOs m := by
  unfold bulkOs
  induction h with
  | nil => rfl
  | cons x h ih => simp only [List.map_cons, List.sum_cons, ih]
  | swap x y l => simp only [List.map_cons, List.sum_cons]; omega
  | trans h1 h2 ih1 ih2 => rw [ih1, ih2]
theorem bulkOs_app (l m : List OpM) : bulkOs (l ++ m) = bulkOs l + bulkOs m := by unfold bulkOs; rw [List.map_append, List.sum_append]
theorem bulkO_eq {e : EquipM} (h : RowsFine e.rows) : bulkO (rop (eqRec e)) = rowsW e.rows + 3 := by
  have hk : (rop (eqRec e)).1.getD 1 0 = 101 := rfl
  unfold bulkO
  rw [if_pos hk]
  have := rRowsT_codec.app e.rows [] h
  rw [List.append_nil] at this
  simp only [Prod.mk.injEq] at this
  show rowsW (rRowsT ⟨equipB e, false⟩).2 + 3 = _
  unfold equipB
  rw [this.1]
theorem bulkO_fl (f : FlightM) : bulkO (rop (flRec f)) = 9 := by
  have hk : (rop (flRec f)).1.getD 1 0 = 102 := rfl
  unfold bulkO
  rw [if_neg (by rw [hk]; decide), if_pos hk]
theorem bulkO_px (p : PaxM) : bulkO (rop (pxRec p)) = 14 := by
  have hk : (rop (pxRec p)).1.getD 1 0 = 112 := rfl
  unfold bulkO
  rw [if_neg (by rw [hk]; decide), if_neg (by rw [hk]; decide)]
theorem bulkS_ops {s : StateM} (h : OkS s) : bulkS s = bulkOs (opsOf s) := by
  have h1 : bulkOs ((s.eqs.map eqRec).map rop) = (s.eqs.map fun e => rowsW e.rows + 3).sum := by
    have := h.eqs
    generalize s.eqs = l at this
    unfold bulkOs
    induction l with
    | nil => rfl
    | cons e l ih =>
      simp only [List.map_cons, List.sum_cons]
      rw [ih (fun x hx => this x (List.mem_cons_of_mem _ hx)), bulkO_eq (this e List.mem_cons_self).2]
  have h2 : bulkOs ((s.fls.map flRec).map rop) = 9 * s.fls.length := by
    generalize s.fls = l
    unfold bulkOs
    induction l with
    | nil => rfl
    | cons e l ih => simp only [List.map_cons, List.sum_cons, List.length_cons]; rw [ih, bulkO_fl]; omega
  have h3 : bulkOs ((s.pxs.map pxRec).map rop) = 14 * s.pxs.length := by
    generalize s.pxs = l
    unfold bulkOs
    induction l with
    | nil => rfl
    | cons e l ih => simp only [List.map_cons, List.sum_cons, List.length_cons]; rw [ih, bulkO_px]; omega
  unfold opsOf recs bulkS
  rw [List.map_append, List.map_append, bulkOs_app, bulkOs_app, h1, h2, h3]
theorem bulkO_mem {l : List OpM} {o : OpM} (h : o ∈ l) : bulkO o ≤ bulkOs l := by
  unfold bulkOs
  induction l with
  | nil => cases h
  | cons x l ih =>
    simp only [List.map_cons, List.sum_cons]
    rcases List.mem_cons.1 h with rfl | h
    · omega
    · have := ih h; omega
/-- One record twice: no state's. -/
theorem loads_dup {s t : StateM} {o : OpM} (ho : o ∈ opsOf s) : ¬ Loads (opsOf s ++ [o]) t := by
  rintro ⟨h1, h2, h3⟩
  have hn : (opsOf t).Nodup := (opsOf_sorted h2 h1.ids).imp fun {x y} h e => by
    subst e
    unfold opLt at h
    rw [bless_irrefl] at h; cases h
  have hn2 := h3.nodup_iff.1 hn
  rw [List.nodup_append] at hn2
  exact hn2.2.2 o ho o (by simp) rfl
end Go.Proofs.YthpmmfapolcaiaaGreatDoor

/- A block of elements of several cells each: loads and stores by their number. -/
namespace Go.Eng
open Go
section
variable {β : Type} {sz : Nat} {cv : β → List Value}
theorem flat_lenE (hc : ∀ x, (cv x).length = sz) (l : List β) : (l.flatMap cv).length = l.length * sz := by
  induction l with
  | nil => simp
  | cons p ps ih => rw [List.flatMap_cons, List.length_append, ih, hc, List.length_cons, Nat.add_mul, Nat.one_mul]; omega
theorem flat_splitE (P S : List β) (x : β) : (P ++ x :: S).flatMap cv = P.flatMap cv ++ (cv x ++ S.flatMap cv) := by simp
theorem flat_atE (hc : ∀ x, (cv x).length = sz) (l : List β) (tail : List Value) (k : Nat) (hk : k < l.length) : ((l.flatMap cv ++ tail).drop (k * sz)).take sz = cv l[k] := by
  obtain ⟨P, x, S, e1, e2, e3⟩ := Srt.cut_at hk
  rw [e3]
  rw [e1, flat_splitE, List.append_assoc]
  have hp : k * sz = (P.flatMap cv).length := by rw [flat_lenE hc, e2]
  rw [hp, List.drop_left, List.append_assoc]
  exact List.take_left' (hc x)
theorem flat_setE (hc : ∀ x, (cv x).length = sz) (l : List β) (tail : List Value) (k : Nat) (hk : k < l.length) (y : β) : splice (l.flatMap cv ++ tail) (k * sz) (cv y) = (l.set k y).flatMap cv ++ tail := by
  obtain ⟨P, x, S, e1, e2, e3⟩ := Srt.cut_at hk
  have hp : k * sz = (P.flatMap cv).length := by rw [flat_lenE hc, e2]
  have e4 : l.set k y = P ++ y :: S := by
    rw [e1, ← e2, List.set_append_right _ _ (Nat.le_refl _), Nat.sub_self]; rfl
  rw [e4, e1, flat_splitE, flat_splitE]
  unfold splice
  rw [hp]
  have e5 : (P.flatMap cv).length + (cv y).length = (P.flatMap cv ++ cv x).length := by rw [List.length_append, hc, hc]
  rw [e5]
  have e6 : P.flatMap cv ++ (cv x ++ S.flatMap cv) ++ tail = (P.flatMap cv ++ cv x) ++ (S.flatMap cv ++ tail) := by simp
  rw [show List.take (P.flatMap cv).length (P.flatMap cv ++ (cv x ++ S.flatMap cv) ++ tail) = P.flatMap cv by rw [List.append_assoc, List.take_left]]
  rw [e6, List.drop_left]
  simp
variable {w0 w : World} {T : List Nat} {H : Heap} {g : Nat} {l : List β} {tail : List Value} {t : TypeId} {F : Obj → Heap}
theorem St.ldE (hc : ∀ x, (cv x).length = sz) (hS : St w0 T H w) [Slot H g (.cells ⟨l.flatMap cv ++ tail⟩ t (0, 0)) F] {k q : Nat} (hk : k < l.length) (hq : q = k * sz) {K : List Value → Prop} (hK : K (cv l[k])) : LdN (fun w' => w = w') sz g q K := by
  refine ⟨⟨_, hc _, fun _ e j v hv => ?_, hK⟩⟩
  subst e
  have hat := flat_atE hc l tail k hk
  refine hS.cell ?_
  rw [← hat, List.getElem?_take] at hv
  split at hv
  · rw [List.getElem?_drop] at hv; rw [hq]; exact hv
  · cases hv
/-- The same in every world that meets St. -/
theorem St.ldEC (hc : ∀ x, (cv x).length = sz) (_hS : St w0 T H w) [Slot H g (.cells ⟨l.flatMap cv ++ tail⟩ t (0, 0)) F] {k q : Nat} (hk : k < l.length) (hq : q = k * sz) {K : List Value → Prop} (hK : K (cv l[k])) : LdN (fun w' => St w0 T H w') sz g q K := by
  refine ⟨⟨_, hc _, fun _ h j v hv => ?_, hK⟩⟩
  have hat := flat_atE hc l tail k hk
  refine h.cell ?_
  rw [← hat, List.getElem?_take] at hv
  split at hv
  · rw [List.getElem?_drop] at hv; rw [hq]; exact hv
  · cases hv
theorem St.stE (hc : ∀ x, (cv x).length = sz) (h1 : ∀ x, (cv x).all Value.oneCell' = true) (hS : St w0 T H w) [Slot H g (.cells ⟨l.flatMap cv ++ tail⟩ t (0, 0)) F] {k q : Nat} (hk : k < l.length) (hq : q = k * sz) {y : β}
    {K : World → Prop} (hK : ∀ w', St w0 T (F (.cells ⟨(l.set k y).flatMap cv ++ tail⟩ t (0, 0))) w' → K w') : StG w g q (cv y) K := by
  have hle : (k + 1) * sz ≤ l.length * sz := Nat.mul_le_mul_right _ hk
  have hfit : k * sz + (cv y).length ≤ (l.flatMap cv ++ tail).length := by
    rw [List.length_append, flat_lenE hc, hc]
    rw [Nat.add_mul, Nat.one_mul] at hle; omega
  subst hq
  refine ⟨⟨_, t, (0, 0), hS.mem, .inl (Nat.zero_le _), hfit, fun v h => List.all_eq_true.1 (h1 y) v h, ?_⟩⟩
  rw [flat_setE hc l tail k hk y]
  exact hK _ (hS.setRow (l := l.flatMap cv ++ tail))
theorem St.call1 {w' : World} {o : Obj} {L' : Heap} (hS : St w0 T [(g, o)] w) (h : St w [g] L' w') : St w0 T L' w' := hS.call (L := [(g, o)]) h
end
theorem IntG.half {z r : Int} {K : Value → Prop} (h0 : 0 ≤ z ∧ z ≤ 9223372036854775807) (hr : z / 2 = r) (hk : K (.int .i64 r)) : IntG .i64 (z.fdiv (2 ^ (min (Int.toNat 1) (IntKind.bits .u64)))) K := by
  have e : (2 : Int) ^ (min (Int.toNat 1) (IntKind.bits .u64)) = 2 := by decide
  rw [e, Int.fdiv_eq_ediv_of_nonneg _ (by decide), hr]
  exact IntG.nw (by omega) hk
end Go.Eng

/- slices' stable sort, in place. -/
namespace Go.Proofs.YthpmmfapolcaiaaGreatDoor
open Go Go.Eng Go.Proofs Go.Srt
def opDV (o : OpM) : Value := .agg ⟨opDC o⟩
set_option maxHeartbeats 4000000 in
theorem swapRange_api_Op {w : World} {g cap len : Nat} {a b n : Int} {l P A Q B S : List OpM} {tail : List Value} {F : Value} (hh : Holds [(g, .cells ⟨l.flatMap opDC ++ tail⟩ T_api_Op (0, 0))] w) (hl : l = P ++ A ++ Q ++ B ++ S) (hAB : A.length = B.length) (hlL : l.length = len) (hlen : len ≤ 16777216) (ha : a = P.length) (hb : b = P.length + A.length + Q.length) (hn : n = A.length) :
    Cl Tryz.prog f_slices_swapRangeCmpFunc_api_Op [.slice (some ⟨g, 0, none⟩) len cap, .int .i64 a, .int .i64 b, .int .i64 n, F] w fun _ w' => St w [g] [(g, .cells ⟨(P ++ B ++ Q ++ A ++ S).flatMap opDC ++ tail⟩ T_api_Op (0, 0))] w' := by
  have hS : St w [g] [(g, .cells ⟨l.flatMap opDC ++ tail⟩ T_api_Op (0, 0))] w := St.enter hh
  have hll : l.length = P.length + A.length + Q.length + B.length + S.length := by rw [hl]; simp only [List.length_append]
  refine en_slices_swapRangeCmpFunc_api_Op rfl ?_
  repeat (first | refine SemW.run tblOk ?_ | refine jA (by omega) ?_ | refine jB (by omega) ?_ | refine jC (by omega) ?_ | refine jD (by omega) ?_ | refine jE rfl ?_ | refine jF (by omega) ?_ | (refine jG ?_; first | with_reducible (first | refine jH ?_ | refine jI ?_ | refine jJ ?_ | refine jK ?_ | refine jL ?_) | refine jM (by omega) ?_ | refine jN (by omega) ?_ | with_reducible refine jM rfl ?_ | refine jM (by assumption) ?_ | refine jN (by assumption) ?_ | refine jM (by decide) ?_ | refine jN (by decide) ?_) | refine jF (ptr_ok tblOk rfl rfl) ?_ | refine jO (fun _ => by kernel_rfl) ?_ | refine jF (by decide) ?_)
  refine SemW.loop (fun k : Nat => [(0, .slice (some ⟨g, 0, none⟩) len cap), (1, .int .i64 a), (2, .int .i64 b), (3, .int .i64 n), (10, .int .i64 k)])
    (fun k w' => k ≤ A.length ∧ St w [g] [(g, .cells ⟨(rg P A Q B S k).flatMap opDC ++ tail⟩ T_api_Op (0, 0))] w') (fun k => A.length - k) 0
    ⟨rfl, rfl, rfl, rfl, rfl, trivial⟩ ⟨Nat.zero_le _, by rw [rg_zero, ← hl]; exact hS⟩ ?_
  clear hS
  rintro k w1 ⟨hk, hS⟩
  have hrl := rg_len (P := P) (Q := Q) (S := S) (k := k) hAB
  by_cases hkl : k < A.length
  · have hi : P.length + k < (rg P A Q B S k).length := by omega
    have hj : P.length + A.length + Q.length + k < (rg P A Q B S k).length := by omega
    have hsw := rg_swp hAB hkl hi hj rfl rfl
    repeat (first | refine SemW.run tblOk ?_ | refine jA (by omega) ?_ | refine jB (by omega) ?_ | refine jC (by omega) ?_ | refine jD (by omega) ?_ | refine jE rfl ?_ | refine jF (by omega) ?_ | (refine jG ?_; first | with_reducible (first | refine jH ?_ | refine jI ?_ | refine jJ ?_ | refine jK ?_ | refine jL ?_) | refine jM (by omega) ?_ | refine jN (by omega) ?_ | with_reducible refine jM rfl ?_ | refine jM (by assumption) ?_ | refine jN (by assumption) ?_ | refine jM (by decide) ?_ | refine jN (by decide) ?_) | refine jF (ptr_ok tblOk rfl rfl) ?_ | refine jO (fun _ => by kernel_rfl) ?_ | refine jF (by decide) ?_)
    refine SemW.draw tblOk mixed (fun w' => St w [g] [(g, .cells ⟨(rg P A Q B S k).flatMap opDC ++ tail⟩ T_api_Op (0, 0))] w') [4, 5, 6, 7, 21, 22, 23] [4, 5, 6, 7, 0, 1, 2, 3, 8, 9, 10, 11, 12, 13, 14, 15, 16, 17, 18, 19, 20, 21, 22, 23] (by kernel_rfl) hS.drew ?_
    have hS := hS.drew
    repeat (first | refine SemW.run tblOk ?_ | refine jA (by omega) ?_ | refine jB (by omega) ?_ | refine jC (by omega) ?_ | refine jD (by omega) ?_ | refine jE rfl ?_ | refine jF (by omega) ?_ | (refine jG ?_; first | with_reducible (first | refine jH ?_ | refine jI ?_ | refine jJ ?_ | refine jK ?_ | refine jL ?_) | refine jM (by omega) ?_ | refine jN (by omega) ?_ | with_reducible refine jM rfl ?_ | refine jM (by assumption) ?_ | refine jN (by assumption) ?_ | refine jM (by decide) ?_ | refine jN (by decide) ?_) | refine jF (ptr_ok tblOk rfl rfl) ?_ | refine jO (fun _ => by kernel_rfl) ?_ | refine jF (by decide) ?_ | refine hS.ldC rfl ?_ | refine hS.ldnC rfl ?_)
    refine St.ldEC (sz := 3) (fun _ => rfl) hS hj ?_ ?_
    · omega
    repeat (first | refine SemW.run tblOk ?_ | refine jA (by omega) ?_ | refine jB (by omega) ?_ | refine jC (by omega) ?_ | refine jD (by omega) ?_ | refine jE rfl ?_ | refine jF (by omega) ?_ | (refine jG ?_; first | with_reducible (first | refine jH ?_ | refine jI ?_ | refine jJ ?_ | refine jK ?_ | refine jL ?_) | refine jM (by omega) ?_ | refine jN (by omega) ?_ | with_reducible refine jM rfl ?_ | refine jM (by assumption) ?_ | refine jN (by assumption) ?_ | refine jM (by decide) ?_ | refine jN (by decide) ?_) | refine jF (ptr_ok tblOk rfl rfl) ?_ | refine jO (fun _ => by kernel_rfl) ?_ | refine jF (by decide) ?_ | refine hS.ldC rfl ?_ | refine hS.ldnC rfl ?_)
    refine St.ldEC (sz := 3) (fun _ => rfl) hS hi ?_ ?_
    · omega
    repeat (first | refine SemW.run tblOk ?_ | refine jA (by omega) ?_ | refine jB (by omega) ?_ | refine jC (by omega) ?_ | refine jD (by omega) ?_ | refine jE rfl ?_ | refine jF (by omega) ?_ | (refine jG ?_; first | with_reducible (first | refine jH ?_ | refine jI ?_ | refine jJ ?_ | refine jK ?_ | refine jL ?_) | refine jM (by omega) ?_ | refine jN (by omega) ?_ | with_reducible refine jM rfl ?_ | refine jM (by assumption) ?_ | refine jN (by assumption) ?_ | refine jM (by decide) ?_ | refine jN (by decide) ?_) | refine jF (ptr_ok tblOk rfl rfl) ?_ | refine jO (fun _ => by kernel_rfl) ?_ | refine jF (by decide) ?_ | refine hS.ldC rfl ?_ | refine hS.ldnC rfl ?_)
    refine St.stE (sz := 3) (fun _ => rfl) (fun _ => rfl) hS hi ?_ ?_
    · omega
    intro w2 hS
    repeat (first | refine SemW.run tblOk ?_ | refine jA (by omega) ?_ | refine jB (by omega) ?_ | refine jC (by omega) ?_ | refine jD (by omega) ?_ | refine jE rfl ?_ | refine jF (by omega) ?_ | (refine jG ?_; first | with_reducible (first | refine jH ?_ | refine jI ?_ | refine jJ ?_ | refine jK ?_ | refine jL ?_) | refine jM (by omega) ?_ | refine jN (by omega) ?_ | with_reducible refine jM rfl ?_ | refine jM (by assumption) ?_ | refine jN (by assumption) ?_ | refine jM (by decide) ?_ | refine jN (by decide) ?_) | refine jF (ptr_ok tblOk rfl rfl) ?_ | refine jO (fun _ => by kernel_rfl) ?_ | refine jF (by decide) ?_ | refine hS.ldC rfl ?_ | refine hS.ldnC rfl ?_)
    refine St.stE (sz := 3) (fun _ => rfl) (fun _ => rfl) hS (k := P.length + A.length + Q.length + k) (by rw [List.length_set]; exact hj) ?_ ?_
    · omega
    intro w3 hS
    simp only [hsw] at hS
    repeat (first | refine SemW.run tblOk ?_ | refine jA (by omega) ?_ | refine jB (by omega) ?_ | refine jC (by omega) ?_ | refine jD (by omega) ?_ | refine jE rfl ?_ | refine jF (by omega) ?_ | (refine jG ?_; first | with_reducible (first | refine jH ?_ | refine jI ?_ | refine jJ ?_ | refine jK ?_ | refine jL ?_) | refine jM (by omega) ?_ | refine jN (by omega) ?_ | with_reducible refine jM rfl ?_ | refine jM (by assumption) ?_ | refine jN (by assumption) ?_ | refine jM (by decide) ?_ | refine jN (by decide) ?_) | refine jF (ptr_ok tblOk rfl rfl) ?_ | refine jO (fun _ => by kernel_rfl) ?_ | refine jF (by decide) ?_)
    exact ⟨k + 1, ⟨rfl, rfl, rfl, rfl, rfl, trivial⟩, ⟨by omega, hS⟩, by omega⟩
  · repeat (first | refine SemW.run tblOk ?_ | refine jA (by omega) ?_ | refine jB (by omega) ?_ | refine jC (by omega) ?_ | refine jD (by omega) ?_ | refine jE rfl ?_ | refine jF (by omega) ?_ | (refine jG ?_; first | with_reducible (first | refine jH ?_ | refine jI ?_ | refine jJ ?_ | refine jK ?_ | refine jL ?_) | refine jM (by omega) ?_ | refine jN (by omega) ?_ | with_reducible refine jM rfl ?_ | refine jM (by assumption) ?_ | refine jN (by assumption) ?_ | refine jM (by decide) ?_ | refine jN (by decide) ?_) | refine jF (ptr_ok tblOk rfl rfl) ?_ | refine jO (fun _ => by kernel_rfl) ?_ | refine jF (by decide) ?_)
    rw [rg_full hAB (by omega)] at hS
    exact hS
structure RT_api_Op where
  P : List OpM
  U : List OpM
  V : List OpM
  S : List OpM
set_option maxHeartbeats 4000000 in
theorem rotate_api_Op {w : World} {g cap len : Nat} {a m b : Int} {l P U V S : List OpM} {tail : List Value} {F : Value} (hh : Holds [(g, .cells ⟨l.flatMap opDC ++ tail⟩ T_api_Op (0, 0))] w) (hl : l = P ++ U ++ V ++ S) (hlL : l.length = len) (hlen : len ≤ 16777216) (ha : a = P.length) (hm : m = P.length + U.length) (hb : b = P.length + U.length + V.length) (hU : 0 < U.length) (hV : 0 < V.length) :
    Cl Tryz.prog f_slices_rotateCmpFunc_api_Op [.slice (some ⟨g, 0, none⟩) len cap, .int .i64 a, .int .i64 m, .int .i64 b, F] w fun _ w' => St w [g] [(g, .cells ⟨(P ++ V ++ U ++ S).flatMap opDC ++ tail⟩ T_api_Op (0, 0))] w' := by
  have hS : St w [g] [(g, .cells ⟨l.flatMap opDC ++ tail⟩ T_api_Op (0, 0))] w := St.enter hh
  have hll : l.length = P.length + U.length + V.length + S.length := by rw [hl]; simp only [List.length_append]
  refine en_slices_rotateCmpFunc_api_Op rfl ?_
  repeat (first | refine SemW.run tblOk ?_ | refine jA (by omega) ?_ | refine jB (by omega) ?_ | refine jC (by omega) ?_ | refine jD (by omega) ?_ | refine jE rfl ?_ | refine jF (by omega) ?_ | (refine jG ?_; first | with_reducible (first | refine jH ?_ | refine jI ?_ | refine jJ ?_ | refine jK ?_ | refine jL ?_) | refine jM (by omega) ?_ | refine jN (by omega) ?_ | with_reducible refine jM rfl ?_ | refine jM (by assumption) ?_ | refine jN (by assumption) ?_ | refine jM (by decide) ?_ | refine jN (by decide) ?_) | refine jF (ptr_ok tblOk rfl rfl) ?_ | refine jO (fun _ => by kernel_rfl) ?_ | refine jF (by decide) ?_)
  refine SemW.loop (fun x : RT_api_Op => [(0, .slice (some ⟨g, 0, none⟩) len cap), (2, .int .i64 m), (4, F), (10, .int .i64 x.U.length), (11, .int .i64 x.V.length)])
    (fun x w' => (P ++ V ++ U ++ S = x.P ++ x.V ++ x.U ++ x.S ∧ m = x.P.length + x.U.length ∧ 0 < x.U.length ∧ 0 < x.V.length) ∧ St w [g] [(g, .cells ⟨(x.P ++ x.U ++ x.V ++ x.S).flatMap opDC ++ tail⟩ T_api_Op (0, 0))] w') (fun x => x.U.length + x.V.length) ⟨P, U, V, S⟩
    ⟨rfl, rfl, rfl, by show _ = Value.int .i64 _; congr 1; simp only; omega, by show _ = Value.int .i64 _; congr 1; simp only; omega, trivial⟩ ⟨⟨rfl, hm, hU, hV⟩, by rw [← hl]; exact hS⟩ ?_
  clear hS
  rintro ⟨P1, U1, V1, S1⟩ w1 ⟨⟨hT, hm1, hU1, hV1⟩, hS⟩
  simp only at hT hm1 hU1 hV1 hS ⊢
  have hl1 : (P1 ++ U1 ++ V1 ++ S1).length = len := by
    have := congrArg List.length hT
    simp only [List.length_append] at this ⊢; omega
  have hl2 : (P1 ++ U1 ++ V1 ++ S1).length = P1.length + U1.length + V1.length + S1.length := by simp only [List.length_append]
  by_cases hne : U1.length = V1.length
  · repeat (first | refine SemW.run tblOk ?_ | refine jA (by omega) ?_ | refine jB (by omega) ?_ | refine jC (by omega) ?_ | refine jD (by omega) ?_ | refine jE rfl ?_ | refine jF (by omega) ?_ | (refine jG ?_; first | with_reducible (first | refine jH ?_ | refine jI ?_ | refine jJ ?_ | refine jK ?_ | refine jL ?_) | refine jM (by omega) ?_ | refine jN (by omega) ?_ | with_reducible refine jM rfl ?_ | refine jM (by assumption) ?_ | refine jN (by assumption) ?_ | refine jM (by decide) ?_ | refine jN (by decide) ?_) | refine jF (ptr_ok tblOk rfl rfl) ?_ | refine jO (fun _ => by kernel_rfl) ?_ | refine jF (by decide) ?_)
    refine (swapRange_api_Op hS.holds (Q := []) (A := U1) (B := V1) (P := P1) (S := S1) (by rw [List.append_nil]) hne hl1 hlen (by omega) (by simp only [List.length_nil]; omega) rfl).mono ?_
    intro _ w2 hS'
    have hS := hS.call1 hS'
    rw [List.append_nil, ← hT] at hS
    repeat (first | refine SemW.run tblOk ?_ | refine jA (by omega) ?_ | refine jB (by omega) ?_ | refine jC (by omega) ?_ | refine jD (by omega) ?_ | refine jE rfl ?_ | refine jF (by omega) ?_ | (refine jG ?_; first | with_reducible (first | refine jH ?_ | refine jI ?_ | refine jJ ?_ | refine jK ?_ | refine jL ?_) | refine jM (by omega) ?_ | refine jN (by omega) ?_ | with_reducible refine jM rfl ?_ | refine jM (by assumption) ?_ | refine jN (by assumption) ?_ | refine jM (by decide) ?_ | refine jN (by decide) ?_) | refine jF (ptr_ok tblOk rfl rfl) ?_ | refine jO (fun _ => by kernel_rfl) ?_ | refine jF (by decide) ?_)
    exact hS
  · by_cases hgt : V1.length < U1.length
    · obtain ⟨X, Y, hXY, hX⟩ : ∃ X Y, U1 = X ++ Y ∧ X.length = V1.length := ⟨U1.take V1.length, U1.drop V1.length, (List.take_append_drop _ _).symm, by rw [List.length_take]; omega⟩
      have hY : U1.length = V1.length + Y.length := by rw [hXY, List.length_append, hX]
      repeat (first | refine SemW.run tblOk ?_ | refine jA (by omega) ?_ | refine jB (by omega) ?_ | refine jC (by omega) ?_ | refine jD (by omega) ?_ | refine jE rfl ?_ | refine jF (by omega) ?_ | (refine jG ?_; first | with_reducible (first | refine jH ?_ | refine jI ?_ | refine jJ ?_ | refine jK ?_ | refine jL ?_) | refine jM (by omega) ?_ | refine jN (by omega) ?_ | with_reducible refine jM rfl ?_ | refine jM (by assumption) ?_ | refine jN (by assumption) ?_ | refine jM (by decide) ?_ | refine jN (by decide) ?_) | refine jF (ptr_ok tblOk rfl rfl) ?_ | refine jO (fun _ => by kernel_rfl) ?_ | refine jF (by decide) ?_)
      refine (swapRange_api_Op hS.holds (Q := Y) (A := X) (B := V1) (P := P1) (S := S1) (by rw [hXY]; simp only [List.append_assoc]) hX hl1 hlen (by omega) (by omega) (by omega)).mono ?_
      intro _ w2 hS'
      have hS := hS.call1 hS'
      repeat (first | refine SemW.run tblOk ?_ | refine jA (by omega) ?_ | refine jB (by omega) ?_ | refine jC (by omega) ?_ | refine jD (by omega) ?_ | refine jE rfl ?_ | refine jF (by omega) ?_ | (refine jG ?_; first | with_reducible (first | refine jH ?_ | refine jI ?_ | refine jJ ?_ | refine jK ?_ | refine jL ?_) | refine jM (by omega) ?_ | refine jN (by omega) ?_ | with_reducible refine jM rfl ?_ | refine jM (by assumption) ?_ | refine jN (by assumption) ?_ | refine jM (by decide) ?_ | refine jN (by decide) ?_) | refine jF (ptr_ok tblOk rfl rfl) ?_ | refine jO (fun _ => by kernel_rfl) ?_ | refine jF (by decide) ?_)
      refine ⟨⟨P1 ++ V1, Y, X, S1⟩, ⟨rfl, rfl, rfl, by show _ = Value.int .i64 _; congr 1; simp only; omega, by show _ = Value.int .i64 _; congr 1; simp only; omega, trivial⟩, ⟨⟨by rw [hT, hXY]; simp only [List.append_assoc], by simp only [List.length_append]; omega, by simp only; omega, by simp only; omega⟩, hS⟩, by simp only; omega⟩
    · obtain ⟨X, Y, hXY, hY⟩ : ∃ X Y, V1 = X ++ Y ∧ Y.length = U1.length := ⟨V1.take (V1.length - U1.length), V1.drop (V1.length - U1.length), (List.take_append_drop _ _).symm, by rw [List.length_drop]; omega⟩
      have hX : V1.length = X.length + U1.length := by rw [hXY, List.length_append, hY]
      repeat (first | refine SemW.run tblOk ?_ | refine jA (by omega) ?_ | refine jB (by omega) ?_ | refine jC (by omega) ?_ | refine jD (by omega) ?_ | refine jE rfl ?_ | refine jF (by omega) ?_ | (refine jG ?_; first | with_reducible (first | refine jH ?_ | refine jI ?_ | refine jJ ?_ | refine jK ?_ | refine jL ?_) | refine jM (by omega) ?_ | refine jN (by omega) ?_ | with_reducible refine jM rfl ?_ | refine jM (by assumption) ?_ | refine jN (by assumption) ?_ | refine jM (by decide) ?_ | refine jN (by decide) ?_) | refine jF (ptr_ok tblOk rfl rfl) ?_ | refine jO (fun _ => by kernel_rfl) ?_ | refine jF (by decide) ?_)
      refine (swapRange_api_Op hS.holds (Q := X) (A := U1) (B := Y) (P := P1) (S := S1) (by rw [hXY]; simp only [List.append_assoc]) hY.symm hl1 hlen (by omega) (by omega) rfl).mono ?_
      intro _ w2 hS'
      have hS := hS.call1 hS'
      repeat (first | refine SemW.run tblOk ?_ | refine jA (by omega) ?_ | refine jB (by omega) ?_ | refine jC (by omega) ?_ | refine jD (by omega) ?_ | refine jE rfl ?_ | refine jF (by omega) ?_ | (refine jG ?_; first | with_reducible (first | refine jH ?_ | refine jI ?_ | refine jJ ?_ | refine jK ?_ | refine jL ?_) | refine jM (by omega) ?_ | refine jN (by omega) ?_ | with_reducible refine jM rfl ?_ | refine jM (by assumption) ?_ | refine jN (by assumption) ?_ | refine jM (by decide) ?_ | refine jN (by decide) ?_) | refine jF (ptr_ok tblOk rfl rfl) ?_ | refine jO (fun _ => by kernel_rfl) ?_ | refine jF (by decide) ?_)
      refine ⟨⟨P1, Y, X, U1 ++ S1⟩, ⟨rfl, rfl, rfl, by show _ = Value.int .i64 _; congr 1; simp only; omega, by show _ = Value.int .i64 _; congr 1; simp only; omega, trivial⟩, ⟨⟨by rw [hT, hXY]; simp only [List.append_assoc], by simp only; omega, by simp only; omega, by simp only; omega⟩, by simp only [List.append_assoc] at hS ⊢; exact hS⟩, by simp only; omega⟩
end Go.Proofs.YthpmmfapolcaiaaGreatDoor

/- Insertion sort of a stretch. -/
namespace Go.Proofs.YthpmmfapolcaiaaGreatDoor
open Go Go.Eng Go.Proofs Go.Srt
structure IT_api_Op where
  M : List OpM
  k : Nat
structure JT_api_Op where
  U : List OpM
  V : List OpM
set_option maxHeartbeats 8000000 in
theorem insertion_api_Op {fc : FuncId} {cm : OpM → OpM → Int} (hO : Ord fun x y => decide (cm x y < 0)) (hcm : ∀ (x y : OpM) (w : World), Cl Tryz.prog fc [opDV x, opDV y] w fun v w' => v = .int .i64 (cm x y) ∧ St w [] [] w') {w : World} {g cap len : Nat} {a b : Int} {l P M S : List OpM} {tail : List Value} (hh : Holds [(g, .cells ⟨l.flatMap opDC ++ tail⟩ T_api_Op (0, 0))] w) (hl : l = P ++ M ++ S) (hlL : l.length = len) (hlen : len ≤ 16777216) (ha : a = P.length) (hb : b = P.length + M.length) :
    Cl Tryz.prog f_slices_insertionSortCmpFunc_api_Op [.slice (some ⟨g, 0, none⟩) len cap, .int .i64 a, .int .i64 b, .func (.func fc) ⟨[]⟩ ⟨[]⟩] w fun _ w' => ∃ M', M'.Perm M ∧ Srt (fun x y => decide (cm x y < 0)) M' ∧ St w [g] [(g, .cells ⟨(P ++ M' ++ S).flatMap opDC ++ tail⟩ T_api_Op (0, 0))] w' := by
  have hS : St w [g] [(g, .cells ⟨l.flatMap opDC ++ tail⟩ T_api_Op (0, 0))] w := St.enter hh
  have hll : len = P.length + M.length + S.length := by rw [← hlL, hl]; simp only [List.length_append]
  subst hl
  refine en_slices_insertionSortCmpFunc_api_Op rfl ?_
  repeat (first | refine SemW.run tblOk ?_ | refine jA (by omega) ?_ | refine jB (by omega) ?_ | refine jC (by omega) ?_ | refine jD (by omega) ?_ | refine jE rfl ?_ | refine jF (by omega) ?_ | (refine jG ?_; first | with_reducible (first | refine jH ?_ | refine jI ?_ | refine jJ ?_ | refine jK ?_ | refine jL ?_) | refine jM (by omega) ?_ | refine jN (by omega) ?_ | with_reducible refine jM rfl ?_ | refine jM (by assumption) ?_ | refine jN (by assumption) ?_ | refine jM (by decide) ?_ | refine jN (by decide) ?_) | refine jF (ptr_ok tblOk rfl rfl) ?_ | refine jO (fun _ => by kernel_rfl) ?_ | refine jF (by decide) ?_)
  refine SemW.loop (fun x : IT_api_Op => [(0, .slice (some ⟨g, 0, none⟩) len cap), (1, .int .i64 a), (2, .int .i64 b), (3, .func (.func fc) ⟨[]⟩ ⟨[]⟩), (8, .int .i64 (a + 1 + x.k))])
    (fun x w' => (x.M.Perm M ∧ (0 < M.length → x.k + 1 ≤ M.length) ∧ Srt (fun x y => decide (cm x y < 0)) (x.M.take (x.k + 1))) ∧ St w [g] [(g, .cells ⟨(P ++ x.M ++ S).flatMap opDC ++ tail⟩ T_api_Op (0, 0))] w') (fun x => M.length - x.k) ⟨M, 0⟩
    ⟨rfl, rfl, rfl, rfl, by show _ = Value.int .i64 _; congr 1; simp only; omega, trivial⟩ ⟨⟨List.Perm.refl _, by simp only; omega, by cases M with | nil => exact Srt.nil | cons z M => exact List.pairwise_singleton _ _⟩, hS⟩ ?_
  clear hS
  rintro ⟨M1, k⟩ w1 ⟨⟨hp, hk, hs⟩, hS⟩
  simp only at hp hk hs hS ⊢
  have hpl := hp.length_eq
  by_cases hkl : k + 1 < M.length
  · obtain ⟨B, x, R, hM1, hB, -⟩ := cut_at (l := M1) (k := k + 1) (by omega)
    rw [hM1, List.take_left' hB] at hs
    subst hM1
    repeat (first | refine SemW.run tblOk ?_ | refine jA (by omega) ?_ | refine jB (by omega) ?_ | refine jC (by omega) ?_ | refine jD (by omega) ?_ | refine jE rfl ?_ | refine jF (by omega) ?_ | (refine jG ?_; first | with_reducible (first | refine jH ?_ | refine jI ?_ | refine jJ ?_ | refine jK ?_ | refine jL ?_) | refine jM (by omega) ?_ | refine jN (by omega) ?_ | with_reducible refine jM rfl ?_ | refine jM (by assumption) ?_ | refine jN (by assumption) ?_ | refine jM (by decide) ?_ | refine jN (by decide) ?_) | refine jF (ptr_ok tblOk rfl rfl) ?_ | refine jO (fun _ => by kernel_rfl) ?_ | refine jF (by decide) ?_)
    refine SemW.loop (fun y : JT_api_Op => [(0, .slice (some ⟨g, 0, none⟩) len cap), (1, .int .i64 a), (2, .int .i64 b), (3, .func (.func fc) ⟨[]⟩ ⟨[]⟩), (8, .int .i64 (a + 1 + k)), (9, .int .i64 (a + y.U.length))])
      (fun y w' => (y.U ++ y.V = B ∧ ∀ v ∈ y.V, decide (cm x v < 0) = true) ∧ St w [g] [(g, .cells ⟨(P ++ (y.U ++ x :: y.V ++ R) ++ S).flatMap opDC ++ tail⟩ T_api_Op (0, 0))] w') (fun y => y.U.length) ⟨B, []⟩
      ⟨rfl, rfl, rfl, rfl, rfl, by show _ = Value.int .i64 _; congr 1; simp only; omega, trivial⟩ ⟨⟨by simp, by simp⟩, by simpa using hS⟩ ?_
    clear hS
    rintro ⟨U, V⟩ w2 ⟨⟨hUV, hV⟩, hS⟩
    simp only at hUV hV hS ⊢
    have hUl : U.length + V.length = k + 1 := by rw [← hB, ← hUV, List.length_append]
    have hcl : (P ++ (U ++ x :: V ++ R) ++ S).length = len := by
      have := hp.length_eq
      simp only [List.length_append, List.length_cons] at this ⊢; omega
    by_cases hU : U = []
    · subst hU
      simp only [List.length_nil]
      repeat (first | refine SemW.run tblOk ?_ | refine jA (by omega) ?_ | refine jB (by omega) ?_ | refine jC (by omega) ?_ | refine jD (by omega) ?_ | refine jE rfl ?_ | refine jF (by omega) ?_ | (refine jG ?_; first | with_reducible (first | refine jH ?_ | refine jI ?_ | refine jJ ?_ | refine jK ?_ | refine jL ?_) | refine jM (by omega) ?_ | refine jN (by omega) ?_ | with_reducible refine jM rfl ?_ | refine jM (by assumption) ?_ | refine jN (by assumption) ?_ | refine jM (by decide) ?_ | refine jN (by decide) ?_) | refine jF (ptr_ok tblOk rfl rfl) ?_ | refine jO (fun _ => by kernel_rfl) ?_ | refine jF (by decide) ?_)
      refine SemW.draw tblOk mixed (fun w' => St w [g] [(g, .cells ⟨(P ++ ([] ++ x :: V ++ R) ++ S).flatMap opDC ++ tail⟩ T_api_Op (0, 0))] w') [14, 15, 16] [0, 1, 2, 3, 4, 5, 6, 7, 8, 9, 10, 11, 12, 13, 14, 15, 16] (by kernel_rfl) hS.drew ?_
      have hS := hS.drew
      repeat (first | refine SemW.run tblOk ?_ | refine jA (by omega) ?_ | refine jB (by omega) ?_ | refine jC (by omega) ?_ | refine jD (by omega) ?_ | refine jE rfl ?_ | refine jF (by omega) ?_ | (refine jG ?_; first | with_reducible (first | refine jH ?_ | refine jI ?_ | refine jJ ?_ | refine jK ?_ | refine jL ?_) | refine jM (by omega) ?_ | refine jN (by omega) ?_ | with_reducible refine jM rfl ?_ | refine jM (by assumption) ?_ | refine jN (by assumption) ?_ | refine jM (by decide) ?_ | refine jN (by decide) ?_) | refine jF (ptr_ok tblOk rfl rfl) ?_ | refine jO (fun _ => by kernel_rfl) ?_ | refine jF (by decide) ?_ | refine hS.ldC rfl ?_ | refine hS.ldnC rfl ?_)
      refine ⟨⟨x :: V ++ R, k + 1⟩, ⟨rfl, rfl, rfl, rfl, by show _ = Value.int .i64 _; congr 1; simp only; omega, trivial⟩, ⟨⟨?_, by simp only; omega, ?_⟩, by simpa using hS⟩, by simp only; omega⟩
      · refine List.Perm.trans ?_ hp
        rw [← hUV, List.nil_append]
        simp only [List.cons_append]
        exact List.perm_middle.symm
      · have e4 : (x :: V ++ R).take (k + 1 + 1) = x :: V := List.take_left' (by rw [List.length_nil] at hUl; simp only [List.length_cons]; omega)
        simp only [e4]
        rw [← hUV] at hs
        exact insert_sorted hO (U := []) hs hV nofun
    · obtain ⟨U', u, rfl⟩ : ∃ U' u, U = U' ++ [u] := ⟨U.dropLast, U.getLast hU, (List.dropLast_concat_getLast hU).symm⟩
      rw [List.length_append, List.length_singleton] at hUl
      have hUu : (U' ++ [u]).length = U'.length + 1 := by simp
      rw [hUu]
      have e0 : P ++ (U' ++ [u] ++ x :: V ++ R) ++ S = (P ++ U') ++ u :: x :: (V ++ R ++ S) := by simp
      rw [e0] at hS
      have hi : P.length + U'.length < ((P ++ U') ++ u :: x :: (V ++ R ++ S)).length := by simp only [List.length_append, List.length_cons]; omega
      have hj : P.length + U'.length + 1 < ((P ++ U') ++ u :: x :: (V ++ R ++ S)).length := by simp only [List.length_append, List.length_cons]; omega
      have e1 : ((P ++ U') ++ u :: x :: (V ++ R ++ S))[P.length + U'.length] = u := get_mid _ _ _ _ _ (by rw [List.length_append])
      have e2 : ((P ++ U') ++ u :: x :: (V ++ R ++ S))[P.length + U'.length + 1] = x := get_adj _ _ _ _ _ _ (by rw [List.length_append])
      have hsw := swp_adj (P ++ U') (V ++ R ++ S) u x (P.length + U'.length) (by rw [List.length_append])
      repeat (first | refine SemW.run tblOk ?_ | refine jA (by omega) ?_ | refine jB (by omega) ?_ | refine jC (by omega) ?_ | refine jD (by omega) ?_ | refine jE rfl ?_ | refine jF (by omega) ?_ | (refine jG ?_; first | with_reducible (first | refine jH ?_ | refine jI ?_ | refine jJ ?_ | refine jK ?_ | refine jL ?_) | refine jM (by omega) ?_ | refine jN (by omega) ?_ | with_reducible refine jM rfl ?_ | refine jM (by assumption) ?_ | refine jN (by assumption) ?_ | refine jM (by decide) ?_ | refine jN (by decide) ?_) | refine jF (ptr_ok tblOk rfl rfl) ?_ | refine jO (fun _ => by kernel_rfl) ?_ | refine jF (by decide) ?_)
      refine SemW.draw tblOk mixed (fun w' => St w [g] [(g, .cells ⟨(P ++ U' ++ u :: x :: (V ++ R ++ S)).flatMap opDC ++ tail⟩ T_api_Op (0, 0))] w') [14, 15, 16] [0, 1, 2, 3, 4, 5, 6, 7, 8, 9, 10, 11, 12, 13, 14, 15, 16] (by kernel_rfl) hS.drew ?_
      have hS := hS.drew
      repeat (first | refine SemW.run tblOk ?_ | refine jA (by omega) ?_ | refine jB (by omega) ?_ | refine jC (by omega) ?_ | refine jD (by omega) ?_ | refine jE rfl ?_ | refine jF (by omega) ?_ | (refine jG ?_; first | with_reducible (first | refine jH ?_ | refine jI ?_ | refine jJ ?_ | refine jK ?_ | refine jL ?_) | refine jM (by omega) ?_ | refine jN (by omega) ?_ | with_reducible refine jM rfl ?_ | refine jM (by assumption) ?_ | refine jN (by assumption) ?_ | refine jM (by decide) ?_ | refine jN (by decide) ?_) | refine jF (ptr_ok tblOk rfl rfl) ?_ | refine jO (fun _ => by kernel_rfl) ?_ | refine jF (by decide) ?_ | refine hS.ldC rfl ?_ | refine hS.ldnC rfl ?_)
      refine St.ldEC (sz := 3) (cv := opDC) (fun _ => rfl) hS hj ?_ ?_
      · omega
      rw [e2]
      repeat (first | refine SemW.run tblOk ?_ | refine jA (by omega) ?_ | refine jB (by omega) ?_ | refine jC (by omega) ?_ | refine jD (by omega) ?_ | refine jE rfl ?_ | refine jF (by omega) ?_ | (refine jG ?_; first | with_reducible (first | refine jH ?_ | refine jI ?_ | refine jJ ?_ | refine jK ?_ | refine jL ?_) | refine jM (by omega) ?_ | refine jN (by omega) ?_ | with_reducible refine jM rfl ?_ | refine jM (by assumption) ?_ | refine jN (by assumption) ?_ | refine jM (by decide) ?_ | refine jN (by decide) ?_) | refine jF (ptr_ok tblOk rfl rfl) ?_ | refine jO (fun _ => by kernel_rfl) ?_ | refine jF (by decide) ?_ | refine hS.ldC rfl ?_ | refine hS.ldnC rfl ?_)
      refine St.ldEC (sz := 3) (cv := opDC) (fun _ => rfl) hS hi ?_ ?_
      · omega
      rw [e1]
      repeat (first | refine SemW.run tblOk ?_ | refine jA (by omega) ?_ | refine jB (by omega) ?_ | refine jC (by omega) ?_ | refine jD (by omega) ?_ | refine jE rfl ?_ | refine jF (by omega) ?_ | (refine jG ?_; first | with_reducible (first | refine jH ?_ | refine jI ?_ | refine jJ ?_ | refine jK ?_ | refine jL ?_) | refine jM (by omega) ?_ | refine jN (by omega) ?_ | with_reducible refine jM rfl ?_ | refine jM (by assumption) ?_ | refine jN (by assumption) ?_ | refine jM (by decide) ?_ | refine jN (by decide) ?_) | refine jF (ptr_ok tblOk rfl rfl) ?_ | refine jO (fun _ => by kernel_rfl) ?_ | refine jF (by decide) ?_ | refine hS.ldC rfl ?_ | refine hS.ldnC rfl ?_)
      refine (hcm x u _).mono ?_
      rintro _ w3 ⟨rfl, hS'⟩
      have hS := hS.call0 hS'
      by_cases hlt : cm x u < 0
      · repeat (first | refine SemW.run tblOk ?_ | refine jA (by omega) ?_ | refine jB (by omega) ?_ | refine jC (by omega) ?_ | refine jD (by omega) ?_ | refine jE rfl ?_ | refine jF (by omega) ?_ | (refine jG ?_; first | with_reducible (first | refine jH ?_ | refine jI ?_ | refine jJ ?_ | refine jK ?_ | refine jL ?_) | refine jM (by omega) ?_ | refine jN (by omega) ?_ | with_reducible refine jM rfl ?_ | refine jM (by assumption) ?_ | refine jN (by assumption) ?_ | refine jM (by decide) ?_ | refine jN (by decide) ?_) | refine jF (ptr_ok tblOk rfl rfl) ?_ | refine jO (fun _ => by kernel_rfl) ?_ | refine jF (by decide) ?_)
        refine SemW.draw tblOk mixed (fun w' => St w [g] [(g, .cells ⟨(P ++ U' ++ u :: x :: (V ++ R ++ S)).flatMap opDC ++ tail⟩ T_api_Op (0, 0))] w') [2, 3, 4, 15, 16, 17] [2, 3, 4, 0, 1, 5, 6, 7, 8, 9, 10, 11, 12, 13, 14, 15, 16, 17] (by kernel_rfl) hS.drew ?_
        have hS := hS.drew
        repeat (first | refine SemW.run tblOk ?_ | refine jA (by omega) ?_ | refine jB (by omega) ?_ | refine jC (by omega) ?_ | refine jD (by omega) ?_ | refine jE rfl ?_ | refine jF (by omega) ?_ | (refine jG ?_; first | with_reducible (first | refine jH ?_ | refine jI ?_ | refine jJ ?_ | refine jK ?_ | refine jL ?_) | refine jM (by omega) ?_ | refine jN (by omega) ?_ | with_reducible refine jM rfl ?_ | refine jM (by assumption) ?_ | refine jN (by assumption) ?_ | refine jM (by decide) ?_ | refine jN (by decide) ?_) | refine jF (ptr_ok tblOk rfl rfl) ?_ | refine jO (fun _ => by kernel_rfl) ?_ | refine jF (by decide) ?_ | refine hS.ldC rfl ?_ | refine hS.ldnC rfl ?_)
        refine St.ldEC (sz := 3) (cv := opDC) (fun _ => rfl) hS hi ?_ ?_
        · omega
        rw [e1]
        repeat (first | refine SemW.run tblOk ?_ | refine jA (by omega) ?_ | refine jB (by omega) ?_ | refine jC (by omega) ?_ | refine jD (by omega) ?_ | refine jE rfl ?_ | refine jF (by omega) ?_ | (refine jG ?_; first | with_reducible (first | refine jH ?_ | refine jI ?_ | refine jJ ?_ | refine jK ?_ | refine jL ?_) | refine jM (by omega) ?_ | refine jN (by omega) ?_ | with_reducible refine jM rfl ?_ | refine jM (by assumption) ?_ | refine jN (by assumption) ?_ | refine jM (by decide) ?_ | refine jN (by decide) ?_) | refine jF (ptr_ok tblOk rfl rfl) ?_ | refine jO (fun _ => by kernel_rfl) ?_ | refine jF (by decide) ?_ | refine hS.ldC rfl ?_ | refine hS.ldnC rfl ?_)
        refine St.ldEC (sz := 3) (cv := opDC) (fun _ => rfl) hS hj ?_ ?_
        · omega
        rw [e2]
        repeat (first | refine SemW.run tblOk ?_ | refine jA (by omega) ?_ | refine jB (by omega) ?_ | refine jC (by omega) ?_ | refine jD (by omega) ?_ | refine jE rfl ?_ | refine jF (by omega) ?_ | (refine jG ?_; first | with_reducible (first | refine jH ?_ | refine jI ?_ | refine jJ ?_ | refine jK ?_ | refine jL ?_) | refine jM (by omega) ?_ | refine jN (by omega) ?_ | with_reducible refine jM rfl ?_ | refine jM (by assumption) ?_ | refine jN (by assumption) ?_ | refine jM (by decide) ?_ | refine jN (by decide) ?_) | refine jF (ptr_ok tblOk rfl rfl) ?_ | refine jO (fun _ => by kernel_rfl) ?_ | refine jF (by decide) ?_ | refine hS.ldC rfl ?_ | refine hS.ldnC rfl ?_)
        refine St.stE (sz := 3) (cv := opDC) (fun _ => rfl) (fun _ => rfl) hS hj ?_ ?_
        · omega
        intro w4 hS
        repeat (first | refine SemW.run tblOk ?_ | refine jA (by omega) ?_ | refine jB (by omega) ?_ | refine jC (by omega) ?_ | refine jD (by omega) ?_ | refine jE rfl ?_ | refine jF (by omega) ?_ | (refine jG ?_; first | with_reducible (first | refine jH ?_ | refine jI ?_ | refine jJ ?_ | refine jK ?_ | refine jL ?_) | refine jM (by omega) ?_ | refine jN (by omega) ?_ | with_reducible refine jM rfl ?_ | refine jM (by assumption) ?_ | refine jN (by assumption) ?_ | refine jM (by decide) ?_ | refine jN (by decide) ?_) | refine jF (ptr_ok tblOk rfl rfl) ?_ | refine jO (fun _ => by kernel_rfl) ?_ | refine jF (by decide) ?_ | refine hS.ldC rfl ?_ | refine hS.ldnC rfl ?_)
        refine St.stE (sz := 3) (cv := opDC) (fun _ => rfl) (fun _ => rfl) hS (k := P.length + U'.length) (by rw [List.length_set]; exact hi) ?_ ?_
        · omega
        intro w5 hS
        rw [hsw] at hS
        repeat (first | refine SemW.run tblOk ?_ | refine jA (by omega) ?_ | refine jB (by omega) ?_ | refine jC (by omega) ?_ | refine jD (by omega) ?_ | refine jE rfl ?_ | refine jF (by omega) ?_ | (refine jG ?_; first | with_reducible (first | refine jH ?_ | refine jI ?_ | refine jJ ?_ | refine jK ?_ | refine jL ?_) | refine jM (by omega) ?_ | refine jN (by omega) ?_ | with_reducible refine jM rfl ?_ | refine jM (by assumption) ?_ | refine jN (by assumption) ?_ | refine jM (by decide) ?_ | refine jN (by decide) ?_) | refine jF (ptr_ok tblOk rfl rfl) ?_ | refine jO (fun _ => by kernel_rfl) ?_ | refine jF (by decide) ?_)
        refine ⟨⟨U', u :: V⟩, ⟨rfl, rfl, rfl, rfl, rfl, by show _ = Value.int .i64 _; congr 1; simp only; omega, trivial⟩, ⟨⟨by rw [← hUV]; simp, ?_⟩, ?_⟩, by simp only; omega⟩
        · intro v hv
          rcases List.mem_cons.1 hv with rfl | hv
          · exact decide_eq_true hlt
          · exact hV v hv
        · have e3 : P ++ (U' ++ x :: (u :: V) ++ R) ++ S = P ++ U' ++ x :: u :: (V ++ R ++ S) := by simp
          simp only [e3]; exact hS
      · repeat (first | refine SemW.run tblOk ?_ | refine jA (by omega) ?_ | refine jB (by omega) ?_ | refine jC (by omega) ?_ | refine jD (by omega) ?_ | refine jE rfl ?_ | refine jF (by omega) ?_ | (refine jG ?_; first | with_reducible (first | refine jH ?_ | refine jI ?_ | refine jJ ?_ | refine jK ?_ | refine jL ?_) | refine jM (by omega) ?_ | refine jN (by omega) ?_ | with_reducible refine jM rfl ?_ | refine jM (by assumption) ?_ | refine jN (by assumption) ?_ | refine jM (by decide) ?_ | refine jN (by decide) ?_) | refine jF (ptr_ok tblOk rfl rfl) ?_ | refine jO (fun _ => by kernel_rfl) ?_ | refine jF (by decide) ?_)
        refine ⟨⟨U' ++ [u] ++ x :: V ++ R, k + 1⟩, ⟨rfl, rfl, rfl, rfl, by show _ = Value.int .i64 _; congr 1; simp only; omega, trivial⟩, ⟨⟨?_, by simp only; omega, ?_⟩, ?_⟩, by simp only; omega⟩
        · refine List.Perm.trans ?_ hp
          rw [← hUV]
          refine (List.Perm.append_right R (List.perm_middle)).trans ?_
          simp only [List.cons_append]
          exact List.perm_middle.symm
        · have e4 : (U' ++ [u] ++ x :: V ++ R).take (k + 1 + 1) = U' ++ [u] ++ x :: V := List.take_left' (by simp only [List.length_append, List.length_cons, List.length_nil]; omega)
          simp only [e4]
          rw [← hUV] at hs
          exact insert_sorted hO hs hV fun z hz => (by rw [List.getLast?_concat, Option.some.injEq] at hz; subst hz; exact decide_eq_false hlt)
        · rw [← e0] at hS; exact hS
  · repeat (first | refine SemW.run tblOk ?_ | refine jA (by omega) ?_ | refine jB (by omega) ?_ | refine jC (by omega) ?_ | refine jD (by omega) ?_ | refine jE rfl ?_ | refine jF (by omega) ?_ | (refine jG ?_; first | with_reducible (first | refine jH ?_ | refine jI ?_ | refine jJ ?_ | refine jK ?_ | refine jL ?_) | refine jM (by omega) ?_ | refine jN (by omega) ?_ | with_reducible refine jM rfl ?_ | refine jM (by assumption) ?_ | refine jN (by assumption) ?_ | refine jM (by decide) ?_ | refine jN (by decide) ?_) | refine jF (ptr_ok tblOk rfl rfl) ?_ | refine jO (fun _ => by kernel_rfl) ?_ | refine jF (by decide) ?_)
    refine ⟨M1, hp, ?_, hS⟩
    rw [List.take_of_length_le (by omega)] at hs
    exact hs
end Go.Proofs.YthpmmfapolcaiaaGreatDoor

/- Merging two stretches in place, one of them a single element. -/
namespace Go.Proofs.YthpmmfapolcaiaaGreatDoor
open Go Go.Eng Go.Proofs Go.Srt
set_option maxHeartbeats 8000000 in
theorem merge1_api_Op {fc : FuncId} {cm : OpM → OpM → Int} (hO : Ord fun x y => decide (cm x y < 0)) (hcm : ∀ (x y : OpM) (w : World), Cl Tryz.prog fc [opDV x, opDV y] w fun v w' => v = .int .i64 (cm x y) ∧ St w [] [] w') {w : World} {g cap len : Nat} {a m b : Int} {l P B S : List OpM} {x : OpM} {tail : List Value} (hh : Holds [(g, .cells ⟨l.flatMap opDC ++ tail⟩ T_api_Op (0, 0))] w) (hl : l = P ++ x :: B ++ S) (hlL : l.length = len) (hlen : len ≤ 16777216) (ha : a = P.length) (hm : m = P.length + 1) (hb : b = P.length + 1 + B.length) (hB : Srt (fun x y => decide (cm x y < 0)) B) :
    Cl Tryz.prog f_slices_symMergeCmpFunc_api_Op [.slice (some ⟨g, 0, none⟩) len cap, .int .i64 a, .int .i64 m, .int .i64 b, .func (.func fc) ⟨[]⟩ ⟨[]⟩] w fun _ w' => ∃ M', M'.Perm (x :: B) ∧ Srt (fun x y => decide (cm x y < 0)) M' ∧ St w [g] [(g, .cells ⟨(P ++ M' ++ S).flatMap opDC ++ tail⟩ T_api_Op (0, 0))] w' := by
  have hS : St w [g] [(g, .cells ⟨l.flatMap opDC ++ tail⟩ T_api_Op (0, 0))] w := St.enter hh
  have hll : len = P.length + 1 + B.length + S.length := by rw [← hlL, hl]; simp only [List.length_append, List.length_cons]; omega
  subst hl
  refine en_slices_symMergeCmpFunc_api_Op rfl ?_
  repeat (first | refine SemW.run tblOk ?_ | refine jA (by omega) ?_ | refine jB (by omega) ?_ | refine jC (by omega) ?_ | refine jD (by omega) ?_ | refine jE rfl ?_ | refine jF (by omega) ?_ | (refine jG ?_; first | with_reducible (first | refine jH ?_ | refine jI ?_ | refine jJ ?_ | refine jK ?_ | refine jL ?_) | refine jM (by omega) ?_ | refine jN (by omega) ?_ | with_reducible refine jM rfl ?_ | refine jM (by assumption) ?_ | refine jN (by assumption) ?_ | refine jM (by decide) ?_ | refine jN (by decide) ?_) | refine jF (ptr_ok tblOk rfl rfl) ?_ | refine jO (fun _ => by kernel_rfl) ?_ | refine jF (by decide) ?_)
  refine SemW.loop (fun x : Nat × Nat => [(0, .slice (some ⟨g, 0, none⟩) len cap), (1, .int .i64 a), (2, .int .i64 m), (3, .int .i64 b), (4, .func (.func fc) ⟨[]⟩ ⟨[]⟩), (10, .int .i64 (m + x.1)), (11, .int .i64 (m + x.2))])
    (fun z w' => (z.1 ≤ z.2 ∧ z.2 ≤ B.length ∧ (∀ u, (B.take z.1).getLast? = some u → cm u x < 0) ∧ (∀ v, (B.drop z.2).head? = some v → ¬ cm v x < 0)) ∧ St w [g] [(g, .cells ⟨(P ++ x :: B ++ S).flatMap opDC ++ tail⟩ T_api_Op (0, 0))] w') (fun z => z.2 - z.1) (0, B.length)
    ⟨rfl, rfl, rfl, rfl, rfl, by show _ = Value.int .i64 _; congr 1; simp only; omega, by show _ = Value.int .i64 _; congr 1; simp only; omega, trivial⟩ ⟨⟨Nat.zero_le _, Nat.le_refl _, by simp, by simp⟩, hS⟩ ?_
  clear hS
  rintro ⟨i, j⟩ w1 ⟨⟨hij, hj, h1, h2⟩, hS⟩
  simp only at hij hj h1 h2 hS ⊢
  by_cases hlt : i < j
  · repeat (first | refine SemW.run tblOk ?_ | refine jA (by omega) ?_ | refine jB (by omega) ?_ | refine jC (by omega) ?_ | refine jD (by omega) ?_ | refine jE rfl ?_ | refine jF (by omega) ?_ | (refine jG ?_; first | with_reducible (first | refine jH ?_ | refine jI ?_ | refine jJ ?_ | refine jK ?_ | refine jL ?_) | refine jM (by omega) ?_ | refine jN (by omega) ?_ | with_reducible refine jM rfl ?_ | refine jM (by assumption) ?_ | refine jN (by assumption) ?_ | refine jM (by decide) ?_ | refine jN (by decide) ?_) | refine jF (ptr_ok tblOk rfl rfl) ?_ | refine jO (fun _ => by kernel_rfl) ?_ | refine jF (by decide) ?_)
    obtain ⟨h, hh⟩ : ∃ h, h = (i + j) / 2 := ⟨_, rfl⟩
    have hi : P.length + 1 + h < (P ++ x :: B ++ S).length := by omega
    have hjj : P.length < (P ++ x :: B ++ S).length := by omega
    have hhB : h < B.length := by omega
    have e1 : (P ++ x :: B ++ S)[P.length + 1 + h] = B[h] := by
      have e3 : P ++ x :: B ++ S = (P ++ [x]) ++ B ++ S := by simp
      have e4 : (P ++ [x]).length = P.length + 1 := by simp
      have e5 : (P ++ x :: B ++ S)[P.length + 1 + h]? = some B[h] := by
        rw [e3, List.append_assoc, List.getElem?_append_right (by omega), e4, show P.length + 1 + h - (P.length + 1) = h by omega, List.getElem?_append_left hhB, List.getElem?_eq_getElem hhB]
      rw [List.getElem?_eq_getElem hi, Option.some.injEq] at e5
      exact e5
    have e2 : (P ++ x :: B ++ S)[P.length] = x := by
      have e3 : P ++ x :: B ++ S = P ++ x :: (B ++ S) := by simp
      have := get_mid P (B ++ S) x P.length (by rw [← e3]; exact hjj) rfl
      simp only [e3]; exact this
    refine IntG.half (r := m + h) (by omega) (by omega) ?_
    repeat (first | refine SemW.run tblOk ?_ | refine jA (by omega) ?_ | refine jB (by omega) ?_ | refine jC (by omega) ?_ | refine jD (by omega) ?_ | refine jE rfl ?_ | refine jF (by omega) ?_ | (refine jG ?_; first | with_reducible (first | refine jH ?_ | refine jI ?_ | refine jJ ?_ | refine jK ?_ | refine jL ?_) | refine jM (by omega) ?_ | refine jN (by omega) ?_ | with_reducible refine jM rfl ?_ | refine jM (by assumption) ?_ | refine jN (by assumption) ?_ | refine jM (by decide) ?_ | refine jN (by decide) ?_) | refine jF (ptr_ok tblOk rfl rfl) ?_ | refine jO (fun _ => by kernel_rfl) ?_ | refine jF (by decide) ?_)
    refine SemW.draw tblOk mixed (fun w' => St w [g] [(g, .cells ⟨(P ++ x :: B ++ S).flatMap opDC ++ tail⟩ T_api_Op (0, 0))] w') [9, 10] [0, 1, 2, 3, 4, 5, 6, 7, 8, 9, 10] (by kernel_rfl) hS.drew ?_
    have hS := hS.drew
    repeat (first | refine SemW.run tblOk ?_ | refine jA (by omega) ?_ | refine jB (by omega) ?_ | refine jC (by omega) ?_ | refine jD (by omega) ?_ | refine jE rfl ?_ | refine jF (by omega) ?_ | (refine jG ?_; first | with_reducible (first | refine jH ?_ | refine jI ?_ | refine jJ ?_ | refine jK ?_ | refine jL ?_) | refine jM (by omega) ?_ | refine jN (by omega) ?_ | with_reducible refine jM rfl ?_ | refine jM (by assumption) ?_ | refine jN (by assumption) ?_ | refine jM (by decide) ?_ | refine jN (by decide) ?_) | refine jF (ptr_ok tblOk rfl rfl) ?_ | refine jO (fun _ => by kernel_rfl) ?_ | refine jF (by decide) ?_ | refine hS.ldC rfl ?_ | refine hS.ldnC rfl ?_)
    refine St.ldEC (sz := 3) (cv := opDC) (fun _ => rfl) hS hi ?_ ?_
    · omega
    rw [e1]
    repeat (first | refine SemW.run tblOk ?_ | refine jA (by omega) ?_ | refine jB (by omega) ?_ | refine jC (by omega) ?_ | refine jD (by omega) ?_ | refine jE rfl ?_ | refine jF (by omega) ?_ | (refine jG ?_; first | with_reducible (first | refine jH ?_ | refine jI ?_ | refine jJ ?_ | refine jK ?_ | refine jL ?_) | refine jM (by omega) ?_ | refine jN (by omega) ?_ | with_reducible refine jM rfl ?_ | refine jM (by assumption) ?_ | refine jN (by assumption) ?_ | refine jM (by decide) ?_ | refine jN (by decide) ?_) | refine jF (ptr_ok tblOk rfl rfl) ?_ | refine jO (fun _ => by kernel_rfl) ?_ | refine jF (by decide) ?_ | refine hS.ldC rfl ?_ | refine hS.ldnC rfl ?_)
    refine St.ldEC (sz := 3) (cv := opDC) (fun _ => rfl) hS hjj ?_ ?_
    · omega
    rw [e2]
    repeat (first | refine SemW.run tblOk ?_ | refine jA (by omega) ?_ | refine jB (by omega) ?_ | refine jC (by omega) ?_ | refine jD (by omega) ?_ | refine jE rfl ?_ | refine jF (by omega) ?_ | (refine jG ?_; first | with_reducible (first | refine jH ?_ | refine jI ?_ | refine jJ ?_ | refine jK ?_ | refine jL ?_) | refine jM (by omega) ?_ | refine jN (by omega) ?_ | with_reducible refine jM rfl ?_ | refine jM (by assumption) ?_ | refine jN (by assumption) ?_ | refine jM (by decide) ?_ | refine jN (by decide) ?_) | refine jF (ptr_ok tblOk rfl rfl) ?_ | refine jO (fun _ => by kernel_rfl) ?_ | refine jF (by decide) ?_ | refine hS.ldC rfl ?_ | refine hS.ldnC rfl ?_)
    refine (hcm B[h] x _).mono ?_
    rintro _ w3 ⟨rfl, hS'⟩
    have hS := hS.call0 hS'
    by_cases hc : cm B[h] x < 0
    · repeat (first | refine SemW.run tblOk ?_ | refine jA (by omega) ?_ | refine jB (by omega) ?_ | refine jC (by omega) ?_ | refine jD (by omega) ?_ | refine jE rfl ?_ | refine jF (by omega) ?_ | (refine jG ?_; first | with_reducible (first | refine jH ?_ | refine jI ?_ | refine jJ ?_ | refine jK ?_ | refine jL ?_) | refine jM (by omega) ?_ | refine jN (by omega) ?_ | with_reducible refine jM rfl ?_ | refine jM (by assumption) ?_ | refine jN (by assumption) ?_ | refine jM (by decide) ?_ | refine jN (by decide) ?_) | refine jF (ptr_ok tblOk rfl rfl) ?_ | refine jO (fun _ => by kernel_rfl) ?_ | refine jF (by decide) ?_)
      refine ⟨(h + 1, j), ⟨rfl, rfl, rfl, rfl, rfl, by show _ = Value.int .i64 _; congr 1; simp only; omega, rfl, trivial⟩, ⟨⟨by simp only; omega, hj, fun u hu => ?_, h2⟩, hS⟩, by simp only; omega⟩
      rw [take_last hhB, Option.some.injEq] at hu; subst hu; exact hc
    · repeat (first | refine SemW.run tblOk ?_ | refine jA (by omega) ?_ | refine jB (by omega) ?_ | refine jC (by omega) ?_ | refine jD (by omega) ?_ | refine jE rfl ?_ | refine jF (by omega) ?_ | (refine jG ?_; first | with_reducible (first | refine jH ?_ | refine jI ?_ | refine jJ ?_ | refine jK ?_ | refine jL ?_) | refine jM (by omega) ?_ | refine jN (by omega) ?_ | with_reducible refine jM rfl ?_ | refine jM (by assumption) ?_ | refine jN (by assumption) ?_ | refine jM (by decide) ?_ | refine jN (by decide) ?_) | refine jF (ptr_ok tblOk rfl rfl) ?_ | refine jO (fun _ => by kernel_rfl) ?_ | refine jF (by decide) ?_)
      refine ⟨(i, h), ⟨rfl, rfl, rfl, rfl, rfl, rfl, rfl, trivial⟩, ⟨⟨by simp only; omega, by simp only; omega, h1, fun u hu => ?_⟩, hS⟩, by simp only; omega⟩
      rw [drop_head hhB, Option.some.injEq] at hu; subst hu; exact hc
  · have hij' : i = j := by omega
    subst hij'
    repeat (first | refine SemW.run tblOk ?_ | refine jA (by omega) ?_ | refine jB (by omega) ?_ | refine jC (by omega) ?_ | refine jD (by omega) ?_ | refine jE rfl ?_ | refine jF (by omega) ?_ | (refine jG ?_; first | with_reducible (first | refine jH ?_ | refine jI ?_ | refine jJ ?_ | refine jK ?_ | refine jL ?_) | refine jM (by omega) ?_ | refine jN (by omega) ?_ | with_reducible refine jM rfl ?_ | refine jM (by assumption) ?_ | refine jN (by assumption) ?_ | refine jM (by decide) ?_ | refine jN (by decide) ?_) | refine jF (ptr_ok tblOk rfl rfl) ?_ | refine jO (fun _ => by kernel_rfl) ?_ | refine jF (by decide) ?_)
    obtain ⟨B1, B2, rfl, hB1⟩ : ∃ B1 B2, B = B1 ++ B2 ∧ B1.length = i := ⟨B.take i, B.drop i, (List.take_append_drop _ _).symm, by rw [List.length_take]; omega⟩
    rw [List.take_left' hB1] at h1
    rw [List.drop_left' hB1] at h2
    rw [List.length_append] at hj hb hll
    refine SemW.loop (fun z : List OpM × List OpM => [(0, .slice (some ⟨g, 0, none⟩) len cap), (10, .int .i64 (m + i)), (13, .int .i64 (a + z.1.length))])
      (fun z w' => (z.1 ++ z.2 = B1) ∧ St w [g] [(g, .cells ⟨(P ++ z.1 ++ x :: (z.2 ++ B2 ++ S)).flatMap opDC ++ tail⟩ T_api_Op (0, 0))] w') (fun z => z.2.length) ([], B1)
      ⟨rfl, rfl, by show _ = Value.int .i64 _; congr 1; simp only [List.length_nil]; omega, trivial⟩ ⟨rfl, by simpa using hS⟩ ?_
    clear hS
    rintro ⟨V, W⟩ w2 ⟨hVW, hS⟩
    simp only at hVW hS ⊢
    have hVl : V.length + W.length = i := by rw [← hB1, ← hVW, List.length_append]
    cases W with
    | nil =>
      rw [List.append_nil] at hVW
      subst hVW
      rw [List.length_nil] at hVl
      repeat (first | refine SemW.run tblOk ?_ | refine jA (by omega) ?_ | refine jB (by omega) ?_ | refine jC (by omega) ?_ | refine jD (by omega) ?_ | refine jE rfl ?_ | refine jF (by omega) ?_ | (refine jG ?_; first | with_reducible (first | refine jH ?_ | refine jI ?_ | refine jJ ?_ | refine jK ?_ | refine jL ?_) | refine jM (by omega) ?_ | refine jN (by omega) ?_ | with_reducible refine jM rfl ?_ | refine jM (by assumption) ?_ | refine jN (by assumption) ?_ | refine jM (by decide) ?_ | refine jN (by decide) ?_) | refine jF (ptr_ok tblOk rfl rfl) ?_ | refine jO (fun _ => by kernel_rfl) ?_ | refine jF (by decide) ?_)
      refine ⟨V ++ x :: B2, List.perm_middle, insert_sorted' hO hB (fun u hu => decide_eq_true (h1 u hu)) (fun v hv => decide_eq_false (h2 v hv)), by simpa using hS⟩
    | cons y W =>
      rw [List.length_cons] at hVl
      have hcl : (P ++ V ++ x :: y :: (W ++ B2 ++ S)).length = len := by
        simp only [List.length_append, List.length_cons]; omega
      have hS : St w [g] [(g, .cells ⟨(P ++ V ++ x :: y :: (W ++ B2 ++ S)).flatMap opDC ++ tail⟩ T_api_Op (0, 0))] w2 := hS
      have hi : P.length + V.length < (P ++ V ++ x :: y :: (W ++ B2 ++ S)).length := by omega
      have hjj : P.length + V.length + 1 < (P ++ V ++ x :: y :: (W ++ B2 ++ S)).length := by omega
      have e1 : (P ++ V ++ x :: y :: (W ++ B2 ++ S))[P.length + V.length] = x := get_mid _ _ _ _ _ (by rw [List.length_append])
      have e2 : (P ++ V ++ x :: y :: (W ++ B2 ++ S))[P.length + V.length + 1] = y := get_adj _ _ _ _ _ _ (by rw [List.length_append])
      have hsw := swp_adj' (P ++ V) (W ++ B2 ++ S) x y (P.length + V.length) (by rw [List.length_append])
      repeat (first | refine SemW.run tblOk ?_ | refine jA (by omega) ?_ | refine jB (by omega) ?_ | refine jC (by omega) ?_ | refine jD (by omega) ?_ | refine jE rfl ?_ | refine jF (by omega) ?_ | (refine jG ?_; first | with_reducible (first | refine jH ?_ | refine jI ?_ | refine jJ ?_ | refine jK ?_ | refine jL ?_) | refine jM (by omega) ?_ | refine jN (by omega) ?_ | with_reducible refine jM rfl ?_ | refine jM (by assumption) ?_ | refine jN (by assumption) ?_ | refine jM (by decide) ?_ | refine jN (by decide) ?_) | refine jF (ptr_ok tblOk rfl rfl) ?_ | refine jO (fun _ => by kernel_rfl) ?_ | refine jF (by decide) ?_)
      refine SemW.draw tblOk mixed (fun w' => St w [g] [(g, .cells ⟨(P ++ V ++ x :: y :: (W ++ B2 ++ S)).flatMap opDC ++ tail⟩ T_api_Op (0, 0))] w') [2, 3, 4, 15, 16, 17] [2, 3, 4, 0, 1, 5, 6, 7, 8, 9, 10, 11, 12, 13, 14, 15, 16, 17] (by kernel_rfl) hS.drew ?_
      have hS := hS.drew
      repeat (first | refine SemW.run tblOk ?_ | refine jA (by omega) ?_ | refine jB (by omega) ?_ | refine jC (by omega) ?_ | refine jD (by omega) ?_ | refine jE rfl ?_ | refine jF (by omega) ?_ | (refine jG ?_; first | with_reducible (first | refine jH ?_ | refine jI ?_ | refine jJ ?_ | refine jK ?_ | refine jL ?_) | refine jM (by omega) ?_ | refine jN (by omega) ?_ | with_reducible refine jM rfl ?_ | refine jM (by assumption) ?_ | refine jN (by assumption) ?_ | refine jM (by decide) ?_ | refine jN (by decide) ?_) | refine jF (ptr_ok tblOk rfl rfl) ?_ | refine jO (fun _ => by kernel_rfl) ?_ | refine jF (by decide) ?_ | refine hS.ldC rfl ?_ | refine hS.ldnC rfl ?_)
      refine St.ldEC (sz := 3) (cv := opDC) (fun _ => rfl) hS hjj ?_ ?_
      · omega
      rw [e2]
      repeat (first | refine SemW.run tblOk ?_ | refine jA (by omega) ?_ | refine jB (by omega) ?_ | refine jC (by omega) ?_ | refine jD (by omega) ?_ | refine jE rfl ?_ | refine jF (by omega) ?_ | (refine jG ?_; first | with_reducible (first | refine jH ?_ | refine jI ?_ | refine jJ ?_ | refine jK ?_ | refine jL ?_) | refine jM (by omega) ?_ | refine jN (by omega) ?_ | with_reducible refine jM rfl ?_ | refine jM (by assumption) ?_ | refine jN (by assumption) ?_ | refine jM (by decide) ?_ | refine jN (by decide) ?_) | refine jF (ptr_ok tblOk rfl rfl) ?_ | refine jO (fun _ => by kernel_rfl) ?_ | refine jF (by decide) ?_ | refine hS.ldC rfl ?_ | refine hS.ldnC rfl ?_)
      refine St.ldEC (sz := 3) (cv := opDC) (fun _ => rfl) hS hi ?_ ?_
      · omega
      rw [e1]
      repeat (first | refine SemW.run tblOk ?_ | refine jA (by omega) ?_ | refine jB (by omega) ?_ | refine jC (by omega) ?_ | refine jD (by omega) ?_ | refine jE rfl ?_ | refine jF (by omega) ?_ | (refine jG ?_; first | with_reducible (first | refine jH ?_ | refine jI ?_ | refine jJ ?_ | refine jK ?_ | refine jL ?_) | refine jM (by omega) ?_ | refine jN (by omega) ?_ | with_reducible refine jM rfl ?_ | refine jM (by assumption) ?_ | refine jN (by assumption) ?_ | refine jM (by decide) ?_ | refine jN (by decide) ?_) | refine jF (ptr_ok tblOk rfl rfl) ?_ | refine jO (fun _ => by kernel_rfl) ?_ | refine jF (by decide) ?_ | refine hS.ldC rfl ?_ | refine hS.ldnC rfl ?_)
      refine St.stE (sz := 3) (cv := opDC) (fun _ => rfl) (fun _ => rfl) hS hi ?_ ?_
      · omega
      intro w4 hS
      repeat (first | refine SemW.run tblOk ?_ | refine jA (by omega) ?_ | refine jB (by omega) ?_ | refine jC (by omega) ?_ | refine jD (by omega) ?_ | refine jE rfl ?_ | refine jF (by omega) ?_ | (refine jG ?_; first | with_reducible (first | refine jH ?_ | refine jI ?_ | refine jJ ?_ | refine jK ?_ | refine jL ?_) | refine jM (by omega) ?_ | refine jN (by omega) ?_ | with_reducible refine jM rfl ?_ | refine jM (by assumption) ?_ | refine jN (by assumption) ?_ | refine jM (by decide) ?_ | refine jN (by decide) ?_) | refine jF (ptr_ok tblOk rfl rfl) ?_ | refine jO (fun _ => by kernel_rfl) ?_ | refine jF (by decide) ?_ | refine hS.ldC rfl ?_ | refine hS.ldnC rfl ?_)
      refine St.stE (sz := 3) (cv := opDC) (fun _ => rfl) (fun _ => rfl) hS (k := P.length + V.length + 1) (by rw [List.length_set]; exact hjj) ?_ ?_
      · omega
      intro w5 hS
      rw [hsw] at hS
      repeat (first | refine SemW.run tblOk ?_ | refine jA (by omega) ?_ | refine jB (by omega) ?_ | refine jC (by omega) ?_ | refine jD (by omega) ?_ | refine jE rfl ?_ | refine jF (by omega) ?_ | (refine jG ?_; first | with_reducible (first | refine jH ?_ | refine jI ?_ | refine jJ ?_ | refine jK ?_ | refine jL ?_) | refine jM (by omega) ?_ | refine jN (by omega) ?_ | with_reducible refine jM rfl ?_ | refine jM (by assumption) ?_ | refine jN (by assumption) ?_ | refine jM (by decide) ?_ | refine jN (by decide) ?_) | refine jF (ptr_ok tblOk rfl rfl) ?_ | refine jO (fun _ => by kernel_rfl) ?_ | refine jF (by decide) ?_)
      refine ⟨(V ++ [y], W), ⟨rfl, rfl, by show _ = Value.int .i64 _; congr 1; simp only [List.length_append, List.length_cons, List.length_nil]; omega, trivial⟩, ⟨by rw [← hVW]; simp, ?_⟩, by simp only [List.length_cons]; omega⟩
      have e3 : P ++ (V ++ [y]) ++ x :: (W ++ B2 ++ S) = P ++ V ++ y :: x :: (W ++ B2 ++ S) := by simp
      simp only [e3]; exact hS
set_option maxHeartbeats 8000000 in
theorem merge2_api_Op {fc : FuncId} {cm : OpM → OpM → Int} (hO : Ord fun x y => decide (cm x y < 0)) (hcm : ∀ (x y : OpM) (w : World), Cl Tryz.prog fc [opDV x, opDV y] w fun v w' => v = .int .i64 (cm x y) ∧ St w [] [] w') {w : World} {g cap len : Nat} {a m b : Int} {l P A S : List OpM} {y : OpM} {tail : List Value} (hh : Holds [(g, .cells ⟨l.flatMap opDC ++ tail⟩ T_api_Op (0, 0))] w) (hl : l = P ++ A ++ y :: S) (hlL : l.length = len) (hlen : len ≤ 16777216) (ha : a = P.length) (hm : m = P.length + A.length) (hb : b = P.length + A.length + 1) (hA : Srt (fun x y => decide (cm x y < 0)) A) (hA2 : 2 ≤ A.length) :
    Cl Tryz.prog f_slices_symMergeCmpFunc_api_Op [.slice (some ⟨g, 0, none⟩) len cap, .int .i64 a, .int .i64 m, .int .i64 b, .func (.func fc) ⟨[]⟩ ⟨[]⟩] w fun _ w' => ∃ M', M'.Perm (A ++ [y]) ∧ Srt (fun x y => decide (cm x y < 0)) M' ∧ St w [g] [(g, .cells ⟨(P ++ M' ++ S).flatMap opDC ++ tail⟩ T_api_Op (0, 0))] w' := by
  have hS : St w [g] [(g, .cells ⟨l.flatMap opDC ++ tail⟩ T_api_Op (0, 0))] w := St.enter hh
  have hll : len = P.length + A.length + 1 + S.length := by rw [← hlL, hl]; simp only [List.length_append, List.length_cons]; omega
  subst hl
  refine en_slices_symMergeCmpFunc_api_Op rfl ?_
  repeat (first | refine SemW.run tblOk ?_ | refine jA (by omega) ?_ | refine jB (by omega) ?_ | refine jC (by omega) ?_ | refine jD (by omega) ?_ | refine jE rfl ?_ | refine jF (by omega) ?_ | (refine jG ?_; first | with_reducible (first | refine jH ?_ | refine jI ?_ | refine jJ ?_ | refine jK ?_ | refine jL ?_) | refine jM (by omega) ?_ | refine jN (by omega) ?_ | with_reducible refine jM rfl ?_ | refine jM (by assumption) ?_ | refine jN (by assumption) ?_ | refine jM (by decide) ?_ | refine jN (by decide) ?_) | refine jF (ptr_ok tblOk rfl rfl) ?_ | refine jO (fun _ => by kernel_rfl) ?_ | refine jF (by decide) ?_)
  refine SemW.loop (fun x : Nat × Nat => [(0, .slice (some ⟨g, 0, none⟩) len cap), (1, .int .i64 a), (2, .int .i64 m), (3, .int .i64 b), (4, .func (.func fc) ⟨[]⟩ ⟨[]⟩), (14, .int .i64 (a + x.1)), (15, .int .i64 (a + x.2))])
    (fun z w' => (z.1 ≤ z.2 ∧ z.2 ≤ A.length ∧ (∀ u, (A.take z.1).getLast? = some u → ¬ cm y u < 0) ∧ (∀ v, (A.drop z.2).head? = some v → cm y v < 0)) ∧ St w [g] [(g, .cells ⟨(P ++ A ++ y :: S).flatMap opDC ++ tail⟩ T_api_Op (0, 0))] w') (fun z => z.2 - z.1) (0, A.length)
    ⟨rfl, rfl, rfl, rfl, rfl, by show _ = Value.int .i64 _; congr 1; simp only; omega, by show _ = Value.int .i64 _; congr 1; simp only; omega, trivial⟩ ⟨⟨Nat.zero_le _, Nat.le_refl _, by simp, by simp⟩, hS⟩ ?_
  clear hS
  rintro ⟨i, j⟩ w1 ⟨⟨hij, hj, h1, h2⟩, hS⟩
  simp only at hij hj h1 h2 hS ⊢
  by_cases hlt : i < j
  · repeat (first | refine SemW.run tblOk ?_ | refine jA (by omega) ?_ | refine jB (by omega) ?_ | refine jC (by omega) ?_ | refine jD (by omega) ?_ | refine jE rfl ?_ | refine jF (by omega) ?_ | (refine jG ?_; first | with_reducible (first | refine jH ?_ | refine jI ?_ | refine jJ ?_ | refine jK ?_ | refine jL ?_) | refine jM (by omega) ?_ | refine jN (by omega) ?_ | with_reducible refine jM rfl ?_ | refine jM (by assumption) ?_ | refine jN (by assumption) ?_ | refine jM (by decide) ?_ | refine jN (by decide) ?_) | refine jF (ptr_ok tblOk rfl rfl) ?_ | refine jO (fun _ => by kernel_rfl) ?_ | refine jF (by decide) ?_)
    obtain ⟨h, hh⟩ : ∃ h, h = (i + j) / 2 := ⟨_, rfl⟩
    have hi : P.length + A.length < (P ++ A ++ y :: S).length := by omega
    have hjj : P.length + h < (P ++ A ++ y :: S).length := by omega
    have hhA : h < A.length := by omega
    have e1 : (P ++ A ++ y :: S)[P.length + A.length] = y := get_mid _ _ _ _ _ (by rw [List.length_append])
    have e2 : (P ++ A ++ y :: S)[P.length + h] = A[h] := by
      have e5 : (P ++ A ++ y :: S)[P.length + h]? = some A[h] := by
        rw [List.append_assoc, List.getElem?_append_right (by omega), show P.length + h - P.length = h by omega, List.getElem?_append_left hhA, List.getElem?_eq_getElem hhA]
      rw [List.getElem?_eq_getElem hjj, Option.some.injEq] at e5
      exact e5
    refine IntG.half (r := a + h) (by omega) (by omega) ?_
    repeat (first | refine SemW.run tblOk ?_ | refine jA (by omega) ?_ | refine jB (by omega) ?_ | refine jC (by omega) ?_ | refine jD (by omega) ?_ | refine jE rfl ?_ | refine jF (by omega) ?_ | (refine jG ?_; first | with_reducible (first | refine jH ?_ | refine jI ?_ | refine jJ ?_ | refine jK ?_ | refine jL ?_) | refine jM (by omega) ?_ | refine jN (by omega) ?_ | with_reducible refine jM rfl ?_ | refine jM (by assumption) ?_ | refine jN (by assumption) ?_ | refine jM (by decide) ?_ | refine jN (by decide) ?_) | refine jF (ptr_ok tblOk rfl rfl) ?_ | refine jO (fun _ => by kernel_rfl) ?_ | refine jF (by decide) ?_)
    refine SemW.draw tblOk mixed (fun w' => St w [g] [(g, .cells ⟨(P ++ A ++ y :: S).flatMap opDC ++ tail⟩ T_api_Op (0, 0))] w') [9, 10, 11] [0, 1, 2, 3, 4, 5, 6, 7, 8, 9, 10, 11] (by kernel_rfl) hS.drew ?_
    have hS := hS.drew
    repeat (first | refine SemW.run tblOk ?_ | refine jA (by omega) ?_ | refine jB (by omega) ?_ | refine jC (by omega) ?_ | refine jD (by omega) ?_ | refine jE rfl ?_ | refine jF (by omega) ?_ | (refine jG ?_; first | with_reducible (first | refine jH ?_ | refine jI ?_ | refine jJ ?_ | refine jK ?_ | refine jL ?_) | refine jM (by omega) ?_ | refine jN (by omega) ?_ | with_reducible refine jM rfl ?_ | refine jM (by assumption) ?_ | refine jN (by assumption) ?_ | refine jM (by decide) ?_ | refine jN (by decide) ?_) | refine jF (ptr_ok tblOk rfl rfl) ?_ | refine jO (fun _ => by kernel_rfl) ?_ | refine jF (by decide) ?_ | refine hS.ldC rfl ?_ | refine hS.ldnC rfl ?_)
    refine St.ldEC (sz := 3) (cv := opDC) (fun _ => rfl) hS hi ?_ ?_
    · omega
    rw [e1]
    repeat (first | refine SemW.run tblOk ?_ | refine jA (by omega) ?_ | refine jB (by omega) ?_ | refine jC (by omega) ?_ | refine jD (by omega) ?_ | refine jE rfl ?_ | refine jF (by omega) ?_ | (refine jG ?_; first | with_reducible (first | refine jH ?_ | refine jI ?_ | refine jJ ?_ | refine jK ?_ | refine jL ?_) | refine jM (by omega) ?_ | refine jN (by omega) ?_ | with_reducible refine jM rfl ?_ | refine jM (by assumption) ?_ | refine jN (by assumption) ?_ | refine jM (by decide) ?_ | refine jN (by decide) ?_) | refine jF (ptr_ok tblOk rfl rfl) ?_ | refine jO (fun _ => by kernel_rfl) ?_ | refine jF (by decide) ?_ | refine hS.ldC rfl ?_ | refine hS.ldnC rfl ?_)
    refine St.ldEC (sz := 3) (cv := opDC) (fun _ => rfl) hS hjj ?_ ?_
    · omega
    rw [e2]
    repeat (first | refine SemW.run tblOk ?_ | refine jA (by omega) ?_ | refine jB (by omega) ?_ | refine jC (by omega) ?_ | refine jD (by omega) ?_ | refine jE rfl ?_ | refine jF (by omega) ?_ | (refine jG ?_; first | with_reducible (first | refine jH ?_ | refine jI ?_ | refine jJ ?_ | refine jK ?_ | refine jL ?_) | refine jM (by omega) ?_ | refine jN (by omega) ?_ | with_reducible refine jM rfl ?_ | refine jM (by assumption) ?_ | refine jN (by assumption) ?_ | refine jM (by decide) ?_ | refine jN (by decide) ?_) | refine jF (ptr_ok tblOk rfl rfl) ?_ | refine jO (fun _ => by kernel_rfl) ?_ | refine jF (by decide) ?_ | refine hS.ldC rfl ?_ | refine hS.ldnC rfl ?_)
    refine (hcm y A[h] _).mono ?_
    rintro _ w3 ⟨rfl, hS'⟩
    have hS := hS.call0 hS'
    by_cases hc : cm y A[h] < 0
    · repeat (first | refine SemW.run tblOk ?_ | refine jA (by omega) ?_ | refine jB (by omega) ?_ | refine jC (by omega) ?_ | refine jD (by omega) ?_ | refine jE rfl ?_ | refine jF (by omega) ?_ | (refine jG ?_; first | with_reducible (first | refine jH ?_ | refine jI ?_ | refine jJ ?_ | refine jK ?_ | refine jL ?_) | refine jM (by omega) ?_ | refine jN (by omega) ?_ | with_reducible refine jM rfl ?_ | refine jM (by assumption) ?_ | refine jN (by assumption) ?_ | refine jM (by decide) ?_ | refine jN (by decide) ?_) | refine jF (ptr_ok tblOk rfl rfl) ?_ | refine jO (fun _ => by kernel_rfl) ?_ | refine jF (by decide) ?_)
      refine ⟨(i, h), ⟨rfl, rfl, rfl, rfl, rfl, rfl, rfl, trivial⟩, ⟨⟨by simp only; omega, by simp only; omega, h1, fun u hu => ?_⟩, hS⟩, by simp only; omega⟩
      rw [drop_head hhA, Option.some.injEq] at hu; subst hu; exact hc
    · repeat (first | refine SemW.run tblOk ?_ | refine jA (by omega) ?_ | refine jB (by omega) ?_ | refine jC (by omega) ?_ | refine jD (by omega) ?_ | refine jE rfl ?_ | refine jF (by omega) ?_ | (refine jG ?_; first | with_reducible (first | refine jH ?_ | refine jI ?_ | refine jJ ?_ | refine jK ?_ | refine jL ?_) | refine jM (by omega) ?_ | refine jN (by omega) ?_ | with_reducible refine jM rfl ?_ | refine jM (by assumption) ?_ | refine jN (by assumption) ?_ | refine jM (by decide) ?_ | refine jN (by decide) ?_) | refine jF (ptr_ok tblOk rfl rfl) ?_ | refine jO (fun _ => by kernel_rfl) ?_ | refine jF (by decide) ?_)
      refine ⟨(h + 1, j), ⟨rfl, rfl, rfl, rfl, rfl, by show _ = Value.int .i64 _; congr 1; simp only; omega, rfl, trivial⟩, ⟨⟨by simp only; omega, hj, fun u hu => ?_, h2⟩, hS⟩, by simp only; omega⟩
      rw [take_last hhA, Option.some.injEq] at hu; subst hu; exact hc
  · have hij' : i = j := by omega
    subst hij'
    repeat (first | refine SemW.run tblOk ?_ | refine jA (by omega) ?_ | refine jB (by omega) ?_ | refine jC (by omega) ?_ | refine jD (by omega) ?_ | refine jE rfl ?_ | refine jF (by omega) ?_ | (refine jG ?_; first | with_reducible (first | refine jH ?_ | refine jI ?_ | refine jJ ?_ | refine jK ?_ | refine jL ?_) | refine jM (by omega) ?_ | refine jN (by omega) ?_ | with_reducible refine jM rfl ?_ | refine jM (by assumption) ?_ | refine jN (by assumption) ?_ | refine jM (by decide) ?_ | refine jN (by decide) ?_) | refine jF (ptr_ok tblOk rfl rfl) ?_ | refine jO (fun _ => by kernel_rfl) ?_ | refine jF (by decide) ?_)
    obtain ⟨A1, A2, rfl, hA1⟩ : ∃ A1 A2, A = A1 ++ A2 ∧ A1.length = i := ⟨A.take i, A.drop i, (List.take_append_drop _ _).symm, by rw [List.length_take]; omega⟩
    rw [List.take_left' hA1] at h1
    rw [List.drop_left' hA1] at h2
    rw [List.length_append] at hj hb hll hm
    refine SemW.loop (fun z : List OpM × List OpM => [(0, .slice (some ⟨g, 0, none⟩) len cap), (14, .int .i64 (a + i)), (17, .int .i64 (a + i + z.1.length))])
      (fun z w' => (z.1 ++ z.2 = A2) ∧ St w [g] [(g, .cells ⟨(P ++ A1 ++ z.1 ++ y :: (z.2 ++ S)).flatMap opDC ++ tail⟩ T_api_Op (0, 0))] w') (fun z => z.1.length) (A2, [])
      ⟨rfl, rfl, by show _ = Value.int .i64 _; congr 1; simp only; omega, trivial⟩ ⟨by simp, by simpa using hS⟩ ?_
    clear hS
    rintro ⟨V, W⟩ w2 ⟨hVW, hS⟩
    simp only at hVW hS ⊢
    have hVl : V.length + W.length = A2.length := by rw [← hVW, List.length_append]
    by_cases hV : V = []
    · subst hV
      rw [List.nil_append] at hVW
      subst hVW
      simp only [List.length_nil]
      repeat (first | refine SemW.run tblOk ?_ | refine jA (by omega) ?_ | refine jB (by omega) ?_ | refine jC (by omega) ?_ | refine jD (by omega) ?_ | refine jE rfl ?_ | refine jF (by omega) ?_ | (refine jG ?_; first | with_reducible (first | refine jH ?_ | refine jI ?_ | refine jJ ?_ | refine jK ?_ | refine jL ?_) | refine jM (by omega) ?_ | refine jN (by omega) ?_ | with_reducible refine jM rfl ?_ | refine jM (by assumption) ?_ | refine jN (by assumption) ?_ | refine jM (by decide) ?_ | refine jN (by decide) ?_) | refine jF (ptr_ok tblOk rfl rfl) ?_ | refine jO (fun _ => by kernel_rfl) ?_ | refine jF (by decide) ?_)
      refine ⟨A1 ++ y :: W, List.perm_middle.trans (List.perm_append_singleton y (A1 ++ W)).symm, insert_sortedR hO hA (fun u hu => decide_eq_false (h1 u hu)) (fun v hv => decide_eq_true (h2 v hv)), by simpa using hS⟩
    · obtain ⟨V', x, rfl⟩ : ∃ V' x, V = V' ++ [x] := ⟨V.dropLast, V.getLast hV, (List.dropLast_concat_getLast hV).symm⟩
      have hVx : (V' ++ [x]).length = V'.length + 1 := by simp
      rw [hVx] at hVl ⊢
      have e0 : P ++ A1 ++ (V' ++ [x]) ++ y :: (W ++ S) = P ++ A1 ++ V' ++ x :: y :: (W ++ S) := by simp
      rw [e0] at hS
      have hcl : (P ++ A1 ++ V' ++ x :: y :: (W ++ S)).length = len := by
        simp only [List.length_append, List.length_cons]; omega
      have hn : P.length + A1.length + V'.length = (P ++ A1 ++ V').length := by simp only [List.length_append]
      have hi : P.length + A1.length + V'.length < (P ++ A1 ++ V' ++ x :: y :: (W ++ S)).length := by omega
      have hjj : P.length + A1.length + V'.length + 1 < (P ++ A1 ++ V' ++ x :: y :: (W ++ S)).length := by omega
      have e1 : (P ++ A1 ++ V' ++ x :: y :: (W ++ S))[P.length + A1.length + V'.length] = x := get_mid _ _ _ _ _ hn
      have e2 : (P ++ A1 ++ V' ++ x :: y :: (W ++ S))[P.length + A1.length + V'.length + 1] = y := get_adj _ _ _ _ _ _ (by rw [hn])
      have hsw := swp_adj (P ++ A1 ++ V') (W ++ S) x y (P.length + A1.length + V'.length) hn
      repeat (first | refine SemW.run tblOk ?_ | refine jA (by omega) ?_ | refine jB (by omega) ?_ | refine jC (by omega) ?_ | refine jD (by omega) ?_ | refine jE rfl ?_ | refine jF (by omega) ?_ | (refine jG ?_; first | with_reducible (first | refine jH ?_ | refine jI ?_ | refine jJ ?_ | refine jK ?_ | refine jL ?_) | refine jM (by omega) ?_ | refine jN (by omega) ?_ | with_reducible refine jM rfl ?_ | refine jM (by assumption) ?_ | refine jN (by assumption) ?_ | refine jM (by decide) ?_ | refine jN (by decide) ?_) | refine jF (ptr_ok tblOk rfl rfl) ?_ | refine jO (fun _ => by kernel_rfl) ?_ | refine jF (by decide) ?_)
      refine SemW.draw tblOk mixed (fun w' => St w [g] [(g, .cells ⟨(P ++ A1 ++ V' ++ x :: y :: (W ++ S)).flatMap opDC ++ tail⟩ T_api_Op (0, 0))] w') [2, 3, 4, 15, 16, 17] [2, 3, 4, 0, 1, 5, 6, 7, 8, 9, 10, 11, 12, 13, 14, 15, 16, 17] (by kernel_rfl) hS.drew ?_
      have hS := hS.drew
      repeat (first | refine SemW.run tblOk ?_ | refine jA (by omega) ?_ | refine jB (by omega) ?_ | refine jC (by omega) ?_ | refine jD (by omega) ?_ | refine jE rfl ?_ | refine jF (by omega) ?_ | (refine jG ?_; first | with_reducible (first | refine jH ?_ | refine jI ?_ | refine jJ ?_ | refine jK ?_ | refine jL ?_) | refine jM (by omega) ?_ | refine jN (by omega) ?_ | with_reducible refine jM rfl ?_ | refine jM (by assumption) ?_ | refine jN (by assumption) ?_ | refine jM (by decide) ?_ | refine jN (by decide) ?_) | refine jF (ptr_ok tblOk rfl rfl) ?_ | refine jO (fun _ => by kernel_rfl) ?_ | refine jF (by decide) ?_ | refine hS.ldC rfl ?_ | refine hS.ldnC rfl ?_)
      refine St.ldEC (sz := 3) (cv := opDC) (fun _ => rfl) hS hi ?_ ?_
      · omega
      rw [e1]
      repeat (first | refine SemW.run tblOk ?_ | refine jA (by omega) ?_ | refine jB (by omega) ?_ | refine jC (by omega) ?_ | refine jD (by omega) ?_ | refine jE rfl ?_ | refine jF (by omega) ?_ | (refine jG ?_; first | with_reducible (first | refine jH ?_ | refine jI ?_ | refine jJ ?_ | refine jK ?_ | refine jL ?_) | refine jM (by omega) ?_ | refine jN (by omega) ?_ | with_reducible refine jM rfl ?_ | refine jM (by assumption) ?_ | refine jN (by assumption) ?_ | refine jM (by decide) ?_ | refine jN (by decide) ?_) | refine jF (ptr_ok tblOk rfl rfl) ?_ | refine jO (fun _ => by kernel_rfl) ?_ | refine jF (by decide) ?_ | refine hS.ldC rfl ?_ | refine hS.ldnC rfl ?_)
      refine St.ldEC (sz := 3) (cv := opDC) (fun _ => rfl) hS hjj ?_ ?_
      · omega
      rw [e2]
      repeat (first | refine SemW.run tblOk ?_ | refine jA (by omega) ?_ | refine jB (by omega) ?_ | refine jC (by omega) ?_ | refine jD (by omega) ?_ | refine jE rfl ?_ | refine jF (by omega) ?_ | (refine jG ?_; first | with_reducible (first | refine jH ?_ | refine jI ?_ | refine jJ ?_ | refine jK ?_ | refine jL ?_) | refine jM (by omega) ?_ | refine jN (by omega) ?_ | with_reducible refine jM rfl ?_ | refine jM (by assumption) ?_ | refine jN (by assumption) ?_ | refine jM (by decide) ?_ | refine jN (by decide) ?_) | refine jF (ptr_ok tblOk rfl rfl) ?_ | refine jO (fun _ => by kernel_rfl) ?_ | refine jF (by decide) ?_ | refine hS.ldC rfl ?_ | refine hS.ldnC rfl ?_)
      refine St.stE (sz := 3) (cv := opDC) (fun _ => rfl) (fun _ => rfl) hS hjj ?_ ?_
      · omega
      intro w4 hS
      repeat (first | refine SemW.run tblOk ?_ | refine jA (by omega) ?_ | refine jB (by omega) ?_ | refine jC (by omega) ?_ | refine jD (by omega) ?_ | refine jE rfl ?_ | refine jF (by omega) ?_ | (refine jG ?_; first | with_reducible (first | refine jH ?_ | refine jI ?_ | refine jJ ?_ | refine jK ?_ | refine jL ?_) | refine jM (by omega) ?_ | refine jN (by omega) ?_ | with_reducible refine jM rfl ?_ | refine jM (by assumption) ?_ | refine jN (by assumption) ?_ | refine jM (by decide) ?_ | refine jN (by decide) ?_) | refine jF (ptr_ok tblOk rfl rfl) ?_ | refine jO (fun _ => by kernel_rfl) ?_ | refine jF (by decide) ?_ | refine hS.ldC rfl ?_ | refine hS.ldnC rfl ?_)
      refine St.stE (sz := 3) (cv := opDC) (fun _ => rfl) (fun _ => rfl) hS (k := P.length + A1.length + V'.length) (by rw [List.length_set]; exact hi) ?_ ?_
      · omega
      intro w5 hS
      rw [hsw] at hS
      repeat (first | refine SemW.run tblOk ?_ | refine jA (by omega) ?_ | refine jB (by omega) ?_ | refine jC (by omega) ?_ | refine jD (by omega) ?_ | refine jE rfl ?_ | refine jF (by omega) ?_ | (refine jG ?_; first | with_reducible (first | refine jH ?_ | refine jI ?_ | refine jJ ?_ | refine jK ?_ | refine jL ?_) | refine jM (by omega) ?_ | refine jN (by omega) ?_ | with_reducible refine jM rfl ?_ | refine jM (by assumption) ?_ | refine jN (by assumption) ?_ | refine jM (by decide) ?_ | refine jN (by decide) ?_) | refine jF (ptr_ok tblOk rfl rfl) ?_ | refine jO (fun _ => by kernel_rfl) ?_ | refine jF (by decide) ?_)
      refine ⟨(V', x :: W), ⟨rfl, rfl, by show _ = Value.int .i64 _; congr 1; simp only; omega, trivial⟩, ⟨by rw [← hVW]; simp, hS⟩, by simp only; omega⟩
end Go.Proofs.YthpmmfapolcaiaaGreatDoor

/- Merging two stretches in place. -/
namespace Go.Proofs.YthpmmfapolcaiaaGreatDoor
open Go Go.Eng Go.Proofs Go.Srt
set_option maxRecDepth 4000 in
set_option maxHeartbeats 16000000 in
theorem merge_api_Op {fc : FuncId} {cm : OpM → OpM → Int} (hO : Ord fun x y => decide (cm x y < 0)) (hcm : ∀ (x y : OpM) (w : World), Cl Tryz.prog fc [opDV x, opDV y] w fun v w' => v = .int .i64 (cm x y) ∧ St w [] [] w') {g cap len : Nat} {tail : List Value} (hlen : len ≤ 16777216) : ∀ (N : Nat) {w : World} {a m b : Int} {l P A B S : List OpM}, Holds [(g, .cells ⟨l.flatMap opDC ++ tail⟩ T_api_Op (0, 0))] w → l = P ++ A ++ B ++ S → l.length = len → a = P.length → m = P.length + A.length → b = P.length + A.length + B.length → Srt (fun x y => decide (cm x y < 0)) A → Srt (fun x y => decide (cm x y < 0)) B → 1 ≤ A.length → 1 ≤ B.length → A.length + B.length ≤ N →
    Cl Tryz.prog f_slices_symMergeCmpFunc_api_Op [.slice (some ⟨g, 0, none⟩) len cap, .int .i64 a, .int .i64 m, .int .i64 b, .func (.func fc) ⟨[]⟩ ⟨[]⟩] w fun _ w' => ∃ M', M'.Perm (A ++ B) ∧ Srt (fun x y => decide (cm x y < 0)) M' ∧ St w [g] [(g, .cells ⟨(P ++ M' ++ S).flatMap opDC ++ tail⟩ T_api_Op (0, 0))] w' := by
  intro N
  induction N with
  | zero => intro w a m b l P A B S hh hl hlL ha hm hb hA hB hA1 hB1 hN; omega
  | succ N ih =>
  intro w a m b l P A B S hh hl hlL ha hm hb hA hB hA1 hB1 hN
  by_cases c1 : A.length = 1
  · obtain ⟨x, rfl⟩ := List.length_eq_one_iff.1 c1
    rw [List.length_singleton] at hm hb
    exact merge1_api_Op hO hcm hh (by rw [hl]; simp) hlL hlen ha hm hb hB
  by_cases c2 : B.length = 1
  · obtain ⟨y, rfl⟩ := List.length_eq_one_iff.1 c2
    rw [List.length_singleton] at hb
    exact merge2_api_Op hO hcm hh (by rw [hl]; simp) hlL hlen ha hm hb hA (by omega)
  have hS : St w [g] [(g, .cells ⟨l.flatMap opDC ++ tail⟩ T_api_Op (0, 0))] w := St.enter hh
  have hll : len = P.length + A.length + B.length + S.length := by rw [← hlL, hl]; simp only [List.length_append]
  have hat1 : ∀ c (hc : c < A.length) (h : P.length + c < (P ++ A ++ B ++ S).length), (P ++ A ++ B ++ S)[P.length + c] = A[c] := by
    intro c hc h
    have e5 : (P ++ A ++ B ++ S)[P.length + c]? = some A[c] := by
      rw [List.append_assoc, List.append_assoc, List.getElem?_append_right (by omega), show P.length + c - P.length = c by omega, List.getElem?_append_left hc, List.getElem?_eq_getElem hc]
    rw [List.getElem?_eq_getElem h, Option.some.injEq] at e5
    exact e5
  have hat2 : ∀ c (hc : c < B.length) (h : P.length + A.length + c < (P ++ A ++ B ++ S).length), (P ++ A ++ B ++ S)[P.length + A.length + c] = B[c] := by
    intro c hc h
    have hPA : (P ++ A).length = P.length + A.length := List.length_append
    have e5 : (P ++ A ++ B ++ S)[P.length + A.length + c]? = some B[c] := by
      rw [List.append_assoc (P ++ A), List.getElem?_append_right (by omega), hPA, show P.length + A.length + c - (P.length + A.length) = c by omega, List.getElem?_append_left hc, List.getElem?_eq_getElem hc]
    rw [List.getElem?_eq_getElem h, Option.some.injEq] at e5
    exact e5
  subst hl
  obtain ⟨d, hd⟩ : ∃ d, d = (A.length + B.length) / 2 := ⟨_, rfl⟩
  -- the search: s0, r0 are its ends, counted from a
  obtain ⟨s0, r0, hsr⟩ : ∃ s0 r0 : Nat, (d < A.length → s0 = d + A.length - (A.length + B.length) ∧ r0 = d) ∧ (A.length ≤ d → s0 = 0 ∧ r0 = A.length) := by
    by_cases h : d < A.length
    · exact ⟨d + A.length - (A.length + B.length), d, fun _ => ⟨rfl, rfl⟩, fun h' => absurd h' (by omega)⟩
    · exact ⟨0, A.length, fun h' => absurd h' h, fun _ => ⟨rfl, rfl⟩⟩
  refine en_slices_symMergeCmpFunc_api_Op rfl ?_
  repeat (first | refine SemW.run tblOk ?_ | refine jA (by omega) ?_ | refine jB (by omega) ?_ | refine jC (by omega) ?_ | refine jD (by omega) ?_ | refine jE rfl ?_ | refine jF (by omega) ?_ | (refine jG ?_; first | with_reducible (first | refine jH ?_ | refine jI ?_ | refine jJ ?_ | refine jK ?_ | refine jL ?_) | refine jM (by omega) ?_ | refine jN (by omega) ?_ | with_reducible refine jM rfl ?_ | refine jM (by assumption) ?_ | refine jN (by assumption) ?_ | refine jM (by decide) ?_ | refine jN (by decide) ?_) | refine jF (ptr_ok tblOk rfl rfl) ?_ | refine jO (fun _ => by kernel_rfl) ?_ | refine jF (by decide) ?_)
  refine IntG.half (r := a + d) (by omega) (by omega) ?_
  repeat (first | refine SemW.run tblOk ?_ | refine jA (by omega) ?_ | refine jB (by omega) ?_ | refine jC (by omega) ?_ | refine jD (by omega) ?_ | refine jE rfl ?_ | refine jF (by omega) ?_ | (refine jG ?_; first | with_reducible (first | refine jH ?_ | refine jI ?_ | refine jJ ?_ | refine jK ?_ | refine jL ?_) | refine jM (by omega) ?_ | refine jN (by omega) ?_ | with_reducible refine jM rfl ?_ | refine jM (by assumption) ?_ | refine jN (by assumption) ?_ | refine jM (by decide) ?_ | refine jN (by decide) ?_) | refine jF (ptr_ok tblOk rfl rfl) ?_ | refine jO (fun _ => by kernel_rfl) ?_ | refine jF (by decide) ?_)
  by_cases hdA : d < A.length
  all_goals
    have hs0 : s0 ≤ r0 ∧ r0 ≤ d ∧ r0 ≤ A.length ∧ d - s0 ≤ B.length := by omega
    repeat (first | refine SemW.run tblOk ?_ | refine jA (by omega) ?_ | refine jB (by omega) ?_ | refine jC (by omega) ?_ | refine jD (by omega) ?_ | refine jE rfl ?_ | refine jF (by omega) ?_ | (refine jG ?_; first | with_reducible (first | refine jH ?_ | refine jI ?_ | refine jJ ?_ | refine jK ?_ | refine jL ?_) | refine jM (by omega) ?_ | refine jN (by omega) ?_ | with_reducible refine jM rfl ?_ | refine jM (by assumption) ?_ | refine jN (by assumption) ?_ | refine jM (by decide) ?_ | refine jN (by decide) ?_) | refine jF (ptr_ok tblOk rfl rfl) ?_ | refine jO (fun _ => by kernel_rfl) ?_ | refine jF (by decide) ?_)
    refine SemW.loop (fun z : Nat × Nat => [(0, .slice (some ⟨g, 0, none⟩) len cap), (1, .int .i64 a), (2, .int .i64 m), (3, .int .i64 b), (4, .func (.func fc) ⟨[]⟩ ⟨[]⟩), (18, .int .i64 (a + d)), (19, .int .i64 (a + d + m)), (20, .int .i64 (a + z.1)), (21, .int .i64 (a + z.2)), (22, .int .i64 (a + d + m - 1))])
      (fun z w' => (s0 ≤ z.1 ∧ z.1 ≤ z.2 ∧ z.2 ≤ r0 ∧ EdgeL (fun x y => decide (cm x y < 0)) A B d z.1 s0 ∧ EdgeR (fun x y => decide (cm x y < 0)) A B d z.2 r0) ∧ St w [g] [(g, .cells ⟨(P ++ A ++ B ++ S).flatMap opDC ++ tail⟩ T_api_Op (0, 0))] w') (fun z => z.2 - z.1) (s0, r0)
      ⟨rfl, rfl, rfl, rfl, rfl, rfl, rfl, by show _ = Value.int .i64 _; congr 1; simp only; omega, by show _ = Value.int .i64 _; congr 1; simp only; omega, rfl, trivial⟩ ⟨⟨Nat.le_refl _, hs0.1, Nat.le_refl _, .inl rfl, .inl rfl⟩, hS⟩ ?_
    clear hS
    rintro ⟨s, r⟩ w1 ⟨⟨q1, q2, q3, E1, E2⟩, hS⟩
    simp only at q1 q2 q3 E1 E2 hS ⊢
    by_cases hlt : s < r
    · repeat (first | refine SemW.run tblOk ?_ | refine jA (by omega) ?_ | refine jB (by omega) ?_ | refine jC (by omega) ?_ | refine jD (by omega) ?_ | refine jE rfl ?_ | refine jF (by omega) ?_ | (refine jG ?_; first | with_reducible (first | refine jH ?_ | refine jI ?_ | refine jJ ?_ | refine jK ?_ | refine jL ?_) | refine jM (by omega) ?_ | refine jN (by omega) ?_ | with_reducible refine jM rfl ?_ | refine jM (by assumption) ?_ | refine jN (by assumption) ?_ | refine jM (by decide) ?_ | refine jN (by decide) ?_) | refine jF (ptr_ok tblOk rfl rfl) ?_ | refine jO (fun _ => by kernel_rfl) ?_ | refine jF (by decide) ?_)
      obtain ⟨c, hc⟩ : ∃ c, c = (s + r) / 2 := ⟨_, rfl⟩
      have hcA : c < A.length := by omega
      have hcB : d - 1 - c < B.length := by omega
      have hi : P.length + A.length + (d - 1 - c) < (P ++ A ++ B ++ S).length := by omega
      have hj : P.length + c < (P ++ A ++ B ++ S).length := by omega
      have e1 := hat2 _ hcB hi
      have e2 := hat1 _ hcA hj
      refine IntG.half (r := a + c) (by omega) (by omega) ?_
      repeat (first | refine SemW.run tblOk ?_ | refine jA (by omega) ?_ | refine jB (by omega) ?_ | refine jC (by omega) ?_ | refine jD (by omega) ?_ | refine jE rfl ?_ | refine jF (by omega) ?_ | (refine jG ?_; first | with_reducible (first | refine jH ?_ | refine jI ?_ | refine jJ ?_ | refine jK ?_ | refine jL ?_) | refine jM (by omega) ?_ | refine jN (by omega) ?_ | with_reducible refine jM rfl ?_ | refine jM (by assumption) ?_ | refine jN (by assumption) ?_ | refine jM (by decide) ?_ | refine jN (by decide) ?_) | refine jF (ptr_ok tblOk rfl rfl) ?_ | refine jO (fun _ => by kernel_rfl) ?_ | refine jF (by decide) ?_)
      refine SemW.draw tblOk mixed (fun w' => St w [g] [(g, .cells ⟨(P ++ A ++ B ++ S).flatMap opDC ++ tail⟩ T_api_Op (0, 0))] w') [11, 12, 13] [0, 1, 2, 3, 4, 5, 6, 7, 8, 9, 10, 11, 12, 13] (by kernel_rfl) hS.drew ?_
      have hS := hS.drew
      repeat (first | refine SemW.run tblOk ?_ | refine jA (by omega) ?_ | refine jB (by omega) ?_ | refine jC (by omega) ?_ | refine jD (by omega) ?_ | refine jE rfl ?_ | refine jF (by omega) ?_ | (refine jG ?_; first | with_reducible (first | refine jH ?_ | refine jI ?_ | refine jJ ?_ | refine jK ?_ | refine jL ?_) | refine jM (by omega) ?_ | refine jN (by omega) ?_ | with_reducible refine jM rfl ?_ | refine jM (by assumption) ?_ | refine jN (by assumption) ?_ | refine jM (by decide) ?_ | refine jN (by decide) ?_) | refine jF (ptr_ok tblOk rfl rfl) ?_ | refine jO (fun _ => by kernel_rfl) ?_ | refine jF (by decide) ?_ | refine hS.ldC rfl ?_ | refine hS.ldnC rfl ?_)
      refine St.ldEC (sz := 3) (cv := opDC) (fun _ => rfl) hS hi ?_ ?_
      · omega
      rw [e1]
      repeat (first | refine SemW.run tblOk ?_ | refine jA (by omega) ?_ | refine jB (by omega) ?_ | refine jC (by omega) ?_ | refine jD (by omega) ?_ | refine jE rfl ?_ | refine jF (by omega) ?_ | (refine jG ?_; first | with_reducible (first | refine jH ?_ | refine jI ?_ | refine jJ ?_ | refine jK ?_ | refine jL ?_) | refine jM (by omega) ?_ | refine jN (by omega) ?_ | with_reducible refine jM rfl ?_ | refine jM (by assumption) ?_ | refine jN (by assumption) ?_ | refine jM (by decide) ?_ | refine jN (by decide) ?_) | refine jF (ptr_ok tblOk rfl rfl) ?_ | refine jO (fun _ => by kernel_rfl) ?_ | refine jF (by decide) ?_ | refine hS.ldC rfl ?_ | refine hS.ldnC rfl ?_)
      refine St.ldEC (sz := 3) (cv := opDC) (fun _ => rfl) hS hj ?_ ?_
      · omega
      rw [e2]
      repeat (first | refine SemW.run tblOk ?_ | refine jA (by omega) ?_ | refine jB (by omega) ?_ | refine jC (by omega) ?_ | refine jD (by omega) ?_ | refine jE rfl ?_ | refine jF (by omega) ?_ | (refine jG ?_; first | with_reducible (first | refine jH ?_ | refine jI ?_ | refine jJ ?_ | refine jK ?_ | refine jL ?_) | refine jM (by omega) ?_ | refine jN (by omega) ?_ | with_reducible refine jM rfl ?_ | refine jM (by assumption) ?_ | refine jN (by assumption) ?_ | refine jM (by decide) ?_ | refine jN (by decide) ?_) | refine jF (ptr_ok tblOk rfl rfl) ?_ | refine jO (fun _ => by kernel_rfl) ?_ | refine jF (by decide) ?_ | refine hS.ldC rfl ?_ | refine hS.ldnC rfl ?_)
      refine (hcm B[d - 1 - c] A[c] _).mono ?_
      rintro _ w3 ⟨rfl, hS'⟩
      have hS := hS.call0 hS'
      by_cases hcc : cm B[d - 1 - c] A[c] < 0
      · repeat (first | refine SemW.run tblOk ?_ | refine jA (by omega) ?_ | refine jB (by omega) ?_ | refine jC (by omega) ?_ | refine jD (by omega) ?_ | refine jE rfl ?_ | refine jF (by omega) ?_ | (refine jG ?_; first | with_reducible (first | refine jH ?_ | refine jI ?_ | refine jJ ?_ | refine jK ?_ | refine jL ?_) | refine jM (by omega) ?_ | refine jN (by omega) ?_ | with_reducible refine jM rfl ?_ | refine jM (by assumption) ?_ | refine jN (by assumption) ?_ | refine jM (by decide) ?_ | refine jN (by decide) ?_) | refine jF (ptr_ok tblOk rfl rfl) ?_ | refine jO (fun _ => by kernel_rfl) ?_ | refine jF (by decide) ?_)
        refine ⟨(s, c), ⟨rfl, rfl, rfl, rfl, rfl, rfl, rfl, rfl, rfl, rfl, trivial⟩, ⟨⟨q1, by simp only; omega, by simp only; omega, E1, .inr ⟨A[c], B[d - 1 - c], List.getElem?_eq_getElem hcA, ?_, decide_eq_true hcc⟩⟩, hS⟩, by simp only; omega⟩
        rw [show d - c - 1 = d - 1 - c by omega]; exact List.getElem?_eq_getElem hcB
      · repeat (first | refine SemW.run tblOk ?_ | refine jA (by omega) ?_ | refine jB (by omega) ?_ | refine jC (by omega) ?_ | refine jD (by omega) ?_ | refine jE rfl ?_ | refine jF (by omega) ?_ | (refine jG ?_; first | with_reducible (first | refine jH ?_ | refine jI ?_ | refine jJ ?_ | refine jK ?_ | refine jL ?_) | refine jM (by omega) ?_ | refine jN (by omega) ?_ | with_reducible refine jM rfl ?_ | refine jM (by assumption) ?_ | refine jN (by assumption) ?_ | refine jM (by decide) ?_ | refine jN (by decide) ?_) | refine jF (ptr_ok tblOk rfl rfl) ?_ | refine jO (fun _ => by kernel_rfl) ?_ | refine jF (by decide) ?_)
        refine ⟨(c + 1, r), ⟨rfl, rfl, rfl, rfl, rfl, rfl, rfl, by show _ = Value.int .i64 _; congr 1; simp only; omega, rfl, rfl, trivial⟩, ⟨⟨by simp only; omega, by simp only; omega, q3, .inr ⟨A[c], B[d - 1 - c], ?_, ?_, decide_eq_false hcc⟩, E2⟩, hS⟩, by simp only; omega⟩
        · rw [Nat.add_sub_cancel]; exact List.getElem?_eq_getElem hcA
        · rw [show d - (c + 1) = d - 1 - c by omega]; exact List.getElem?_eq_getElem hcB
    · have hsr' : r = s := by omega
      subst hsr'
      obtain ⟨A1, A2, rfl, hA1'⟩ : ∃ A1 A2, A = A1 ++ A2 ∧ A1.length = r := ⟨A.take r, A.drop r, (List.take_append_drop _ _).symm, by rw [List.length_take]; omega⟩
      obtain ⟨B1, B2, rfl, hB1'⟩ : ∃ B1 B2, B = B1 ++ B2 ∧ B1.length = d - r := ⟨B.take (d - r), B.drop (d - r), (List.take_append_drop _ _).symm, by rw [List.length_take]; omega⟩
      have k1 : ∀ x y, A1.getLast? = some x → B2.head? = some y → decide (cm y x < 0) = false := by
        intro x y hx hy
        have hx0 : 0 < A1.length := by cases A1 with | nil => cases hx | cons => simp
        have hy0 : 0 < B2.length := by cases B2 with | nil => cases hy | cons => simp
        rw [List.length_append] at hs0 hsr
        rw [List.length_append] at hs0 hsr
        rcases E1 with h | ⟨x', y', h1, h2, h3⟩
        · omega
        · rw [List.getLast?_eq_getElem?] at hx
          rw [List.head?_eq_getElem?] at hy
          rw [List.getElem?_append_left (by omega), ← hA1', hx, Option.some.injEq] at h1
          rw [List.getElem?_append_right (by omega), hB1', Nat.sub_self, hy, Option.some.injEq] at h2
          subst h1 h2; exact h3
      have k2 : ∀ x y, B1.getLast? = some x → A2.head? = some y → decide (cm x y < 0) = true := by
        intro x y hx hy
        have hx0 : 0 < B1.length := by cases B1 with | nil => cases hx | cons => simp
        have hy0 : 0 < A2.length := by cases A2 with | nil => cases hy | cons => simp
        rw [List.length_append] at hs0 hsr
        rw [List.length_append] at hs0 hsr
        rcases E2 with h | ⟨x', y', h1, h2, h3⟩
        · omega
        · rw [List.getLast?_eq_getElem?] at hx
          rw [List.head?_eq_getElem?] at hy
          rw [List.getElem?_append_right (by omega), hA1', Nat.sub_self, hy, Option.some.injEq] at h1
          rw [List.getElem?_append_left (by omega), ← hB1', hx, Option.some.injEq] at h2
          subst h1 h2; exact h3
      have hsp := split_ok hO hA hB k1 k2
      clear k1 k2 E1 E2 hat1 hat2
      simp only [List.length_append] at hm hb hll hN hd hA1 hB1 hs0 hdA c1 c2
      clear hsr
      have hlL2 : (P ++ (A1 ++ B1) ++ (A2 ++ B2) ++ S).length = len := by simp only [List.length_append]; omega
      have hn1 : (P ++ A1).length = P.length + A1.length := List.length_append
      rcases Nat.eq_zero_or_pos A1.length with z1 | z1 <;> rcases Nat.eq_zero_or_pos A2.length with z2 | z2 <;> rcases Nat.eq_zero_or_pos B1.length with z3 | z3 <;> rcases Nat.eq_zero_or_pos B2.length with z4 | z4 <;> try (exfalso; omega)
      all_goals
        repeat (first | refine SemW.run tblOk ?_ | refine jA (by omega) ?_ | refine jB (by omega) ?_ | refine jC (by omega) ?_ | refine jD (by omega) ?_ | refine jE rfl ?_ | refine jF (by omega) ?_ | (refine jG ?_; first | with_reducible (first | refine jH ?_ | refine jI ?_ | refine jJ ?_ | refine jK ?_ | refine jL ?_) | refine jM (by omega) ?_ | refine jN (by omega) ?_ | with_reducible refine jM rfl ?_ | refine jM (by assumption) ?_ | refine jN (by assumption) ?_ | refine jM (by decide) ?_ | refine jN (by decide) ?_) | refine jF (ptr_ok tblOk rfl rfl) ?_ | refine jO (fun _ => by kernel_rfl) ?_ | refine jF (by decide) ?_)
        first
        | refine (rotate_api_Op hS.holds (P := P ++ A1) (U := A2) (V := B1) (S := B2 ++ S) (by simp only [List.append_assoc]) hlL hlen (by omega) (by omega) (by omega) z2 z3).mono ?_
          intro _ w2 hS'
          have hS := hS.call1 hS'
          have e9 : P ++ A1 ++ B1 ++ A2 ++ (B2 ++ S) = P ++ (A1 ++ B1) ++ (A2 ++ B2) ++ S := by simp only [List.append_assoc]
          rw [e9] at hS
          repeat (first | refine SemW.run tblOk ?_ | refine jA (by omega) ?_ | refine jB (by omega) ?_ | refine jC (by omega) ?_ | refine jD (by omega) ?_ | refine jE rfl ?_ | refine jF (by omega) ?_ | (refine jG ?_; first | with_reducible (first | refine jH ?_ | refine jI ?_ | refine jJ ?_ | refine jK ?_ | refine jL ?_) | refine jM (by omega) ?_ | refine jN (by omega) ?_ | with_reducible refine jM rfl ?_ | refine jM (by assumption) ?_ | refine jN (by assumption) ?_ | refine jM (by decide) ?_ | refine jN (by decide) ?_) | refine jF (ptr_ok tblOk rfl rfl) ?_ | refine jO (fun _ => by kernel_rfl) ?_ | refine jF (by decide) ?_)
        | rw [noRot (by omega)] at hS
        first
        | refine (ih hS.holds (P := P) (A := A1) (B := B1) (S := (A2 ++ B2) ++ S) (by simp only [List.append_assoc]) hlL2 ha (by omega) (by omega) hA.left hB.left z1 z3 (by omega)).mono ?_
          rintro _ w3 ⟨L1, p1, s1, hS'⟩
          have hS := hS.call1 hS'
          rw [← List.append_assoc (P ++ L1) (A2 ++ B2) S] at hS
          repeat (first | refine SemW.run tblOk ?_ | refine jA (by omega) ?_ | refine jB (by omega) ?_ | refine jC (by omega) ?_ | refine jD (by omega) ?_ | refine jE rfl ?_ | refine jF (by omega) ?_ | (refine jG ?_; first | with_reducible (first | refine jH ?_ | refine jI ?_ | refine jJ ?_ | refine jK ?_ | refine jL ?_) | refine jM (by omega) ?_ | refine jN (by omega) ?_ | with_reducible refine jM rfl ?_ | refine jM (by assumption) ?_ | refine jN (by assumption) ?_ | refine jM (by decide) ?_ | refine jN (by decide) ?_) | refine jF (ptr_ok tblOk rfl rfl) ?_ | refine jO (fun _ => by kernel_rfl) ?_ | refine jF (by decide) ?_)
        | obtain ⟨L1, p1, s1, eL⟩ : ∃ L1, L1.Perm (A1 ++ B1) ∧ Srt (fun x y => decide (cm x y < 0)) L1 ∧ L1 = A1 ++ B1 := ⟨_, List.Perm.refl _, oneSrt (by omega) hA hB, rfl⟩
          rw [← eL] at hS
        have hL1 := p1.length_eq
        rw [List.length_append] at hL1
        have hlL3 : (P ++ L1 ++ (A2 ++ B2) ++ S).length = len := by simp only [List.length_append]; omega
        have hn2 : (P ++ L1).length = P.length + L1.length := List.length_append
        first
        | refine (ih hS.holds (P := P ++ L1) (A := A2) (B := B2) (S := S) (by simp only [List.append_assoc]) hlL3 (by omega) (by omega) (by omega) hA.right hB.right z2 z4 (by omega)).mono ?_
          rintro _ w4 ⟨R1, p2, s2, hS'⟩
          have hS := hS.call1 hS'
          repeat (first | refine SemW.run tblOk ?_ | refine jA (by omega) ?_ | refine jB (by omega) ?_ | refine jC (by omega) ?_ | refine jD (by omega) ?_ | refine jE rfl ?_ | refine jF (by omega) ?_ | (refine jG ?_; first | with_reducible (first | refine jH ?_ | refine jI ?_ | refine jJ ?_ | refine jK ?_ | refine jL ?_) | refine jM (by omega) ?_ | refine jN (by omega) ?_ | with_reducible refine jM rfl ?_ | refine jM (by assumption) ?_ | refine jN (by assumption) ?_ | refine jM (by decide) ?_ | refine jN (by decide) ?_) | refine jF (ptr_ok tblOk rfl rfl) ?_ | refine jO (fun _ => by kernel_rfl) ?_ | refine jF (by decide) ?_)
        | obtain ⟨R1, p2, s2, eR⟩ : ∃ R1, R1.Perm (A2 ++ B2) ∧ Srt (fun x y => decide (cm x y < 0)) R1 ∧ R1 = A2 ++ B2 := ⟨_, List.Perm.refl _, oneSrt' (by omega) hA hB, rfl⟩
          rw [← eR] at hS
        refine ⟨L1 ++ R1, halves_perm p1 p2, s1.app s2 fun x hx y hy => hsp x (p1.mem_iff.1 hx) y (p2.mem_iff.1 hy), ?_⟩
        rw [← List.append_assoc P L1 R1]
        exact hS
end Go.Proofs.YthpmmfapolcaiaaGreatDoor

/- The stable sort, in place. -/
namespace Go.Proofs.YthpmmfapolcaiaaGreatDoor
open Go Go.Eng Go.Proofs Go.Srt
structure ST_api_Op where
  bs : List (List OpM)
  R : List OpM
structure SU_api_Op where
  l : List OpM
  n : Nat
set_option maxRecDepth 4000 in
set_option maxHeartbeats 16000000 in
theorem stable_api_Op {fc : FuncId} {cm : OpM → OpM → Int} (hO : Ord fun x y => decide (cm x y < 0)) (hcm : ∀ (x y : OpM) (w : World), Cl Tryz.prog fc [opDV x, opDV y] w fun v w' => v = .int .i64 (cm x y) ∧ St w [] [] w') {w : World} {g cap len : Nat} {l : List OpM} {tail : List Value} (hh : Holds [(g, .cells ⟨l.flatMap opDC ++ tail⟩ T_api_Op (0, 0))] w) (hlL : l.length = len) (hlen : len ≤ 16777216) :
    Cl Tryz.prog f_slices_stableCmpFunc_api_Op [.slice (some ⟨g, 0, none⟩) len cap, .int .i64 len, .func (.func fc) ⟨[]⟩ ⟨[]⟩] w fun _ w' => ∃ l', l'.Perm l ∧ Srt (fun x y => decide (cm x y < 0)) l' ∧ St w [g] [(g, .cells ⟨l'.flatMap opDC ++ tail⟩ T_api_Op (0, 0))] w' := by
  have hS : St w [g] [(g, .cells ⟨l.flatMap opDC ++ tail⟩ T_api_Op (0, 0))] w := St.enter hh
  refine en_slices_stableCmpFunc_api_Op rfl ?_
  repeat (first | refine SemW.run tblOk ?_ | refine jA (by omega) ?_ | refine jB (by omega) ?_ | refine jC (by omega) ?_ | refine jD (by omega) ?_ | refine jE rfl ?_ | refine jF (by omega) ?_ | (refine jG ?_; first | with_reducible (first | refine jH ?_ | refine jI ?_ | refine jJ ?_ | refine jK ?_ | refine jL ?_) | refine jM (by omega) ?_ | refine jN (by omega) ?_ | with_reducible refine jM rfl ?_ | refine jM (by assumption) ?_ | refine jN (by assumption) ?_ | refine jM (by decide) ?_ | refine jN (by decide) ?_) | refine jF (ptr_ok tblOk rfl rfl) ?_ | refine jO (fun _ => by kernel_rfl) ?_ | refine jF (by decide) ?_)
  refine SemW.loop (fun x : ST_api_Op => [(0, .slice (some ⟨g, 0, none⟩) len cap), (1, .int .i64 len), (2, .func (.func fc) ⟨[]⟩ ⟨[]⟩), (6, .int .i64 20), (7, .int .i64 x.bs.flatten.length), (8, .int .i64 (x.bs.flatten.length + 20))])
    (fun x w' => ((x.bs.flatten ++ x.R).Perm l ∧ Full (fun x y => decide (cm x y < 0)) 20 x.bs) ∧ St w [g] [(g, .cells ⟨(x.bs.flatten ++ x.R).flatMap opDC ++ tail⟩ T_api_Op (0, 0))] w') (fun x => x.R.length) ⟨[], l⟩
    ⟨rfl, rfl, rfl, rfl, rfl, rfl, trivial⟩ ⟨⟨List.Perm.refl _, nofun⟩, hS⟩ ?_
  clear hS
  rintro ⟨bs, R⟩ w1 ⟨⟨hp, hf⟩, hS⟩
  simp only at hp hf hS ⊢
  have hpl := hp.length_eq
  rw [List.length_append] at hpl
  generalize hbl : bs.flatten.length = q at hpl ⊢
  by_cases hle : 20 ≤ R.length
  · obtain ⟨X, R', rfl, hX⟩ : ∃ X R', R = X ++ R' ∧ X.length = 20 := ⟨R.take 20, R.drop 20, (List.take_append_drop _ _).symm, by rw [List.length_take]; omega⟩
    rw [List.length_append] at hpl
    repeat (first | refine SemW.run tblOk ?_ | refine jA (by omega) ?_ | refine jB (by omega) ?_ | refine jC (by omega) ?_ | refine jD (by omega) ?_ | refine jE rfl ?_ | refine jF (by omega) ?_ | (refine jG ?_; first | with_reducible (first | refine jH ?_ | refine jI ?_ | refine jJ ?_ | refine jK ?_ | refine jL ?_) | refine jM (by omega) ?_ | refine jN (by omega) ?_ | with_reducible refine jM rfl ?_ | refine jM (by assumption) ?_ | refine jN (by assumption) ?_ | refine jM (by decide) ?_ | refine jN (by decide) ?_) | refine jF (ptr_ok tblOk rfl rfl) ?_ | refine jO (fun _ => by kernel_rfl) ?_ | refine jF (by decide) ?_)
    refine (insertion_api_Op hO hcm hS.holds (P := bs.flatten) (M := X) (S := R') (by simp only [List.append_assoc]) (hp.length_eq.trans hlL) hlen (by omega) (by omega)).mono ?_
    rintro _ w2 ⟨X', p1, s1, hS'⟩
    have hS := hS.call1 hS'
    have e1 : (bs ++ [X']).flatten = bs.flatten ++ X' := by simp
    have hXl := p1.length_eq
    have e2 : (bs ++ [X']).flatten.length = q + 20 := by rw [e1, List.length_append]; omega
    repeat (first | refine SemW.run tblOk ?_ | refine jA (by omega) ?_ | refine jB (by omega) ?_ | refine jC (by omega) ?_ | refine jD (by omega) ?_ | refine jE rfl ?_ | refine jF (by omega) ?_ | (refine jG ?_; first | with_reducible (first | refine jH ?_ | refine jI ?_ | refine jJ ?_ | refine jK ?_ | refine jL ?_) | refine jM (by omega) ?_ | refine jN (by omega) ?_ | with_reducible refine jM rfl ?_ | refine jM (by assumption) ?_ | refine jN (by assumption) ?_ | refine jM (by decide) ?_ | refine jN (by decide) ?_) | refine jF (ptr_ok tblOk rfl rfl) ?_ | refine jO (fun _ => by kernel_rfl) ?_ | refine jF (by decide) ?_)
    refine ⟨⟨bs ++ [X'], R'⟩, ⟨rfl, rfl, rfl, rfl, by show _ = Value.int .i64 _; congr 1; simp only; omega, by show _ = Value.int .i64 _; congr 1; simp only; omega, trivial⟩, ⟨⟨?_, hf.snoc (by omega) s1⟩, ?_⟩, by simp only [List.length_append]; omega⟩
    · simp only [e1]
      refine List.Perm.trans ?_ hp
      rw [List.append_assoc]
      exact (p1.append_right R').append_left _
    · simp only [e1]; exact hS
  · repeat (first | refine SemW.run tblOk ?_ | refine jA (by omega) ?_ | refine jB (by omega) ?_ | refine jC (by omega) ?_ | refine jD (by omega) ?_ | refine jE rfl ?_ | refine jF (by omega) ?_ | (refine jG ?_; first | with_reducible (first | refine jH ?_ | refine jI ?_ | refine jJ ?_ | refine jK ?_ | refine jL ?_) | refine jM (by omega) ?_ | refine jN (by omega) ?_ | with_reducible refine jM rfl ?_ | refine jM (by assumption) ?_ | refine jN (by assumption) ?_ | refine jM (by decide) ?_ | refine jN (by decide) ?_) | refine jF (ptr_ok tblOk rfl rfl) ?_ | refine jO (fun _ => by kernel_rfl) ?_ | refine jF (by decide) ?_)
    refine (insertion_api_Op hO hcm hS.holds (P := bs.flatten) (M := R) (S := []) (by rw [List.append_nil]) (hp.length_eq.trans hlL) hlen (by omega) (by omega)).mono ?_
    rintro _ w2 ⟨R1, p1, s1, hS'⟩
    have hS := hS.call1 hS'
    rw [List.append_nil] at hS
    have hRl := p1.length_eq
    have hp1 : (bs.flatten ++ R1).Perm l := (p1.append_left _).trans hp
    have hc : Cks (fun x y => decide (cm x y < 0)) 20 (bs.flatten ++ R1) := ⟨bs, R1, rfl, hf, by omega, s1⟩
    generalize bs.flatten ++ R1 = l1 at hS hc hp1
    clear hRl p1 s1 hpl hbl hf hp hle
    repeat (first | refine SemW.run tblOk ?_ | refine jA (by omega) ?_ | refine jB (by omega) ?_ | refine jC (by omega) ?_ | refine jD (by omega) ?_ | refine jE rfl ?_ | refine jF (by omega) ?_ | (refine jG ?_; first | with_reducible (first | refine jH ?_ | refine jI ?_ | refine jJ ?_ | refine jK ?_ | refine jL ?_) | refine jM (by omega) ?_ | refine jN (by omega) ?_ | with_reducible refine jM rfl ?_ | refine jM (by assumption) ?_ | refine jN (by assumption) ?_ | refine jM (by decide) ?_ | refine jN (by decide) ?_) | refine jF (ptr_ok tblOk rfl rfl) ?_ | refine jO (fun _ => by kernel_rfl) ?_ | refine jF (by decide) ?_)
    refine SemW.loop (fun x : SU_api_Op => [(0, .slice (some ⟨g, 0, none⟩) len cap), (1, .int .i64 len), (2, .func (.func fc) ⟨[]⟩ ⟨[]⟩), (6, .int .i64 x.n)])
      (fun x w' => (x.l.Perm l ∧ Cks (fun x y => decide (cm x y < 0)) x.n x.l ∧ 1 ≤ x.n) ∧ St w [g] [(g, .cells ⟨x.l.flatMap opDC ++ tail⟩ T_api_Op (0, 0))] w') (fun x => len - x.n) ⟨l1, 20⟩
      ⟨rfl, rfl, rfl, rfl, trivial⟩ ⟨⟨hp1, hc, by simp only; omega⟩, hS⟩ ?_
    clear hS hp1 hc
    rintro ⟨l2, n⟩ w3 ⟨⟨hp, hc, hn⟩, hS⟩
    simp only at hp hc hn hS ⊢
    have hpl := hp.length_eq
    by_cases hnl : n < len
    · obtain ⟨bs0, r, rfl, hf0, hr, hsr⟩ := hc
      repeat (first | refine SemW.run tblOk ?_ | refine jA (by omega) ?_ | refine jB (by omega) ?_ | refine jC (by omega) ?_ | refine jD (by omega) ?_ | refine jE rfl ?_ | refine jF (by omega) ?_ | (refine jG ?_; first | with_reducible (first | refine jH ?_ | refine jI ?_ | refine jJ ?_ | refine jK ?_ | refine jL ?_) | refine jM (by omega) ?_ | refine jN (by omega) ?_ | with_reducible refine jM rfl ?_ | refine jM (by assumption) ?_ | refine jN (by assumption) ?_ | refine jM (by decide) ?_ | refine jN (by decide) ?_) | refine jF (ptr_ok tblOk rfl rfl) ?_ | refine jO (fun _ => by kernel_rfl) ?_ | refine jF (by decide) ?_)
      refine SemW.loop (fun x : List (List OpM) × List (List OpM) => [(0, .slice (some ⟨g, 0, none⟩) len cap), (1, .int .i64 len), (2, .func (.func fc) ⟨[]⟩ ⟨[]⟩), (6, .int .i64 n), (7, .int .i64 x.1.flatten.length), (8, .int .i64 (x.1.flatten.length + 2 * n))])
        (fun x w' => ((x.1.flatten ++ x.2.flatten ++ r).Perm l ∧ Full (fun x y => decide (cm x y < 0)) (2 * n) x.1 ∧ Full (fun x y => decide (cm x y < 0)) n x.2) ∧ St w [g] [(g, .cells ⟨(x.1.flatten ++ x.2.flatten ++ r).flatMap opDC ++ tail⟩ T_api_Op (0, 0))] w') (fun x => x.2.length) ([], bs0)
        ⟨rfl, rfl, rfl, rfl, rfl, by show _ = Value.int .i64 _; congr 1; simp only [List.flatten_nil, List.length_nil]; omega, trivial⟩ ⟨⟨hp, nofun, hf0⟩, hS⟩ ?_
      clear hS hf0 hp
      rintro ⟨b1, b2⟩ w4 ⟨⟨hp, hf1, hf2⟩, hS⟩
      simp only at hp hf1 hf2 hS ⊢
      have hpl2 := hp.length_eq
      rw [List.length_append, List.length_append] at hpl2
      have hlL4 := hp.length_eq.trans hlL
      generalize hbl : b1.flatten.length = q at hpl2 ⊢
      match b2, hf2, hpl2, hp, hS, hlL4 with
      | x :: y :: rest, hf2, hpl2, hp, hS, hlL4 =>
        have hx := hf2.hd
        have hy := hf2.tl.hd
        have hxy : (x :: y :: rest).flatten = x ++ (y ++ rest.flatten) := by simp
        rw [hxy] at hS hp hpl2 hlL4
        rw [List.length_append, List.length_append] at hpl2
        repeat (first | refine SemW.run tblOk ?_ | refine jA (by omega) ?_ | refine jB (by omega) ?_ | refine jC (by omega) ?_ | refine jD (by omega) ?_ | refine jE rfl ?_ | refine jF (by omega) ?_ | (refine jG ?_; first | with_reducible (first | refine jH ?_ | refine jI ?_ | refine jJ ?_ | refine jK ?_ | refine jL ?_) | refine jM (by omega) ?_ | refine jN (by omega) ?_ | with_reducible refine jM rfl ?_ | refine jM (by assumption) ?_ | refine jN (by assumption) ?_ | refine jM (by decide) ?_ | refine jN (by decide) ?_) | refine jF (ptr_ok tblOk rfl rfl) ?_ | refine jO (fun _ => by kernel_rfl) ?_ | refine jF (by decide) ?_)
        refine (merge_api_Op hO hcm hlen _ hS.holds (P := b1.flatten) (A := x) (B := y) (S := rest.flatten ++ r) (by simp only [List.append_assoc]) hlL4 (by omega) (by omega) (by omega) hx.2 hy.2 (by omega) (by omega) (Nat.le_refl _)).mono ?_
        rintro _ w5 ⟨M, p1, s1, hS'⟩
        have hS := hS.call1 hS'
        have e1 : (b1 ++ [M]).flatten = b1.flatten ++ M := by simp
        have hMl := p1.length_eq
        rw [List.length_append] at hMl
        have e2 : (b1 ++ [M]).flatten.length = q + 2 * n := by rw [e1, List.length_append]; omega
        repeat (first | refine SemW.run tblOk ?_ | refine jA (by omega) ?_ | refine jB (by omega) ?_ | refine jC (by omega) ?_ | refine jD (by omega) ?_ | refine jE rfl ?_ | refine jF (by omega) ?_ | (refine jG ?_; first | with_reducible (first | refine jH ?_ | refine jI ?_ | refine jJ ?_ | refine jK ?_ | refine jL ?_) | refine jM (by omega) ?_ | refine jN (by omega) ?_ | with_reducible refine jM rfl ?_ | refine jM (by assumption) ?_ | refine jN (by assumption) ?_ | refine jM (by decide) ?_ | refine jN (by decide) ?_) | refine jF (ptr_ok tblOk rfl rfl) ?_ | refine jO (fun _ => by kernel_rfl) ?_ | refine jF (by decide) ?_)
        refine ⟨(b1 ++ [M], rest), ⟨rfl, rfl, rfl, rfl, by show _ = Value.int .i64 _; congr 1; simp only; omega, by show _ = Value.int .i64 _; congr 1; simp only; omega, trivial⟩, ⟨⟨?_, hf1.snoc (by omega) s1, hf2.tl.tl⟩, ?_⟩, by simp only [List.length_cons]; omega⟩
        · simp only [e1]
          refine List.Perm.trans ?_ hp
          rw [List.append_assoc, List.append_assoc, List.append_assoc b1.flatten]
          refine List.Perm.append_left _ ?_
          refine (p1.append_right _).trans (List.Perm.of_eq ?_)
          simp only [List.append_assoc]
        · simp only [e1]
          rw [List.append_assoc (b1.flatten ++ M)]
          exact hS
      | [x], hf2, hpl2, hp, hS, hlL4 =>
        have hx := hf2.hd
        have hxy : [x].flatten = x := by simp
        rw [hxy] at hS hp hpl2 hlL4
        by_cases hr0 : 0 < r.length
        · repeat (first | refine SemW.run tblOk ?_ | refine jA (by omega) ?_ | refine jB (by omega) ?_ | refine jC (by omega) ?_ | refine jD (by omega) ?_ | refine jE rfl ?_ | refine jF (by omega) ?_ | (refine jG ?_; first | with_reducible (first | refine jH ?_ | refine jI ?_ | refine jJ ?_ | refine jK ?_ | refine jL ?_) | refine jM (by omega) ?_ | refine jN (by omega) ?_ | with_reducible refine jM rfl ?_ | refine jM (by assumption) ?_ | refine jN (by assumption) ?_ | refine jM (by decide) ?_ | refine jN (by decide) ?_) | refine jF (ptr_ok tblOk rfl rfl) ?_ | refine jO (fun _ => by kernel_rfl) ?_ | refine jF (by decide) ?_)
          refine (merge_api_Op hO hcm hlen _ hS.holds (P := b1.flatten) (A := x) (B := r) (S := []) (by rw [List.append_nil]) hlL4 (by omega) (by omega) (by omega) hx.2 hsr (by omega) (by omega) (Nat.le_refl _)).mono ?_
          rintro _ w5 ⟨M, p1, s1, hS'⟩
          have hS := hS.call1 hS'
          rw [List.append_nil] at hS
          have hMl := p1.length_eq
          rw [List.length_append] at hMl
          repeat (first | refine SemW.run tblOk ?_ | refine jA (by omega) ?_ | refine jB (by omega) ?_ | refine jC (by omega) ?_ | refine jD (by omega) ?_ | refine jE rfl ?_ | refine jF (by omega) ?_ | (refine jG ?_; first | with_reducible (first | refine jH ?_ | refine jI ?_ | refine jJ ?_ | refine jK ?_ | refine jL ?_) | refine jM (by omega) ?_ | refine jN (by omega) ?_ | with_reducible refine jM rfl ?_ | refine jM (by assumption) ?_ | refine jN (by assumption) ?_ | refine jM (by decide) ?_ | refine jN (by decide) ?_) | refine jF (ptr_ok tblOk rfl rfl) ?_ | refine jO (fun _ => by kernel_rfl) ?_ | refine jF (by decide) ?_)
          refine ⟨⟨b1.flatten ++ M, n * 2⟩, ⟨rfl, rfl, rfl, rfl, trivial⟩, ⟨⟨?_, ⟨b1, M, rfl, by rw [Nat.mul_comm]; exact hf1, by simp only; omega, s1⟩, by simp only; omega⟩, hS⟩, by simp only; omega⟩
          refine List.Perm.trans ?_ hp
          rw [List.append_assoc]
          exact p1.append_left _
        · repeat (first | refine SemW.run tblOk ?_ | refine jA (by omega) ?_ | refine jB (by omega) ?_ | refine jC (by omega) ?_ | refine jD (by omega) ?_ | refine jE rfl ?_ | refine jF (by omega) ?_ | (refine jG ?_; first | with_reducible (first | refine jH ?_ | refine jI ?_ | refine jJ ?_ | refine jK ?_ | refine jL ?_) | refine jM (by omega) ?_ | refine jN (by omega) ?_ | with_reducible refine jM rfl ?_ | refine jM (by assumption) ?_ | refine jN (by assumption) ?_ | refine jM (by decide) ?_ | refine jN (by decide) ?_) | refine jF (ptr_ok tblOk rfl rfl) ?_ | refine jO (fun _ => by kernel_rfl) ?_ | refine jF (by decide) ?_)
          have hr1 : r = [] := List.length_eq_zero_iff.1 (by omega)
          rw [hr1, List.append_nil] at hS hp
          refine ⟨⟨b1.flatten ++ x, n * 2⟩, ⟨rfl, rfl, rfl, rfl, trivial⟩, ⟨⟨hp, ⟨b1, x, rfl, by rw [Nat.mul_comm]; exact hf1, by simp only; omega, hx.2⟩, by simp only; omega⟩, hS⟩, by simp only; omega⟩
      | [], hf2, hpl2, hp, hS, hlL4 =>
        rw [List.flatten_nil, List.append_nil] at hS hp hlL4
        rw [List.flatten_nil, List.length_nil] at hpl2
        repeat (first | refine SemW.run tblOk ?_ | refine jA (by omega) ?_ | refine jB (by omega) ?_ | refine jC (by omega) ?_ | refine jD (by omega) ?_ | refine jE rfl ?_ | refine jF (by omega) ?_ | (refine jG ?_; first | with_reducible (first | refine jH ?_ | refine jI ?_ | refine jJ ?_ | refine jK ?_ | refine jL ?_) | refine jM (by omega) ?_ | refine jN (by omega) ?_ | with_reducible refine jM rfl ?_ | refine jM (by assumption) ?_ | refine jN (by assumption) ?_ | refine jM (by decide) ?_ | refine jN (by decide) ?_) | refine jF (ptr_ok tblOk rfl rfl) ?_ | refine jO (fun _ => by kernel_rfl) ?_ | refine jF (by decide) ?_)
        refine ⟨⟨b1.flatten ++ r, n * 2⟩, ⟨rfl, rfl, rfl, rfl, trivial⟩, ⟨⟨hp, ⟨b1, r, rfl, by rw [Nat.mul_comm]; exact hf1, by simp only; omega, hsr⟩, by simp only; omega⟩, hS⟩, by simp only; omega⟩
    · repeat (first | refine SemW.run tblOk ?_ | refine jA (by omega) ?_ | refine jB (by omega) ?_ | refine jC (by omega) ?_ | refine jD (by omega) ?_ | refine jE rfl ?_ | refine jF (by omega) ?_ | (refine jG ?_; first | with_reducible (first | refine jH ?_ | refine jI ?_ | refine jJ ?_ | refine jK ?_ | refine jL ?_) | refine jM (by omega) ?_ | refine jN (by omega) ?_ | with_reducible refine jM rfl ?_ | refine jM (by assumption) ?_ | refine jN (by assumption) ?_ | refine jM (by decide) ?_ | refine jN (by decide) ?_) | refine jF (ptr_ok tblOk rfl rfl) ?_ | refine jO (fun _ => by kernel_rfl) ?_ | refine jF (by decide) ?_)
      refine ⟨l2, hp, hc.all (by omega), hS⟩
theorem sortStable_api_Op {fc : FuncId} {cm : OpM → OpM → Int} (hO : Ord fun x y => decide (cm x y < 0)) (hcm : ∀ (x y : OpM) (w : World), Cl Tryz.prog fc [opDV x, opDV y] w fun v w' => v = .int .i64 (cm x y) ∧ St w [] [] w') {w : World} {g cap len : Nat} {l : List OpM} {tail : List Value} (hh : Holds [(g, .cells ⟨l.flatMap opDC ++ tail⟩ T_api_Op (0, 0))] w) (hlL : l.length = len) (hlen : len ≤ 16777216) :
    Cl Tryz.prog f_slices_SortStableFunc_api_Op_api_Op [.slice (some ⟨g, 0, none⟩) len cap, .func (.func fc) ⟨[]⟩ ⟨[]⟩] w fun _ w' => ∃ l', l'.Perm l ∧ Srt (fun x y => decide (cm x y < 0)) l' ∧ St w [g] [(g, .cells ⟨l'.flatMap opDC ++ tail⟩ T_api_Op (0, 0))] w' := by
  refine en_slices_SortStableFunc_api_Op_api_Op rfl ?_
  repeat (first | refine SemW.run tblOk ?_ | refine jA (by omega) ?_ | refine jB (by omega) ?_ | refine jC (by omega) ?_ | refine jD (by omega) ?_ | refine jE rfl ?_ | refine jF (by omega) ?_ | (refine jG ?_; first | with_reducible (first | refine jH ?_ | refine jI ?_ | refine jJ ?_ | refine jK ?_ | refine jL ?_) | refine jM (by omega) ?_ | refine jN (by omega) ?_ | with_reducible refine jM rfl ?_ | refine jM (by assumption) ?_ | refine jN (by assumption) ?_ | refine jM (by decide) ?_ | refine jN (by decide) ?_) | refine jF (ptr_ok tblOk rfl rfl) ?_ | refine jO (fun _ => by kernel_rfl) ?_ | refine jF (by decide) ?_)
  refine (stable_api_Op hO hcm hh hlL hlen).mono ?_
  intro _ w' h
  repeat (first | refine SemW.run tblOk ?_ | refine jA (by omega) ?_ | refine jB (by omega) ?_ | refine jC (by omega) ?_ | refine jD (by omega) ?_ | refine jE rfl ?_ | refine jF (by omega) ?_ | (refine jG ?_; first | with_reducible (first | refine jH ?_ | refine jI ?_ | refine jJ ?_ | refine jK ?_ | refine jL ?_) | refine jM (by omega) ?_ | refine jN (by omega) ?_ | with_reducible refine jM rfl ?_ | refine jM (by assumption) ?_ | refine jN (by assumption) ?_ | refine jM (by decide) ?_ | refine jN (by decide) ?_) | refine jF (ptr_ok tblOk rfl rfl) ?_ | refine jO (fun _ => by kernel_rfl) ?_ | refine jF (by decide) ?_)
  exact h
theorem insertNil_api_Op {w : World} {F : Value} : Cl Tryz.prog f_slices_insertionSortCmpFunc_api_Op [.slice none 0 0, .int .i64 0, .int .i64 0, F] w fun _ w' => St w [] [] w' := by
  have hS := St.start w
  refine en_slices_insertionSortCmpFunc_api_Op rfl ?_
  repeat (first | refine SemW.run tblOk ?_ | refine jA (by omega) ?_ | refine jB (by omega) ?_ | refine jC (by omega) ?_ | refine jD (by omega) ?_ | refine jE rfl ?_ | refine jF (by omega) ?_ | (refine jG ?_; first | with_reducible (first | refine jH ?_ | refine jI ?_ | refine jJ ?_ | refine jK ?_ | refine jL ?_) | refine jM (by omega) ?_ | refine jN (by omega) ?_ | with_reducible refine jM rfl ?_ | refine jM (by assumption) ?_ | refine jN (by assumption) ?_ | refine jM (by decide) ?_ | refine jN (by decide) ?_) | refine jF (ptr_ok tblOk rfl rfl) ?_ | refine jO (fun _ => by kernel_rfl) ?_ | refine jF (by decide) ?_)
  refine SemW.loop (fun _ : Unit => [(2, .int .i64 0), (8, .int .i64 1)]) (fun _ w' => St w [] [] w') (fun _ => 0) () ⟨rfl, rfl, trivial⟩ hS ?_
  clear hS
  intro _ w1 hS
  repeat (first | refine SemW.run tblOk ?_ | refine jA (by omega) ?_ | refine jB (by omega) ?_ | refine jC (by omega) ?_ | refine jD (by omega) ?_ | refine jE rfl ?_ | refine jF (by omega) ?_ | (refine jG ?_; first | with_reducible (first | refine jH ?_ | refine jI ?_ | refine jJ ?_ | refine jK ?_ | refine jL ?_) | refine jM (by omega) ?_ | refine jN (by omega) ?_ | with_reducible refine jM rfl ?_ | refine jM (by assumption) ?_ | refine jN (by assumption) ?_ | refine jM (by decide) ?_ | refine jN (by decide) ?_) | refine jF (ptr_ok tblOk rfl rfl) ?_ | refine jO (fun _ => by kernel_rfl) ?_ | refine jF (by decide) ?_)
  exact hS
theorem stableNil_api_Op {w : World} {F : Value} : Cl Tryz.prog f_slices_stableCmpFunc_api_Op [.slice none 0 0, .int .i64 0, F] w fun _ w' => St w [] [] w' := by
  have hS := St.start w
  refine en_slices_stableCmpFunc_api_Op rfl ?_
  repeat (first | refine SemW.run tblOk ?_ | refine jA (by omega) ?_ | refine jB (by omega) ?_ | refine jC (by omega) ?_ | refine jD (by omega) ?_ | refine jE rfl ?_ | refine jF (by omega) ?_ | (refine jG ?_; first | with_reducible (first | refine jH ?_ | refine jI ?_ | refine jJ ?_ | refine jK ?_ | refine jL ?_) | refine jM (by omega) ?_ | refine jN (by omega) ?_ | with_reducible refine jM rfl ?_ | refine jM (by assumption) ?_ | refine jN (by assumption) ?_ | refine jM (by decide) ?_ | refine jN (by decide) ?_) | refine jF (ptr_ok tblOk rfl rfl) ?_ | refine jO (fun _ => by kernel_rfl) ?_ | refine jF (by decide) ?_)
  refine SemW.loop (fun _ : Unit => [(0, .slice none 0 0), (1, .int .i64 0), (2, F), (6, .int .i64 20), (7, .int .i64 0), (8, .int .i64 20)]) (fun _ w' => St w [] [] w') (fun _ => 0) () ⟨rfl, rfl, rfl, rfl, rfl, rfl, trivial⟩ hS ?_
  clear hS
  intro _ w1 hS
  repeat (first | refine SemW.run tblOk ?_ | refine jA (by omega) ?_ | refine jB (by omega) ?_ | refine jC (by omega) ?_ | refine jD (by omega) ?_ | refine jE rfl ?_ | refine jF (by omega) ?_ | (refine jG ?_; first | with_reducible (first | refine jH ?_ | refine jI ?_ | refine jJ ?_ | refine jK ?_ | refine jL ?_) | refine jM (by omega) ?_ | refine jN (by omega) ?_ | with_reducible refine jM rfl ?_ | refine jM (by assumption) ?_ | refine jN (by assumption) ?_ | refine jM (by decide) ?_ | refine jN (by decide) ?_) | refine jF (ptr_ok tblOk rfl rfl) ?_ | refine jO (fun _ => by kernel_rfl) ?_ | refine jF (by decide) ?_)
  refine insertNil_api_Op.mono ?_
  intro _ w2 hS'
  have hS := hS.call0 hS'
  repeat (first | refine SemW.run tblOk ?_ | refine jA (by omega) ?_ | refine jB (by omega) ?_ | refine jC (by omega) ?_ | refine jD (by omega) ?_ | refine jE rfl ?_ | refine jF (by omega) ?_ | (refine jG ?_; first | with_reducible (first | refine jH ?_ | refine jI ?_ | refine jJ ?_ | refine jK ?_ | refine jL ?_) | refine jM (by omega) ?_ | refine jN (by omega) ?_ | with_reducible refine jM rfl ?_ | refine jM (by assumption) ?_ | refine jN (by assumption) ?_ | refine jM (by decide) ?_ | refine jN (by decide) ?_) | refine jF (ptr_ok tblOk rfl rfl) ?_ | refine jO (fun _ => by kernel_rfl) ?_ | refine jF (by decide) ?_)
  refine SemW.loop (fun _ : Unit => [(1, .int .i64 0), (6, .int .i64 20)]) (fun _ w' => St w [] [] w') (fun _ => 0) () ⟨rfl, rfl, trivial⟩ hS ?_
  clear hS
  intro _ w3 hS
  repeat (first | refine SemW.run tblOk ?_ | refine jA (by omega) ?_ | refine jB (by omega) ?_ | refine jC (by omega) ?_ | refine jD (by omega) ?_ | refine jE rfl ?_ | refine jF (by omega) ?_ | (refine jG ?_; first | with_reducible (first | refine jH ?_ | refine jI ?_ | refine jJ ?_ | refine jK ?_ | refine jL ?_) | refine jM (by omega) ?_ | refine jN (by omega) ?_ | with_reducible refine jM rfl ?_ | refine jM (by assumption) ?_ | refine jN (by assumption) ?_ | refine jM (by decide) ?_ | refine jN (by decide) ?_) | refine jF (ptr_ok tblOk rfl rfl) ?_ | refine jO (fun _ => by kernel_rfl) ?_ | refine jF (by decide) ?_)
  exact hS
theorem sortNil_api_Op {w : World} {F : Value} : Cl Tryz.prog f_slices_SortStableFunc_api_Op_api_Op [.slice none 0 0, F] w fun _ w' => St w [] [] w' := by
  refine en_slices_SortStableFunc_api_Op_api_Op rfl ?_
  repeat (first | refine SemW.run tblOk ?_ | refine jA (by omega) ?_ | refine jB (by omega) ?_ | refine jC (by omega) ?_ | refine jD (by omega) ?_ | refine jE rfl ?_ | refine jF (by omega) ?_ | (refine jG ?_; first | with_reducible (first | refine jH ?_ | refine jI ?_ | refine jJ ?_ | refine jK ?_ | refine jL ?_) | refine jM (by omega) ?_ | refine jN (by omega) ?_ | with_reducible refine jM rfl ?_ | refine jM (by assumption) ?_ | refine jN (by assumption) ?_ | refine jM (by decide) ?_ | refine jN (by decide) ?_) | refine jF (ptr_ok tblOk rfl rfl) ?_ | refine jO (fun _ => by kernel_rfl) ?_ | refine jF (by decide) ?_)
  refine stableNil_api_Op.mono ?_
  intro _ w' h
  repeat (first | refine SemW.run tblOk ?_ | refine jA (by omega) ?_ | refine jB (by omega) ?_ | refine jC (by omega) ?_ | refine jD (by omega) ?_ | refine jE rfl ?_ | refine jF (by omega) ?_ | (refine jG ?_; first | with_reducible (first | refine jH ?_ | refine jI ?_ | refine jJ ?_ | refine jK ?_ | refine jL ?_) | refine jM (by omega) ?_ | refine jN (by omega) ?_ | with_reducible refine jM rfl ?_ | refine jM (by assumption) ?_ | refine jN (by assumption) ?_ | refine jM (by decide) ?_ | refine jN (by decide) ?_) | refine jF (ptr_ok tblOk rfl rfl) ?_ | refine jO (fun _ => by kernel_rfl) ?_ | refine jF (by decide) ?_)
  exact h
end Go.Proofs.YthpmmfapolcaiaaGreatDoor

/- Comparing a slice with nil. -/
namespace Go.Eng
open Go
theorem eqlSlNil {P : Program} {T0 : Tbl} (hT : TOk P T0) {t e : TypeId} {sz : Nat} {i : TI} (hi : tf T0 t = some i) (hk : i.k = .slice e sz) {x y : Operand} {a : Option Addr} {n c : Nat} {K : Value → Prop} (hK : K (.bool a.isNone)) :
    PureRun P (do eqGuard .eql t x y (.slice a n c) (.slice none 0 0); binOp .eql t (.slice a n c) (.slice none 0 0)) K := by
  have h := und_of hT hi; rw [hk] at h
  have h2 : P.underlying t = some (.slice e) := h.1
  refine ⟨_, fun w => ?_, hK⟩
  rw [Sem.run_bind, run_eqGuard_of P .eql t x y _ _ w (by intro c h; cases h) (by intro h; cases h)]
  exact Lib.run_eql_slice_nil w t e a n c 0 0 h2
end Go.Eng

/- Package rows: Load. -/
namespace Go.Proofs.YthpmmfapolcaiaaGreatDoor
open Go Go.Eng Go.Proofs Go.Srt
theorem run_cmpstring (a b : Bytes) (w : World) : (callFunc f_internal_bytealg_abigen_runtime_cmpstring ⟨[Str a, Str b]⟩).run Tryz.prog w = .ok (.value (.int .i64 (Lib.compareBytes a b))) w := by
  rw [run_callFunc_extern func_internal_bytealg_abigen_runtime_cmpstring (by kernel_rfl) (by kernel_rfl) (by kernel_rfl) (e := Extern.BytealgCompare.compare) (by kernel_rfl)]
  have := Lib.run_compareString (P := Tryz.prog) ⟨⟨a⟩⟩ ⟨⟨b⟩⟩ w
  rw [show (Array.mk [Str a, Str b]) = #[Str a, Str b] from rfl]
  rw [this]
  rfl
theorem Compare_spec {w : World} (a b : Bytes) : Cl Tryz.prog f_strings_Compare [Str a, Str b] w fun v w' => v = .int .i64 (Lib.compareBytes a b) ∧ St w [] [] w' := by
  have hS := St.start w
  refine en_strings_Compare rfl ?_
  repeat (first | refine SemW.run tblOk ?_ | refine jA (by omega) ?_ | refine jB (by omega) ?_ | refine jC (by omega) ?_ | refine jD (by omega) ?_ | refine jE rfl ?_ | refine jF (by omega) ?_ | (refine jG ?_; first | with_reducible (first | refine jH ?_ | refine jI ?_ | refine jJ ?_ | refine jK ?_ | refine jL ?_) | refine jM (by omega) ?_ | refine jN (by omega) ?_ | with_reducible refine jM rfl ?_ | refine jM (by assumption) ?_ | refine jN (by assumption) ?_ | refine jM (by decide) ?_ | refine jN (by decide) ?_) | refine jF (ptr_ok tblOk rfl rfl) ?_ | refine jO (fun _ => by kernel_rfl) ?_ | refine jF (by decide) ?_)
  refine Cl.mono (P := Tryz.prog) (R := fun v w' => v = .int .i64 (Lib.compareBytes a b) ∧ St w [] [] w') ?_ ?_
  · refine en_internal_bytealg_CompareString rfl ?_
    repeat (first | refine SemW.run tblOk ?_ | refine jA (by omega) ?_ | refine jB (by omega) ?_ | refine jC (by omega) ?_ | refine jD (by omega) ?_ | refine jE rfl ?_ | refine jF (by omega) ?_ | (refine jG ?_; first | with_reducible (first | refine jH ?_ | refine jI ?_ | refine jJ ?_ | refine jK ?_ | refine jL ?_) | refine jM (by omega) ?_ | refine jN (by omega) ?_ | with_reducible refine jM rfl ?_ | refine jM (by assumption) ?_ | refine jN (by assumption) ?_ | refine jM (by decide) ?_ | refine jN (by decide) ?_) | refine jF (ptr_ok tblOk rfl rfl) ?_ | refine jO (fun _ => by kernel_rfl) ?_ | refine jF (by decide) ?_)
    refine Cl.val (run_cmpstring a b w) ?_
    repeat (first | refine SemW.run tblOk ?_ | refine jA (by omega) ?_ | refine jB (by omega) ?_ | refine jC (by omega) ?_ | refine jD (by omega) ?_ | refine jE rfl ?_ | refine jF (by omega) ?_ | (refine jG ?_; first | with_reducible (first | refine jH ?_ | refine jI ?_ | refine jJ ?_ | refine jK ?_ | refine jL ?_) | refine jM (by omega) ?_ | refine jN (by omega) ?_ | with_reducible refine jM rfl ?_ | refine jM (by assumption) ?_ | refine jN (by assumption) ?_ | refine jM (by decide) ?_ | refine jN (by decide) ?_) | refine jF (ptr_ok tblOk rfl rfl) ?_ | refine jO (fun _ => by kernel_rfl) ?_ | refine jF (by decide) ?_)
    exact ⟨rfl, hS⟩
  · rintro _ w3 ⟨rfl, hS⟩
    repeat (first | refine SemW.run tblOk ?_ | refine jA (by omega) ?_ | refine jB (by omega) ?_ | refine jC (by omega) ?_ | refine jD (by omega) ?_ | refine jE rfl ?_ | refine jF (by omega) ?_ | (refine jG ?_; first | with_reducible (first | refine jH ?_ | refine jI ?_ | refine jJ ?_ | refine jK ?_ | refine jL ?_) | refine jM (by omega) ?_ | refine jN (by omega) ?_ | with_reducible refine jM rfl ?_ | refine jM (by assumption) ?_ | refine jN (by assumption) ?_ | refine jM (by decide) ?_ | refine jN (by decide) ?_) | refine jF (ptr_ok tblOk rfl rfl) ?_ | refine jO (fun _ => by kernel_rfl) ?_ | refine jF (by decide) ?_)
    exact ⟨rfl, hS⟩
theorem cmp_spec (x y : OpM) (w : World) : Cl Tryz.prog f_rows_Load_1 [opDV x, opDV y] w fun v w' => v = .int .i64 (opCmp x y) ∧ St w [] [] w' := by
  have hS := St.start w
  unfold opDV opDC
  refine en_rows_Load_1 rfl ?_
  repeat (first | refine SemW.run tblOk ?_ | refine jA (by omega) ?_ | refine jB (by omega) ?_ | refine jC (by omega) ?_ | refine jD (by omega) ?_ | refine jE rfl ?_ | refine jF (by omega) ?_ | (refine jG ?_; first | with_reducible (first | refine jH ?_ | refine jI ?_ | refine jJ ?_ | refine jK ?_ | refine jL ?_) | refine jM (by omega) ?_ | refine jN (by omega) ?_ | with_reducible refine jM rfl ?_ | refine jM (by assumption) ?_ | refine jN (by assumption) ?_ | refine jM (by decide) ?_ | refine jN (by decide) ?_) | refine jF (ptr_ok tblOk rfl rfl) ?_ | refine jO (fun _ => by kernel_rfl) ?_ | refine jF (by decide) ?_)
  refine hS.al ?_
  intro b1 w1 _ hS
  repeat (first | refine SemW.run tblOk ?_ | refine jA (by omega) ?_ | refine jB (by omega) ?_ | refine jC (by omega) ?_ | refine jD (by omega) ?_ | refine jE rfl ?_ | refine jF (by omega) ?_ | (refine jG ?_; first | with_reducible (first | refine jH ?_ | refine jI ?_ | refine jJ ?_ | refine jK ?_ | refine jL ?_) | refine jM (by omega) ?_ | refine jN (by omega) ?_ | with_reducible refine jM rfl ?_ | refine jM (by assumption) ?_ | refine jN (by assumption) ?_ | refine jM (by decide) ?_ | refine jN (by decide) ?_) | refine jF (ptr_ok tblOk rfl rfl) ?_ | refine jO (fun _ => by kernel_rfl) ?_ | refine jF (by decide) ?_ | refine hS.ld rfl ?_ | refine hS.ldn rfl ?_ | (refine hS.st rfl rfl ?_; intro _ hS))
  refine hS.al ?_
  intro b2 w2 _ hS
  repeat (first | refine SemW.run tblOk ?_ | refine jA (by omega) ?_ | refine jB (by omega) ?_ | refine jC (by omega) ?_ | refine jD (by omega) ?_ | refine jE rfl ?_ | refine jF (by omega) ?_ | (refine jG ?_; first | with_reducible (first | refine jH ?_ | refine jI ?_ | refine jJ ?_ | refine jK ?_ | refine jL ?_) | refine jM (by omega) ?_ | refine jN (by omega) ?_ | with_reducible refine jM rfl ?_ | refine jM (by assumption) ?_ | refine jN (by assumption) ?_ | refine jM (by decide) ?_ | refine jN (by decide) ?_) | refine jF (ptr_ok tblOk rfl rfl) ?_ | refine jO (fun _ => by kernel_rfl) ?_ | refine jF (by decide) ?_ | refine hS.ld rfl ?_ | refine hS.ldn rfl ?_ | (refine hS.st rfl rfl ?_; intro _ hS))
  refine Cl.mono (Compare_spec x.1 y.1) ?_
  rintro _ w3 ⟨rfl, hS'⟩
  have hS := hS.call0 hS'
  repeat (first | refine SemW.run tblOk ?_ | refine jA (by omega) ?_ | refine jB (by omega) ?_ | refine jC (by omega) ?_ | refine jD (by omega) ?_ | refine jE rfl ?_ | refine jF (by omega) ?_ | (refine jG ?_; first | with_reducible (first | refine jH ?_ | refine jI ?_ | refine jJ ?_ | refine jK ?_ | refine jL ?_) | refine jM (by omega) ?_ | refine jN (by omega) ?_ | with_reducible refine jM rfl ?_ | refine jM (by assumption) ?_ | refine jN (by assumption) ?_ | refine jM (by decide) ?_ | refine jN (by decide) ?_) | refine jF (ptr_ok tblOk rfl rfl) ?_ | refine jO (fun _ => by kernel_rfl) ?_ | refine jF (by decide) ?_)
  exact ⟨rfl, hS.nil⟩
theorem opsC_one (l : List OpM) : (l.flatMap opDC).all Value.oneCell' = true := by
  induction l with
  | nil => rfl
  | cons p ps ih => rw [List.flatMap_cons, List.all_append, ih]; rfl
set_option maxHeartbeats 2000000 in
theorem cloneOp_spec {w : World} {a : Option Addr} {cap : Nat} {l : List OpM} (ha : Arr w [] a (l.flatMap opDC)) (hlen : l.length ≤ 1048576) :
    Cl Tryz.prog f_slices_Clone_api_Op_api_Op [.slice a l.length cap] w fun v w' => ∃ a' c' L, v = .slice a' l.length c' ∧ Vec T_api_Op 3 a' l.length c' (l.flatMap opDC) L ∧ St w [] L w' := by
  have hS := St.start w
  have hol := opsC_len l
  refine en_slices_Clone_api_Op_api_Op rfl ?_
  rcases a with _ | p
  · have hl : l = [] := by
      cases l with
      | nil => rfl
      | cons x l => obtain ⟨g, off, h, -⟩ := ha.get (j := 0) (by rw [hol, List.length_cons]; omega); cases h
    subst hl
    repeat (first | refine SemW.run tblOk ?_ | refine jA (by omega) ?_ | refine jB (by omega) ?_ | refine jC (by omega) ?_ | refine jD (by omega) ?_ | refine jE rfl ?_ | refine jF (by omega) ?_ | (refine jG ?_; first | with_reducible (first | refine jH ?_ | refine jI ?_ | refine jJ ?_ | refine jK ?_ | refine jL ?_) | refine jM (by omega) ?_ | refine jN (by omega) ?_ | with_reducible refine jM rfl ?_ | refine jM (by assumption) ?_ | refine jN (by assumption) ?_ | refine jM (by decide) ?_ | refine jN (by decide) ?_) | refine jF (ptr_ok tblOk rfl rfl) ?_ | refine jO (fun _ => by kernel_rfl) ?_ | refine jF (by decide) ?_)
    refine eqlSlNil tblOk rfl rfl ?_
    repeat (first | refine SemW.run tblOk ?_ | refine jA (by omega) ?_ | refine jB (by omega) ?_ | refine jC (by omega) ?_ | refine jD (by omega) ?_ | refine jE rfl ?_ | refine jF (by omega) ?_ | (refine jG ?_; first | with_reducible (first | refine jH ?_ | refine jI ?_ | refine jJ ?_ | refine jK ?_ | refine jL ?_) | refine jM (by omega) ?_ | refine jN (by omega) ?_ | with_reducible refine jM rfl ?_ | refine jM (by assumption) ?_ | refine jN (by assumption) ?_ | refine jM (by decide) ?_ | refine jN (by decide) ?_) | refine jF (ptr_ok tblOk rfl rfl) ?_ | refine jO (fun _ => by kernel_rfl) ?_ | refine jF (by decide) ?_)
    exact ⟨_, _, [], rfl, Vec.nil, hS⟩
  · repeat (first | refine SemW.run tblOk ?_ | refine jA (by omega) ?_ | refine jB (by omega) ?_ | refine jC (by omega) ?_ | refine jD (by omega) ?_ | refine jE rfl ?_ | refine jF (by omega) ?_ | (refine jG ?_; first | with_reducible (first | refine jH ?_ | refine jI ?_ | refine jJ ?_ | refine jK ?_ | refine jL ?_) | refine jM (by omega) ?_ | refine jN (by omega) ?_ | with_reducible refine jM rfl ?_ | refine jM (by assumption) ?_ | refine jN (by assumption) ?_ | refine jM (by decide) ?_ | refine jN (by decide) ?_) | refine jF (ptr_ok tblOk rfl rfl) ?_ | refine jO (fun _ => by kernel_rfl) ?_ | refine jF (by decide) ?_)
    refine eqlSlNil tblOk rfl rfl ?_
    repeat (first | refine SemW.run tblOk ?_ | refine jA (by omega) ?_ | refine jB (by omega) ?_ | refine jC (by omega) ?_ | refine jD (by omega) ?_ | refine jE rfl ?_ | refine jF (by omega) ?_ | (refine jG ?_; first | with_reducible (first | refine jH ?_ | refine jI ?_ | refine jJ ?_ | refine jK ?_ | refine jL ?_) | refine jM (by omega) ?_ | refine jN (by omega) ?_ | with_reducible refine jM rfl ?_ | refine jM (by assumption) ?_ | refine jN (by assumption) ?_ | refine jM (by decide) ?_ | refine jN (by decide) ?_) | refine jF (ptr_ok tblOk rfl rfl) ?_ | refine jO (fun _ => by kernel_rfl) ?_ | refine jF (by decide) ?_)
    refine hS.al ?_
    intro r w1 _ hS
    have hv : Vec T_api_Op 3 (some ⟨r, 0, none⟩) 0 0 [] [(r, .cells ⟨[]⟩ T_api_Op (0, 0))] := Vec.row r 0 0 [] [] rfl rfl (Nat.le_refl _)
    repeat (first | refine SemW.run tblOk ?_ | refine jA (by omega) ?_ | refine jB (by omega) ?_ | refine jC (by omega) ?_ | refine jD (by omega) ?_ | refine jE rfl ?_ | refine jF (by omega) ?_ | (refine jG ?_; first | with_reducible (first | refine jH ?_ | refine jI ?_ | refine jJ ?_ | refine jK ?_ | refine jL ?_) | refine jM (by omega) ?_ | refine jN (by omega) ?_ | with_reducible refine jM rfl ?_ | refine jM (by assumption) ?_ | refine jN (by assumption) ?_ | refine jM (by decide) ?_ | refine jN (by decide) ?_) | refine jF (ptr_ok tblOk rfl rfl) ?_ | refine jO (fun _ => by kernel_rfl) ?_ | refine jF (by decide) ?_)
    refine St.app (sz := 3) (m := l.length) tblOk rfl rfl rfl rfl hS hv (news := l.flatMap opDC) (by rw [hol]; omega) (hS.arrOld ha) (opsC_one l) (by show (_ + _) * 40 ≤ _; omega) (by omega) ?_
    intro a1 c1 L1 w2 hv hS
    rw [List.nil_append, Nat.zero_add] at hv
    rw [Nat.zero_add]
    repeat (first | refine SemW.run tblOk ?_ | refine jA (by omega) ?_ | refine jB (by omega) ?_ | refine jC (by omega) ?_ | refine jD (by omega) ?_ | refine jE rfl ?_ | refine jF (by omega) ?_ | (refine jG ?_; first | with_reducible (first | refine jH ?_ | refine jI ?_ | refine jJ ?_ | refine jK ?_ | refine jL ?_) | refine jM (by omega) ?_ | refine jN (by omega) ?_ | with_reducible refine jM rfl ?_ | refine jM (by assumption) ?_ | refine jN (by assumption) ?_ | refine jM (by decide) ?_ | refine jN (by decide) ?_) | refine jF (ptr_ok tblOk rfl rfl) ?_ | refine jO (fun _ => by kernel_rfl) ?_ | refine jF (by decide) ?_)
    exact ⟨a1, c1, L1, rfl, hv, hS⟩
theorem ErrVars.off {w0 w : World} {H : Heap} (h : ErrVars w0) (hS : St w0 [] H w) : errG0 ∉ keys H ∧ errG1 ∉ keys H := by
  obtain ⟨⟨t, p, e⟩, ⟨t', p', e'⟩⟩ := h
  have key : ∀ (g : Nat) (v : Value), w0.cell? ⟨g, 0, none⟩ = some v → g ∉ keys H := fun g v hv hm => by
    obtain ⟨q, hq, rfl⟩ := List.mem_map.1 hm
    have hlt : q.1 < w0.heap.size := by
      cases hb : w0.heap[q.1]? with
      | none => simp [World.cell?, hb] at hv
      | some o => exact (Array.getElem?_eq_some_iff.1 hb).1
    have := hS.fresh q hq hlt
    simp at this
  exact ⟨key _ _ e, key _ _ e'⟩
theorem sortOps_spec {w : World} {a : Option Addr} {c : Nat} {l : List OpM} {L : Heap} (hv : Vec T_api_Op 3 a l.length c (l.flatMap opDC) L) (hh : Holds L w) (hl : l.length ≤ 16777216) :
    Cl Tryz.prog f_slices_SortStableFunc_api_Op_api_Op [.slice a l.length c, .func (.func f_rows_Load_1) ⟨[]⟩ ⟨[]⟩] w fun _ w' => ∃ (M : List OpM) (L' : Heap), M.Perm l ∧ M.Pairwise (fun x y => opLt y x = false) ∧ Vec T_api_Op 3 a l.length c (M.flatMap opDC) L' ∧ St w (keys L) L' w' := by
  rcases hv.inv with ⟨rfl, h0, rfl, h1, rfl⟩ | ⟨g, tl, rfl, hxx, hl', hnc, rfl⟩
  · rw [h0]
    refine Cl.mono sortNil_api_Op ?_
    intro _ w' hS
    have hl0 : l = [] := List.length_eq_zero_iff.1 h0
    exact ⟨[], [], by rw [hl0], List.Pairwise.nil, Vec.nil, hS⟩
  · refine Cl.mono (sortStable_api_Op opOrd cmp_spec hh rfl hl) ?_
    rintro _ w' ⟨M, hp, hsrt, hS⟩
    have hml := hp.length_eq
    refine ⟨M, _, hp, hsrt.imp fun {x y} h => ?_, Vec.row g l.length c _ tl (by rw [opsC_len, hml]; omega) (by rw [opsC_len, hml, ← opsC_len]; exact hl') hnc, hS⟩
    have h : decide (Lib.compareBytes y.1 x.1 < 0) = false := h
    rw [cmp_less] at h
    exact h
/-- What loading answers. -/
def LoadPost (rs : List OpM) (v : Value) (w w' : World) : Prop :=
  (∃ s a b c ca cb cc La Lr Lb Lc, v = .tuple ⟨[.agg ⟨stV s a b c ca cb cc⟩, .int .i64 0]⟩ ∧ Loads rs s ∧ StOwn s a b c ca cb cc La Lr Lb Lc ∧ St w [] (La ++ (Lr ++ (Lb ++ Lc))) w') ∨
  (v = .tuple ⟨[.agg ⟨[.slice none 0 0, .slice none 0 0, .slice none 0 0]⟩, .int .i64 36]⟩ ∧ (∀ s, ¬ Loads rs s) ∧ St w [] [] w')
structure LDI where
  k : Nat
  Rs : List RecV
  a : Option Addr
  b : Option Addr
  c : Option Addr
  ca : Nat
  cb : Nat
  cc : Nat
  La : Heap
  Lr : Heap
  Lb : Heap
  Lc : Heap
theorem opW_len (l : List OpM) : 3 * l.length ≤ opsW l := by
  unfold opsW
  induction l with
  | nil => simp
  | cons o l ih =>
    have h : 3 ≤ opW o := by unfold opW; omega
    simp only [List.map_cons, List.sum_cons, List.length_cons]; omega
theorem opW_at {l : List OpM} {o : OpM} (h : o ∈ l) : opW o ≤ opsW l := by
  unfold opsW
  induction l with
  | nil => cases h
  | cons x l ih =>
    simp only [List.map_cons, List.sum_cons]
    rcases List.mem_cons.1 h with rfl | h
    · omega
    · have := ih h; omega
theorem stLen (l : List RecV) : (addAll zSt l).eqs.length + (addAll zSt l).fls.length + (addAll zSt l).pxs.length = l.length := by
  have := (addAll_perm l zSt).length_eq
  unfold recsOf at this
  simp only [List.length_append, List.length_map] at this
  simpa [zSt] using this
set_option maxRecDepth 4000 in
set_option maxHeartbeats 8000000 in
theorem Load_spec {w : World} {a : Option Addr} {cap : Nat} {rs : List OpM} (ha : Arr w [] a (rs.flatMap opDC)) (hlw : rs.length ≤ 1048576) (hsz : ∀ o ∈ rs, o.1.length ≤ 1048576 ∧ o.2.2.length ≤ 100000000) (hbulk : ∀ s, OkS s → (opsOf s).Perm rs → bulkS s + 4 ≤ 8388608) (hE : ErrVars w) :
    Cl Tryz.prog f_rows_Load [.slice a rs.length cap] w fun v w' => LoadPost rs v w w' := by
  have hS := St.start w
  refine en_rows_Load rfl ?_
  repeat (first | refine SemW.run tblOk ?_ | refine jA (by omega) ?_ | refine jB (by omega) ?_ | refine jC (by omega) ?_ | refine jD (by omega) ?_ | refine jE rfl ?_ | refine jF (by omega) ?_ | (refine jG ?_; first | with_reducible (first | refine jH ?_ | refine jI ?_ | refine jJ ?_ | refine jK ?_ | refine jL ?_) | refine jM (by omega) ?_ | refine jN (by omega) ?_ | with_reducible refine jM rfl ?_ | refine jM (by assumption) ?_ | refine jN (by assumption) ?_ | refine jM (by decide) ?_ | refine jN (by decide) ?_) | refine jF (ptr_ok tblOk rfl rfl) ?_ | refine jO (fun _ => by kernel_rfl) ?_ | refine jF (by decide) ?_)
  refine hS.al ?_
  intro b2 w1 _ hS
  repeat (first | refine SemW.run tblOk ?_ | refine jA (by omega) ?_ | refine jB (by omega) ?_ | refine jC (by omega) ?_ | refine jD (by omega) ?_ | refine jE rfl ?_ | refine jF (by omega) ?_ | (refine jG ?_; first | with_reducible (first | refine jH ?_ | refine jI ?_ | refine jJ ?_ | refine jK ?_ | refine jL ?_) | refine jM (by omega) ?_ | refine jN (by omega) ?_ | with_reducible refine jM rfl ?_ | refine jM (by assumption) ?_ | refine jN (by assumption) ?_ | refine jM (by decide) ?_ | refine jN (by decide) ?_) | refine jF (ptr_ok tblOk rfl rfl) ?_ | refine jO (fun _ => by kernel_rfl) ?_ | refine jF (by decide) ?_ | refine hS.ld rfl ?_ | refine hS.ldn rfl ?_ | (refine hS.st rfl rfl ?_; intro _ hS))
  refine Cl.mono (cloneOp_spec (hS.nil.arrOld ha) (by omega)) ?_
  rintro _ w2 ⟨a4, c4, L4, rfl, hv, hS'⟩
  have hS := hS.callNew hS'
  repeat (first | refine SemW.run tblOk ?_ | refine jA (by omega) ?_ | refine jB (by omega) ?_ | refine jC (by omega) ?_ | refine jD (by omega) ?_ | refine jE rfl ?_ | refine jF (by omega) ?_ | (refine jG ?_; first | with_reducible (first | refine jH ?_ | refine jI ?_ | refine jJ ?_ | refine jK ?_ | refine jL ?_) | refine jM (by omega) ?_ | refine jN (by omega) ?_ | with_reducible refine jM rfl ?_ | refine jM (by assumption) ?_ | refine jN (by assumption) ?_ | refine jM (by decide) ?_ | refine jN (by decide) ?_) | refine jF (ptr_ok tblOk rfl rfl) ?_ | refine jO (fun _ => by kernel_rfl) ?_ | refine jF (by decide) ?_ | refine hS.ld rfl ?_ | refine hS.ldn rfl ?_ | (refine hS.st rfl rfl ?_; intro _ hS))
  refine Cl.mono (sortOps_spec hv (hS.part (L := L4)) (by omega)) ?_
  rintro _ w3 ⟨M, L5, hp, hsrt, hv5, hS'⟩
  have hS := hS.call (L := L4) hS'
  have hml := hp.length_eq
  have hcl := opsC_len M
  repeat (first | refine SemW.run tblOk ?_ | refine jA (by omega) ?_ | refine jB (by omega) ?_ | refine jC (by omega) ?_ | refine jD (by omega) ?_ | refine jE rfl ?_ | refine jF (by omega) ?_ | (refine jG ?_; first | with_reducible (first | refine jH ?_ | refine jI ?_ | refine jJ ?_ | refine jK ?_ | refine jL ?_) | refine jM (by omega) ?_ | refine jN (by omega) ?_ | with_reducible refine jM rfl ?_ | refine jM (by assumption) ?_ | refine jN (by assumption) ?_ | refine jM (by decide) ?_ | refine jN (by decide) ?_) | refine jF (ptr_ok tblOk rfl rfl) ?_ | refine jO (fun _ => by kernel_rfl) ?_ | refine jF (by decide) ?_ | refine hS.ld rfl ?_ | refine hS.ldn rfl ?_ | (refine hS.st rfl rfl ?_; intro _ hS))
  refine hS.al ?_
  intro b5 w4 _ hS
  repeat (first | refine SemW.run tblOk ?_ | refine jA (by omega) ?_ | refine jB (by omega) ?_ | refine jC (by omega) ?_ | refine jD (by omega) ?_ | refine jE rfl ?_ | refine jF (by omega) ?_ | (refine jG ?_; first | with_reducible (first | refine jH ?_ | refine jI ?_ | refine jJ ?_ | refine jK ?_ | refine jL ?_) | refine jM (by omega) ?_ | refine jN (by omega) ?_ | with_reducible refine jM rfl ?_ | refine jM (by assumption) ?_ | refine jN (by assumption) ?_ | refine jM (by decide) ?_ | refine jN (by decide) ?_) | refine jF (ptr_ok tblOk rfl rfl) ?_ | refine jO (fun _ => by kernel_rfl) ?_ | refine jF (by decide) ?_ | refine hS.ld rfl ?_ | refine hS.ldn rfl ?_ | (refine hS.st rfl rfl ?_; intro _ hS))
  refine SemW.loop (fun z : LDI => [(2, ptr b2), (3, .int .i64 0), (5, ptr b5), (12, .slice a4 rs.length c4), (13, .int .i64 rs.length), (14, .int .i64 z.k)])
    (fun z w' => (z.k ≤ M.length ∧ (∀ R ∈ z.Rs, recOk R) ∧ (z.Rs.map fun R => rop (recR R)) = M.take z.k) ∧ StOwn (addAll zSt z.Rs) z.a z.b z.c z.ca z.cb z.cc z.La z.Lr z.Lb z.Lc ∧ St w [] (stH b5 (addAll zSt z.Rs) z.a z.b z.c z.ca z.cb z.cc z.La z.Lr z.Lb z.Lc ++ (L5 ++ [(b2, .cells ⟨[.slice none 0 0, .slice none 0 0, .slice none 0 0]⟩ T_api_State (0, 0))])) w') (fun z => M.length - z.k) ⟨0, [], none, none, none, 0, 0, 0, [], [], [], []⟩
    ⟨rfl, rfl, rfl, rfl, rfl, rfl, trivial⟩ ⟨⟨Nat.zero_le _, by nofun, rfl⟩, ⟨⟨[], Vec.nil, EqsIn.nil⟩, Vec.nil, Vec.nil⟩, hS⟩ ?_
  clear hS
  rintro ⟨k, Rs, sa, sb, sc, ka, kb, kc, La, Lr, Lb, Lc⟩ w5 ⟨⟨hk, hok, htk⟩, hO, hS⟩
  simp only at hk hok htk hO hS ⊢
  have hsl := stLen Rs
  have hrl : Rs.length = k := by
    have := congrArg List.length htk
    rw [List.length_map, List.length_take] at this; omega
  by_cases hkl : k < M.length
  · rcases hv5.inv with ⟨-, h0, -⟩ | ⟨g, tl, rfl, hxx, hl', hnc, rfl⟩
    · omega
    have hmem : M[k] ∈ rs := hp.mem_iff.1 (List.getElem_mem hkl)
    obtain ⟨hwk, hwv⟩ := hsz _ hmem
    have hsucc := List.take_succ_eq_append_getElem hkl
    obtain ⟨o, ho⟩ : ∃ o, o = M[k] := ⟨_, rfl⟩
    rw [← ho] at hmem hwk hwv hsucc
    repeat (first | refine SemW.run tblOk ?_ | refine jA (by omega) ?_ | refine jB (by omega) ?_ | refine jC (by omega) ?_ | refine jD (by omega) ?_ | refine jE rfl ?_ | refine jF (by omega) ?_ | (refine jG ?_; first | with_reducible (first | refine jH ?_ | refine jI ?_ | refine jJ ?_ | refine jK ?_ | refine jL ?_) | refine jM (by omega) ?_ | refine jN (by omega) ?_ | with_reducible refine jM rfl ?_ | refine jM (by assumption) ?_ | refine jN (by assumption) ?_ | refine jM (by decide) ?_ | refine jN (by decide) ?_) | refine jF (ptr_ok tblOk rfl rfl) ?_ | refine jO (fun _ => by kernel_rfl) ?_ | refine jF (by decide) ?_ | refine hS.ld rfl ?_ | refine hS.ldn rfl ?_ | (refine hS.st rfl rfl ?_; intro _ hS))
    refine St.ldE (sz := 3) (cv := opDC) (fun _ => rfl) hS hkl (by omega) ?_
    rw [← ho]
    repeat (first | refine SemW.run tblOk ?_ | refine jA (by omega) ?_ | refine jB (by omega) ?_ | refine jC (by omega) ?_ | refine jD (by omega) ?_ | refine jE rfl ?_ | refine jF (by omega) ?_ | (refine jG ?_; first | with_reducible (first | refine jH ?_ | refine jI ?_ | refine jJ ?_ | refine jK ?_ | refine jL ?_) | refine jM (by omega) ?_ | refine jN (by omega) ?_ | with_reducible refine jM rfl ?_ | refine jM (by assumption) ?_ | refine jN (by assumption) ?_ | refine jM (by decide) ?_ | refine jN (by decide) ?_) | refine jF (ptr_ok tblOk rfl rfl) ?_ | refine jO (fun _ => by kernel_rfl) ?_ | refine jF (by decide) ?_ | refine hS.ld rfl ?_ | refine hS.ldn rfl ?_ | (refine hS.st rfl rfl ?_; intro _ hS))
    refine hS.al ?_
    intro b7 w6 _ hS
    repeat (first | refine SemW.run tblOk ?_ | refine jA (by omega) ?_ | refine jB (by omega) ?_ | refine jC (by omega) ?_ | refine jD (by omega) ?_ | refine jE rfl ?_ | refine jF (by omega) ?_ | (refine jG ?_; first | with_reducible (first | refine jH ?_ | refine jI ?_ | refine jJ ?_ | refine jK ?_ | refine jL ?_) | refine jM (by omega) ?_ | refine jN (by omega) ?_ | with_reducible refine jM rfl ?_ | refine jM (by assumption) ?_ | refine jN (by assumption) ?_ | refine jM (by decide) ?_ | refine jN (by decide) ?_) | refine jF (ptr_ok tblOk rfl rfl) ?_ | refine jO (fun _ => by kernel_rfl) ?_ | refine jF (by decide) ?_ | refine hS.ld rfl ?_ | refine hS.ldn rfl ?_ | (refine hS.st rfl rfl ?_; intro _ hS))
    refine Cl.mono (record_spec hO (hS.part (L := stH b5 (addAll zSt Rs) sa sb sc ka kb kc La Lr Lb Lc)) hwk hwv (by omega) (hE.keep hS (by simp) (by simp)) (hE.off (hS.sub ?_))) ?_
    · exact List.Sublist.cons _ (List.sublist_append_left _ _)
    rintro _ w7 (⟨rfl, R, hR, hre, a', b', c', ka', kb', kc', La', Lr', Lb', Lc', hO', hS'⟩ | ⟨rfl, hno, hS'⟩)
    · have hS := hS.call (L := stH b5 (addAll zSt Rs) sa sb sc ka kb kc La Lr Lb Lc) hS'
      have eA : addAll zSt (Rs ++ [R]) = addR (addAll zSt Rs) R := by unfold addAll; rw [List.foldl_append]; rfl
      repeat (first | refine SemW.run tblOk ?_ | refine jA (by omega) ?_ | refine jB (by omega) ?_ | refine jC (by omega) ?_ | refine jD (by omega) ?_ | refine jE rfl ?_ | refine jF (by omega) ?_ | (refine jG ?_; first | with_reducible (first | refine jH ?_ | refine jI ?_ | refine jJ ?_ | refine jK ?_ | refine jL ?_) | refine jM (by omega) ?_ | refine jN (by omega) ?_ | with_reducible refine jM rfl ?_ | refine jM (by assumption) ?_ | refine jN (by assumption) ?_ | refine jM (by decide) ?_ | refine jN (by decide) ?_) | refine jF (ptr_ok tblOk rfl rfl) ?_ | refine jO (fun _ => by kernel_rfl) ?_ | refine jF (by decide) ?_ | refine hS.ld rfl ?_ | refine hS.ldn rfl ?_ | (refine hS.st rfl rfl ?_; intro _ hS))
      refine ⟨⟨k + 1, Rs ++ [R], a', b', c', ka', kb', kc', La', Lr', Lb', Lc'⟩, ⟨rfl, rfl, rfl, rfl, rfl, rfl, trivial⟩, ⟨⟨by simp only; omega, fun Q hQ => ?_, ?_⟩, ?_, ?_⟩, by simp only; omega⟩
      · rcases List.mem_append.1 hQ with hQ | hQ
        · exact hok Q hQ
        · rw [List.mem_singleton] at hQ; subst hQ; exact hR
      · simp only
        rw [List.map_append, htk, hsucc]
        show _ ++ [rop (recR R)] = _
        rw [hre]
      · simp only; rw [eA]; exact hO'
      · simp only; rw [eA]; exact hS.sub (List.sublist_cons_self _ _)
    · have hS := hS.call (L := stH b5 (addAll zSt Rs) sa sb sc ka kb kc La Lr Lb Lc) hS'
      repeat (first | refine SemW.run tblOk ?_ | refine jA (by omega) ?_ | refine jB (by omega) ?_ | refine jC (by omega) ?_ | refine jD (by omega) ?_ | refine jE rfl ?_ | refine jF (by omega) ?_ | (refine jG ?_; first | with_reducible (first | refine jH ?_ | refine jI ?_ | refine jJ ?_ | refine jK ?_ | refine jL ?_) | refine jM (by omega) ?_ | refine jN (by omega) ?_ | with_reducible refine jM rfl ?_ | refine jM (by assumption) ?_ | refine jN (by assumption) ?_ | refine jM (by decide) ?_ | refine jN (by decide) ?_) | refine jF (ptr_ok tblOk rfl rfl) ?_ | refine jO (fun _ => by kernel_rfl) ?_ | refine jF (by decide) ?_ | refine hS.ld rfl ?_ | refine hS.ldn rfl ?_ | (refine hS.st rfl rfl ?_; intro _ hS))
      exact .inr ⟨rfl, loads_no hmem hno, hS.nil⟩
  · have hkm : k = M.length := by omega
    rw [hkm, List.take_length] at htk
    have hokS := okS_all hok
    have hbk := hbulk _ hokS ((perm_map_all (l := Rs)).trans (by rw [htk]; exact hp))
    have hat := hO.at (hS.sub ((List.sublist_cons_self _ _).trans (List.sublist_append_left _ _))) hokS hbk
    repeat (first | refine SemW.run tblOk ?_ | refine jA (by omega) ?_ | refine jB (by omega) ?_ | refine jC (by omega) ?_ | refine jD (by omega) ?_ | refine jE rfl ?_ | refine jF (by omega) ?_ | (refine jG ?_; first | with_reducible (first | refine jH ?_ | refine jI ?_ | refine jJ ?_ | refine jK ?_ | refine jL ?_) | refine jM (by omega) ?_ | refine jN (by omega) ?_ | with_reducible refine jM rfl ?_ | refine jM (by assumption) ?_ | refine jN (by assumption) ?_ | refine jM (by decide) ?_ | refine jN (by decide) ?_) | refine jF (ptr_ok tblOk rfl rfl) ?_ | refine jO (fun _ => by kernel_rfl) ?_ | refine jF (by decide) ?_ | refine hS.ld rfl ?_ | refine hS.ldn rfl ?_ | (refine hS.st rfl rfl ?_; intro _ hS))
    refine Cl.mono (inForm_spec hat) ?_
    rintro _ w6 ⟨⟨bv, rfl, hiff⟩, hS'⟩
    have hS := hS.call0 hS'
    cases bv with
    | true =>
      repeat (first | refine SemW.run tblOk ?_ | refine jA (by omega) ?_ | refine jB (by omega) ?_ | refine jC (by omega) ?_ | refine jD (by omega) ?_ | refine jE rfl ?_ | refine jF (by omega) ?_ | (refine jG ?_; first | with_reducible (first | refine jH ?_ | refine jI ?_ | refine jJ ?_ | refine jK ?_ | refine jL ?_) | refine jM (by omega) ?_ | refine jN (by omega) ?_ | with_reducible refine jM rfl ?_ | refine jM (by assumption) ?_ | refine jN (by assumption) ?_ | refine jM (by decide) ?_ | refine jN (by decide) ?_) | refine jF (ptr_ok tblOk rfl rfl) ?_ | refine jO (fun _ => by kernel_rfl) ?_ | refine jF (by decide) ?_ | refine hS.ld rfl ?_ | refine hS.ldn rfl ?_ | (refine hS.st rfl rfl ?_; intro _ hS))
      exact .inl ⟨addAll zSt Rs, sa, sb, sc, ka, kb, kc, La, Lr, Lb, Lc, rfl, loads_yes hp hok htk (hiff.1 rfl), hO, hS.sub ((List.sublist_cons_self _ _).trans (List.sublist_append_left _ _))⟩
    | false =>
      repeat (first | refine SemW.run tblOk ?_ | refine jA (by omega) ?_ | refine jB (by omega) ?_ | refine jC (by omega) ?_ | refine jD (by omega) ?_ | refine jE rfl ?_ | refine jF (by omega) ?_ | (refine jG ?_; first | with_reducible (first | refine jH ?_ | refine jI ?_ | refine jJ ?_ | refine jK ?_ | refine jL ?_) | refine jM (by omega) ?_ | refine jN (by omega) ?_ | with_reducible refine jM rfl ?_ | refine jM (by assumption) ?_ | refine jN (by assumption) ?_ | refine jM (by decide) ?_ | refine jN (by decide) ?_) | refine jF (ptr_ok tblOk rfl rfl) ?_ | refine jO (fun _ => by kernel_rfl) ?_ | refine jF (by decide) ?_ | refine hS.ld rfl ?_ | refine hS.ldn rfl ?_ | (refine hS.st rfl rfl ?_; intro _ hS))
      exact .inr ⟨rfl, loads_form hsrt hp hok htk (fun h => by have := hiff.2 h; cases this), hS.nil⟩
end Go.Proofs.YthpmmfapolcaiaaGreatDoor

/- Ways that meet behind a statement. -/
namespace Go.Eng
open Go
theorem SemW.here {P : Program} {N : Nat} {c : Code} {Q : Exit → Env → World → Prop} {e : Env} {w : World} (h : SemW P N c Q e w) : SemW P N c Q e w := h
theorem SemW.meet {P : Program} {N : Nat} {x y : Code} {Q Q' : Exit → Env → World → Prop} {e : Env} {w : World} {ι : Type} (I : ι → Env) (J : ι → World → Prop)
    (hx : SemW P N x (thenQ (fun e' w' => ∃ i, subG (I i) e' ∧ J i w') Q') e w) (hy : ∀ i w', J i w' → SemW P N y Q (I i) w') : SemW P N x (thenQ (SemW P N y Q) Q') e w :=
  hx.mono fun ex e w h => by
    cases ex
    case normal => obtain ⟨i, h1, h2⟩ := h; exact SemW.weaken h1 (hy i w h2)
    all_goals exact h
end Go.Eng

/- The document's labels; the document's right passes. -/
namespace Go.Proofs.YthpmmfapolcaiaaGreatDoor
open Go Go.Eng Go.Proofs

set_option maxHeartbeats 1000000 in
theorem R13Label_spec {w : World} (num : Int) (c : Nat) (hc : c < 256) : Cl Tryz.prog f_tarmacref13_Label [.agg ⟨[.int .i64 num, .int .u8 c]⟩] w fun v w' => v = Str (labelB num c) ∧ St w [] [] w' := by
  have hS := St.start w
  refine en_tarmacref13_Label rfl ?_
  unfold labelB
  repeat (first | refine SemW.run tblOk ?_ | refine jA (by omega) ?_ | refine jB (by omega) ?_ | refine jC (by omega) ?_ | refine jD (by omega) ?_ | refine jE rfl ?_ | refine jF (by omega) ?_ | (refine jG ?_; first | with_reducible (first | refine jH ?_ | refine jI ?_ | refine jJ ?_ | refine jK ?_ | refine jL ?_) | refine jM (by omega) ?_ | refine jN (by omega) ?_ | with_reducible refine jM rfl ?_ | refine jM (by assumption) ?_ | refine jN (by assumption) ?_ | refine jM (by decide) ?_ | refine jN (by decide) ?_) | refine jF (ptr_ok tblOk rfl rfl) ?_ | refine jO (fun _ => by kernel_rfl) ?_ | refine jF (by decide) ?_)
  refine hS.al ?_
  intro b w1 _ hS
  have hS : St w [] ((b, .cells ⟨[.int .i64 num, .int .u8 c]⟩ T_api_Seat (0, 0)) :: []) _ := hS
  by_cases h1 : num < 1
  · repeat (first | refine SemW.run tblOk ?_ | refine jA (by omega) ?_ | refine jB (by omega) ?_ | refine jC (by omega) ?_ | refine jD (by omega) ?_ | refine jE rfl ?_ | refine jF (by omega) ?_ | (refine jG ?_; first | with_reducible (first | refine jH ?_ | refine jI ?_ | refine jJ ?_ | refine jK ?_ | refine jL ?_) | refine jM (by omega) ?_ | refine jN (by omega) ?_ | with_reducible refine jM rfl ?_ | refine jM (by assumption) ?_ | refine jN (by assumption) ?_ | refine jM (by decide) ?_ | refine jN (by decide) ?_) | refine jF (ptr_ok tblOk rfl rfl) ?_ | refine jO (fun _ => by kernel_rfl) ?_ | refine jF (by decide) ?_ | refine hS.ld rfl ?_ | refine hS.ldn rfl ?_ | (refine hS.st rfl rfl ?_; intro _ hS))
    have : seatOk num c = false := by
      cases h : seatOk num c with
      | false => rfl
      | true => have := seatOk_iff.1 h; omega
    rw [this]
    exact ⟨rfl, hS.nil⟩
  by_cases h2 : 99 < num
  · repeat (first | refine SemW.run tblOk ?_ | refine jA (by omega) ?_ | refine jB (by omega) ?_ | refine jC (by omega) ?_ | refine jD (by omega) ?_ | refine jE rfl ?_ | refine jF (by omega) ?_ | (refine jG ?_; first | with_reducible (first | refine jH ?_ | refine jI ?_ | refine jJ ?_ | refine jK ?_ | refine jL ?_) | refine jM (by omega) ?_ | refine jN (by omega) ?_ | with_reducible refine jM rfl ?_ | refine jM (by assumption) ?_ | refine jN (by assumption) ?_ | refine jM (by decide) ?_ | refine jN (by decide) ?_) | refine jF (ptr_ok tblOk rfl rfl) ?_ | refine jO (fun _ => by kernel_rfl) ?_ | refine jF (by decide) ?_ | refine hS.ld rfl ?_ | refine hS.ldn rfl ?_ | (refine hS.st rfl rfl ?_; intro _ hS))
    have : seatOk num c = false := by
      cases h : seatOk num c with
      | false => rfl
      | true => have := seatOk_iff.1 h; omega
    rw [this]
    exact ⟨rfl, hS.nil⟩
  by_cases h3 : c < 65
  · repeat (first | refine SemW.run tblOk ?_ | refine jA (by omega) ?_ | refine jB (by omega) ?_ | refine jC (by omega) ?_ | refine jD (by omega) ?_ | refine jE rfl ?_ | refine jF (by omega) ?_ | (refine jG ?_; first | with_reducible (first | refine jH ?_ | refine jI ?_ | refine jJ ?_ | refine jK ?_ | refine jL ?_) | refine jM (by omega) ?_ | refine jN (by omega) ?_ | with_reducible refine jM rfl ?_ | refine jM (by assumption) ?_ | refine jN (by assumption) ?_ | refine jM (by decide) ?_ | refine jN (by decide) ?_) | refine jF (ptr_ok tblOk rfl rfl) ?_ | refine jO (fun _ => by kernel_rfl) ?_ | refine jF (by decide) ?_ | refine hS.ld rfl ?_ | refine hS.ldn rfl ?_ | (refine hS.st rfl rfl ?_; intro _ hS))
    have : seatOk num c = false := by
      cases h : seatOk num c with
      | false => rfl
      | true => have := seatOk_iff.1 h; omega
    rw [this]
    exact ⟨rfl, hS.nil⟩
  by_cases h4 : 90 < c
  · repeat (first | refine SemW.run tblOk ?_ | refine jA (by omega) ?_ | refine jB (by omega) ?_ | refine jC (by omega) ?_ | refine jD (by omega) ?_ | refine jE rfl ?_ | refine jF (by omega) ?_ | (refine jG ?_; first | with_reducible (first | refine jH ?_ | refine jI ?_ | refine jJ ?_ | refine jK ?_ | refine jL ?_) | refine jM (by omega) ?_ | refine jN (by omega) ?_ | with_reducible refine jM rfl ?_ | refine jM (by assumption) ?_ | refine jN (by assumption) ?_ | refine jM (by decide) ?_ | refine jN (by decide) ?_) | refine jF (ptr_ok tblOk rfl rfl) ?_ | refine jO (fun _ => by kernel_rfl) ?_ | refine jF (by decide) ?_ | refine hS.ld rfl ?_ | refine hS.ldn rfl ?_ | (refine hS.st rfl rfl ?_; intro _ hS))
    have : seatOk num c = false := by
      cases h : seatOk num c with
      | false => rfl
      | true => have := seatOk_iff.1 h; omega
    rw [this]
    exact ⟨rfl, hS.nil⟩
  have hs : seatOk num c = true := seatOk_iff.2 (by omega)
  rw [hs, if_pos rfl]
  obtain ⟨n, rfl⟩ := Int.eq_ofNat_of_zero_le (show 0 ≤ num by omega)
  have hn100 : n < 100 := by omega
  have hdl : (digB n).length ≤ 2 := by unfold digB; split <;> simp
  repeat (first | refine SemW.run tblOk ?_ | refine jA (by omega) ?_ | refine jB (by omega) ?_ | refine jC (by omega) ?_ | refine jD (by omega) ?_ | refine jE rfl ?_ | refine jF (by omega) ?_ | (refine jG ?_; first | with_reducible (first | refine jH ?_ | refine jI ?_ | refine jJ ?_ | refine jK ?_ | refine jL ?_) | refine jM (by omega) ?_ | refine jN (by omega) ?_ | with_reducible refine jM rfl ?_ | refine jM (by assumption) ?_ | refine jN (by assumption) ?_ | refine jM (by decide) ?_ | refine jN (by decide) ?_) | refine jF (ptr_ok tblOk rfl rfl) ?_ | refine jO (fun _ => by kernel_rfl) ?_ | refine jF (by decide) ?_ | refine hS.ld rfl ?_ | refine hS.ldn rfl ?_ | (refine hS.st rfl rfl ?_; intro _ hS))
  refine SemW.drawR tblOk mixed [] ?_
  have hS := hS.drew
  refine DrawG.takes tblOk (by kernel_rfl) 5 [0, 1, 3, 4] (by kernel_rfl) ?_
  repeat (first | refine SemW.run tblOk ?_ | refine jA (by omega) ?_ | refine jB (by omega) ?_ | refine jC (by omega) ?_ | refine jD (by omega) ?_ | refine jE rfl ?_ | refine jF (by omega) ?_ | (refine jG ?_; first | with_reducible (first | refine jH ?_ | refine jI ?_ | refine jJ ?_ | refine jK ?_ | refine jL ?_) | refine jM (by omega) ?_ | refine jN (by omega) ?_ | with_reducible refine jM rfl ?_ | refine jM (by assumption) ?_ | refine jN (by assumption) ?_ | refine jM (by decide) ?_ | refine jN (by decide) ?_) | refine jF (ptr_ok tblOk rfl rfl) ?_ | refine jO (fun _ => by kernel_rfl) ?_ | refine jF (by decide) ?_ | refine hS.ldG rfl ?_ | refine hS.ldnG rfl ?_)
  have hcb : ([.int .u8 c] : List Value) = [UInt8.ofNat c].map byteV := by
    have : (UInt8.ofNat c).toNat = c := by simp; omega
    simp [byteV, this]
  refine DrawG.alt tblOk 2 [5] (by kernel_rfl) ⟨?_, ?_, trivial⟩
  · refine Cl.mono (Itoa_spec n hn100) ?_
    rintro _ w2 ⟨rfl, hS'⟩
    refine Chk.mk hS' ?_
    have hS := hS.call0 hS'
    refine DrawG.alt tblOk 5 [] (by kernel_rfl) ⟨?_, trivial⟩
    refine hS.alG ?_
    intro r w3 hG hS
    refine Chk.mk hG ?_
    rw [hcb] at hS
    refine DrawG.takes tblOk (by kernel_rfl) 0 [6, 7, 8] (by kernel_rfl) ?_
    repeat (first | refine SemW.run tblOk ?_ | refine jA (by omega) ?_ | refine jB (by omega) ?_ | refine jC (by omega) ?_ | refine jD (by omega) ?_ | refine jE rfl ?_ | refine jF (by omega) ?_ | (refine jG ?_; first | with_reducible (first | refine jH ?_ | refine jI ?_ | refine jJ ?_ | refine jK ?_ | refine jL ?_) | refine jM (by omega) ?_ | refine jN (by omega) ?_ | with_reducible refine jM rfl ?_ | refine jM (by assumption) ?_ | refine jN (by assumption) ?_ | refine jM (by decide) ?_ | refine jN (by decide) ?_) | refine jF (ptr_ok tblOk rfl rfl) ?_ | refine jO (fun _ => by kernel_rfl) ?_ | refine jF (by decide) ?_ | refine hS.ldG rfl ?_ | refine hS.ldnG rfl ?_)
    refine toStr (T := []) tblOk rfl rfl rfl rfl rfl rfl (bs := [UInt8.ofNat c]) rfl (fun w' hw' => (hS.call0 hw').arr (b := r) (by simp)) ?_
    repeat (first | refine SemW.run tblOk ?_ | refine jA (by omega) ?_ | refine jB (by omega) ?_ | refine jC (by omega) ?_ | refine jD (by omega) ?_ | refine jE rfl ?_ | refine jF (by omega) ?_ | (refine jG ?_; first | with_reducible (first | refine jH ?_ | refine jI ?_ | refine jJ ?_ | refine jK ?_ | refine jL ?_) | refine jM (by omega) ?_ | refine jN (by omega) ?_ | with_reducible refine jM rfl ?_ | refine jM (by assumption) ?_ | refine jN (by assumption) ?_ | refine jM (by decide) ?_ | refine jN (by decide) ?_) | refine jF (ptr_ok tblOk rfl rfl) ?_ | refine jO (fun _ => by kernel_rfl) ?_ | refine jF (by decide) ?_ | refine hS.ldG rfl ?_ | refine hS.ldnG rfl ?_)
    refine Chk.mk (by simp; omega) ?_
    repeat (first | refine SemW.run tblOk ?_ | refine jA (by omega) ?_ | refine jB (by omega) ?_ | refine jC (by omega) ?_ | refine jD (by omega) ?_ | refine jE rfl ?_ | refine jF (by omega) ?_ | (refine jG ?_; first | with_reducible (first | refine jH ?_ | refine jI ?_ | refine jJ ?_ | refine jK ?_ | refine jL ?_) | refine jM (by omega) ?_ | refine jN (by omega) ?_ | with_reducible refine jM rfl ?_ | refine jM (by assumption) ?_ | refine jN (by assumption) ?_ | refine jM (by decide) ?_ | refine jN (by decide) ?_) | refine jF (ptr_ok tblOk rfl rfl) ?_ | refine jO (fun _ => by kernel_rfl) ?_ | refine jF (by decide) ?_ | refine hS.ldG rfl ?_ | refine hS.ldnG rfl ?_)
    refine DrawG.done (by kernel_rfl) ?_
    repeat (first | refine SemW.run tblOk ?_ | refine jA (by omega) ?_ | refine jB (by omega) ?_ | refine jC (by omega) ?_ | refine jD (by omega) ?_ | refine jE rfl ?_ | refine jF (by omega) ?_ | (refine jG ?_; first | with_reducible (first | refine jH ?_ | refine jI ?_ | refine jJ ?_ | refine jK ?_ | refine jL ?_) | refine jM (by omega) ?_ | refine jN (by omega) ?_ | with_reducible refine jM rfl ?_ | refine jM (by assumption) ?_ | refine jN (by assumption) ?_ | refine jM (by decide) ?_ | refine jN (by decide) ?_) | refine jF (ptr_ok tblOk rfl rfl) ?_ | refine jO (fun _ => by kernel_rfl) ?_ | refine jF (by decide) ?_)
    exact ⟨rfl, hS.nil⟩
  · refine hS.alG ?_
    intro r w3 hG hS
    refine Chk.mk hG ?_
    rw [hcb] at hS
    refine DrawG.takes tblOk (by kernel_rfl) 3 [6] (by kernel_rfl) ?_
    repeat (first | refine SemW.run tblOk ?_ | refine jA (by omega) ?_ | refine jB (by omega) ?_ | refine jC (by omega) ?_ | refine jD (by omega) ?_ | refine jE rfl ?_ | refine jF (by omega) ?_ | (refine jG ?_; first | with_reducible (first | refine jH ?_ | refine jI ?_ | refine jJ ?_ | refine jK ?_ | refine jL ?_) | refine jM (by omega) ?_ | refine jN (by omega) ?_ | with_reducible refine jM rfl ?_ | refine jM (by assumption) ?_ | refine jN (by assumption) ?_ | refine jM (by decide) ?_ | refine jN (by decide) ?_) | refine jF (ptr_ok tblOk rfl rfl) ?_ | refine jO (fun _ => by kernel_rfl) ?_ | refine jF (by decide) ?_ | refine hS.ldG rfl ?_ | refine hS.ldnG rfl ?_)
    refine toStr (T := []) tblOk rfl rfl rfl rfl rfl rfl (bs := [UInt8.ofNat c]) rfl (fun w' hw' => (hS.call0 hw').arr (b := r) (by simp)) ?_
    repeat (first | refine SemW.run tblOk ?_ | refine jA (by omega) ?_ | refine jB (by omega) ?_ | refine jC (by omega) ?_ | refine jD (by omega) ?_ | refine jE rfl ?_ | refine jF (by omega) ?_ | (refine jG ?_; first | with_reducible (first | refine jH ?_ | refine jI ?_ | refine jJ ?_ | refine jK ?_ | refine jL ?_) | refine jM (by omega) ?_ | refine jN (by omega) ?_ | with_reducible refine jM rfl ?_ | refine jM (by assumption) ?_ | refine jN (by assumption) ?_ | refine jM (by decide) ?_ | refine jN (by decide) ?_) | refine jF (ptr_ok tblOk rfl rfl) ?_ | refine jO (fun _ => by kernel_rfl) ?_ | refine jF (by decide) ?_ | refine hS.ldG rfl ?_ | refine hS.ldnG rfl ?_)
    refine DrawG.alt tblOk 2 [] (by kernel_rfl) ⟨?_, trivial⟩
    refine Cl.mono (Itoa_spec n hn100) ?_
    rintro _ w2 ⟨rfl, hS'⟩
    refine Chk.mk hS' ?_
    have hS := hS.call0 hS'
    refine DrawG.takes tblOk (by kernel_rfl) 0 [7, 8] (by kernel_rfl) ?_
    repeat (first | refine SemW.run tblOk ?_ | refine jA (by omega) ?_ | refine jB (by omega) ?_ | refine jC (by omega) ?_ | refine jD (by omega) ?_ | refine jE rfl ?_ | refine jF (by omega) ?_ | (refine jG ?_; first | with_reducible (first | refine jH ?_ | refine jI ?_ | refine jJ ?_ | refine jK ?_ | refine jL ?_) | refine jM (by omega) ?_ | refine jN (by omega) ?_ | with_reducible refine jM rfl ?_ | refine jM (by assumption) ?_ | refine jN (by assumption) ?_ | refine jM (by decide) ?_ | refine jN (by decide) ?_) | refine jF (ptr_ok tblOk rfl rfl) ?_ | refine jO (fun _ => by kernel_rfl) ?_ | refine jF (by decide) ?_ | refine hS.ldG rfl ?_ | refine hS.ldnG rfl ?_)
    refine Chk.mk (by simp; omega) ?_
    repeat (first | refine SemW.run tblOk ?_ | refine jA (by omega) ?_ | refine jB (by omega) ?_ | refine jC (by omega) ?_ | refine jD (by omega) ?_ | refine jE rfl ?_ | refine jF (by omega) ?_ | (refine jG ?_; first | with_reducible (first | refine jH ?_ | refine jI ?_ | refine jJ ?_ | refine jK ?_ | refine jL ?_) | refine jM (by omega) ?_ | refine jN (by omega) ?_ | with_reducible refine jM rfl ?_ | refine jM (by assumption) ?_ | refine jN (by assumption) ?_ | refine jM (by decide) ?_ | refine jN (by decide) ?_) | refine jF (ptr_ok tblOk rfl rfl) ?_ | refine jO (fun _ => by kernel_rfl) ?_ | refine jF (by decide) ?_ | refine hS.ldG rfl ?_ | refine hS.ldnG rfl ?_)
    refine DrawG.done (by kernel_rfl) ?_
    repeat (first | refine SemW.run tblOk ?_ | refine jA (by omega) ?_ | refine jB (by omega) ?_ | refine jC (by omega) ?_ | refine jD (by omega) ?_ | refine jE rfl ?_ | refine jF (by omega) ?_ | (refine jG ?_; first | with_reducible (first | refine jH ?_ | refine jI ?_ | refine jJ ?_ | refine jK ?_ | refine jL ?_) | refine jM (by omega) ?_ | refine jN (by omega) ?_ | with_reducible refine jM rfl ?_ | refine jM (by assumption) ?_ | refine jN (by assumption) ?_ | refine jM (by decide) ?_ | refine jN (by decide) ?_) | refine jF (ptr_ok tblOk rfl rfl) ?_ | refine jO (fun _ => by kernel_rfl) ?_ | refine jF (by decide) ?_)
    exact ⟨rfl, hS.nil⟩
end Go.Proofs.YthpmmfapolcaiaaGreatDoor
