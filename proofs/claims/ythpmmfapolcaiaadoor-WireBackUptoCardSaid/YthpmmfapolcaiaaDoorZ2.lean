/- Texts of this claim, one behind the other. -/
import Derived.Test.YthpmmfapolcaiaaDoorZ1
import Derived.Test.YthpmmfapolcaiaaDoorZ0
/- Plain: the bytes of commands and replies, how they are read, and that nothing else is read. -/
namespace Go.Proofs.YthpmmfapolcaiaaDoor
open Go Go.Eng Go.Proofs

instance : DecidableEq RowM := fun a b =>
  if h : a.num = b.num ∧ a.cab = b.cab ∧ a.zone = b.zone ∧ a.exit = b.exit ∧ a.seats = b.seats then
    isTrue (by obtain ⟨h1, h2, h3, h4, h5⟩ := h; cases a; cases b; simp only at h1 h2 h3 h4 h5; rw [h1, h2, h3, h4, h5])
  else isFalse (fun e => h (by rw [e]; exact ⟨rfl, rfl, rfl, rfl, rfl⟩))
/-- A step of a reader, and what follows. -/
def tk {α β : Type} (x : α × RB) (f : α → RB → β) : β := f x.1 x.2
def wNum (most : Nat) (s : RB) : Nat × RB := if (numO s.t).2.1 ≠ 0 ∨ most < (numO s.t).1 then (0, ⟨(numO s.t).2.2, true⟩) else ((numO s.t).1, ⟨(numO s.t).2.2, s.bad⟩)
def wInts : Nat → RB → List Int × RB
  | 0, s => ([], s)
  | k + 1, s => ((rbInt s).1 :: (wInts k (rbInt s).2).1, (wInts k (rbInt s).2).2)
def bitsN : Nat → Nat → List Bool
  | 0, _ => []
  | k + 1, n => decide (n % 2 = 1) :: bitsN k (n / 2)
def wMarks (k : Nat) (s : RB) : List Bool × RB := (bitsN k (wNum (2 ^ k - 1) s).1, (wNum (2 ^ k - 1) s).2)
def wText (s : RB) : Bytes × RB := ((textO s.t).1, ⟨(textO s.t).2.2, s.bad || decide ((textO s.t).2.1 ≠ 0)⟩)
def wRow (s : RB) : RowM × RB := tk (wInts 3 s) fun l s => tk (wMarks 1 s) fun m s => tk (wText s) fun x s => (⟨l.getD 0 0, l.getD 1 0, l.getD 2 0, m.getD 0 false, x⟩, s)
def wRows : Nat → RB → List RowM × RB
  | 0, s => ([], s)
  | k + 1, s => ((wRow s).1 :: (wRows k (wRow s).2).1, (wRows k (wRow s).2).2)
/-- What is read well is just what would be written. -/
structure Codec {α : Type} (D : RB → α × RB) (E : α → Bytes) (ok : α → Prop) : Prop where
  good : ∀ s, (D s).2.bad = false → s.bad = false ∧ s.t = E (D s).1 ++ (D s).2.t ∧ ok (D s).1
  app : ∀ a r, ok a → D ⟨E a ++ r, false⟩ = (a, ⟨r, false⟩)
theorem wNum_codec (most : Nat) (hm : most < 18446744073709551616) : Codec (wNum most) numB (fun n => n ≤ most) where
  good s h := by
    unfold wNum at h ⊢
    split at h
    · cases h
    · next hc =>
      rw [if_neg hc]
      obtain ⟨h1, h2⟩ := not_or.1 hc
      exact ⟨h, numO_ok (Decidable.not_not.1 h1), by simp only; omega⟩
  app a r ha := by
    unfold wNum
    simp only [numO_app a r (by omega)]
    rw [if_neg (by rintro (h | h) <;> omega)]
theorem wInts_len : ∀ k s, (wInts k s).1.length = k
  | 0, _ => rfl
  | k + 1, s => by unfold wInts; simp [wInts_len k]
theorem rbInt_ok' (s : RB) : i64ok (rbInt s).1 := by
  have h2 := numO_lt s.t
  unfold rbInt intO
  exact ok_zig (by simp only; rw [zig_unzig]; exact h2)
theorem wInts_ok : ∀ k s, ∀ z ∈ (wInts k s).1, i64ok z
  | 0, _, z, hz => by cases hz
  | k + 1, s, z, hz => by
    rcases List.mem_cons.1 hz with rfl | hz
    · exact rbInt_ok' s
    · exact wInts_ok k _ z hz
theorem wInts_codec : ∀ k, Codec (wInts k) intsB (fun l => l.length = k ∧ ∀ z ∈ l, i64ok z)
  | 0 => ⟨fun s h => ⟨h, rfl, rfl, by nofun⟩, fun a r ha => by obtain rfl := List.eq_nil_of_length_eq_zero ha.1; rfl⟩
  | k + 1 => by
    have ih := wInts_codec k
    refine ⟨fun s h => ?_, fun a r ha => ?_⟩
    · obtain ⟨h1, e1, -⟩ := ih.good _ (show (wInts k (rbInt s).2).2.bad = false from h)
      obtain ⟨h2, e2, -⟩ := rbInt_good h1
      refine ⟨h2, ?_, wInts_len (k + 1) s, wInts_ok (k + 1) s⟩
      unfold wInts
      simp only [intsB, List.map_cons, List.flatten_cons, List.append_assoc]
      rw [e2]
      congr 1
    · match a, ha with
      | z :: a, ha =>
        have e : intsB (z :: a) ++ r = intB z ++ (intsB a ++ r) := by simp [intsB]
        rw [e]
        unfold wInts
        rw [rbInt_app _ _ (ha.2 z List.mem_cons_self)]
        simp only
        rw [ih.app a r ⟨by simpa using ha.1, fun y hy => ha.2 y (List.mem_cons_of_mem _ hy)⟩]
theorem bitsN_len : ∀ k n, (bitsN k n).length = k
  | 0, _ => rfl
  | k + 1, n => by unfold bitsN; simp [bitsN_len k]
theorem marks_bits : ∀ k n, n < 2 ^ k → marksN (bitsN k n) = n
  | 0, n, h => by simp at h; simp [bitsN, marksN, h]
  | k + 1, n, h => by
    rw [Nat.pow_succ] at h
    unfold bitsN marksN
    rw [marks_bits k (n / 2) (by omega)]
    by_cases h2 : n % 2 = 1
    · rw [decide_eq_true h2, if_pos rfl]; omega
    · rw [decide_eq_false h2, if_neg (by nofun)]; omega
theorem bits_marksN : ∀ l : List Bool, bitsN l.length (marksN l) = l
  | [] => rfl
  | b :: l => by
    rw [List.length_cons]
    unfold bitsN
    have e1 : marksN (b :: l) % 2 = if b then 1 else 0 := by rw [marksN]; split <;> omega
    have e2 : marksN (b :: l) / 2 = marksN l := by rw [marksN]; split <;> omega
    rw [e1, e2, bits_marksN l]
    cases b <;> rfl
theorem wMarks_codec (k : Nat) (hk : k ≤ 8) : Codec (wMarks k) (fun l => numB (marksN l)) (fun l => l.length = k) := by
  have hp : 2 ^ k ≤ 2 ^ 8 := Nat.pow_le_pow_right (by omega) hk
  have hp0 : 0 < 2 ^ k := Nat.two_pow_pos k
  have ih := wNum_codec (2 ^ k - 1) (by omega)
  refine ⟨fun s h => ?_, fun a r ha => ?_⟩
  · obtain ⟨h1, e1, o1⟩ := ih.good s h
    refine ⟨h1, ?_, bitsN_len _ _⟩
    show s.t = numB (marksN (bitsN k _)) ++ _
    rw [marks_bits k _ (by omega)]; exact e1
  · have hl := marksN_lt a
    rw [ha] at hl
    unfold wMarks
    rw [ih.app _ r (by omega)]
    simp only [← ha]
    rw [bits_marksN]
theorem textO_ok {t : Bytes} (h : (textO t).2.1 = 0) : t = textB (textO t).1 ++ (textO t).2.2 ∧ (textO t).1.length < 18446744073709551616 := by
  unfold textO at h ⊢
  cases e : textR t with
  | none => rw [e] at h; cases h
  | some x => obtain ⟨m, r⟩ := x; exact (textR_iff t m r).1 e
theorem textO_app (s r : Bytes) (h : s.length < 18446744073709551616) : textO (textB s ++ r) = (s, 0, r) := by
  unfold textO; rw [(textR_iff _ s r).2 ⟨rfl, h⟩]
theorem wText_codec : Codec wText textB (fun x => x.length < 18446744073709551616) where
  good s h := by
    unfold wText at h ⊢
    simp only [Bool.or_eq_false_iff, decide_eq_false_iff_not, Decidable.not_not] at h
    exact ⟨h.1, textO_ok h.2⟩
  app a r ha := by
    unfold wText; simp only [textO_app a r ha]; rfl
theorem lst1 {α : Type} {l : List α} (d : α) (h : l.length = 1) : l = [l.getD 0 d] := by
  match l, h with
  | [a], _ => rfl
theorem lst2 {α : Type} {l : List α} (d : α) (h : l.length = 2) : l = [l.getD 0 d, l.getD 1 d] := by
  match l, h with
  | [a, b], _ => rfl
theorem lst3 {α : Type} {l : List α} (d : α) (h : l.length = 3) : l = [l.getD 0 d, l.getD 1 d, l.getD 2 d] := by
  match l, h with
  | [a, b, c], _ => rfl
theorem lst4 {α : Type} {l : List α} (d : α) (h : l.length = 4) : l = [l.getD 0 d, l.getD 1 d, l.getD 2 d, l.getD 3 d] := by
  match l, h with
  | [a, b, c, e], _ => rfl
theorem lst6 {α : Type} {l : List α} (d : α) (h : l.length = 6) : l = [l.getD 0 d, l.getD 1 d, l.getD 2 d, l.getD 3 d, l.getD 4 d, l.getD 5 d] := by
  match l, h with
  | [a, b, c, e, f, g], _ => rfl
theorem lst7 {α : Type} {l : List α} (d : α) (h : l.length = 7) : l = [l.getD 0 d, l.getD 1 d, l.getD 2 d, l.getD 3 d, l.getD 4 d, l.getD 5 d, l.getD 6 d] := by
  match l, h with
  | [a, b, c, e, f, g, i], _ => rfl
theorem getD_ok {l : List Int} (h : ∀ z ∈ l, i64ok z) (i : Nat) : i64ok (l.getD i 0) := by
  rw [List.getD_eq_getElem?_getD]
  cases e : l[i]? with
  | none => exact ⟨by decide, by decide⟩
  | some z => exact h z (List.mem_of_getElem? e)
theorem wRow_codec : Codec wRow rowB (fun r => r.ok ∧ r.seats.length < 18446744073709551616) where
  good s h := by
    unfold wRow tk at h ⊢
    simp only at h ⊢
    obtain ⟨h3, e3, o3⟩ := wText_codec.good _ h
    obtain ⟨h2, e2, o2⟩ := (wMarks_codec 1 (by omega)).good _ h3
    obtain ⟨h1, e1, o1⟩ := (wInts_codec 3).good _ h2
    refine ⟨h1, ?_, ⟨getD_ok o1.2 0, getD_ok o1.2 1, getD_ok o1.2 2⟩, o3⟩
    unfold rowB
    simp only
    rw [← lst3 0 o1.1, ← lst1 false o2, e1, e2]
    conv => lhs; rw [e3]
    simp [textsB]
  app a r ha := by
    have e : rowB a ++ r = intsB [a.num, a.cab, a.zone] ++ (numB (marksN [a.exit]) ++ (textB a.seats ++ r)) := by simp [rowB, textsB]
    rw [e]
    unfold wRow tk
    rw [(wInts_codec 3).app _ _ ⟨rfl, by
      intro z hz
      simp only [List.mem_cons, List.mem_nil_iff, or_false] at hz
      rcases hz with rfl | rfl | rfl
      · exact ha.1.num
      · exact ha.1.cab
      · exact ha.1.zone⟩]
    simp only
    rw [(wMarks_codec 1 (by omega)).app _ _ rfl]
    simp only
    rw [wText_codec.app _ _ ha.2]
    rfl
theorem wRows_len : ∀ k s, (wRows k s).1.length = k
  | 0, _ => rfl
  | k + 1, s => by unfold wRows; simp [wRows_len k]
theorem wRows_codec : ∀ k, Codec (wRows k) rowsBt (fun l => l.length = k ∧ ∀ r ∈ l, r.ok ∧ r.seats.length < 18446744073709551616)
  | 0 => ⟨fun s h => ⟨h, rfl, rfl, by nofun⟩, fun a r ha => by obtain rfl := List.eq_nil_of_length_eq_zero ha.1; rfl⟩
  | k + 1 => by
    have ih := wRows_codec k
    refine ⟨fun s h => ?_, fun a r ha => ?_⟩
    · obtain ⟨h1, e1, o1⟩ := ih.good _ (show (wRows k (wRow s).2).2.bad = false from h)
      obtain ⟨h2, e2, o2⟩ := wRow_codec.good _ h1
      refine ⟨h2, ?_, wRows_len (k + 1) s, ?_⟩
      · unfold wRows
        simp only [rowsBt, List.map_cons, List.flatten_cons, List.append_assoc] at e1 ⊢
        rw [← e1]; exact e2
      · intro q hq
        rcases List.mem_cons.1 hq with rfl | hq
        · exact o2
        · exact o1.2 q hq
    · match a, ha with
      | z :: a, ha =>
        have e : rowsBt (z :: a) ++ r = rowB z ++ (rowsBt a ++ r) := by simp [rowsBt]
        rw [e]
        unfold wRows
        rw [wRow_codec.app _ _ (ha.2 z List.mem_cons_self)]
        simp only
        rw [ih.app a r ⟨by simpa using ha.1, fun y hy => ha.2 y (List.mem_cons_of_mem _ hy)⟩]
theorem rowsBt_min (rs : List RowM) : rs.length ≤ (rowsBt rs).length := by
  induction rs with
  | nil => exact Nat.zero_le _
  | cons r rs ih =>
    have h := numB_pos (marksN [r.exit])
    unfold rowsBt at ih ⊢
    unfold rowB at ih ⊢
    simp only [List.map_cons, List.flatten_cons, List.length_append, List.length_cons] at ih ⊢
    omega
structure CmdM where
  kind : Int
  req : Int
  id : Int
  fl : Int
  eq : Int
  cls : Int
  wcab : Int
  fit : Bool
  inf : Bool
  vol : Bool
  stb : Bool
  num : Int
  lt : Nat
  rows : List RowM
  l0 : Int
  l1 : Int
  l2 : Int
  l3 : Int
  text : Bytes
theorem CmdM.ext' {a b : CmdM} (h0 : a.kind = b.kind) (h1 : a.req = b.req) (h2 : a.id = b.id) (h3 : a.fl = b.fl) (h4 : a.eq = b.eq) (h5 : a.cls = b.cls) (h6 : a.wcab = b.wcab) (h7 : a.fit = b.fit) (h8 : a.inf = b.inf) (h9 : a.vol = b.vol) (h10 : a.stb = b.stb) (h11 : a.num = b.num) (h12 : a.lt = b.lt) (h13 : a.rows = b.rows) (h14 : a.l0 = b.l0) (h15 : a.l1 = b.l1) (h16 : a.l2 = b.l2) (h17 : a.l3 = b.l3) (h18 : a.text = b.text) : a = b := by
  cases a; cases b; simp only at h0 h1 h2 h3 h4 h5 h6 h7 h8 h9 h10 h11 h12 h13 h14 h15 h16 h17 h18; rw [h0, h1, h2, h3, h4, h5, h6, h7, h8, h9, h10, h11, h12, h13, h14, h15, h16, h17, h18]
instance : DecidableEq CmdM := fun a b =>
  if h : a.kind = b.kind ∧ a.req = b.req ∧ a.id = b.id ∧ a.fl = b.fl ∧ a.eq = b.eq ∧ a.cls = b.cls ∧ a.wcab = b.wcab ∧ a.fit = b.fit ∧ a.inf = b.inf ∧ a.vol = b.vol ∧ a.stb = b.stb ∧ a.num = b.num ∧ a.lt = b.lt ∧ a.rows = b.rows ∧ a.l0 = b.l0 ∧ a.l1 = b.l1 ∧ a.l2 = b.l2 ∧ a.l3 = b.l3 ∧ a.text = b.text then
    isTrue (by obtain ⟨h0, h1, h2, h3, h4, h5, h6, h7, h8, h9, h10, h11, h12, h13, h14, h15, h16, h17, h18⟩ := h; exact CmdM.ext' h0 h1 h2 h3 h4 h5 h6 h7 h8 h9 h10 h11 h12 h13 h14 h15 h16 h17 h18)
  else isFalse (fun e => h (by rw [e]; exact ⟨rfl, rfl, rfl, rfl, rfl, rfl, rfl, rfl, rfl, rfl, rfl, rfl, rfl, rfl, rfl, rfl, rfl, rfl, rfl⟩))
structure CmdM.ok (c : CmdM) : Prop where
  kind : i64ok c.kind
  req : i64ok c.req
  id : i64ok c.id
  fl : i64ok c.fl
  eq : i64ok c.eq
  cls : i64ok c.cls
  wcab : i64ok c.wcab
  num : i64ok c.num
  lt : c.lt < 256
  rows : ∀ r ∈ c.rows, r.ok
  l0 : i64ok c.l0
  l1 : i64ok c.l1
  l2 : i64ok c.l2
  l3 : i64ok c.l3
/-- The kinds, by what they have bytes for. -/
inductive CK where
  | equip | flight | book | seat | swap | fl | board | id
def ckOf (k : Int) : CK := if k = 1 then .equip else if k = 2 then .flight else if k = 3 then .book else if k = 6 then .seat else if k = 8 then .swap else if k = 9 ∨ k = 10 ∨ k = 13 ∨ k = 14 then .fl else if k = 12 then .board else .id
abbrev hdC (k q : Int) : CmdM := ⟨k, q, 0, 0, 0, 0, 0, false, false, false, false, 0, 0, [], 0, 0, 0, 0, []⟩
def bareF : CK → CmdM → CmdM
  | .equip, c => { hdC c.kind c.req with id := c.id, rows := c.rows }
  | .flight, c => { hdC c.kind c.req with id := c.id, eq := c.eq, l0 := c.l0, l1 := c.l1, l2 := c.l2, l3 := c.l3 }
  | .book, c => { hdC c.kind c.req with id := c.id, fl := c.fl, cls := c.cls, wcab := c.wcab, fit := c.fit, inf := c.inf, vol := c.vol, stb := c.stb }
  | .seat, c => { hdC c.kind c.req with id := c.id, num := c.num, lt := c.lt }
  | .swap, c => { hdC c.kind c.req with fl := c.fl, eq := c.eq }
  | .fl, c => { hdC c.kind c.req with fl := c.fl }
  | .board, c => { hdC c.kind c.req with text := c.text }
  | .id, c => { hdC c.kind c.req with id := c.id }
def fieldsB : CK → CmdM → Bytes
  | .equip, c => intsB [c.id] ++ (numB c.rows.length ++ rowsBt c.rows)
  | .flight, c => intsB [c.id, c.eq] ++ intsB [c.l0, c.l1, c.l2, c.l3]
  | .book, c => intsB [c.id, c.fl, c.wcab, c.cls] ++ numB (marksN [c.fit, c.inf, c.vol, c.stb])
  | .seat, c => intsB [c.id, c.num] ++ numB c.lt
  | .swap, c => intsB [c.fl, c.eq]
  | .fl, c => intsB [c.fl]
  | .board, c => textB c.text
  | .id, c => intsB [c.id]
def wField : CK → Int → Int → RB → CmdM × RB
  | .equip, k, q, s => tk (wInts 1 s) fun l s => tk (wNum s.t.length s) fun n s => tk (wRows n s) fun r s => ({ hdC k q with id := l.getD 0 0, rows := r }, s)
  | .flight, k, q, s => tk (wInts 2 s) fun l s => tk (wInts 4 s) fun x s => ({ hdC k q with id := l.getD 0 0, eq := l.getD 1 0, l0 := x.getD 0 0, l1 := x.getD 1 0, l2 := x.getD 2 0, l3 := x.getD 3 0 }, s)
  | .book, k, q, s => tk (wInts 4 s) fun l s => tk (wMarks 4 s) fun m s => ({ hdC k q with id := l.getD 0 0, fl := l.getD 1 0, wcab := l.getD 2 0, cls := l.getD 3 0, fit := m.getD 0 false, inf := m.getD 1 false, vol := m.getD 2 false, stb := m.getD 3 false }, s)
  | .seat, k, q, s => tk (wInts 2 s) fun l s => tk (wNum 255 s) fun n s => ({ hdC k q with id := l.getD 0 0, num := l.getD 1 0, lt := n }, s)
  | .swap, k, q, s => tk (wInts 2 s) fun l s => ({ hdC k q with fl := l.getD 0 0, eq := l.getD 1 0 }, s)
  | .fl, k, q, s => tk (wInts 1 s) fun l s => ({ hdC k q with fl := l.getD 0 0 }, s)
  | .board, k, q, s => tk (wText s) fun x s => ({ hdC k q with text := x }, s)
  | .id, k, q, s => tk (wInts 1 s) fun l s => ({ hdC k q with id := l.getD 0 0 }, s)
theorem bare_kind (k : CK) (c : CmdM) : (bareF k c).kind = c.kind := by cases k <;> rfl
theorem bare_req (k : CK) (c : CmdM) : (bareF k c).req = c.req := by cases k <;> rfl
theorem bare_bare (k : CK) (c : CmdM) : bareF k (bareF k c) = bareF k c := by cases k <;> rfl
theorem bare_fields (k : CK) (c : CmdM) : fieldsB k (bareF k c) = fieldsB k c := by cases k <;> rfl
theorem ok0 : i64ok 0 := ⟨by decide, by decide⟩
theorem hdC_ok {k q : Int} (hk : i64ok k) (hq : i64ok q) : (hdC k q).ok := ⟨hk, hq, ok0, ok0, ok0, ok0, ok0, ok0, (by decide : 0 < 256), (fun _ h => nomatch h), ok0, ok0, ok0, ok0⟩
theorem bare_ok (k : CK) {c : CmdM} (h : c.ok) : (bareF k c).ok := by
  have h0 := hdC_ok h.kind h.req
  cases k
  · exact { h0 with id := h.id, rows := h.rows }
  · exact { h0 with id := h.id, eq := h.eq, l0 := h.l0, l1 := h.l1, l2 := h.l2, l3 := h.l3 }
  · exact { h0 with id := h.id, fl := h.fl, cls := h.cls, wcab := h.wcab }
  · exact { h0 with id := h.id, num := h.num, lt := h.lt }
  · exact { h0 with fl := h.fl, eq := h.eq }
  · exact { h0 with fl := h.fl }
  · exact { h0 with kind := h.kind }
  · exact { h0 with id := h.id }
/-- What a reading of fields answers. -/
structure FieldR (k : CK) (kd q : Int) (s : RB) (y : CmdM × RB) : Prop where
  bad : s.bad = false
  t : s.t = fieldsB k y.1 ++ y.2.t
  ok : y.1.ok
  bare : bareF k y.1 = y.1
  kind : y.1.kind = kd
  req : y.1.req = q
theorem wField_good {k : CK} {kd q : Int} {s : RB} (hk : i64ok kd) (hq : i64ok q) (hs : s.t.length ≤ 70368744177664) (h : (wField k kd q s).2.bad = false) : FieldR k kd q s (wField k kd q s) := by
  have h0 := hdC_ok hk hq
  cases k
  · have hle : (wInts 1 s).2.t.length ≤ s.t.length := by
      show (intO s.t).2.2.length ≤ _
      exact intO_len s.t
    unfold wField tk at h ⊢
    simp only at h ⊢
    obtain ⟨h3, e3, o3⟩ := (wRows_codec _).good _ h
    obtain ⟨h2, e2, o2⟩ := (wNum_codec _ (by omega)).good _ h3
    obtain ⟨h1, e1, o1⟩ := (wInts_codec 1).good _ h2
    refine ⟨h1, ?_, { h0 with id := getD_ok o1.2 0, rows := fun r hr => (o3.2 r hr).1 }, rfl, rfl, rfl⟩
    simp only [fieldsB]
    rw [← lst1 0 o1.1, o3.1]
    conv => lhs; rw [e1, e2, e3]
    simp
  · unfold wField tk at h ⊢
    simp only at h ⊢
    obtain ⟨h2, e2, o2⟩ := (wInts_codec 4).good _ h
    obtain ⟨h1, e1, o1⟩ := (wInts_codec 2).good _ h2
    refine ⟨h1, ?_, { h0 with id := getD_ok o1.2 0, eq := getD_ok o1.2 1, l0 := getD_ok o2.2 0, l1 := getD_ok o2.2 1, l2 := getD_ok o2.2 2, l3 := getD_ok o2.2 3 }, rfl, rfl, rfl⟩
    simp only [fieldsB]
    rw [← lst2 0 o1.1, ← lst4 0 o2.1]
    conv => lhs; rw [e1, e2]
    simp
  · unfold wField tk at h ⊢
    simp only at h ⊢
    obtain ⟨h2, e2, o2⟩ := (wMarks_codec 4 (by omega)).good _ h
    obtain ⟨h1, e1, o1⟩ := (wInts_codec 4).good _ h2
    refine ⟨h1, ?_, { h0 with id := getD_ok o1.2 0, fl := getD_ok o1.2 1, wcab := getD_ok o1.2 2, cls := getD_ok o1.2 3 }, rfl, rfl, rfl⟩
    simp only [fieldsB]
    rw [← lst4 0 o1.1, ← lst4 false o2]
    conv => lhs; rw [e1, e2]
    simp
  · unfold wField tk at h ⊢
    simp only at h ⊢
    obtain ⟨h2, e2, o2⟩ := (wNum_codec 255 (by omega)).good _ h
    obtain ⟨h1, e1, o1⟩ := (wInts_codec 2).good _ h2
    refine ⟨h1, ?_, { h0 with id := getD_ok o1.2 0, num := getD_ok o1.2 1, lt := (by simp only at o2 ⊢; omega) }, rfl, rfl, rfl⟩
    simp only [fieldsB]
    rw [← lst2 0 o1.1]
    conv => lhs; rw [e1, e2]
    simp
  · unfold wField tk at h ⊢
    simp only at h ⊢
    obtain ⟨h1, e1, o1⟩ := (wInts_codec 2).good _ h
    refine ⟨h1, ?_, { h0 with fl := getD_ok o1.2 0, eq := getD_ok o1.2 1 }, rfl, rfl, rfl⟩
    simp only [fieldsB]
    rw [← lst2 0 o1.1]
    exact e1
  · unfold wField tk at h ⊢
    simp only at h ⊢
    obtain ⟨h1, e1, o1⟩ := (wInts_codec 1).good _ h
    refine ⟨h1, ?_, { h0 with fl := getD_ok o1.2 0 }, rfl, rfl, rfl⟩
    simp only [fieldsB]
    rw [← lst1 0 o1.1]
    exact e1
  · unfold wField tk at h ⊢
    simp only at h ⊢
    obtain ⟨h1, e1, o1⟩ := wText_codec.good _ h
    exact ⟨h1, e1, { h0 with kind := hk }, rfl, rfl, rfl⟩
  · unfold wField tk at h ⊢
    simp only at h ⊢
    obtain ⟨h1, e1, o1⟩ := (wInts_codec 1).good _ h
    refine ⟨h1, ?_, { h0 with id := getD_ok o1.2 0 }, rfl, rfl, rfl⟩
    simp only [fieldsB]
    rw [← lst1 0 o1.1]
    exact e1
theorem all1 {a : Int} (ha : i64ok a) : [a].length = 1 ∧ ∀ z ∈ [a], i64ok z := ⟨rfl, by intro z hz; rw [List.mem_singleton] at hz; rw [hz]; exact ha⟩
theorem all2 {a b : Int} (ha : i64ok a) (hb : i64ok b) : [a, b].length = 2 ∧ ∀ z ∈ [a, b], i64ok z := ⟨rfl, by
  intro z hz
  rcases List.mem_cons.1 hz with rfl | hz
  · exact ha
  · exact (all1 hb).2 z hz⟩
theorem all3 {a b c : Int} (ha : i64ok a) (hb : i64ok b) (hc : i64ok c) : [a, b, c].length = 3 ∧ ∀ z ∈ [a, b, c], i64ok z := ⟨rfl, by
  intro z hz
  rcases List.mem_cons.1 hz with rfl | hz
  · exact ha
  · exact (all2 hb hc).2 z hz⟩
theorem all4 {a b c d : Int} (ha : i64ok a) (hb : i64ok b) (hc : i64ok c) (hd : i64ok d) : [a, b, c, d].length = 4 ∧ ∀ z ∈ [a, b, c, d], i64ok z := ⟨rfl, by
  intro z hz
  rcases List.mem_cons.1 hz with rfl | hz
  · exact ha
  · exact (all3 hb hc hd).2 z hz⟩
theorem wField_app {k : CK} {c : CmdM} (r : Bytes) (hc : c.ok) (hr : ∀ x ∈ c.rows, x.seats.length < 18446744073709551616) (ht : c.text.length < 18446744073709551616) (hl : (fieldsB k c ++ r).length ≤ 70368744177664) : wField k c.kind c.req ⟨fieldsB k c ++ r, false⟩ = (bareF k c, ⟨r, false⟩) := by
  cases k
  · simp only [fieldsB, List.append_assoc] at hl ⊢
    have hm := rowsBt_min c.rows
    simp only [List.length_append] at hl
    unfold wField tk
    simp only
    rw [(wInts_codec 1).app _ _ (all1 hc.id)]
    simp only
    rw [(wNum_codec _ (by simp only [List.length_append]; omega)).app _ _ (by simp only [List.length_append]; omega)]
    simp only
    rw [(wRows_codec _).app _ _ ⟨rfl, fun x hx => ⟨hc.rows x hx, hr x hx⟩⟩]
    rfl
  · simp only [fieldsB, List.append_assoc]
    unfold wField tk
    simp only
    rw [(wInts_codec 2).app _ _ (all2 hc.id hc.eq)]
    simp only
    rw [(wInts_codec 4).app _ _ (all4 hc.l0 hc.l1 hc.l2 hc.l3)]
    rfl
  · simp only [fieldsB, List.append_assoc]
    unfold wField tk
    simp only
    rw [(wInts_codec 4).app _ _ (all4 hc.id hc.fl hc.wcab hc.cls)]
    simp only
    rw [(wMarks_codec 4 (by omega)).app _ _ rfl]
    rfl
  · simp only [fieldsB, List.append_assoc]
    have := hc.lt
    unfold wField tk
    simp only
    rw [(wInts_codec 2).app _ _ (all2 hc.id hc.num)]
    simp only
    rw [(wNum_codec 255 (by omega)).app _ _ (by omega)]
    rfl
  · simp only [fieldsB]
    unfold wField tk
    simp only
    rw [(wInts_codec 2).app _ _ (all2 hc.fl hc.eq)]
    rfl
  · simp only [fieldsB]
    unfold wField tk
    simp only
    rw [(wInts_codec 1).app _ _ (all1 hc.fl)]
    rfl
  · simp only [fieldsB]
    unfold wField tk
    simp only
    rw [wText_codec.app _ _ ht]
    rfl
  · simp only [fieldsB]
    unfold wField tk
    simp only
    rw [(wInts_codec 1).app _ _ (all1 hc.id)]
    rfl
def smallC (c : CmdM) : Bool := decide (c.rows.length ≤ 20) && decide (c.text.length ≤ 200) && c.rows.all fun r => decide (r.seats.length ≤ 40)
def cmdB (c : CmdM) : Bytes := numB c.kind.toNat ++ (intB c.req ++ fieldsB (ckOf c.kind) c)
/-- The command of a payload. -/
def cmdS (t : Bytes) : Option CmdM := tk (wNum 15 ⟨t, false⟩) fun k s => tk (rbInt s) fun q s =>
  if s.bad = true ∨ k = 0 then none else tk (wField (ckOf k) k q s) fun c s => if s.bad = true ∨ s.t ≠ [] ∨ smallC c = false then none else some c
/-- Is the command right? -/
def RightC (c : CmdM) : Prop := 1 ≤ c.kind ∧ c.kind ≤ 15 ∧ smallC c = true ∧ bareF (ckOf c.kind) c = c
instance (c : CmdM) : Decidable (RightC c) := inferInstanceAs (Decidable (_ ∧ _ ∧ _ ∧ _))
theorem small_iff {c : CmdM} : smallC c = true ↔ c.rows.length ≤ 20 ∧ c.text.length ≤ 200 ∧ ∀ r ∈ c.rows, r.seats.length ≤ 40 := by
  unfold smallC
  rw [Bool.and_eq_true, Bool.and_eq_true, decide_eq_true_iff, decide_eq_true_iff, List.all_eq_true, and_assoc]
  simp
theorem small_bare (k : CK) {c : CmdM} (h : smallC c = true) : smallC (bareF k c) = true := by
  obtain ⟨h1, h2, h3⟩ := small_iff.1 h
  refine small_iff.2 ?_
  cases k
  · exact ⟨h1, Nat.zero_le _, h3⟩
  · exact ⟨Nat.zero_le _, Nat.zero_le _, by nofun⟩
  · exact ⟨Nat.zero_le _, Nat.zero_le _, by nofun⟩
  · exact ⟨Nat.zero_le _, Nat.zero_le _, by nofun⟩
  · exact ⟨Nat.zero_le _, Nat.zero_le _, by nofun⟩
  · exact ⟨Nat.zero_le _, Nat.zero_le _, by nofun⟩
  · exact ⟨Nat.zero_le _, h2, by nofun⟩
  · exact ⟨Nat.zero_le _, Nat.zero_le _, by nofun⟩
theorem cmdS_iff {t : Bytes} (ht : t.length ≤ 70368744177664) {c : CmdM} : cmdS t = some c ↔ t = cmdB c ∧ c.ok ∧ RightC c := by
  constructor
  · intro h
    unfold cmdS tk at h
    simp only at h
    split at h
    · cases h
    · next h1 =>
      obtain ⟨h1, h2⟩ := not_or.1 h1
      split at h
      · cases h
      · next h3 =>
        obtain ⟨h3, h4⟩ := not_or.1 h3
        obtain ⟨h4, h5⟩ := not_or.1 h4
        have h1 := Bool.eq_false_iff.2 h1
        have h3 := Bool.eq_false_iff.2 h3
        have h4 := Decidable.not_not.1 h4
        obtain ⟨b1, e1, o1⟩ := rbInt_good h1
        obtain ⟨-, e0, o0⟩ := (wNum_codec 15 (by omega)).good _ b1
        have e0 : t = _ := e0
        have hl0 : (wNum 15 ⟨t, false⟩).2.t.length ≤ t.length := by
          conv => rhs; rw [e0]
          rw [List.length_append]; omega
        have hl1 : (rbInt (wNum 15 ⟨t, false⟩).2).2.t.length ≤ (wNum 15 ⟨t, false⟩).2.t.length := intO_len _
        generalize hn : (wNum 15 ⟨t, false⟩).1 = n at h h1 h2 h3 h4 h5 e0 o0
        generalize (wNum 15 ⟨t, false⟩).2 = s1 at h h1 h3 h4 h5 e0 b1 e1 o1 hl0 hl1
        generalize (rbInt s1).1 = q at h h1 h3 h4 h5 e1 o1
        generalize (rbInt s1).2 = s2 at h h1 h3 h4 h5 e1 hl1
        have hF := wField_good (k := ckOf (n : Int)) (kd := n) (q := q) (s := s2) ⟨by omega, by omega⟩ o1 (by omega) h3
        generalize wField (ckOf (n : Int)) n q s2 = y at h h3 h4 h5 hF
        simp only [Option.some.injEq] at h
        subst h
        have hk := hF.kind
        refine ⟨?_, hF.ok, by omega, by omega, by simpa using h5, by rw [hk]; exact hF.bare⟩
        unfold cmdB
        rw [hk, hF.req]
        have e2 := hF.t
        rw [h4, List.append_nil] at e2
        rw [← e2, ← e1, show ((n : Nat) : Int).toNat = n from rfl]
        exact e0
  · rintro ⟨rfl, hc, h1, h2, h3, h4⟩
    obtain ⟨p1, p2, p3⟩ := small_iff.1 h3
    unfold cmdB at ht ⊢
    unfold cmdS
    rw [(wNum_codec 15 (by omega)).app _ _ (by omega)]
    unfold tk
    simp only
    rw [rbInt_app _ _ hc.req]
    simp only
    rw [if_neg (by rintro (h | h); (· cases h); omega)]
    have e : ((c.kind.toNat : Nat) : Int) = c.kind := by omega
    rw [e]
    have hl : (fieldsB (ckOf c.kind) c ++ []).length ≤ 70368744177664 := by
      simp only [List.length_append, List.length_nil] at ht ⊢; omega
    have := wField_app (k := ckOf c.kind) [] hc (fun x hx => by have := p3 x hx; omega) (by omega) hl
    rw [List.append_nil] at this
    rw [this, h4]
    simp [h3]
theorem cmdB_bare (c : CmdM) : cmdB (bareF (ckOf c.kind) c) = cmdB c := by
  unfold cmdB; rw [bare_kind, bare_req, bare_fields]
/-- What was written of a small command is read as the command that its kind has bytes for. -/
theorem cmdS_cmdB {c : CmdM} (hl : (cmdB c).length ≤ 70368744177664) (hc : c.ok) (h1 : 1 ≤ c.kind) (h2 : c.kind ≤ 15) (h3 : smallC c = true) : cmdS (cmdB c) = some (bareF (ckOf c.kind) c) := by
  refine (cmdS_iff hl).2 ⟨(cmdB_bare c).symm, bare_ok _ hc, ?_, ?_, small_bare _ h3, ?_⟩
  · rw [bare_kind]; exact h1
  · rw [bare_kind]; exact h2
  · rw [bare_kind, bare_bare]
end Go.Proofs.YthpmmfapolcaiaaDoor

/- Rows of pointers into a block: cells set one by one. -/
namespace Go.Eng
open Go
def setL : List Value → List Nat → List Value → List Value
  | xs, o :: os, v :: vs => setL (xs.set o v) os vs
  | xs, _, _ => xs
theorem setL_snoc : ∀ (os : List Nat) (vs xs : List Value) (o : Nat) (v : Value), os.length = vs.length → setL xs (os ++ [o]) (vs ++ [v]) = (setL xs os vs).set o v
  | [], [], _, _, _, _ => rfl
  | _ :: os, _ :: vs, xs, o, v, h => setL_snoc os vs _ o v (by simpa using h)
theorem setL_len : ∀ (os : List Nat) (vs xs : List Value), (setL xs os vs).length = xs.length
  | [], vs, _ => by cases vs <;> simp [setL]
  | _ :: _, [], _ => by simp [setL]
  | o :: os, v :: vs, xs => by unfold setL; rw [setL_len os vs, List.length_set]
abbrev ptrTo (b o : Nat) : Value := .pointer (some ⟨b, o, none⟩)
end Go.Eng

/- Blocks apart. -/
namespace Go.Eng
open Go
theorem nodup_chunk {w0 w : World} {T : List Nat} {b : Nat} {o : Obj} {H L : Heap} {F : Heap → Heap} (hS : St w0 T ((b, o) :: H) w) [hc : Chunk H L F] : b ∉ keys L := by
  obtain ⟨A, B, h1, -⟩ := hc.at_
  have := hS.nd
  rw [h1] at this
  simp only [keys, List.map_cons, List.map_append, List.nodup_cons] at this
  intro h
  exact this.1 (List.mem_append_right _ (List.mem_append_left _ h))
/-- A row of the call's own, from a place on. -/
theorem St.arrAt {w0 w : World} {T : List Nat} {H : Heap} {b off : Nat} {l xs : List Value} {t : TypeId} {fz : Nat × Nat} {F : Obj → Heap} (hS : St w0 T H w) [Slot H b (.cells ⟨l⟩ t fz) F]
    (hx : (l.drop off).take xs.length = xs) {T' : List Nat} (hb : b ∉ T') : Arr w T' (some ⟨b, off, none⟩) xs := fun j x hj => ⟨b, off, rfl, hb, by
      rw [← hx, List.getElem?_take] at hj
      split at hj
      · rw [List.getElem?_drop] at hj; exact hS.cell hj
      · cases hj⟩
theorem nodup_last {w0 w : World} {T : List Nat} {x : Nat × Obj} {L : Heap} {b : Nat} {o : Obj} (hS : St w0 T (x :: (L ++ [(b, o)])) w) : b ∉ keys L := by
  have := hS.nd
  rw [keys, List.map_cons, List.nodup_cons, List.map_append, List.nodup_append] at this
  intro h
  exact this.2.2.2 _ h _ (by simp) rfl
end Go.Eng

/- Package wire: the writer. -/
namespace Go.Proofs.YthpmmfapolcaiaaDoor
open Go Go.Eng Go.Proofs
abbrev wrV (pb : Nat) : Value := .agg ⟨[ptr pb]⟩
/-- The pointers of a row lead to these values, outside of the blocks T. -/
def PtrsAt (w : World) (T : List Nat) (ps : List (Nat × Nat)) (vs : List Value) : Prop := ∀ (j : Nat) (h : j < ps.length) (h2 : j < vs.length), ps[j].1 ∉ T ∧ w.cell? ⟨ps[j].1, ps[j].2, none⟩ = some vs[j]
abbrev ptrsV (ps : List (Nat × Nat)) : List Value := ps.map fun p => ptrTo p.1 p.2
set_option maxHeartbeats 1000000 in
theorem wint_spec {w : World} {pb : Nat} {bs : Bytes} {L : Heap} (hW : PackW pb bs L) (hh : Holds L w) {a : Option Addr} {cap : Nat} {ps : List (Nat × Nat)} {zs : List Int} (ha : Arr w (keys L) a (ptrsV ps)) (hl : ps.length = zs.length) (hp : PtrsAt w (keys L) ps (zs.map intV)) (hn : ∀ z ∈ zs, i64ok z) (hlen : bs.length + 10 * zs.length ≤ 70368744177664) :
    Cl Tryd.prog f_wire_writer_int [wrV pb, .slice a ps.length cap] w fun _ w' => ∃ L', PackW pb (bs ++ intsB zs) L' ∧ St w (keys L) L' w' := by
  have hS := St.enter hh
  generalize hT : keys L = T0 at hS ha hp ⊢
  refine en_wire_writer_int rfl ?_
  repeat (first | refine SemW.run tblOk ?_ | refine IntG.nw (by omega) ?_ | refine IntG.nu8 (by omega) ?_ | refine IntG.nu32 (by omega) ?_ | refine IntG.nu64 (by omega) ?_ | refine IntG.wr' rfl ?_ | refine Chk.mk (by omega) ?_ | (refine BrG.id ?_; first | with_reducible refine BrG.t ?_ | with_reducible refine BrG.f ?_ | with_reducible refine BrG.notG ?_ | with_reducible refine BrG.nn ?_ | with_reducible refine BrG.ns ?_ | refine BrG.pos (by omega) ?_ | refine BrG.neg (by omega) ?_ | with_reducible refine BrG.pos rfl ?_ | refine BrG.pos (by assumption) ?_ | refine BrG.neg (by assumption) ?_ | refine BrG.pos (by decide) ?_ | refine BrG.neg (by decide) ?_) | refine Chk.mk (ptr_ok tblOk rfl rfl) ?_ | refine NilG.mk (fun _ => by kernel_rfl) ?_ | refine Chk.mk (by decide) ?_)
  refine hS.al ?_
  intro tb w1 _ hS
  repeat (first | refine SemW.run tblOk ?_ | refine IntG.nw (by omega) ?_ | refine IntG.nu8 (by omega) ?_ | refine IntG.nu32 (by omega) ?_ | refine IntG.nu64 (by omega) ?_ | refine IntG.wr' rfl ?_ | refine Chk.mk (by omega) ?_ | (refine BrG.id ?_; first | with_reducible refine BrG.t ?_ | with_reducible refine BrG.f ?_ | with_reducible refine BrG.notG ?_ | with_reducible refine BrG.nn ?_ | with_reducible refine BrG.ns ?_ | refine BrG.pos (by omega) ?_ | refine BrG.neg (by omega) ?_ | with_reducible refine BrG.pos rfl ?_ | refine BrG.pos (by assumption) ?_ | refine BrG.neg (by assumption) ?_ | refine BrG.pos (by decide) ?_ | refine BrG.neg (by decide) ?_) | refine Chk.mk (ptr_ok tblOk rfl rfl) ?_ | refine NilG.mk (fun _ => by kernel_rfl) ?_ | refine Chk.mk (by decide) ?_)
  refine SemW.loop (fun k : Nat => [(2, ptr tb), (6, .slice a ps.length cap), (7, .int .i64 ps.length), (8, .int .i64 k)])
    (fun k w' => k ≤ ps.length ∧ ∃ L', PackW pb (bs ++ intsB (zs.take k)) L' ∧ St w T0 ((tb, .cells ⟨[ptr pb]⟩ T_wire_writer (0, 0)) :: L') w') (fun k => ps.length - k) 0
    ⟨rfl, rfl, rfl, rfl, trivial⟩ ⟨Nat.zero_le _, L, by simpa [intsB] using hW, hS⟩ ?_
  clear hS
  rintro k w2 ⟨hk, L1, hW1, hS⟩
  by_cases hkl : k < ps.length
  · obtain ⟨b', off', rfl, hbT, hck⟩ := ha.get (j := k) (by simp; omega)
    simp only [List.getElem_map] at hck
    obtain ⟨hpT, hpc⟩ := hp k hkl (by rw [List.length_map]; omega)
    rw [List.getElem_map] at hpc
    have hkz : k < zs.length := by omega
    have hs := ints_succ zs k hkz
    have hil := ints_len (zs.take k) (fun z hz => hn z (List.mem_of_mem_take hz))
    rw [List.length_take] at hil
    have hzk := hn zs[k] (List.getElem_mem hkz)
    generalize ps[k] = p at hck hpT hpc
    generalize zs[k] = z at hpc hs hzk
    repeat (first | refine SemW.run tblOk ?_ | refine IntG.nw (by omega) ?_ | refine IntG.nu8 (by omega) ?_ | refine IntG.nu32 (by omega) ?_ | refine IntG.nu64 (by omega) ?_ | refine IntG.wr' rfl ?_ | refine Chk.mk (by omega) ?_ | (refine BrG.id ?_; first | with_reducible refine BrG.t ?_ | with_reducible refine BrG.f ?_ | with_reducible refine BrG.notG ?_ | with_reducible refine BrG.nn ?_ | with_reducible refine BrG.ns ?_ | refine BrG.pos (by omega) ?_ | refine BrG.neg (by omega) ?_ | with_reducible refine BrG.pos rfl ?_ | refine BrG.pos (by assumption) ?_ | refine BrG.neg (by assumption) ?_ | refine BrG.pos (by decide) ?_ | refine BrG.neg (by decide) ?_) | refine Chk.mk (ptr_ok tblOk rfl rfl) ?_ | refine NilG.mk (fun _ => by kernel_rfl) ?_ | refine Chk.mk (by decide) ?_)
    refine hS.ldOld hbT (by simpa using hck) ?_
    repeat (first | refine SemW.run tblOk ?_ | refine IntG.nw (by omega) ?_ | refine IntG.nu8 (by omega) ?_ | refine IntG.nu32 (by omega) ?_ | refine IntG.nu64 (by omega) ?_ | refine IntG.wr' rfl ?_ | refine Chk.mk (by omega) ?_ | (refine BrG.id ?_; first | with_reducible refine BrG.t ?_ | with_reducible refine BrG.f ?_ | with_reducible refine BrG.notG ?_ | with_reducible refine BrG.nn ?_ | with_reducible refine BrG.ns ?_ | refine BrG.pos (by omega) ?_ | refine BrG.neg (by omega) ?_ | with_reducible refine BrG.pos rfl ?_ | refine BrG.pos (by assumption) ?_ | refine BrG.neg (by assumption) ?_ | refine BrG.pos (by decide) ?_ | refine BrG.neg (by decide) ?_) | refine Chk.mk (ptr_ok tblOk rfl rfl) ?_ | refine NilG.mk (fun _ => by kernel_rfl) ?_ | refine Chk.mk (by decide) ?_)
    refine SemW.draw tblOk mixed (fun w' => St w T0 ((tb, .cells ⟨[ptr pb]⟩ T_wire_writer (0, 0)) :: L1) w') [6] [0, 1, 2, 3, 4, 5, 6] (by kernel_rfl) hS.drew ?_
    have hS := hS.drew
    generalize w2.drew = w2 at hS
    repeat (first | refine SemW.run tblOk ?_ | refine IntG.nw (by omega) ?_ | refine IntG.nu8 (by omega) ?_ | refine IntG.nu32 (by omega) ?_ | refine IntG.nu64 (by omega) ?_ | refine IntG.wr' rfl ?_ | refine Chk.mk (by omega) ?_ | (refine BrG.id ?_; first | with_reducible refine BrG.t ?_ | with_reducible refine BrG.f ?_ | with_reducible refine BrG.notG ?_ | with_reducible refine BrG.nn ?_ | with_reducible refine BrG.ns ?_ | refine BrG.pos (by omega) ?_ | refine BrG.neg (by omega) ?_ | with_reducible refine BrG.pos rfl ?_ | refine BrG.pos (by assumption) ?_ | refine BrG.neg (by assumption) ?_ | refine BrG.pos (by decide) ?_ | refine BrG.neg (by decide) ?_) | refine Chk.mk (ptr_ok tblOk rfl rfl) ?_ | refine NilG.mk (fun _ => by kernel_rfl) ?_ | refine Chk.mk (by decide) ?_ | refine hS.ldC rfl ?_ | refine hS.ldnC rfl ?_)
    refine hS.ldOldC hpT hpc ?_
    unfold intV
    repeat (first | refine SemW.run tblOk ?_ | refine IntG.nw (by omega) ?_ | refine IntG.nu8 (by omega) ?_ | refine IntG.nu32 (by omega) ?_ | refine IntG.nu64 (by omega) ?_ | refine IntG.wr' rfl ?_ | refine Chk.mk (by omega) ?_ | (refine BrG.id ?_; first | with_reducible refine BrG.t ?_ | with_reducible refine BrG.f ?_ | with_reducible refine BrG.notG ?_ | with_reducible refine BrG.nn ?_ | with_reducible refine BrG.ns ?_ | refine BrG.pos (by omega) ?_ | refine BrG.neg (by omega) ?_ | with_reducible refine BrG.pos rfl ?_ | refine BrG.pos (by assumption) ?_ | refine BrG.neg (by assumption) ?_ | refine BrG.pos (by decide) ?_ | refine BrG.neg (by decide) ?_) | refine Chk.mk (ptr_ok tblOk rfl rfl) ?_ | refine NilG.mk (fun _ => by kernel_rfl) ?_ | refine Chk.mk (by decide) ?_ | refine hS.ldC rfl ?_ | refine hS.ldnC rfl ?_)
    refine hS.al ?_
    intro r w3 _ hS
    refine Chk.mk (hS.sub (List.sublist_cons_self _ _)) ?_
    repeat (first | refine SemW.run tblOk ?_ | refine IntG.nw (by omega) ?_ | refine IntG.nu8 (by omega) ?_ | refine IntG.nu32 (by omega) ?_ | refine IntG.nu64 (by omega) ?_ | refine IntG.wr' rfl ?_ | refine Chk.mk (by omega) ?_ | (refine BrG.id ?_; first | with_reducible refine BrG.t ?_ | with_reducible refine BrG.f ?_ | with_reducible refine BrG.notG ?_ | with_reducible refine BrG.nn ?_ | with_reducible refine BrG.ns ?_ | refine BrG.pos (by omega) ?_ | refine BrG.neg (by omega) ?_ | with_reducible refine BrG.pos rfl ?_ | refine BrG.pos (by assumption) ?_ | refine BrG.neg (by assumption) ?_ | refine BrG.pos (by decide) ?_ | refine BrG.neg (by decide) ?_) | refine Chk.mk (ptr_ok tblOk rfl rfl) ?_ | refine NilG.mk (fun _ => by kernel_rfl) ?_ | refine Chk.mk (by decide) ?_ | refine hS.ldC rfl ?_ | refine hS.ldnC rfl ?_)
    refine Cl.mono (Int_spec hW1 (hS.part (L := L1)) (zs := [z]) (hS.arr (b := r) (nodup_chunk hS)) (by intro y hy; rw [List.mem_singleton] at hy; subst hy; exact hzk) (by simp) (by simp only [List.length_append, List.length_singleton]; omega)) ?_
    rintro _ w4 ⟨L2, hW2, hS'⟩
    have hS := (hS.call (L := L1) hS').sub (List.sublist_cons_self _ _)
    repeat (first | refine SemW.run tblOk ?_ | refine IntG.nw (by omega) ?_ | refine IntG.nu8 (by omega) ?_ | refine IntG.nu32 (by omega) ?_ | refine IntG.nu64 (by omega) ?_ | refine IntG.wr' rfl ?_ | refine Chk.mk (by omega) ?_ | (refine BrG.id ?_; first | with_reducible refine BrG.t ?_ | with_reducible refine BrG.f ?_ | with_reducible refine BrG.notG ?_ | with_reducible refine BrG.nn ?_ | with_reducible refine BrG.ns ?_ | refine BrG.pos (by omega) ?_ | refine BrG.neg (by omega) ?_ | with_reducible refine BrG.pos rfl ?_ | refine BrG.pos (by assumption) ?_ | refine BrG.neg (by assumption) ?_ | refine BrG.pos (by decide) ?_ | refine BrG.neg (by decide) ?_) | refine Chk.mk (ptr_ok tblOk rfl rfl) ?_ | refine NilG.mk (fun _ => by kernel_rfl) ?_ | refine Chk.mk (by decide) ?_)
    exact ⟨k + 1, ⟨rfl, rfl, rfl, rfl, trivial⟩, ⟨by omega, L2, by rw [hs]; simpa [intsB] using hW2, hS⟩, by omega⟩
  · have hke : k = zs.length := by omega
    subst hke
    rw [List.take_length] at hW1
    repeat (first | refine SemW.run tblOk ?_ | refine IntG.nw (by omega) ?_ | refine IntG.nu8 (by omega) ?_ | refine IntG.nu32 (by omega) ?_ | refine IntG.nu64 (by omega) ?_ | refine IntG.wr' rfl ?_ | refine Chk.mk (by omega) ?_ | (refine BrG.id ?_; first | with_reducible refine BrG.t ?_ | with_reducible refine BrG.f ?_ | with_reducible refine BrG.notG ?_ | with_reducible refine BrG.nn ?_ | with_reducible refine BrG.ns ?_ | refine BrG.pos (by omega) ?_ | refine BrG.neg (by omega) ?_ | with_reducible refine BrG.pos rfl ?_ | refine BrG.pos (by assumption) ?_ | refine BrG.neg (by assumption) ?_ | refine BrG.pos (by decide) ?_ | refine BrG.neg (by decide) ?_) | refine Chk.mk (ptr_ok tblOk rfl rfl) ?_ | refine NilG.mk (fun _ => by kernel_rfl) ?_ | refine Chk.mk (by decide) ?_)
    exact ⟨L1, hW1, hS.sub (List.sublist_cons_self _ _)⟩
set_option maxHeartbeats 1000000 in
theorem wmarks_spec {w : World} {pb : Nat} {bs : Bytes} {L : Heap} (hW : PackW pb bs L) (hh : Holds L w) {a : Option Addr} {cap : Nat} {ps : List (Nat × Nat)} {l : List Bool} (ha : Arr w (keys L) a (ptrsV ps)) (hpl : ps.length = l.length) (hp : PtrsAt w (keys L) ps (l.map Value.bool)) (hl : l.length ≤ 8) (hlen : bs.length ≤ 70368744177664) :
    Cl Tryd.prog f_wire_writer_marks [wrV pb, .slice a ps.length cap] w fun _ w' => ∃ L', PackW pb (bs ++ numB (marksN l)) L' ∧ St w (keys L) L' w' := by
  have hS := St.enter hh
  generalize hT : keys L = T0 at hS ha hp ⊢
  refine en_wire_writer_marks rfl ?_
  repeat (first | refine SemW.run tblOk ?_ | refine IntG.nw (by omega) ?_ | refine IntG.nu8 (by omega) ?_ | refine IntG.nu32 (by omega) ?_ | refine IntG.nu64 (by omega) ?_ | refine IntG.wr' rfl ?_ | refine Chk.mk (by omega) ?_ | (refine BrG.id ?_; first | with_reducible refine BrG.t ?_ | with_reducible refine BrG.f ?_ | with_reducible refine BrG.notG ?_ | with_reducible refine BrG.nn ?_ | with_reducible refine BrG.ns ?_ | refine BrG.pos (by omega) ?_ | refine BrG.neg (by omega) ?_ | with_reducible refine BrG.pos rfl ?_ | refine BrG.pos (by assumption) ?_ | refine BrG.neg (by assumption) ?_ | refine BrG.pos (by decide) ?_ | refine BrG.neg (by decide) ?_) | refine Chk.mk (ptr_ok tblOk rfl rfl) ?_ | refine NilG.mk (fun _ => by kernel_rfl) ?_ | refine Chk.mk (by decide) ?_)
  refine hS.al ?_
  intro tb w1 _ hS
  repeat (first | refine SemW.run tblOk ?_ | refine IntG.nw (by omega) ?_ | refine IntG.nu8 (by omega) ?_ | refine IntG.nu32 (by omega) ?_ | refine IntG.nu64 (by omega) ?_ | refine IntG.wr' rfl ?_ | refine Chk.mk (by omega) ?_ | (refine BrG.id ?_; first | with_reducible refine BrG.t ?_ | with_reducible refine BrG.f ?_ | with_reducible refine BrG.notG ?_ | with_reducible refine BrG.nn ?_ | with_reducible refine BrG.ns ?_ | refine BrG.pos (by omega) ?_ | refine BrG.neg (by omega) ?_ | with_reducible refine BrG.pos rfl ?_ | refine BrG.pos (by assumption) ?_ | refine BrG.neg (by assumption) ?_ | refine BrG.pos (by decide) ?_ | refine BrG.neg (by decide) ?_) | refine Chk.mk (ptr_ok tblOk rfl rfl) ?_ | refine NilG.mk (fun _ => by kernel_rfl) ?_ | refine Chk.mk (by decide) ?_)
  refine SemW.loop (fun k : Nat => [(2, ptr tb), (4, .int .u64 (marksN (l.take k) : Nat)), (7, .slice a ps.length cap), (8, .int .i64 ps.length), (9, .int .i64 k)])
    (fun k w' => k ≤ l.length ∧ St w T0 ((tb, .cells ⟨[ptr pb]⟩ T_wire_writer (0, 0)) :: L) w') (fun k => l.length - k) 0
    ⟨rfl, rfl, rfl, rfl, rfl, trivial⟩ ⟨Nat.zero_le _, hS⟩ ?_
  clear hS
  rintro k w2 ⟨hk, hS⟩
  by_cases hkl : k < l.length
  · obtain ⟨b', off', rfl, hbT, hck⟩ := ha.get (j := k) (by simp; omega)
    simp only [List.getElem_map] at hck
    obtain ⟨hpT, hpc⟩ := hp k (by omega) (by rw [List.length_map]; omega)
    rw [List.getElem_map] at hpc
    have hsn := marksN_snoc (l.take k) l[k]
    rw [← List.take_succ_eq_append_getElem hkl] at hsn
    have hlt := marksN_lt (l.take k)
    have htk : (l.take k).length = k := by simp; omega
    rw [htk] at hlt hsn
    have hk8 : 2 ^ k ≤ 2 ^ 7 := Nat.pow_le_pow_right (by omega) (by omega)
    generalize marksN (l.take k) = m at hsn hlt ⊢
    generalize ps[k] = p at hck hpT hpc
    repeat (first | refine SemW.run tblOk ?_ | refine IntG.nw (by omega) ?_ | refine IntG.nu8 (by omega) ?_ | refine IntG.nu32 (by omega) ?_ | refine IntG.nu64 (by omega) ?_ | refine IntG.wr' rfl ?_ | refine Chk.mk (by omega) ?_ | (refine BrG.id ?_; first | with_reducible refine BrG.t ?_ | with_reducible refine BrG.f ?_ | with_reducible refine BrG.notG ?_ | with_reducible refine BrG.nn ?_ | with_reducible refine BrG.ns ?_ | refine BrG.pos (by omega) ?_ | refine BrG.neg (by omega) ?_ | with_reducible refine BrG.pos rfl ?_ | refine BrG.pos (by assumption) ?_ | refine BrG.neg (by assumption) ?_ | refine BrG.pos (by decide) ?_ | refine BrG.neg (by decide) ?_) | refine Chk.mk (ptr_ok tblOk rfl rfl) ?_ | refine NilG.mk (fun _ => by kernel_rfl) ?_ | refine Chk.mk (by decide) ?_)
    refine hS.ldOld hbT (by simpa using hck) ?_
    repeat (first | refine SemW.run tblOk ?_ | refine IntG.nw (by omega) ?_ | refine IntG.nu8 (by omega) ?_ | refine IntG.nu32 (by omega) ?_ | refine IntG.nu64 (by omega) ?_ | refine IntG.wr' rfl ?_ | refine Chk.mk (by omega) ?_ | (refine BrG.id ?_; first | with_reducible refine BrG.t ?_ | with_reducible refine BrG.f ?_ | with_reducible refine BrG.notG ?_ | with_reducible refine BrG.nn ?_ | with_reducible refine BrG.ns ?_ | refine BrG.pos (by omega) ?_ | refine BrG.neg (by omega) ?_ | with_reducible refine BrG.pos rfl ?_ | refine BrG.pos (by assumption) ?_ | refine BrG.neg (by assumption) ?_ | refine BrG.pos (by decide) ?_ | refine BrG.neg (by decide) ?_) | refine Chk.mk (ptr_ok tblOk rfl rfl) ?_ | refine NilG.mk (fun _ => by kernel_rfl) ?_ | refine Chk.mk (by decide) ?_)
    refine hS.ldOld hpT hpc ?_
    generalize l[k] = bit at hsn ⊢
    cases bit with
    | true =>
      simp only [if_true] at hsn
      have e1 : orI .u64 (m : Int) (IntKind.u64.wrap (1 * 2 ^ (min ((k : Int)).toNat IntKind.u64.bits))) = ((m + 2 ^ k : Nat) : Int) := by
        rw [show min ((k : Int)).toNat IntKind.u64.bits = k by show min _ 64 = _; omega]
        have e2 : (1 : Int) * 2 ^ k = ((2 ^ k : Nat) : Int) := by simp
        have e3 : 2 ^ k % 2 ^ IntKind.u64.bits = 2 ^ k := Nat.mod_eq_of_lt (show 2 ^ k < 18446744073709551616 by omega)
        rw [e2, wrapU .u64 rfl, e3, orU .u64 rfl _ _ (show m < 18446744073709551616 by omega) (show 2 ^ k < 18446744073709551616 by omega), Nat.or_comm]
        have := or_add 1 m k hlt
        rw [Nat.one_mul] at this
        rw [this, Nat.add_comm]
      repeat (first | refine SemW.run tblOk ?_ | refine IntG.nw (by omega) ?_ | refine IntG.nu8 (by omega) ?_ | refine IntG.nu32 (by omega) ?_ | refine IntG.nu64 (by omega) ?_ | refine IntG.wr' rfl ?_ | refine Chk.mk (by omega) ?_ | (refine BrG.id ?_; first | with_reducible refine BrG.t ?_ | with_reducible refine BrG.f ?_ | with_reducible refine BrG.notG ?_ | with_reducible refine BrG.nn ?_ | with_reducible refine BrG.ns ?_ | refine BrG.pos (by omega) ?_ | refine BrG.neg (by omega) ?_ | with_reducible refine BrG.pos rfl ?_ | refine BrG.pos (by assumption) ?_ | refine BrG.neg (by assumption) ?_ | refine BrG.pos (by decide) ?_ | refine BrG.neg (by decide) ?_) | refine Chk.mk (ptr_ok tblOk rfl rfl) ?_ | refine NilG.mk (fun _ => by kernel_rfl) ?_ | refine Chk.mk (by decide) ?_)
      rw [e1]
      repeat (first | refine SemW.run tblOk ?_ | refine IntG.nw (by omega) ?_ | refine IntG.nu8 (by omega) ?_ | refine IntG.nu32 (by omega) ?_ | refine IntG.nu64 (by omega) ?_ | refine IntG.wr' rfl ?_ | refine Chk.mk (by omega) ?_ | (refine BrG.id ?_; first | with_reducible refine BrG.t ?_ | with_reducible refine BrG.f ?_ | with_reducible refine BrG.notG ?_ | with_reducible refine BrG.nn ?_ | with_reducible refine BrG.ns ?_ | refine BrG.pos (by omega) ?_ | refine BrG.neg (by omega) ?_ | with_reducible refine BrG.pos rfl ?_ | refine BrG.pos (by assumption) ?_ | refine BrG.neg (by assumption) ?_ | refine BrG.pos (by decide) ?_ | refine BrG.neg (by decide) ?_) | refine Chk.mk (ptr_ok tblOk rfl rfl) ?_ | refine NilG.mk (fun _ => by kernel_rfl) ?_ | refine Chk.mk (by decide) ?_)
      exact ⟨k + 1, ⟨rfl, congrArg (Value.int .u64) (by rw [hsn]), rfl, rfl, rfl, trivial⟩, ⟨by omega, hS⟩, by omega⟩
    | false =>
      simp only [Bool.false_eq_true, if_false, Nat.add_zero] at hsn
      repeat (first | refine SemW.run tblOk ?_ | refine IntG.nw (by omega) ?_ | refine IntG.nu8 (by omega) ?_ | refine IntG.nu32 (by omega) ?_ | refine IntG.nu64 (by omega) ?_ | refine IntG.wr' rfl ?_ | refine Chk.mk (by omega) ?_ | (refine BrG.id ?_; first | with_reducible refine BrG.t ?_ | with_reducible refine BrG.f ?_ | with_reducible refine BrG.notG ?_ | with_reducible refine BrG.nn ?_ | with_reducible refine BrG.ns ?_ | refine BrG.pos (by omega) ?_ | refine BrG.neg (by omega) ?_ | with_reducible refine BrG.pos rfl ?_ | refine BrG.pos (by assumption) ?_ | refine BrG.neg (by assumption) ?_ | refine BrG.pos (by decide) ?_ | refine BrG.neg (by decide) ?_) | refine Chk.mk (ptr_ok tblOk rfl rfl) ?_ | refine NilG.mk (fun _ => by kernel_rfl) ?_ | refine Chk.mk (by decide) ?_)
      exact ⟨k + 1, ⟨rfl, congrArg (Value.int .u64) (by rw [hsn]), rfl, rfl, rfl, trivial⟩, ⟨by omega, hS⟩, by omega⟩
  · have hke : k = l.length := by omega
    subst hke
    rw [List.take_length]
    have hlt := marksN_lt l
    have hk8 : 2 ^ l.length ≤ 2 ^ 8 := Nat.pow_le_pow_right (by omega) hl
    repeat (first | refine SemW.run tblOk ?_ | refine IntG.nw (by omega) ?_ | refine IntG.nu8 (by omega) ?_ | refine IntG.nu32 (by omega) ?_ | refine IntG.nu64 (by omega) ?_ | refine IntG.wr' rfl ?_ | refine Chk.mk (by omega) ?_ | (refine BrG.id ?_; first | with_reducible refine BrG.t ?_ | with_reducible refine BrG.f ?_ | with_reducible refine BrG.notG ?_ | with_reducible refine BrG.nn ?_ | with_reducible refine BrG.ns ?_ | refine BrG.pos (by omega) ?_ | refine BrG.neg (by omega) ?_ | with_reducible refine BrG.pos rfl ?_ | refine BrG.pos (by assumption) ?_ | refine BrG.neg (by assumption) ?_ | refine BrG.pos (by decide) ?_ | refine BrG.neg (by decide) ?_) | refine Chk.mk (ptr_ok tblOk rfl rfl) ?_ | refine NilG.mk (fun _ => by kernel_rfl) ?_ | refine Chk.mk (by decide) ?_ | refine hS.ld rfl ?_ | refine hS.ldn rfl ?_ | (refine hS.st rfl rfl ?_; intro _ hS))
    refine hS.al ?_
    intro r w3 _ hS
    repeat (first | refine SemW.run tblOk ?_ | refine IntG.nw (by omega) ?_ | refine IntG.nu8 (by omega) ?_ | refine IntG.nu32 (by omega) ?_ | refine IntG.nu64 (by omega) ?_ | refine IntG.wr' rfl ?_ | refine Chk.mk (by omega) ?_ | (refine BrG.id ?_; first | with_reducible refine BrG.t ?_ | with_reducible refine BrG.f ?_ | with_reducible refine BrG.notG ?_ | with_reducible refine BrG.nn ?_ | with_reducible refine BrG.ns ?_ | refine BrG.pos (by omega) ?_ | refine BrG.neg (by omega) ?_ | with_reducible refine BrG.pos rfl ?_ | refine BrG.pos (by assumption) ?_ | refine BrG.neg (by assumption) ?_ | refine BrG.pos (by decide) ?_ | refine BrG.neg (by decide) ?_) | refine Chk.mk (ptr_ok tblOk rfl rfl) ?_ | refine NilG.mk (fun _ => by kernel_rfl) ?_ | refine Chk.mk (by decide) ?_ | refine hS.ld rfl ?_ | refine hS.ldn rfl ?_ | (refine hS.st rfl rfl ?_; intro _ hS))
    refine Cl.mono (Num_spec hW (hS.part (L := L)) (ns := [marksN l]) (hS.arr (b := r) (nodup_chunk hS)) (by intro n hn; simp only [List.mem_cons, List.mem_nil_iff, or_false] at hn; subst hn; omega) (by simp) (by simp; omega)) ?_
    rintro _ w4 ⟨L1, hW1, hS'⟩
    have hS := hS.call (L := L) hS'
    repeat (first | refine SemW.run tblOk ?_ | refine IntG.nw (by omega) ?_ | refine IntG.nu8 (by omega) ?_ | refine IntG.nu32 (by omega) ?_ | refine IntG.nu64 (by omega) ?_ | refine IntG.wr' rfl ?_ | refine Chk.mk (by omega) ?_ | (refine BrG.id ?_; first | with_reducible refine BrG.t ?_ | with_reducible refine BrG.f ?_ | with_reducible refine BrG.notG ?_ | with_reducible refine BrG.nn ?_ | with_reducible refine BrG.ns ?_ | refine BrG.pos (by omega) ?_ | refine BrG.neg (by omega) ?_ | with_reducible refine BrG.pos rfl ?_ | refine BrG.pos (by assumption) ?_ | refine BrG.neg (by assumption) ?_ | refine BrG.pos (by decide) ?_ | refine BrG.neg (by decide) ?_) | refine Chk.mk (ptr_ok tblOk rfl rfl) ?_ | refine NilG.mk (fun _ => by kernel_rfl) ?_ | refine Chk.mk (by decide) ?_)
    refine ⟨L1, ?_, hS.sub ((List.sublist_cons_self _ _).trans (List.sublist_cons_self _ _))⟩
    simpa using hW1
set_option maxHeartbeats 1000000 in
theorem wtext_spec {w : World} {pb : Nat} {bs : Bytes} {L : Heap} (hW : PackW pb bs L) (hh : Holds L w) {p : Nat × Nat} {x : Bytes} (hp : p.1 ∉ keys L ∧ w.cell? ⟨p.1, p.2, none⟩ = some (Str x)) (hlen : bs.length + x.length ≤ 70368744177664) :
    Cl Tryd.prog f_wire_writer_text [wrV pb, ptrTo p.1 p.2] w fun _ w' => ∃ L', PackW pb (bs ++ textB x) L' ∧ St w (keys L) L' w' := by
  have hS := St.enter hh
  have hsl : sumLen [x] = x.length := by simp [sumLen]
  generalize hT : keys L = T0 at hS hp ⊢
  refine en_wire_writer_text rfl ?_
  repeat (first | refine SemW.run tblOk ?_ | refine IntG.nw (by omega) ?_ | refine IntG.nu8 (by omega) ?_ | refine IntG.nu32 (by omega) ?_ | refine IntG.nu64 (by omega) ?_ | refine IntG.wr' rfl ?_ | refine Chk.mk (by omega) ?_ | (refine BrG.id ?_; first | with_reducible refine BrG.t ?_ | with_reducible refine BrG.f ?_ | with_reducible refine BrG.notG ?_ | with_reducible refine BrG.nn ?_ | with_reducible refine BrG.ns ?_ | refine BrG.pos (by omega) ?_ | refine BrG.neg (by omega) ?_ | with_reducible refine BrG.pos rfl ?_ | refine BrG.pos (by assumption) ?_ | refine BrG.neg (by assumption) ?_ | refine BrG.pos (by decide) ?_ | refine BrG.neg (by decide) ?_) | refine Chk.mk (ptr_ok tblOk rfl rfl) ?_ | refine NilG.mk (fun _ => by kernel_rfl) ?_ | refine Chk.mk (by decide) ?_)
  refine hS.al ?_
  intro tb w1 _ hS
  repeat (first | refine SemW.run tblOk ?_ | refine IntG.nw (by omega) ?_ | refine IntG.nu8 (by omega) ?_ | refine IntG.nu32 (by omega) ?_ | refine IntG.nu64 (by omega) ?_ | refine IntG.wr' rfl ?_ | refine Chk.mk (by omega) ?_ | (refine BrG.id ?_; first | with_reducible refine BrG.t ?_ | with_reducible refine BrG.f ?_ | with_reducible refine BrG.notG ?_ | with_reducible refine BrG.nn ?_ | with_reducible refine BrG.ns ?_ | refine BrG.pos (by omega) ?_ | refine BrG.neg (by omega) ?_ | with_reducible refine BrG.pos rfl ?_ | refine BrG.pos (by assumption) ?_ | refine BrG.neg (by assumption) ?_ | refine BrG.pos (by decide) ?_ | refine BrG.neg (by decide) ?_) | refine Chk.mk (ptr_ok tblOk rfl rfl) ?_ | refine NilG.mk (fun _ => by kernel_rfl) ?_ | refine Chk.mk (by decide) ?_)
  refine SemW.draw tblOk mixed (fun w' => St w T0 ((tb, .cells ⟨[ptr pb]⟩ T_wire_writer (0, 0)) :: L) w') [6] [0, 1, 2, 3, 4, 5, 6] (by kernel_rfl) hS.drew ?_
  have hS := hS.drew
  repeat (first | refine SemW.run tblOk ?_ | refine IntG.nw (by omega) ?_ | refine IntG.nu8 (by omega) ?_ | refine IntG.nu32 (by omega) ?_ | refine IntG.nu64 (by omega) ?_ | refine IntG.wr' rfl ?_ | refine Chk.mk (by omega) ?_ | (refine BrG.id ?_; first | with_reducible refine BrG.t ?_ | with_reducible refine BrG.f ?_ | with_reducible refine BrG.notG ?_ | with_reducible refine BrG.nn ?_ | with_reducible refine BrG.ns ?_ | refine BrG.pos (by omega) ?_ | refine BrG.neg (by omega) ?_ | with_reducible refine BrG.pos rfl ?_ | refine BrG.pos (by assumption) ?_ | refine BrG.neg (by assumption) ?_ | refine BrG.pos (by decide) ?_ | refine BrG.neg (by decide) ?_) | refine Chk.mk (ptr_ok tblOk rfl rfl) ?_ | refine NilG.mk (fun _ => by kernel_rfl) ?_ | refine Chk.mk (by decide) ?_ | refine hS.ldC rfl ?_ | refine hS.ldnC rfl ?_)
  refine hS.ldOldC hp.1 hp.2 ?_
  repeat (first | refine SemW.run tblOk ?_ | refine IntG.nw (by omega) ?_ | refine IntG.nu8 (by omega) ?_ | refine IntG.nu32 (by omega) ?_ | refine IntG.nu64 (by omega) ?_ | refine IntG.wr' rfl ?_ | refine Chk.mk (by omega) ?_ | (refine BrG.id ?_; first | with_reducible refine BrG.t ?_ | with_reducible refine BrG.f ?_ | with_reducible refine BrG.notG ?_ | with_reducible refine BrG.nn ?_ | with_reducible refine BrG.ns ?_ | refine BrG.pos (by omega) ?_ | refine BrG.neg (by omega) ?_ | with_reducible refine BrG.pos rfl ?_ | refine BrG.pos (by assumption) ?_ | refine BrG.neg (by assumption) ?_ | refine BrG.pos (by decide) ?_ | refine BrG.neg (by decide) ?_) | refine Chk.mk (ptr_ok tblOk rfl rfl) ?_ | refine NilG.mk (fun _ => by kernel_rfl) ?_ | refine Chk.mk (by decide) ?_ | refine hS.ldC rfl ?_ | refine hS.ldnC rfl ?_)
  refine hS.al ?_
  intro r w3 _ hS
  refine Chk.mk (hS.sub (List.sublist_cons_self _ _)) ?_
  repeat (first | refine SemW.run tblOk ?_ | refine IntG.nw (by omega) ?_ | refine IntG.nu8 (by omega) ?_ | refine IntG.nu32 (by omega) ?_ | refine IntG.nu64 (by omega) ?_ | refine IntG.wr' rfl ?_ | refine Chk.mk (by omega) ?_ | (refine BrG.id ?_; first | with_reducible refine BrG.t ?_ | with_reducible refine BrG.f ?_ | with_reducible refine BrG.notG ?_ | with_reducible refine BrG.nn ?_ | with_reducible refine BrG.ns ?_ | refine BrG.pos (by omega) ?_ | refine BrG.neg (by omega) ?_ | with_reducible refine BrG.pos rfl ?_ | refine BrG.pos (by assumption) ?_ | refine BrG.neg (by assumption) ?_ | refine BrG.pos (by decide) ?_ | refine BrG.neg (by decide) ?_) | refine Chk.mk (ptr_ok tblOk rfl rfl) ?_ | refine NilG.mk (fun _ => by kernel_rfl) ?_ | refine Chk.mk (by decide) ?_ | refine hS.ldC rfl ?_ | refine hS.ldnC rfl ?_)
  refine Cl.mono (Text_spec hW (hS.part (L := L)) (ss := [x]) (hS.arr (b := r) (nodup_chunk hS)) (by rw [hsl]; simp only [List.length_singleton]; omega)) ?_
  rintro _ w4 ⟨L2, hW2, hS'⟩
  have hS := (hS.call (L := L) hS').sub (List.sublist_cons_self _ _)
  repeat (first | refine SemW.run tblOk ?_ | refine IntG.nw (by omega) ?_ | refine IntG.nu8 (by omega) ?_ | refine IntG.nu32 (by omega) ?_ | refine IntG.nu64 (by omega) ?_ | refine IntG.wr' rfl ?_ | refine Chk.mk (by omega) ?_ | (refine BrG.id ?_; first | with_reducible refine BrG.t ?_ | with_reducible refine BrG.f ?_ | with_reducible refine BrG.notG ?_ | with_reducible refine BrG.nn ?_ | with_reducible refine BrG.ns ?_ | refine BrG.pos (by omega) ?_ | refine BrG.neg (by omega) ?_ | with_reducible refine BrG.pos rfl ?_ | refine BrG.pos (by assumption) ?_ | refine BrG.neg (by assumption) ?_ | refine BrG.pos (by decide) ?_ | refine BrG.neg (by decide) ?_) | refine Chk.mk (ptr_ok tblOk rfl rfl) ?_ | refine NilG.mk (fun _ => by kernel_rfl) ?_ | refine Chk.mk (by decide) ?_)
  exact ⟨L2, by simpa [textsB] using hW2, hS.sub (List.sublist_cons_self _ _)⟩
set_option maxHeartbeats 1000000 in
theorem wletter_spec {w : World} {pb : Nat} {bs : Bytes} {L : Heap} (hW : PackW pb bs L) (hh : Holds L w) {p : Nat × Nat} {c : Nat} (hc : c < 256) (hp : p.1 ∉ keys L ∧ w.cell? ⟨p.1, p.2, none⟩ = some (.int .u8 c)) (hlen : bs.length ≤ 70368744177664) :
    Cl Tryd.prog f_wire_writer_letter [wrV pb, ptrTo p.1 p.2] w fun _ w' => ∃ L', PackW pb (bs ++ numB c) L' ∧ St w (keys L) L' w' := by
  have hS := St.enter hh
  generalize hT : keys L = T0 at hS hp ⊢
  refine en_wire_writer_letter rfl ?_
  repeat (first | refine SemW.run tblOk ?_ | refine IntG.nw (by omega) ?_ | refine IntG.nu8 (by omega) ?_ | refine IntG.nu32 (by omega) ?_ | refine IntG.nu64 (by omega) ?_ | refine IntG.wr' rfl ?_ | refine Chk.mk (by omega) ?_ | (refine BrG.id ?_; first | with_reducible refine BrG.t ?_ | with_reducible refine BrG.f ?_ | with_reducible refine BrG.notG ?_ | with_reducible refine BrG.nn ?_ | with_reducible refine BrG.ns ?_ | refine BrG.pos (by omega) ?_ | refine BrG.neg (by omega) ?_ | with_reducible refine BrG.pos rfl ?_ | refine BrG.pos (by assumption) ?_ | refine BrG.neg (by assumption) ?_ | refine BrG.pos (by decide) ?_ | refine BrG.neg (by decide) ?_) | refine Chk.mk (ptr_ok tblOk rfl rfl) ?_ | refine NilG.mk (fun _ => by kernel_rfl) ?_ | refine Chk.mk (by decide) ?_)
  refine hS.al ?_
  intro tb w1 _ hS
  repeat (first | refine SemW.run tblOk ?_ | refine IntG.nw (by omega) ?_ | refine IntG.nu8 (by omega) ?_ | refine IntG.nu32 (by omega) ?_ | refine IntG.nu64 (by omega) ?_ | refine IntG.wr' rfl ?_ | refine Chk.mk (by omega) ?_ | (refine BrG.id ?_; first | with_reducible refine BrG.t ?_ | with_reducible refine BrG.f ?_ | with_reducible refine BrG.notG ?_ | with_reducible refine BrG.nn ?_ | with_reducible refine BrG.ns ?_ | refine BrG.pos (by omega) ?_ | refine BrG.neg (by omega) ?_ | with_reducible refine BrG.pos rfl ?_ | refine BrG.pos (by assumption) ?_ | refine BrG.neg (by assumption) ?_ | refine BrG.pos (by decide) ?_ | refine BrG.neg (by decide) ?_) | refine Chk.mk (ptr_ok tblOk rfl rfl) ?_ | refine NilG.mk (fun _ => by kernel_rfl) ?_ | refine Chk.mk (by decide) ?_)
  refine SemW.draw tblOk mixed (fun w' => St w T0 ((tb, .cells ⟨[ptr pb]⟩ T_wire_writer (0, 0)) :: L) w') [7] [0, 1, 2, 3, 4, 5, 6, 7] (by kernel_rfl) hS.drew ?_
  have hS := hS.drew
  repeat (first | refine SemW.run tblOk ?_ | refine IntG.nw (by omega) ?_ | refine IntG.nu8 (by omega) ?_ | refine IntG.nu32 (by omega) ?_ | refine IntG.nu64 (by omega) ?_ | refine IntG.wr' rfl ?_ | refine Chk.mk (by omega) ?_ | (refine BrG.id ?_; first | with_reducible refine BrG.t ?_ | with_reducible refine BrG.f ?_ | with_reducible refine BrG.notG ?_ | with_reducible refine BrG.nn ?_ | with_reducible refine BrG.ns ?_ | refine BrG.pos (by omega) ?_ | refine BrG.neg (by omega) ?_ | with_reducible refine BrG.pos rfl ?_ | refine BrG.pos (by assumption) ?_ | refine BrG.neg (by assumption) ?_ | refine BrG.pos (by decide) ?_ | refine BrG.neg (by decide) ?_) | refine Chk.mk (ptr_ok tblOk rfl rfl) ?_ | refine NilG.mk (fun _ => by kernel_rfl) ?_ | refine Chk.mk (by decide) ?_ | refine hS.ldC rfl ?_ | refine hS.ldnC rfl ?_)
  refine hS.ldOldC hp.1 hp.2 ?_
  repeat (first | refine SemW.run tblOk ?_ | refine IntG.nw (by omega) ?_ | refine IntG.nu8 (by omega) ?_ | refine IntG.nu32 (by omega) ?_ | refine IntG.nu64 (by omega) ?_ | refine IntG.wr' rfl ?_ | refine Chk.mk (by omega) ?_ | (refine BrG.id ?_; first | with_reducible refine BrG.t ?_ | with_reducible refine BrG.f ?_ | with_reducible refine BrG.notG ?_ | with_reducible refine BrG.nn ?_ | with_reducible refine BrG.ns ?_ | refine BrG.pos (by omega) ?_ | refine BrG.neg (by omega) ?_ | with_reducible refine BrG.pos rfl ?_ | refine BrG.pos (by assumption) ?_ | refine BrG.neg (by assumption) ?_ | refine BrG.pos (by decide) ?_ | refine BrG.neg (by decide) ?_) | refine Chk.mk (ptr_ok tblOk rfl rfl) ?_ | refine NilG.mk (fun _ => by kernel_rfl) ?_ | refine Chk.mk (by decide) ?_ | refine hS.ldC rfl ?_ | refine hS.ldnC rfl ?_)
  refine hS.al ?_
  intro r w3 _ hS
  refine Chk.mk (hS.sub (List.sublist_cons_self _ _)) ?_
  repeat (first | refine SemW.run tblOk ?_ | refine IntG.nw (by omega) ?_ | refine IntG.nu8 (by omega) ?_ | refine IntG.nu32 (by omega) ?_ | refine IntG.nu64 (by omega) ?_ | refine IntG.wr' rfl ?_ | refine Chk.mk (by omega) ?_ | (refine BrG.id ?_; first | with_reducible refine BrG.t ?_ | with_reducible refine BrG.f ?_ | with_reducible refine BrG.notG ?_ | with_reducible refine BrG.nn ?_ | with_reducible refine BrG.ns ?_ | refine BrG.pos (by omega) ?_ | refine BrG.neg (by omega) ?_ | with_reducible refine BrG.pos rfl ?_ | refine BrG.pos (by assumption) ?_ | refine BrG.neg (by assumption) ?_ | refine BrG.pos (by decide) ?_ | refine BrG.neg (by decide) ?_) | refine Chk.mk (ptr_ok tblOk rfl rfl) ?_ | refine NilG.mk (fun _ => by kernel_rfl) ?_ | refine Chk.mk (by decide) ?_ | refine hS.ldC rfl ?_ | refine hS.ldnC rfl ?_)
  refine Cl.mono (Num_spec hW (hS.part (L := L)) (ns := [c]) (hS.arr (b := r) (nodup_chunk hS)) (by intro n hn; simp only [List.mem_cons, List.mem_nil_iff, or_false] at hn; subst hn; omega) (by simp) (by simp; omega)) ?_
  rintro _ w4 ⟨L2, hW2, hS'⟩
  have hS := (hS.call (L := L) hS').sub (List.sublist_cons_self _ _)
  repeat (first | refine SemW.run tblOk ?_ | refine IntG.nw (by omega) ?_ | refine IntG.nu8 (by omega) ?_ | refine IntG.nu32 (by omega) ?_ | refine IntG.nu64 (by omega) ?_ | refine IntG.wr' rfl ?_ | refine Chk.mk (by omega) ?_ | (refine BrG.id ?_; first | with_reducible refine BrG.t ?_ | with_reducible refine BrG.f ?_ | with_reducible refine BrG.notG ?_ | with_reducible refine BrG.nn ?_ | with_reducible refine BrG.ns ?_ | refine BrG.pos (by omega) ?_ | refine BrG.neg (by omega) ?_ | with_reducible refine BrG.pos rfl ?_ | refine BrG.pos (by assumption) ?_ | refine BrG.neg (by assumption) ?_ | refine BrG.pos (by decide) ?_ | refine BrG.neg (by decide) ?_) | refine Chk.mk (ptr_ok tblOk rfl rfl) ?_ | refine NilG.mk (fun _ => by kernel_rfl) ?_ | refine Chk.mk (by decide) ?_)
  exact ⟨L2, by simpa using hW2, hS.sub (List.sublist_cons_self _ _)⟩
set_option maxHeartbeats 1000000 in
theorem wcount_spec {w : World} {pb : Nat} {bs : Bytes} {L : Heap} (hW : PackW pb bs L) (hh : Holds L w) {n : Nat} (hn : n ≤ 1099511627776) (hlen : bs.length ≤ 70368744177664) :
    Cl Tryd.prog f_wire_writer_count [wrV pb, .int .i64 n] w fun v w' => v = .int .i64 n ∧ ∃ L', PackW pb (bs ++ numB n) L' ∧ St w (keys L) L' w' := by
  have hS := St.enter hh
  generalize hT : keys L = T0 at hS ⊢
  refine en_wire_writer_count rfl ?_
  repeat (first | refine SemW.run tblOk ?_ | refine IntG.nw (by omega) ?_ | refine IntG.nu8 (by omega) ?_ | refine IntG.nu32 (by omega) ?_ | refine IntG.nu64 (by omega) ?_ | refine IntG.wr' rfl ?_ | refine Chk.mk (by omega) ?_ | (refine BrG.id ?_; first | with_reducible refine BrG.t ?_ | with_reducible refine BrG.f ?_ | with_reducible refine BrG.notG ?_ | with_reducible refine BrG.nn ?_ | with_reducible refine BrG.ns ?_ | refine BrG.pos (by omega) ?_ | refine BrG.neg (by omega) ?_ | with_reducible refine BrG.pos rfl ?_ | refine BrG.pos (by assumption) ?_ | refine BrG.neg (by assumption) ?_ | refine BrG.pos (by decide) ?_ | refine BrG.neg (by decide) ?_) | refine Chk.mk (ptr_ok tblOk rfl rfl) ?_ | refine NilG.mk (fun _ => by kernel_rfl) ?_ | refine Chk.mk (by decide) ?_)
  refine hS.al ?_
  intro tb w1 _ hS
  repeat (first | refine SemW.run tblOk ?_ | refine IntG.nw (by omega) ?_ | refine IntG.nu8 (by omega) ?_ | refine IntG.nu32 (by omega) ?_ | refine IntG.nu64 (by omega) ?_ | refine IntG.wr' rfl ?_ | refine Chk.mk (by omega) ?_ | (refine BrG.id ?_; first | with_reducible refine BrG.t ?_ | with_reducible refine BrG.f ?_ | with_reducible refine BrG.notG ?_ | with_reducible refine BrG.nn ?_ | with_reducible refine BrG.ns ?_ | refine BrG.pos (by omega) ?_ | refine BrG.neg (by omega) ?_ | with_reducible refine BrG.pos rfl ?_ | refine BrG.pos (by assumption) ?_ | refine BrG.neg (by assumption) ?_ | refine BrG.pos (by decide) ?_ | refine BrG.neg (by decide) ?_) | refine Chk.mk (ptr_ok tblOk rfl rfl) ?_ | refine NilG.mk (fun _ => by kernel_rfl) ?_ | refine Chk.mk (by decide) ?_ | refine hS.ld rfl ?_ | refine hS.ldn rfl ?_ | (refine hS.st rfl rfl ?_; intro _ hS))
  refine hS.al ?_
  intro r w3 _ hS
  repeat (first | refine SemW.run tblOk ?_ | refine IntG.nw (by omega) ?_ | refine IntG.nu8 (by omega) ?_ | refine IntG.nu32 (by omega) ?_ | refine IntG.nu64 (by omega) ?_ | refine IntG.wr' rfl ?_ | refine Chk.mk (by omega) ?_ | (refine BrG.id ?_; first | with_reducible refine BrG.t ?_ | with_reducible refine BrG.f ?_ | with_reducible refine BrG.notG ?_ | with_reducible refine BrG.nn ?_ | with_reducible refine BrG.ns ?_ | refine BrG.pos (by omega) ?_ | refine BrG.neg (by omega) ?_ | with_reducible refine BrG.pos rfl ?_ | refine BrG.pos (by assumption) ?_ | refine BrG.neg (by assumption) ?_ | refine BrG.pos (by decide) ?_ | refine BrG.neg (by decide) ?_) | refine Chk.mk (ptr_ok tblOk rfl rfl) ?_ | refine NilG.mk (fun _ => by kernel_rfl) ?_ | refine Chk.mk (by decide) ?_ | refine hS.ld rfl ?_ | refine hS.ldn rfl ?_ | (refine hS.st rfl rfl ?_; intro _ hS))
  refine Cl.mono (Num_spec hW (hS.part (L := L)) (ns := [n]) (hS.arr (b := r) (nodup_chunk hS)) (by intro m hm; simp only [List.mem_cons, List.mem_nil_iff, or_false] at hm; subst hm; omega) (by simp) (by simp; omega)) ?_
  rintro _ w4 ⟨L2, hW2, hS'⟩
  have hS := (hS.call (L := L) hS').sub (List.sublist_cons_self _ _)
  repeat (first | refine SemW.run tblOk ?_ | refine IntG.nw (by omega) ?_ | refine IntG.nu8 (by omega) ?_ | refine IntG.nu32 (by omega) ?_ | refine IntG.nu64 (by omega) ?_ | refine IntG.wr' rfl ?_ | refine Chk.mk (by omega) ?_ | (refine BrG.id ?_; first | with_reducible refine BrG.t ?_ | with_reducible refine BrG.f ?_ | with_reducible refine BrG.notG ?_ | with_reducible refine BrG.nn ?_ | with_reducible refine BrG.ns ?_ | refine BrG.pos (by omega) ?_ | refine BrG.neg (by omega) ?_ | with_reducible refine BrG.pos rfl ?_ | refine BrG.pos (by assumption) ?_ | refine BrG.neg (by assumption) ?_ | refine BrG.pos (by decide) ?_ | refine BrG.neg (by decide) ?_) | refine Chk.mk (ptr_ok tblOk rfl rfl) ?_ | refine NilG.mk (fun _ => by kernel_rfl) ?_ | refine Chk.mk (by decide) ?_)
  exact ⟨rfl, L2, by simpa using hW2, hS.sub (List.sublist_cons_self _ _)⟩
end Go.Proofs.YthpmmfapolcaiaaDoor

/- Package wire: a command's fields, written. -/
namespace Go.Eng
open Go
theorem St.cellNew {w0 w : World} {T : List Nat} {H L : Heap} {F : Heap → Heap} (hS : St w0 T H w) [hc : Chunk H L F] {b o : Nat} {v : Value} (h2 : b ∉ T) (h3 : w0.cell? ⟨b, o, none⟩ = some v) : b ∉ keys L ∧ w.cell? ⟨b, o, none⟩ = some v := by
  refine ⟨fun hm => ?_, hS.oldCell (a := ⟨b, o, none⟩) h2 h3⟩
  obtain ⟨A, B, hH, _⟩ := hc.at_
  obtain ⟨p, hp, rfl⟩ := List.mem_map.1 hm
  refine h2 (hS.fresh p (by rw [hH]; simp [hp]) ?_)
  cases hb : w0.heap[p.1]? with
  | none => simp [World.cell?, hb] at h3
  | some o => exact (Array.getElem?_eq_some_iff.1 hb).1
end Go.Eng
namespace Go.Proofs.YthpmmfapolcaiaaDoor
open Go Go.Eng Go.Proofs
abbrev cmdC (c : CmdM) (a : Option Addr) (cap : Nat) : List Value := [.int .i64 c.kind, .int .i64 c.req, .int .i64 c.id, .int .i64 c.fl, .int .i64 c.eq, .int .i64 c.cls, .int .i64 c.wcab, .bool c.fit, .bool c.inf, .bool c.vol, .bool c.stb, .int .i64 c.num, .int .u8 c.lt, .slice a c.rows.length cap, .int .i64 c.l0, .int .i64 c.l1, .int .i64 c.l2, .int .i64 c.l3, Str c.text]
theorem ptrsAt_nil {w : World} {T : List Nat} : PtrsAt w T [] [] := fun j h => by simp at h
theorem ptrsAt_cons {w : World} {T : List Nat} {p : Nat × Nat} {ps : List (Nat × Nat)} {v : Value} {vs : List Value} (h1 : p.1 ∉ T ∧ w.cell? ⟨p.1, p.2, none⟩ = some v) (h2 : PtrsAt w T ps vs) : PtrsAt w T (p :: ps) (v :: vs) := fun j hj hj2 => by
  cases j with
  | zero => exact h1
  | succ j => exact h2 j (by simpa using hj) (by simpa using hj2)
theorem flatRow_at (rs : List RowM) (k : Nat) (hk : k < rs.length) (j : Nat) (hj : j < 5) : (rs.flatMap rowC)[k * 5 + j]? = (rowC rs[k])[j]? := by
  induction rs generalizing k with
  | nil => simp at hk
  | cons r rs ih =>
    have hl : (rowC r).length = 5 := rfl
    rw [List.flatMap_cons]
    cases k with
    | zero => rw [List.getElem?_append_left (by omega), Nat.zero_mul, Nat.zero_add]; rfl
    | succ k =>
      rw [List.getElem?_append_right (by omega), hl, show (k + 1) * 5 + j - 5 = k * 5 + j by omega]
      exact ih k (by simpa using hk)
theorem flatRow_len (rs : List RowM) : (rs.flatMap rowC).length = rs.length * 5 := by
  induction rs with
  | nil => rfl
  | cons r rs ih => rw [List.flatMap_cons, List.length_append, ih, List.length_cons]; show 5 + _ = _; omega
theorem rowCells {w : World} {T : List Nat} {a : Option Addr} {rs : List RowM} (ha : Arr w T a (rs.flatMap rowC)) {k : Nat} (hk : k < rs.length) :
    ∃ g off, a = some ⟨g, off, none⟩ ∧ g ∉ T ∧ ∀ j v, (rowC rs[k])[j]? = some v → w.cell? ⟨g, off + k * 5 + j, none⟩ = some v := by
  have hl := flatRow_len rs
  obtain ⟨g, off, h1, h2, -⟩ := ha.get (j := k * 5) (by omega)
  refine ⟨g, off, h1, h2, fun j v hj => ?_⟩
  have hj5 : j < 5 := (List.getElem?_eq_some_iff.1 hj).1
  obtain ⟨g', off', h1', -, h3⟩ := ha (k * 5 + j) v (by rw [flatRow_at rs k hk j hj5]; exact hj)
  rw [h1] at h1'
  simp only [Option.some.injEq, Addr.mk.injEq, and_true] at h1'
  obtain ⟨rfl, rfl⟩ := h1'
  rw [Nat.add_assoc]
  exact h3
/-- What of a command the writer needs to know. -/
structure CmdAt (w : World) (T : List Nat) (cb : Nat) (c : CmdM) (a : Option Addr) (cap : Nat) : Prop where
  out : cb ∉ T
  cell : ∀ j v, (cmdC c a cap)[j]? = some v → w.cell? ⟨cb, j, none⟩ = some v
  rows : Arr w T a (c.rows.flatMap rowC)
  ok : c.ok
  nr : c.rows.length ≤ 20
  nt : c.text.length ≤ 200
  ns : ∀ r ∈ c.rows, r.seats.length ≤ 40
theorem rowsW_le {rs : List RowM} (h : ∀ r ∈ rs, r.seats.length ≤ 40) : rowsW rs ≤ 46 * rs.length := by
  induction rs with
  | nil => simp [rowsW]
  | cons r rs ih =>
    have h1 := h r List.mem_cons_self
    have h2 := ih fun q hq => h q (List.mem_cons_of_mem _ hq)
    unfold rowsW at h2 ⊢
    rw [List.map_cons, List.sum_cons, List.length_cons]; omega
set_option maxRecDepth 4000 in
set_option maxHeartbeats 4000000 in
theorem command_wr {w : World} {pb : Nat} {bs : Bytes} {L : Heap} (hW : PackW pb bs L) (hh : Holds L w) {cb : Nat} {c : CmdM} {a : Option Addr} {cap : Nat} (hA : CmdAt w (keys L) cb c a cap) (hlen : bs.length ≤ 100) :
    Cl Tryd.prog f_wire_command [.iface T_wire_writer (wrV pb), ptr cb] w fun _ w' => ∃ L', PackW pb (bs ++ fieldsB (ckOf c.kind) c) L' ∧ St w (keys L) L' w' := by
  have hS := St.enter hh
  have hok := hA.ok
  have hnr := hA.nr
  have hnt := hA.nt
  have hi1 := ints_len [c.id] (all1 hok.id).2
  have hi2 := ints_len [c.id, c.eq] (all2 hok.id hok.eq).2
  have hi3 := ints_len [c.id, c.num] (all2 hok.id hok.num).2
  have hi4 := ints_len [c.id, c.fl, c.wcab, c.cls] (all4 hok.id hok.fl hok.wcab hok.cls).2
  have hn1 := numB_len10 c.rows.length (by omega)
  simp only [List.length_cons, List.length_nil] at hi1 hi2 hi3 hi4
  generalize hT : keys L = T0 at hS hA ⊢
  refine en_wire_command rfl ?_
  repeat (first | refine SemW.run tblOk ?_ | refine IntG.nw (by omega) ?_ | refine IntG.nu8 (by omega) ?_ | refine IntG.nu32 (by omega) ?_ | refine IntG.nu64 (by omega) ?_ | refine IntG.wr' rfl ?_ | refine Chk.mk (by omega) ?_ | (refine BrG.id ?_; first | with_reducible refine BrG.t ?_ | with_reducible refine BrG.f ?_ | with_reducible refine BrG.notG ?_ | with_reducible refine BrG.nn ?_ | with_reducible refine BrG.ns ?_ | refine BrG.pos (by omega) ?_ | refine BrG.neg (by omega) ?_ | with_reducible refine BrG.pos rfl ?_ | refine BrG.pos (by assumption) ?_ | refine BrG.neg (by assumption) ?_ | refine BrG.pos (by decide) ?_ | refine BrG.neg (by decide) ?_) | refine Chk.mk (ptr_ok tblOk rfl rfl) ?_ | refine NilG.mk (fun _ => by kernel_rfl) ?_ | refine Chk.mk (by decide) ?_)
  refine hS.ldOld hA.out (hA.cell 0 _ rfl) ?_
  unfold ckOf
  by_cases h1 : c.kind = 1
  · rw [if_pos h1]
    simp only [fieldsB]
    repeat (first | refine SemW.run tblOk ?_ | refine IntG.nw (by omega) ?_ | refine IntG.nu8 (by omega) ?_ | refine IntG.nu32 (by omega) ?_ | refine IntG.nu64 (by omega) ?_ | refine IntG.wr' rfl ?_ | refine Chk.mk (by omega) ?_ | (refine BrG.id ?_; first | with_reducible refine BrG.t ?_ | with_reducible refine BrG.f ?_ | with_reducible refine BrG.notG ?_ | with_reducible refine BrG.nn ?_ | with_reducible refine BrG.ns ?_ | refine BrG.pos (by omega) ?_ | refine BrG.neg (by omega) ?_ | with_reducible refine BrG.pos rfl ?_ | refine BrG.pos (by assumption) ?_ | refine BrG.neg (by assumption) ?_ | refine BrG.pos (by decide) ?_ | refine BrG.neg (by decide) ?_) | refine Chk.mk (ptr_ok tblOk rfl rfl) ?_ | refine NilG.mk (fun _ => by kernel_rfl) ?_ | refine Chk.mk (by decide) ?_)
    refine SemW.draw tblOk mixed (fun w' => St w T0 L w') [8] [0, 1, 2, 3, 5, 6, 7, 4, 8] (by kernel_rfl) hS.drew ?_
    have hS := hS.drew
    repeat (first | refine SemW.run tblOk ?_ | refine IntG.nw (by omega) ?_ | refine IntG.nu8 (by omega) ?_ | refine IntG.nu32 (by omega) ?_ | refine IntG.nu64 (by omega) ?_ | refine IntG.wr' rfl ?_ | refine Chk.mk (by omega) ?_ | (refine BrG.id ?_; first | with_reducible refine BrG.t ?_ | with_reducible refine BrG.f ?_ | with_reducible refine BrG.notG ?_ | with_reducible refine BrG.nn ?_ | with_reducible refine BrG.ns ?_ | refine BrG.pos (by omega) ?_ | refine BrG.neg (by omega) ?_ | with_reducible refine BrG.pos rfl ?_ | refine BrG.pos (by assumption) ?_ | refine BrG.neg (by assumption) ?_ | refine BrG.pos (by decide) ?_ | refine BrG.neg (by decide) ?_) | refine Chk.mk (ptr_ok tblOk rfl rfl) ?_ | refine NilG.mk (fun _ => by kernel_rfl) ?_ | refine Chk.mk (by decide) ?_ | refine hS.ldC rfl ?_ | refine hS.ldnC rfl ?_)
    refine hS.al ?_
    intro r w3 _ hS
    refine Chk.mk (hS.sub (List.sublist_cons_self _ _)) ?_
    repeat (first | refine SemW.run tblOk ?_ | refine IntG.nw (by omega) ?_ | refine IntG.nu8 (by omega) ?_ | refine IntG.nu32 (by omega) ?_ | refine IntG.nu64 (by omega) ?_ | refine IntG.wr' rfl ?_ | refine Chk.mk (by omega) ?_ | (refine BrG.id ?_; first | with_reducible refine BrG.t ?_ | with_reducible refine BrG.f ?_ | with_reducible refine BrG.notG ?_ | with_reducible refine BrG.nn ?_ | with_reducible refine BrG.ns ?_ | refine BrG.pos (by omega) ?_ | refine BrG.neg (by omega) ?_ | with_reducible refine BrG.pos rfl ?_ | refine BrG.pos (by assumption) ?_ | refine BrG.neg (by assumption) ?_ | refine BrG.pos (by decide) ?_ | refine BrG.neg (by decide) ?_) | refine Chk.mk (ptr_ok tblOk rfl rfl) ?_ | refine NilG.mk (fun _ => by kernel_rfl) ?_ | refine Chk.mk (by decide) ?_ | refine hS.ldC rfl ?_ | refine hS.ldnC rfl ?_)
    have hcell : ∀ j v, (cmdC c a cap)[j]? = some v → cb ∉ keys L ∧ w3.cell? ⟨cb, j, none⟩ = some v := fun j v h => hS.cellNew (L := L) hA.out (hA.cell j v h)
    refine InvG.mk ⟨f_wire_writer_int, wrV pb, by kernel_rfl, ?_⟩
    refine Cl.mono (wint_spec hW (hS.part (L := L)) (ps := [(cb, 2)]) (zs := [c.id]) (hS.arr (b := r) (nodup_chunk hS)) rfl (ptrsAt_cons (hcell 2 _ rfl) ptrsAt_nil) (all1 hok.id).2 (by simp only [List.length_append, List.length_cons, List.length_nil]; omega)) ?_
    rintro _ w4 ⟨L1, hW, hS'⟩
    have hS := (hS.call (L := L) hS').sub (List.sublist_cons_self _ _)
    repeat (first | refine SemW.run tblOk ?_ | refine IntG.nw (by omega) ?_ | refine IntG.nu8 (by omega) ?_ | refine IntG.nu32 (by omega) ?_ | refine IntG.nu64 (by omega) ?_ | refine IntG.wr' rfl ?_ | refine Chk.mk (by omega) ?_ | (refine BrG.id ?_; first | with_reducible refine BrG.t ?_ | with_reducible refine BrG.f ?_ | with_reducible refine BrG.notG ?_ | with_reducible refine BrG.nn ?_ | with_reducible refine BrG.ns ?_ | refine BrG.pos (by omega) ?_ | refine BrG.neg (by omega) ?_ | with_reducible refine BrG.pos rfl ?_ | refine BrG.pos (by assumption) ?_ | refine BrG.neg (by assumption) ?_ | refine BrG.pos (by decide) ?_ | refine BrG.neg (by decide) ?_) | refine Chk.mk (ptr_ok tblOk rfl rfl) ?_ | refine NilG.mk (fun _ => by kernel_rfl) ?_ | refine Chk.mk (by decide) ?_)
    refine SemW.draw tblOk mixed (fun w' => St w T0 L1 w') [9, 10] [0, 1, 2, 3, 4, 5, 6, 7, 8, 9, 10] (by kernel_rfl) hS.drew ?_
    have hS := hS.drew
    repeat (first | refine SemW.run tblOk ?_ | refine IntG.nw (by omega) ?_ | refine IntG.nu8 (by omega) ?_ | refine IntG.nu32 (by omega) ?_ | refine IntG.nu64 (by omega) ?_ | refine IntG.wr' rfl ?_ | refine Chk.mk (by omega) ?_ | (refine BrG.id ?_; first | with_reducible refine BrG.t ?_ | with_reducible refine BrG.f ?_ | with_reducible refine BrG.notG ?_ | with_reducible refine BrG.nn ?_ | with_reducible refine BrG.ns ?_ | refine BrG.pos (by omega) ?_ | refine BrG.neg (by omega) ?_ | with_reducible refine BrG.pos rfl ?_ | refine BrG.pos (by assumption) ?_ | refine BrG.neg (by assumption) ?_ | refine BrG.pos (by decide) ?_ | refine BrG.neg (by decide) ?_) | refine Chk.mk (ptr_ok tblOk rfl rfl) ?_ | refine NilG.mk (fun _ => by kernel_rfl) ?_ | refine Chk.mk (by decide) ?_ | refine hS.ldC rfl ?_ | refine hS.ldnC rfl ?_)
    refine hS.ldOldC hA.out (hA.cell 13 _ rfl) ?_
    repeat (first | refine SemW.run tblOk ?_ | refine IntG.nw (by omega) ?_ | refine IntG.nu8 (by omega) ?_ | refine IntG.nu32 (by omega) ?_ | refine IntG.nu64 (by omega) ?_ | refine IntG.wr' rfl ?_ | refine Chk.mk (by omega) ?_ | (refine BrG.id ?_; first | with_reducible refine BrG.t ?_ | with_reducible refine BrG.f ?_ | with_reducible refine BrG.notG ?_ | with_reducible refine BrG.nn ?_ | with_reducible refine BrG.ns ?_ | refine BrG.pos (by omega) ?_ | refine BrG.neg (by omega) ?_ | with_reducible refine BrG.pos rfl ?_ | refine BrG.pos (by assumption) ?_ | refine BrG.neg (by assumption) ?_ | refine BrG.pos (by decide) ?_ | refine BrG.neg (by decide) ?_) | refine Chk.mk (ptr_ok tblOk rfl rfl) ?_ | refine NilG.mk (fun _ => by kernel_rfl) ?_ | refine Chk.mk (by decide) ?_ | refine hS.ldC rfl ?_ | refine hS.ldnC rfl ?_)
    refine InvG.mk ⟨f_wire_writer_count, wrV pb, by kernel_rfl, ?_⟩
    refine Cl.mono (wcount_spec hW (hS.part (L := L1)) (n := c.rows.length) (by omega) (by simp only [List.length_append]; omega)) ?_
    rintro _ w5 ⟨rfl, L2, hW, hS'⟩
    have hS := hS.call (L := L1) hS'
    repeat (first | refine SemW.run tblOk ?_ | refine IntG.nw (by omega) ?_ | refine IntG.nu8 (by omega) ?_ | refine IntG.nu32 (by omega) ?_ | refine IntG.nu64 (by omega) ?_ | refine IntG.wr' rfl ?_ | refine Chk.mk (by omega) ?_ | (refine BrG.id ?_; first | with_reducible refine BrG.t ?_ | with_reducible refine BrG.f ?_ | with_reducible refine BrG.notG ?_ | with_reducible refine BrG.nn ?_ | with_reducible refine BrG.ns ?_ | refine BrG.pos (by omega) ?_ | refine BrG.neg (by omega) ?_ | with_reducible refine BrG.pos rfl ?_ | refine BrG.pos (by assumption) ?_ | refine BrG.neg (by assumption) ?_ | refine BrG.pos (by decide) ?_ | refine BrG.neg (by decide) ?_) | refine Chk.mk (ptr_ok tblOk rfl rfl) ?_ | refine NilG.mk (fun _ => by kernel_rfl) ?_ | refine Chk.mk (by decide) ?_)
    refine SemW.loop (fun k : Nat => [(0, .iface T_wire_writer (wrV pb)), (1, ptr cb), (42, .int .i64 c.rows.length), (43, .int .i64 k)])
      (fun k w' => k ≤ c.rows.length ∧ ∃ L', PackW pb (bs ++ intsB [c.id] ++ numB c.rows.length ++ rowsBt (c.rows.take k)) L' ∧ St w T0 L' w') (fun k => c.rows.length - k) 0
      ⟨rfl, rfl, rfl, rfl, trivial⟩ ⟨Nat.zero_le _, L2, by simpa [rowsBt] using hW, hS⟩ ?_
    clear hS hW hS'
    rintro k w6 ⟨hk, L3, hW, hS⟩
    have hwl := rowsW_le hA.ns
    have htw := rowsW_take c.rows k
    have hbl := rowsBt_len (c.rows.take k) (fun r hr => hok.rows r (List.mem_of_mem_take hr)) (by omega)
    by_cases hkl : k < c.rows.length
    · obtain ⟨g, off, hga, hgT, hgc⟩ := rowCells hA.rows hkl
      have hrok := hok.rows c.rows[k] (List.getElem_mem hkl)
      have hns := hA.ns c.rows[k] (List.getElem_mem hkl)
      have hsucc := rowsBt_succ c.rows k hkl
      generalize c.rows[k] = row at hgc hrok hns hsucc
      have hri := ints_len [row.num, row.cab, row.zone] (all3 hrok.num hrok.cab hrok.zone).2
      have hrm := numB_len10 (marksN [row.exit]) (by have h3' : marksN [row.exit] < 2 := marksN_lt [row.exit]; omega)
      simp only [List.length_cons, List.length_nil] at hri
      repeat (first | refine SemW.run tblOk ?_ | refine IntG.nw (by omega) ?_ | refine IntG.nu8 (by omega) ?_ | refine IntG.nu32 (by omega) ?_ | refine IntG.nu64 (by omega) ?_ | refine IntG.wr' rfl ?_ | refine Chk.mk (by omega) ?_ | (refine BrG.id ?_; first | with_reducible refine BrG.t ?_ | with_reducible refine BrG.f ?_ | with_reducible refine BrG.notG ?_ | with_reducible refine BrG.nn ?_ | with_reducible refine BrG.ns ?_ | refine BrG.pos (by omega) ?_ | refine BrG.neg (by omega) ?_ | with_reducible refine BrG.pos rfl ?_ | refine BrG.pos (by assumption) ?_ | refine BrG.neg (by assumption) ?_ | refine BrG.pos (by decide) ?_ | refine BrG.neg (by decide) ?_) | refine Chk.mk (ptr_ok tblOk rfl rfl) ?_ | refine NilG.mk (fun _ => by kernel_rfl) ?_ | refine Chk.mk (by decide) ?_)
      refine hS.ldOld hA.out (hA.cell 13 _ rfl) ?_
      repeat (first | refine SemW.run tblOk ?_ | refine IntG.nw (by omega) ?_ | refine IntG.nu8 (by omega) ?_ | refine IntG.nu32 (by omega) ?_ | refine IntG.nu64 (by omega) ?_ | refine IntG.wr' rfl ?_ | refine Chk.mk (by omega) ?_ | (refine BrG.id ?_; first | with_reducible refine BrG.t ?_ | with_reducible refine BrG.f ?_ | with_reducible refine BrG.notG ?_ | with_reducible refine BrG.nn ?_ | with_reducible refine BrG.ns ?_ | refine BrG.pos (by omega) ?_ | refine BrG.neg (by omega) ?_ | with_reducible refine BrG.pos rfl ?_ | refine BrG.pos (by assumption) ?_ | refine BrG.neg (by assumption) ?_ | refine BrG.pos (by decide) ?_ | refine BrG.neg (by decide) ?_) | refine Chk.mk (ptr_ok tblOk rfl rfl) ?_ | refine NilG.mk (fun _ => by kernel_rfl) ?_ | refine Chk.mk (by decide) ?_)
      refine hS.ldOld hA.out (hA.cell 13 _ rfl) ?_
      rw [hga]
      repeat (first | refine SemW.run tblOk ?_ | refine IntG.nw (by omega) ?_ | refine IntG.nu8 (by omega) ?_ | refine IntG.nu32 (by omega) ?_ | refine IntG.nu64 (by omega) ?_ | refine IntG.wr' rfl ?_ | refine Chk.mk (by omega) ?_ | (refine BrG.id ?_; first | with_reducible refine BrG.t ?_ | with_reducible refine BrG.f ?_ | with_reducible refine BrG.notG ?_ | with_reducible refine BrG.nn ?_ | with_reducible refine BrG.ns ?_ | refine BrG.pos (by omega) ?_ | refine BrG.neg (by omega) ?_ | with_reducible refine BrG.pos rfl ?_ | refine BrG.pos (by assumption) ?_ | refine BrG.neg (by assumption) ?_ | refine BrG.pos (by decide) ?_ | refine BrG.neg (by decide) ?_) | refine Chk.mk (ptr_ok tblOk rfl rfl) ?_ | refine NilG.mk (fun _ => by kernel_rfl) ?_ | refine Chk.mk (by decide) ?_)
      refine SemW.draw tblOk mixed (fun w' => St w T0 L3 w') [14] [0, 1, 2, 3, 4, 5, 6, 7, 8, 9, 11, 12, 13, 10, 14] (by kernel_rfl) hS.drew ?_
      have hS := hS.drew
      repeat (first | refine SemW.run tblOk ?_ | refine IntG.nw (by omega) ?_ | refine IntG.nu8 (by omega) ?_ | refine IntG.nu32 (by omega) ?_ | refine IntG.nu64 (by omega) ?_ | refine IntG.wr' rfl ?_ | refine Chk.mk (by omega) ?_ | (refine BrG.id ?_; first | with_reducible refine BrG.t ?_ | with_reducible refine BrG.f ?_ | with_reducible refine BrG.notG ?_ | with_reducible refine BrG.nn ?_ | with_reducible refine BrG.ns ?_ | refine BrG.pos (by omega) ?_ | refine BrG.neg (by omega) ?_ | with_reducible refine BrG.pos rfl ?_ | refine BrG.pos (by assumption) ?_ | refine BrG.neg (by assumption) ?_ | refine BrG.pos (by decide) ?_ | refine BrG.neg (by decide) ?_) | refine Chk.mk (ptr_ok tblOk rfl rfl) ?_ | refine NilG.mk (fun _ => by kernel_rfl) ?_ | refine Chk.mk (by decide) ?_ | refine hS.ldC rfl ?_ | refine hS.ldnC rfl ?_)
      refine hS.al ?_
      intro r w3 _ hS
      refine Chk.mk (hS.sub (List.sublist_cons_self _ _)) ?_
      repeat (first | refine SemW.run tblOk ?_ | refine IntG.nw (by omega) ?_ | refine IntG.nu8 (by omega) ?_ | refine IntG.nu32 (by omega) ?_ | refine IntG.nu64 (by omega) ?_ | refine IntG.wr' rfl ?_ | refine Chk.mk (by omega) ?_ | (refine BrG.id ?_; first | with_reducible refine BrG.t ?_ | with_reducible refine BrG.f ?_ | with_reducible refine BrG.notG ?_ | with_reducible refine BrG.nn ?_ | with_reducible refine BrG.ns ?_ | refine BrG.pos (by omega) ?_ | refine BrG.neg (by omega) ?_ | with_reducible refine BrG.pos rfl ?_ | refine BrG.pos (by assumption) ?_ | refine BrG.neg (by assumption) ?_ | refine BrG.pos (by decide) ?_ | refine BrG.neg (by decide) ?_) | refine Chk.mk (ptr_ok tblOk rfl rfl) ?_ | refine NilG.mk (fun _ => by kernel_rfl) ?_ | refine Chk.mk (by decide) ?_ | refine hS.ldC rfl ?_ | refine hS.ldnC rfl ?_)
      have hcell : ∀ j v, (rowC row)[j]? = some v → g ∉ keys L3 ∧ w3.cell? ⟨g, off + k * 5 + j, none⟩ = some v := fun j v h => hS.cellNew (L := L3) hgT (hgc j v h)
      refine InvG.mk ⟨f_wire_writer_int, wrV pb, by kernel_rfl, ?_⟩
      refine Cl.mono (wint_spec hW (hS.part (L := L3)) (ps := [(g, off + k * 5 + 0), (g, off + k * 5 + 1), (g, off + k * 5 + 2)]) (zs := [row.num, row.cab, row.zone]) (hS.arr (b := r) (nodup_chunk hS)) rfl (ptrsAt_cons (hcell 0 _ rfl) (ptrsAt_cons (hcell 1 _ rfl) (ptrsAt_cons (hcell 2 _ rfl) ptrsAt_nil))) (all3 hrok.num hrok.cab hrok.zone).2 (by simp only [List.length_append, List.length_cons, List.length_nil]; omega)) ?_
      rintro _ w7 ⟨L4, hW, hS'⟩
      have hS := (hS.call (L := L3) hS').sub (List.sublist_cons_self _ _)
      repeat (first | refine SemW.run tblOk ?_ | refine IntG.nw (by omega) ?_ | refine IntG.nu8 (by omega) ?_ | refine IntG.nu32 (by omega) ?_ | refine IntG.nu64 (by omega) ?_ | refine IntG.wr' rfl ?_ | refine Chk.mk (by omega) ?_ | (refine BrG.id ?_; first | with_reducible refine BrG.t ?_ | with_reducible refine BrG.f ?_ | with_reducible refine BrG.notG ?_ | with_reducible refine BrG.nn ?_ | with_reducible refine BrG.ns ?_ | refine BrG.pos (by omega) ?_ | refine BrG.neg (by omega) ?_ | with_reducible refine BrG.pos rfl ?_ | refine BrG.pos (by assumption) ?_ | refine BrG.neg (by assumption) ?_ | refine BrG.pos (by decide) ?_ | refine BrG.neg (by decide) ?_) | refine Chk.mk (ptr_ok tblOk rfl rfl) ?_ | refine NilG.mk (fun _ => by kernel_rfl) ?_ | refine Chk.mk (by decide) ?_)
      refine SemW.draw tblOk mixed (fun w' => St w T0 L4 w') [8] [0, 1, 2, 3, 5, 6, 7, 4, 8] (by kernel_rfl) hS.drew ?_
      have hS := hS.drew
      repeat (first | refine SemW.run tblOk ?_ | refine IntG.nw (by omega) ?_ | refine IntG.nu8 (by omega) ?_ | refine IntG.nu32 (by omega) ?_ | refine IntG.nu64 (by omega) ?_ | refine IntG.wr' rfl ?_ | refine Chk.mk (by omega) ?_ | (refine BrG.id ?_; first | with_reducible refine BrG.t ?_ | with_reducible refine BrG.f ?_ | with_reducible refine BrG.notG ?_ | with_reducible refine BrG.nn ?_ | with_reducible refine BrG.ns ?_ | refine BrG.pos (by omega) ?_ | refine BrG.neg (by omega) ?_ | with_reducible refine BrG.pos rfl ?_ | refine BrG.pos (by assumption) ?_ | refine BrG.neg (by assumption) ?_ | refine BrG.pos (by decide) ?_ | refine BrG.neg (by decide) ?_) | refine Chk.mk (ptr_ok tblOk rfl rfl) ?_ | refine NilG.mk (fun _ => by kernel_rfl) ?_ | refine Chk.mk (by decide) ?_ | refine hS.ldC rfl ?_ | refine hS.ldnC rfl ?_)
      refine hS.al ?_
      intro r w3 _ hS
      refine Chk.mk (hS.sub (List.sublist_cons_self _ _)) ?_
      repeat (first | refine SemW.run tblOk ?_ | refine IntG.nw (by omega) ?_ | refine IntG.nu8 (by omega) ?_ | refine IntG.nu32 (by omega) ?_ | refine IntG.nu64 (by omega) ?_ | refine IntG.wr' rfl ?_ | refine Chk.mk (by omega) ?_ | (refine BrG.id ?_; first | with_reducible refine BrG.t ?_ | with_reducible refine BrG.f ?_ | with_reducible refine BrG.notG ?_ | with_reducible refine BrG.nn ?_ | with_reducible refine BrG.ns ?_ | refine BrG.pos (by omega) ?_ | refine BrG.neg (by omega) ?_ | with_reducible refine BrG.pos rfl ?_ | refine BrG.pos (by assumption) ?_ | refine BrG.neg (by assumption) ?_ | refine BrG.pos (by decide) ?_ | refine BrG.neg (by decide) ?_) | refine Chk.mk (ptr_ok tblOk rfl rfl) ?_ | refine NilG.mk (fun _ => by kernel_rfl) ?_ | refine Chk.mk (by decide) ?_ | refine hS.ldC rfl ?_ | refine hS.ldnC rfl ?_)
      have hcell : ∀ j v, (rowC row)[j]? = some v → g ∉ keys L4 ∧ w3.cell? ⟨g, off + k * 5 + j, none⟩ = some v := fun j v h => hS.cellNew (L := L4) hgT (hgc j v h)
      refine InvG.mk ⟨f_wire_writer_marks, wrV pb, by kernel_rfl, ?_⟩
      refine Cl.mono (wmarks_spec hW (hS.part (L := L4)) (ps := [(g, off + k * 5 + 3)]) (l := [row.exit]) (hS.arr (b := r) (nodup_chunk hS)) rfl (ptrsAt_cons (hcell 3 _ rfl) ptrsAt_nil) (by simp) (by simp only [List.length_append]; omega)) ?_
      rintro _ w7 ⟨L5, hW, hS'⟩
      have hS := (hS.call (L := L4) hS').sub (List.sublist_cons_self _ _)
      repeat (first | refine SemW.run tblOk ?_ | refine IntG.nw (by omega) ?_ | refine IntG.nu8 (by omega) ?_ | refine IntG.nu32 (by omega) ?_ | refine IntG.nu64 (by omega) ?_ | refine IntG.wr' rfl ?_ | refine Chk.mk (by omega) ?_ | (refine BrG.id ?_; first | with_reducible refine BrG.t ?_ | with_reducible refine BrG.f ?_ | with_reducible refine BrG.notG ?_ | with_reducible refine BrG.nn ?_ | with_reducible refine BrG.ns ?_ | refine BrG.pos (by omega) ?_ | refine BrG.neg (by omega) ?_ | with_reducible refine BrG.pos rfl ?_ | refine BrG.pos (by assumption) ?_ | refine BrG.neg (by assumption) ?_ | refine BrG.pos (by decide) ?_ | refine BrG.neg (by decide) ?_) | refine Chk.mk (ptr_ok tblOk rfl rfl) ?_ | refine NilG.mk (fun _ => by kernel_rfl) ?_ | refine Chk.mk (by decide) ?_)
      refine SemW.draw tblOk mixed (fun w' => St w T0 L5 w') [7] [0, 1, 2, 3, 4, 5, 6, 7] (by kernel_rfl) hS.drew ?_
      have hS := hS.drew
      repeat (first | refine SemW.run tblOk ?_ | refine IntG.nw (by omega) ?_ | refine IntG.nu8 (by omega) ?_ | refine IntG.nu32 (by omega) ?_ | refine IntG.nu64 (by omega) ?_ | refine IntG.wr' rfl ?_ | refine Chk.mk (by omega) ?_ | (refine BrG.id ?_; first | with_reducible refine BrG.t ?_ | with_reducible refine BrG.f ?_ | with_reducible refine BrG.notG ?_ | with_reducible refine BrG.nn ?_ | with_reducible refine BrG.ns ?_ | refine BrG.pos (by omega) ?_ | refine BrG.neg (by omega) ?_ | with_reducible refine BrG.pos rfl ?_ | refine BrG.pos (by assumption) ?_ | refine BrG.neg (by assumption) ?_ | refine BrG.pos (by decide) ?_ | refine BrG.neg (by decide) ?_) | refine Chk.mk (ptr_ok tblOk rfl rfl) ?_ | refine NilG.mk (fun _ => by kernel_rfl) ?_ | refine Chk.mk (by decide) ?_ | refine hS.ldC rfl ?_ | refine hS.ldnC rfl ?_)
      have hcell := hS.cellNew (L := L5) hgT (hgc 4 _ rfl)
      refine InvG.mk ⟨f_wire_writer_text, wrV pb, by kernel_rfl, ?_⟩
      refine Cl.mono (wtext_spec hW (hS.part (L := L5)) (p := (g, off + k * 5 + 4)) (x := row.seats) hcell (by simp only [List.length_append]; omega)) ?_
      rintro _ w7 ⟨L6, hW, hS'⟩
      have hS := hS.call (L := L5) hS'
      repeat (first | refine SemW.run tblOk ?_ | refine IntG.nw (by omega) ?_ | refine IntG.nu8 (by omega) ?_ | refine IntG.nu32 (by omega) ?_ | refine IntG.nu64 (by omega) ?_ | refine IntG.wr' rfl ?_ | refine Chk.mk (by omega) ?_ | (refine BrG.id ?_; first | with_reducible refine BrG.t ?_ | with_reducible refine BrG.f ?_ | with_reducible refine BrG.notG ?_ | with_reducible refine BrG.nn ?_ | with_reducible refine BrG.ns ?_ | refine BrG.pos (by omega) ?_ | refine BrG.neg (by omega) ?_ | with_reducible refine BrG.pos rfl ?_ | refine BrG.pos (by assumption) ?_ | refine BrG.neg (by assumption) ?_ | refine BrG.pos (by decide) ?_ | refine BrG.neg (by decide) ?_) | refine Chk.mk (ptr_ok tblOk rfl rfl) ?_ | refine NilG.mk (fun _ => by kernel_rfl) ?_ | refine Chk.mk (by decide) ?_)
      exact ⟨k + 1, ⟨rfl, rfl, rfl, rfl, trivial⟩, ⟨by omega, L6, by rw [hsucc]; simpa [rowB, textsB] using hW, hS⟩, by omega⟩
    · have hke : k = c.rows.length := by omega
      subst hke
      rw [List.take_length] at hW
      repeat (first | refine SemW.run tblOk ?_ | refine IntG.nw (by omega) ?_ | refine IntG.nu8 (by omega) ?_ | refine IntG.nu32 (by omega) ?_ | refine IntG.nu64 (by omega) ?_ | refine IntG.wr' rfl ?_ | refine Chk.mk (by omega) ?_ | (refine BrG.id ?_; first | with_reducible refine BrG.t ?_ | with_reducible refine BrG.f ?_ | with_reducible refine BrG.notG ?_ | with_reducible refine BrG.nn ?_ | with_reducible refine BrG.ns ?_ | refine BrG.pos (by omega) ?_ | refine BrG.neg (by omega) ?_ | with_reducible refine BrG.pos rfl ?_ | refine BrG.pos (by assumption) ?_ | refine BrG.neg (by assumption) ?_ | refine BrG.pos (by decide) ?_ | refine BrG.neg (by decide) ?_) | refine Chk.mk (ptr_ok tblOk rfl rfl) ?_ | refine NilG.mk (fun _ => by kernel_rfl) ?_ | refine Chk.mk (by decide) ?_)
      exact ⟨L3, by simpa using hW, hS⟩
  rw [if_neg h1]
  by_cases h2 : c.kind = 2
  · rw [if_pos h2]
    simp only [fieldsB]
    repeat (first | refine SemW.run tblOk ?_ | refine IntG.nw (by omega) ?_ | refine IntG.nu8 (by omega) ?_ | refine IntG.nu32 (by omega) ?_ | refine IntG.nu64 (by omega) ?_ | refine IntG.wr' rfl ?_ | refine Chk.mk (by omega) ?_ | (refine BrG.id ?_; first | with_reducible refine BrG.t ?_ | with_reducible refine BrG.f ?_ | with_reducible refine BrG.notG ?_ | with_reducible refine BrG.nn ?_ | with_reducible refine BrG.ns ?_ | refine BrG.pos (by omega) ?_ | refine BrG.neg (by omega) ?_ | with_reducible refine BrG.pos rfl ?_ | refine BrG.pos (by assumption) ?_ | refine BrG.neg (by assumption) ?_ | refine BrG.pos (by decide) ?_ | refine BrG.neg (by decide) ?_) | refine Chk.mk (ptr_ok tblOk rfl rfl) ?_ | refine NilG.mk (fun _ => by kernel_rfl) ?_ | refine Chk.mk (by decide) ?_)
    refine SemW.draw tblOk mixed (fun w' => St w T0 L w') [11] [0, 1, 2, 3, 4, 5, 6, 8, 9, 10, 7, 11] (by kernel_rfl) hS.drew ?_
    have hS := hS.drew
    repeat (first | refine SemW.run tblOk ?_ | refine IntG.nw (by omega) ?_ | refine IntG.nu8 (by omega) ?_ | refine IntG.nu32 (by omega) ?_ | refine IntG.nu64 (by omega) ?_ | refine IntG.wr' rfl ?_ | refine Chk.mk (by omega) ?_ | (refine BrG.id ?_; first | with_reducible refine BrG.t ?_ | with_reducible refine BrG.f ?_ | with_reducible refine BrG.notG ?_ | with_reducible refine BrG.nn ?_ | with_reducible refine BrG.ns ?_ | refine BrG.pos (by omega) ?_ | refine BrG.neg (by omega) ?_ | with_reducible refine BrG.pos rfl ?_ | refine BrG.pos (by assumption) ?_ | refine BrG.neg (by assumption) ?_ | refine BrG.pos (by decide) ?_ | refine BrG.neg (by decide) ?_) | refine Chk.mk (ptr_ok tblOk rfl rfl) ?_ | refine NilG.mk (fun _ => by kernel_rfl) ?_ | refine Chk.mk (by decide) ?_ | refine hS.ldC rfl ?_ | refine hS.ldnC rfl ?_)
    refine hS.al ?_
    intro r w3 _ hS
    refine Chk.mk (hS.sub (List.sublist_cons_self _ _)) ?_
    repeat (first | refine SemW.run tblOk ?_ | refine IntG.nw (by omega) ?_ | refine IntG.nu8 (by omega) ?_ | refine IntG.nu32 (by omega) ?_ | refine IntG.nu64 (by omega) ?_ | refine IntG.wr' rfl ?_ | refine Chk.mk (by omega) ?_ | (refine BrG.id ?_; first | with_reducible refine BrG.t ?_ | with_reducible refine BrG.f ?_ | with_reducible refine BrG.notG ?_ | with_reducible refine BrG.nn ?_ | with_reducible refine BrG.ns ?_ | refine BrG.pos (by omega) ?_ | refine BrG.neg (by omega) ?_ | with_reducible refine BrG.pos rfl ?_ | refine BrG.pos (by assumption) ?_ | refine BrG.neg (by assumption) ?_ | refine BrG.pos (by decide) ?_ | refine BrG.neg (by decide) ?_) | refine Chk.mk (ptr_ok tblOk rfl rfl) ?_ | refine NilG.mk (fun _ => by kernel_rfl) ?_ | refine Chk.mk (by decide) ?_ | refine hS.ldC rfl ?_ | refine hS.ldnC rfl ?_)
    have hcell : ∀ j v, (cmdC c a cap)[j]? = some v → cb ∉ keys L ∧ w3.cell? ⟨cb, j, none⟩ = some v := fun j v h => hS.cellNew (L := L) hA.out (hA.cell j v h)
    refine InvG.mk ⟨f_wire_writer_int, wrV pb, by kernel_rfl, ?_⟩
    refine Cl.mono (wint_spec hW (hS.part (L := L)) (ps := [(cb, 2), (cb, 4)]) (zs := [c.id, c.eq]) (hS.arr (b := r) (nodup_chunk hS)) rfl (ptrsAt_cons (hcell 2 _ rfl) (ptrsAt_cons (hcell 4 _ rfl) ptrsAt_nil)) (all2 hok.id hok.eq).2 (by simp only [List.length_append, List.length_cons, List.length_nil]; omega)) ?_
    rintro _ w4 ⟨L1, hW, hS'⟩
    have hS := (hS.call (L := L) hS').sub (List.sublist_cons_self _ _)
    repeat (first | refine SemW.run tblOk ?_ | refine IntG.nw (by omega) ?_ | refine IntG.nu8 (by omega) ?_ | refine IntG.nu32 (by omega) ?_ | refine IntG.nu64 (by omega) ?_ | refine IntG.wr' rfl ?_ | refine Chk.mk (by omega) ?_ | (refine BrG.id ?_; first | with_reducible refine BrG.t ?_ | with_reducible refine BrG.f ?_ | with_reducible refine BrG.notG ?_ | with_reducible refine BrG.nn ?_ | with_reducible refine BrG.ns ?_ | refine BrG.pos (by omega) ?_ | refine BrG.neg (by omega) ?_ | with_reducible refine BrG.pos rfl ?_ | refine BrG.pos (by assumption) ?_ | refine BrG.neg (by assumption) ?_ | refine BrG.pos (by decide) ?_ | refine BrG.neg (by decide) ?_) | refine Chk.mk (ptr_ok tblOk rfl rfl) ?_ | refine NilG.mk (fun _ => by kernel_rfl) ?_ | refine Chk.mk (by decide) ?_)
    refine SemW.loop (fun k : Nat => [(0, .iface T_wire_writer (wrV pb)), (1, ptr cb), (116, .int .i64 k)])
      (fun k w' => k ≤ 4 ∧ ∃ L', PackW pb (bs ++ intsB [c.id, c.eq] ++ intsB ([c.l0, c.l1, c.l2, c.l3].take k)) L' ∧ St w T0 L' w') (fun k => 4 - k) 0
      ⟨rfl, rfl, rfl, trivial⟩ ⟨Nat.zero_le _, L1, by simpa [intsB] using hW, hS⟩ ?_
    clear hS hW hS'
    rintro k w6 ⟨hk, L3, hW, hS⟩
    have hall := all4 hok.l0 hok.l1 hok.l2 hok.l3
    have hil := ints_len ([c.l0, c.l1, c.l2, c.l3].take k) (fun z hz => hall.2 z (List.mem_of_mem_take hz))
    rw [List.length_take] at hil
    by_cases hk4 : k < 4
    · have hsucc := ints_succ [c.l0, c.l1, c.l2, c.l3] k hk4
      have hz := hall.2 [c.l0, c.l1, c.l2, c.l3][k] (List.getElem_mem hk4)
      have hx : (cmdC c a cap)[14 + k]? = some (intV [c.l0, c.l1, c.l2, c.l3][k]) := by
        match k, hk4 with
        | 0, _ => rfl
        | 1, _ => rfl
        | 2, _ => rfl
        | 3, _ => rfl
      generalize [c.l0, c.l1, c.l2, c.l3][k] = z at hsucc hz hx
      repeat (first | refine SemW.run tblOk ?_ | refine IntG.nw (by omega) ?_ | refine IntG.nu8 (by omega) ?_ | refine IntG.nu32 (by omega) ?_ | refine IntG.nu64 (by omega) ?_ | refine IntG.wr' rfl ?_ | refine Chk.mk (by omega) ?_ | (refine BrG.id ?_; first | with_reducible refine BrG.t ?_ | with_reducible refine BrG.f ?_ | with_reducible refine BrG.notG ?_ | with_reducible refine BrG.nn ?_ | with_reducible refine BrG.ns ?_ | refine BrG.pos (by omega) ?_ | refine BrG.neg (by omega) ?_ | with_reducible refine BrG.pos rfl ?_ | refine BrG.pos (by assumption) ?_ | refine BrG.neg (by assumption) ?_ | refine BrG.pos (by decide) ?_ | refine BrG.neg (by decide) ?_) | refine Chk.mk (ptr_ok tblOk rfl rfl) ?_ | refine NilG.mk (fun _ => by kernel_rfl) ?_ | refine Chk.mk (by decide) ?_)
      refine SemW.draw tblOk mixed (fun w' => St w T0 L3 w') [10] [0, 1, 2, 3, 4, 5, 7, 8, 9, 6, 10] (by kernel_rfl) hS.drew ?_
      have hS := hS.drew
      repeat (first | refine SemW.run tblOk ?_ | refine IntG.nw (by omega) ?_ | refine IntG.nu8 (by omega) ?_ | refine IntG.nu32 (by omega) ?_ | refine IntG.nu64 (by omega) ?_ | refine IntG.wr' rfl ?_ | refine Chk.mk (by omega) ?_ | (refine BrG.id ?_; first | with_reducible refine BrG.t ?_ | with_reducible refine BrG.f ?_ | with_reducible refine BrG.notG ?_ | with_reducible refine BrG.nn ?_ | with_reducible refine BrG.ns ?_ | refine BrG.pos (by omega) ?_ | refine BrG.neg (by omega) ?_ | with_reducible refine BrG.pos rfl ?_ | refine BrG.pos (by assumption) ?_ | refine BrG.neg (by assumption) ?_ | refine BrG.pos (by decide) ?_ | refine BrG.neg (by decide) ?_) | refine Chk.mk (ptr_ok tblOk rfl rfl) ?_ | refine NilG.mk (fun _ => by kernel_rfl) ?_ | refine Chk.mk (by decide) ?_ | refine hS.ldC rfl ?_ | refine hS.ldnC rfl ?_)
      refine hS.al ?_
      intro r w3 _ hS
      refine Chk.mk (hS.sub (List.sublist_cons_self _ _)) ?_
      repeat (first | refine SemW.run tblOk ?_ | refine IntG.nw (by omega) ?_ | refine IntG.nu8 (by omega) ?_ | refine IntG.nu32 (by omega) ?_ | refine IntG.nu64 (by omega) ?_ | refine IntG.wr' rfl ?_ | refine Chk.mk (by omega) ?_ | (refine BrG.id ?_; first | with_reducible refine BrG.t ?_ | with_reducible refine BrG.f ?_ | with_reducible refine BrG.notG ?_ | with_reducible refine BrG.nn ?_ | with_reducible refine BrG.ns ?_ | refine BrG.pos (by omega) ?_ | refine BrG.neg (by omega) ?_ | with_reducible refine BrG.pos rfl ?_ | refine BrG.pos (by assumption) ?_ | refine BrG.neg (by assumption) ?_ | refine BrG.pos (by decide) ?_ | refine BrG.neg (by decide) ?_) | refine Chk.mk (ptr_ok tblOk rfl rfl) ?_ | refine NilG.mk (fun _ => by kernel_rfl) ?_ | refine Chk.mk (by decide) ?_ | refine hS.ldC rfl ?_ | refine hS.ldnC rfl ?_)
      have hcell : ∀ j v, (cmdC c a cap)[j]? = some v → cb ∉ keys L3 ∧ w3.cell? ⟨cb, j, none⟩ = some v := fun j v h => hS.cellNew (L := L3) hA.out (hA.cell j v h)
      refine InvG.mk ⟨f_wire_writer_int, wrV pb, by kernel_rfl, ?_⟩
      refine Cl.mono (wint_spec hW (hS.part (L := L3)) (ps := [(cb, 14 + k * 1)]) (zs := [z]) (hS.arr (b := r) (nodup_chunk hS)) rfl (ptrsAt_cons (hcell (14 + k * 1) _ (by rw [Nat.mul_one]; exact hx)) ptrsAt_nil) (all1 hz).2 (by simp only [List.length_append, List.length_cons, List.length_nil]; omega)) ?_
      rintro _ w4 ⟨L4, hW, hS'⟩
      have hS := (hS.call (L := L3) hS').sub (List.sublist_cons_self _ _)
      repeat (first | refine SemW.run tblOk ?_ | refine IntG.nw (by omega) ?_ | refine IntG.nu8 (by omega) ?_ | refine IntG.nu32 (by omega) ?_ | refine IntG.nu64 (by omega) ?_ | refine IntG.wr' rfl ?_ | refine Chk.mk (by omega) ?_ | (refine BrG.id ?_; first | with_reducible refine BrG.t ?_ | with_reducible refine BrG.f ?_ | with_reducible refine BrG.notG ?_ | with_reducible refine BrG.nn ?_ | with_reducible refine BrG.ns ?_ | refine BrG.pos (by omega) ?_ | refine BrG.neg (by omega) ?_ | with_reducible refine BrG.pos rfl ?_ | refine BrG.pos (by assumption) ?_ | refine BrG.neg (by assumption) ?_ | refine BrG.pos (by decide) ?_ | refine BrG.neg (by decide) ?_) | refine Chk.mk (ptr_ok tblOk rfl rfl) ?_ | refine NilG.mk (fun _ => by kernel_rfl) ?_ | refine Chk.mk (by decide) ?_)
      exact ⟨k + 1, ⟨rfl, rfl, rfl, trivial⟩, ⟨by omega, L4, by rw [hsucc]; simpa [intsB] using hW, hS⟩, by omega⟩
    · have hke : k = 4 := by omega
      subst hke
      repeat (first | refine SemW.run tblOk ?_ | refine IntG.nw (by omega) ?_ | refine IntG.nu8 (by omega) ?_ | refine IntG.nu32 (by omega) ?_ | refine IntG.nu64 (by omega) ?_ | refine IntG.wr' rfl ?_ | refine Chk.mk (by omega) ?_ | (refine BrG.id ?_; first | with_reducible refine BrG.t ?_ | with_reducible refine BrG.f ?_ | with_reducible refine BrG.notG ?_ | with_reducible refine BrG.nn ?_ | with_reducible refine BrG.ns ?_ | refine BrG.pos (by omega) ?_ | refine BrG.neg (by omega) ?_ | with_reducible refine BrG.pos rfl ?_ | refine BrG.pos (by assumption) ?_ | refine BrG.neg (by assumption) ?_ | refine BrG.pos (by decide) ?_ | refine BrG.neg (by decide) ?_) | refine Chk.mk (ptr_ok tblOk rfl rfl) ?_ | refine NilG.mk (fun _ => by kernel_rfl) ?_ | refine Chk.mk (by decide) ?_)
      exact ⟨L3, by simpa using hW, hS⟩
  rw [if_neg h2]
  by_cases h3 : c.kind = 3
  · rw [if_pos h3]
    simp only [fieldsB]
    repeat (first | refine SemW.run tblOk ?_ | refine IntG.nw (by omega) ?_ | refine IntG.nu8 (by omega) ?_ | refine IntG.nu32 (by omega) ?_ | refine IntG.nu64 (by omega) ?_ | refine IntG.wr' rfl ?_ | refine Chk.mk (by omega) ?_ | (refine BrG.id ?_; first | with_reducible refine BrG.t ?_ | with_reducible refine BrG.f ?_ | with_reducible refine BrG.notG ?_ | with_reducible refine BrG.nn ?_ | with_reducible refine BrG.ns ?_ | refine BrG.pos (by omega) ?_ | refine BrG.neg (by omega) ?_ | with_reducible refine BrG.pos rfl ?_ | refine BrG.pos (by assumption) ?_ | refine BrG.neg (by assumption) ?_ | refine BrG.pos (by decide) ?_ | refine BrG.neg (by decide) ?_) | refine Chk.mk (ptr_ok tblOk rfl rfl) ?_ | refine NilG.mk (fun _ => by kernel_rfl) ?_ | refine Chk.mk (by decide) ?_)
    refine SemW.draw tblOk mixed (fun w' => St w T0 L w') [18] [0, 1, 2, 3, 4, 5, 6, 7, 8, 9, 10, 11, 12, 13, 15, 16, 17, 14, 18] (by kernel_rfl) hS.drew ?_
    have hS := hS.drew
    repeat (first | refine SemW.run tblOk ?_ | refine IntG.nw (by omega) ?_ | refine IntG.nu8 (by omega) ?_ | refine IntG.nu32 (by omega) ?_ | refine IntG.nu64 (by omega) ?_ | refine IntG.wr' rfl ?_ | refine Chk.mk (by omega) ?_ | (refine BrG.id ?_; first | with_reducible refine BrG.t ?_ | with_reducible refine BrG.f ?_ | with_reducible refine BrG.notG ?_ | with_reducible refine BrG.nn ?_ | with_reducible refine BrG.ns ?_ | refine BrG.pos (by omega) ?_ | refine BrG.neg (by omega) ?_ | with_reducible refine BrG.pos rfl ?_ | refine BrG.pos (by assumption) ?_ | refine BrG.neg (by assumption) ?_ | refine BrG.pos (by decide) ?_ | refine BrG.neg (by decide) ?_) | refine Chk.mk (ptr_ok tblOk rfl rfl) ?_ | refine NilG.mk (fun _ => by kernel_rfl) ?_ | refine Chk.mk (by decide) ?_ | refine hS.ldC rfl ?_ | refine hS.ldnC rfl ?_)
    refine hS.al ?_
    intro r w3 _ hS
    refine Chk.mk (hS.sub (List.sublist_cons_self _ _)) ?_
    repeat (first | refine SemW.run tblOk ?_ | refine IntG.nw (by omega) ?_ | refine IntG.nu8 (by omega) ?_ | refine IntG.nu32 (by omega) ?_ | refine IntG.nu64 (by omega) ?_ | refine IntG.wr' rfl ?_ | refine Chk.mk (by omega) ?_ | (refine BrG.id ?_; first | with_reducible refine BrG.t ?_ | with_reducible refine BrG.f ?_ | with_reducible refine BrG.notG ?_ | with_reducible refine BrG.nn ?_ | with_reducible refine BrG.ns ?_ | refine BrG.pos (by omega) ?_ | refine BrG.neg (by omega) ?_ | with_reducible refine BrG.pos rfl ?_ | refine BrG.pos (by assumption) ?_ | refine BrG.neg (by assumption) ?_ | refine BrG.pos (by decide) ?_ | refine BrG.neg (by decide) ?_) | refine Chk.mk (ptr_ok tblOk rfl rfl) ?_ | refine NilG.mk (fun _ => by kernel_rfl) ?_ | refine Chk.mk (by decide) ?_ | refine hS.ldC rfl ?_ | refine hS.ldnC rfl ?_)
    have hcell : ∀ j v, (cmdC c a cap)[j]? = some v → cb ∉ keys L ∧ w3.cell? ⟨cb, j, none⟩ = some v := fun j v h => hS.cellNew (L := L) hA.out (hA.cell j v h)
    refine InvG.mk ⟨f_wire_writer_int, wrV pb, by kernel_rfl, ?_⟩
    refine Cl.mono (wint_spec hW (hS.part (L := L)) (ps := [(cb, 2), (cb, 3), (cb, 6), (cb, 5)]) (zs := [c.id, c.fl, c.wcab, c.cls]) (hS.arr (b := r) (nodup_chunk hS)) rfl (ptrsAt_cons (hcell 2 _ rfl) (ptrsAt_cons (hcell 3 _ rfl) (ptrsAt_cons (hcell 6 _ rfl) (ptrsAt_cons (hcell 5 _ rfl) ptrsAt_nil)))) (all4 hok.id hok.fl hok.wcab hok.cls).2 (by simp only [List.length_append, List.length_cons, List.length_nil]; omega)) ?_
    rintro _ w4 ⟨L1, hW, hS'⟩
    have hS := (hS.call (L := L) hS').sub (List.sublist_cons_self _ _)
    repeat (first | refine SemW.run tblOk ?_ | refine IntG.nw (by omega) ?_ | refine IntG.nu8 (by omega) ?_ | refine IntG.nu32 (by omega) ?_ | refine IntG.nu64 (by omega) ?_ | refine IntG.wr' rfl ?_ | refine Chk.mk (by omega) ?_ | (refine BrG.id ?_; first | with_reducible refine BrG.t ?_ | with_reducible refine BrG.f ?_ | with_reducible refine BrG.notG ?_ | with_reducible refine BrG.nn ?_ | with_reducible refine BrG.ns ?_ | refine BrG.pos (by omega) ?_ | refine BrG.neg (by omega) ?_ | with_reducible refine BrG.pos rfl ?_ | refine BrG.pos (by assumption) ?_ | refine BrG.neg (by assumption) ?_ | refine BrG.pos (by decide) ?_ | refine BrG.neg (by decide) ?_) | refine Chk.mk (ptr_ok tblOk rfl rfl) ?_ | refine NilG.mk (fun _ => by kernel_rfl) ?_ | refine Chk.mk (by decide) ?_)
    refine SemW.draw tblOk mixed (fun w' => St w T0 L1 w') [19] [0, 1, 2, 3, 4, 5, 6, 7, 8, 9, 10, 11, 12, 13, 14, 16, 17, 18, 15, 19] (by kernel_rfl) hS.drew ?_
    have hS := hS.drew
    repeat (first | refine SemW.run tblOk ?_ | refine IntG.nw (by omega) ?_ | refine IntG.nu8 (by omega) ?_ | refine IntG.nu32 (by omega) ?_ | refine IntG.nu64 (by omega) ?_ | refine IntG.wr' rfl ?_ | refine Chk.mk (by omega) ?_ | (refine BrG.id ?_; first | with_reducible refine BrG.t ?_ | with_reducible refine BrG.f ?_ | with_reducible refine BrG.notG ?_ | with_reducible refine BrG.nn ?_ | with_reducible refine BrG.ns ?_ | refine BrG.pos (by omega) ?_ | refine BrG.neg (by omega) ?_ | with_reducible refine BrG.pos rfl ?_ | refine BrG.pos (by assumption) ?_ | refine BrG.neg (by assumption) ?_ | refine BrG.pos (by decide) ?_ | refine BrG.neg (by decide) ?_) | refine Chk.mk (ptr_ok tblOk rfl rfl) ?_ | refine NilG.mk (fun _ => by kernel_rfl) ?_ | refine Chk.mk (by decide) ?_ | refine hS.ldC rfl ?_ | refine hS.ldnC rfl ?_)
    refine hS.al ?_
    intro r w3 _ hS
    refine Chk.mk (hS.sub (List.sublist_cons_self _ _)) ?_
    repeat (first | refine SemW.run tblOk ?_ | refine IntG.nw (by omega) ?_ | refine IntG.nu8 (by omega) ?_ | refine IntG.nu32 (by omega) ?_ | refine IntG.nu64 (by omega) ?_ | refine IntG.wr' rfl ?_ | refine Chk.mk (by omega) ?_ | (refine BrG.id ?_; first | with_reducible refine BrG.t ?_ | with_reducible refine BrG.f ?_ | with_reducible refine BrG.notG ?_ | with_reducible refine BrG.nn ?_ | with_reducible refine BrG.ns ?_ | refine BrG.pos (by omega) ?_ | refine BrG.neg (by omega) ?_ | with_reducible refine BrG.pos rfl ?_ | refine BrG.pos (by assumption) ?_ | refine BrG.neg (by assumption) ?_ | refine BrG.pos (by decide) ?_ | refine BrG.neg (by decide) ?_) | refine Chk.mk (ptr_ok tblOk rfl rfl) ?_ | refine NilG.mk (fun _ => by kernel_rfl) ?_ | refine Chk.mk (by decide) ?_ | refine hS.ldC rfl ?_ | refine hS.ldnC rfl ?_)
    have hcell : ∀ j v, (cmdC c a cap)[j]? = some v → cb ∉ keys L1 ∧ w3.cell? ⟨cb, j, none⟩ = some v := fun j v h => hS.cellNew (L := L1) hA.out (hA.cell j v h)
    refine InvG.mk ⟨f_wire_writer_marks, wrV pb, by kernel_rfl, ?_⟩
    refine Cl.mono (wmarks_spec hW (hS.part (L := L1)) (ps := [(cb, 7), (cb, 8), (cb, 9), (cb, 10)]) (l := [c.fit, c.inf, c.vol, c.stb]) (hS.arr (b := r) (nodup_chunk hS)) rfl (ptrsAt_cons (hcell 7 _ rfl) (ptrsAt_cons (hcell 8 _ rfl) (ptrsAt_cons (hcell 9 _ rfl) (ptrsAt_cons (hcell 10 _ rfl) ptrsAt_nil)))) (by simp) (by simp only [List.length_append]; omega)) ?_
    rintro _ w7 ⟨L5, hW, hS'⟩
    have hS := (hS.call (L := L1) hS').sub (List.sublist_cons_self _ _)
    repeat (first | refine SemW.run tblOk ?_ | refine IntG.nw (by omega) ?_ | refine IntG.nu8 (by omega) ?_ | refine IntG.nu32 (by omega) ?_ | refine IntG.nu64 (by omega) ?_ | refine IntG.wr' rfl ?_ | refine Chk.mk (by omega) ?_ | (refine BrG.id ?_; first | with_reducible refine BrG.t ?_ | with_reducible refine BrG.f ?_ | with_reducible refine BrG.notG ?_ | with_reducible refine BrG.nn ?_ | with_reducible refine BrG.ns ?_ | refine BrG.pos (by omega) ?_ | refine BrG.neg (by omega) ?_ | with_reducible refine BrG.pos rfl ?_ | refine BrG.pos (by assumption) ?_ | refine BrG.neg (by assumption) ?_ | refine BrG.pos (by decide) ?_ | refine BrG.neg (by decide) ?_) | refine Chk.mk (ptr_ok tblOk rfl rfl) ?_ | refine NilG.mk (fun _ => by kernel_rfl) ?_ | refine Chk.mk (by decide) ?_)
    exact ⟨L5, by simpa using hW, hS⟩
  rw [if_neg h3]
  by_cases h6 : c.kind = 6
  · rw [if_pos h6]
    simp only [fieldsB]
    repeat (first | refine SemW.run tblOk ?_ | refine IntG.nw (by omega) ?_ | refine IntG.nu8 (by omega) ?_ | refine IntG.nu32 (by omega) ?_ | refine IntG.nu64 (by omega) ?_ | refine IntG.wr' rfl ?_ | refine Chk.mk (by omega) ?_ | (refine BrG.id ?_; first | with_reducible refine BrG.t ?_ | with_reducible refine BrG.f ?_ | with_reducible refine BrG.notG ?_ | with_reducible refine BrG.nn ?_ | with_reducible refine BrG.ns ?_ | refine BrG.pos (by omega) ?_ | refine BrG.neg (by omega) ?_ | with_reducible refine BrG.pos rfl ?_ | refine BrG.pos (by assumption) ?_ | refine BrG.neg (by assumption) ?_ | refine BrG.pos (by decide) ?_ | refine BrG.neg (by decide) ?_) | refine Chk.mk (ptr_ok tblOk rfl rfl) ?_ | refine NilG.mk (fun _ => by kernel_rfl) ?_ | refine Chk.mk (by decide) ?_)
    refine SemW.draw tblOk mixed (fun w' => St w T0 L w') [12] [0, 1, 2, 3, 4, 5, 6, 7, 9, 10, 11, 8, 12] (by kernel_rfl) hS.drew ?_
    have hS := hS.drew
    repeat (first | refine SemW.run tblOk ?_ | refine IntG.nw (by omega) ?_ | refine IntG.nu8 (by omega) ?_ | refine IntG.nu32 (by omega) ?_ | refine IntG.nu64 (by omega) ?_ | refine IntG.wr' rfl ?_ | refine Chk.mk (by omega) ?_ | (refine BrG.id ?_; first | with_reducible refine BrG.t ?_ | with_reducible refine BrG.f ?_ | with_reducible refine BrG.notG ?_ | with_reducible refine BrG.nn ?_ | with_reducible refine BrG.ns ?_ | refine BrG.pos (by omega) ?_ | refine BrG.neg (by omega) ?_ | with_reducible refine BrG.pos rfl ?_ | refine BrG.pos (by assumption) ?_ | refine BrG.neg (by assumption) ?_ | refine BrG.pos (by decide) ?_ | refine BrG.neg (by decide) ?_) | refine Chk.mk (ptr_ok tblOk rfl rfl) ?_ | refine NilG.mk (fun _ => by kernel_rfl) ?_ | refine Chk.mk (by decide) ?_ | refine hS.ldC rfl ?_ | refine hS.ldnC rfl ?_)
    refine hS.al ?_
    intro r w3 _ hS
    refine Chk.mk (hS.sub (List.sublist_cons_self _ _)) ?_
    repeat (first | refine SemW.run tblOk ?_ | refine IntG.nw (by omega) ?_ | refine IntG.nu8 (by omega) ?_ | refine IntG.nu32 (by omega) ?_ | refine IntG.nu64 (by omega) ?_ | refine IntG.wr' rfl ?_ | refine Chk.mk (by omega) ?_ | (refine BrG.id ?_; first | with_reducible refine BrG.t ?_ | with_reducible refine BrG.f ?_ | with_reducible refine BrG.notG ?_ | with_reducible refine BrG.nn ?_ | with_reducible refine BrG.ns ?_ | refine BrG.pos (by omega) ?_ | refine BrG.neg (by omega) ?_ | with_reducible refine BrG.pos rfl ?_ | refine BrG.pos (by assumption) ?_ | refine BrG.neg (by assumption) ?_ | refine BrG.pos (by decide) ?_ | refine BrG.neg (by decide) ?_) | refine Chk.mk (ptr_ok tblOk rfl rfl) ?_ | refine NilG.mk (fun _ => by kernel_rfl) ?_ | refine Chk.mk (by decide) ?_ | refine hS.ldC rfl ?_ | refine hS.ldnC rfl ?_)
    have hcell : ∀ j v, (cmdC c a cap)[j]? = some v → cb ∉ keys L ∧ w3.cell? ⟨cb, j, none⟩ = some v := fun j v h => hS.cellNew (L := L) hA.out (hA.cell j v h)
    refine InvG.mk ⟨f_wire_writer_int, wrV pb, by kernel_rfl, ?_⟩
    refine Cl.mono (wint_spec hW (hS.part (L := L)) (ps := [(cb, 2), (cb, 11)]) (zs := [c.id, c.num]) (hS.arr (b := r) (nodup_chunk hS)) rfl (ptrsAt_cons (hcell 2 _ rfl) (ptrsAt_cons (hcell 11 _ rfl) ptrsAt_nil)) (all2 hok.id hok.num).2 (by simp only [List.length_append, List.length_cons, List.length_nil]; omega)) ?_
    rintro _ w4 ⟨L1, hW, hS'⟩
    have hS := (hS.call (L := L) hS').sub (List.sublist_cons_self _ _)
    repeat (first | refine SemW.run tblOk ?_ | refine IntG.nw (by omega) ?_ | refine IntG.nu8 (by omega) ?_ | refine IntG.nu32 (by omega) ?_ | refine IntG.nu64 (by omega) ?_ | refine IntG.wr' rfl ?_ | refine Chk.mk (by omega) ?_ | (refine BrG.id ?_; first | with_reducible refine BrG.t ?_ | with_reducible refine BrG.f ?_ | with_reducible refine BrG.notG ?_ | with_reducible refine BrG.nn ?_ | with_reducible refine BrG.ns ?_ | refine BrG.pos (by omega) ?_ | refine BrG.neg (by omega) ?_ | with_reducible refine BrG.pos rfl ?_ | refine BrG.pos (by assumption) ?_ | refine BrG.neg (by assumption) ?_ | refine BrG.pos (by decide) ?_ | refine BrG.neg (by decide) ?_) | refine Chk.mk (ptr_ok tblOk rfl rfl) ?_ | refine NilG.mk (fun _ => by kernel_rfl) ?_ | refine Chk.mk (by decide) ?_)
    refine SemW.draw tblOk mixed (fun w' => St w T0 L1 w') [8] [0, 1, 2, 3, 4, 5, 6, 7, 8] (by kernel_rfl) hS.drew ?_
    have hS := hS.drew
    repeat (first | refine SemW.run tblOk ?_ | refine IntG.nw (by omega) ?_ | refine IntG.nu8 (by omega) ?_ | refine IntG.nu32 (by omega) ?_ | refine IntG.nu64 (by omega) ?_ | refine IntG.wr' rfl ?_ | refine Chk.mk (by omega) ?_ | (refine BrG.id ?_; first | with_reducible refine BrG.t ?_ | with_reducible refine BrG.f ?_ | with_reducible refine BrG.notG ?_ | with_reducible refine BrG.nn ?_ | with_reducible refine BrG.ns ?_ | refine BrG.pos (by omega) ?_ | refine BrG.neg (by omega) ?_ | with_reducible refine BrG.pos rfl ?_ | refine BrG.pos (by assumption) ?_ | refine BrG.neg (by assumption) ?_ | refine BrG.pos (by decide) ?_ | refine BrG.neg (by decide) ?_) | refine Chk.mk (ptr_ok tblOk rfl rfl) ?_ | refine NilG.mk (fun _ => by kernel_rfl) ?_ | refine Chk.mk (by decide) ?_ | refine hS.ldC rfl ?_ | refine hS.ldnC rfl ?_)
    have hcell := hS.cellNew (L := L1) hA.out (hA.cell 12 _ rfl)
    refine InvG.mk ⟨f_wire_writer_letter, wrV pb, by kernel_rfl, ?_⟩
    refine Cl.mono (wletter_spec hW (hS.part (L := L1)) (p := (cb, 12)) (c := c.lt) hok.lt hcell (by simp only [List.length_append]; omega)) ?_
    rintro _ w7 ⟨L5, hW, hS'⟩
    have hS := hS.call (L := L1) hS'
    repeat (first | refine SemW.run tblOk ?_ | refine IntG.nw (by omega) ?_ | refine IntG.nu8 (by omega) ?_ | refine IntG.nu32 (by omega) ?_ | refine IntG.nu64 (by omega) ?_ | refine IntG.wr' rfl ?_ | refine Chk.mk (by omega) ?_ | (refine BrG.id ?_; first | with_reducible refine BrG.t ?_ | with_reducible refine BrG.f ?_ | with_reducible refine BrG.notG ?_ | with_reducible refine BrG.nn ?_ | with_reducible refine BrG.ns ?_ | refine BrG.pos (by omega) ?_ | refine BrG.neg (by omega) ?_ | with_reducible refine BrG.pos rfl ?_ | refine BrG.pos (by assumption) ?_ | refine BrG.neg (by assumption) ?_ | refine BrG.pos (by decide) ?_ | refine BrG.neg (by decide) ?_) | refine Chk.mk (ptr_ok tblOk rfl rfl) ?_ | refine NilG.mk (fun _ => by kernel_rfl) ?_ | refine Chk.mk (by decide) ?_)
    exact ⟨L5, by simpa using hW, hS⟩
  rw [if_neg h6]
  by_cases h8 : c.kind = 8
  · rw [if_pos h8]
    simp only [fieldsB]
    repeat (first | refine SemW.run tblOk ?_ | refine IntG.nw (by omega) ?_ | refine IntG.nu8 (by omega) ?_ | refine IntG.nu32 (by omega) ?_ | refine IntG.nu64 (by omega) ?_ | refine IntG.wr' rfl ?_ | refine Chk.mk (by omega) ?_ | (refine BrG.id ?_; first | with_reducible refine BrG.t ?_ | with_reducible refine BrG.f ?_ | with_reducible refine BrG.notG ?_ | with_reducible refine BrG.nn ?_ | with_reducible refine BrG.ns ?_ | refine BrG.pos (by omega) ?_ | refine BrG.neg (by omega) ?_ | with_reducible refine BrG.pos rfl ?_ | refine BrG.pos (by assumption) ?_ | refine BrG.neg (by assumption) ?_ | refine BrG.pos (by decide) ?_ | refine BrG.neg (by decide) ?_) | refine Chk.mk (ptr_ok tblOk rfl rfl) ?_ | refine NilG.mk (fun _ => by kernel_rfl) ?_ | refine Chk.mk (by decide) ?_)
    refine SemW.draw tblOk mixed (fun w' => St w T0 L w') [11] [0, 1, 2, 3, 4, 5, 6, 8, 9, 10, 7, 11] (by kernel_rfl) hS.drew ?_
    have hS := hS.drew
    repeat (first | refine SemW.run tblOk ?_ | refine IntG.nw (by omega) ?_ | refine IntG.nu8 (by omega) ?_ | refine IntG.nu32 (by omega) ?_ | refine IntG.nu64 (by omega) ?_ | refine IntG.wr' rfl ?_ | refine Chk.mk (by omega) ?_ | (refine BrG.id ?_; first | with_reducible refine BrG.t ?_ | with_reducible refine BrG.f ?_ | with_reducible refine BrG.notG ?_ | with_reducible refine BrG.nn ?_ | with_reducible refine BrG.ns ?_ | refine BrG.pos (by omega) ?_ | refine BrG.neg (by omega) ?_ | with_reducible refine BrG.pos rfl ?_ | refine BrG.pos (by assumption) ?_ | refine BrG.neg (by assumption) ?_ | refine BrG.pos (by decide) ?_ | refine BrG.neg (by decide) ?_) | refine Chk.mk (ptr_ok tblOk rfl rfl) ?_ | refine NilG.mk (fun _ => by kernel_rfl) ?_ | refine Chk.mk (by decide) ?_ | refine hS.ldC rfl ?_ | refine hS.ldnC rfl ?_)
    refine hS.al ?_
    intro r w3 _ hS
    refine Chk.mk (hS.sub (List.sublist_cons_self _ _)) ?_
    repeat (first | refine SemW.run tblOk ?_ | refine IntG.nw (by omega) ?_ | refine IntG.nu8 (by omega) ?_ | refine IntG.nu32 (by omega) ?_ | refine IntG.nu64 (by omega) ?_ | refine IntG.wr' rfl ?_ | refine Chk.mk (by omega) ?_ | (refine BrG.id ?_; first | with_reducible refine BrG.t ?_ | with_reducible refine BrG.f ?_ | with_reducible refine BrG.notG ?_ | with_reducible refine BrG.nn ?_ | with_reducible refine BrG.ns ?_ | refine BrG.pos (by omega) ?_ | refine BrG.neg (by omega) ?_ | with_reducible refine BrG.pos rfl ?_ | refine BrG.pos (by assumption) ?_ | refine BrG.neg (by assumption) ?_ | refine BrG.pos (by decide) ?_ | refine BrG.neg (by decide) ?_) | refine Chk.mk (ptr_ok tblOk rfl rfl) ?_ | refine NilG.mk (fun _ => by kernel_rfl) ?_ | refine Chk.mk (by decide) ?_ | refine hS.ldC rfl ?_ | refine hS.ldnC rfl ?_)
    have hcell : ∀ j v, (cmdC c a cap)[j]? = some v → cb ∉ keys L ∧ w3.cell? ⟨cb, j, none⟩ = some v := fun j v h => hS.cellNew (L := L) hA.out (hA.cell j v h)
    refine InvG.mk ⟨f_wire_writer_int, wrV pb, by kernel_rfl, ?_⟩
    refine Cl.mono (wint_spec hW (hS.part (L := L)) (ps := [(cb, 3), (cb, 4)]) (zs := [c.fl, c.eq]) (hS.arr (b := r) (nodup_chunk hS)) rfl (ptrsAt_cons (hcell 3 _ rfl) (ptrsAt_cons (hcell 4 _ rfl) ptrsAt_nil)) (all2 hok.fl hok.eq).2 (by simp only [List.length_append, List.length_cons, List.length_nil]; omega)) ?_
    rintro _ w4 ⟨L1, hW, hS'⟩
    have hS := (hS.call (L := L) hS').sub (List.sublist_cons_self _ _)
    repeat (first | refine SemW.run tblOk ?_ | refine IntG.nw (by omega) ?_ | refine IntG.nu8 (by omega) ?_ | refine IntG.nu32 (by omega) ?_ | refine IntG.nu64 (by omega) ?_ | refine IntG.wr' rfl ?_ | refine Chk.mk (by omega) ?_ | (refine BrG.id ?_; first | with_reducible refine BrG.t ?_ | with_reducible refine BrG.f ?_ | with_reducible refine BrG.notG ?_ | with_reducible refine BrG.nn ?_ | with_reducible refine BrG.ns ?_ | refine BrG.pos (by omega) ?_ | refine BrG.neg (by omega) ?_ | with_reducible refine BrG.pos rfl ?_ | refine BrG.pos (by assumption) ?_ | refine BrG.neg (by assumption) ?_ | refine BrG.pos (by decide) ?_ | refine BrG.neg (by decide) ?_) | refine Chk.mk (ptr_ok tblOk rfl rfl) ?_ | refine NilG.mk (fun _ => by kernel_rfl) ?_ | refine Chk.mk (by decide) ?_)
    exact ⟨L1, hW, hS⟩
  rw [if_neg h8]
  by_cases hf : c.kind = 9 ∨ c.kind = 10 ∨ c.kind = 13 ∨ c.kind = 14
  · rw [if_pos hf]
    simp only [fieldsB]
    rcases hf with hf | hf | hf | hf
    · repeat (first | refine SemW.run tblOk ?_ | refine IntG.nw (by omega) ?_ | refine IntG.nu8 (by omega) ?_ | refine IntG.nu32 (by omega) ?_ | refine IntG.nu64 (by omega) ?_ | refine IntG.wr' rfl ?_ | refine Chk.mk (by omega) ?_ | (refine BrG.id ?_; first | with_reducible refine BrG.t ?_ | with_reducible refine BrG.f ?_ | with_reducible refine BrG.notG ?_ | with_reducible refine BrG.nn ?_ | with_reducible refine BrG.ns ?_ | refine BrG.pos (by omega) ?_ | refine BrG.neg (by omega) ?_ | with_reducible refine BrG.pos rfl ?_ | refine BrG.pos (by assumption) ?_ | refine BrG.neg (by assumption) ?_ | refine BrG.pos (by decide) ?_ | refine BrG.neg (by decide) ?_) | refine Chk.mk (ptr_ok tblOk rfl rfl) ?_ | refine NilG.mk (fun _ => by kernel_rfl) ?_ | refine Chk.mk (by decide) ?_)
      refine SemW.draw tblOk mixed (fun w' => St w T0 L w') [8] [0, 1, 2, 3, 5, 6, 7, 4, 8] (by kernel_rfl) hS.drew ?_
      have hS := hS.drew
      repeat (first | refine SemW.run tblOk ?_ | refine IntG.nw (by omega) ?_ | refine IntG.nu8 (by omega) ?_ | refine IntG.nu32 (by omega) ?_ | refine IntG.nu64 (by omega) ?_ | refine IntG.wr' rfl ?_ | refine Chk.mk (by omega) ?_ | (refine BrG.id ?_; first | with_reducible refine BrG.t ?_ | with_reducible refine BrG.f ?_ | with_reducible refine BrG.notG ?_ | with_reducible refine BrG.nn ?_ | with_reducible refine BrG.ns ?_ | refine BrG.pos (by omega) ?_ | refine BrG.neg (by omega) ?_ | with_reducible refine BrG.pos rfl ?_ | refine BrG.pos (by assumption) ?_ | refine BrG.neg (by assumption) ?_ | refine BrG.pos (by decide) ?_ | refine BrG.neg (by decide) ?_) | refine Chk.mk (ptr_ok tblOk rfl rfl) ?_ | refine NilG.mk (fun _ => by kernel_rfl) ?_ | refine Chk.mk (by decide) ?_ | refine hS.ldC rfl ?_ | refine hS.ldnC rfl ?_)
      refine hS.al ?_
      intro r w3 _ hS
      refine Chk.mk (hS.sub (List.sublist_cons_self _ _)) ?_
      repeat (first | refine SemW.run tblOk ?_ | refine IntG.nw (by omega) ?_ | refine IntG.nu8 (by omega) ?_ | refine IntG.nu32 (by omega) ?_ | refine IntG.nu64 (by omega) ?_ | refine IntG.wr' rfl ?_ | refine Chk.mk (by omega) ?_ | (refine BrG.id ?_; first | with_reducible refine BrG.t ?_ | with_reducible refine BrG.f ?_ | with_reducible refine BrG.notG ?_ | with_reducible refine BrG.nn ?_ | with_reducible refine BrG.ns ?_ | refine BrG.pos (by omega) ?_ | refine BrG.neg (by omega) ?_ | with_reducible refine BrG.pos rfl ?_ | refine BrG.pos (by assumption) ?_ | refine BrG.neg (by assumption) ?_ | refine BrG.pos (by decide) ?_ | refine BrG.neg (by decide) ?_) | refine Chk.mk (ptr_ok tblOk rfl rfl) ?_ | refine NilG.mk (fun _ => by kernel_rfl) ?_ | refine Chk.mk (by decide) ?_ | refine hS.ldC rfl ?_ | refine hS.ldnC rfl ?_)
      have hcell : ∀ j v, (cmdC c a cap)[j]? = some v → cb ∉ keys L ∧ w3.cell? ⟨cb, j, none⟩ = some v := fun j v h => hS.cellNew (L := L) hA.out (hA.cell j v h)
      refine InvG.mk ⟨f_wire_writer_int, wrV pb, by kernel_rfl, ?_⟩
      refine Cl.mono (wint_spec hW (hS.part (L := L)) (ps := [(cb, 3)]) (zs := [c.fl]) (hS.arr (b := r) (nodup_chunk hS)) rfl (ptrsAt_cons (hcell 3 _ rfl) ptrsAt_nil) (all1 hok.fl).2 (by simp only [List.length_append, List.length_cons, List.length_nil]; omega)) ?_
      rintro _ w4 ⟨L1, hW, hS'⟩
      have hS := (hS.call (L := L) hS').sub (List.sublist_cons_self _ _)
      repeat (first | refine SemW.run tblOk ?_ | refine IntG.nw (by omega) ?_ | refine IntG.nu8 (by omega) ?_ | refine IntG.nu32 (by omega) ?_ | refine IntG.nu64 (by omega) ?_ | refine IntG.wr' rfl ?_ | refine Chk.mk (by omega) ?_ | (refine BrG.id ?_; first | with_reducible refine BrG.t ?_ | with_reducible refine BrG.f ?_ | with_reducible refine BrG.notG ?_ | with_reducible refine BrG.nn ?_ | with_reducible refine BrG.ns ?_ | refine BrG.pos (by omega) ?_ | refine BrG.neg (by omega) ?_ | with_reducible refine BrG.pos rfl ?_ | refine BrG.pos (by assumption) ?_ | refine BrG.neg (by assumption) ?_ | refine BrG.pos (by decide) ?_ | refine BrG.neg (by decide) ?_) | refine Chk.mk (ptr_ok tblOk rfl rfl) ?_ | refine NilG.mk (fun _ => by kernel_rfl) ?_ | refine Chk.mk (by decide) ?_)
      exact ⟨L1, hW, hS⟩
    · repeat (first | refine SemW.run tblOk ?_ | refine IntG.nw (by omega) ?_ | refine IntG.nu8 (by omega) ?_ | refine IntG.nu32 (by omega) ?_ | refine IntG.nu64 (by omega) ?_ | refine IntG.wr' rfl ?_ | refine Chk.mk (by omega) ?_ | (refine BrG.id ?_; first | with_reducible refine BrG.t ?_ | with_reducible refine BrG.f ?_ | with_reducible refine BrG.notG ?_ | with_reducible refine BrG.nn ?_ | with_reducible refine BrG.ns ?_ | refine BrG.pos (by omega) ?_ | refine BrG.neg (by omega) ?_ | with_reducible refine BrG.pos rfl ?_ | refine BrG.pos (by assumption) ?_ | refine BrG.neg (by assumption) ?_ | refine BrG.pos (by decide) ?_ | refine BrG.neg (by decide) ?_) | refine Chk.mk (ptr_ok tblOk rfl rfl) ?_ | refine NilG.mk (fun _ => by kernel_rfl) ?_ | refine Chk.mk (by decide) ?_)
      refine SemW.draw tblOk mixed (fun w' => St w T0 L w') [8] [0, 1, 2, 3, 5, 6, 7, 4, 8] (by kernel_rfl) hS.drew ?_
      have hS := hS.drew
      repeat (first | refine SemW.run tblOk ?_ | refine IntG.nw (by omega) ?_ | refine IntG.nu8 (by omega) ?_ | refine IntG.nu32 (by omega) ?_ | refine IntG.nu64 (by omega) ?_ | refine IntG.wr' rfl ?_ | refine Chk.mk (by omega) ?_ | (refine BrG.id ?_; first | with_reducible refine BrG.t ?_ | with_reducible refine BrG.f ?_ | with_reducible refine BrG.notG ?_ | with_reducible refine BrG.nn ?_ | with_reducible refine BrG.ns ?_ | refine BrG.pos (by omega) ?_ | refine BrG.neg (by omega) ?_ | with_reducible refine BrG.pos rfl ?_ | refine BrG.pos (by assumption) ?_ | refine BrG.neg (by assumption) ?_ | refine BrG.pos (by decide) ?_ | refine BrG.neg (by decide) ?_) | refine Chk.mk (ptr_ok tblOk rfl rfl) ?_ | refine NilG.mk (fun _ => by kernel_rfl) ?_ | refine Chk.mk (by decide) ?_ | refine hS.ldC rfl ?_ | refine hS.ldnC rfl ?_)
      refine hS.al ?_
      intro r w3 _ hS
      refine Chk.mk (hS.sub (List.sublist_cons_self _ _)) ?_
      repeat (first | refine SemW.run tblOk ?_ | refine IntG.nw (by omega) ?_ | refine IntG.nu8 (by omega) ?_ | refine IntG.nu32 (by omega) ?_ | refine IntG.nu64 (by omega) ?_ | refine IntG.wr' rfl ?_ | refine Chk.mk (by omega) ?_ | (refine BrG.id ?_; first | with_reducible refine BrG.t ?_ | with_reducible refine BrG.f ?_ | with_reducible refine BrG.notG ?_ | with_reducible refine BrG.nn ?_ | with_reducible refine BrG.ns ?_ | refine BrG.pos (by omega) ?_ | refine BrG.neg (by omega) ?_ | with_reducible refine BrG.pos rfl ?_ | refine BrG.pos (by assumption) ?_ | refine BrG.neg (by assumption) ?_ | refine BrG.pos (by decide) ?_ | refine BrG.neg (by decide) ?_) | refine Chk.mk (ptr_ok tblOk rfl rfl) ?_ | refine NilG.mk (fun _ => by kernel_rfl) ?_ | refine Chk.mk (by decide) ?_ | refine hS.ldC rfl ?_ | refine hS.ldnC rfl ?_)
      have hcell : ∀ j v, (cmdC c a cap)[j]? = some v → cb ∉ keys L ∧ w3.cell? ⟨cb, j, none⟩ = some v := fun j v h => hS.cellNew (L := L) hA.out (hA.cell j v h)
      refine InvG.mk ⟨f_wire_writer_int, wrV pb, by kernel_rfl, ?_⟩
      refine Cl.mono (wint_spec hW (hS.part (L := L)) (ps := [(cb, 3)]) (zs := [c.fl]) (hS.arr (b := r) (nodup_chunk hS)) rfl (ptrsAt_cons (hcell 3 _ rfl) ptrsAt_nil) (all1 hok.fl).2 (by simp only [List.length_append, List.length_cons, List.length_nil]; omega)) ?_
      rintro _ w4 ⟨L1, hW, hS'⟩
      have hS := (hS.call (L := L) hS').sub (List.sublist_cons_self _ _)
      repeat (first | refine SemW.run tblOk ?_ | refine IntG.nw (by omega) ?_ | refine IntG.nu8 (by omega) ?_ | refine IntG.nu32 (by omega) ?_ | refine IntG.nu64 (by omega) ?_ | refine IntG.wr' rfl ?_ | refine Chk.mk (by omega) ?_ | (refine BrG.id ?_; first | with_reducible refine BrG.t ?_ | with_reducible refine BrG.f ?_ | with_reducible refine BrG.notG ?_ | with_reducible refine BrG.nn ?_ | with_reducible refine BrG.ns ?_ | refine BrG.pos (by omega) ?_ | refine BrG.neg (by omega) ?_ | with_reducible refine BrG.pos rfl ?_ | refine BrG.pos (by assumption) ?_ | refine BrG.neg (by assumption) ?_ | refine BrG.pos (by decide) ?_ | refine BrG.neg (by decide) ?_) | refine Chk.mk (ptr_ok tblOk rfl rfl) ?_ | refine NilG.mk (fun _ => by kernel_rfl) ?_ | refine Chk.mk (by decide) ?_)
      exact ⟨L1, hW, hS⟩
    · repeat (first | refine SemW.run tblOk ?_ | refine IntG.nw (by omega) ?_ | refine IntG.nu8 (by omega) ?_ | refine IntG.nu32 (by omega) ?_ | refine IntG.nu64 (by omega) ?_ | refine IntG.wr' rfl ?_ | refine Chk.mk (by omega) ?_ | (refine BrG.id ?_; first | with_reducible refine BrG.t ?_ | with_reducible refine BrG.f ?_ | with_reducible refine BrG.notG ?_ | with_reducible refine BrG.nn ?_ | with_reducible refine BrG.ns ?_ | refine BrG.pos (by omega) ?_ | refine BrG.neg (by omega) ?_ | with_reducible refine BrG.pos rfl ?_ | refine BrG.pos (by assumption) ?_ | refine BrG.neg (by assumption) ?_ | refine BrG.pos (by decide) ?_ | refine BrG.neg (by decide) ?_) | refine Chk.mk (ptr_ok tblOk rfl rfl) ?_ | refine NilG.mk (fun _ => by kernel_rfl) ?_ | refine Chk.mk (by decide) ?_)
      refine SemW.draw tblOk mixed (fun w' => St w T0 L w') [8] [0, 1, 2, 3, 5, 6, 7, 4, 8] (by kernel_rfl) hS.drew ?_
      have hS := hS.drew
      repeat (first | refine SemW.run tblOk ?_ | refine IntG.nw (by omega) ?_ | refine IntG.nu8 (by omega) ?_ | refine IntG.nu32 (by omega) ?_ | refine IntG.nu64 (by omega) ?_ | refine IntG.wr' rfl ?_ | refine Chk.mk (by omega) ?_ | (refine BrG.id ?_; first | with_reducible refine BrG.t ?_ | with_reducible refine BrG.f ?_ | with_reducible refine BrG.notG ?_ | with_reducible refine BrG.nn ?_ | with_reducible refine BrG.ns ?_ | refine BrG.pos (by omega) ?_ | refine BrG.neg (by omega) ?_ | with_reducible refine BrG.pos rfl ?_ | refine BrG.pos (by assumption) ?_ | refine BrG.neg (by assumption) ?_ | refine BrG.pos (by decide) ?_ | refine BrG.neg (by decide) ?_) | refine Chk.mk (ptr_ok tblOk rfl rfl) ?_ | refine NilG.mk (fun _ => by kernel_rfl) ?_ | refine Chk.mk (by decide) ?_ | refine hS.ldC rfl ?_ | refine hS.ldnC rfl ?_)
      refine hS.al ?_
      intro r w3 _ hS
      refine Chk.mk (hS.sub (List.sublist_cons_self _ _)) ?_
      repeat (first | refine SemW.run tblOk ?_ | refine IntG.nw (by omega) ?_ | refine IntG.nu8 (by omega) ?_ | refine IntG.nu32 (by omega) ?_ | refine IntG.nu64 (by omega) ?_ | refine IntG.wr' rfl ?_ | refine Chk.mk (by omega) ?_ | (refine BrG.id ?_; first | with_reducible refine BrG.t ?_ | with_reducible refine BrG.f ?_ | with_reducible refine BrG.notG ?_ | with_reducible refine BrG.nn ?_ | with_reducible refine BrG.ns ?_ | refine BrG.pos (by omega) ?_ | refine BrG.neg (by omega) ?_ | with_reducible refine BrG.pos rfl ?_ | refine BrG.pos (by assumption) ?_ | refine BrG.neg (by assumption) ?_ | refine BrG.pos (by decide) ?_ | refine BrG.neg (by decide) ?_) | refine Chk.mk (ptr_ok tblOk rfl rfl) ?_ | refine NilG.mk (fun _ => by kernel_rfl) ?_ | refine Chk.mk (by decide) ?_ | refine hS.ldC rfl ?_ | refine hS.ldnC rfl ?_)
      have hcell : ∀ j v, (cmdC c a cap)[j]? = some v → cb ∉ keys L ∧ w3.cell? ⟨cb, j, none⟩ = some v := fun j v h => hS.cellNew (L := L) hA.out (hA.cell j v h)
      refine InvG.mk ⟨f_wire_writer_int, wrV pb, by kernel_rfl, ?_⟩
      refine Cl.mono (wint_spec hW (hS.part (L := L)) (ps := [(cb, 3)]) (zs := [c.fl]) (hS.arr (b := r) (nodup_chunk hS)) rfl (ptrsAt_cons (hcell 3 _ rfl) ptrsAt_nil) (all1 hok.fl).2 (by simp only [List.length_append, List.length_cons, List.length_nil]; omega)) ?_
      rintro _ w4 ⟨L1, hW, hS'⟩
      have hS := (hS.call (L := L) hS').sub (List.sublist_cons_self _ _)
      repeat (first | refine SemW.run tblOk ?_ | refine IntG.nw (by omega) ?_ | refine IntG.nu8 (by omega) ?_ | refine IntG.nu32 (by omega) ?_ | refine IntG.nu64 (by omega) ?_ | refine IntG.wr' rfl ?_ | refine Chk.mk (by omega) ?_ | (refine BrG.id ?_; first | with_reducible refine BrG.t ?_ | with_reducible refine BrG.f ?_ | with_reducible refine BrG.notG ?_ | with_reducible refine BrG.nn ?_ | with_reducible refine BrG.ns ?_ | refine BrG.pos (by omega) ?_ | refine BrG.neg (by omega) ?_ | with_reducible refine BrG.pos rfl ?_ | refine BrG.pos (by assumption) ?_ | refine BrG.neg (by assumption) ?_ | refine BrG.pos (by decide) ?_ | refine BrG.neg (by decide) ?_) | refine Chk.mk (ptr_ok tblOk rfl rfl) ?_ | refine NilG.mk (fun _ => by kernel_rfl) ?_ | refine Chk.mk (by decide) ?_)
      exact ⟨L1, hW, hS⟩
    · repeat (first | refine SemW.run tblOk ?_ | refine IntG.nw (by omega) ?_ | refine IntG.nu8 (by omega) ?_ | refine IntG.nu32 (by omega) ?_ | refine IntG.nu64 (by omega) ?_ | refine IntG.wr' rfl ?_ | refine Chk.mk (by omega) ?_ | (refine BrG.id ?_; first | with_reducible refine BrG.t ?_ | with_reducible refine BrG.f ?_ | with_reducible refine BrG.notG ?_ | with_reducible refine BrG.nn ?_ | with_reducible refine BrG.ns ?_ | refine BrG.pos (by omega) ?_ | refine BrG.neg (by omega) ?_ | with_reducible refine BrG.pos rfl ?_ | refine BrG.pos (by assumption) ?_ | refine BrG.neg (by assumption) ?_ | refine BrG.pos (by decide) ?_ | refine BrG.neg (by decide) ?_) | refine Chk.mk (ptr_ok tblOk rfl rfl) ?_ | refine NilG.mk (fun _ => by kernel_rfl) ?_ | refine Chk.mk (by decide) ?_)
      refine SemW.draw tblOk mixed (fun w' => St w T0 L w') [8] [0, 1, 2, 3, 5, 6, 7, 4, 8] (by kernel_rfl) hS.drew ?_
      have hS := hS.drew
      repeat (first | refine SemW.run tblOk ?_ | refine IntG.nw (by omega) ?_ | refine IntG.nu8 (by omega) ?_ | refine IntG.nu32 (by omega) ?_ | refine IntG.nu64 (by omega) ?_ | refine IntG.wr' rfl ?_ | refine Chk.mk (by omega) ?_ | (refine BrG.id ?_; first | with_reducible refine BrG.t ?_ | with_reducible refine BrG.f ?_ | with_reducible refine BrG.notG ?_ | with_reducible refine BrG.nn ?_ | with_reducible refine BrG.ns ?_ | refine BrG.pos (by omega) ?_ | refine BrG.neg (by omega) ?_ | with_reducible refine BrG.pos rfl ?_ | refine BrG.pos (by assumption) ?_ | refine BrG.neg (by assumption) ?_ | refine BrG.pos (by decide) ?_ | refine BrG.neg (by decide) ?_) | refine Chk.mk (ptr_ok tblOk rfl rfl) ?_ | refine NilG.mk (fun _ => by kernel_rfl) ?_ | refine Chk.mk (by decide) ?_ | refine hS.ldC rfl ?_ | refine hS.ldnC rfl ?_)
      refine hS.al ?_
      intro r w3 _ hS
      refine Chk.mk (hS.sub (List.sublist_cons_self _ _)) ?_
      repeat (first | refine SemW.run tblOk ?_ | refine IntG.nw (by omega) ?_ | refine IntG.nu8 (by omega) ?_ | refine IntG.nu32 (by omega) ?_ | refine IntG.nu64 (by omega) ?_ | refine IntG.wr' rfl ?_ | refine Chk.mk (by omega) ?_ | (refine BrG.id ?_; first | with_reducible refine BrG.t ?_ | with_reducible refine BrG.f ?_ | with_reducible refine BrG.notG ?_ | with_reducible refine BrG.nn ?_ | with_reducible refine BrG.ns ?_ | refine BrG.pos (by omega) ?_ | refine BrG.neg (by omega) ?_ | with_reducible refine BrG.pos rfl ?_ | refine BrG.pos (by assumption) ?_ | refine BrG.neg (by assumption) ?_ | refine BrG.pos (by decide) ?_ | refine BrG.neg (by decide) ?_) | refine Chk.mk (ptr_ok tblOk rfl rfl) ?_ | refine NilG.mk (fun _ => by kernel_rfl) ?_ | refine Chk.mk (by decide) ?_ | refine hS.ldC rfl ?_ | refine hS.ldnC rfl ?_)
      have hcell : ∀ j v, (cmdC c a cap)[j]? = some v → cb ∉ keys L ∧ w3.cell? ⟨cb, j, none⟩ = some v := fun j v h => hS.cellNew (L := L) hA.out (hA.cell j v h)
      refine InvG.mk ⟨f_wire_writer_int, wrV pb, by kernel_rfl, ?_⟩
      refine Cl.mono (wint_spec hW (hS.part (L := L)) (ps := [(cb, 3)]) (zs := [c.fl]) (hS.arr (b := r) (nodup_chunk hS)) rfl (ptrsAt_cons (hcell 3 _ rfl) ptrsAt_nil) (all1 hok.fl).2 (by simp only [List.length_append, List.length_cons, List.length_nil]; omega)) ?_
      rintro _ w4 ⟨L1, hW, hS'⟩
      have hS := (hS.call (L := L) hS').sub (List.sublist_cons_self _ _)
      repeat (first | refine SemW.run tblOk ?_ | refine IntG.nw (by omega) ?_ | refine IntG.nu8 (by omega) ?_ | refine IntG.nu32 (by omega) ?_ | refine IntG.nu64 (by omega) ?_ | refine IntG.wr' rfl ?_ | refine Chk.mk (by omega) ?_ | (refine BrG.id ?_; first | with_reducible refine BrG.t ?_ | with_reducible refine BrG.f ?_ | with_reducible refine BrG.notG ?_ | with_reducible refine BrG.nn ?_ | with_reducible refine BrG.ns ?_ | refine BrG.pos (by omega) ?_ | refine BrG.neg (by omega) ?_ | with_reducible refine BrG.pos rfl ?_ | refine BrG.pos (by assumption) ?_ | refine BrG.neg (by assumption) ?_ | refine BrG.pos (by decide) ?_ | refine BrG.neg (by decide) ?_) | refine Chk.mk (ptr_ok tblOk rfl rfl) ?_ | refine NilG.mk (fun _ => by kernel_rfl) ?_ | refine Chk.mk (by decide) ?_)
      exact ⟨L1, hW, hS⟩
  rw [if_neg hf]
  have hf9 : ¬ c.kind = 9 := fun h => hf (.inl h)
  have hf10 : ¬ c.kind = 10 := fun h => hf (.inr (.inl h))
  have hf13 : ¬ c.kind = 13 := fun h => hf (.inr (.inr (.inl h)))
  have hf14 : ¬ c.kind = 14 := fun h => hf (.inr (.inr (.inr h)))
  by_cases h12 : c.kind = 12
  · rw [if_pos h12]
    simp only [fieldsB]
    repeat (first | refine SemW.run tblOk ?_ | refine IntG.nw (by omega) ?_ | refine IntG.nu8 (by omega) ?_ | refine IntG.nu32 (by omega) ?_ | refine IntG.nu64 (by omega) ?_ | refine IntG.wr' rfl ?_ | refine Chk.mk (by omega) ?_ | (refine BrG.id ?_; first | with_reducible refine BrG.t ?_ | with_reducible refine BrG.f ?_ | with_reducible refine BrG.notG ?_ | with_reducible refine BrG.nn ?_ | with_reducible refine BrG.ns ?_ | refine BrG.pos (by omega) ?_ | refine BrG.neg (by omega) ?_ | with_reducible refine BrG.pos rfl ?_ | refine BrG.pos (by assumption) ?_ | refine BrG.neg (by assumption) ?_ | refine BrG.pos (by decide) ?_ | refine BrG.neg (by decide) ?_) | refine Chk.mk (ptr_ok tblOk rfl rfl) ?_ | refine NilG.mk (fun _ => by kernel_rfl) ?_ | refine Chk.mk (by decide) ?_)
    refine SemW.draw tblOk mixed (fun w' => St w T0 L w') [7] [0, 1, 2, 3, 4, 5, 6, 7] (by kernel_rfl) hS.drew ?_
    have hS := hS.drew
    repeat (first | refine SemW.run tblOk ?_ | refine IntG.nw (by omega) ?_ | refine IntG.nu8 (by omega) ?_ | refine IntG.nu32 (by omega) ?_ | refine IntG.nu64 (by omega) ?_ | refine IntG.wr' rfl ?_ | refine Chk.mk (by omega) ?_ | (refine BrG.id ?_; first | with_reducible refine BrG.t ?_ | with_reducible refine BrG.f ?_ | with_reducible refine BrG.notG ?_ | with_reducible refine BrG.nn ?_ | with_reducible refine BrG.ns ?_ | refine BrG.pos (by omega) ?_ | refine BrG.neg (by omega) ?_ | with_reducible refine BrG.pos rfl ?_ | refine BrG.pos (by assumption) ?_ | refine BrG.neg (by assumption) ?_ | refine BrG.pos (by decide) ?_ | refine BrG.neg (by decide) ?_) | refine Chk.mk (ptr_ok tblOk rfl rfl) ?_ | refine NilG.mk (fun _ => by kernel_rfl) ?_ | refine Chk.mk (by decide) ?_ | refine hS.ldC rfl ?_ | refine hS.ldnC rfl ?_)
    have hcell := hS.cellNew (L := L) hA.out (hA.cell 18 _ rfl)
    refine InvG.mk ⟨f_wire_writer_text, wrV pb, by kernel_rfl, ?_⟩
    refine Cl.mono (wtext_spec hW (hS.part (L := L)) (p := (cb, 18)) (x := c.text) hcell (by omega)) ?_
    rintro _ w7 ⟨L5, hW, hS'⟩
    have hS := hS.call (L := L) hS'
    repeat (first | refine SemW.run tblOk ?_ | refine IntG.nw (by omega) ?_ | refine IntG.nu8 (by omega) ?_ | refine IntG.nu32 (by omega) ?_ | refine IntG.nu64 (by omega) ?_ | refine IntG.wr' rfl ?_ | refine Chk.mk (by omega) ?_ | (refine BrG.id ?_; first | with_reducible refine BrG.t ?_ | with_reducible refine BrG.f ?_ | with_reducible refine BrG.notG ?_ | with_reducible refine BrG.nn ?_ | with_reducible refine BrG.ns ?_ | refine BrG.pos (by omega) ?_ | refine BrG.neg (by omega) ?_ | with_reducible refine BrG.pos rfl ?_ | refine BrG.pos (by assumption) ?_ | refine BrG.neg (by assumption) ?_ | refine BrG.pos (by decide) ?_ | refine BrG.neg (by decide) ?_) | refine Chk.mk (ptr_ok tblOk rfl rfl) ?_ | refine NilG.mk (fun _ => by kernel_rfl) ?_ | refine Chk.mk (by decide) ?_)
    exact ⟨L5, hW, hS⟩
  · rw [if_neg h12]
    simp only [fieldsB]
    repeat (first | refine SemW.run tblOk ?_ | refine IntG.nw (by omega) ?_ | refine IntG.nu8 (by omega) ?_ | refine IntG.nu32 (by omega) ?_ | refine IntG.nu64 (by omega) ?_ | refine IntG.wr' rfl ?_ | refine Chk.mk (by omega) ?_ | (refine BrG.id ?_; first | with_reducible refine BrG.t ?_ | with_reducible refine BrG.f ?_ | with_reducible refine BrG.notG ?_ | with_reducible refine BrG.nn ?_ | with_reducible refine BrG.ns ?_ | refine BrG.pos (by omega) ?_ | refine BrG.neg (by omega) ?_ | with_reducible refine BrG.pos rfl ?_ | refine BrG.pos (by assumption) ?_ | refine BrG.neg (by assumption) ?_ | refine BrG.pos (by decide) ?_ | refine BrG.neg (by decide) ?_) | refine Chk.mk (ptr_ok tblOk rfl rfl) ?_ | refine NilG.mk (fun _ => by kernel_rfl) ?_ | refine Chk.mk (by decide) ?_)
    refine SemW.draw tblOk mixed (fun w' => St w T0 L w') [8] [0, 1, 2, 3, 5, 6, 7, 4, 8] (by kernel_rfl) hS.drew ?_
    have hS := hS.drew
    repeat (first | refine SemW.run tblOk ?_ | refine IntG.nw (by omega) ?_ | refine IntG.nu8 (by omega) ?_ | refine IntG.nu32 (by omega) ?_ | refine IntG.nu64 (by omega) ?_ | refine IntG.wr' rfl ?_ | refine Chk.mk (by omega) ?_ | (refine BrG.id ?_; first | with_reducible refine BrG.t ?_ | with_reducible refine BrG.f ?_ | with_reducible refine BrG.notG ?_ | with_reducible refine BrG.nn ?_ | with_reducible refine BrG.ns ?_ | refine BrG.pos (by omega) ?_ | refine BrG.neg (by omega) ?_ | with_reducible refine BrG.pos rfl ?_ | refine BrG.pos (by assumption) ?_ | refine BrG.neg (by assumption) ?_ | refine BrG.pos (by decide) ?_ | refine BrG.neg (by decide) ?_) | refine Chk.mk (ptr_ok tblOk rfl rfl) ?_ | refine NilG.mk (fun _ => by kernel_rfl) ?_ | refine Chk.mk (by decide) ?_ | refine hS.ldC rfl ?_ | refine hS.ldnC rfl ?_)
    refine hS.al ?_
    intro r w3 _ hS
    refine Chk.mk (hS.sub (List.sublist_cons_self _ _)) ?_
    repeat (first | refine SemW.run tblOk ?_ | refine IntG.nw (by omega) ?_ | refine IntG.nu8 (by omega) ?_ | refine IntG.nu32 (by omega) ?_ | refine IntG.nu64 (by omega) ?_ | refine IntG.wr' rfl ?_ | refine Chk.mk (by omega) ?_ | (refine BrG.id ?_; first | with_reducible refine BrG.t ?_ | with_reducible refine BrG.f ?_ | with_reducible refine BrG.notG ?_ | with_reducible refine BrG.nn ?_ | with_reducible refine BrG.ns ?_ | refine BrG.pos (by omega) ?_ | refine BrG.neg (by omega) ?_ | with_reducible refine BrG.pos rfl ?_ | refine BrG.pos (by assumption) ?_ | refine BrG.neg (by assumption) ?_ | refine BrG.pos (by decide) ?_ | refine BrG.neg (by decide) ?_) | refine Chk.mk (ptr_ok tblOk rfl rfl) ?_ | refine NilG.mk (fun _ => by kernel_rfl) ?_ | refine Chk.mk (by decide) ?_ | refine hS.ldC rfl ?_ | refine hS.ldnC rfl ?_)
    have hcell : ∀ j v, (cmdC c a cap)[j]? = some v → cb ∉ keys L ∧ w3.cell? ⟨cb, j, none⟩ = some v := fun j v h => hS.cellNew (L := L) hA.out (hA.cell j v h)
    refine InvG.mk ⟨f_wire_writer_int, wrV pb, by kernel_rfl, ?_⟩
    refine Cl.mono (wint_spec hW (hS.part (L := L)) (ps := [(cb, 2)]) (zs := [c.id]) (hS.arr (b := r) (nodup_chunk hS)) rfl (ptrsAt_cons (hcell 2 _ rfl) ptrsAt_nil) (all1 hok.id).2 (by simp only [List.length_append, List.length_cons, List.length_nil]; omega)) ?_
    rintro _ w4 ⟨L1, hW, hS'⟩
    have hS := (hS.call (L := L) hS').sub (List.sublist_cons_self _ _)
    repeat (first | refine SemW.run tblOk ?_ | refine IntG.nw (by omega) ?_ | refine IntG.nu8 (by omega) ?_ | refine IntG.nu32 (by omega) ?_ | refine IntG.nu64 (by omega) ?_ | refine IntG.wr' rfl ?_ | refine Chk.mk (by omega) ?_ | (refine BrG.id ?_; first | with_reducible refine BrG.t ?_ | with_reducible refine BrG.f ?_ | with_reducible refine BrG.notG ?_ | with_reducible refine BrG.nn ?_ | with_reducible refine BrG.ns ?_ | refine BrG.pos (by omega) ?_ | refine BrG.neg (by omega) ?_ | with_reducible refine BrG.pos rfl ?_ | refine BrG.pos (by assumption) ?_ | refine BrG.neg (by assumption) ?_ | refine BrG.pos (by decide) ?_ | refine BrG.neg (by decide) ?_) | refine Chk.mk (ptr_ok tblOk rfl rfl) ?_ | refine NilG.mk (fun _ => by kernel_rfl) ?_ | refine Chk.mk (by decide) ?_)
    exact ⟨L1, hW, hS⟩
end Go.Proofs.YthpmmfapolcaiaaDoor

/- Package wire: the reader. -/
namespace Go.Proofs.YthpmmfapolcaiaaDoor
open Go Go.Eng Go.Proofs
abbrev wrdC (rb : Nat) (bad : Bool) : Obj := .cells ⟨[ptr rb, .bool bad]⟩ T_wire_reader (0, 0)
/-- The reader's memory. -/
abbrev rdH (rr rb : Nat) (s : RB) : Heap := [(rr, wrdC rb s.bad), (rb, rdC s.t)]
theorem rbInt_len' (s : RB) : (rbInt s).2.t.length ≤ s.t.length := intO_len s.t
theorem wInts_succ : ∀ (k : Nat) (s : RB), wInts (k + 1) s = ((wInts k s).1 ++ [(rbInt (wInts k s).2).1], (rbInt (wInts k s).2).2)
  | 0, s => rfl
  | k + 1, s => by
    have := wInts_succ k (rbInt s).2
    show ((rbInt s).1 :: (wInts (k + 1) (rbInt s).2).1, (wInts (k + 1) (rbInt s).2).2) = _
    rw [this]; rfl
theorem wInts_tlen : ∀ (k : Nat) (s : RB), (wInts k s).2.t.length ≤ s.t.length
  | 0, _ => Nat.le_refl _
  | k + 1, s => Nat.le_trans (wInts_tlen k _) (rbInt_len' s)
theorem wNum_tlen (most : Nat) (s : RB) : (wNum most s).2.t.length ≤ s.t.length := by
  have := numO_len s.t
  unfold wNum; split <;> exact this
theorem wText_tlen (s : RB) : (wText s).2.t.length ≤ s.t.length := by
  have := textO_len s.t
  unfold wText; simp only; omega
theorem textO_err (t : Bytes) : (textO t).2.1 = 0 ∨ (textO t).2.1 = 1 := by
  unfold textO
  cases textR t with
  | none => exact .inr rfl
  | some x => exact .inl rfl
set_option maxHeartbeats 1000000 in
theorem rnum_spec {w : World} {rr rb most : Nat} {s : RB} (hh : Holds (rdH rr rb s) w) (ht : s.t.length ≤ 70368744177664) (hm : most < 18446744073709551616) :
    Cl Tryd.prog f_wire_reader_num [ptr rr, .int .u64 most] w fun v w' => v = .int .u64 (wNum most s).1 ∧ St w [rr, rb] (rdH rr rb (wNum most s).2) w' := by
  have hS : St w [rr, rb] [(rr, wrdC rb s.bad), (rb, rdC s.t)] w := St.enter hh
  refine en_wire_reader_num rfl ?_
  repeat (first | refine SemW.run tblOk ?_ | refine IntG.nw (by omega) ?_ | refine IntG.nu8 (by omega) ?_ | refine IntG.nu32 (by omega) ?_ | refine IntG.nu64 (by omega) ?_ | refine IntG.wr' rfl ?_ | refine Chk.mk (by omega) ?_ | (refine BrG.id ?_; first | with_reducible refine BrG.t ?_ | with_reducible refine BrG.f ?_ | with_reducible refine BrG.notG ?_ | with_reducible refine BrG.nn ?_ | with_reducible refine BrG.ns ?_ | refine BrG.pos (by omega) ?_ | refine BrG.neg (by omega) ?_ | with_reducible refine BrG.pos rfl ?_ | refine BrG.pos (by assumption) ?_ | refine BrG.neg (by assumption) ?_ | refine BrG.pos (by decide) ?_ | refine BrG.neg (by decide) ?_) | refine Chk.mk (ptr_ok tblOk rfl rfl) ?_ | refine NilG.mk (fun _ => by kernel_rfl) ?_ | refine Chk.mk (by decide) ?_ | refine hS.ld rfl ?_ | refine hS.ldn rfl ?_ | (refine hS.st rfl rfl ?_; intro _ hS))
  refine Cl.mono (RNum_spec (hS.part (L := [(rb, rdC s.t)])) ht) ?_
  rintro _ w1 ⟨rfl, hS'⟩
  have hS := hS.call (L := [(rb, rdC s.t)]) hS'
  have hS : St w [rr, rb] [(rr, .cells ⟨[ptr rb, .bool s.bad]⟩ T_wire_reader (0, 0)), (rb, .cells ⟨[Str (numO s.t).2.2]⟩ T_pack_Reader (0, 0))] w1 := hS
  obtain ⟨t, bad⟩ := s
  have he := numO_err t
  have hlt := numO_lt t
  unfold wNum
  simp only at hS he hlt ⊢
  generalize numO t = x at hS he hlt ⊢
  obtain ⟨n, er, r⟩ := x
  simp only at hS he hlt ⊢
  rcases he with rfl | rfl
  · by_cases hn : most < n
    · rw [if_pos (.inr hn)]
      repeat (first | refine SemW.run tblOk ?_ | refine IntG.nw (by omega) ?_ | refine IntG.nu8 (by omega) ?_ | refine IntG.nu32 (by omega) ?_ | refine IntG.nu64 (by omega) ?_ | refine IntG.wr' rfl ?_ | refine Chk.mk (by omega) ?_ | (refine BrG.id ?_; first | with_reducible refine BrG.t ?_ | with_reducible refine BrG.f ?_ | with_reducible refine BrG.notG ?_ | with_reducible refine BrG.nn ?_ | with_reducible refine BrG.ns ?_ | refine BrG.pos (by omega) ?_ | refine BrG.neg (by omega) ?_ | with_reducible refine BrG.pos rfl ?_ | refine BrG.pos (by assumption) ?_ | refine BrG.neg (by assumption) ?_ | refine BrG.pos (by decide) ?_ | refine BrG.neg (by decide) ?_) | refine Chk.mk (ptr_ok tblOk rfl rfl) ?_ | refine NilG.mk (fun _ => by kernel_rfl) ?_ | refine Chk.mk (by decide) ?_ | refine hS.ld rfl ?_ | refine hS.ldn rfl ?_ | (refine hS.st rfl rfl ?_; intro _ hS))
      exact ⟨rfl, hS⟩
    · rw [if_neg (by rintro (h | h); (· exact h rfl); exact hn h)]
      repeat (first | refine SemW.run tblOk ?_ | refine IntG.nw (by omega) ?_ | refine IntG.nu8 (by omega) ?_ | refine IntG.nu32 (by omega) ?_ | refine IntG.nu64 (by omega) ?_ | refine IntG.wr' rfl ?_ | refine Chk.mk (by omega) ?_ | (refine BrG.id ?_; first | with_reducible refine BrG.t ?_ | with_reducible refine BrG.f ?_ | with_reducible refine BrG.notG ?_ | with_reducible refine BrG.nn ?_ | with_reducible refine BrG.ns ?_ | refine BrG.pos (by omega) ?_ | refine BrG.neg (by omega) ?_ | with_reducible refine BrG.pos rfl ?_ | refine BrG.pos (by assumption) ?_ | refine BrG.neg (by assumption) ?_ | refine BrG.pos (by decide) ?_ | refine BrG.neg (by decide) ?_) | refine Chk.mk (ptr_ok tblOk rfl rfl) ?_ | refine NilG.mk (fun _ => by kernel_rfl) ?_ | refine Chk.mk (by decide) ?_ | refine hS.ld rfl ?_ | refine hS.ldn rfl ?_ | (refine hS.st rfl rfl ?_; intro _ hS))
      exact ⟨rfl, hS⟩
  · rw [if_pos (.inl (by decide))]
    repeat (first | refine SemW.run tblOk ?_ | refine IntG.nw (by omega) ?_ | refine IntG.nu8 (by omega) ?_ | refine IntG.nu32 (by omega) ?_ | refine IntG.nu64 (by omega) ?_ | refine IntG.wr' rfl ?_ | refine Chk.mk (by omega) ?_ | (refine BrG.id ?_; first | with_reducible refine BrG.t ?_ | with_reducible refine BrG.f ?_ | with_reducible refine BrG.notG ?_ | with_reducible refine BrG.nn ?_ | with_reducible refine BrG.ns ?_ | refine BrG.pos (by omega) ?_ | refine BrG.neg (by omega) ?_ | with_reducible refine BrG.pos rfl ?_ | refine BrG.pos (by assumption) ?_ | refine BrG.neg (by assumption) ?_ | refine BrG.pos (by decide) ?_ | refine BrG.neg (by decide) ?_) | refine Chk.mk (ptr_ok tblOk rfl rfl) ?_ | refine NilG.mk (fun _ => by kernel_rfl) ?_ | refine Chk.mk (by decide) ?_ | refine hS.ld rfl ?_ | refine hS.ldn rfl ?_ | (refine hS.st rfl rfl ?_; intro _ hS))
    exact ⟨rfl, hS⟩
/-- The block that is read into, and the reader's memory. -/
abbrev tgH (b : Nat) (xs : List Value) (ty : TypeId) (rr rb : Nat) (s : RB) : Heap := (b, .cells ⟨xs⟩ ty (0, 0)) :: rdH rr rb s
set_option maxHeartbeats 2000000 in
theorem rint_spec {w : World} {b rr rb : Nat} {xs : List Value} {ty : TypeId} {s : RB} (hh : Holds (tgH b xs ty rr rb s) w) (ht : s.t.length ≤ 70368744177664) {a : Option Addr} {cap : Nat} {offs : List Nat} (ha : Arr w [b, rr, rb] a (offs.map fun o => ptrTo b o)) (ho : ∀ o ∈ offs, o < xs.length) (hol : offs.length ≤ 1024) :
    Cl Tryd.prog f_wire_reader_int [ptr rr, .slice a offs.length cap] w fun _ w' => St w [b, rr, rb] (tgH b (setL xs offs ((wInts offs.length s).1.map intV)) ty rr rb (wInts offs.length s).2) w' := by
  have hS : St w [b, rr, rb] [(b, .cells ⟨xs⟩ ty (0, 0)), (rr, wrdC rb s.bad), (rb, rdC s.t)] w := St.enter hh
  refine en_wire_reader_int rfl ?_
  repeat (first | refine SemW.run tblOk ?_ | refine IntG.nw (by omega) ?_ | refine IntG.nu8 (by omega) ?_ | refine IntG.nu32 (by omega) ?_ | refine IntG.nu64 (by omega) ?_ | refine IntG.wr' rfl ?_ | refine Chk.mk (by omega) ?_ | (refine BrG.id ?_; first | with_reducible refine BrG.t ?_ | with_reducible refine BrG.f ?_ | with_reducible refine BrG.notG ?_ | with_reducible refine BrG.nn ?_ | with_reducible refine BrG.ns ?_ | refine BrG.pos (by omega) ?_ | refine BrG.neg (by omega) ?_ | with_reducible refine BrG.pos rfl ?_ | refine BrG.pos (by assumption) ?_ | refine BrG.neg (by assumption) ?_ | refine BrG.pos (by decide) ?_ | refine BrG.neg (by decide) ?_) | refine Chk.mk (ptr_ok tblOk rfl rfl) ?_ | refine NilG.mk (fun _ => by kernel_rfl) ?_ | refine Chk.mk (by decide) ?_)
  refine SemW.loop (fun k : Nat => [(0, ptr rr), (8, .slice a offs.length cap), (9, .int .i64 offs.length), (10, .int .i64 k)])
    (fun k w' => k ≤ offs.length ∧ St w [b, rr, rb] (tgH b (setL xs (offs.take k) ((wInts k s).1.map intV)) ty rr rb (wInts k s).2) w') (fun k => offs.length - k) 0
    ⟨rfl, rfl, rfl, rfl, trivial⟩ ⟨Nat.zero_le _, hS⟩ ?_
  clear hS
  rintro k w2 ⟨hk, hS⟩
  by_cases hkl : k < offs.length
  · obtain ⟨b', off', rfl, hbT, hck⟩ := ha.get (j := k) (by simp; omega)
    simp only [List.getElem_map] at hck
    have hsucc := wInts_succ k s
    have htl := wInts_tlen k s
    have hwl := wInts_len k s
    have hox := ho offs[k] (List.getElem_mem hkl)
    have hset := setL_snoc (offs.take k) ((wInts k s).1.map intV) xs offs[k] (intV (rbInt (wInts k s).2).1) (by rw [List.length_take, List.length_map, hwl]; omega)
    rw [← List.take_succ_eq_append_getElem hkl] at hset
    have hsl := setL_len (offs.take k) ((wInts k s).1.map intV) xs
    have hfin : tgH b (setL xs (offs.take (k + 1)) ((wInts (k + 1) s).1.map intV)) ty rr rb (wInts (k + 1) s).2 = tgH b ((setL xs (offs.take k) ((wInts k s).1.map intV)).set offs[k] (intV (rbInt (wInts k s).2).1)) ty rr rb (rbInt (wInts k s).2).2 := by
      rw [hsucc, ← hset]; simp
    generalize setL xs (offs.take k) ((wInts k s).1.map intV) = ys at hS hfin hsl
    generalize (wInts k s).2 = s1 at hS hfin htl
    clear hset hsucc
    generalize offs[k] = o at hck hox hfin
    repeat (first | refine SemW.run tblOk ?_ | refine IntG.nw (by omega) ?_ | refine IntG.nu8 (by omega) ?_ | refine IntG.nu32 (by omega) ?_ | refine IntG.nu64 (by omega) ?_ | refine IntG.wr' rfl ?_ | refine Chk.mk (by omega) ?_ | (refine BrG.id ?_; first | with_reducible refine BrG.t ?_ | with_reducible refine BrG.f ?_ | with_reducible refine BrG.notG ?_ | with_reducible refine BrG.nn ?_ | with_reducible refine BrG.ns ?_ | refine BrG.pos (by omega) ?_ | refine BrG.neg (by omega) ?_ | with_reducible refine BrG.pos rfl ?_ | refine BrG.pos (by assumption) ?_ | refine BrG.neg (by assumption) ?_ | refine BrG.pos (by decide) ?_ | refine BrG.neg (by decide) ?_) | refine Chk.mk (ptr_ok tblOk rfl rfl) ?_ | refine NilG.mk (fun _ => by kernel_rfl) ?_ | refine Chk.mk (by decide) ?_)
    refine hS.ldOld hbT (by simpa using hck) ?_
    repeat (first | refine SemW.run tblOk ?_ | refine IntG.nw (by omega) ?_ | refine IntG.nu8 (by omega) ?_ | refine IntG.nu32 (by omega) ?_ | refine IntG.nu64 (by omega) ?_ | refine IntG.wr' rfl ?_ | refine Chk.mk (by omega) ?_ | (refine BrG.id ?_; first | with_reducible refine BrG.t ?_ | with_reducible refine BrG.f ?_ | with_reducible refine BrG.notG ?_ | with_reducible refine BrG.nn ?_ | with_reducible refine BrG.ns ?_ | refine BrG.pos (by omega) ?_ | refine BrG.neg (by omega) ?_ | with_reducible refine BrG.pos rfl ?_ | refine BrG.pos (by assumption) ?_ | refine BrG.neg (by assumption) ?_ | refine BrG.pos (by decide) ?_ | refine BrG.neg (by decide) ?_) | refine Chk.mk (ptr_ok tblOk rfl rfl) ?_ | refine NilG.mk (fun _ => by kernel_rfl) ?_ | refine Chk.mk (by decide) ?_ | refine hS.ld rfl ?_ | refine hS.ldn rfl ?_ | (refine hS.st rfl rfl ?_; intro _ hS))
    refine Cl.mono (RInt_spec (hS.part (L := [(rb, rdC s1.t)])) (by omega)) ?_
    rintro _ w3 ⟨rfl, hS'⟩
    have hS := hS.call (L := [(rb, rdC s1.t)]) hS'
    have hS : St w [b, rr, rb] [(b, .cells ⟨ys⟩ ty (0, 0)), (rr, .cells ⟨[ptr rb, .bool s1.bad]⟩ T_wire_reader (0, 0)), (rb, .cells ⟨[Str (intO s1.t).2.2]⟩ T_pack_Reader (0, 0))] w3 := hS
    obtain ⟨t1, bd⟩ := s1
    have he := intO_err t1
    unfold rbInt at hfin
    simp only at hS he hfin ⊢
    generalize intO t1 = x at hS he hfin ⊢
    obtain ⟨z, er, r⟩ := x
    simp only at hS he hfin ⊢
    repeat (first | refine SemW.run tblOk ?_ | refine IntG.nw (by omega) ?_ | refine IntG.nu8 (by omega) ?_ | refine IntG.nu32 (by omega) ?_ | refine IntG.nu64 (by omega) ?_ | refine IntG.wr' rfl ?_ | refine Chk.mk (by omega) ?_ | (refine BrG.id ?_; first | with_reducible refine BrG.t ?_ | with_reducible refine BrG.f ?_ | with_reducible refine BrG.notG ?_ | with_reducible refine BrG.nn ?_ | with_reducible refine BrG.ns ?_ | refine BrG.pos (by omega) ?_ | refine BrG.neg (by omega) ?_ | with_reducible refine BrG.pos rfl ?_ | refine BrG.pos (by assumption) ?_ | refine BrG.neg (by assumption) ?_ | refine BrG.pos (by decide) ?_ | refine BrG.neg (by decide) ?_) | refine Chk.mk (ptr_ok tblOk rfl rfl) ?_ | refine NilG.mk (fun _ => by kernel_rfl) ?_ | refine Chk.mk (by decide) ?_ | refine hS.ld rfl ?_ | refine hS.ldn rfl ?_ | (refine hS.st rfl rfl ?_; intro _ hS))
    refine hS.stI rfl (by omega) ?_
    intro w4 hS
    have hS : St w [b, rr, rb] [(b, .cells ⟨ys.set o (intV z)⟩ ty (0, 0)), (rr, .cells ⟨[ptr rb, .bool bd]⟩ T_wire_reader (0, 0)), (rb, .cells ⟨[Str r]⟩ T_pack_Reader (0, 0))] w4 := hS
    cases bd with
    | true =>
      repeat (first | refine SemW.run tblOk ?_ | refine IntG.nw (by omega) ?_ | refine IntG.nu8 (by omega) ?_ | refine IntG.nu32 (by omega) ?_ | refine IntG.nu64 (by omega) ?_ | refine IntG.wr' rfl ?_ | refine Chk.mk (by omega) ?_ | (refine BrG.id ?_; first | with_reducible refine BrG.t ?_ | with_reducible refine BrG.f ?_ | with_reducible refine BrG.notG ?_ | with_reducible refine BrG.nn ?_ | with_reducible refine BrG.ns ?_ | refine BrG.pos (by omega) ?_ | refine BrG.neg (by omega) ?_ | with_reducible refine BrG.pos rfl ?_ | refine BrG.pos (by assumption) ?_ | refine BrG.neg (by assumption) ?_ | refine BrG.pos (by decide) ?_ | refine BrG.neg (by decide) ?_) | refine Chk.mk (ptr_ok tblOk rfl rfl) ?_ | refine NilG.mk (fun _ => by kernel_rfl) ?_ | refine Chk.mk (by decide) ?_ | refine hS.ld rfl ?_ | refine hS.ldn rfl ?_ | (refine hS.st rfl rfl ?_; intro _ hS))
      exact ⟨k + 1, ⟨rfl, rfl, rfl, rfl, trivial⟩, ⟨by omega, by rw [hfin]; exact hS⟩, by omega⟩
    | false =>
      rcases he with rfl | rfl
      · repeat (first | refine SemW.run tblOk ?_ | refine IntG.nw (by omega) ?_ | refine IntG.nu8 (by omega) ?_ | refine IntG.nu32 (by omega) ?_ | refine IntG.nu64 (by omega) ?_ | refine IntG.wr' rfl ?_ | refine Chk.mk (by omega) ?_ | (refine BrG.id ?_; first | with_reducible refine BrG.t ?_ | with_reducible refine BrG.f ?_ | with_reducible refine BrG.notG ?_ | with_reducible refine BrG.nn ?_ | with_reducible refine BrG.ns ?_ | refine BrG.pos (by omega) ?_ | refine BrG.neg (by omega) ?_ | with_reducible refine BrG.pos rfl ?_ | refine BrG.pos (by assumption) ?_ | refine BrG.neg (by assumption) ?_ | refine BrG.pos (by decide) ?_ | refine BrG.neg (by decide) ?_) | refine Chk.mk (ptr_ok tblOk rfl rfl) ?_ | refine NilG.mk (fun _ => by kernel_rfl) ?_ | refine Chk.mk (by decide) ?_ | refine hS.ld rfl ?_ | refine hS.ldn rfl ?_ | (refine hS.st rfl rfl ?_; intro _ hS))
        exact ⟨k + 1, ⟨rfl, rfl, rfl, rfl, trivial⟩, ⟨by omega, by rw [hfin]; exact hS⟩, by omega⟩
      · repeat (first | refine SemW.run tblOk ?_ | refine IntG.nw (by omega) ?_ | refine IntG.nu8 (by omega) ?_ | refine IntG.nu32 (by omega) ?_ | refine IntG.nu64 (by omega) ?_ | refine IntG.wr' rfl ?_ | refine Chk.mk (by omega) ?_ | (refine BrG.id ?_; first | with_reducible refine BrG.t ?_ | with_reducible refine BrG.f ?_ | with_reducible refine BrG.notG ?_ | with_reducible refine BrG.nn ?_ | with_reducible refine BrG.ns ?_ | refine BrG.pos (by omega) ?_ | refine BrG.neg (by omega) ?_ | with_reducible refine BrG.pos rfl ?_ | refine BrG.pos (by assumption) ?_ | refine BrG.neg (by assumption) ?_ | refine BrG.pos (by decide) ?_ | refine BrG.neg (by decide) ?_) | refine Chk.mk (ptr_ok tblOk rfl rfl) ?_ | refine NilG.mk (fun _ => by kernel_rfl) ?_ | refine Chk.mk (by decide) ?_ | refine hS.ld rfl ?_ | refine hS.ldn rfl ?_ | (refine hS.st rfl rfl ?_; intro _ hS))
        exact ⟨k + 1, ⟨rfl, rfl, rfl, rfl, trivial⟩, ⟨by omega, by rw [hfin]; exact hS⟩, by omega⟩
  · have hke : k = offs.length := by omega
    subst hke
    rw [List.take_length] at hS
    repeat (first | refine SemW.run tblOk ?_ | refine IntG.nw (by omega) ?_ | refine IntG.nu8 (by omega) ?_ | refine IntG.nu32 (by omega) ?_ | refine IntG.nu64 (by omega) ?_ | refine IntG.wr' rfl ?_ | refine Chk.mk (by omega) ?_ | (refine BrG.id ?_; first | with_reducible refine BrG.t ?_ | with_reducible refine BrG.f ?_ | with_reducible refine BrG.notG ?_ | with_reducible refine BrG.nn ?_ | with_reducible refine BrG.ns ?_ | refine BrG.pos (by omega) ?_ | refine BrG.neg (by omega) ?_ | with_reducible refine BrG.pos rfl ?_ | refine BrG.pos (by assumption) ?_ | refine BrG.neg (by assumption) ?_ | refine BrG.pos (by decide) ?_ | refine BrG.neg (by decide) ?_) | refine Chk.mk (ptr_ok tblOk rfl rfl) ?_ | refine NilG.mk (fun _ => by kernel_rfl) ?_ | refine Chk.mk (by decide) ?_)
    exact hS
theorem bitsN_get : ∀ (k n i : Nat) (h : i < (bitsN k n).length), (bitsN k n)[i] = decide (n / 2 ^ i % 2 = 1)
  | 0, _, _, h => by simp [bitsN] at h
  | k + 1, n, 0, _ => by simp [bitsN]
  | k + 1, n, i + 1, h => by
    have := bitsN_get k (n / 2) i (by simpa [bitsN] using h)
    simp only [bitsN, List.getElem_cons_succ]
    rw [this, Nat.div_div_eq_div_mul, Nat.pow_succ, Nat.mul_comm]
theorem shr_u (n i : Nat) (hi : i < 64) : (n : Int).fdiv (2 ^ (min ((i : Int)).toNat IntKind.u64.bits)) = ((n / 2 ^ i : Nat) : Int) := by
  have e : min ((i : Int)).toNat IntKind.u64.bits = i := by show min i 64 = i; omega
  rw [e]
  have h2 : ((2 : Int) ^ i) = ((2 ^ i : Nat) : Int) := by simp
  rw [h2, Int.fdiv_eq_ediv_of_nonneg _ (Int.natCast_nonneg _)]
  exact (Int.natCast_ediv n (2 ^ i)).symm
theorem and_one (n : Nat) (h : n < 18446744073709551616) : andI .u64 (n : Int) 1 = ((n % 2 : Nat) : Int) := by
  have e := andU .u64 rfl n 1 (show n < 18446744073709551616 by omega) (show 1 < 18446744073709551616 by omega)
  rw [Nat.and_one_is_mod] at e
  exact e
set_option maxHeartbeats 2000000 in
theorem rmarks_spec {w : World} {b rr rb : Nat} {xs : List Value} {ty : TypeId} {s : RB} (hh : Holds (tgH b xs ty rr rb s) w) (ht : s.t.length ≤ 70368744177664) {a : Option Addr} {cap : Nat} {offs : List Nat} (ha : Arr w [b, rr, rb] a (offs.map fun o => ptrTo b o)) (ho : ∀ o ∈ offs, o < xs.length) (hol : offs.length ≤ 8) :
    Cl Tryd.prog f_wire_reader_marks [ptr rr, .slice a offs.length cap] w fun _ w' => St w [b, rr, rb] (tgH b (setL xs offs ((wMarks offs.length s).1.map Value.bool)) ty rr rb (wMarks offs.length s).2) w' := by
  have hS : St w [b, rr, rb] [(b, .cells ⟨xs⟩ ty (0, 0)), (rr, wrdC rb s.bad), (rb, rdC s.t)] w := St.enter hh
  have hp8 : 2 ^ offs.length ≤ 2 ^ 8 := Nat.pow_le_pow_right (by omega) hol
  have hp0 : 0 < 2 ^ offs.length := Nat.two_pow_pos _
  have e1 : IntKind.u64.wrap (1 * 2 ^ (min ((offs.length : Int)).toNat IntKind.u64.bits)) = ((2 ^ offs.length : Nat) : Int) := by
    rw [show min ((offs.length : Int)).toNat IntKind.u64.bits = offs.length by show min _ 64 = _; omega]
    have e2 : (1 : Int) * 2 ^ offs.length = ((2 ^ offs.length : Nat) : Int) := by simp
    have e3 : 2 ^ offs.length % 2 ^ IntKind.u64.bits = 2 ^ offs.length := Nat.mod_eq_of_lt (show 2 ^ offs.length < 18446744073709551616 by omega)
    rw [e2, wrapU .u64 rfl, e3]
  refine en_wire_reader_marks rfl ?_
  repeat (first | refine SemW.run tblOk ?_ | refine IntG.nw (by omega) ?_ | refine IntG.nu8 (by omega) ?_ | refine IntG.nu32 (by omega) ?_ | refine IntG.nu64 (by omega) ?_ | refine IntG.wr' rfl ?_ | refine Chk.mk (by omega) ?_ | (refine BrG.id ?_; first | with_reducible refine BrG.t ?_ | with_reducible refine BrG.f ?_ | with_reducible refine BrG.notG ?_ | with_reducible refine BrG.nn ?_ | with_reducible refine BrG.ns ?_ | refine BrG.pos (by omega) ?_ | refine BrG.neg (by omega) ?_ | with_reducible refine BrG.pos rfl ?_ | refine BrG.pos (by assumption) ?_ | refine BrG.neg (by assumption) ?_ | refine BrG.pos (by decide) ?_ | refine BrG.neg (by decide) ?_) | refine Chk.mk (ptr_ok tblOk rfl rfl) ?_ | refine NilG.mk (fun _ => by kernel_rfl) ?_ | refine Chk.mk (by decide) ?_)
  rw [e1]
  repeat (first | refine SemW.run tblOk ?_ | refine IntG.nw (by omega) ?_ | refine IntG.nu8 (by omega) ?_ | refine IntG.nu32 (by omega) ?_ | refine IntG.nu64 (by omega) ?_ | refine IntG.wr' rfl ?_ | refine Chk.mk (by omega) ?_ | (refine BrG.id ?_; first | with_reducible refine BrG.t ?_ | with_reducible refine BrG.f ?_ | with_reducible refine BrG.notG ?_ | with_reducible refine BrG.nn ?_ | with_reducible refine BrG.ns ?_ | refine BrG.pos (by omega) ?_ | refine BrG.neg (by omega) ?_ | with_reducible refine BrG.pos rfl ?_ | refine BrG.pos (by assumption) ?_ | refine BrG.neg (by assumption) ?_ | refine BrG.pos (by decide) ?_ | refine BrG.neg (by decide) ?_) | refine Chk.mk (ptr_ok tblOk rfl rfl) ?_ | refine NilG.mk (fun _ => by kernel_rfl) ?_ | refine Chk.mk (by decide) ?_)
  rw [show ((2 ^ offs.length : Nat) : Int) - 1 = ((2 ^ offs.length - 1 : Nat) : Int) by omega]
  refine Cl.mono (rnum_spec (s := s) (most := 2 ^ offs.length - 1) (hS.part (L := rdH rr rb s)) ht (by omega)) ?_
  rintro _ w1 ⟨rfl, hS'⟩
  have hS := hS.call (L := rdH rr rb s) hS'
  have hS : St w [b, rr, rb] (tgH b xs ty rr rb (wNum (2 ^ offs.length - 1) s).2) w1 := hS
  have hwn : (wNum (2 ^ offs.length - 1) s).1 ≤ 2 ^ offs.length - 1 := by
    unfold wNum
    split
    · exact Nat.zero_le _
    · next h => exact Nat.le_of_not_lt (not_or.1 h).2
  unfold wMarks
  generalize wNum (2 ^ offs.length - 1) s = y at hS hwn ⊢
  obtain ⟨n, s1⟩ := y
  simp only at hS hwn ⊢
  have hbl := bitsN_len offs.length n
  repeat (first | refine SemW.run tblOk ?_ | refine IntG.nw (by omega) ?_ | refine IntG.nu8 (by omega) ?_ | refine IntG.nu32 (by omega) ?_ | refine IntG.nu64 (by omega) ?_ | refine IntG.wr' rfl ?_ | refine Chk.mk (by omega) ?_ | (refine BrG.id ?_; first | with_reducible refine BrG.t ?_ | with_reducible refine BrG.f ?_ | with_reducible refine BrG.notG ?_ | with_reducible refine BrG.nn ?_ | with_reducible refine BrG.ns ?_ | refine BrG.pos (by omega) ?_ | refine BrG.neg (by omega) ?_ | with_reducible refine BrG.pos rfl ?_ | refine BrG.pos (by assumption) ?_ | refine BrG.neg (by assumption) ?_ | refine BrG.pos (by decide) ?_ | refine BrG.neg (by decide) ?_) | refine Chk.mk (ptr_ok tblOk rfl rfl) ?_ | refine NilG.mk (fun _ => by kernel_rfl) ?_ | refine Chk.mk (by decide) ?_)
  refine SemW.loop (fun k : Nat => [(4, .int .u64 n), (14, .slice a offs.length cap), (15, .int .i64 offs.length), (16, .int .i64 k)])
    (fun k w' => k ≤ offs.length ∧ St w [b, rr, rb] (tgH b (setL xs (offs.take k) (((bitsN offs.length n).take k).map Value.bool)) ty rr rb s1) w') (fun k => offs.length - k) 0
    ⟨rfl, rfl, rfl, rfl, trivial⟩ ⟨Nat.zero_le _, hS⟩ ?_
  clear hS
  rintro k w2 ⟨hk, hS⟩
  by_cases hkl : k < offs.length
  · obtain ⟨b', off', rfl, hbT, hck⟩ := ha.get (j := k) (by simp; omega)
    simp only [List.getElem_map] at hck
    have hox := ho offs[k] (List.getElem_mem hkl)
    have hkb : k < (bitsN offs.length n).length := by omega
    have hbg := bitsN_get offs.length n k hkb
    have hset := setL_snoc (offs.take k) (((bitsN offs.length n).take k).map Value.bool) xs offs[k] (Value.bool (bitsN offs.length n)[k]) (by rw [List.length_take, List.length_map, List.length_take]; omega)
    rw [← List.take_succ_eq_append_getElem hkl] at hset
    have hmt : ((bitsN offs.length n).take k).map Value.bool ++ [Value.bool (bitsN offs.length n)[k]] = ((bitsN offs.length n).take (k + 1)).map Value.bool := by
      rw [List.take_succ_eq_append_getElem hkb, List.map_append]; rfl
    rw [hmt, hbg] at hset
    have hsl := setL_len (offs.take k) (((bitsN offs.length n).take k).map Value.bool) xs
    generalize setL xs (offs.take k) (((bitsN offs.length n).take k).map Value.bool) = ys at hS hset hsl
    have hmod : n / 2 ^ k % 2 = 0 ∨ n / 2 ^ k % 2 = 1 := by omega
    have hsh := shr_u n k (by omega)
    have hdl : n / 2 ^ k ≤ n := Nat.div_le_self _ _
    have had := and_one (n / 2 ^ k) (by omega)
    generalize offs[k] = o at hck hox hset
    generalize n / 2 ^ k = q at hset hmod hsh hdl had
    repeat (first | refine SemW.run tblOk ?_ | refine IntG.nw (by omega) ?_ | refine IntG.nu8 (by omega) ?_ | refine IntG.nu32 (by omega) ?_ | refine IntG.nu64 (by omega) ?_ | refine IntG.wr' rfl ?_ | refine Chk.mk (by omega) ?_ | (refine BrG.id ?_; first | with_reducible refine BrG.t ?_ | with_reducible refine BrG.f ?_ | with_reducible refine BrG.notG ?_ | with_reducible refine BrG.nn ?_ | with_reducible refine BrG.ns ?_ | refine BrG.pos (by omega) ?_ | refine BrG.neg (by omega) ?_ | with_reducible refine BrG.pos rfl ?_ | refine BrG.pos (by assumption) ?_ | refine BrG.neg (by assumption) ?_ | refine BrG.pos (by decide) ?_ | refine BrG.neg (by decide) ?_) | refine Chk.mk (ptr_ok tblOk rfl rfl) ?_ | refine NilG.mk (fun _ => by kernel_rfl) ?_ | refine Chk.mk (by decide) ?_)
    refine hS.ldOld hbT (by simpa using hck) ?_
    repeat (first | refine SemW.run tblOk ?_ | refine IntG.nw (by omega) ?_ | refine IntG.nu8 (by omega) ?_ | refine IntG.nu32 (by omega) ?_ | refine IntG.nu64 (by omega) ?_ | refine IntG.wr' rfl ?_ | refine Chk.mk (by omega) ?_ | (refine BrG.id ?_; first | with_reducible refine BrG.t ?_ | with_reducible refine BrG.f ?_ | with_reducible refine BrG.notG ?_ | with_reducible refine BrG.nn ?_ | with_reducible refine BrG.ns ?_ | refine BrG.pos (by omega) ?_ | refine BrG.neg (by omega) ?_ | with_reducible refine BrG.pos rfl ?_ | refine BrG.pos (by assumption) ?_ | refine BrG.neg (by assumption) ?_ | refine BrG.pos (by decide) ?_ | refine BrG.neg (by decide) ?_) | refine Chk.mk (ptr_ok tblOk rfl rfl) ?_ | refine NilG.mk (fun _ => by kernel_rfl) ?_ | refine Chk.mk (by decide) ?_)
    rw [hsh]
    have hbe : decide (((q % 2 : Nat) : Int) = 1) = decide (q % 2 = 1) := by
      rw [decide_eq_decide]; omega
    refine hS.stI rfl (by omega) ?_
    intro w4 hS
    rw [had, hbe] at hS
    have hS : St w [b, rr, rb] (tgH b (ys.set o (Value.bool (decide (q % 2 = 1)))) ty rr rb s1) w4 := hS
    repeat (first | refine SemW.run tblOk ?_ | refine IntG.nw (by omega) ?_ | refine IntG.nu8 (by omega) ?_ | refine IntG.nu32 (by omega) ?_ | refine IntG.nu64 (by omega) ?_ | refine IntG.wr' rfl ?_ | refine Chk.mk (by omega) ?_ | (refine BrG.id ?_; first | with_reducible refine BrG.t ?_ | with_reducible refine BrG.f ?_ | with_reducible refine BrG.notG ?_ | with_reducible refine BrG.nn ?_ | with_reducible refine BrG.ns ?_ | refine BrG.pos (by omega) ?_ | refine BrG.neg (by omega) ?_ | with_reducible refine BrG.pos rfl ?_ | refine BrG.pos (by assumption) ?_ | refine BrG.neg (by assumption) ?_ | refine BrG.pos (by decide) ?_ | refine BrG.neg (by decide) ?_) | refine Chk.mk (ptr_ok tblOk rfl rfl) ?_ | refine NilG.mk (fun _ => by kernel_rfl) ?_ | refine Chk.mk (by decide) ?_)
    exact ⟨k + 1, ⟨rfl, rfl, rfl, rfl, trivial⟩, ⟨by omega, by rw [hset]; exact hS⟩, by omega⟩
  · have hke : k = offs.length := by omega
    have e2 : (bitsN offs.length n).take offs.length = bitsN offs.length n := List.take_of_length_le (by omega)
    subst hke
    rw [List.take_length, e2] at hS
    repeat (first | refine SemW.run tblOk ?_ | refine IntG.nw (by omega) ?_ | refine IntG.nu8 (by omega) ?_ | refine IntG.nu32 (by omega) ?_ | refine IntG.nu64 (by omega) ?_ | refine IntG.wr' rfl ?_ | refine Chk.mk (by omega) ?_ | (refine BrG.id ?_; first | with_reducible refine BrG.t ?_ | with_reducible refine BrG.f ?_ | with_reducible refine BrG.notG ?_ | with_reducible refine BrG.nn ?_ | with_reducible refine BrG.ns ?_ | refine BrG.pos (by omega) ?_ | refine BrG.neg (by omega) ?_ | with_reducible refine BrG.pos rfl ?_ | refine BrG.pos (by assumption) ?_ | refine BrG.neg (by assumption) ?_ | refine BrG.pos (by decide) ?_ | refine BrG.neg (by decide) ?_) | refine Chk.mk (ptr_ok tblOk rfl rfl) ?_ | refine NilG.mk (fun _ => by kernel_rfl) ?_ | refine Chk.mk (by decide) ?_)
    exact hS
set_option maxHeartbeats 1000000 in
theorem rtext_spec {w : World} {b rr rb o : Nat} {xs : List Value} {ty : TypeId} {s : RB} (hh : Holds (tgH b xs ty rr rb s) w) (ht : s.t.length ≤ 70368744177664) (ho : o < xs.length) :
    Cl Tryd.prog f_wire_reader_text [ptr rr, ptrTo b o] w fun _ w' => St w [b, rr, rb] (tgH b (xs.set o (Str (wText s).1)) ty rr rb (wText s).2) w' := by
  have hS : St w [b, rr, rb] [(b, .cells ⟨xs⟩ ty (0, 0)), (rr, wrdC rb s.bad), (rb, rdC s.t)] w := St.enter hh
  refine en_wire_reader_text rfl ?_
  repeat (first | refine SemW.run tblOk ?_ | refine IntG.nw (by omega) ?_ | refine IntG.nu8 (by omega) ?_ | refine IntG.nu32 (by omega) ?_ | refine IntG.nu64 (by omega) ?_ | refine IntG.wr' rfl ?_ | refine Chk.mk (by omega) ?_ | (refine BrG.id ?_; first | with_reducible refine BrG.t ?_ | with_reducible refine BrG.f ?_ | with_reducible refine BrG.notG ?_ | with_reducible refine BrG.nn ?_ | with_reducible refine BrG.ns ?_ | refine BrG.pos (by omega) ?_ | refine BrG.neg (by omega) ?_ | with_reducible refine BrG.pos rfl ?_ | refine BrG.pos (by assumption) ?_ | refine BrG.neg (by assumption) ?_ | refine BrG.pos (by decide) ?_ | refine BrG.neg (by decide) ?_) | refine Chk.mk (ptr_ok tblOk rfl rfl) ?_ | refine NilG.mk (fun _ => by kernel_rfl) ?_ | refine Chk.mk (by decide) ?_ | refine hS.ld rfl ?_ | refine hS.ldn rfl ?_ | (refine hS.st rfl rfl ?_; intro _ hS))
  refine Cl.mono (RText_spec (hS.part (L := [(rb, rdC s.t)])) ht) ?_
  rintro _ w1 ⟨rfl, hS'⟩
  have hS := hS.call (L := [(rb, rdC s.t)]) hS'
  have hS : St w [b, rr, rb] [(b, .cells ⟨xs⟩ ty (0, 0)), (rr, .cells ⟨[ptr rb, .bool s.bad]⟩ T_wire_reader (0, 0)), (rb, .cells ⟨[Str (textO s.t).2.2]⟩ T_pack_Reader (0, 0))] w1 := hS
  obtain ⟨t, bad⟩ := s
  have he := textO_err t
  unfold wText
  simp only at hS he ⊢
  generalize textO t = x at hS he ⊢
  obtain ⟨z, er, r⟩ := x
  simp only at hS he ⊢
  repeat (first | refine SemW.run tblOk ?_ | refine IntG.nw (by omega) ?_ | refine IntG.nu8 (by omega) ?_ | refine IntG.nu32 (by omega) ?_ | refine IntG.nu64 (by omega) ?_ | refine IntG.wr' rfl ?_ | refine Chk.mk (by omega) ?_ | (refine BrG.id ?_; first | with_reducible refine BrG.t ?_ | with_reducible refine BrG.f ?_ | with_reducible refine BrG.notG ?_ | with_reducible refine BrG.nn ?_ | with_reducible refine BrG.ns ?_ | refine BrG.pos (by omega) ?_ | refine BrG.neg (by omega) ?_ | with_reducible refine BrG.pos rfl ?_ | refine BrG.pos (by assumption) ?_ | refine BrG.neg (by assumption) ?_ | refine BrG.pos (by decide) ?_ | refine BrG.neg (by decide) ?_) | refine Chk.mk (ptr_ok tblOk rfl rfl) ?_ | refine NilG.mk (fun _ => by kernel_rfl) ?_ | refine Chk.mk (by decide) ?_ | refine hS.ld rfl ?_ | refine hS.ldn rfl ?_ | (refine hS.st rfl rfl ?_; intro _ hS))
  refine hS.stI rfl ho ?_
  intro w2 hS
  have hS : St w [b, rr, rb] [(b, .cells ⟨xs.set o (Str z)⟩ ty (0, 0)), (rr, .cells ⟨[ptr rb, .bool bad]⟩ T_wire_reader (0, 0)), (rb, .cells ⟨[Str r]⟩ T_pack_Reader (0, 0))] w2 := hS
  cases bad with
  | true =>
    repeat (first | refine SemW.run tblOk ?_ | refine IntG.nw (by omega) ?_ | refine IntG.nu8 (by omega) ?_ | refine IntG.nu32 (by omega) ?_ | refine IntG.nu64 (by omega) ?_ | refine IntG.wr' rfl ?_ | refine Chk.mk (by omega) ?_ | (refine BrG.id ?_; first | with_reducible refine BrG.t ?_ | with_reducible refine BrG.f ?_ | with_reducible refine BrG.notG ?_ | with_reducible refine BrG.nn ?_ | with_reducible refine BrG.ns ?_ | refine BrG.pos (by omega) ?_ | refine BrG.neg (by omega) ?_ | with_reducible refine BrG.pos rfl ?_ | refine BrG.pos (by assumption) ?_ | refine BrG.neg (by assumption) ?_ | refine BrG.pos (by decide) ?_ | refine BrG.neg (by decide) ?_) | refine Chk.mk (ptr_ok tblOk rfl rfl) ?_ | refine NilG.mk (fun _ => by kernel_rfl) ?_ | refine Chk.mk (by decide) ?_ | refine hS.ld rfl ?_ | refine hS.ldn rfl ?_ | (refine hS.st rfl rfl ?_; intro _ hS))
    exact hS
  | false =>
    rcases he with rfl | rfl
    · repeat (first | refine SemW.run tblOk ?_ | refine IntG.nw (by omega) ?_ | refine IntG.nu8 (by omega) ?_ | refine IntG.nu32 (by omega) ?_ | refine IntG.nu64 (by omega) ?_ | refine IntG.wr' rfl ?_ | refine Chk.mk (by omega) ?_ | (refine BrG.id ?_; first | with_reducible refine BrG.t ?_ | with_reducible refine BrG.f ?_ | with_reducible refine BrG.notG ?_ | with_reducible refine BrG.nn ?_ | with_reducible refine BrG.ns ?_ | refine BrG.pos (by omega) ?_ | refine BrG.neg (by omega) ?_ | with_reducible refine BrG.pos rfl ?_ | refine BrG.pos (by assumption) ?_ | refine BrG.neg (by assumption) ?_ | refine BrG.pos (by decide) ?_ | refine BrG.neg (by decide) ?_) | refine Chk.mk (ptr_ok tblOk rfl rfl) ?_ | refine NilG.mk (fun _ => by kernel_rfl) ?_ | refine Chk.mk (by decide) ?_ | refine hS.ld rfl ?_ | refine hS.ldn rfl ?_ | (refine hS.st rfl rfl ?_; intro _ hS))
      exact hS
    · repeat (first | refine SemW.run tblOk ?_ | refine IntG.nw (by omega) ?_ | refine IntG.nu8 (by omega) ?_ | refine IntG.nu32 (by omega) ?_ | refine IntG.nu64 (by omega) ?_ | refine IntG.wr' rfl ?_ | refine Chk.mk (by omega) ?_ | (refine BrG.id ?_; first | with_reducible refine BrG.t ?_ | with_reducible refine BrG.f ?_ | with_reducible refine BrG.notG ?_ | with_reducible refine BrG.nn ?_ | with_reducible refine BrG.ns ?_ | refine BrG.pos (by omega) ?_ | refine BrG.neg (by omega) ?_ | with_reducible refine BrG.pos rfl ?_ | refine BrG.pos (by assumption) ?_ | refine BrG.neg (by assumption) ?_ | refine BrG.pos (by decide) ?_ | refine BrG.neg (by decide) ?_) | refine Chk.mk (ptr_ok tblOk rfl rfl) ?_ | refine NilG.mk (fun _ => by kernel_rfl) ?_ | refine Chk.mk (by decide) ?_ | refine hS.ld rfl ?_ | refine hS.ldn rfl ?_ | (refine hS.st rfl rfl ?_; intro _ hS))
      exact hS
set_option maxHeartbeats 1000000 in
theorem rletter_spec {w : World} {b rr rb o : Nat} {xs : List Value} {ty : TypeId} {s : RB} (hh : Holds (tgH b xs ty rr rb s) w) (ht : s.t.length ≤ 70368744177664) (ho : o < xs.length) :
    Cl Tryd.prog f_wire_reader_letter [ptr rr, ptrTo b o] w fun _ w' => St w [b, rr, rb] (tgH b (xs.set o (.int .u8 (wNum 255 s).1)) ty rr rb (wNum 255 s).2) w' := by
  have hS : St w [b, rr, rb] [(b, .cells ⟨xs⟩ ty (0, 0)), (rr, wrdC rb s.bad), (rb, rdC s.t)] w := St.enter hh
  refine en_wire_reader_letter rfl ?_
  repeat (first | refine SemW.run tblOk ?_ | refine IntG.nw (by omega) ?_ | refine IntG.nu8 (by omega) ?_ | refine IntG.nu32 (by omega) ?_ | refine IntG.nu64 (by omega) ?_ | refine IntG.wr' rfl ?_ | refine Chk.mk (by omega) ?_ | (refine BrG.id ?_; first | with_reducible refine BrG.t ?_ | with_reducible refine BrG.f ?_ | with_reducible refine BrG.notG ?_ | with_reducible refine BrG.nn ?_ | with_reducible refine BrG.ns ?_ | refine BrG.pos (by omega) ?_ | refine BrG.neg (by omega) ?_ | with_reducible refine BrG.pos rfl ?_ | refine BrG.pos (by assumption) ?_ | refine BrG.neg (by assumption) ?_ | refine BrG.pos (by decide) ?_ | refine BrG.neg (by decide) ?_) | refine Chk.mk (ptr_ok tblOk rfl rfl) ?_ | refine NilG.mk (fun _ => by kernel_rfl) ?_ | refine Chk.mk (by decide) ?_)
  refine Cl.mono (rnum_spec (s := s) (most := 255) (hS.part (L := rdH rr rb s)) ht (by omega)) ?_
  rintro _ w1 ⟨rfl, hS'⟩
  have hS := hS.call (L := rdH rr rb s) hS'
  have hS : St w [b, rr, rb] (tgH b xs ty rr rb (wNum 255 s).2) w1 := hS
  have hwn : (wNum 255 s).1 ≤ 255 := by
    unfold wNum
    split
    · exact Nat.zero_le _
    · next h => exact Nat.le_of_not_lt (not_or.1 h).2
  generalize wNum 255 s = y at hS hwn ⊢
  obtain ⟨n, s1⟩ := y
  simp only at hS hwn ⊢
  repeat (first | refine SemW.run tblOk ?_ | refine IntG.nw (by omega) ?_ | refine IntG.nu8 (by omega) ?_ | refine IntG.nu32 (by omega) ?_ | refine IntG.nu64 (by omega) ?_ | refine IntG.wr' rfl ?_ | refine Chk.mk (by omega) ?_ | (refine BrG.id ?_; first | with_reducible refine BrG.t ?_ | with_reducible refine BrG.f ?_ | with_reducible refine BrG.notG ?_ | with_reducible refine BrG.nn ?_ | with_reducible refine BrG.ns ?_ | refine BrG.pos (by omega) ?_ | refine BrG.neg (by omega) ?_ | with_reducible refine BrG.pos rfl ?_ | refine BrG.pos (by assumption) ?_ | refine BrG.neg (by assumption) ?_ | refine BrG.pos (by decide) ?_ | refine BrG.neg (by decide) ?_) | refine Chk.mk (ptr_ok tblOk rfl rfl) ?_ | refine NilG.mk (fun _ => by kernel_rfl) ?_ | refine Chk.mk (by decide) ?_)
  refine hS.stI rfl ho ?_
  intro w2 hS
  repeat (first | refine SemW.run tblOk ?_ | refine IntG.nw (by omega) ?_ | refine IntG.nu8 (by omega) ?_ | refine IntG.nu32 (by omega) ?_ | refine IntG.nu64 (by omega) ?_ | refine IntG.wr' rfl ?_ | refine Chk.mk (by omega) ?_ | (refine BrG.id ?_; first | with_reducible refine BrG.t ?_ | with_reducible refine BrG.f ?_ | with_reducible refine BrG.notG ?_ | with_reducible refine BrG.nn ?_ | with_reducible refine BrG.ns ?_ | refine BrG.pos (by omega) ?_ | refine BrG.neg (by omega) ?_ | with_reducible refine BrG.pos rfl ?_ | refine BrG.pos (by assumption) ?_ | refine BrG.neg (by assumption) ?_ | refine BrG.pos (by decide) ?_ | refine BrG.neg (by decide) ?_) | refine Chk.mk (ptr_ok tblOk rfl rfl) ?_ | refine NilG.mk (fun _ => by kernel_rfl) ?_ | refine Chk.mk (by decide) ?_)
  exact hS
theorem RLeft_spec {w : World} {b : Nat} {t : Bytes} (hh : Holds [(b, rdC t)] w) (ht : t.length ≤ 70368744177664) : Cl Tryd.prog f_pack_Reader_Left [ptr b] w fun v w' => v = .int .i64 t.length ∧ St w [] [] w' := by
  have hS : St w [b] [(b, .cells ⟨[Str t]⟩ T_pack_Reader (0, 0))] w := St.enter hh
  have hS0 := St.start w
  refine en_pack_Reader_Left rfl ?_
  repeat (first | refine SemW.run tblOk ?_ | refine IntG.nw (by omega) ?_ | refine IntG.nu8 (by omega) ?_ | refine IntG.nu32 (by omega) ?_ | refine IntG.nu64 (by omega) ?_ | refine IntG.wr' rfl ?_ | refine Chk.mk (by omega) ?_ | (refine BrG.id ?_; first | with_reducible refine BrG.t ?_ | with_reducible refine BrG.f ?_ | with_reducible refine BrG.notG ?_ | with_reducible refine BrG.nn ?_ | with_reducible refine BrG.ns ?_ | refine BrG.pos (by omega) ?_ | refine BrG.neg (by omega) ?_ | with_reducible refine BrG.pos rfl ?_ | refine BrG.pos (by assumption) ?_ | refine BrG.neg (by assumption) ?_ | refine BrG.pos (by decide) ?_ | refine BrG.neg (by decide) ?_) | refine Chk.mk (ptr_ok tblOk rfl rfl) ?_ | refine NilG.mk (fun _ => by kernel_rfl) ?_ | refine Chk.mk (by decide) ?_ | refine hS.ld rfl ?_ | refine hS.ldn rfl ?_ | (refine hS.st rfl rfl ?_; intro _ hS))
  exact ⟨rfl, hS0⟩
theorem Holds.part' {L H : Heap} {F : Heap → Heap} {w : World} (hh : Holds H w) [hc : Chunk H L F] : Holds L w := (St.enter hh).part (L := L)
set_option maxHeartbeats 1000000 in
theorem rcount_spec {w : World} {rr rb : Nat} {s : RB} (hh : Holds (rdH rr rb s) w) (ht : s.t.length ≤ 70368744177664) (z : Int) :
    Cl Tryd.prog f_wire_reader_count [ptr rr, .int .i64 z] w fun v w' => v = .int .i64 (wNum s.t.length s).1 ∧ St w [rr, rb] (rdH rr rb (wNum s.t.length s).2) w' := by
  have hS : St w [rr, rb] [(rr, wrdC rb s.bad), (rb, rdC s.t)] w := St.enter hh
  refine en_wire_reader_count rfl ?_
  repeat (first | refine SemW.run tblOk ?_ | refine IntG.nw (by omega) ?_ | refine IntG.nu8 (by omega) ?_ | refine IntG.nu32 (by omega) ?_ | refine IntG.nu64 (by omega) ?_ | refine IntG.wr' rfl ?_ | refine Chk.mk (by omega) ?_ | (refine BrG.id ?_; first | with_reducible refine BrG.t ?_ | with_reducible refine BrG.f ?_ | with_reducible refine BrG.notG ?_ | with_reducible refine BrG.nn ?_ | with_reducible refine BrG.ns ?_ | refine BrG.pos (by omega) ?_ | refine BrG.neg (by omega) ?_ | with_reducible refine BrG.pos rfl ?_ | refine BrG.pos (by assumption) ?_ | refine BrG.neg (by assumption) ?_ | refine BrG.pos (by decide) ?_ | refine BrG.neg (by decide) ?_) | refine Chk.mk (ptr_ok tblOk rfl rfl) ?_ | refine NilG.mk (fun _ => by kernel_rfl) ?_ | refine Chk.mk (by decide) ?_ | refine hS.ld rfl ?_ | refine hS.ldn rfl ?_ | (refine hS.st rfl rfl ?_; intro _ hS))
  refine Cl.mono (RLeft_spec (hS.part (L := [(rb, rdC s.t)])) ht) ?_
  rintro _ w1 ⟨rfl, hS'⟩
  have hS := hS.call0 hS'
  repeat (first | refine SemW.run tblOk ?_ | refine IntG.nw (by omega) ?_ | refine IntG.nu8 (by omega) ?_ | refine IntG.nu32 (by omega) ?_ | refine IntG.nu64 (by omega) ?_ | refine IntG.wr' rfl ?_ | refine Chk.mk (by omega) ?_ | (refine BrG.id ?_; first | with_reducible refine BrG.t ?_ | with_reducible refine BrG.f ?_ | with_reducible refine BrG.notG ?_ | with_reducible refine BrG.nn ?_ | with_reducible refine BrG.ns ?_ | refine BrG.pos (by omega) ?_ | refine BrG.neg (by omega) ?_ | with_reducible refine BrG.pos rfl ?_ | refine BrG.pos (by assumption) ?_ | refine BrG.neg (by assumption) ?_ | refine BrG.pos (by decide) ?_ | refine BrG.neg (by decide) ?_) | refine Chk.mk (ptr_ok tblOk rfl rfl) ?_ | refine NilG.mk (fun _ => by kernel_rfl) ?_ | refine Chk.mk (by decide) ?_ | refine hS.ld rfl ?_ | refine hS.ldn rfl ?_ | (refine hS.st rfl rfl ?_; intro _ hS))
  refine Cl.mono (rnum_spec (s := s) (most := s.t.length) (hS.part (L := rdH rr rb s)) ht (by omega)) ?_
  rintro _ w2 ⟨rfl, hS'⟩
  have hS := hS.call (L := rdH rr rb s) hS'
  have hwn : (wNum s.t.length s).1 ≤ s.t.length := by
    unfold wNum
    split
    · exact Nat.zero_le _
    · next h => exact Nat.le_of_not_lt (not_or.1 h).2
  repeat (first | refine SemW.run tblOk ?_ | refine IntG.nw (by omega) ?_ | refine IntG.nu8 (by omega) ?_ | refine IntG.nu32 (by omega) ?_ | refine IntG.nu64 (by omega) ?_ | refine IntG.wr' rfl ?_ | refine Chk.mk (by omega) ?_ | (refine BrG.id ?_; first | with_reducible refine BrG.t ?_ | with_reducible refine BrG.f ?_ | with_reducible refine BrG.notG ?_ | with_reducible refine BrG.nn ?_ | with_reducible refine BrG.ns ?_ | refine BrG.pos (by omega) ?_ | refine BrG.neg (by omega) ?_ | with_reducible refine BrG.pos rfl ?_ | refine BrG.pos (by assumption) ?_ | refine BrG.neg (by assumption) ?_ | refine BrG.pos (by decide) ?_ | refine BrG.neg (by decide) ?_) | refine Chk.mk (ptr_ok tblOk rfl rfl) ?_ | refine NilG.mk (fun _ => by kernel_rfl) ?_ | refine Chk.mk (by decide) ?_)
  exact ⟨rfl, hS⟩
end Go.Proofs.YthpmmfapolcaiaaDoor
